/-
  laws.FnWorldLets returns true for every slice of bytes and leaves it as it was; conditions: the listed tables lie as the program's text lays them.
-/
import Derived.Test.YthliifpcaahnnaaGreatDoorWlB
import Derived.Laws.MakeOwn
import Derived.MapKept
import Derived.Test.YthliifpcaahnnaaGreatDoorProg
import Derived.Shelf.Strings.OnBuilder
import Derived.Shelf.Strings.Search2
import Derived.Shelf.Strings.Search3
import Derived.Shelf.Strings.Count
import Derived.Shelf.Strings.SplitCore
import Derived.Shelf.Strings.IndexAnyAll
import Derived.Shelf.Slices.Turned
import Derived.Shelf.Slices.Clone
import Derived.Lib.Join
import Derived.Lib.IndexAny
import Derived.Lib.SplitLaws
import Derived.WalkKit
import Derived.Laws.RangeString
import Derived.Deep.LoopGhost
set_option linter.unusedVariables false
set_option linter.unusedSimpArgs false
set_option linter.unnecessarySimpa false
set_option linter.unusedSectionVars false
namespace Go.Abs
open Go Go.RowKit
abbrev I64 (x:Int):Prop:= -9223372036854775808≤x∧x≤9223372036854775807
abbrev U8r (x:Int):Prop:=0≤x∧x≤255
abbrev Ix {α:Type} (i:Int) (s:List α):Prop:=0≤i∧i < s.length
abbrev Sx {α:Type} (lo hi:Int) (s:List α):Prop:=0≤lo∧lo≤hi∧hi≤s.length
abbrev Ex (i:Int) (xs:List V) (v:V):Prop:=0≤i∧xs[Int.toNat i]? =some v
abbrev ltB (a b:Int):Bool:=decide (a < b)
abbrev leB (a b:Int):Bool:=decide (a≤b)
abbrev gtB (a b:Int):Bool:=decide (a > b)
abbrev geB (a b:Int):Bool:=decide (a≥b)
abbrev eqB (a b:Int):Bool:=a==b
abbrev neB (a b:Int):Bool:=a != b
abbrev Br (b:Bool) (p q:Prop):Prop:=(b=true→p)∧(b=false→q)
abbrev Gd (b:Bool) (p:Prop):Prop:=b=true→p
abbrev Q (x y:V):Prop:=x=y
abbrev E (x:V):Prop:=x=x
abbrev Qr (g:Nat) (x:V) (g':Nat) (y:V):Prop:=(g,x)=(g',y)
abbrev Er (g:Nat) (x:V):Prop:=(g,x)=(g,x)
abbrev Z (g o:Nat):Prop:=(g,o)=(g,o)
abbrev In (i:Int) (n:Nat):Prop:=0≤i∧i < n
abbrev Pk (c a b:Bool):Prop:=(c=true→a=true)∧(c=false→b=true)
theorem nb:(∀ (p:Prop) [Decidable p],(decide p=true)=p)∧(∀ (p:Prop) [Decidable p],(decide p=false)= ¬ p)∧(∀ a b:Int,(¬ a < b)=(b≤a))∧(∀ a b:Int,(¬ a≤b)=(b < a))∧(∀ a b:Int,(a > b)=(b < a))∧(∀ a b:Int,(a≥b)=(b≤a))∧
    (∀ (α:Type) [BEq α] [LawfulBEq α] (a b:α),((a==b)=true)=(a=b))∧(∀ (α:Type) [BEq α] [LawfulBEq α] (a b:α),((a==b)=false)= ¬ a=b)∧
    (∀ (α:Type) [BEq α] [LawfulBEq α] (a b:α),((a != b)=true)= ¬ a=b)∧(∀ (α:Type) [BEq α] [LawfulBEq α] (a b:α),((a != b)=false)=(a=b))∧
    (∀ a b:Bool,((a||b)=true)=(a=true∨b=true))∧(∀ a b:Bool,((a||b)=false)=(a=false∧b=false))∧(∀ a b:Bool,((a&&b)=true)=(a=true∧b=true))∧(∀ a b:Bool,((a&&b)=false)=(a=true→b=false))∧
    (∀ a:Bool,((!a)=true)=(a=false))∧(∀ a:Bool,((!a)=false)=(a=true))∧(∀ a:Bool,(¬ a=true)=(a=false))∧(∀ a:Bool,(¬ a=false)=(a=true))∧(∀ p:Prop,(¬ ¬ p)=p)∧
    (∀ a:Bool,(a==true)=a)∧(∀ a:Bool,(a==false)=!a)∧(∀ a:Bool,(true&&a)=a)∧(∀ a:Bool,(a&&true)=a)∧((!true)=false)∧((!false)=true)∧(∀ a:Bool,(!!a)=a):=by
  refine ⟨fun p _=>by simp,fun p _=>by simp,fun a b=>by simp,fun a b=>by simp,fun a b=>rfl,fun a b=>rfl,fun α _ _ a b=>by simp,fun α _ _ a b=>by simp,fun α _ _ a b=>by simp,fun α _ _ a b=>by simp,fun a b=>by simp,fun a b=>by simp,fun a b=>by simp,fun a b=>by cases a <;> simp,
    fun a=>by simp,fun a=>by simp,fun a=>by simp,fun a=>by simp,fun p=>by simp,fun a=>by simp,fun a=>by simp,fun a=>by simp,fun a=>by simp,rfl,rfl,fun a=>by simp⟩
end Go.Abs
namespace Go.Abs
open Go Go.RowKit
section
variable {w w':World} {Pb Kb Pb':Nat→Prop} {N:Nat} {A A' A1 B:AS} {a:Act} {F:Root→List Nat}
end
end Go.Abs
namespace Go.Abs
open Go Go.RowKit
mutual
def V.lits:V→Option (List Value)
  | .lit x=>if x.oneCell' then some [x] else none
  | .agg vs=>V.litsL vs
  | _=>none
def V.litsL:List V→Option (List Value)
  | []=>some []
  | v :: vs=>match v.lits,V.litsL vs with
    | some a,some b=>some (a++b)
    | _,_=>none
end
def V.val? :V→Option Value
  | .lit x=>if x.oneCell' then some x else none
  | .agg us=>(V.litsL us).map fun l=>.agg l.toArray
  | .ptr _ _ g o=>some (.pointer (some ⟨g,o,none⟩))
  | _=>none
section
variable {w w':World} {Pb Kb Pb':Nat→Prop} {N:Nat} {A A' B:AS} {a:Act} {F:Root→List Nat} {P:Program} {ops:Array Oper}
mutual
theorem R_lits:∀ (v:V) {l},v.lits=some l→∀ {cs F},R w Pb v cs F↔cs=l∧F=[]
  | .lit x,l,h,cs,F=>by
    simp only [V.lits] at h
    split at h
    · rename_i hx; simp at h; subst h; simp only [R]; exact ⟨fun h=>h.2,fun h=>⟨hx,h⟩⟩
    · simp at h
  | .agg vs,l,h,cs,F=>by simp only [V.lits] at h; simp only [R]; exact RL_lits vs h
  | .sl ..,_,h,_,_=>by simp [V.lits] at h
  | .tup _,_,h,_,_=>by simp [V.lits] at h
  | .gv _ _,_,h,_,_=>by simp [V.lits] at h
  | .own ..,_,h,_,_=>by simp [V.lits] at h
  | .hd ..,_,h,_,_=>by simp [V.lits] at h
  | .ow ..,_,h,_,_=>by simp [V.lits] at h
  | .om ..,_,h,_,_=>by simp [V.lits] at h
  | .mp ..,_,h,_,_=>by simp [V.lits] at h
  | .ptr ..,_,h,_,_=>by simp [V.lits] at h
  | .ep _,_,h,_,_=>by simp [V.lits] at h
  | .dead,_,h,_,_=>by simp [V.lits] at h
theorem RL_lits:∀ (vs:List V) {l},V.litsL vs=some l→∀ {cs F},RL w Pb vs cs F↔cs=l∧F=[]
  | [],l,h,cs,F=>by simp [V.litsL] at h; subst h; simp [RL]
  | v :: vs,l,h,cs,F=>by
    simp only [V.litsL] at h
    split at h
    · rename_i a b h1 h2
      simp at h; subst h
      simp only [RL,R_lits v h1,RL_lits vs h2]
      exact ⟨fun ⟨_,_,_,_,e1,e2,⟨e3,e4⟩,e5,e6⟩=>⟨by rw [e1,e3,e5],by rw [e2,e4,e6]; rfl⟩,fun ⟨e1,e2⟩=>⟨_,_,_,_,e1,(by rw [e2]; rfl:_=([]:List Nat)++[]),⟨rfl,rfl⟩,rfl,rfl⟩⟩
    · simp at h
end
theorem val_RV {v:V} {x y:Value} {Fx:List Nat} (h:v.val? =some y) (hr:RV w Pb v x Fx):x=y∧Fx=[]:=by
  cases v with
  | lit z=>
    simp only [V.val?] at h
    split at h
    · obtain ⟨_,e,hF⟩:=(hr:R w Pb (.lit z) [x] Fx); simp at e h; exact ⟨by rw [e,h],hF⟩
    · simp at h
  | agg us=>
    simp only [V.val?,Option.map_eq_some_iff] at h
    obtain ⟨l,h1,rfl⟩:=h
    obtain ⟨cs,rfl,hr⟩:=(hr:∃ cs,x=.agg cs∧RL w Pb us cs.toList Fx)
    obtain ⟨e1,e2⟩:=(RL_lits us h1).1 hr
    exact ⟨by rw [← e1],e2⟩
  | ptr r p g o=>
    simp only [V.val?,Option.some.injEq] at h; subst h
    obtain ⟨hF,e⟩:=(hr:R w Pb (.ptr r p g o) [x] Fx); simp at e; exact ⟨e,hF⟩
  | _=>simp [V.val?] at h
theorem RV_val {v:V} {y:Value} (h:v.val? =some y):RV w Pb v y []:=by
  cases v with
  | lit z=>
    simp only [V.val?] at h
    split at h
    · rename_i hz; simp at h; subst h; exact ⟨hz,rfl,rfl⟩
    · simp at h
  | agg us=>
    simp only [V.val?,Option.map_eq_some_iff] at h
    obtain ⟨l,h1,rfl⟩:=h
    exact ⟨_,rfl,(RL_lits us h1).2 ⟨rfl,rfl⟩⟩
  | ptr r p g o=>
    simp only [V.val?,Option.some.injEq] at h; subst h
    exact ⟨rfl,rfl⟩
  | _=>simp [V.val?] at h
theorem ev_val (hs:SIM N Pb Kb A a w F) {x:Operand} {y:Value} (h:(A.ev x).val? =some y):a.eval x=y:=by
  obtain ⟨_,hr⟩:=ev_RV hs x
  exact (val_RV h hr).1
theorem RVs_val {v:V} {y:Value} {vs:List V} {xs:List Value} (h:v.val? =some y) (hr:RVs w Pb vs xs []):RVs w Pb (v :: vs) (y :: xs) []:=by
  have:=RV_val (w:=w) (Pb:=Pb) h
  refine ⟨y,xs,[],[],rfl,rfl,?_,hr⟩
  cases v with
  | agg us=>exact this
  | lit _=>exact this
  | ptr _ _ _ _=>exact this
  | _=>simp [V.val?] at h
theorem RV_pair {v1 v2:V} {y1 y2:Value} (h1:v1.val? =some y1) (h2:v2.val? =some y2):RV w Pb (.tup [v1,v2]) (.tuple #[y1,y2]) []:=
  ⟨_,rfl,RVs_val h1 (RVs_val h2 ⟨rfl,rfl⟩)⟩
theorem SIM.mod (hs:SIM N Pb Kb A a w F) {t g:Nat} {v':V} (hg:g∈F (.slot t)) (hk:∀ k,k≠g→w'.heap[k]? =w.heap[k]?) (hsz:w'.heap.size=w.heap.size)
    (hv:RV w' Pb v' (a.tmps.getD t undef) (F (.slot t))):SIM N Pb Kb (A.put (some t) v') a w' F where
  size:=hs.size
  defers:=hs.defers
  slot:=fun i=>by
    rw [AS.get_put]
    split
    · rename_i e; subst e; exact hv
    · rename_i e
      refine RV_keep _ (hs.slot i) (fun x hx=>hk x fun c=>?_) (fun x hx=>hk x fun c=>?_) (fun _ h=>h) (fun x hx c=>(hs.free _ x hx).1 (hs.sub x c))
      · subst c; exact (hs.free _ _ hg).1 (hs.sub _ hx)
      · subst c; exact hs.disj (.slot i) (.slot t) (fun c=>e (by injection c)) _ hx hg
  root:=fun k g' v h=>by
    obtain ⟨F',e,hA⟩:=hs.root k g' v h
    refine ⟨F',e,?_⟩
    have hne:∀ x,x∈g' :: F'→x≠g:=fun x hx c=>by
      subst c; exact hs.disj (.key k) (.slot t) (by simp) _ (by rw [e]; exact hx) hg
    obtain ⟨cs,cells,⟨e1,fr,hb,hfr⟩,hr,hc⟩:=hA
    exact ⟨cs,cells,⟨e1,fr,(hk g' (hne g' (by simp))).trans hb,hfr⟩,R_keep _ hr (fun x hx=>hk x fun c=>by subst c; exact (hs.free _ _ hg).1 (hs.sub _ hx)) (fun x hx=>hk x (hne x (by simp [hx]))) (fun _ h=>h)
      (fun x hx c=>(hs.free (.key k) x (by rw [e]; simp [hx])).1 (hs.sub x c)),hc⟩
  disj:=hs.disj
  nodup:=hs.nodup
  free:=fun r x hx=>by rw [hsz]; exact hs.free r x hx
  sub:=hs.sub
  bound:=fun x hx=>by rw [hsz]; exact hs.bound x hx
theorem opT_val {o:Oper} {K:AS→Prop} {d:Nat} {v:V} (hd:o.dst=some d) (hN:d < N) (hK:K (A.put (some d) v))
    (h:∀ Pb Kb a w F,SIM N Pb Kb A a w F→∃ x,(execOp a.eval o).run P w=.ok (.value x) w∧RV w Pb v x []):opT P N o A K:=
  opT_value (by rw [hd]; exact hN) (by rw [hd]; exact hK) h
end
section
variable {P:Program}
def miC :Cu P where
  X:=Unit
  pre N o A:=match o.op,o.dst with
    | .makeInterface T x,some d=>match Nat.blt d N,tD P T,(A.ev x).val? with
      | true,some _,some y=>(∃ td,P.underlying T=some td∧(∀ i,td≠.interface i))∧(Value.iface T y).oneCell'=true
      | _,_,_=>False
    | _,_=>False
  post _ o A:=match o.op,o.dst with
    | .makeInterface T x,some d=>match (A.ev x).val? with
      | some y=>A.put (some d) (.lit (.iface T y))
      | none=>A
    | _,_=>A
  ok := by
    rintro N ⟨dst,op,ty,pos,after,gd0⟩ A K - hp hK
    replace hK:=hK ()
    simp only at hp hK
    split at hp
    · rename_i T x d
      split at hp
      · rename_i td0 y e1 e2 e3
        obtain ⟨⟨td,h1,h2⟩,h3⟩:=hp
        simp only [e3] at hK
        refine opT_val rfl (blt_of e1) hK fun Pb Kb a w F hs=>⟨.iface T y,?_,RV_lit h3⟩
        have hy:=ev_val hs e3
        have hu:=underlying_run (w:=w) h1
        cases td with
        | interface i=>exact absurd rfl (h2 i)
        | _=>simp [execOp,Instr.makeInterface,Sem.run_bind,hu,hy]
      · exact hp.elim
    · exact hp.elim
def taC (v:V):Cu P where
  X:=Unit
  pre N o A:=match o.op,o.dst with
    | .typeAssert x _ T true,some d=>match Nat.blt d N,A.ev x,v.val? with
      | true,.lit (.iface T' y),some y'=>(∃ td,P.underlying T=some td∧(∀ i,td≠.interface i))∧T'=T∧y'=y
      | _,_,_=>False
    | _,_=>False
  post _ o A:=match o.dst with
    | some d=>A.put (some d) (.tup [v,bV true])
    | none=>A
  ok := by
    rintro N ⟨dst,op,ty,pos,after,gd0⟩ A K - hp hK
    replace hK:=hK ()
    simp only at hp hK
    split at hp
    · rename_i x T1 T d
      split at hp
      · rename_i T' y y' e1 e2 e3
        obtain ⟨⟨td,h1,h2⟩,rfl,rfl⟩:=hp
        refine opT_val rfl (blt_of e1) hK fun Pb Kb a w F hs=>⟨.tuple #[y',.bool true],?_,RV_pair e3 rfl⟩
        have hy:=ev_lit hs e2
        have hu:=underlying_run (w:=w) h1
        cases td with
        | interface i=>exact absurd rfl (h2 i)
        | _=>simp [execOp,Instr.typeAssert,Sem.run_bind,hu,hy]
      · exact hp.elim
    · exact hp.elim
def tfC (z:ZT P):Cu P where
  X:=Unit
  pre N o A:=match o.op,o.dst with
    | .typeAssert x _ T true,some d=>match Nat.blt d N,A.ev x,T==z.T with
      | true,.lit (.iface T' y),true=>(∃ td,P.underlying T=some td∧(∀ i,td≠.interface i))∧T'≠T∧(∃ y,z.v.val? =some y∧∀ w,(zeroValue T).run P w=.ok y w)
      | _,_,_=>False
    | _,_=>False
  post _ o A:=match o.dst with
    | some d=>A.put (some d) (.tup [z.v,bV false])
    | none=>A
  ok := by
    rintro N ⟨dst,op,ty,pos,after,gd0⟩ A K - hp hK
    replace hK:=hK ()
    simp only at hp hK
    split at hp
    · rename_i x T1 T d
      split at hp
      · rename_i T' y e1 e2 e3
        obtain ⟨⟨td,h1,h2⟩,hne,y2,hz,hzr⟩:=hp
        refine opT_val rfl (blt_of e1) hK fun Pb Kb a w F hs=>⟨.tuple #[y2,.bool false],?_,RV_pair hz rfl⟩
        have hy:=ev_lit hs e2
        have hu:=underlying_run (w:=w) h1
        cases td with
        | interface i=>exact absurd rfl (h2 i)
        | _=>simp [execOp,Instr.typeAssert,Sem.run_bind,hu,hy,hne,hzr]
      · exact hp.elim
    · exact hp.elim
def vals? :List V→Option (List Value)
  | []=>some []
  | v :: vs=>match v.val?,vals? vs with
    | some y,some ys=>some (y :: ys)
    | _,_=>none
theorem vals_sound {N:Nat} {Pb Kb:Nat→Prop} {A:AS} {a:Act} {w:World} {F:Root→List Nat} (hs:SIM N Pb Kb A a w F):∀ (xs:List Operand) {ys:List Value},vals? (xs.map A.ev)=some ys→xs.map a.eval=ys
  | [],ys,h=>by simp [vals?] at h; simp [h]
  | x :: xs,ys,h=>by
    simp only [List.map_cons,vals?] at h
    split at h
    · rename_i y ys' h1 h2
      simp at h; subst h
      rw [List.map_cons,ev_val hs h1,vals_sound hs xs h2]
    · simp at h
def mfC :Cu P where
  X:=Unit
  pre N o A:=match o.op,o.dst with
    | .makeFunc fn first caps,some d=>match Nat.blt d N,vals? (first.toList.map A.ev),vals? (caps.toList.map A.ev) with
      | true,some l1,some l2=>(Value.func fn l1.toArray l2.toArray).oneCell'=true
      | _,_,_=>False
    | _,_=>False
  post _ o A:=match o.op,o.dst with
    | .makeFunc fn first caps,some d=>match vals? (first.toList.map A.ev),vals? (caps.toList.map A.ev) with
      | some l1,some l2=>A.put (some d) (.lit (.func fn l1.toArray l2.toArray))
      | _,_=>A
    | _,_=>A
  ok := by
    rintro N ⟨dst,op,ty,pos,after,gd0⟩ A K - hp hK
    replace hK:=hK ()
    simp only at hp hK
    split at hp
    · rename_i fn first caps d
      split at hp
      · rename_i l1 l2 e1 e2 e3
        simp only [e2,e3] at hK
        refine opT_val rfl (blt_of e1) hK fun Pb Kb a w F hs=>⟨.func fn l1.toArray l2.toArray,?_,RV_lit hp⟩
        have h1:=vals_sound hs _ e2
        have h2:=vals_sound hs _ e3
        have h1:first.map a.eval=l1.toArray:=by rw [← h1]; apply Array.ext'; simp
        have h2:caps.map a.eval=l2.toArray:=by rw [← h2]; apply Array.ext'; simp
        simp only [execOp,Instr.makeFunc,Sem.run_bind,Result.andThen_ok,Sem.run_pure,h1,h2]
      · exact hp.elim
    · exact hp.elim
end
end Go.Abs
namespace Go.Abs
open Go Go.RowKit
section
variable {w w':World} {Pb Kb Pb':Nat→Prop} {N:Nat} {A A' B:AS} {a:Act} {F:Root→List Nat} {P:Program} {ops:Array Oper}
theorem RL_rep {v:V} {x:Value} (h:v.lits=some [x]):∀ n,RL w Pb (List.replicate n v) (List.replicate n x) []
  | 0=>⟨rfl,rfl⟩
  | n+1=>⟨[x],List.replicate n x,[],[],rfl,rfl,(R_lits v h).2 ⟨rfl,rfl⟩,RL_rep h n⟩
theorem made1 {x:Value} {n:Nat} {zc:Array Value} (h:zc.toList=[x]):madeCells zc (n * 1)=(List.replicate n x).toArray:=by
  have hz:zc= #[x]:=by rw [← Array.toList_inj]; simpa using h
  subst hz
  apply Array.ext
  · simp [madeCells]
  · intro i h1 h2; simp [madeCells,Nat.mod_one] at h1 ⊢
def msC (z:ZT P) (n:Nat):Cu P where
  X:=Nat
  pre N o A:=match o.op,o.dst with
    | .makeSlice T l c,some d=>match Nat.blt d N,tD P T,ti P z.T with
      | true,some (.sl e),some i=>(e=z.T∧i.sz=1∧(∃ x,z.v.lits=some [x])∧z.v.n=1)∧A.ev l=.lit (.int .i64 n)∧A.ev c=.lit (.int .i64 n)∧1≤n∧n * i.by_≤140737488355328∧n≤9223372036854775807
      | _,_,_=>False
    | _,_=>False
  post g o A:=match o.dst with
    | some d=>A.put (some d) (.own 1 (List.replicate n z.v) g 0 n)
    | none=>A
  ok := by
    rintro N ⟨dst,op,ty,pos,after,gd0⟩ A K - hp hK
    simp only at hp hK
    split at hp
    · rename_i T l c d
      split at hp
      · rename_i e i e1 e2 e3
        obtain ⟨⟨rfl,hsz,⟨x,hx⟩,hzn⟩,hl,hc,h1,hby,h63⟩:=hp
        obtain ⟨inf,z0,hinf,hzero,hfl⟩:=z.ok
        obtain ⟨inf',_,hinf',_,hsz',hby',_⟩:=ti_some e3
        rw [hinf] at hinf'
        obtain rfl:=Option.some.inj hinf'
        have hu:=sl_of e2
        intro Pb Kb a w F Q hs
        have hl:=ev_lit hs hl
        have hc:=ev_lit hs hc
        have hz0:z0.cells.toList=[x]:=by
          have h1:=R_flat (w:=w) (Pb:=Pb) z.v hfl
          exact ((R_lits z.v hx).1 h1).1
        have hm:=run_make (P:=P) w T z.T inf z0 hu hinf hzero .i64 .i64 n n (by omega) (by omega) (by rw [hby',← Int.natCast_mul,Nat.mul_comm]; omega) (by omega)
        rw [Int.toNat_natCast,hsz',hsz,made1 hz0] at hm
        have hx':(execOp a.eval ⟨some d,.makeSlice T l c,ty,pos,after,gd0⟩).run P w=.ok (.value (.slice (some ⟨w.heap.size,0,none⟩) n n)) (w.alloc (.cells (List.replicate n x).toArray z.T)):=by
          simp only [execOp,Sem.run_bind,hl,hc,hm,Result.andThen_ok,Sem.run_pure]
        unfold Oper.wp
        rw [hx',Oper.upon_value]
        have hs1:=hs.grow0 (.cells (List.replicate n x).toArray z.T)
        have hKn: ¬ Kb w.heap.size:=fun h=>by have:=hs.bound _ h; omega
        have hR:R (w.alloc (.cells (List.replicate n x).toArray z.T)) Pb (.own 1 (List.replicate n z.v) w.heap.size 0 n) [.slice (some ⟨w.heap.size,0,none⟩) n n] [w.heap.size]:=
          .inr ⟨h1,Nat.one_pos,by simp,by simp,fun v hv'=>by rw [List.eq_of_mem_replicate hv']; exact hzn,fun c=>hKn (hs.sub _ c),_,[],_,rfl,RL_rep hx n,⟨z.T,(0,0),alloc_new w _,fun i _ h=>by omega⟩,by simp,fun j u hu=>by rw [Nat.zero_add,List.getElem?_toArray]; exact hu⟩
        exact ⟨_,Pb,Kb,_,hK _,hs1.put (blt_of e1) hR (fun r _ g hg=>by
            obtain rfl:=List.mem_singleton.1 hg
            intro c; have:=(hs.free r _ c).2; omega) (by simp) (fun g hg=>by
            obtain rfl:=List.mem_singleton.1 hg
            exact ⟨hKn,by rw [alloc_size]; omega⟩),fun _ h=>h,fun _ h=>h,fun _ h=>.inl h,Keep.alloc hs.bound _⟩
      · exact hp.elim
    · exact hp.elim
def lookL:List (List UInt8×Value)→List UInt8→Option Value
  | [],_=>none
  | p :: r,k=>if p.1=k then some p.2 else lookL r k
def updL:List (List UInt8×Value)→List UInt8→Value→List (List UInt8×Value)
  | [],k,x=>[(k,x)]
  | p :: r,k,x=>if p.1=k then (k,x) :: r else p :: updL r k x
theorem str_inj {a b:List UInt8}:((⟨a.toArray⟩:ByteArray)== ⟨b.toArray⟩)=decide (a=b):=by
  rw [Bool.eq_iff_iff,MapKept.bytes_beq]
  simp
theorem findNow_look (k:List UInt8):∀ (es:List (List UInt8×Value)) (l:List MapEntry) (i:Nat),l.map (fun e=>(e.key,e.val))=es.map (fun p=>(Value.string ⟨p.1.toArray⟩,p.2))→
    (lookL es k=none→Instr.findNow .string (.string ⟨k.toArray⟩) l i=some none)∧
    (∀ x,lookL es k=some x→∃ j,Instr.findNow .string (.string ⟨k.toArray⟩) l i=some (some (i+j,x))∧j < l.length∧(∃ e,l[j]? =some e∧e.key=.string ⟨k.toArray⟩)∧
      ∀ y,(l.modify j fun e=>{ e with key:=.string ⟨k.toArray⟩,val:=y }).map (fun e=>(e.key,e.val))=(updL es k y).map (fun p=>(Value.string ⟨p.1.toArray⟩,p.2)))
  | [],l,i,h=>by
    have:l=[]:=by simpa using h
    subst this
    simp [lookL,Instr.findNow]
  | p :: r,l,i,h=>by
    cases l with
    | nil=>simp at h
    | cons e l=>
      simp only [List.map_cons,List.cons.injEq,Prod.mk.injEq] at h
      obtain ⟨⟨h1,h2⟩,h3⟩:=h
      obtain ⟨i1,i2⟩:=findNow_look k r l (i+1) h3
      simp only [lookL,updL,Instr.findNow,h1,Instr.sameNow,str_inj]
      by_cases hk:p.1=k
      · subst hk
        simp only [if_true,decide_true]
        refine ⟨by simp,fun x hx=>⟨0,?_,by simp,⟨e,rfl,h1⟩,fun y=>?_⟩⟩
        · simp at hx; rw [h2,hx]; rfl
        · simp [h3]
      · have hk': ¬ k=p.1:=fun c=>hk c.symm
        simp only [if_neg hk,decide_eq_false hk']
        refine ⟨i1,fun x hx=>?_⟩
        obtain ⟨j,j1,j2,⟨e',j3,j4⟩,j5⟩:=i2 x hx
        refine ⟨j+1,by rw [j1]; congr 2; simp; omega,by simp; omega,⟨e',by simpa using j3,j4⟩,fun y=>?_⟩
        have:=j5 y
        simp only [List.modify_succ_cons,List.map_cons,this,h1,h2]
theorem upd_none (k:List UInt8) (y:Value):∀ (es:List (List UInt8×Value)),lookL es k=none→updL es k y=es++[(k,y)]
  | [],_=>rfl
  | p :: r,h=>by
    simp only [lookL] at h
    split at h
    · simp at h
    · rename_i hk; simp only [updL,if_neg hk,upd_none k y r h,List.cons_append]
theorem checkKey_str {e:Bool} {n:Nat} {T:Nat} {k:ByteArray} (h:P.underlying T=some .string):(Instr.checkKey e (n+1) T (.string k)).run P w=.ok () w:=by
  unfold Instr.checkKey
  simp [Sem.run_bind,underlying_run (w:=w) h]
theorem sameBits_str {k:ByteArray} {n:Nat}:Instr.sameBits n (.string k) (.string k)=true:=by
  unfold Instr.sameBits
  exact (MapKept.bytes_beq k k).2 rfl
def mmC : Cu P where
  X:=Nat
  pre N o A:=match o.op,o.dst with
    | .makeMap _ none,some d=>match Nat.blt d N with
      | true=>True
      | false=>False
    | _,_=>False
  post g o A:=match o.dst with
    | some d=>A.put (some d) (.om [] g)
    | none=>A
  ok := by
    rintro N ⟨dst,op,ty,pos,after,gd0⟩ A K - hp hK
    simp only at hp hK
    split at hp
    · rename_i T d
      split at hp
      · rename_i e1
        intro Pb Kb a w F Q hs
        have hx':(execOp a.eval ⟨some d,.makeMap T none,ty,pos,after,gd0⟩).run P w=.ok (.value (.map (some w.heap.size))) (w.alloc (.map #[] 0)):=rfl
        unfold Oper.wp
        rw [hx',Oper.upon_value]
        have hs1:=hs.grow0 (.map #[] 0)
        have hKn: ¬ Kb w.heap.size:=fun h=>by have:=hs.bound _ h; omega
        have hR:R (w.alloc (.map #[] 0)) Pb (.om [] w.heap.size) [.map (some w.heap.size)] [w.heap.size]:=
          ⟨rfl,rfl,fun c=>hKn (hs.sub _ c),#[],0,alloc_new w _,rfl,by simp,by simp⟩
        exact ⟨_,Pb,Kb,_,hK _,hs1.put (blt_of e1) hR (fun r _ g hg=>by
            obtain rfl:=List.mem_singleton.1 hg
            intro c; have:=(hs.free r _ c).2; omega) (by simp) (fun g hg=>by
            obtain rfl:=List.mem_singleton.1 hg
            exact ⟨hKn,by rw [alloc_size]; omega⟩),fun _ h=>h,fun _ h=>h,fun _ h=>.inl h,Keep.alloc hs.bound _⟩
      · exact hp.elim
    · exact hp.elim
def muC (t0 : Nat) (es:List (List UInt8×Value)) (k:List UInt8) (y:Value):Cu P where
  X:=Unit
  pre N o A:=match o.op,o.dst with
    | .mapUpdate T m kx x,none=>match tD P T,Nat.blt t0 N with
      | some (.map kt _),true=>match tD P kt,A.ev m,A.get t0 with
        | some .str,.lit (.map (some g)),.om es' g'=>(g'=g∧es'=es)∧A.ev kx=sV k∧(A.ev x).val? =some y
        | _,_,_=>False
      | _,_=>False
    | _,_=>False
  post _ o A:=match A.get t0 with
    | .om _ g=>A.put (some t0) (.om (updL es k y) g)
    | _=>A
  ok := by
    rintro N ⟨dst,op,ty,pos,after,gd0⟩ A K - hp hK
    replace hK:=hK ()
    simp only at hp hK
    split at hp
    · rename_i T m kx x
      split at hp
      · rename_i kt et e1 e2
        split at hp
        · rename_i g es' g' e3 e4 e5
          obtain ⟨⟨rfl,rfl⟩,hk,hy⟩:=hp
          rw [e5] at hK
          intro Pb Kb a w F Q hs
          have hm:=ev_lit hs e4
          have hk:=ev_lit hs hk
          have hy:=ev_val hs hy
          have h0:=hs.slot t0
          rw [e5] at h0
          have h0:R w Pb (.om es' g') [a.tmps.getD t0 undef] (F (.slot t0)):=h0
          obtain ⟨hF,hc,hnP,en,cl,hb,hen,hnd,hcl⟩:=h0
          obtain ⟨td,hu,hd⟩:=tD_some e1
          have hu:P.underlying T=some (.map kt et):=by
            cases td <;> simp_all [descD]
          obtain ⟨td2,hu2,hd2⟩:=tD_some e3
          have hu2:P.underlying kt=some .string:=by
            cases td2 <;> simp_all [descD]
          have hck:∀ w:World,(Instr.checkKey false 10000 kt (.string (Str k))).run P w=.ok () w:=fun w=>checkKey_str hu2
          obtain ⟨f1,f2⟩:=findNow_look k es' en.toList 0 hen
          have hw :∃ en' cl',(Instr.mapUpdate T (.map (some g')) (.string (Str k)) y).run P w=.ok () { w with heap:=w.heap.setIfInBounds g' (.map en' cl') }∧
              en'.toList.map (fun e=>(e.key,e.val))=(updL es' k y).map (fun p=>(.string ⟨p.1.toArray⟩,p.2))∧(en'.toList.map (·.born)).Nodup∧∀ e∈en'.toList,e.born < cl':=by
            cases hlk:lookL es' k with
            | none=>
              have:=f1 hlk
              refine ⟨en.push { key:=.string (Str k),val:=y,born:=cl },cl+1,?_,?_,?_,?_⟩
              · rw [show (⟨k.toArray⟩:ByteArray)=Str k from rfl] at this
                simp [Instr.mapUpdate,run_underlying hu,MapKept.run_getObj_map hb,hck,MapKept.run_findKey hu2 this,MapKept.run_setObj_map _ hb,Result.andThen]
              · rw [upd_none k y es' hlk]; simp [hen,Str]
              · simp only [Array.toList_push,List.map_append,List.map_cons,List.map_nil]
                rw [List.nodup_append]
                refine ⟨hnd,by simp,fun a ha b hb=>?_⟩
                simp only [List.mem_singleton] at hb
                obtain ⟨e,he,rfl⟩:=List.mem_map.1 ha
                have:=hcl e he; omega
              · intro e he
                simp only [Array.toList_push,List.mem_append,List.mem_singleton] at he
                rcases he with he | rfl
                · have:=hcl e he; omega
                · simp
            | some x0=>
              obtain ⟨j,j1,j2,⟨e,j3,j4⟩,j5⟩:=f2 x0 hlk
              rw [Nat.zero_add] at j1
              refine ⟨en.modify j fun e=>{ e with key:=.string (Str k),val:=y },cl,?_,?_,?_,?_⟩
              · rw [show (⟨k.toArray⟩:ByteArray)=Str k from rfl] at j1
                have hkey:((en[j]?).map (·.key)).getD (.string (Str k))=.string (Str k):=by
                  have:en[j]? =some e:=by rw [← Array.getElem?_toList]; exact j3
                  rw [this]; exact j4
                simp [Instr.mapUpdate,run_underlying hu,MapKept.run_getObj_map hb,hck,MapKept.run_findKey hu2 j1,hkey,Instr.keyThatStays,sameBits_str,MapKept.run_setObj_map _ hb,Result.andThen]
              · rw [Array.toList_modify]; exact j5 y
              · rw [Array.toList_modify]
                have:(en.toList.modify j fun e=>{ e with key:=.string (Str k),val:=y }).map (·.born)=en.toList.map (·.born):=by
                  apply List.ext_getElem?
                  intro i
                  simp only [List.getElem?_map,List.getElem?_modify]
                  cases en.toList[i]? with
                  | none=>rfl
                  | some e=>simp only [Option.map_eq_map,Option.map_some]; split <;> rfl
                rw [this]; exact hnd
              · intro e he
                rw [Array.toList_modify] at he
                obtain ⟨i,hi⟩:=List.mem_iff_getElem?.1 he
                rw [List.getElem?_modify] at hi
                obtain ⟨e',h1,h2⟩:=Option.map_eq_some_iff.1 hi
                have:=hcl e' (List.mem_of_getElem? h1)
                rw [← h2]; split <;> simpa using this
          obtain ⟨en',cl',hrun,q1,q2,q3⟩:=hw
          have hgs:g' < w.heap.size:=(hs.free (.slot t0) g' (by rw [hF]; simp)).2
          have hx':(execOp a.eval ⟨none,.mapUpdate T m kx x,ty,pos,after,gd0⟩).run P w=.ok .skip { w with heap:=w.heap.setIfInBounds g' (.map en' cl') }:=by
            simp [execOp,hm,hk,hy,hrun,Result.andThen]
          unfold Oper.wp
          rw [hx',Oper.upon_skip]
          have hne:∀ k,k≠g'→(w.heap.setIfInBounds g' (.map en' cl'))[k]? =w.heap[k]? :=fun k hk=>by
            rw [Array.getElem?_setIfInBounds_ne (Ne.symm hk)]
          refine ⟨_,Pb,Kb,F,hK,hs.mod (w':={ w with heap:=w.heap.setIfInBounds g' (.map en' cl') }) (t:=t0) (g:=g') (by rw [hF]; simp) hne (by simp) ?_,fun _ h=>h,fun _ h=>h,fun _ h=>.inl h,⟨rfl,rfl,rfl,by simp,fun k hk=>hne k fun c=>(hs.free (.slot t0) g' (by rw [hF]; simp)).1 (c ▸ hk)⟩⟩
          exact (⟨hF,hc,hnP,en',cl',(by simp [hgs]:(w.heap.setIfInBounds g' (.map en' cl'))[g']? =some (.map en' cl')),q1,q2,q3⟩:R { w with heap:=w.heap.setIfInBounds g' (.map en' cl') } Pb (.om (updL es' k y) g') _ _)
        · exact hp.elim
      · exact hp.elim
    · exact hp.elim
def lkC (es :List (List UInt8×Value)) (k:List UInt8) (v:V) (ok:Bool):Cu P where
  X:=Unit
  pre N o A:=match o.op,o.dst with
    | .lookup T x kx true,some d=>match tD P T,Nat.blt d N with
      | some (.map kt et),true=>match tD P kt,A.ev x with
        | some .str,.mp es'=>(es'=es)∧A.ev kx=sV k∧((ok=true∧∃ y,lookL es k=some y∧v.val? =some y)∨(ok=false∧lookL es k=none∧∃ y,v.val? =some y∧∀ w,(zeroValue et).run P w=.ok y w))
        | _,_=>False
      | _,_=>False
    | _,_=>False
  post _ o A:=match o.dst with
    | some d=>A.put (some d) (.tup [v,bV ok])
    | none=>A
  ok := by
    rintro N ⟨dst,op,ty,pos,after,gd0⟩ A K - hp hK
    replace hK:=hK ()
    simp only at hp hK
    split at hp
    · rename_i T x kx d
      split at hp
      · rename_i kt et e1 e2
        split at hp
        · rename_i es' e3 e4
          obtain ⟨rfl,hk,hy⟩:=hp
          obtain ⟨td,hu,hd⟩:=tD_some e1
          have hu:P.underlying T=some (.map kt et):=by
            cases td <;> simp_all [descD]
          obtain ⟨td2,hu2,hd2⟩:=tD_some e3
          have hu2:P.underlying kt=some .string:=by
            cases td2 <;> simp_all [descD]
          have hval:∃ y,v.val? =some y:=by
            rcases hy with ⟨_,y,_,h⟩ | ⟨_,_,y,h,_⟩ <;> exact ⟨y,h⟩
          obtain ⟨y,hv⟩:=hval
          refine opT_val rfl (blt_of e2) hK fun Pb Kb a w F hs=>⟨.tuple #[y,.bool ok],?_,RV_pair hv rfl⟩
          have hk:=ev_lit hs hk
          obtain ⟨_,hx⟩:=ev_RV hs x
          rw [e4] at hx
          have hx:R w Pb (.mp es') [a.eval x] _:=hx
          obtain ⟨_,g,hc,_,en,cl,hb,hen,_,_⟩:=hx
          simp only [List.cons.injEq,and_true] at hc
          obtain ⟨f1,f2⟩:=findNow_look k es' en.toList 0 hen
          have hck:∀ e,(Instr.checkKey e 10000 kt (.string (Str k))).run P w=.ok () w:=fun e=>checkKey_str hu2
          rcases hy with ⟨rfl,y',h1,h2⟩ | ⟨rfl,h1,y',h2,hzr⟩
          · rw [hv] at h2; obtain rfl:=Option.some.inj h2
            obtain ⟨j,j1,_⟩:=f2 _ h1
            rw [show (⟨k.toArray⟩:ByteArray)=Str k from rfl] at j1
            simp [execOp,hc,hk,Instr.lookup,run_underlying hu,MapKept.run_getObj_map hb,hck,MapKept.run_findKey hu2 j1,Result.andThen]
          · rw [hv] at h2; obtain rfl:=Option.some.inj h2
            have j1:=f1 h1
            rw [show (⟨k.toArray⟩:ByteArray)=Str k from rfl] at j1
            simp [execOp,hc,hk,Instr.lookup,run_underlying hu,MapKept.run_getObj_map hb,hck,MapKept.run_findKey hu2 j1,Result.andThen,hzr]
        · exact hp.elim
      · exact hp.elim
    · exact hp.elim
def mnC : Cu P where
  X:=Unit
  pre N o A:=match o.op,o.dst with
    | .call ⟨.builtin .len,⟨[x]⟩,⟨[T]⟩⟩,some d=>match tD P T,Nat.blt d N with
      | some (.map _ _),true=>match A.ev x with
        | .mp _=>True
        | _=>False
      | _,_=>False
    | _,_=>False
  post _ o A:=match o.op,o.dst with
    | .call ⟨.builtin .len,⟨[x]⟩,⟨[_]⟩⟩,some d=>match A.ev x with
      | .mp es=>A.put (some d) (.lit (.int .i64 es.length))
      | _=>A
    | _,_=>A
  ok := by
    rintro N ⟨dst,op,ty,pos,after,gd0⟩ A K - hp hK
    replace hK:=hK ()
    simp only at hp hK
    split at hp
    · rename_i x T d
      split at hp
      · rename_i kt et e1 e2
        split at hp
        · rename_i es e3
          simp only [e3] at hK
          refine opT_val rfl (blt_of e2) hK fun Pb Kb a w F hs=>⟨.int .i64 es.length,?_,RV_lit rfl⟩
          obtain ⟨_,hx⟩:=ev_RV hs x
          rw [e3] at hx
          have hx:R w Pb (.mp es) [a.eval x] _:=hx
          obtain ⟨_,g,hm,_,en,cl,hb,hen,_,_⟩:=hx
          simp only [List.cons.injEq,and_true] at hm
          obtain ⟨td,hu,hd⟩:=tD_some e1
          have hu:P.underlying T=some (.map kt et):=by
            cases td <;> simp_all [descD]
          have hl:en.size=es.length:=by
            have:=congrArg List.length hen
            simpa using this
          simp [execOp,resolve,Deferred.ofValue,invoke,builtin,Builtin.len_,hm,run_underlying hu,MapKept.run_getObj_map hb,Result.andThen,hl,goInt]
        · exact hp.elim
      · exact hp.elim
    · exact hp.elim
end
end Go.Abs
namespace Go.Proofs.YthliifpcaahnnaaGreatDoor
open Go Go.Abs Go.RowKit
end Go.Proofs.YthliifpcaahnnaaGreatDoor
namespace Go.Pd
theorem drop_cons {α:Type} {l:List α} {i:Nat} (h:i < l.length) (d:α):l.drop i=l.getD i d :: l.drop (i+1):=by
  rw [List.drop_eq_getElem_cons h,List.getD_eq_getElem?_getD,List.getElem?_eq_getElem h]; rfl
theorem take_succ_getD {α:Type} {l:List α} {i:Nat} (h:i < l.length) (d:α):l.take (i+1)=l.take i++[l.getD i d]:=by
  rw [List.take_add_one,List.getD_eq_getElem?_getD,List.getElem?_eq_getElem h]; rfl
theorem all_false {α:Type} {l:List α} {p:α→Bool} {i:Nat} {d:α} (h:i < l.length) (hp:p (l.getD i d)=false):l.all p=false:=by
  rw [List.all_eq_false]
  refine ⟨l.getD i d,?_,by rw [hp]; decide⟩
  rw [List.getD_eq_getElem?_getD,List.getElem?_eq_getElem h]; exact List.getElem_mem h
theorem all_true {α:Type} {l:List α} {p:α→Bool} {d:α} (hp:∀ j,j < l.length→p (l.getD j d)=true):l.all p=true:=by
  rw [List.all_eq_true]
  intro x hx
  obtain ⟨j,hj,rfl⟩:=List.getElem_of_mem hx
  have:=hp j hj
  rwa [List.getD_eq_getElem?_getD,List.getElem?_eq_getElem hj] at this
theorem lt_succ_of {p:Nat→Prop} {i:Nat} (h:∀ j,j < i→p j) (hi:p i):∀ j,j < i+1→p j:=fun j hj=>by
  rcases Nat.lt_succ_iff_lt_or_eq.1 hj with h' | rfl
  · exact h j h'
  · exact hi
def cutL (c:UInt8):List UInt8→List UInt8×List UInt8×Bool
  | []=>([],[],false)
  | x :: r=>if x=c then ([],r,true) else (x :: (cutL c r).1,(cutL c r).2.1,(cutL c r).2.2)
def lowB (b:UInt8):Bool:=decide (97≤b.toNat∧b.toNat≤122)
def plainB (b:UInt8):Bool:=decide ((97≤b.toNat∧b.toNat≤122)∨(48≤b.toNat∧b.toNat≤57)∨b.toNat=46∨b.toNat=45)
def hexL (b:UInt8):Int:=if 48≤b.toNat∧b.toNat≤57 then b.toNat - 48 else if 97≤b.toNat∧b.toNat≤102 then b.toNat - 87 else if 65≤b.toNat∧b.toNat≤70 then b.toNat - 55 else -1
def inL (n lo hi:Int):Bool:=decide (lo≤n∧n≤hi)
def smallL (s:List UInt8):Bool:=s.all lowB
def houseL (s:List UInt8):Bool:=smallL s&&inL s.length 1 5
def nameL (s:List UInt8):Bool:=smallL s&&inL s.length 1 8
def findL (s part:List UInt8) (from_:Nat):Int:=
  if h:from_+part.length≤s.length then (if (s.drop from_).take part.length=part then (from_:Int) else findL s part (from_+1)) else -1
termination_by s.length+1 - from_
def patB (b:UInt8):Bool:=plainB b||decide (b.toNat=47∨b.toNat=42∨b.toNat=63∨b.toNat=37∨(65≤b.toNat∧b.toNat≤70))
def okAt (p:List UInt8) (j:Nat):Bool:=patB (p.getD j 0)||(decide ((p.getD j 0).toNat=36)&&decide (j+1=p.length))
def ruleOkL (p:List UInt8):Bool:=decide (1≤p.length∧p.length≤16∧(p.getD 0 0).toNat=47∧∀ j,j < p.length→okAt p j=true)
end Go.Pd
namespace Go.Pd
def figs:List UInt8:=[48,49,50,51,52,53,54,55,56,57,65,66,67,68,69,70]
def signL (b:UInt8):List UInt8:=[37,figs.getD (b.toNat / 16) 0,figs.getD (b.toNat % 16) 0]
def escB (b:UInt8):List UInt8:=if plainB b then [b] else signL b
def hexB (a b:UInt8):UInt8:=UInt8.ofNat (hexL a * 16+hexL b).toNat
def escL:List UInt8→Option (List UInt8)
  | []=>some []
  | [c]=>if c.toNat=37 then none else some (escB c)
  | [c,d]=>if c.toNat=37∨d.toNat=37 then none else some (escB c++escB d)
  | c :: a :: b :: r=>if c.toNat=37 then (if 0≤hexL a∧0≤hexL b then (escL r).map (escB (hexB a b)++ ·) else none) else (escL (a :: b :: r)).map (escB c++ ·)
def escN (s:List UInt8):List UInt8×Bool:=if s.length≤60 then (match escL s with | some x=>(x,true) | none=>([],false)) else ([],false)
def normB (s:List UInt8):Bool:=(escN s).2&&((escN s).1==s)
theorem escL_cons {c:UInt8} {r:List UInt8} (h: ¬ c.toNat=37):escL (c :: r)=(escL r).map (escB c++ ·):=by
  match r with
  | []=>simp [escL,h]
  | [d]=>by_cases hd:d.toNat=37 <;> simp [escL,h,hd]
  | a :: b :: r=>simp [escL,h]
theorem esc_plain {s:List UInt8} {i:Nat} (hi:i < s.length) (h: ¬ (s.getD i 0).toNat=37):escL (s.drop i)=(escL (s.drop (i+1))).map (escB (s.getD i 0)++ ·):=by
  rw [drop_cons hi 0,escL_cons h]
theorem esc_sign {s:List UInt8} {i:Nat} (hi:i+2 < s.length) (h:(s.getD i 0).toNat=37) (h1:0≤hexL (s.getD (i+1) 0)) (h2:0≤hexL (s.getD (i+2) 0)):
    escL (s.drop i)=(escL (s.drop (i+3))).map (escB (hexB (s.getD (i+1) 0) (s.getD (i+2) 0))++ ·):=by
  rw [drop_cons (by omega:i < s.length) 0,drop_cons (by omega:i+1 < s.length) 0,drop_cons (by omega:i+1+1 < s.length) 0]
  simp only [escL,h,if_true,h1,h2,and_self,Nat.add_assoc]
theorem esc_none {s:List UInt8} {i:Nat} (hi:i < s.length) (h:(s.getD i 0).toNat=37) (h1:s.length≤i+2∨hexL (s.getD (i+1) 0) < 0∨hexL (s.getD (i+2) 0) < 0):escL (s.drop i)=none:=by
  rw [drop_cons hi 0]
  by_cases h2:i+2 < s.length
  · rw [drop_cons (by omega:i+1 < s.length) 0,drop_cons (by omega:i+1+1 < s.length) 0]
    simp only [escL,h,if_true]
    rw [if_neg]
    rintro ⟨k1,k2⟩
    have e:i+1+1=i+2:=rfl
    rw [e] at k2
    omega
  · by_cases h3:i+1 < s.length
    · rw [drop_cons h3 0,List.drop_eq_nil_of_le (by omega)]
      simp only [escL,h,true_or,if_true]
    · rw [List.drop_eq_nil_of_le (by omega)]
      simp only [escL,h,if_true]
theorem hexL_lt (b:UInt8):hexL b < 16:=by unfold hexL; repeat (split <;> try omega)
theorem hexL_ge (b:UInt8): -1≤hexL b:=by unfold hexL; repeat (split <;> try omega)
theorem hexB_nat {a b:UInt8} (h1:0≤hexL a) (h2:0≤hexL b):((hexB a b).toNat:Int)=hexL a * 16+hexL b:=by
  have:=hexL_lt a; have:=hexL_lt b
  unfold hexB
  rw [UInt8.toNat_ofNat']
  omega
theorem drop_take_one {α:Type} {l:List α} {k:Nat} (h:k < l.length) (d:α):(l.take (k+1)).drop k=[l.getD k d]:=by
  rw [take_succ_getD h d,List.drop_append_of_le_length (by simp; omega),List.drop_eq_nil_of_le (by simp; omega)]; rfl
theorem escB_len (b:UInt8):(escB b).length≤3:=by unfold escB signL; split <;> simp
theorem escL_len:∀ (s:List UInt8) {x:List UInt8},escL s=some x→x.length≤3 * s.length
  | [],x,h=>by simp [escL] at h; subst h; simp
  | [c],x,h=>by
    simp only [escL] at h; split at h
    · simp at h
    · simp only [Option.some.injEq] at h; subst h; have:=escB_len c; simpa using this
  | [c,d],x,h=>by
    simp only [escL] at h; split at h
    · simp at h
    · simp only [Option.some.injEq] at h; subst h; have:=escB_len c; have:=escB_len d; simp; omega
  | c :: a :: b :: r,x,h=>by
    simp only [escL] at h
    split at h
    · split at h
      · simp only [Option.map_eq_some_iff] at h
        obtain ⟨y,hy,rfl⟩:=h
        have:=escL_len r hy; have:=escB_len (hexB a b); simp; omega
      · simp at h
    · simp only [Option.map_eq_some_iff] at h
      obtain ⟨y,hy,rfl⟩:=h
      have:=escL_len (a :: b :: r) hy; have:=escB_len c; simp at *; omega
theorem escN_len (s:List UInt8):(escN s).1.length≤180:=by
  unfold escN
  split
  · split
    · rename_i x h; have:=escL_len s h; simp only; omega
    · simp
  · simp
def splitL (c:UInt8):List UInt8→List (List UInt8)
  | []=>[[]]
  | x :: r=>if x=c then [] :: splitL c r else (x :: (splitL c r).headD []) :: (splitL c r).tail
theorem splitL_cut (c:UInt8):∀ r,splitL c r=(cutL c r).1 :: (if (cutL c r).2.2=true then splitL c (cutL c r).2.1 else [])
  | []=>rfl
  | x :: r=>by
    have ih:=splitL_cut c r
    by_cases h:x=c
    · simp only [splitL,cutL,if_pos h,if_true]
    · simp only [splitL,cutL,if_neg h]
      rw [ih]; rfl
theorem cut_lt (c:UInt8):∀ r,(cutL c r).2.2=true→(cutL c r).2.1.length < r.length
  | [],h=>by simp [cutL] at h
  | x :: r,h=>by
    simp only [cutL] at h ⊢
    by_cases e:x=c
    · rw [if_pos e]; simp
    · rw [if_neg e] at h ⊢
      have:=cut_lt c r h
      simp only [List.length_cons]; omega
theorem cut_le (c:UInt8):∀ r,(cutL c r).1.length+(cutL c r).2.1.length≤r.length
  | []=>by simp [cutL]
  | x :: r=>by
    simp only [cutL]
    by_cases e:x=c
    · rw [if_pos e]; simp
    · rw [if_neg e]; have:=cut_le c r; simp only [List.length_cons]; omega
def cleanStep (o:List (List UInt8)) (p:List UInt8):List (List UInt8):=if p=[]∨p=[46] then o else if p=[46,46] then o.dropLast else o++[p]
def cleanL (ps:List (List UInt8)):List (List UInt8):=ps.foldl cleanStep []
theorem clean_succ {ps:List (List UInt8)} {i:Nat} (h:i < ps.length):cleanL (ps.take (i+1))=cleanStep (cleanL (ps.take i)) (ps.getD i []):=by
  unfold cleanL
  rw [take_succ_getD h [],List.foldl_append]; rfl
end Go.Pd
namespace Go.Pd
structure Adr where
  house:List UInt8
  parts:List (List UInt8)
  asks:Bool
  ask:List UInt8
def joinL:List (List UInt8)→List UInt8
  | []=>[]
  | [p]=>p
  | p :: q :: r=>p++[47]++joinL (q :: r)
theorem joinL_snoc (p:List UInt8):∀ (ps:List (List UInt8)),joinL (ps++[p])=if ps=[] then p else joinL ps++[47]++p
  | []=>rfl
  | [q]=>by simp [joinL]
  | q :: r :: t=>by
    have:=joinL_snoc p (r :: t)
    simp only [List.cons_append,joinL] at this ⊢
    rw [this,if_neg (by simp),if_neg (by simp)]
    simp [List.append_assoc]
def pathL (a:Adr):List UInt8:=[47]++joinL a.parts++(if a.asks=true then [63]++a.ask else [])
def textL (a:Adr):List UInt8:=[47,47]++a.house++pathL a
def partOk (p:List UInt8):Bool:=normB p&&!(p==[])&&!(p==[46])&&!(p==[46,46])
def addrOkL (a:Adr):Bool:=houseL a.house&&decide (a.parts.length≤5)&&normB a.ask&&(a.asks||a.ask==[])&&a.parts.all partOk&&decide ((textL a).length≤60)
def AdrSz (a:Adr):Prop:=a.house.length≤1048576∧a.ask.length≤1048576∧a.parts.length≤1048576∧∀ i,(a.parts.getD i []).length≤1048576
theorem joinL_len {ps:List (List UInt8)} (h:∀ i,(ps.getD i []).length≤1048576):∀ i,i≤ps.length→(joinL (ps.take i)).length≤i * 1048577
  | 0,_=>by simp [joinL]
  | i+1,hi=>by
    have:=joinL_len h i (by omega)
    have h2:=h i
    rw [take_succ_getD (by omega:i < ps.length) [],joinL_snoc]
    split
    · omega
    · simp only [List.length_append,List.length_cons,List.length_nil]; omega
theorem pathL_len {a:Adr} (h:AdrSz a):(pathL a).length≤2199023255552:=by
  obtain ⟨h1,h2,h3,h4⟩:=h
  have:=joinL_len h4 a.parts.length (Nat.le_refl _)
  rw [List.take_length] at this
  unfold pathL
  split <;> simp <;> omega
theorem normB_len {s:List UInt8} (h:normB s=true):s.length≤60:=by
  unfold normB escN at h
  split at h
  · assumption
  · simp at h
def smallB (b:UInt8):UInt8:=if 65≤b.toNat∧b.toNat≤90 then b+32 else b
def lowerL (s:List UInt8):List UInt8:=s.map smallB
theorem small_nat {x:UInt8} (h:65≤x.toNat∧x.toNat≤90):(smallB x).toNat=x.toNat+32:=by
  unfold smallB
  rw [if_pos h,UInt8.toNat_add]
  have:(32:UInt8).toNat=32:=rfl
  omega
theorem lower_get {s l:List UInt8} {i:Nat} (hi:i < s.length) (h:l=lowerL (s.take i)++s.drop i):l.getD i 0=s.getD i 0:=by
  have hl:(lowerL (s.take i)).length=i:=by simp [lowerL]; omega
  rw [h,List.getD_eq_getElem?_getD,List.getElem?_append_right (by omega),hl,Nat.sub_self,drop_cons hi 0]; rfl
theorem lower_step {s l:List UInt8} {i:Nat} (hi:i < s.length) (h:l=lowerL (s.take i)++s.drop i):l.set i (smallB (s.getD i 0))=lowerL (s.take (i+1))++s.drop (i+1):=by
  have hl:(lowerL (s.take i)).length=i:=by simp [lowerL]; omega
  rw [h,List.set_append_right _ _ (by omega),hl,Nat.sub_self,drop_cons hi 0,take_succ_getD hi 0]
  simp [lowerL]
theorem lower_set {s l:List UInt8} {i:Nat} (hi:i < s.length) (h:l=lowerL (s.take i)++s.drop i):l.set i (smallB (l.getD i 0))=lowerL (s.take (i+1))++s.drop (i+1):=by
  rw [lower_get hi h]; exact lower_step hi h
theorem lower_keep {s l:List UInt8} {i:Nat} (hi:i < s.length) (h:l=lowerL (s.take i)++s.drop i) (hn: ¬ (65≤(l.getD i 0).toNat∧(l.getD i 0).toNat≤90)):l=lowerL (s.take (i+1))++s.drop (i+1):=by
  rw [← lower_step hi h]
  rw [lower_get hi h] at hn
  rw [show smallB (s.getD i 0)=s.getD i 0 from if_neg hn,← lower_get hi h]
  have hlt:i < l.length:=by rw [h]; simp [lowerL]; omega
  apply List.ext_getElem?
  intro j
  by_cases e:i=j
  · subst e; simp [hlt]
  · rw [List.getElem?_set_ne e]
end Go.Pd
namespace Go.Pd
def oA (o:Option Adr):Adr:=o.getD ⟨[],[],false,[]⟩
def escF (x:List UInt8):List UInt8:=(escN x).1
def escOk (x:List UInt8):Bool:=(escN x).2
def wayL (h:List UInt8) (fr:List (List UInt8)) (way:List UInt8):Option Adr:=
  if ((splitL 47 (cutL 63 way).1).all escOk&&escOk (cutL 63 way).2.1)=true then
    (if addrOkL ⟨h,cleanL (fr++(splitL 47 (cutL 63 way).1).map escF),(cutL 63 way).2.2,escF (cutL 63 way).2.1⟩=true then some ⟨h,cleanL (fr++(splitL 47 (cutL 63 way).1).map escF),(cutL 63 way).2.2,escF (cutL 63 way).2.1⟩ else none) else none
theorem split_len (c:UInt8):∀ s:List UInt8,(splitL c s).length≤s.length+1
  | []=>by simp [splitL]
  | x :: r=>by
    have:=split_len c r
    simp only [splitL]
    split
    · simp; omega
    · simp; omega
theorem headD_len (l:List (List UInt8)) (n:Nat) (h:∀ p∈l,p.length≤n):(l.headD []).length≤n:=by
  cases l with
  | nil=>simp
  | cons a l=>exact h a (by simp)
theorem split_mem (c:UInt8):∀ (s:List UInt8),∀ p∈splitL c s,p.length≤s.length
  | [],p,hp=>by simp [splitL] at hp; subst hp; simp
  | x :: r,p,hp=>by
    have ih:=split_mem c r
    simp only [splitL] at hp
    split at hp
    · simp only [List.mem_cons] at hp
      rcases hp with rfl | hp
      · simp
      · have:=ih p hp; simp; omega
    · simp only [List.mem_cons] at hp
      rcases hp with rfl | hp
      · have:=headD_len _ _ ih; simp at this ⊢; omega
      · have:=ih p (List.mem_of_mem_tail hp); simp; omega
theorem getD_len {ps:List (List UInt8)} {n:Nat} (h:∀ p∈ps,p.length≤n) (i:Nat):(ps.getD i []).length≤n:=by
  rw [List.getD_eq_getElem?_getD]
  cases e:ps[i]? with
  | none=>simp
  | some p=>exact h p (List.mem_of_getElem? e)
theorem split_get (c:UInt8) (s:List UInt8) (i:Nat):((splitL c s).getD i []).length≤s.length:=getD_len (split_mem c s) i
theorem clean_fold (ps:List (List UInt8)):∀ (o:List (List UInt8)),(∀ p∈ps.foldl cleanStep o,p∈o∨p∈ps)∧(ps.foldl cleanStep o).length≤o.length+ps.length:=by
  induction ps with
  | nil=>intro o; exact ⟨fun p h=>.inl h,by simp⟩
  | cons q ps ih=>
    intro o
    obtain ⟨h1,h2⟩:=ih (cleanStep o q)
    have hs:(∀ p∈cleanStep o q,p∈o∨p=q)∧(cleanStep o q).length≤o.length+1:=by
      unfold cleanStep
      split
      · exact ⟨fun p h=>.inl h,by omega⟩
      · split
        · exact ⟨fun p h=>.inl (List.dropLast_subset _ h),by simp; omega⟩
        · exact ⟨fun p h=>by simpa using h,by simp⟩
    refine ⟨fun p hp=>?_,by simp only [List.foldl_cons,List.length_cons]; omega⟩
    rcases h1 p hp with h | h
    · rcases hs.1 p h with h | h
      · exact .inl h
      · exact .inr (by simp [h])
    · exact .inr (by simp [h])
theorem clean_mem {ps:List (List UInt8)} {p:List UInt8} (h:p∈cleanL ps):p∈ps:=by
  rcases (clean_fold ps []).1 p h with h | h
  · simp at h
  · exact h
theorem clean_len (ps:List (List UInt8)):(cleanL ps).length≤ps.length:=by have:=(clean_fold ps []).2; simp only [List.length_nil,Nat.zero_add] at this; exact this
theorem way_sz {a:Adr} {ls:List (List UInt8)} {k:Bool} {q:List UInt8} (ha:AdrSz a) (hp:a.parts.length≤1000) (hl:ls.length≤2000):AdrSz ⟨a.house,cleanL (a.parts++ls.map escF),k,escF q⟩:=by
  obtain ⟨h1,h2,h3,h4⟩:=ha
  refine ⟨h1,?_,?_,fun i=>?_⟩
  · have:=escN_len q; simp only [escF]; omega
  · have:=clean_len (a.parts++ls.map escF); simp only [List.length_append,List.length_map] at this ⊢; omega
  · refine getD_len (n:=1048576) (fun p hp'=>?_) i
    rcases List.mem_append.1 (clean_mem hp') with h | h
    · obtain ⟨j,hj,rfl⟩:=List.getElem_of_mem h
      have:=h4 j
      rwa [List.getD_eq_getElem?_getD,List.getElem?_eq_getElem hj] at this
    · obtain ⟨y,_,rfl⟩:=List.mem_map.1 h
      have:=escN_len y; simp only [escF]; omega
def notW (c:UInt8):Bool:=decide (¬ (c.toNat=47∨c.toNat=63))
theorem while_eq {s:List UInt8} {p:UInt8→Bool}:∀ {i:Nat},i≤s.length→(∀ j,j < i→p (s.getD j 0)=true)→(i=s.length∨p (s.getD i 0)=false)→s.takeWhile p=s.take i∧s.dropWhile p=s.drop i:=by
  induction s with
  | nil=>intro i hi _ _; simp
  | cons x s ih=>
    intro i hi h1 h2
    cases i with
    | zero=>
      rcases h2 with h2 | h2
      · simp at h2
      · have:p x=false:=by simpa using h2
        simp [List.takeWhile_cons,List.dropWhile_cons,this]
    | succ i=>
      have hx:p x=true:=by simpa using h1 0 (by omega)
      obtain ⟨k1,k2⟩:=ih (i:=i) (by simpa using hi) (fun j hj=>by have:=h1 (j+1) (by omega); simpa using this) (by
        rcases h2 with h2 | h2
        · left; simpa using h2
        · right; simpa using h2)
      simp [List.takeWhile_cons,List.dropWhile_cons,hx,k1,k2]
def wholeL (rest:List UInt8):Option Adr:=wayL (lowerL (rest.takeWhile notW)) [] (rest.dropWhile notW)
def readL (raw:List UInt8):Option Adr:=
  if raw.length≤60∧2≤(cutL 35 raw).1.length∧(cutL 35 raw).1.take 2=[47,47] then wholeL ((cutL 35 raw).1.drop 2) else none
end Go.Pd
namespace Go.Pd
def adrTextL (a:Adr):List UInt8:=if addrOkL a=true then textL a else []
def isAdrL (s:List UInt8):Bool:=(readL s).isSome&&(adrTextL (oA (readL s))==s)
theorem way_ok {h:List UInt8} {fr:List (List UInt8)} {way:List UInt8} {a:Adr} (e:wayL h fr way=some a):addrOkL a=true:=by
  unfold wayL at e
  split at e
  · split at e
    · rename_i hk; simp only [Option.some.injEq] at e; subst e; exact hk
    · simp at e
  · simp at e
theorem read_ok {s:List UInt8} {a:Adr} (e:readL s=some a):addrOkL a=true:=by
  unfold readL at e
  split at e
  · exact way_ok e
  · simp at e
theorem ok_sz {a:Adr} (h:addrOkL a=true):AdrSz a:=by
  unfold addrOkL houseL inL at h
  simp only [Bool.and_eq_true,decide_eq_true_eq,List.all_eq_true] at h
  obtain ⟨⟨⟨⟨⟨⟨_,h1⟩,h2⟩,h3⟩,_⟩,h4⟩,_⟩:=h
  have:=normB_len h3
  refine ⟨by omega,by omega,by omega,fun i=>getD_len (n:=1048576) (fun p hp=>?_) i⟩
  have:=h4 p hp
  unfold partOk at this
  simp only [Bool.and_eq_true] at this
  have:=normB_len this.1.1.1
  omega
theorem oA_sz (s:List UInt8):AdrSz (oA (readL s)):=by
  cases e:readL s with
  | none=>exact ⟨by simp [oA],by simp [oA],by simp [oA],by simp [oA]⟩
  | some a=>exact ok_sz (read_ok e)
def endL (p:List UInt8):Bool:=decide ((p.getD (p.length - 1) 0).toNat=36)
def bodyL (p:List UInt8):List UInt8:=if endL p=true then p.take (p.length - 1) else p
def hasGo (e:Bool) (s:List UInt8):Nat→List (List UInt8)→Bool
  | at_,[]=>!e||decide (at_=s.length)
  | at_,p :: r=>if (e&&r.isEmpty)=true then decide (at_+p.length≤s.length)&&(s.drop (s.length - p.length)==p)
    else if findL s p at_ < 0 then false else hasGo e s ((findL s p at_).toNat+p.length) r
def hasL (p s:List UInt8):Bool:=
  ((splitL 42 (bodyL p)).headD []).isPrefixOf s&&hasGo (endL p) s ((splitL 42 (bodyL p)).headD []).length (splitL 42 (bodyL p)).tail
theorem findL_ge (s p:List UInt8) (f:Nat):findL s p f < 0∨(f:Int)≤findL s p f∧findL s p f+p.length≤s.length:=by
  rw [findL]
  split
  · split
    · right; constructor <;> omega
    · rcases findL_ge s p (f+1) with h | ⟨h1,h2⟩
      · exact .inl h
      · exact .inr ⟨by omega,h2⟩
  · left; omega
termination_by s.length+1 - f
theorem split_pos (c:UInt8) (s:List UInt8):1≤(splitL c s).length:=by
  rw [splitL_cut]; simp
theorem endL_eq {p:List UInt8} (h:1≤p.length):((((p.getD (Int.toNat ((p.length:Int) - 1)) 0).toNat:Int))==36)=endL p:=by
  have:Int.toNat ((p.length:Int) - 1)=p.length - 1:=by omega
  rw [this]
  unfold endL
  rw [Bool.eq_iff_iff]
  simp only [beq_iff_eq,decide_eq_true_eq]
  omega
theorem body_t {p:List UInt8} (h:endL p=true):(p.take (Int.toNat ((p.length:Int) - 1))).drop (Int.toNat 0)=bodyL p:=by
  have:Int.toNat ((p.length:Int) - 1)=p.length - 1:=by omega
  rw [this]; unfold bodyL; rw [if_pos h]; rfl
theorem body_f {p:List UInt8} (h:endL p=false):p=bodyL p:=by unfold bodyL; rw [if_neg (by rw [h]; decide)]
theorem pre_of {s x:List UInt8} (h:s.take x.length=x):x.isPrefixOf s=true:=by
  rw [List.isPrefixOf_iff_prefix]; rw [← h]; exact List.take_prefix _ _
theorem pre_not {s x:List UInt8} (h: ¬ s.take x.length=x):x.isPrefixOf s=false:=by
  rw [Bool.eq_false_iff]
  intro h'
  rw [List.isPrefixOf_iff_prefix] at h'
  exact h (List.prefix_iff_eq_take.1 h').symm
theorem has_go {e:Bool} {s p:List UInt8} {q:Nat} {r:List (List UInt8)} (h: ¬ (e=true∧r=[])) (hf:0≤findL s p q):hasGo e s q (p :: r)=hasGo e s ((findL s p q).toNat+p.length) r:=by
  simp only [hasGo]
  rw [if_neg (by simpa using h),if_neg (by omega)]
theorem has_no {e:Bool} {s p:List UInt8} {q:Nat} {r:List (List UInt8)} (h: ¬ (e=true∧r=[])) (hf:findL s p q < 0):hasGo e s q (p :: r)=false:=by
  simp only [hasGo]
  rw [if_neg (by simpa using h),if_pos hf]
theorem has_last {s p:List UInt8} {q:Nat}:hasGo true s q [p]=(decide (q+p.length≤s.length)&&(s.drop (s.length - p.length)==p)):=by
  simp only [hasGo,List.isEmpty_nil,Bool.and_self,if_true]
end Go.Pd
namespace Go.Pd
structure Rul where
  let_:Bool
  path:List UInt8
def ruleHasL (p s:List UInt8):Bool:=ruleOkL p&&decide (s.length≤60)&&hasL p s
def letsStep (s:List UInt8) (x:Int×Bool) (r:Rul):Int×Bool:=
  if ruleHasL r.path s=false∨(r.path.length:Int) < x.1 then x else (r.path.length,r.let_||(decide ((r.path.length:Int)=x.1)&&x.2))
def ruleLetsL (rs:List Rul) (s:List UInt8):Bool:=(rs.foldl (letsStep s) (-1,true)).2
theorem ruleOk_len {p:List UInt8} (h:ruleOkL p=true):1≤p.length∧p.length≤16:=by
  unfold ruleOkL at h; simp only [decide_eq_true_eq] at h; exact ⟨h.1,h.2.1⟩
theorem foldl_succ {α β:Type} {f:β→α→β} {b:β} {l:List α} {i:Nat} {d:α} (h:i < l.length):(l.take (i+1)).foldl f b=f ((l.take i).foldl f b) (l.getD i d):=by
  rw [take_succ_getD h d,List.foldl_append]; rfl
end Go.Pd
namespace Go.Abs
open Go.Pd
abbrev ruleV (r:Rul):V:=.agg [bV r.let_,sV r.path]
end Go.Abs
namespace Go.Pd
def numStep (m:Int) (n:Int) (c:UInt8):Int:=min (n * 10+(c.toNat - 48)) m
def numL (s:List UInt8) (m:Int):Int:=if s.all (fun c=>decide (48≤c.toNat∧c.toNat≤57))=true then s.foldl (numStep m) 0 else 0
end Go.Pd
namespace Go.Pd
structure Grp where
  na:List (List UInt8)
  ru:List Rul
  wa:Nat
end Go.Pd
namespace Go.Abs
open Go.Pd
abbrev grpV (g:Grp):V:=.agg [.sl false (g.na.map sV),.sl false (g.ru.map ruleV),iV g.wa]
end Go.Abs
namespace Go.Pd
def ruleL:List (List UInt8):=[[47],[47,97],[47,98],[47,97,47],[47,42,98],[47,97,36],[47,99],[47,42,63],[47,97,47,98],[47,42,47,98,36],[47,36],[47,98,42,99],[47,110,111,116,105,99,101],[47,42]]
def housesL:List (List UInt8):=[[97,98],[99,100],[101],[102,111,120]]
structure GrpOk (g:Grp):Prop where
  nl:g.na.length≤2
  nb:∀ x,x∈g.na→x.length≤5
  rl:g.ru.length≤4
  rb:∀ r,r∈g.ru→r.path∈ruleL
  w:g.wa≤6
theorem len_mem {l:List (List UInt8)} {n:Nat} (h:l.all (fun x=>Nat.ble x.length n)=true) {x:List UInt8} (hx:x∈l):x.length≤n:=Nat.le_of_ble_eq_true (List.all_eq_true.1 h x hx)
theorem all_app {α:Type} {P:α→Prop} {l:List α} {x:α} (h:∀ y,y∈l→P y) (hx:P x):∀ y,y∈l++[x]→P y:=fun y hy=>by
  rcases List.mem_append.1 hy with q | q
  · exact h y q
  · rw [List.mem_singleton.1 q]; exact hx
end Go.Pd
namespace Go.Pd
structure Pg where
  addr:List UInt8
  text:List UInt8
  lead:List UInt8
  fails:Int
def pg0:Pg:=⟨[],[],[],0⟩
def atL:List Pg→List UInt8→Pg×Bool
  | [],_=>(pg0,false)
  | p :: r,a=>if p.addr=a then (p,true) else atL r a
theorem joinL_len2 {l:List (List UInt8)} (h:l.length≤2) (hx:∀ x,x∈l→x.length≤6):(joinL l).length≤13:=by
  match l,h with
  | [],_=>simp [joinL]
  | [x],_=>have:=hx x (by simp); simp [joinL]; omega
  | [x,y],_=>have:=hx x (by simp); have:=hx y (by simp); simp [joinL]; omega
theorem getD_lenb {l:List (List UInt8)} {n:Nat} (h:l.all (fun x=>Nat.ble x.length n)=true) (i:Nat):(l.getD i []).length≤n:=by
  rw [List.getD_eq_getElem?_getD]
  cases e:l[i]? with
  | none=>simp
  | some x=>exact len_mem h (List.mem_of_getElem? e)
theorem adr_small {a:Adr} (h1:a.house.length≤3) (h2:a.parts.length≤2) (h3:∀ x,x∈a.parts→x.length≤6) (h4:a.ask.length≤5):AdrSz a∧(adrTextL a).length≤25:=by
  refine ⟨⟨by omega,by omega,by omega,fun i=>?_⟩,?_⟩
  · rw [List.getD_eq_getElem?_getD]
    cases e:a.parts[i]? with
    | none=>simp
    | some x=>have:=h3 x (List.mem_of_getElem? e); simp; omega
  · have:=joinL_len2 h2 h3
    unfold adrTextL textL pathL
    split
    · split <;> simp <;> omega
    · simp
def decL (n:Nat):List UInt8:=if n < 10 then [UInt8.ofNat (48+n)] else decL (n / 10)++[UInt8.ofNat (48+n % 10)]
termination_by n
theorem decL_len (n:Nat) (h:n≤1000000):(decL n).length≤7:=by
  have:∀ k n,n < 10 ^ (k+1)→(decL n).length≤k+1:=by
    intro k
    induction k with
    | zero=>intro n hn; rw [decL,if_pos (by omega)]; simp
    | succ k ih=>
      intro n hn
      rw [decL]
      split
      · simp
      · have:=ih (n / 10) (by rw [Nat.pow_succ] at hn; omega)
        simp; omega
  exact this 6 n (by omega)
end Go.Pd
namespace Go.Abs
open Go.Pd
abbrev pgV (p:Pg):V:=.agg [sV p.addr,sV p.text,sV p.lead,iV p.fails]
end Go.Abs
namespace Go.Pd
theorem grp_i {gs:List Grp} (hg:∀ y,y∈gs→GrpOk y) (i:Nat):GrpOk (gs.getD i ⟨[],[],0⟩):=by
  rw [List.getD_eq_getElem?_getD]
  cases e:gs[i]? with
  | none=>exact ⟨by simp,by simp,by simp,by simp,by simp⟩
  | some x=>exact hg x (List.mem_of_getElem? e)
theorem grp_nb {gs:List Grp} (hg:∀ y,y∈gs→GrpOk y) (i k:Nat):((gs.getD i ⟨[],[],0⟩).na.getD k []).length≤5:=by
  rw [List.getD_eq_getElem?_getD (l:=Grp.na _)]
  cases e:(gs.getD i ⟨[],[],0⟩).na[k]? with
  | none=>simp
  | some x=>exact (grp_i hg i).nb x (List.mem_of_getElem? e)
theorem grp_rb {gs:List Grp} (hg:∀ y,y∈gs→GrpOk y) (i k:Nat):((gs.getD i ⟨[],[],0⟩).ru.getD k ⟨false,[]⟩).path.length≤7:=by
  rw [List.getD_eq_getElem?_getD (l:=Grp.ru _)]
  cases e:(gs.getD i ⟨[],[],0⟩).ru[k]? with
  | none=>simp
  | some x=>exact len_mem rfl ((grp_i hg i).rb x (List.mem_of_getElem? e))
end Go.Pd
namespace Go.Pd
def Asc (s:List UInt8):Prop:= ∀ c,c∈s→c.toNat < 128
def ascB (s:List UInt8):Bool:=s.all fun c=>decide (c.toNat < 128)
theorem asc_lit {s:List UInt8} (h:ascB s=true):Asc s:=fun c hc=>by
  have:=List.all_eq_true.1 h c hc; simpa using this
theorem asc_nil:Asc []:=fun c hc=>by simp at hc
theorem Asc.app {a b:List UInt8} (h1:Asc a) (h2:Asc b):Asc (a++b):=fun c hc=>(List.mem_append.1 hc).elim (h1 c) (h2 c)
theorem asc_mem {l:List (List UInt8)} {x:List UInt8} (h:l.all ascB=true) (hx:x∈l):Asc x:=asc_lit (List.all_eq_true.1 h x hx)
theorem asc_getD {l:List (List UInt8)} (h:l.all ascB=true) (i:Nat):Asc (l.getD i []):=by
  rw [List.getD_eq_getElem?_getD]
  cases e:l[i]? with
  | none=>exact asc_nil
  | some x=>exact asc_mem h (List.mem_of_getElem? e)
theorem joinL_asc:∀ {l:List (List UInt8)},(∀ x,x∈l→Asc x)→Asc (joinL l)
  | [],_=>asc_nil
  | [p],h=>h p (by simp)
  | p :: q :: r,h=>((h p (by simp)).app (asc_lit rfl)).app (joinL_asc fun x hx=>h x (by simp [hx]))
theorem adr_asc {a:Adr} (h1:Asc a.house) (h2:∀ x,x∈a.parts→Asc x) (h3:Asc a.ask):Asc (adrTextL a):=by
  unfold adrTextL textL pathL
  split
  · refine ((asc_lit rfl).app h1).app (((asc_lit rfl).app (joinL_asc h2)).app ?_)
    split
    · exact (asc_lit rfl).app h3
    · exact asc_nil
  · exact asc_nil
theorem decL_asc (n:Nat):Asc (decL n):=by
  induction n using Nat.strongRecOn with
  | ind n ih=>
    rw [decL]
    split
    · intro c hc
      rw [List.mem_singleton.1 hc,UInt8.toNat_ofNat']; omega
    · refine (ih (n / 10) (by omega)).app ?_
      intro c hc
      rw [List.mem_singleton.1 hc,UInt8.toNat_ofNat']; omega
structure PgSz (y:Pg):Prop where
  a:y.addr.length≤30
  t:y.text.length≤300
  l:y.lead.length≤30
  f:0≤y.fails∧y.fails≤10
  aa:Asc y.addr
  la:Asc y.lead
theorem atL_pos {w:List Pg} {a:List UInt8} (h:(atL w a).2=true):1≤w.length:=by
  cases w with
  | nil=>simp [atL] at h
  | cons p r=>simp
theorem int_lenb {l:List Int} (h:l.all (fun x=>decide (0≤x∧x≤10))=true) (i:Nat):0≤l.getD i 0∧l.getD i 0≤10:=by
  rw [List.getD_eq_getElem?_getD]
  cases e:l[i]? with
  | none=>simp
  | some x=>simpa using List.all_eq_true.1 h x (List.mem_of_getElem? e)
end Go.Pd
namespace Go.Pd
theorem pg_i {w:List Pg} (h:∀ y,y∈w→PgSz y) (i:Nat):PgSz (w.getD i pg0):=by
  rw [List.getD_eq_getElem?_getD]
  cases e:w[i]? with
  | none=>exact ⟨by simp [pg0],by simp [pg0],by simp [pg0],by simp [pg0],asc_nil,asc_nil⟩
  | some x=>exact h x (List.mem_of_getElem? e)
theorem all_set {α:Type} {P:α→Prop} {l:List α} {i:Nat} {x:α} (h:∀ y,y∈l→P y) (hx:P x):∀ y,y∈l.set i x→P y:=fun y hy=>by
  rcases List.mem_or_eq_of_mem_set hy with q | q
  · exact h y q
  · rw [q]; exact hx
end Go.Pd
namespace Go.Abs
theorem at_el2 {xs:List V} {j sz g0 o0 g o c:Nat} {v:V} {p:List Nat} {r:Nat×Nat×V} (h:xs[j]? =some v) (e:V.at g (o+j * sz) v p=some r):V.at g0 o0 (.own sz xs g o c) (j :: p)=some r:=by simp only [V.at,h]; exact e
theorem set_el2 {xs ys:List V} {j sz g o c:Nat} {x v:V} {p:List Nat} (h:xs[j]? =some x) (e:xs.set j (V.set x p v)=ys):V.set (.own sz xs g o c) (j :: p) v=.own sz ys g o c:=by simp only [V.set,h,e]
end Go.Abs
namespace Go.Pd
def pgOkL (y:Pg):Bool:=isAdrL y.addr&&decide (y.text.length≤300)&&inL y.fails 0 9&&(y.lead==[]||(y.text==[]&&isAdrL y.lead))
def worldOkL (w:List Pg):Bool:=decide (∀ i,i < w.length→pgOkL (w.getD i pg0)=true∧∀ k,k < i→(w.getD k pg0).addr≠(w.getD i pg0).addr)&&decide (w.length≤12)
def doorL (h:List UInt8):List UInt8:=[47,47]++h++[47,110,111,116,105,99,101]
def getL (w:List Pg) (a:List UInt8) (n:Int):Int×List UInt8:=
  if (atL w a).2=false then (0,[]) else if n < (atL w a).1.fails then (3,[]) else if (atL w a).1.lead=[] then (1,(atL w a).1.text) else (2,(atL w a).1.lead)
end Go.Pd
namespace Go.Pd
theorem pgOk_t {y:Pg} (h:((isAdrL y.addr=true∧(y.text.length:Int)≤300)∧inL y.fails 0 9=true)∧(¬ y.lead=[]→y.text=[]∧isAdrL y.lead=true)):pgOkL y=true:=by
  unfold pgOkL
  obtain ⟨⟨⟨h1,h2⟩,h3⟩,h4⟩:=h
  rw [h1,h3,decide_eq_true (by omega)]
  by_cases hl:y.lead=[]
  · simp [hl]
  · obtain ⟨h5,h6⟩:=h4 hl
    simp [h5,h6]
theorem pgOk_f {y:Pg} (h:((isAdrL y.addr=false∨300 < (y.text.length:Int))∨inL y.fails 0 9=false)∨¬ y.lead=[]∧(¬ y.text=[]∨isAdrL y.lead=false)):pgOkL y=false:=by
  unfold pgOkL
  rcases h with ((h | h) | h) | ⟨h,h' | h'⟩
  · simp [h]
  · rw [decide_eq_false (by omega)]; simp
  · simp [h]
  · simp [h,h']
  · simp [h,h']
theorem world_bad {w:List Pg} {i:Nat} (hi:i < w.length) (h: ¬ (pgOkL (w.getD i pg0)=true∧∀ k,k < i→(w.getD k pg0).addr≠(w.getD i pg0).addr)):worldOkL w=false:=by
  unfold worldOkL
  rw [decide_eq_false (fun c=>h (c i hi))]; rfl
theorem world_good {w:List Pg} (h:∀ i,i < w.length→pgOkL (w.getD i pg0)=true∧∀ k,k < i→(w.getD k pg0).addr≠(w.getD i pg0).addr):worldOkL w=decide (w.length≤12):=by
  unfold worldOkL
  rw [decide_eq_true h]; rfl
end Go.Pd
namespace Go.Pd
def setLast (gs:List Grp) (f:Grp→Grp):List Grp:=match gs.getLast? with
  | none=>gs
  | some z=>gs.dropLast++[f z]
def lastRu (gs:List Grp):Nat:=match gs.getLast? with
  | none=>0
  | some z=>z.ru.length
def lineL (gs:List Grp) (w r:List UInt8) (b:Bool):List Grp×Bool:=
  if w=[99,97,108,108,101,114]∧(r=[42]∨nameL r=true) then
    if b=true∨gs=[] then (gs++[⟨[r],[],0⟩],false) else (setLast gs fun z=>⟨z.na++[r],z.ru,z.wa⟩,false)
  else if gs=[] then (gs,b)
  else if (w=[108,101,116]∨w=[98,97,114])∧ruleOkL r=true∧lastRu gs < 6 then (setLast gs fun z=>⟨z.na,z.ru++[⟨w==[108,101,116],r⟩],z.wa⟩,true)
  else if w=[119,97,105,116] then (setLast gs fun z=>⟨z.na,z.ru,(numL r 20).toNat⟩,true)
  else (gs,b)
theorem setLast_app (l:List Grp) (z:Grp) (f:Grp→Grp):setLast (l++[z]) f=l++[f z]:=by simp [setLast]
theorem lastRu_app (l:List Grp) (z:Grp):lastRu (l++[z])=z.ru.length:=by simp [lastRu]
theorem ex_last {α:Type} {l:List α} (h:l≠[]):∃ x:List α×α,l=x.1++[x.2]:=⟨(l.dropLast,l.getLast h),(List.dropLast_concat_getLast h).symm⟩
theorem num_step_ge {m:Int} (hm:0≤m) {n:Int} (hn:0≤n) {c:UInt8} (hc:48≤c.toNat):0≤numStep m n c:=by
  unfold numStep
  omega
theorem numL_ge {s:List UInt8} {m:Int} (hm:0≤m):0≤numL s m:=by
  unfold numL
  split
  · rename_i h
    rw [List.all_eq_true] at h
    have:∀ (l:List UInt8) (n:Int),0≤n→(∀ c,c∈l→48≤c.toNat)→0≤l.foldl (numStep m) n:=by
      intro l
      induction l with
      | nil=>intro n hn _; exact hn
      | cons c l ih=>intro n hn hl; exact ih _ (num_step_ge hm hn (hl c (by simp))) fun d hd=>hl d (by simp [hd])
    exact this s 0 (by omega) fun c hc=>by have:=h c hc; simp at this; exact this.1
  · exact Int.le_refl 0
end Go.Pd
namespace Go.Abs
open Go.Pd
abbrev grpO (g:Grp):V:=.agg [.ow 1 (g.na.map sV),.ow 2 (g.ru.map ruleV),iV g.wa]
theorem getE_last {α:Type} {f:α→V} {l:List α} {v:V}:(l.map f++[v])[l.length]? =some v:=by simp
theorem set_last {α:Type} {f:α→V} {l:List α} {v u:V}:(l.map f++[v]).set l.length u=l.map f++[u]:=by simp
theorem grpO_er (g:Grp):(grpO g).er=grpV g:=by
  simp only [grpO,V.er,V.erL,erL_map_id (f:=sV) (fun _=>rfl),erL_map_id (f:=ruleV) (fun _=>rfl)]
theorem erL_grpO:∀ (l:List Grp),V.erL (l.map grpO)=l.map grpV
  | []=>rfl
  | g :: l=>by simp only [List.map_cons,V.erL,erL_grpO l]; rw [grpO_er]
end Go.Abs
namespace Go.Pd
def noteStep (x:List Grp×Bool) (l:List UInt8):List Grp×Bool:=lineL x.1 (cutL 32 l).1 (cutL 32 l).2.1 x.2
def noticeL (t:List UInt8):List Grp:=(((splitL 10 t).take 40).foldl noteStep ([],false)).1
structure GsOk (n:Nat) (gs:List Grp):Prop where
  len:gs.length≤n
  each:∀ y,y∈gs→y.na.length≤n∧y.ru.length≤6
theorem GsOk.mono {n m:Nat} {gs:List Grp} (h:GsOk n gs) (hm:n≤m):GsOk m gs:=⟨Nat.le_trans h.len hm,fun y hy=>⟨Nat.le_trans (h.each y hy).1 hm,(h.each y hy).2⟩⟩
theorem GsOk.set {n:Nat} {gs:List Grp} {f:Grp→Grp} (h:GsOk n gs) (hf:∀ z,gs.getLast? =some z→(f z).na.length≤n+1∧(f z).ru.length≤6):GsOk (n+1) (setLast gs f):=by
  unfold setLast
  split
  · exact h.mono (by omega)
  · rename_i z hz
    refine ⟨?_,fun y hy=>?_⟩
    · have:=h.len
      have hne:gs≠[]:=by rintro rfl; simp at hz
      have:=List.length_pos_iff.2 hne
      simp; omega
    · rcases List.mem_append.1 hy with hy | hy
      · have:=h.each y (List.dropLast_subset _ hy)
        exact ⟨by omega,this.2⟩
      · rw [List.mem_singleton.1 hy]; exact hf z hz
theorem line_ok {n:Nat} {gs:List Grp} {w d:List UInt8} {b:Bool} (h:GsOk n gs):GsOk (n+1) (lineL gs w d b).1:=by
  have hl:∀ z,gs.getLast? =some z→z.na.length≤n∧z.ru.length≤6:=fun z hz=>h.each z (List.mem_of_getLast? hz)
  unfold lineL
  split
  · split
    · refine ⟨by have:=h.len; simp; omega,fun y hy=>?_⟩
      rcases List.mem_append.1 hy with hy | hy
      · have:=h.each y hy; exact ⟨by omega,this.2⟩
      · rw [List.mem_singleton.1 hy]; simp
    · exact h.set fun z hz=>⟨by have:=hl z hz; simp; omega,(hl z hz).2⟩
  · split
    · exact h.mono (by omega)
    · split
      · rename_i hc
        refine h.set fun z hz=>⟨by have:=hl z hz; simp only; omega,?_⟩
        have:=hc.2.2
        unfold lastRu at this
        rw [hz] at this
        simp only at this
        simp only [List.length_append,List.length_cons,List.length_nil]; omega
      · split
        · exact h.set fun z hz=>⟨by have:=hl z hz; simp only; omega,(hl z hz).2⟩
        · exact h.mono (by omega)
theorem cut_lens (c:UInt8):∀ (s:List UInt8),(cutL c s).1.length≤s.length∧(cutL c s).2.1.length≤s.length
  | []=>by simp [cutL]
  | x :: s=>by
    have:=cut_lens c s
    unfold cutL
    split <;> simp <;> omega
end Go.Pd
namespace Go.Pd
theorem take40 {α:Type} {l:List α} {i:Nat} (h1:i≤l.length) (h2:i≤40) (h:(i:Int) < l.length→(40:Int)≤i):l.take 40=l.take i:=by
  rcases Nat.lt_or_ge i l.length with hl | hl
  · have:=h (by omega)
    rw [show i=40 from by omega]
  · rw [List.take_of_length_le (by omega),List.take_of_length_le (by omega)]
end Go.Pd
namespace Go.Pd
def ofStep (n:List UInt8) (x:(List Rul×Nat)×Bool) (g:Grp):(List Rul×Nat)×Bool:=if g.na.any (fun y=>y==n)=true then ((x.1.1++g.ru,max x.1.2 g.wa),true) else x
def ofL (gs:List Grp) (n:List UInt8):Grp×Bool:=(⟨[n],(gs.foldl (ofStep n) (([],0),false)).1.1,(gs.foldl (ofStep n) (([],0),false)).1.2⟩,(gs.foldl (ofStep n) (([],0),false)).2)
theorem any_succ {α:Type} {f:α→Bool} {l:List α} {i:Nat} {d:α} (h:i < l.length):(l.take (i+1)).any f=((l.take i).any f||f (l.getD i d)):=by
  rw [take_succ_getD h d,List.any_append]; simp
end Go.Pd
namespace Go.Pd
def forL (gs:List Grp) (n:List UInt8):Grp:=if (ofL gs n).2=true then (ofL gs n).1 else (ofL gs [42]).1
end Go.Pd
namespace Go.Pd
theorem note_fold:∀ (l:List (List UInt8)) {k:Nat} {x:List Grp×Bool},GsOk k x.1→GsOk (k+l.length) (l.foldl noteStep x).1
  | [],k,x,h=>h
  | a :: l,k,x,h=>by
    have:=note_fold l (k:=k+1) (x:=noteStep x a) (line_ok h)
    exact this.mono (by simp; omega)
theorem notice_ok (t:List UInt8):GsOk 40 (noticeL t):=by
  have:=note_fold ((splitL 10 t).take 40) (k:=0) (x:=([],false)) ⟨by simp,by simp⟩
  exact this.mono (by simp; omega)
theorem GsOk.ru {n:Nat} {gs:List Grp} (h:GsOk n gs) (i:Nat):(gs.getD i ⟨[],[],0⟩).ru.length≤100∧(gs.getD i ⟨[],[],0⟩).na.length≤n:=by
  rw [List.getD_eq_getElem?_getD]
  cases e:gs[i]? with
  | none=>simp
  | some x=>have:=h.each x (List.mem_of_getElem? e); exact ⟨by simp only [Option.getD_some]; omega,this.1⟩
def saidL (k:Int) (t n:List UInt8):Grp:=if k=1 then forL (noticeL t) n else if k=3 then ⟨[n],[⟨false,[47]⟩],0⟩ else forL [] n
end Go.Pd
namespace Go.Pd
def worldNotL (w:List Pg) (d n:List UInt8):Grp:=
  if worldOkL w=true∧houseL d=true∧nameL n=true then ⟨[n],(saidL (getL w (doorL d) 2).1 (getL w (doorL d) 2).2 n).ru,(saidL (getL w (doorL d) 2).1 (getL w (doorL d) 2).2 n).wa⟩ else ⟨[],[],0⟩
theorem atL_mem:∀ (w:List Pg) (a:List UInt8),(atL w a).2=true→∃ i,(atL w a).1=w.getD i pg0
  | [],a,h=>by simp [atL] at h
  | p :: r,a,h=>by
    unfold atL at h ⊢
    split
    · exact ⟨0,rfl⟩
    · rename_i hp
      rw [if_neg hp] at h
      obtain ⟨i,hi⟩:=atL_mem r a h
      exact ⟨i+1,by rw [hi]; simp⟩
theorem getL_len {w:List Pg} {a:List UInt8} {k:Int} {m:Nat} (h:∀ i,(w.getD i pg0).text.length≤m∧(w.getD i pg0).lead.length≤m):(getL w a k).2.length≤m:=by
  unfold getL
  split
  · simp
  · rename_i h1
    have h1:(atL w a).2=true:=by simpa using h1
    obtain ⟨i,hi⟩:=atL_mem w a h1
    have:=h i
    rw [hi]
    split
    · simp
    · split <;> simp only <;> omega
end Go.Pd
namespace Go.Pd
def RuOk (gs:List Grp):Prop:= ∀ y,y∈gs→∀ r,r∈y.ru→r.path.length≤16
theorem RuOk.set {gs:List Grp} {f:Grp→Grp} (h:RuOk gs) (hf:∀ z,gs.getLast? =some z→∀ r,r∈(f z).ru→r.path.length≤16):RuOk (setLast gs f):=by
  unfold setLast
  split
  · exact h
  · rename_i z hz
    intro y hy
    rcases List.mem_append.1 hy with hy | hy
    · exact h y (List.dropLast_subset _ hy)
    · rw [List.mem_singleton.1 hy]; exact hf z hz
theorem line_ru {gs:List Grp} {w d:List UInt8} {b:Bool} (h:RuOk gs):RuOk (lineL gs w d b).1:=by
  have hl:∀ z,gs.getLast? =some z→∀ r,r∈z.ru→r.path.length≤16:=fun z hz=>h z (List.mem_of_getLast? hz)
  unfold lineL
  split
  · split
    · intro y hy
      rcases List.mem_append.1 hy with hy | hy
      · exact h y hy
      · rw [List.mem_singleton.1 hy]; simp
    · exact h.set fun z hz=>hl z hz
  · split
    · exact h
    · split
      · rename_i hc
        refine h.set fun z hz r hr=>?_
        rcases List.mem_append.1 hr with hr | hr
        · exact hl z hz r hr
        · rw [List.mem_singleton.1 hr]; exact (ruleOk_len hc.2.1).2
      · split
        · exact h.set fun z hz=>hl z hz
        · exact h
theorem notice_ru (t:List UInt8):RuOk (noticeL t):=by
  have:∀ (l:List (List UInt8)) (x:List Grp×Bool),RuOk x.1→RuOk (l.foldl noteStep x).1:=by
    intro l
    induction l with
    | nil=>exact fun x h=>h
    | cons a l ih=>exact fun x h=>ih _ (line_ru h)
  exact this _ _ (by intro y hy; simp at hy)
structure OfOk (m:Nat) (x:(List Rul×Nat)×Bool):Prop where
  l:x.1.1.length≤6 * m
  r:∀ r,r∈x.1.1→r.path.length≤16
theorem of_ok (n:List UInt8):∀ (gs:List Grp) {m k:Nat} {x:(List Rul×Nat)×Bool},OfOk m x→GsOk k gs→RuOk gs→OfOk (m+gs.length) (gs.foldl (ofStep n) x)
  | [],m,k,x,h,_,_=>h
  | g :: gs,m,k,x,h,h1,h2=>by
    have hs:OfOk (m+1) (ofStep n x g):=by
      unfold ofStep
      split
      · refine ⟨?_,fun r hr=>?_⟩
        · have:=h.l; have:=(h1.each g (by simp)).2; simp only [List.length_append]; omega
        · rcases List.mem_append.1 hr with hr | hr
          · exact h.r r hr
          · exact h2 g (by simp) r hr
      · exact ⟨by have:=h.l; omega,h.r⟩
    have:=of_ok n gs (k:=k) hs ⟨by have:=h1.len; simp at this; omega,fun y hy=>h1.each y (by simp [hy])⟩ (fun y hy=>h2 y (by simp [hy]))
    rw [List.foldl_cons,List.length_cons,show m+(gs.length+1)=m+1+gs.length from by omega]
    exact this
theorem forL_ok {gs:List Grp} (n:List UInt8) (h1:GsOk 40 gs) (h2:RuOk gs):(forL gs n).ru.length≤240∧∀ r,r∈(forL gs n).ru→r.path.length≤16:=by
  have key:∀ q,(ofL gs q).1.ru.length≤240∧∀ r,r∈(ofL gs q).1.ru→r.path.length≤16:=fun q=>by
    have:=of_ok q gs (m:=0) (x:=(([],0),false)) ⟨by simp,by simp⟩ h1 h2
    exact ⟨by have h3:=this.l; have:=h1.len; unfold ofL; simp only; omega,this.r⟩
  unfold forL
  split
  · exact key n
  · exact key [42]
theorem said_ok (k:Int) (t n:List UInt8):(saidL k t n).ru.length≤240∧∀ r,r∈(saidL k t n).ru→r.path.length≤16:=by
  unfold saidL
  split
  · exact forL_ok n (notice_ok t) (notice_ru t)
  · split
    · exact ⟨by simp,by simp⟩
    · exact forL_ok n ⟨by simp,by simp⟩ (fun y hy=>by simp at hy)
theorem worldNot_ok (w:List Pg) (d n:List UInt8):(worldNotL w d n).ru.length≤240∧∀ i,((worldNotL w d n).ru.getD i ⟨false,[]⟩).path.length≤16:=by
  have key:(worldNotL w d n).ru.length≤240∧∀ r,r∈(worldNotL w d n).ru→r.path.length≤16:=by
    unfold worldNotL
    split
    · exact said_ok _ _ _
    · exact ⟨by simp,by simp⟩
  refine ⟨key.1,fun i=>?_⟩
  rw [List.getD_eq_getElem?_getD]
  cases e:(worldNotL w d n).ru[i]? with
  | none=>simp
  | some x=>exact key.2 x (List.mem_of_getElem? e)
def worldLetsL (w:List Pg) (n p:List UInt8):Bool:=worldOkL w&&nameL n&&(readL p).isSome&&ruleLetsL (worldNotL w (oA (readL p)).house n).ru (pathL (oA (readL p)))
end Go.Pd
namespace Go.Pd
def preL (s p:List UInt8):Bool:=decide (p.length≤s.length)&&(s.take p.length==p)
def sufL (s p:List UInt8):Bool:=decide (p.length≤s.length)&&(s.drop (s.length - p.length)==p)
def trimL (s p:List UInt8):List UInt8:=if sufL s p=true then s.take (s.length - p.length) else s
theorem suf_le {s p:List UInt8} (h:sufL s p=true):p.length≤s.length:=by unfold sufL at h; simp at h; exact h.1
theorem pre_le {s p:List UInt8} (h:preL s p=true):p.length≤s.length:=by unfold preL at h; simp at h; exact h.1
end Go.Pd
namespace Go.Pd
def iRuleOk (p:List UInt8):Bool:=decide (1≤p.length∧p.length≤16∧(p.getD 0 0).toNat=47)&&(trimL p [36]).all patB
end Go.Pd
namespace Go.Proofs
open Go.Shelf
def Tryz.lays156_ren:Go.Shelf.Ren:=⟨fun | 156=>83 | 165=>122 | 166=>123 | 169=>124 | 240=>154 | 241=>155 | 276=>175 | 277=>176 | n=>n,fun | 31=>27 | 9=>9 | 3=>3 | 4=>4 | 0=>0 | 20=>20 | 72=>138 | 76=>142 | 70=>136 | 37=>22 | 75=>141 | 127=>172 | 164=>182 | 5=>5 | 80=>144 | n=>n,fun | n=>n⟩
theorem Tryz.lays156:Go.Proofs.Lays.n156 Tryz.prog Tryz.lays156_ren:={
  mixed:=by kernel_rfl
  f156:=Tryz.func83.trans (congrArg some (by kernel_rfl))
  f165:=Tryz.func122.trans (congrArg some (by kernel_rfl))
  f166:=Tryz.func123.trans (congrArg some (by kernel_rfl))
  f169:=Tryz.func124.trans (congrArg some (by kernel_rfl))
  f240:=Tryz.func154.trans (congrArg some (by kernel_rfl))
  f241:=Tryz.func155.trans (congrArg some (by kernel_rfl))
  f276:=Tryz.func175.trans (congrArg some (by kernel_rfl))
  f277:=Tryz.func176.trans (congrArg some (by kernel_rfl))
  t0:=Tryz.underlying0
  a0:=Tryz.isAgg0
  z0:=Tryz.sizeOf0
  v0:=Tryz.zeroValue0
  t3:=Tryz.underlying3
  a3:=Tryz.isAgg3
  z3:=Tryz.sizeOf3
  v3:=Tryz.zeroValue3
  t4:=Tryz.underlying4
  a4:=Tryz.isAgg4
  z4:=Tryz.sizeOf4
  v4:=Tryz.zeroValue4
  t9:=Tryz.underlying9
  a9:=Tryz.isAgg9
  z9:=Tryz.sizeOf9
  v9:=Tryz.zeroValue9
  t20:=Tryz.underlying20
  a20:=Tryz.isAgg20
  z20:=Tryz.sizeOf20
  v20:=Tryz.zeroValue20
  t31:=Tryz.underlying27
  a31:=Tryz.isAgg27
  z31:=Tryz.sizeOf27
  v31:=Tryz.zeroValue27
  t37:=Tryz.underlying22
  a37:=Tryz.isAgg22
  z37:=Tryz.sizeOf22
  v37:=Tryz.zeroValue22
  t70:=Tryz.underlying136
  a70:=Tryz.isAgg136
  z70:=Tryz.sizeOf136
  v70:=Tryz.zeroValue136
  t72:=Tryz.underlying138
  a72:=Tryz.isAgg138
  z72:=Tryz.sizeOf138
  v72:=Tryz.zeroValue138
  t75:=Tryz.underlying141
  a75:=Tryz.isAgg141
  z75:=Tryz.sizeOf141
  v75:=Tryz.zeroValue141
  t76:=Tryz.underlying142
  a76:=Tryz.isAgg142
  z76:=Tryz.sizeOf142
  v76:=Tryz.zeroValue142
  t127:=Tryz.underlying172
  a127:=Tryz.isAgg172
  z127:=Tryz.sizeOf172
  v127:=Tryz.zeroValue172
  t164:=Tryz.underlying182
  a164:=Tryz.isAgg182
  z164:=Tryz.sizeOf182
  v164:=Tryz.zeroValue182 }
theorem Tryz.Builder_Extra_156:Builder.Extra Tryz.prog Tryz.lays156_ren:={
  sizeBuilder:=by kernel_rfl
  liesBuilder:=by kernel_rfl
  t5:=Tryz.underlying5
  a5:=Tryz.isAgg5
  z5:=Tryz.sizeOf5
  v5:=Tryz.zeroValue5
  infoByte:=by kernel_rfl
  cellsByte:=by kernel_rfl
  sizeByte:=by kernel_rfl
  neB5:=by decide }
open Go.RowKit in
theorem Tryz.strings_Join_none (a:Option Addr) (c:Nat) (sep:ByteArray) (w:World):
    Calls Tryz.prog 83 #[.slice a 0 c,.string sep] w fun e w'=>e=.returned (.string ⟨#[]⟩)∧w'=w:=Any.strings_Join_none Tryz.lays156 Tryz.Builder_Extra_156 a c sep w
open Go.RowKit in
theorem Tryz.strings_Join (bk o c:Nat) (xs:List ByteArray) (sep:ByteArray) (w:World) (hcells:∀ (j:Nat) x,xs[j]? =some x→w.cell? ⟨bk,o+j,none⟩=some (.string x)) (hbk:bk < w.heap.size) (hN:xs.length≤140737488355328) (hcap:xs.length≤c) (hlen:(Lib.join (xs.map (·.data.toList)) sep.data.toList).length≤140737488355328):
    Calls Tryz.prog 83 #[.slice (some ⟨bk,o,none⟩) xs.length c,.string sep] w fun e w'=>e=.returned (.string ⟨(Lib.join (xs.map (·.data.toList)) sep.data.toList).toArray⟩)∧Below w.heap.size w w':=Any.strings_Join Tryz.lays156 Tryz.Builder_Extra_156 bk o c xs sep w hcells hbk hN hcap hlen
def Tryz.lays219_ren:Go.Shelf.Ren:=⟨fun | 219=>94 | 217=>130 | 225=>131 | 224=>132 | 267=>133 | 266=>164 | 314=>165 | n=>n,fun | 9=>9 | 3=>3 | 4=>4 | 5=>5 | 46=>149 | 146=>174 | 51=>173 | n=>n,fun | 1=>0 | n=>n⟩
theorem Tryz.lays219:Go.Proofs.Lays.n219 Tryz.prog Tryz.lays219_ren:={
  mixed:=by kernel_rfl
  f217:=Tryz.func130.trans (congrArg some (by kernel_rfl))
  f219:=Tryz.func94.trans (congrArg some (by kernel_rfl))
  f224:=Tryz.func132.trans (congrArg some (by kernel_rfl))
  f225:=Tryz.func131.trans (congrArg some (by kernel_rfl))
  f266:=Tryz.func164.trans (congrArg some (by kernel_rfl))
  f267:=Tryz.func133.trans (congrArg some (by kernel_rfl))
  f314:=Tryz.func165.trans (congrArg some (by kernel_rfl))
  t3:=Tryz.underlying3
  a3:=Tryz.isAgg3
  z3:=Tryz.sizeOf3
  v3:=Tryz.zeroValue3
  t4:=Tryz.underlying4
  a4:=Tryz.isAgg4
  z4:=Tryz.sizeOf4
  v4:=Tryz.zeroValue4
  t5:=Tryz.underlying5
  a5:=Tryz.isAgg5
  z5:=Tryz.sizeOf5
  v5:=Tryz.zeroValue5
  t9:=Tryz.underlying9
  a9:=Tryz.isAgg9
  z9:=Tryz.sizeOf9
  v9:=Tryz.zeroValue9
  t46:=Tryz.underlying149
  a46:=Tryz.isAgg149
  z46:=Tryz.sizeOf149
  v46:=Tryz.zeroValue149
  t51:=Tryz.underlying173
  a51:=Tryz.isAgg173
  z51:=Tryz.sizeOf173
  v51:=Tryz.zeroValue173
  t146:=Tryz.underlying174
  a146:=Tryz.isAgg174
  z146:=Tryz.sizeOf174
  v146:=Tryz.zeroValue174
  g1:=by kernel_rfl }
open Go.RowKit Go.Lib in
theorem Tryz.stringslite_Index_one (s:ByteArray) (c:UInt8) (w:World):
    Calls Tryz.prog 94 #[.string s,.string ⟨#[c]⟩] w fun e w'=>e=.returned (.int .i64 (Lib.indexByte s.data.toList c))∧w'=w:=Any.stringslite_Index_one Tryz.lays219 s c w
def Tryz.lays143_ren:Go.Shelf.Ren:=⟨fun | 143=>169 | 219=>94 | 217=>130 | 225=>131 | 224=>132 | 267=>133 | 266=>164 | 314=>165 | n=>n,fun | 9=>9 | 3=>3 | 4=>4 | 5=>5 | 46=>149 | 146=>174 | 51=>173 | n=>n,fun | 1=>0 | n=>n⟩
theorem Tryz.lays143:Go.Proofs.Lays.n143 Tryz.prog Tryz.lays143_ren:={
  mixed:=by kernel_rfl
  f143:=Tryz.func169.trans (congrArg some (by kernel_rfl))
  f217:=Tryz.func130.trans (congrArg some (by kernel_rfl))
  f219:=Tryz.func94.trans (congrArg some (by kernel_rfl))
  f224:=Tryz.func132.trans (congrArg some (by kernel_rfl))
  f225:=Tryz.func131.trans (congrArg some (by kernel_rfl))
  f266:=Tryz.func164.trans (congrArg some (by kernel_rfl))
  f267:=Tryz.func133.trans (congrArg some (by kernel_rfl))
  f314:=Tryz.func165.trans (congrArg some (by kernel_rfl))
  t3:=Tryz.underlying3
  a3:=Tryz.isAgg3
  z3:=Tryz.sizeOf3
  v3:=Tryz.zeroValue3
  t4:=Tryz.underlying4
  a4:=Tryz.isAgg4
  z4:=Tryz.sizeOf4
  v4:=Tryz.zeroValue4
  t5:=Tryz.underlying5
  a5:=Tryz.isAgg5
  z5:=Tryz.sizeOf5
  v5:=Tryz.zeroValue5
  t9:=Tryz.underlying9
  a9:=Tryz.isAgg9
  z9:=Tryz.sizeOf9
  v9:=Tryz.zeroValue9
  t46:=Tryz.underlying149
  a46:=Tryz.isAgg149
  z46:=Tryz.sizeOf149
  v46:=Tryz.zeroValue149
  t51:=Tryz.underlying173
  a51:=Tryz.isAgg173
  z51:=Tryz.sizeOf173
  v51:=Tryz.zeroValue173
  t146:=Tryz.underlying174
  a146:=Tryz.isAgg174
  z146:=Tryz.sizeOf174
  v146:=Tryz.zeroValue174
  g1:=by kernel_rfl }
open Go.RowKit Go.Lib in
theorem Tryz.strings_Index_one (s:ByteArray) (c:UInt8) (w:World):
    Calls Tryz.prog 169 #[.string s,.string ⟨#[c]⟩] w fun e w'=>e=.returned (.int .i64 (Lib.indexByte s.data.toList c))∧w'=w:=Any.strings_Index_one Tryz.lays143 s c w
def Tryz.lays138_ren:Go.Shelf.Ren:=⟨fun | 138=>168 | 195=>183 | 218=>185 | 143=>169 | 219=>94 | 217=>130 | 225=>131 | 224=>132 | 267=>133 | 266=>164 | 314=>165 | n=>n,fun | 9=>9 | 3=>3 | 4=>4 | 5=>5 | 0=>0 | 46=>149 | 146=>174 | 51=>173 | n=>n,fun | 1=>0 | n=>n⟩
theorem Tryz.lays138:Go.Proofs.Lays.n138 Tryz.prog Tryz.lays138_ren:={
  mixed:=by kernel_rfl
  f138:=Tryz.func168.trans (congrArg some (by kernel_rfl))
  f143:=Tryz.func169.trans (congrArg some (by kernel_rfl))
  f195:=Tryz.func183.trans (congrArg some (by kernel_rfl))
  f217:=Tryz.func130.trans (congrArg some (by kernel_rfl))
  f218:=Tryz.func185.trans (congrArg some (by kernel_rfl))
  f219:=Tryz.func94.trans (congrArg some (by kernel_rfl))
  f224:=Tryz.func132.trans (congrArg some (by kernel_rfl))
  f225:=Tryz.func131.trans (congrArg some (by kernel_rfl))
  f266:=Tryz.func164.trans (congrArg some (by kernel_rfl))
  f267:=Tryz.func133.trans (congrArg some (by kernel_rfl))
  f314:=Tryz.func165.trans (congrArg some (by kernel_rfl))
  t0:=Tryz.underlying0
  a0:=Tryz.isAgg0
  z0:=Tryz.sizeOf0
  v0:=Tryz.zeroValue0
  t3:=Tryz.underlying3
  a3:=Tryz.isAgg3
  z3:=Tryz.sizeOf3
  v3:=Tryz.zeroValue3
  t4:=Tryz.underlying4
  a4:=Tryz.isAgg4
  z4:=Tryz.sizeOf4
  v4:=Tryz.zeroValue4
  t5:=Tryz.underlying5
  a5:=Tryz.isAgg5
  z5:=Tryz.sizeOf5
  v5:=Tryz.zeroValue5
  t9:=Tryz.underlying9
  a9:=Tryz.isAgg9
  z9:=Tryz.sizeOf9
  v9:=Tryz.zeroValue9
  t46:=Tryz.underlying149
  a46:=Tryz.isAgg149
  z46:=Tryz.sizeOf149
  v46:=Tryz.zeroValue149
  t51:=Tryz.underlying173
  a51:=Tryz.isAgg173
  z51:=Tryz.sizeOf173
  v51:=Tryz.zeroValue173
  t146:=Tryz.underlying174
  a146:=Tryz.isAgg174
  z146:=Tryz.sizeOf174
  v146:=Tryz.zeroValue174
  g1:=by kernel_rfl }
open Go.RowKit Go.Lib in
theorem Tryz.strings_Count_one (s:ByteArray) (c:UInt8) (w:World):
    Calls Tryz.prog 168 #[.string s,.string ⟨#[c]⟩] w fun e w'=>e=.returned (.int .i64 (Lib.countByte s.data.toList c))∧w'=w:=Any.strings_Count_one Tryz.lays138 s c w
def Tryz.lays221_ren:Go.Shelf.Ren:=⟨fun | 221=>139 | 268=>167 | 138=>168 | 143=>169 | 195=>183 | 197=>184 | 218=>185 | 219=>94 | 260=>189 | 217=>130 | 225=>131 | 224=>132 | 267=>133 | 266=>164 | 314=>165 | n=>n,fun | 9=>9 | 3=>3 | 31=>27 | 4=>4 | 0=>0 | 105=>188 | 21=>21 | 5=>5 | 46=>149 | 119=>192 | 139=>195 | 138=>194 | 146=>174 | 51=>173 | n=>n,fun | 1=>0 | 3=>1 | 4=>2 | n=>n⟩
theorem Tryz.lays221:Go.Proofs.Lays.n221 Tryz.prog Tryz.lays221_ren:={
  mixed:=by kernel_rfl
  f138:=Tryz.func168.trans (congrArg some (by kernel_rfl))
  f143:=Tryz.func169.trans (congrArg some (by kernel_rfl))
  f195:=Tryz.func183.trans (congrArg some (by kernel_rfl))
  f197:=Tryz.func184.trans (congrArg some (by kernel_rfl))
  f217:=Tryz.func130.trans (congrArg some (by kernel_rfl))
  f218:=Tryz.func185.trans (congrArg some (by kernel_rfl))
  f219:=Tryz.func94.trans (congrArg some (by kernel_rfl))
  f221:=Tryz.func139.trans (congrArg some (by kernel_rfl))
  f224:=Tryz.func132.trans (congrArg some (by kernel_rfl))
  f225:=Tryz.func131.trans (congrArg some (by kernel_rfl))
  f260:=Tryz.func189.trans (congrArg some (by kernel_rfl))
  f266:=Tryz.func164.trans (congrArg some (by kernel_rfl))
  f267:=Tryz.func133.trans (congrArg some (by kernel_rfl))
  f268:=Tryz.func167.trans (congrArg some (by kernel_rfl))
  f314:=Tryz.func165.trans (congrArg some (by kernel_rfl))
  t0:=Tryz.underlying0
  a0:=Tryz.isAgg0
  z0:=Tryz.sizeOf0
  v0:=Tryz.zeroValue0
  t3:=Tryz.underlying3
  a3:=Tryz.isAgg3
  z3:=Tryz.sizeOf3
  v3:=Tryz.zeroValue3
  t4:=Tryz.underlying4
  a4:=Tryz.isAgg4
  z4:=Tryz.sizeOf4
  v4:=Tryz.zeroValue4
  t5:=Tryz.underlying5
  a5:=Tryz.isAgg5
  z5:=Tryz.sizeOf5
  v5:=Tryz.zeroValue5
  t9:=Tryz.underlying9
  a9:=Tryz.isAgg9
  z9:=Tryz.sizeOf9
  v9:=Tryz.zeroValue9
  t21:=Tryz.underlying21
  a21:=Tryz.isAgg21
  z21:=Tryz.sizeOf21
  v21:=Tryz.zeroValue21
  t31:=Tryz.underlying27
  a31:=Tryz.isAgg27
  z31:=Tryz.sizeOf27
  v31:=Tryz.zeroValue27
  t46:=Tryz.underlying149
  a46:=Tryz.isAgg149
  z46:=Tryz.sizeOf149
  v46:=Tryz.zeroValue149
  t51:=Tryz.underlying173
  a51:=Tryz.isAgg173
  z51:=Tryz.sizeOf173
  v51:=Tryz.zeroValue173
  t105:=Tryz.underlying188
  a105:=Tryz.isAgg188
  z105:=Tryz.sizeOf188
  v105:=Tryz.zeroValue188
  t119:=Tryz.underlying192
  a119:=Tryz.isAgg192
  z119:=Tryz.sizeOf192
  t138:=Tryz.underlying194
  a138:=Tryz.isAgg194
  z138:=Tryz.sizeOf194
  v138:=Tryz.zeroValue194
  t139:=Tryz.underlying195
  a139:=Tryz.isAgg195
  z139:=Tryz.sizeOf195
  v139:=Tryz.zeroValue195
  t146:=Tryz.underlying174
  a146:=Tryz.isAgg174
  z146:=Tryz.sizeOf174
  v146:=Tryz.zeroValue174
  g1:=by kernel_rfl
  g3:=by kernel_rfl
  g4:=by kernel_rfl }
def Tryz.lays153_ren:Go.Shelf.Ren:=⟨fun | 153=>63 | 152=>96 | 226=>97 | 227=>98 | 228=>99 | 137=>135 | 119=>136 | 224=>132 | 225=>131 | 217=>130 | 266=>164 | n=>n,fun | 9=>9 | 3=>3 | 4=>4 | 5=>5 | 21=>21 | 117=>115 | 116=>114 | 0=>0 | 46=>149 | 124=>151 | n=>n,fun | n=>n⟩
theorem Tryz.lays153:Go.Proofs.Lays.n153 Tryz.prog Tryz.lays153_ren:={
  mixed:=by kernel_rfl
  f119:=Tryz.func136.trans (congrArg some (by kernel_rfl))
  f137:=Tryz.func135.trans (congrArg some (by kernel_rfl))
  f152:=Tryz.func96.trans (congrArg some (by kernel_rfl))
  f153:=Tryz.func63.trans (congrArg some (by kernel_rfl))
  f217:=Tryz.func130.trans (congrArg some (by kernel_rfl))
  f224:=Tryz.func132.trans (congrArg some (by kernel_rfl))
  f225:=Tryz.func131.trans (congrArg some (by kernel_rfl))
  f226:=Tryz.func97.trans (congrArg some (by kernel_rfl))
  f227:=Tryz.func98.trans (congrArg some (by kernel_rfl))
  f228:=Tryz.func99.trans (congrArg some (by kernel_rfl))
  f266:=Tryz.func164.trans (congrArg some (by kernel_rfl))
  t0:=Tryz.underlying0
  a0:=Tryz.isAgg0
  z0:=Tryz.sizeOf0
  v0:=Tryz.zeroValue0
  t3:=Tryz.underlying3
  a3:=Tryz.isAgg3
  z3:=Tryz.sizeOf3
  v3:=Tryz.zeroValue3
  t4:=Tryz.underlying4
  a4:=Tryz.isAgg4
  z4:=Tryz.sizeOf4
  v4:=Tryz.zeroValue4
  t5:=Tryz.underlying5
  a5:=Tryz.isAgg5
  z5:=Tryz.sizeOf5
  v5:=Tryz.zeroValue5
  t9:=Tryz.underlying9
  a9:=Tryz.isAgg9
  z9:=Tryz.sizeOf9
  v9:=Tryz.zeroValue9
  t21:=Tryz.underlying21
  a21:=Tryz.isAgg21
  z21:=Tryz.sizeOf21
  v21:=Tryz.zeroValue21
  t46:=Tryz.underlying149
  a46:=Tryz.isAgg149
  z46:=Tryz.sizeOf149
  v46:=Tryz.zeroValue149
  t116:=Tryz.underlying114
  a116:=Tryz.isAgg114
  z116:=Tryz.sizeOf114
  t117:=Tryz.underlying115
  a117:=Tryz.isAgg115
  z117:=Tryz.sizeOf115
  v117:=Tryz.zeroValue115
  t124:=Tryz.underlying151
  a124:=Tryz.isAgg151
  z124:=Tryz.sizeOf151
  v124:=Tryz.zeroValue151 }
open Go.RowKit Go.Lib in
theorem Tryz.strings_IndexAny_laid (s chars:ByteArray) (w:World) (hs:s.size < 4294967281) (hcs:chars.size < 4294967281) (has:∀ (j:Nat) b,s.data.toList[j]? =some b→b.toNat < 128) (hac:∀ (j:Nat) b,chars.data.toList[j]? =some b→b.toNat < 128):
    Calls Tryz.prog 63 #[.string s,.string chars] w fun e w'=>e=.returned (.int .i64 (Lib.indexAny s.data.toList chars.data.toList))∧Below w.heap.size w w':=Any.strings_IndexAny_laid Tryz.lays153 (by kernel_rfl) s chars w hs hcs has hac
def Tryz.lays110_ren:Go.Shelf.Ren:=⟨fun | 110=>118 | 109=>150 | n=>n,fun | 31=>27 | 9=>9 | 4=>4 | 3=>3 | 0=>0 | n=>n,fun | n=>n⟩
theorem Tryz.lays110:Go.Proofs.Lays.n110 Tryz.prog Tryz.lays110_ren:={
  mixed:=by kernel_rfl
  f109:=Tryz.func150.trans (congrArg some (by kernel_rfl))
  f110:=Tryz.func118.trans (congrArg some (by kernel_rfl))
  t0:=Tryz.underlying0
  a0:=Tryz.isAgg0
  z0:=Tryz.sizeOf0
  v0:=Tryz.zeroValue0
  t3:=Tryz.underlying3
  a3:=Tryz.isAgg3
  z3:=Tryz.sizeOf3
  v3:=Tryz.zeroValue3
  t4:=Tryz.underlying4
  a4:=Tryz.isAgg4
  z4:=Tryz.sizeOf4
  v4:=Tryz.zeroValue4
  t9:=Tryz.underlying9
  a9:=Tryz.isAgg9
  z9:=Tryz.sizeOf9
  v9:=Tryz.zeroValue9
  t31:=Tryz.underlying27
  a31:=Tryz.isAgg27
  z31:=Tryz.sizeOf27
  v31:=Tryz.zeroValue27 }
open Go.Lib in
theorem Tryz.slices_Contains_string (b off n c:Nat) (zs:List ByteArray) (x:ByteArray) (w:World) (hz:n≤zs.length) (hbig:n≤9223372036854775807) (hc:∀ j,j < zs.length→w.cell? ⟨b,off+j,none⟩=some (.string (zs.getD j ByteArray.empty))):
    Calls Tryz.prog 118 #[.slice (some ⟨b,off,none⟩) n c,.string x] w fun e w'=>e=.returned (.bool (Lib.containsS (zs.take n) x))∧w'=w:=Any.slices_Contains_string Tryz.lays110 b off n c zs x w hz hbig hc
open Go.Lib in
theorem Tryz.slices_Contains_string_empty (a:Option Addr) (c:Nat) (x:ByteArray) (w:World):
    Calls Tryz.prog 118 #[.slice a 0 c,.string x] w fun e w'=>e=.returned (.bool false)∧w'=w:=Any.slices_Contains_string_empty Tryz.lays110 a c x w
def Tryz.laysNm216_ren:Go.Shelf.Ren:=⟨fun | 16=>49 | n=>n,fun | 24=>27 | 9=>9 | 4=>4 | n=>n,fun | n=>n⟩
theorem Tryz.laysNm216:Go.Proofs.Lays2.n16 Tryz.prog Tryz.laysNm216_ren:={
  mixed:=by kernel_rfl
  f16:=Tryz.func49.trans (congrArg some (by kernel_rfl))
  t4:=Tryz.underlying4
  a4:=Tryz.isAgg4
  z4:=Tryz.sizeOf4
  v4:=Tryz.zeroValue4
  t9:=Tryz.underlying9
  a9:=Tryz.isAgg9
  z9:=Tryz.sizeOf9
  v9:=Tryz.zeroValue9
  t24:=Tryz.underlying27
  a24:=Tryz.isAgg27
  z24:=Tryz.sizeOf27
  v24:=Tryz.zeroValue27
  i9:=by kernel_rfl }
open Go.RowKit Go.Lib in
theorem Tryz.slices_Clone_string (b off n c:Nat) (zs:List ByteArray) (w:World) (hz:n≤zs.length) (hbig:n * 16≤140737488355328) (hc:∀ j,j < zs.length→w.cell? ⟨b,off+j,none⟩=some (.string (zs.getD j ByteArray.empty))):
    Calls Tryz.prog 49 #[.slice (some ⟨b,off,none⟩) n c] w fun e w'=> ∃ v',e=.returned v'∧w'.ownsRow w.heap.size 9 1 v' n ((zs.take n).map (Value.string))∧v'≠.slice none 0 0∧Below w.heap.size w w':=Any.slices_Clone_string Tryz.laysNm216 b off n c zs w hz hbig hc
open Go.RowKit Go.Lib in
theorem Tryz.slices_Clone_string_nil (n c:Nat) (w:World):
    Calls Tryz.prog 49 #[.slice none n c] w fun e w'=>e=.returned (.slice none 0 0)∧w'=w:=Any.slices_Clone_string_nil Tryz.laysNm216 n c w
open Go.RowKit Go.Lib in
theorem Tryz.slices_Clone_string_zero (a:Addr) (c:Nat) (w:World):
    Calls Tryz.prog 49 #[.slice (some a) 0 c] w fun e w'=> ∃ v',e=.returned v'∧w'.ownsRow w.heap.size 9 1 v' 0 []∧v'≠.slice none 0 0∧Below w.heap.size w w':=Any.slices_Clone_string_zero Tryz.laysNm216 a c w
end Go.Proofs
namespace Go.Abs
open Go Go.RowKit
section
variable {P:Program}
theorem PF_of_PC {f:FuncId} {args:List V} {Q:V→Prop} (ho:V.ownsL args=false) (hp:args.all (fun v=>match v with | .dead=>false | .gv _ _=>false | .tup _=>false | _=>true)=true) (h:PC P f args Q):PF P f args [] (fun r h=>Q r∧h=[]):=by
  refine ⟨h.1,fun w Pb Kb cargs F hi=>?_⟩
  have hF0:∀ i v x,args[i]? =some v→cargs[i]? =some x→F (.slot i)=[]:=fun i v x hv hx=>by
    have hr:=hi.slot i v x hv hx
    have hm:=List.mem_of_getElem? hv
    exact RV_owns (w:=w) (Pb:=Pb) (by
      have:∀ (l:List V),V.ownsL l=false→∀ v∈l,v.owns=false:=by
        intro l; induction l with
        | nil=>intro _ v hv; simp at hv
        | cons a r ih=>
          intro h v hv
          simp only [V.ownsL,Bool.or_eq_false_iff] at h
          rcases List.mem_cons.1 hv with rfl | hv
          · exact h.1
          · exact ih h.2 v hv
      exact this _ ho v hm) hr
  have hrv:∀ (l:List V) (c:List Value),l.length=c.length→(∀ (i:Nat) v x,l[i]? =some v→c[i]? =some x→RV w Pb v x []∧v∈args)→RVs w Pb l c []:=by
    intro l
    induction l with
    | nil=>intro c hl _; cases c with | nil=>exact ⟨rfl,rfl⟩ | cons _ _=>simp at hl
    | cons v r ih=>
      intro c hl hx
      cases c with
      | nil=>simp at hl
      | cons x c=>
        obtain ⟨h0,hm⟩:=hx 0 v x rfl rfl
        have hv:=List.all_eq_true.1 hp v hm
        refine ⟨x,c,[],[],rfl,rfl,?_,ih c (by simpa using hl) fun i v' x' h1 h2=>hx (i+1) v' x' (by simpa using h1) (by simpa using h2)⟩
        cases v <;> first | exact h0 | simp at hv
  have hR:RVs w Pb args cargs []:=hrv args cargs hi.len.symm fun i v x hv hx=>by
    have:=hi.slot i v x hv hx
    rw [hF0 i v x hv hx] at this
    exact ⟨this,List.mem_of_getElem? hv⟩
  refine (h.2 w Pb cargs (fun g hg=>hi.bound g (hi.sub g hg)) hR).mono ?_
  rintro e w' ⟨r,x,Fr,Pb',rfl,hq,hrv,hnd,hfr,hP1,hP2,hB⟩
  refine ⟨r,x,[],Pb',fun g=>Kb g∨Pb' g,(fun r=>match r with | .slot i=>if i=0 then Fr else [] | .key _=>[]),rfl,⟨hq,rfl⟩,?_⟩
  have hold:∀ g,Kb g→g < w.heap.size:=hi.bound
  refine ⟨by simpa using hrv,fun k g v hk=>by simp [lk] at hk,fun r r' hne g hg=>?_,fun r=>?_,fun r g hg=>?_,fun g h=>.inr h,fun g h=>?_,hP1,fun _ h=>.inl h,fun g hg=>?_,⟨hB.os,hB.tape,hB.output,hB.size,fun g hg=>hB.block g (hold g hg)⟩⟩
  · cases r with
    | slot i=>
      simp only at hg; split at hg
      · rename_i hi0
        cases r' with
        | slot j=>simp only; rw [if_neg (fun c=>hne (by rw [hi0,c]))]; simp
        | key k=>simp
      · simp at hg
    | key k=>simp at hg
  · cases r <;> simp only
    · split
      · exact hnd
      · exact List.nodup_nil
    · exact List.nodup_nil
  · cases r with
    | slot i=>
      simp only at hg; split at hg
      · obtain ⟨h1,h2,h3⟩:=hfr g hg
        exact ⟨fun c=>c.elim (fun c=>by have:=hold g c; omega) h3,h2⟩
      · simp at hg
    | key k=>simp at hg
  · rcases h with h | h
    · have:=hold g h; have:=hB.size; omega
    · rcases hP2 g h with h | h
      · have:=hold g (hi.sub g h); have:=hB.size; omega
      · exact h.2
  · rcases hP2 g hg with h | h
    · exact .inl h
    · exact .inr fun c=>by have:=hold g c; omega
def RVm (w:World) (Pb:Nat→Prop) (v:V) (x:Value):Prop:=match v with | .agg us=> ∃ cs,x=.agg cs∧RL w Pb us cs.toList [] | .dead=>([]:List Nat)=[] | v=>R w Pb v [x] []
theorem RVs_cons {w:World} {Pb:Nat→Prop} {v:V} {vs:List V} {xs:List Value} (h:RVs w Pb (v :: vs) xs []):∃ x r,xs=x :: r∧RVm w Pb v x∧RVs w Pb vs r []:=by
  obtain ⟨x,r,F1,F2,e,hF,h1,h2⟩:=h
  have hF:=List.append_eq_nil_iff.1 hF.symm
  obtain ⟨rfl,rfl⟩:=hF
  exact ⟨x,r,e,h1,h2⟩
theorem RVs_lit {w:World} {Pb:Nat→Prop} {y:Value} {vs:List V} {xs:List Value} (h:RVs w Pb (.lit y :: vs) xs []):∃ r,xs=y :: r∧RVs w Pb vs r []:=by
  obtain ⟨x,r,e,h1,h2⟩:=RVs_cons h
  obtain ⟨_,e1,_⟩:=h1
  simp only [List.cons.injEq,and_true] at e1
  exact ⟨r,by rw [e,e1],h2⟩
theorem RVs_nil {w:World} {Pb:Nat→Prop} {xs:List Value} (h:RVs w Pb [] xs []):xs=[]:=h.1
theorem RVs_ss {w:World} {Pb:Nat→Prop} {f:Bool} {l:List (List UInt8)} {vs:List V} {xs:List Value} (h:RVs w Pb (.sl f (l.map sV) :: vs) xs []):∃ A c r,xs=.slice A l.length c :: r∧RVs w Pb vs r []∧l.length≤c∧
    (l=[]∨∃ b o,A=some ⟨b,o,none⟩∧Pb b∧∀ j x,(l.map Str)[j]? =some x→w.cell? ⟨b,o+j,none⟩=some (.string x)):=by
  obtain ⟨x,r,e,h1,h2⟩:=RVs_cons h
  obtain ⟨_,A,c,e1,hle,_,hx⟩:=h1
  simp only [List.cons.injEq,and_true,List.length_map] at e1 hle
  refine ⟨A,c,r,by rw [e,e1],h2,hle,?_⟩
  rcases hx with hx | ⟨b,o,sz,flat,hA,hb,hs,hn,hr,hc⟩
  · left; simpa using hx
  · right
    refine ⟨b,o,hA,hb,fun j x hj=>hc j _ ?_⟩
    have hfl:∀ (l:List (List UInt8)) {flat:List Value} {F},RL w Pb (l.map sV) flat F→flat=l.map fun t=>.string (Str t):=by
      intro l; induction l with
      | nil=>intro flat F h; exact h.1
      | cons t r ih=>
        intro flat F h
        obtain ⟨c1,c2,F1,F2,e1,_,h1,h2⟩:=h
        rw [e1,ih h2,h1.2.1]; rfl
    rw [hfl l hr]
    rw [List.getElem?_map] at hj ⊢
    cases hl:l[j]? with
    | none=>rw [hl] at hj; simp at hj
    | some t=>rw [hl] at hj; simp at hj; simp [hj]
theorem PC_val {f:FuncId} {args:List V} {res:V} {y:Value} (he:entersFn P f) (hv:res.val? =some y) (h:∀ (w:World) (Pb:Nat→Prop) cargs,(∀ g,Pb g→g < w.heap.size)→RVs w Pb args cargs []→Calls P f cargs.toArray w fun e w'=>e=.returned y∧Below w.heap.size w w'):PC P f args (fun r=>r=res):=by
  refine ⟨he,fun w Pb cargs hP hargs=>(h w Pb cargs hP hargs).mono ?_⟩
  rintro e w' ⟨rfl,hB⟩
  exact ⟨res,y,[],Pb,rfl,rfl,RV_val hv,List.nodup_nil,by simp,fun _ h=>h,fun _ h=>.inl h,hB⟩
end
end Go.Abs
namespace Go.Pd
def splitC (c:UInt8):List UInt8→List (List UInt8)
  | []=>[[]]
  | b :: l=>if b=c then [] :: splitC c l else match splitC c l with
    | []=>[[b]]
    | p :: r=>(b :: p) :: r
theorem splitC_ne (c:UInt8):∀ l,splitC c l≠[]
  | []=>by simp [splitC]
  | b :: l=>by
    unfold splitC; split
    · simp
    · split <;> simp
theorem splitC_miss (c:UInt8):∀ l,Lib.indexByte l c= -1→splitC c l=[l]
  | [],_=>rfl
  | b :: l,h=>by
    unfold Lib.indexByte at h
    split at h
    · simp at h
    · rename_i hb
      have hb:b≠c:=by simpa using hb
      split at h
      · rename_i h1
        have:=splitC_miss c l (by simpa using h1)
        unfold splitC
        rw [if_neg hb,this]
      · have:=Lib.indexByte_ge l c; omega
theorem splitC_hit (c:UInt8):∀ l (i:Nat),Lib.indexByte l c=i→splitC c l=l.take i :: splitC c (l.drop (i+1))∧i < l.length∧l.count c=(l.drop (i+1)).count c+1
  | [],i,h=>by unfold Lib.indexByte at h; omega
  | b :: l,i,h=>by
    unfold Lib.indexByte at h
    split at h
    · rename_i hb
      have hb:b=c:=by simpa using hb
      have:i=0:=by omega
      subst this hb
      simp [splitC]
    · rename_i hb
      have hb:b≠c:=by simpa using hb
      split at h
      · omega
      · rename_i h1
        have:=Lib.indexByte_ge l c
        have h1:Lib.indexByte l c≠ -1:=by simpa using h1
        obtain ⟨j,rfl⟩:∃ j,i=j+1:=⟨i - 1,by omega⟩
        obtain ⟨k1,k2,k3⟩:=splitC_hit c l j (by omega)
        refine ⟨?_,by simp; omega,by simp [List.count_cons,hb,k3]⟩
        conv=>lhs; unfold splitC
        rw [if_neg hb,k1]
        simp
theorem splitK_C (c:UInt8):∀ (k:Nat) (s:List UInt8),s.count c=k→Lib.splitK [c] 0 k s=splitC c s
  | 0,s,h=>by
    have:Lib.indexByte s c= -1:=by
      by_cases hc:Lib.indexByte s c= -1
      · exact hc
      · have h1:=Lib.indexByte_ge s c
        obtain ⟨i,hi⟩:∃ i:Nat,Lib.indexByte s c=i:=⟨(Lib.indexByte s c).toNat,by omega⟩
        have:=(splitC_hit c s i hi).2.2; omega
    rw [splitC_miss c s this]; rfl
  | k +1,s,h=>by
    by_cases hc:Lib.indexByte s c= -1
    · rw [splitC_miss c s hc]
      unfold Lib.splitK; rw [Lib.index_one,hc]; rfl
    · have h1:=Lib.indexByte_ge s c
      obtain ⟨i,hi⟩:∃ i:Nat,Lib.indexByte s c=i:=⟨(Lib.indexByte s c).toNat,by omega⟩
      obtain ⟨k1,k2,k3⟩:=splitC_hit c s i hi
      rw [k1]
      unfold Lib.splitK
      rw [Lib.index_one,hi]
      have: ¬ ((i:Int)== -1)=true:=by simp
      rw [if_neg this]
      simp only [Int.toNat_natCast,Nat.add_zero,List.length_singleton]
      rw [splitK_C c k _ (by omega)]
end Go.Pd
namespace Go.Pd
theorem cutL_miss (c:UInt8):∀ s,Lib.indexByte s c= -1→cutL c s=(s,[],false)
  | [],_=>rfl
  | b :: l,h=>by
    unfold Lib.indexByte at h
    split at h
    · simp at h
    · rename_i hb
      have hb:b≠c:=by simpa using hb
      split at h
      · rename_i h1
        have:=cutL_miss c l (by simpa using h1)
        simp only [cutL,if_neg hb,this]
      · have:=Lib.indexByte_ge l c; omega
theorem cutL_hit (c:UInt8):∀ s (i:Nat),Lib.indexByte s c=i→cutL c s=(s.take i,s.drop (i+1),true)∧i < s.length
  | [],i,h=>by unfold Lib.indexByte at h; omega
  | b :: l,i,h=>by
    unfold Lib.indexByte at h
    split at h
    · rename_i hb
      have hb:b=c:=by simpa using hb
      have:i=0:=by omega
      subst this
      simp [cutL,hb]
    · rename_i hb
      have hb:b≠c:=by simpa using hb
      split at h
      · omega
      · rename_i h1
        have:=Lib.indexByte_ge l c
        have h1:Lib.indexByte l c≠ -1:=by simpa using h1
        obtain ⟨j,rfl⟩:∃ j,i=j+1:=⟨i - 1,by omega⟩
        obtain ⟨k1,k2⟩:=cutL_hit c l j (by omega)
        refine ⟨?_,by simp; omega⟩
        simp only [cutL,if_neg hb,k1]; rfl
theorem idx_lt (s:List UInt8) (c:UInt8) (h:0≤Lib.indexByte s c):Lib.indexByte s c < s.length:=by
  obtain ⟨i,hi⟩:∃ i:Nat,Lib.indexByte s c=i:=⟨(Lib.indexByte s c).toNat,by omega⟩
  have:=(cutL_hit c s i hi).2; omega
theorem cutL_no {s:List UInt8} {c:UInt8} (h:Lib.indexByte s c < 0):cutL c s=(s,[],false):=cutL_miss c s (by have:=Lib.indexByte_ge s c; omega)
theorem cutL_yes {s:List UInt8} {c:UInt8} (h:0≤Lib.indexByte s c):cutL c s=(s.take (Lib.indexByte s c).toNat,s.drop ((Lib.indexByte s c).toNat+1),true):=(cutL_hit c s _ (by omega)).1
theorem splitC_L (c:UInt8):∀ s,splitC c s=splitL c s
  | []=>rfl
  | b :: l=>by
    have ih:=splitC_L c l
    unfold splitC splitL
    split
    · rw [ih]
    · rw [ih]
      cases h:splitL c l with
      | nil=>exact absurd (ih.trans h) (splitC_ne c l)
      | cons p r=>rfl
theorem join_L:∀ (l:List (List UInt8)),Lib.join l [47]=joinL l
  | []=>rfl
  | [p]=>Lib.join_one p _
  | p :: q :: r=>by
    have:=join_L (q :: r)
    rw [Lib.join_cons] at this ⊢
    simp only [Lib.joinTail,List.map_cons,List.flatten_cons] at this ⊢
    rw [show joinL (p :: q :: r)=p++[47]++joinL (q :: r) from rfl,← this]
    simp
theorem any_ge (s:List UInt8): -1≤Lib.indexAny s [47,63]:=Lib.indexAny_ge _ s
theorem any_spec:∀ (s:List UInt8),(Lib.indexAny s [47,63] < 0→s.takeWhile notW=s∧s.dropWhile notW=[])∧(0≤Lib.indexAny s [47,63]→s.takeWhile notW=s.take (Lib.indexAny s [47,63]).toNat∧s.dropWhile notW=s.drop (Lib.indexAny s [47,63]).toNat∧(Lib.indexAny s [47,63]).toNat < s.length)
  | []=>by simp [Lib.indexAny]
  | b :: l=>by
    obtain ⟨i1,i2⟩:=any_spec l
    have hg:=any_ge l
    have hn:notW b=!([47,63]:List UInt8).contains b:=by
      unfold notW
      have:(b.toNat=47↔b=47)∧(b.toNat=63↔b=63):=⟨by rw [← UInt8.toNat_inj]; rfl,by rw [← UInt8.toNat_inj]; rfl⟩
      rw [Bool.eq_iff_iff]
      simp [this]
    unfold Lib.indexAny
    cases hc:([47,63]:List UInt8).contains b with
    | true=>
      rw [hc] at hn
      simp [List.takeWhile_cons,List.dropWhile_cons,hn]
    | false=>
      rw [hc] at hn
      simp only [Bool.false_eq_true,if_false]
      by_cases h1:Lib.indexAny l [47,63]= -1
      · obtain ⟨k1,k2⟩:=i1 (by omega)
        rw [h1]
        simp [List.takeWhile_cons,List.dropWhile_cons,hn,k1,k2]
      · obtain ⟨k1,k2,k3⟩:=i2 (by omega)
        rw [if_neg (by simpa using h1)]
        refine ⟨fun h=>by omega,fun _=>?_⟩
        rw [show (Lib.indexAny l [47,63]+1).toNat=(Lib.indexAny l [47,63]).toNat+1 from by omega]
        simp [List.takeWhile_cons,List.dropWhile_cons,hn,k1,k2,k3]
end Go.Pd
namespace Go.Pd
def signOk (s:List UInt8) (i:Nat):Bool:=decide (i+2 < s.length)&&(decide (0≤hexL (s.getD (i+1) 0))&&decide (0≤hexL (s.getD (i+2) 0)))
def signF (s:List UInt8) (i:Nat):UInt8:=if signOk s i=true then hexB (s.getD (i+1) 0) (s.getD (i+2) 0) else 0
theorem signOk_iff {s:List UInt8} {i:Nat}:signOk s i=true↔i+2 < s.length∧0≤hexL (s.getD (i+1) 0)∧0≤hexL (s.getD (i+2) 0):=by
  unfold signOk; simp
theorem signF_yes {s:List UInt8} {i:Nat} (h:signOk s i=true):signF s i=hexB (s.getD (i+1) 0) (s.getD (i+2) 0):=if_pos h
theorem signF_no {s:List UInt8} {i:Nat} (h:signOk s i=false):signF s i=0:=if_neg (by rw [h]; decide)
end Go.Pd
namespace Go.Proofs.YthliifpcaahnnaaGreatDoor
open Go Go.Abs Go.RowKit Go.Pd
set_option maxRecDepth 20000
theorem Str_dl (l:List UInt8):(Str l).data.toList=l:=rfl
theorem idx1_pc (s:List UInt8) (c:UInt8):PC Tryz.prog 94 [sV s,sV [c]] (fun r=>r=iV (Lib.indexByte s c)):=by
  refine PC_val (entersFn_of Tryz.func94 (by kernel_rfl) (by kernel_rfl)) rfl fun w Pb cargs hP hargs=>?_
  obtain ⟨r,rfl,h1⟩:=RVs_lit hargs
  obtain ⟨r,rfl,h2⟩:=RVs_lit h1
  obtain rfl:=RVs_nil h2
  refine (Tryz.stringslite_Index_one (Str s) c w).mono ?_
  rintro e w' ⟨rfl,rfl⟩
  exact ⟨by rw [Str_dl],Below.refl _ _⟩
theorem idx1_ok (s:List UInt8) (c:UInt8):PF Tryz.prog 94 [sV s,sV [c]] [] (fun r h=>r=iV (Lib.indexByte s c)∧h=[]):=PF_of_PC rfl rfl (idx1_pc s c)
theorem any_ok (s:List UInt8) (hs:s.length≤1000000) (ha:∀ c,c∈s→c.toNat < 128):PF Tryz.prog 63 [sV s,sV [47,63]] [] (fun r h=>r=iV (Lib.indexAny s [47,63])∧h=[]):=by
  refine PF_of_PC rfl rfl (PC_val (entersFn_of Tryz.func63 (by kernel_rfl) (by kernel_rfl)) rfl fun w Pb cargs hP hargs=>?_)
  obtain ⟨r,rfl,h1⟩:=RVs_lit hargs
  obtain ⟨r,rfl,h2⟩:=RVs_lit h1
  obtain rfl:=RVs_nil h2
  refine (Tryz.strings_IndexAny_laid (Str s) (Str [47,63]) w (by rw [Str_size]; omega) (by rw [Str_size]; decide) (fun j b hb=>?_) (fun j b hb=>?_)).mono ?_
  · rw [Str_dl] at hb; exact ha b (List.mem_of_getElem? hb)
  · rw [Str_dl] at hb
    have:=List.mem_of_getElem? hb
    simp at this; rcases this with rfl | rfl <;> decide
  rintro e w' ⟨rfl,hB⟩
  exact ⟨by rw [Str_dl,Str_dl],hB⟩
theorem map_dl (l:List (List UInt8)):(l.map Str).map (·.data.toList)=l:=by
  rw [List.map_map]; conv=>rhs; rw [← List.map_id l]
  apply List.map_congr_left; intro x _; exact Str_dl x
theorem join_ok (f:Bool) (l:List (List UInt8)) (sep:List UInt8) (hl:l.length≤1000000) (hj:(Lib.join l sep).length≤1000000):PF Tryz.prog 83 [.sl f (l.map sV),sV sep] [] (fun r h=>r=sV (Lib.join l sep)∧h=[]):=by
  refine PF_of_PC rfl rfl (PC_val (entersFn_of Tryz.func83 (by kernel_rfl) (by kernel_rfl)) rfl fun w Pb cargs hP hargs=>?_)
  obtain ⟨A,c,r,rfl,h1,hle,hc⟩:=RVs_ss hargs
  obtain ⟨r,rfl,h2⟩:=RVs_lit h1
  obtain rfl:=RVs_nil h2
  rcases hc with rfl | ⟨b,o,rfl,hb,hc⟩
  · refine (Tryz.strings_Join_none A c (Str sep) w).mono ?_
    rintro e w' ⟨rfl,rfl⟩
    exact ⟨rfl,Below.refl _ _⟩
  · have:=Tryz.strings_Join b o c (l.map Str) (Str sep) w hc (hP b hb) (by simp; omega) (by simpa using hle) (by rw [map_dl,Str_dl]; omega)
    rw [List.length_map] at this
    refine this.mono ?_
    rintro e w' ⟨rfl,hB⟩
    exact ⟨by rw [map_dl,Str_dl]; rfl,hB⟩
theorem has_ok (f:Bool) (l:List (List UInt8)) (x:List UInt8) (hl:l.length≤1000000):PF Tryz.prog 118 [.sl f (l.map sV),sV x] [] (fun r h=>r=bV (l.contains x)∧h=[]):=by
  refine PF_of_PC rfl rfl (PC_val (entersFn_of Tryz.func118 (by kernel_rfl) (by kernel_rfl)) rfl fun w Pb cargs hP hargs=>?_)
  obtain ⟨A,c,r,rfl,h1,hle,hc⟩:=RVs_ss hargs
  obtain ⟨r,rfl,h2⟩:=RVs_lit h1
  obtain rfl:=RVs_nil h2
  rcases hc with rfl | ⟨b,o,rfl,hb,hc⟩
  · refine (Tryz.slices_Contains_string_empty A c (Str x) w).mono ?_
    rintro e w' ⟨rfl,rfl⟩
    exact ⟨rfl,Below.refl _ _⟩
  · refine (Tryz.slices_Contains_string b o l.length c (l.map Str) (Str x) w (by simp) (by omega) (fun j hj=>?_)).mono ?_
    · apply hc; rw [List.getD_eq_getElem?_getD,List.getElem?_eq_getElem hj]; rfl
    rintro e w' ⟨rfl,rfl⟩
    refine ⟨?_,Below.refl _ _⟩
    congr 2
    rw [Bool.eq_iff_iff,Lib.containsS_iff,List.contains_iff_mem,List.take_of_length_le (by simp),List.mem_map]
    exact ⟨fun ⟨y,h1,h2⟩=>by
      have:y=x:=by rw [← Str_dl y,h2,Str_dl]
      rw [← this]; exact h1,fun h=>⟨x,h,rfl⟩⟩
theorem split_pc (s:List UInt8) (c:UInt8) (hs:s.length≤1000000):PC Tryz.prog 139 [sV s,sV [c],iV 0,iV (-1)] (fun r=>r=.sl true ((splitC c s).map sV)):=by
  refine ⟨entersFn_of Tryz.func139 (by kernel_rfl) (by kernel_rfl),fun w Pb cargs hP hargs=>?_⟩
  obtain ⟨r,rfl,h1⟩:=RVs_lit hargs
  obtain ⟨r,rfl,h2⟩:=RVs_lit h1
  obtain ⟨r,rfl,h3⟩:=RVs_lit h2
  obtain ⟨r,rfl,h4⟩:=RVs_lit h3
  obtain rfl:=RVs_nil h4
  have hcnt:Lib.countB (Str s) (Str [c])=s.count c:=by
    show Lib.count (Str s).data.toList (Str [c]).data.toList=_
    rw [Str_dl,Str_dl,Lib.count_one]
  have hI:∀ (x:ByteArray) (cs:Array Value),x.size≤(Str s).size→Calls Tryz.prog (Tryz.lays221_ren.f 143) #[.string x,.string (Str [c])] (w.alloc (.cells cs (Tryz.lays221_ren.t 9))) fun e w'=>e=.returned (.int .i64 (Lib.indexB x (Str [c])))∧w'=w.alloc (.cells cs (Tryz.lays221_ren.t 9)):=fun x cs _=>
    (Tryz.strings_Index_one x c _).mono fun e w' h=>by
      rw [show Lib.indexB x (Str [c])=Lib.indexByte x.data.toList c from Lib.index_one _ _]; exact h
  have hC:Calls Tryz.prog (Tryz.lays221_ren.f 138) #[.string (Str s),.string (Str [c])] w fun e w'=>e=.returned (.int .i64 (Lib.countB (Str s) (Str [c])))∧w'=w:=
    (Tryz.strings_Count_one (Str s) c w).mono fun e w' h=>by
      rw [hcnt]; exact h
  have hcl:s.count c≤s.length:=List.count_le_length
  have hg:=Any.strings_genSplit_core Tryz.lays221 (by kernel_rfl) (Str s) (Str [c]) 0 (-1) (s.count c+1) w (by rw [Str_size]; omega) (by rw [Str_size]; simp) (Nat.zero_le _) hI hC (by decide) (by decide) (by rw [if_pos (by decide),hcnt,Str_size]; omega)
  have hlen:(Lib.splitB (Str [c]) 0 (s.count c) (Str s)).length=s.count c+1:=Lib.splitB_all _ (by rw [Str_size]; simp) 0 _ _ hcnt
  have hdat:(Lib.splitB (Str [c]) 0 (s.count c) (Str s)).map (·.data.toList)=splitC c s:=by
    rw [Lib.splitB_data,Str_dl,Str_dl]; exact splitK_C c _ s rfl
  have hl2:(splitC c s).length=s.count c+1:=by rw [← hdat,List.length_map,hlen]
  have hcells:Lib.cellsOf (Lib.splitB (Str [c]) 0 (s.count c) (Str s)) (s.count c+1)=((splitC c s).map fun t=>Value.string (Str t)).toArray:=by
    rw [← hlen,Lib.cellsOf_full,← hdat,List.map_map]
    congr 1
  refine hg.mono ?_
  rintro e w' ⟨he,hw⟩
  rw [Nat.add_sub_cancel,hlen] at he
  rw [Nat.add_sub_cancel,hcells] at hw
  subst hw
  refine ⟨_,_,[],fun g=>Pb g∨g=w.heap.size,he,rfl,?_,List.nodup_nil,by simp,fun _ h=>.inl h,fun g h=>h.imp id fun h=>⟨by omega,by rw [alloc_size]; omega⟩,⟨rfl,rfl,rfl,by rw [alloc_size]; omega,fun k hk=>alloc_old w _ k hk⟩⟩
  refine ⟨rfl,_,_,by rw [List.length_map,hl2],by simp [hl2],fun _=>by simp [hl2],.inr ⟨_,_,1,(splitC c s).map fun t=>Value.string (Str t),rfl,.inr rfl,Nat.one_pos,fun v hv=>?_,?_,fun j u hu=>?_⟩⟩
  · obtain ⟨t,_,rfl⟩:=List.mem_map.1 hv; rfl
  · have:∀ (l:List (List UInt8)) (w:World) (Pb:Nat→Prop),RL w Pb (l.map sV) (l.map fun t=>Value.string (Str t)) []:=by
      intro l w Pb; induction l with
      | nil=>exact ⟨rfl,rfl⟩
      | cons t r ih=>exact ⟨[_],_,[],[],rfl,rfl,⟨rfl,rfl,rfl⟩,ih⟩
    exact this _ _ _
  · rw [Nat.zero_add]
    have:(w.alloc (.cells ((splitC c s).map fun t=>Value.string (Str t)).toArray (Tryz.lays221_ren.t 9))).heap[w.heap.size]? =some (.cells ((splitC c s).map fun t=>Value.string (Str t)).toArray (Tryz.lays221_ren.t 9) (0,0)):=alloc_new w _
    have hb:Blk (w.alloc (.cells ((splitC c s).map fun t=>Value.string (Str t)).toArray (Tryz.lays221_ren.t 9))) w.heap.size ((splitC c s).map fun t=>Value.string (Str t)).toArray:=⟨_,(0,0),this,fun i _ h=>by omega⟩
    rw [cell_of_blk hb,List.getElem?_toArray]; exact hu
theorem split_ok (s:List UInt8) (c:UInt8) (hs:s.length≤1000000):PF Tryz.prog 139 [sV s,sV [c],iV 0,iV (-1)] [] (fun r h=>r=.sl true ((splitC c s).map sV)∧h=[]):=PF_of_PC rfl rfl (split_pc s c hs)
end Go.Proofs.YthliifpcaahnnaaGreatDoor
namespace Go.Proofs.YthliifpcaahnnaaGreatDoor
open Go Go.Abs Go.RowKit Go.Pd
set_option maxRecDepth 20000
theorem RL_ss (w:World) (Pb:Nat→Prop):∀ (l:List (List UInt8)),RL w Pb (l.map sV) (l.map fun t=>Value.string (Str t)) []
  | []=>⟨rfl,rfl⟩
  | _ :: r=>⟨[_],_,[],[],rfl,rfl,⟨rfl,rfl,rfl⟩,RL_ss w Pb r⟩
theorem own_of_row {w w':World} {Pb:Nat→Prop} {v:Value} {l:List (List UInt8)} (hP:∀ g,Pb g→g < w.heap.size) (h:w'.ownsRow w.heap.size 9 1 v l.length (l.map fun t=>Value.string (Str t))):
    ∃ F,RV w' Pb (.ow 1 (l.map sV)) v F∧F.Nodup∧∀ g,g∈F→w.heap.size≤g∧g < w'.heap.size∧¬ Pb g:=by
  obtain ⟨_,h⟩:=h
  rcases h with ⟨rfl,h0⟩ | ⟨g,cap,cur,rfl,hg,hb,hle,_,hsz,htk⟩
  · have:l=[]:=List.eq_nil_of_length_eq_zero h0
    subst this
    exact ⟨[],⟨0,0,0,.inl ⟨rfl,rfl,rfl,none,rfl⟩⟩,List.nodup_nil,by simp⟩
  · have hnp: ¬ Pb g:=fun c=>by have:=hP g c; omega
    by_cases hc:cap=0
    · subst hc
      have:l=[]:=List.eq_nil_of_length_eq_zero (by omega)
      subst this
      exact ⟨[],⟨0,0,0,.inl ⟨rfl,rfl,rfl,_,rfl⟩⟩,List.nodup_nil,by simp⟩
    · have hgl:g < w'.heap.size:=by
        cases hh:w'.heap[g]? with
        | none=>rw [hh] at hb; cases hb
        | some o=>exact (Array.getElem?_eq_some_iff.1 hh).1
      refine ⟨[g],⟨g,0,cap,.inr ⟨by omega,Nat.one_pos,by simpa using hle,by simp,fun v hv=>?_,hnp,_,[],cur,rfl,RL_ss w' Pb l,⟨9,(0,0),hb,fun i _ h=>by omega⟩,by omega,fun j u hu=>?_⟩⟩,by simp,fun x hx=>?_⟩
      · obtain ⟨t,_,rfl⟩:=List.mem_map.1 hv; rfl
      · rw [← htk,List.getElem?_take] at hu
        split at hu
        · rw [Nat.zero_add,← Array.getElem?_toList]; exact hu
        · simp at hu
      · obtain rfl:=List.mem_singleton.1 hx
        exact ⟨hg,hgl,hnp⟩
theorem clone_pc (f:Bool) (l:List (List UInt8)) (hl:l.length≤1000000):PC Tryz.prog 49 [.sl f (l.map sV)] (fun r=>r=.ow 1 (l.map sV)):=by
  refine ⟨entersFn_of Tryz.func49 (by kernel_rfl) (by kernel_rfl),fun w Pb cargs hP hargs=>?_⟩
  obtain ⟨A,c,r,rfl,h1,hle,hc⟩:=RVs_ss hargs
  obtain rfl:=RVs_nil h1
  rcases hc with rfl | ⟨b,o,rfl,hb,hc⟩
  · cases A with
    | none=>
      refine (Tryz.slices_Clone_string_nil 0 c w).mono ?_
      rintro e w' ⟨rfl,rfl⟩
      exact ⟨_,_,[],Pb,rfl,rfl,⟨0,0,0,.inl ⟨rfl,rfl,rfl,none,rfl⟩⟩,List.nodup_nil,by simp,fun _ h=>h,fun _ h=>.inl h,Below.refl _ _⟩
    | some a=>
      refine (Tryz.slices_Clone_string_zero a c w).mono ?_
      rintro e w' ⟨v,rfl,hr,_,hB⟩
      obtain ⟨F,k1,k2,k3⟩:=own_of_row (l:=[]) hP hr
      exact ⟨_,_,F,Pb,rfl,rfl,k1,k2,k3,fun _ h=>h,fun _ h=>.inl h,hB⟩
  · refine (Tryz.slices_Clone_string b o l.length c (l.map Str) w (by simp) (by omega) (fun j hj=>?_)).mono ?_
    · apply hc; rw [List.getD_eq_getElem?_getD,List.getElem?_eq_getElem hj]; rfl
    rintro e w' ⟨v,rfl,hr,_,hB⟩
    rw [List.take_of_length_le (by simp),List.map_map] at hr
    obtain ⟨F,k1,k2,k3⟩:=own_of_row hP hr
    exact ⟨_,_,F,Pb,rfl,rfl,k1,k2,k3,fun _ h=>h,fun _ h=>.inl h,hB⟩
theorem clone_ok (f:Bool) (l:List (List UInt8)) (hl:l.length≤1000000):PF Tryz.prog 49 [.sl f (l.map sV)] [] (fun r h=>r=.ow 1 (l.map sV)∧h=[]):=PF_of_PC rfl rfl (clone_pc f l hl)
end Go.Proofs.YthliifpcaahnnaaGreatDoor
namespace Go.Pd
def foldI (b:Int):Int:=if 97≤b∧b≤102 then b - 32 else b
def figAt (i:Nat):Int:=if i < 10 then 48+i else 55+i
def figV (b:Int):Int:=if 48≤foldI b∧foldI b≤57 then foldI b - 48 else if 65≤foldI b∧foldI b≤70 then foldI b - 55 else -1
theorem figs_at:∀ i,(h:i < 16)→((((⟨#[48,49,50,51,52,53,54,55,56,57,65,66,67,68,69,70]⟩:ByteArray)[i]'h).toNat:Nat):Int)=figAt i:=by decide
theorem figAt_lt {i:Nat} (h:i < 16):figAt i < 128:=by unfold figAt; split <;> omega
theorem figV_hex (b:UInt8):figV b.toNat=hexL b:=by
  unfold figV foldI hexL
  have:=b.toNat_lt
  repeat' split
  all_goals omega
theorem fig_hit {b:Int} {i:Nat} (hi:i < 16) (h:figAt i=foldI b):figV b=i:=by
  unfold figAt at h
  unfold figV
  split at h
  · rw [if_pos (by omega)]; omega
  · rw [if_neg (by omega),if_pos (by omega)]; omega
theorem fig_miss {b:Int} (h:∀ j:Nat,j < 16→figAt j≠foldI b):figV b= -1:=by
  unfold figV
  split
  · rename_i hc
    refine absurd ?_ (h (foldI b - 48).toNat (by omega))
    unfold figAt; rw [if_pos (by omega)]; omega
  · split
    · rename_i hc
      refine absurd ?_ (h (foldI b - 55).toNat (by omega))
      unfold figAt; rw [if_neg (by omega)]; omega
    · rfl
end Go.Pd
namespace Go.Proofs.YthliifpcaahnnaaGreatDoor
open Go Go.RowKit Go.Lib Go.Pd
set_option maxHeartbeats 1000000 in
set_option maxRecDepth 100000 in
theorem fig_lo (b:Int) (h0:0≤b) (h1:b < 256) (hlo:decide ((97:Int)≤b)=false) (w:World):Calls Tryz.prog 166 #[.int .u8 b] w fun e w'=>e=.returned (.tuple #[.int .i64 (max (figV b) 0),.bool (decide (0≤figV b))])∧∃ pos,w'=w.iter ⟨#[48,49,50,51,52,53,54,55,56,57,65,66,67,68,69,70]⟩ pos:=by
  have HF:Aside (foldI b=b):=by
    have:=of_decide_eq_false hlo; unfold Aside foldI; rw [if_neg (by omega)]
  go_enter Tryz.func166,Tryz.ntmps166
  go_wp2
  go_loopg [4,5] 16 (fun g _ _ wx=> ∃ i:Nat,i+g=16∧wx=w.iter ⟨#[48,49,50,51,52,53,54,55,56,57,65,66,67,68,69,70]⟩ i∧∀ j:Nat,j < i→figAt j≠foldI b)
  case atStart=>exact ⟨0,by omega,rfl,fun j hj=>by omega⟩
  case round=>
    obtain ⟨i,hig,rfl,hno⟩:=hrel
    have HN:Aside (∀ j:Nat,j < i→figAt j≠foldI b):=hno
    clear hno
    cases gk with
    | zero=>
      obtain rfl:i=16:=by omega
      have hnx:=run_next_end (P:=Tryz.prog) w ⟨#[48,49,50,51,52,53,54,55,56,57,65,66,67,68,69,70]⟩ 16
      go_wp2
      go_ret2
      exact ⟨by rw [fig_miss HN.out]; rfl,_,rfl⟩
    | succ g=>
      have hi:i < (⟨#[48,49,50,51,52,53,54,55,56,57,65,66,67,68,69,70]⟩:ByteArray).size:=by show i < 16; omega
      have hfa:((((⟨#[48,49,50,51,52,53,54,55,56,57,65,66,67,68,69,70]⟩:ByteArray)[i]'hi).toNat:Nat):Int)=figAt i:=figs_at i hi
      have hlt:((⟨#[48,49,50,51,52,53,54,55,56,57,65,66,67,68,69,70]⟩:ByteArray)[i]'hi).toNat < 128:=by have:=figAt_lt (show i < 16 from hi); omega
      have hnx:=fun ty=>run_next_ascii (P:=Tryz.prog) w ⟨#[48,49,50,51,52,53,54,55,56,57,65,66,67,68,69,70]⟩ i ty hi hlt
      rw [hfa] at hnx
      clear hlt hfa
      cases hin:(figAt i==b)
      · have HI:Aside ((figAt i==b)=false):=hin
        go_wp2
        go_roundg g
        case measure=>omega
        case rel=>exact ⟨i+1,by omega,rfl,fun j hj=>by
          by_cases e:j=i
          · subst e; rw [HF.out]; exact beq_eq_false_iff_ne.1 HI.out
          · exact HN.out j (by omega)⟩
      · have HI:Aside ((figAt i==b)=true):=hin
        go_wp2
        go_ret2
        exact ⟨by rw [fig_hit (by have:i < 16:=hi; exact this) (by rw [HF.out]; exact beq_iff_eq.1 HI.out)]; simp,_,rfl⟩
set_option maxHeartbeats 1000000 in
set_option maxRecDepth 100000 in
theorem fig_hi (b:Int) (h0:0≤b) (h1:b < 256) (hlo:decide ((97:Int)≤b)=true) (hhi:decide (b≤102)=false) (w:World):Calls Tryz.prog 166 #[.int .u8 b] w fun e w'=>e=.returned (.tuple #[.int .i64 (max (figV b) 0),.bool (decide (0≤figV b))])∧∃ pos,w'=w.iter ⟨#[48,49,50,51,52,53,54,55,56,57,65,66,67,68,69,70]⟩ pos:=by
  have HF:Aside (foldI b=b):=by
    have:=of_decide_eq_false hhi; unfold Aside foldI; rw [if_neg (by omega)]
  go_enter Tryz.func166,Tryz.ntmps166
  go_wp2
  go_loopg [4,5] 16 (fun g _ _ wx=> ∃ i:Nat,i+g=16∧wx=w.iter ⟨#[48,49,50,51,52,53,54,55,56,57,65,66,67,68,69,70]⟩ i∧∀ j:Nat,j < i→figAt j≠foldI b)
  case atStart=>exact ⟨0,by omega,rfl,fun j hj=>by omega⟩
  case round=>
    obtain ⟨i,hig,rfl,hno⟩:=hrel
    have HN:Aside (∀ j:Nat,j < i→figAt j≠foldI b):=hno
    clear hno
    cases gk with
    | zero=>
      obtain rfl:i=16:=by omega
      have hnx:=run_next_end (P:=Tryz.prog) w ⟨#[48,49,50,51,52,53,54,55,56,57,65,66,67,68,69,70]⟩ 16
      go_wp2
      go_ret2
      exact ⟨by rw [fig_miss HN.out]; rfl,_,rfl⟩
    | succ g=>
      have hi:i < (⟨#[48,49,50,51,52,53,54,55,56,57,65,66,67,68,69,70]⟩:ByteArray).size:=by show i < 16; omega
      have hfa:((((⟨#[48,49,50,51,52,53,54,55,56,57,65,66,67,68,69,70]⟩:ByteArray)[i]'hi).toNat:Nat):Int)=figAt i:=figs_at i hi
      have hlt:((⟨#[48,49,50,51,52,53,54,55,56,57,65,66,67,68,69,70]⟩:ByteArray)[i]'hi).toNat < 128:=by have:=figAt_lt (show i < 16 from hi); omega
      have hnx:=fun ty=>run_next_ascii (P:=Tryz.prog) w ⟨#[48,49,50,51,52,53,54,55,56,57,65,66,67,68,69,70]⟩ i ty hi hlt
      rw [hfa] at hnx
      clear hlt hfa
      cases hin:(figAt i==b)
      · have HI:Aside ((figAt i==b)=false):=hin
        go_wp2
        go_roundg g
        case measure=>omega
        case rel=>exact ⟨i+1,by omega,rfl,fun j hj=>by
          by_cases e:j=i
          · subst e; rw [HF.out]; exact beq_eq_false_iff_ne.1 HI.out
          · exact HN.out j (by omega)⟩
      · have HI:Aside ((figAt i==b)=true):=hin
        go_wp2
        go_ret2
        exact ⟨by rw [fig_hit (by have:i < 16:=hi; exact this) (by rw [HF.out]; exact beq_iff_eq.1 HI.out)]; simp,_,rfl⟩
set_option maxHeartbeats 1000000 in
set_option maxRecDepth 100000 in
theorem fig_fold (b:Int) (h0:0≤b) (h1:b < 256) (hlo:decide ((97:Int)≤b)=true) (hhi:decide (b≤102)=true) (w:World):Calls Tryz.prog 166 #[.int .u8 b] w fun e w'=>e=.returned (.tuple #[.int .i64 (max (figV b) 0),.bool (decide (0≤figV b))])∧∃ pos,w'=w.iter ⟨#[48,49,50,51,52,53,54,55,56,57,65,66,67,68,69,70]⟩ pos:=by
  have HF:Aside (foldI b=(b - 32) % 256):=by
    have:=of_decide_eq_true hhi; have:=of_decide_eq_true hlo; unfold Aside foldI; rw [if_pos (by omega)]; omega
  go_enter Tryz.func166,Tryz.ntmps166
  go_wp2
  go_loopg [4,5] 16 (fun g _ _ wx=> ∃ i:Nat,i+g=16∧wx=w.iter ⟨#[48,49,50,51,52,53,54,55,56,57,65,66,67,68,69,70]⟩ i∧∀ j:Nat,j < i→figAt j≠foldI b)
  case atStart=>exact ⟨0,by omega,rfl,fun j hj=>by omega⟩
  case round=>
    obtain ⟨i,hig,rfl,hno⟩:=hrel
    have HN:Aside (∀ j:Nat,j < i→figAt j≠foldI b):=hno
    clear hno
    cases gk with
    | zero=>
      obtain rfl:i=16:=by omega
      have hnx:=run_next_end (P:=Tryz.prog) w ⟨#[48,49,50,51,52,53,54,55,56,57,65,66,67,68,69,70]⟩ 16
      go_wp2
      go_ret2
      exact ⟨by rw [fig_miss HN.out]; rfl,_,rfl⟩
    | succ g=>
      have hi:i < (⟨#[48,49,50,51,52,53,54,55,56,57,65,66,67,68,69,70]⟩:ByteArray).size:=by show i < 16; omega
      have hfa:((((⟨#[48,49,50,51,52,53,54,55,56,57,65,66,67,68,69,70]⟩:ByteArray)[i]'hi).toNat:Nat):Int)=figAt i:=figs_at i hi
      have hlt:((⟨#[48,49,50,51,52,53,54,55,56,57,65,66,67,68,69,70]⟩:ByteArray)[i]'hi).toNat < 128:=by have:=figAt_lt (show i < 16 from hi); omega
      have hnx:=fun ty=>run_next_ascii (P:=Tryz.prog) w ⟨#[48,49,50,51,52,53,54,55,56,57,65,66,67,68,69,70]⟩ i ty hi hlt
      rw [hfa] at hnx
      clear hlt hfa
      cases hin:(figAt i==(b - 32) % 256)
      · have HI:Aside ((figAt i==(b - 32) % 256)=false):=hin
        go_wp2
        go_roundg g
        case measure=>omega
        case rel=>exact ⟨i+1,by omega,rfl,fun j hj=>by
          by_cases e:j=i
          · subst e; rw [HF.out]; exact beq_eq_false_iff_ne.1 HI.out
          · exact HN.out j (by omega)⟩
      · have HI:Aside ((figAt i==(b - 32) % 256)=true):=hin
        go_wp2
        go_ret2
        exact ⟨by rw [fig_hit (by have:i < 16:=hi; exact this) (by rw [HF.out]; exact beq_iff_eq.1 HI.out)]; simp,_,rfl⟩
open Go.Abs in
theorem fig_pc (b:UInt8):PC Tryz.prog 166 [uN b.toNat] (fun r=>r=.tup [iV (max (hexL b) 0),bV (decide (0≤hexL b))]):=by
  refine ⟨entersFn_of Tryz.func166 (by kernel_rfl) (by kernel_rfl),fun w Pb cargs hP hargs=>?_⟩
  obtain ⟨r,rfl,h1⟩:=RVs_lit hargs
  obtain rfl:=RVs_nil h1
  have hb:=b.toNat_lt
  have h:Calls Tryz.prog 166 #[.int .u8 b.toNat] w fun e w'=>e=.returned (.tuple #[.int .i64 (max (figV b.toNat) 0),.bool (decide (0≤figV b.toNat))])∧∃ pos,w'=w.iter ⟨#[48,49,50,51,52,53,54,55,56,57,65,66,67,68,69,70]⟩ pos:=by
    cases h1:decide ((97:Int)≤b.toNat)
    · exact fig_lo _ (by omega) (by omega) h1 w
    · cases h2:decide ((b.toNat:Int)≤102)
      · exact fig_hi _ (by omega) (by omega) h1 h2 w
      · exact fig_fold _ (by omega) (by omega) h1 h2 w
  rw [figV_hex] at h
  refine h.mono ?_
  rintro e w' ⟨rfl,pos,rfl⟩
  exact ⟨_,_,[],Pb,rfl,rfl,RV_pair rfl rfl,List.nodup_nil,by simp,fun _ h=>h,fun _ h=>.inl h,⟨rfl,rfl,rfl,by simp [World.iter],fun k hk=>Go.Abs.alloc_old w _ k hk⟩⟩
open Go.Abs in
theorem fig_ok (b:UInt8):PF Tryz.prog 166 [uN b.toNat] [] (fun r h=>r=.tup [iV (max (hexL b) 0),bV (decide (0≤hexL b))]∧h=[]):=PF_of_PC rfl rfl (fig_pc b)
end Go.Proofs.YthliifpcaahnnaaGreatDoor
namespace Go.Proofs.YthliifpcaahnnaaGreatDoor
open Go Go.Abs Go.RowKit
def zt4:ZT Tryz.prog:=⟨4,bV false,zero_of (cs:=[.bool false]) (by kernel_rfl) (by kernel_rfl)⟩
def zt29:ZT Tryz.prog:=⟨29,.agg [sV [],.sl true [],bV false,sV []],zero_of (cs:=[.string ⟨#[]⟩,.slice none 0 0,.bool false,.string ⟨#[]⟩]) (by kernel_rfl) (by kernel_rfl)⟩
def zt36:ZT Tryz.prog:=⟨36,.agg [.sl true [],.sl true [],iN 0],zero_of (cs:=[.slice none 0 0,.slice none 0 0,.int .i64 0]) (by kernel_rfl) (by kernel_rfl)⟩
def zt65:ZT Tryz.prog:=⟨65,.agg [sV [],sV [],sV [],iN 0],zero_of (cs:=[.string ⟨#[]⟩,.string ⟨#[]⟩,.string ⟨#[]⟩,.int .i64 0]) (by kernel_rfl) (by kernel_rfl)⟩
def zt68:ZT Tryz.prog:=⟨68,.agg [bV false,sV []],zero_of (cs:=[.bool false,.string ⟨#[]⟩]) (by kernel_rfl) (by kernel_rfl)⟩
def zt84:ZT Tryz.prog:=⟨84,.agg [.sl true [],iN 0],zero_of (cs:=[.slice none 0 0,.int .i64 0]) (by kernel_rfl) (by kernel_rfl)⟩
def zt130:ZT Tryz.prog:=⟨130,.agg [.sl true [],bV false],zero_of (cs:=[.slice none 0 0,.bool false]) (by kernel_rfl) (by kernel_rfl)⟩
def zt163:ZT Tryz.prog:=⟨163,.agg [sV []],zero_of (cs:=[.string ⟨#[]⟩]) (by kernel_rfl) (by kernel_rfl)⟩
def zt165:ZT Tryz.prog:=⟨165,.agg [.agg [bV false,sV []]],zero_of (cs:=[.bool false,.string ⟨#[]⟩]) (by kernel_rfl) (by kernel_rfl)⟩
def zt168:ZT Tryz.prog:=⟨168,.agg [iN 0],zero_of (cs:=[.int .i64 0]) (by kernel_rfl) (by kernel_rfl)⟩
end Go.Proofs.YthliifpcaahnnaaGreatDoor
namespace Go.Proofs.YthliifpcaahnnaaGreatDoor
open Go Go.Abs Go.RowKit Go.Pd
set_option maxRecDepth 20000
theorem mixed:Tryz.prog.follows .mixedOrders=true:=by kernel_rfl
abbrev l1Cut_r (s:List UInt8) (c:UInt8):V:=.tup [sV ((cutL c s).1),sV ((cutL c s).2.1),bV ((cutL c s).2.2)]
abbrev l1Cut_k0 (s:List UInt8) (c:UInt8) (i:Nat):Prop:=i≤s.length∧cutL c s=(s.take i++(cutL c (s.drop i)).1,(cutL c (s.drop i)).2.1,(cutL c (s.drop i)).2.2)
theorem l1Cut_ok (s:List UInt8) (c:UInt8) (hs:s.length≤4611686018427387904):PF Tryz.prog 66 [sV s,uN c.toNat] [] (fun r h=>r=(l1Cut_r s c)∧h=[]):=by
 refine PF_go1 (N:=27) (rs:=[.tmp 4,.tmp 5,.tmp 6]) Tryz.func66 (by kernel_rfl) rfl rfl rfl (by kernel_rfl)
  (.r 3 [] <| .r 1 [] <| .loop (Nat) (fun (i:Nat)=>⟨[(0,sV s),(1,uN c.toNat),(7,iN i)],[]⟩) (fun (i:Nat)=>l1Cut_k0 s c i) (fun (i:Nat)=>s.length - i) (fun (i:Nat)=>.r 4 [] <| .br (.r 5 [] <| .br (.d 8 <| .r 8 [] <| .r 2 [] <| .nil) (.r 3 [] <| .nil)) (.r 4 [] <| .nil)))
  (True∧True∧(∃ i₀:Nat,(l1Cut_k0 s c i₀)∧(E (sV s)∧E (uN c.toNat)∧Q (iN 0) (iN i₀)∧True)∧True)∧∀ i:Nat,(l1Cut_k0 s c i)→True∧Br (ltB (i:Int) (s.length:Int)) ((Ix (i:Int) s∧True)∧Br (eqB (((s.getD i 0).toNat:Nat):Int) (c.toNat:Int)) ((Sx (0:Int) (i:Int) s∧I64 ((i:Int)+1)∧Sx ((i+1:Nat):Int) (s.length:Int) s∧True)∧True∧True∧Q (.tup [sV ((s.take i).drop ((0:Int).toNat)),sV ((s.take s.length).drop (i+1)),bV true]) (l1Cut_r s c)∧(True)) ((I64 ((i:Int)+1)∧True)∧∃ i₂:Nat,(l1Cut_k0 s c i₂)∧(s.length - i₂ < s.length - i)∧(E (sV s)∧E (uN c.toNat)∧Q (iN (i+1)) (iN i₂)∧True)∧True)) (True∧True∧Q (.tup [sV s,sV [],bV false]) (l1Cut_r s c)∧(True)))
  (by kernel_rfl) ?_
 refine ⟨trivial,trivial,?_⟩
 refine ⟨⟨0,?_,⟨rfl,rfl,rfl,trivial⟩,trivial⟩,?_⟩
 · unfold l1Cut_k0
   simp_all
 rintro i ⟨hi,hcut⟩
 refine ⟨trivial,?_⟩
 refine ⟨fun hb1=>?_,fun hb1=>?_⟩
 · try simp only [nb] at hb1
   refine ⟨⟨by omega,trivial⟩,?_⟩
   refine ⟨fun hb2=>?_,fun hb2=>?_⟩
   · try simp only [nb] at hb2
     refine ⟨⟨by omega,by omega,by omega,trivial⟩,trivial,?_⟩
     refine ⟨trivial,?_,trivial⟩
     unfold Q l1Cut_r
     have he:s.getD i 0=c:=UInt8.toNat_inj.1 (by exact_mod_cast hb2)
     rw [hcut,drop_cons (by omega:i < s.length) 0,cutL,if_pos he]
     simp
   · try simp only [nb] at hb2
     refine ⟨⟨by omega,trivial⟩,?_⟩
     refine ⟨i+1,?_,?_,⟨rfl,rfl,rfl,trivial⟩,trivial⟩
     · unfold l1Cut_k0
       refine ⟨by omega,?_⟩
       have hne: ¬ s.getD i 0=c:=fun h=>hb2 (by rw [h])
       rw [hcut,drop_cons (by omega:i < s.length) 0]
       simp only [cutL,if_neg hne,take_succ_getD (by omega:i < s.length) 0,List.append_assoc,List.cons_append,List.nil_append]
     · first | (simp; done) | omega | (simp; omega)
 · try simp only [nb] at hb1
   refine ⟨trivial,?_⟩
   refine ⟨trivial,?_,trivial⟩
   unfold Q l1Cut_r
   have hl:s.length≤i:=by omega
   rw [hcut,List.drop_eq_nil_of_le hl,cutL,List.take_of_length_le hl]
   simp
def l1Cut_c (s:List UInt8) (c:UInt8):Con Tryz.prog:={ f:=66,args:=[sV s,uN c.toNat],H:=[],pre:=(s.length≤4611686018427387904),res:=l1Cut_r s c,H':=[],ok:=fun h=>l1Cut_ok s c h }
theorem l6In_ok (n lo up:Int):PF Tryz.prog 38 [iV n,iV lo,iV up] [] (fun r h=>r=(bV (inL n lo up))∧h=[]):=by
 refine PF_go1 (N:=15) (rs:=[.tmp 6]) Tryz.func38 (by kernel_rfl) rfl rfl rfl (by kernel_rfl)
  (.r 1 [] <| .r 9 [] <| .nil)
  (True∧(Gd ((geB n lo)==true) (True∧True)∧Gd ((geB n lo)==true) (True∧True)∧Gd ((geB n lo)==true) ((Gd ((geB n lo)==true) (((geB n lo)==true)=true)∧(Gd ((geB n lo)==true) (((geB n lo)==true)=true)∧True))∧True)∧Pk (geB n lo) ((geB n lo)==true) true∧True)∧True∧Q (bV ((geB n lo)&&(leB n up))) (bV (inL n lo up))∧(True))
  (by kernel_rfl) ?_
 refine ⟨trivial,⟨fun hG=>⟨trivial,trivial⟩,fun hG=>⟨trivial,trivial⟩,fun hG=>⟨⟨fun h=>h,⟨fun h=>h,trivial⟩⟩,trivial⟩,⟨fun h=>by rw [h]; rfl,fun _=>rfl⟩,trivial⟩,?_⟩
 refine ⟨trivial,?_,trivial⟩
 unfold Q
 refine congrArg bV ?_
 rw [Bool.eq_iff_iff]
 simp [inL]
def l6In_c (n:Int) (lo:Int) (up:Int):Con Tryz.prog:={ f:=38,args:=[iV n,iV lo,iV up],H:=[],pre:=True,res:=bV (inL n lo up),H':=[],ok:=fun _=>l6In_ok n lo up }
theorem l1Plain_ok (b:UInt8):PF Tryz.prog 171 [uN b.toNat] [] (fun r h=>r=(bV (plainB b))∧h=[]):=by
 refine PF_go1 (N:=25) (rs:=[.tmp 2]) Tryz.func171 (by kernel_rfl) rfl rfl rfl (by kernel_rfl)
  (.r 1 [] <| .r 23 [] <| .nil)
  ((fun v1:Int=>(fun v2:Bool=>(fun v3:Bool=>(fun v4:Bool=>(True∧(Gd ((geB v1 97)==true) (True∧True)∧Gd ((geB v1 97)==true) ((Gd ((geB v1 97)==true) (((geB v1 97)==true)=true)∧True)∧True)∧Pk (geB v1 97) ((geB v1 97)==true) true∧Gd v2 (True∧True)∧Gd v2 ((Gd v2 (v2=true)∧True)∧True)∧Gd v2 ((Gd v2 (v2=true)∧True)∧True)∧Gd (v2&&((geB v1 48)==true)) (True∧True)∧Gd (v2&&((geB v1 48)==true)) ((Gd (v2&&((geB v1 48)==true)) ((v2&&((geB v1 48)==true))=true)∧True)∧True)∧Gd v2 ((Gd v2 (v2=true)∧True)∧Pk (geB v1 48) (v2&&((geB v1 48)==true)) true)∧Pk ((geB v1 97)&&(leB v1 122)) true v2∧Gd v4 (True∧True)∧Gd v4 ((Gd v4 (v4=true)∧True)∧True)∧Pk (((geB v1 97)&&(leB v1 122))||((geB v1 48)&&(leB v1 57))) true v4∧Gd v3 (True∧True)∧Gd v3 ((Gd v3 (v3=true)∧True)∧True)∧Pk ((((geB v1 97)&&(leB v1 122))||((geB v1 48)&&(leB v1 57)))||(eqB v1 46)) true v3∧True)∧True∧Q (bV (((((geB v1 97)&&(leB v1 122))||((geB v1 48)&&(leB v1 57)))||(eqB v1 46))||(eqB v1 45))) (bV (plainB b))∧(True))) ((((geB v1 97)&&(leB v1 122))||((geB v1 48)&&(leB v1 57)))==false)) (((((geB v1 97)&&(leB v1 122))||((geB v1 48)&&(leB v1 57)))||(eqB v1 46))==false)) (((geB v1 97)&&(leB v1 122))==false)) (b.toNat:Int))
  (by kernel_rfl) ?_
 refine ⟨trivial,⟨fun hG=>⟨trivial,trivial⟩,fun hG=>⟨⟨fun h=>h,trivial⟩,trivial⟩,⟨fun h=>by rw [h]; rfl,fun _=>rfl⟩,fun hG=>⟨trivial,trivial⟩,fun hG=>⟨⟨fun h=>h,trivial⟩,trivial⟩,fun hG=>⟨⟨fun h=>h,trivial⟩,trivial⟩,fun hG=>⟨trivial,trivial⟩,fun hG=>⟨⟨fun h=>h,trivial⟩,trivial⟩,fun hG=>⟨⟨fun h=>h,trivial⟩,⟨fun h=>by rw [h]; exact (Bool.and_eq_true _ _).mpr ⟨hG,rfl⟩,fun _=>rfl⟩⟩,⟨fun _=>rfl,fun h=>by rw [h]; rfl⟩,fun hG=>⟨trivial,trivial⟩,fun hG=>⟨⟨fun h=>h,trivial⟩,trivial⟩,⟨fun _=>rfl,fun h=>by rw [h]; rfl⟩,fun hG=>⟨trivial,trivial⟩,fun hG=>⟨⟨fun h=>h,trivial⟩,trivial⟩,⟨fun _=>rfl,fun h=>by rw [h]; rfl⟩,trivial⟩,?_⟩
 refine ⟨trivial,?_,trivial⟩
 unfold Q
 refine congrArg bV ?_
 rw [Bool.eq_iff_iff]
 simp [plainB]
 try omega
def l1Plain_c (b:UInt8):Con Tryz.prog:={ f:=171,args:=[uN b.toNat],H:=[],pre:=True,res:=bV (plainB b),H':=[],ok:=fun _=>l1Plain_ok b }
theorem stands_ok (b:UInt8):PF Tryz.prog 138 [uN b.toNat] [] (fun r h=>r=(bV (plainB b))∧h=[]):=by
 refine PF_go1 (N:=25) (rs:=[.tmp 2]) Tryz.func138 (by kernel_rfl) rfl rfl rfl (by kernel_rfl)
  (.r 1 [] <| .r 23 [] <| .nil)
  ((fun v1:Int=>(fun v2:Bool=>(fun v3:Bool=>(fun v4:Bool=>(True∧(Gd ((geB v1 97)==true) (True∧True)∧Gd ((geB v1 97)==true) ((Gd ((geB v1 97)==true) (((geB v1 97)==true)=true)∧True)∧True)∧Pk (geB v1 97) ((geB v1 97)==true) true∧Gd v2 (True∧True)∧Gd v2 ((Gd v2 (v2=true)∧True)∧True)∧Gd v2 ((Gd v2 (v2=true)∧True)∧True)∧Gd (v2&&((geB v1 48)==true)) (True∧True)∧Gd (v2&&((geB v1 48)==true)) ((Gd (v2&&((geB v1 48)==true)) ((v2&&((geB v1 48)==true))=true)∧True)∧True)∧Gd v2 ((Gd v2 (v2=true)∧True)∧Pk (geB v1 48) (v2&&((geB v1 48)==true)) true)∧Pk ((geB v1 97)&&(leB v1 122)) true v2∧Gd v4 (True∧True)∧Gd v4 ((Gd v4 (v4=true)∧True)∧True)∧Pk (((geB v1 97)&&(leB v1 122))||((geB v1 48)&&(leB v1 57))) true v4∧Gd v3 (True∧True)∧Gd v3 ((Gd v3 (v3=true)∧True)∧True)∧Pk ((((geB v1 97)&&(leB v1 122))||((geB v1 48)&&(leB v1 57)))||(eqB v1 46)) true v3∧True)∧True∧Q (bV (((((geB v1 97)&&(leB v1 122))||((geB v1 48)&&(leB v1 57)))||(eqB v1 46))||(eqB v1 45))) (bV (plainB b))∧(True))) ((((geB v1 97)&&(leB v1 122))||((geB v1 48)&&(leB v1 57)))==false)) (((((geB v1 97)&&(leB v1 122))||((geB v1 48)&&(leB v1 57)))||(eqB v1 46))==false)) (((geB v1 97)&&(leB v1 122))==false)) (b.toNat:Int))
  (by kernel_rfl) ?_
 refine ⟨trivial,⟨fun hG=>⟨trivial,trivial⟩,fun hG=>⟨⟨fun h=>h,trivial⟩,trivial⟩,⟨fun h=>by rw [h]; rfl,fun _=>rfl⟩,fun hG=>⟨trivial,trivial⟩,fun hG=>⟨⟨fun h=>h,trivial⟩,trivial⟩,fun hG=>⟨⟨fun h=>h,trivial⟩,trivial⟩,fun hG=>⟨trivial,trivial⟩,fun hG=>⟨⟨fun h=>h,trivial⟩,trivial⟩,fun hG=>⟨⟨fun h=>h,trivial⟩,⟨fun h=>by rw [h]; exact (Bool.and_eq_true _ _).mpr ⟨hG,rfl⟩,fun _=>rfl⟩⟩,⟨fun _=>rfl,fun h=>by rw [h]; rfl⟩,fun hG=>⟨trivial,trivial⟩,fun hG=>⟨⟨fun h=>h,trivial⟩,trivial⟩,⟨fun _=>rfl,fun h=>by rw [h]; rfl⟩,fun hG=>⟨trivial,trivial⟩,fun hG=>⟨⟨fun h=>h,trivial⟩,trivial⟩,⟨fun _=>rfl,fun h=>by rw [h]; rfl⟩,trivial⟩,?_⟩
 refine ⟨trivial,?_,trivial⟩
 unfold Q
 refine congrArg bV ?_
 rw [Bool.eq_iff_iff]
 simp [plainB]
 try omega
def stands_c (b:UInt8):Con Tryz.prog:={ f:=138,args:=[uN b.toNat],H:=[],pre:=True,res:=bV (plainB b),H':=[],ok:=fun _=>stands_ok b }
theorem l1Hex_ok (b:UInt8):PF Tryz.prog 170 [uN b.toNat] [] (fun r h=>r=(iV (hexL b))∧h=[]):=by
 refine PF_go1 (N:=35) (rs:=[.tmp 2]) Tryz.func170 (by kernel_rfl) rfl rfl rfl (by kernel_rfl)
  (.r 1 [] <| .r 7 [] <| .br (.r 4 [] <| .nil) (.r 7 [] <| .br (.r 5 [] <| .nil) (.r 7 [] <| .br (.r 5 [] <| .nil) (.r 1 [] <| .nil))))
  ((fun v1:Int=>(True∧(Gd ((geB v1 48)==true) (True∧True)∧Gd ((geB v1 48)==true) ((Gd ((geB v1 48)==true) (((geB v1 48)==true)=true)∧True)∧True)∧Pk (geB v1 48) ((geB v1 48)==true) true∧True)∧Br ((geB v1 48)&&(leB v1 57)) ((U8r (v1 - 48)∧I64 (v1 - 48)∧True)∧True∧Q (iV (v1 - 48)) (iV (hexL b))∧(True)) ((Gd ((geB v1 97)==true) (True∧True)∧Gd ((geB v1 97)==true) ((Gd ((geB v1 97)==true) (((geB v1 97)==true)=true)∧True)∧True)∧Pk (geB v1 97) ((geB v1 97)==true) true∧True)∧Br ((geB v1 97)&&(leB v1 102)) ((U8r (v1 - 97)∧I64 (v1 - 97)∧I64 ((v1 - 97)+10)∧True)∧True∧Q (iV ((v1 - 97)+10)) (iV (hexL b))∧(True)) ((Gd ((geB v1 65)==true) (True∧True)∧Gd ((geB v1 65)==true) ((Gd ((geB v1 65)==true) (((geB v1 65)==true)=true)∧True)∧True)∧Pk (geB v1 65) ((geB v1 65)==true) true∧True)∧Br ((geB v1 65)&&(leB v1 70)) ((U8r (v1 - 65)∧I64 (v1 - 65)∧I64 ((v1 - 65)+10)∧True)∧True∧Q (iV ((v1 - 65)+10)) (iV (hexL b))∧(True)) (True∧True∧Q (iV (-1)) (iV (hexL b))∧(True)))))) (b.toNat:Int))
  (by kernel_rfl) ?_
 refine ⟨trivial,⟨fun hG=>⟨trivial,trivial⟩,fun hG=>⟨⟨fun h=>h,trivial⟩,trivial⟩,⟨fun h=>by rw [h]; rfl,fun _=>rfl⟩,trivial⟩,?_⟩
 refine ⟨fun hb1=>?_,fun hb1=>?_⟩
 · try simp only [nb] at hb1
   refine ⟨⟨by have:=UInt8.toNat_lt b; omega,by have:=UInt8.toNat_lt b; omega,trivial⟩,?_⟩
   refine ⟨trivial,?_,trivial⟩
   unfold Q
   have:=b.toNat_lt
   refine congrArg iV ?_
   unfold hexL
   repeat (split <;> try omega)
 · try simp only [nb] at hb1
   refine ⟨⟨fun hG=>⟨trivial,trivial⟩,fun hG=>⟨⟨fun h=>h,trivial⟩,trivial⟩,⟨fun h=>by rw [h]; rfl,fun _=>rfl⟩,trivial⟩,?_⟩
   refine ⟨fun hb2=>?_,fun hb2=>?_⟩
   · try simp only [nb] at hb2
     refine ⟨⟨by have:=UInt8.toNat_lt b; omega,by have:=UInt8.toNat_lt b; omega,by have:=UInt8.toNat_lt b; omega,trivial⟩,?_⟩
     refine ⟨trivial,?_,trivial⟩
     unfold Q
     have:=b.toNat_lt
     refine congrArg iV ?_
     unfold hexL
     repeat (split <;> try omega)
   · try simp only [nb] at hb2
     refine ⟨⟨fun hG=>⟨trivial,trivial⟩,fun hG=>⟨⟨fun h=>h,trivial⟩,trivial⟩,⟨fun h=>by rw [h]; rfl,fun _=>rfl⟩,trivial⟩,?_⟩
     refine ⟨fun hb3=>?_,fun hb3=>?_⟩
     · try simp only [nb] at hb3
       refine ⟨⟨by have:=UInt8.toNat_lt b; omega,by have:=UInt8.toNat_lt b; omega,by have:=UInt8.toNat_lt b; omega,trivial⟩,?_⟩
       refine ⟨trivial,?_,trivial⟩
       unfold Q
       have:=b.toNat_lt
       refine congrArg iV ?_
       unfold hexL
       repeat (split <;> try omega)
     · try simp only [nb] at hb3
       refine ⟨trivial,?_⟩
       refine ⟨trivial,?_,trivial⟩
       unfold Q
       have:=b.toNat_lt
       refine congrArg iV ?_
       unfold hexL
       repeat (split <;> try omega)
def l1Hex_c (b:UInt8):Con Tryz.prog:={ f:=170,args:=[uN b.toNat],H:=[],pre:=True,res:=iV (hexL b),H':=[],ok:=fun _=>l1Hex_ok b }
abbrev l1House_k0 (s:List UInt8) (i:Nat):Prop:=i≤s.length∧∀ j,j < i→lowB (s.getD j 0)=true
theorem l1House_ok (s:List UInt8) (hs:s.length≤4611686018427387904):PF Tryz.prog 70 [sV s] [] (fun r h=>r=(bV (houseL s))∧h=[]):=by
 refine PF_go1 (N:=23) (rs:=[.tmp 2]) Tryz.func70 (by kernel_rfl) rfl rfl rfl (by kernel_rfl)
  (.r 1 [] <| .r 1 [] <| .loop (Nat) (fun (i:Nat)=>⟨[(0,sV s),(3,iN i)],[]⟩) (fun (i:Nat)=>l1House_k0 s i) (fun (i:Nat)=>s.length - i) (fun (i:Nat)=>.r 4 [] <| .br (.r 10 [] <| .br (.r 1 [] <| .nil) (.r 3 [] <| .nil)) (.r 2 [] <| .c (l6In_c (s.length:Int) (1:Int) (5:Int)) [] <| .r 1 [] <| .nil)))
  (True∧True∧(∃ i₀:Nat,(l1House_k0 s i₀)∧(E (sV s)∧Q (iN 0) (iN i₀)∧True)∧True)∧∀ i:Nat,(l1House_k0 s i)→(fun v2:Int=>(fun v1:Bool=>True∧Br (ltB (i:Int) (s.length:Int)) ((Ix (i:Int) s∧Gd v1 (True∧True)∧Gd v1 (True∧True)∧Gd v1 ((Gd v1 (v1=true)∧(Gd v1 (v1=true)∧True))∧Ix (i:Int) s)∧Gd v1 ((Gd v1 (v1=true)∧True)∧True)∧Pk (ltB v2 97) true v1∧True)∧Br ((ltB v2 97)||(gtB v2 122)) (True∧True∧Q (bV false) (bV (houseL s))∧(True)) ((I64 ((i:Int)+1)∧True)∧∃ i₂:Nat,(l1House_k0 s i₂)∧(s.length - i₂ < s.length - i)∧(E (sV s)∧Q (iN (i+1)) (iN i₂)∧True)∧True)) (True∧(l6In_c (s.length:Int) (1:Int) (5:Int)).sm∧(True)∧(True)∧True∧True∧Q (bV (inL (s.length:Int) (1:Int) (5:Int))) (bV (houseL s))∧(True))) ((ltB v2 97)==false)) (((s.getD i 0).toNat:Nat):Int))
  (by kernel_rfl) ?_
 refine ⟨trivial,trivial,?_⟩
 refine ⟨⟨0,?_,⟨rfl,rfl,trivial⟩,trivial⟩,?_⟩
 · unfold l1House_k0
   simp_all
 rintro i ⟨hi,hlow⟩
 refine ⟨trivial,?_⟩
 refine ⟨fun hb1=>?_,fun hb1=>?_⟩
 · try simp only [nb] at hb1
   refine ⟨⟨by omega,fun hG=>⟨trivial,trivial⟩,fun hG=>⟨trivial,trivial⟩,fun hG=>⟨⟨fun h=>h,⟨fun h=>h,trivial⟩⟩,by (try simp only [nb] at hG); omega⟩,fun hG=>⟨⟨fun h=>h,trivial⟩,trivial⟩,⟨fun _=>rfl,fun h=>by rw [h]; rfl⟩,trivial⟩,?_⟩
   refine ⟨fun hb2=>?_,fun hb2=>?_⟩
   · try simp only [nb] at hb2
     refine ⟨trivial,?_⟩
     refine ⟨trivial,?_,trivial⟩
     unfold Q
     rw [show houseL s=false from by unfold houseL smallL; rw [all_false (i:=i) (d:=0) (by omega) (by simp only [lowB,decide_eq_false_iff_not]; omega)]; rfl]
   · try simp only [nb] at hb2
     refine ⟨⟨by omega,trivial⟩,?_⟩
     refine ⟨i+1,?_,?_,⟨rfl,rfl,trivial⟩,trivial⟩
     · unfold l1House_k0
       refine ⟨by omega,lt_succ_of hlow ?_⟩
       simp only [lowB,decide_eq_true_eq]; omega
     · first | (simp; done) | omega | (simp; omega)
 · try simp only [nb] at hb1
   refine ⟨trivial,rfl,trivial,trivial,trivial,?_⟩
   refine ⟨trivial,?_,trivial⟩
   unfold Q
   unfold houseL
   rw [show smallL s=true from all_true (d:=0) fun j hj=>hlow j (by omega)]
   rw [Bool.true_and]
def l1House_c (s:List UInt8):Con Tryz.prog:={ f:=70,args:=[sV s],H:=[],pre:=(s.length≤4611686018427387904),res:=bV (houseL s),H':=[],ok:=fun h=>l1House_ok s h }
abbrev l2Name_k0 (s:List UInt8) (i:Nat):Prop:=i≤s.length∧∀ j,j < i→lowB (s.getD j 0)=true
theorem l2Name_ok (s:List UInt8) (hs:s.length≤4611686018427387904):PF Tryz.prog 34 [sV s] [] (fun r h=>r=(bV (nameL s))∧h=[]):=by
 refine PF_go1 (N:=23) (rs:=[.tmp 2]) Tryz.func34 (by kernel_rfl) rfl rfl rfl (by kernel_rfl)
  (.r 1 [] <| .r 1 [] <| .loop (Nat) (fun (i:Nat)=>⟨[(0,sV s),(3,iN i)],[]⟩) (fun (i:Nat)=>l2Name_k0 s i) (fun (i:Nat)=>s.length - i) (fun (i:Nat)=>.r 4 [] <| .br (.r 10 [] <| .br (.r 1 [] <| .nil) (.r 3 [] <| .nil)) (.r 2 [] <| .c (l6In_c (s.length:Int) (1:Int) (8:Int)) [] <| .r 1 [] <| .nil)))
  (True∧True∧(∃ i₀:Nat,(l2Name_k0 s i₀)∧(E (sV s)∧Q (iN 0) (iN i₀)∧True)∧True)∧∀ i:Nat,(l2Name_k0 s i)→(fun v2:Int=>(fun v1:Bool=>True∧Br (ltB (i:Int) (s.length:Int)) ((Ix (i:Int) s∧Gd v1 (True∧True)∧Gd v1 (True∧True)∧Gd v1 ((Gd v1 (v1=true)∧(Gd v1 (v1=true)∧True))∧Ix (i:Int) s)∧Gd v1 ((Gd v1 (v1=true)∧True)∧True)∧Pk (ltB v2 97) true v1∧True)∧Br ((ltB v2 97)||(gtB v2 122)) (True∧True∧Q (bV false) (bV (nameL s))∧(True)) ((I64 ((i:Int)+1)∧True)∧∃ i₂:Nat,(l2Name_k0 s i₂)∧(s.length - i₂ < s.length - i)∧(E (sV s)∧Q (iN (i+1)) (iN i₂)∧True)∧True)) (True∧(l6In_c (s.length:Int) (1:Int) (8:Int)).sm∧(True)∧(True)∧True∧True∧Q (bV (inL (s.length:Int) (1:Int) (8:Int))) (bV (nameL s))∧(True))) ((ltB v2 97)==false)) (((s.getD i 0).toNat:Nat):Int))
  (by kernel_rfl) ?_
 refine ⟨trivial,trivial,?_⟩
 refine ⟨⟨0,?_,⟨rfl,rfl,trivial⟩,trivial⟩,?_⟩
 · unfold l2Name_k0
   simp_all
 rintro i ⟨hi,hlow⟩
 refine ⟨trivial,?_⟩
 refine ⟨fun hb1=>?_,fun hb1=>?_⟩
 · try simp only [nb] at hb1
   refine ⟨⟨by omega,fun hG=>⟨trivial,trivial⟩,fun hG=>⟨trivial,trivial⟩,fun hG=>⟨⟨fun h=>h,⟨fun h=>h,trivial⟩⟩,by (try simp only [nb] at hG); omega⟩,fun hG=>⟨⟨fun h=>h,trivial⟩,trivial⟩,⟨fun _=>rfl,fun h=>by rw [h]; rfl⟩,trivial⟩,?_⟩
   refine ⟨fun hb2=>?_,fun hb2=>?_⟩
   · try simp only [nb] at hb2
     refine ⟨trivial,?_⟩
     refine ⟨trivial,?_,trivial⟩
     unfold Q
     rw [show nameL s=false from by unfold nameL smallL; rw [all_false (i:=i) (d:=0) (by omega) (by simp only [lowB,decide_eq_false_iff_not]; omega)]; rfl]
   · try simp only [nb] at hb2
     refine ⟨⟨by omega,trivial⟩,?_⟩
     refine ⟨i+1,?_,?_,⟨rfl,rfl,trivial⟩,trivial⟩
     · unfold l2Name_k0
       refine ⟨by omega,lt_succ_of hlow ?_⟩
       simp only [lowB,decide_eq_true_eq]; omega
     · first | (simp; done) | omega | (simp; omega)
 · try simp only [nb] at hb1
   refine ⟨trivial,rfl,trivial,trivial,trivial,?_⟩
   refine ⟨trivial,?_,trivial⟩
   unfold Q
   unfold nameL
   rw [show smallL s=true from all_true (d:=0) fun j hj=>hlow j (by omega)]
   rw [Bool.true_and]
def l2Name_c (s:List UInt8):Con Tryz.prog:={ f:=34,args:=[sV s],H:=[],pre:=(s.length≤4611686018427387904),res:=bV (nameL s),H':=[],ok:=fun h=>l2Name_ok s h }
abbrev allSmall_k0 (s:List UInt8) (i:Nat):Prop:=i≤s.length∧∀ j,j < i→lowB (s.getD j 0)=true
theorem allSmall_ok (s:List UInt8) (hs:s.length≤4611686018427387904):PF Tryz.prog 60 [sV s] [] (fun r h=>r=(bV (smallL s))∧h=[]):=by
 refine PF_go1 (N:=20) (rs:=[.tmp 2]) Tryz.func60 (by kernel_rfl) rfl rfl rfl (by kernel_rfl)
  (.r 1 [] <| .r 1 [] <| .loop (Nat) (fun (i:Nat)=>⟨[(0,sV s),(3,iN i)],[]⟩) (fun (i:Nat)=>allSmall_k0 s i) (fun (i:Nat)=>s.length - i) (fun (i:Nat)=>.r 4 [] <| .br (.r 10 [] <| .br (.r 1 [] <| .nil) (.r 3 [] <| .nil)) (.r 1 [] <| .nil)))
  (True∧True∧(∃ i₀:Nat,(allSmall_k0 s i₀)∧(E (sV s)∧Q (iN 0) (iN i₀)∧True)∧True)∧∀ i:Nat,(allSmall_k0 s i)→(fun v2:Int=>(fun v1:Bool=>True∧Br (ltB (i:Int) (s.length:Int)) ((Ix (i:Int) s∧Gd v1 (True∧True)∧Gd v1 (True∧True)∧Gd v1 ((Gd v1 (v1=true)∧(Gd v1 (v1=true)∧True))∧Ix (i:Int) s)∧Gd v1 ((Gd v1 (v1=true)∧True)∧True)∧Pk (ltB v2 97) true v1∧True)∧Br ((ltB v2 97)||(gtB v2 122)) (True∧True∧Q (bV false) (bV (smallL s))∧(True)) ((I64 ((i:Int)+1)∧True)∧∃ i₂:Nat,(allSmall_k0 s i₂)∧(s.length - i₂ < s.length - i)∧(E (sV s)∧Q (iN (i+1)) (iN i₂)∧True)∧True)) (True∧True∧Q (bV true) (bV (smallL s))∧(True))) ((ltB v2 97)==false)) (((s.getD i 0).toNat:Nat):Int))
  (by kernel_rfl) ?_
 refine ⟨trivial,trivial,?_⟩
 refine ⟨⟨0,?_,⟨rfl,rfl,trivial⟩,trivial⟩,?_⟩
 · unfold allSmall_k0
   simp_all
 rintro i ⟨hi,hlow⟩
 refine ⟨trivial,?_⟩
 refine ⟨fun hb1=>?_,fun hb1=>?_⟩
 · try simp only [nb] at hb1
   refine ⟨⟨by omega,fun hG=>⟨trivial,trivial⟩,fun hG=>⟨trivial,trivial⟩,fun hG=>⟨⟨fun h=>h,⟨fun h=>h,trivial⟩⟩,by (try simp only [nb] at hG); omega⟩,fun hG=>⟨⟨fun h=>h,trivial⟩,trivial⟩,⟨fun _=>rfl,fun h=>by rw [h]; rfl⟩,trivial⟩,?_⟩
   refine ⟨fun hb2=>?_,fun hb2=>?_⟩
   · try simp only [nb] at hb2
     refine ⟨trivial,?_⟩
     refine ⟨trivial,?_,trivial⟩
     unfold Q
     rw [show smallL s=false from by unfold smallL; rw [all_false (i:=i) (d:=0) (by omega) (by simp only [lowB,decide_eq_false_iff_not]; omega)]]
   · try simp only [nb] at hb2
     refine ⟨⟨by omega,trivial⟩,?_⟩
     refine ⟨i+1,?_,?_,⟨rfl,rfl,trivial⟩,trivial⟩
     · unfold allSmall_k0
       refine ⟨by omega,lt_succ_of hlow ?_⟩
       simp only [lowB,decide_eq_true_eq]; omega
     · first | (simp; done) | omega | (simp; omega)
 · try simp only [nb] at hb1
   refine ⟨trivial,?_⟩
   refine ⟨trivial,?_,trivial⟩
   unfold Q
   rw [show smallL s=true from all_true (d:=0) fun j hj=>hlow j (by omega)]
def allSmall_c (s:List UInt8):Con Tryz.prog:={ f:=60,args:=[sV s],H:=[],pre:=(s.length≤4611686018427387904),res:=bV (smallL s),H':=[],ok:=fun h=>allSmall_ok s h }
theorem isHouse_ok (s:List UInt8) (hs:s.length≤4611686018427387904):PF Tryz.prog 40 [sV s] [] (fun r h=>r=(bV (houseL s))∧h=[]):=by
 refine PF_go1 (N:=15) (rs:=[.tmp 2]) Tryz.func40 (by kernel_rfl) rfl rfl rfl (by kernel_rfl)
  (.r 1 [] <| .r 10 [] <| .cg (allSmall_c s) <| .r 2 [] <| .nil)
  ((fun v1:Bool=>(fun v2:Bool=>(True∧(Gd (v1==true) (True∧True)∧Gd (v1==true) ((Gd (v1==true) ((v1==true)=true)∧True)∧True)∧Gd (v1==true) ((Gd (v1==true) ((v1==true)=true)∧True)∧True)∧Pk v1 (v1==true) true∧Gd ((v1&&v2)==true) (True∧True)∧True)∧Gd ((v1&&v2)==true) ((Gd ((v1&&v2)==true) (((v1&&v2)==true)=true)∧True)∧((s.length≤4611686018427387904))∧(allSmall_c s).sm)∧(Pk (v1&&v2) ((v1&&v2)==true) true∧True)∧True∧Q (bV ((v1&&v2)&&(smallL s))) (bV (houseL s))∧(True))) (leB (s.length:Int) 5)) (geB (s.length:Int) 1))
  (by kernel_rfl) ?_
 refine ⟨trivial,⟨fun hG=>⟨trivial,trivial⟩,fun hG=>⟨⟨fun h=>h,trivial⟩,trivial⟩,fun hG=>⟨⟨fun h=>h,trivial⟩,trivial⟩,⟨fun h=>by rw [h]; rfl,fun _=>rfl⟩,fun hG=>⟨trivial,trivial⟩,trivial⟩,fun hG=>⟨⟨fun h=>h,trivial⟩,by (try simp only [nb] at hG); first | assumption | omega | (simp; omega),rfl⟩,⟨⟨fun h=>by rw [h]; rfl,fun _=>rfl⟩,trivial⟩,?_⟩
 refine ⟨trivial,?_,trivial⟩
 unfold Q
 refine congrArg bV ?_
 rw [Bool.eq_iff_iff]
 simp [houseL,inL,and_comm,and_assoc]
 try omega
def isHouse_c (s:List UInt8):Con Tryz.prog:={ f:=40,args:=[sV s],H:=[],pre:=(s.length≤4611686018427387904),res:=bV (houseL s),H':=[],ok:=fun h=>isHouse_ok s h }
theorem isName_ok (s:List UInt8) (hs:s.length≤4611686018427387904):PF Tryz.prog 29 [sV s] [] (fun r h=>r=(bV (nameL s))∧h=[]):=by
 refine PF_go1 (N:=15) (rs:=[.tmp 2]) Tryz.func29 (by kernel_rfl) rfl rfl rfl (by kernel_rfl)
  (.r 1 [] <| .r 10 [] <| .cg (allSmall_c s) <| .r 2 [] <| .nil)
  ((fun v1:Bool=>(fun v2:Bool=>(True∧(Gd (v1==true) (True∧True)∧Gd (v1==true) ((Gd (v1==true) ((v1==true)=true)∧True)∧True)∧Gd (v1==true) ((Gd (v1==true) ((v1==true)=true)∧True)∧True)∧Pk v1 (v1==true) true∧Gd ((v1&&v2)==true) (True∧True)∧True)∧Gd ((v1&&v2)==true) ((Gd ((v1&&v2)==true) (((v1&&v2)==true)=true)∧True)∧((s.length≤4611686018427387904))∧(allSmall_c s).sm)∧(Pk (v1&&v2) ((v1&&v2)==true) true∧True)∧True∧Q (bV ((v1&&v2)&&(smallL s))) (bV (nameL s))∧(True))) (leB (s.length:Int) 8)) (geB (s.length:Int) 1))
  (by kernel_rfl) ?_
 refine ⟨trivial,⟨fun hG=>⟨trivial,trivial⟩,fun hG=>⟨⟨fun h=>h,trivial⟩,trivial⟩,fun hG=>⟨⟨fun h=>h,trivial⟩,trivial⟩,⟨fun h=>by rw [h]; rfl,fun _=>rfl⟩,fun hG=>⟨trivial,trivial⟩,trivial⟩,fun hG=>⟨⟨fun h=>h,trivial⟩,by (try simp only [nb] at hG); first | assumption | omega | (simp; omega),rfl⟩,⟨⟨fun h=>by rw [h]; rfl,fun _=>rfl⟩,trivial⟩,?_⟩
 refine ⟨trivial,?_,trivial⟩
 unfold Q
 refine congrArg bV ?_
 rw [Bool.eq_iff_iff]
 simp [nameL,inL,and_comm,and_assoc]
 try omega
def isName_c (s:List UInt8):Con Tryz.prog:={ f:=29,args:=[sV s],H:=[],pre:=(s.length≤4611686018427387904),res:=bV (nameL s),H':=[],ok:=fun h=>isName_ok s h }
end Go.Proofs.YthliifpcaahnnaaGreatDoor
namespace Go.Proofs.YthliifpcaahnnaaGreatDoor
open Go Go.Abs Go.RowKit Go.Pd
set_option maxRecDepth 20000
theorem l1Sign_ok (b:UInt8):PF Tryz.prog 172 [iN b.toNat] [] (fun r h=>r=(sV (signL b))∧h=[]):=by
 have hb:=b.toNat_lt
 refine PF_go1 (N:=20) (rs:=[.tmp 2]) Tryz.func172 (by kernel_rfl) rfl rfl rfl (by kernel_rfl)
  (.r 1 [] <| .r 1 [] <| .d 16 <| .r 16 [] <| .r 1 [] <| .nil)
  ((fun v1:List UInt8=>(fun v2:Int=>(True∧True∧(((0:Int)≤v2∧(0:Int) < 16∧I64 v2)∧((0:Int)≤v2∧(0:Int) < 16∧I64 v2)∧I64 (((b.toNat / 16:Nat):Int)+1)∧Sx ((b.toNat / 16:Nat):Int) (((b.toNat / 16)+1:Nat):Int) v1∧(([37]:List UInt8).length+((v1.take ((b.toNat / 16)+1)).drop (b.toNat / 16)).length≤4611686018427387904)∧((0:Int)≤v2∧(0:Int) < 16)∧((0:Int)≤v2∧(0:Int) < 16)∧I64 (((b.toNat % 16:Nat):Int)+1)∧Sx ((b.toNat % 16:Nat):Int) (((b.toNat % 16)+1:Nat):Int) v1∧((([37]:List UInt8)++((v1.take ((b.toNat / 16)+1)).drop (b.toNat / 16))).length+((v1.take ((b.toNat % 16)+1)).drop (b.toNat % 16)).length≤4611686018427387904)∧True)∧True∧True∧Q (sV ((([37]:List UInt8)++((v1.take ((b.toNat / 16)+1)).drop (b.toNat / 16)))++((v1.take ((b.toNat % 16)+1)).drop (b.toNat % 16)))) (sV (signL b))∧(True))) (b.toNat:Int)) ([48,49,50,51,52,53,54,55,56,57,65,66,67,68,69,70]:List UInt8))
  (by kernel_rfl) ?_
 refine ⟨trivial,trivial,⟨by have:=UInt8.toNat_lt b; omega,by have:=UInt8.toNat_lt b; omega,by have:=UInt8.toNat_lt b; omega,by have:=UInt8.toNat_lt b; unfold Sx; simp; omega,by have:=UInt8.toNat_lt b; simp; omega,by have:=UInt8.toNat_lt b; omega,by have:=UInt8.toNat_lt b; omega,by have:=UInt8.toNat_lt b; omega,by have:=UInt8.toNat_lt b; unfold Sx; simp; omega,by have:=UInt8.toNat_lt b; simp; omega,trivial⟩,trivial,?_⟩
 refine ⟨trivial,?_,trivial⟩
 unfold Q
 refine congrArg sV ?_
 show [37]++(figs.take (b.toNat / 16+1)).drop (b.toNat / 16)++(figs.take (b.toNat % 16+1)).drop (b.toNat % 16)=_
 rw [drop_take_one (by simp [figs]; omega) 0,drop_take_one (by simp [figs]; omega) 0]; rfl
def l1Sign_c (b:UInt8):Con Tryz.prog:={ f:=172,args:=[iN b.toNat],H:=[],pre:=True,res:=sV (signL b),H':=[],ok:=fun _=>l1Sign_ok b }
abbrev escNorm_k0 (s:List UInt8) (i:Nat) (o:List UInt8):Prop:=i≤s.length∧o.length≤3 * i∧escL s=(escL (s.drop i)).map (o++ ·)
theorem escNorm_ok (s:List UInt8) (hs:s.length≤4611686018427387904):PF Tryz.prog 141 [sV s] [] (fun r h=>r=(.tup [sV ((escN s).1),bV ((escN s).2)])∧h=[]):=by
 refine PF_go1 (N:=73) (rs:=[.tmp 2,.tmp 3]) Tryz.func141 (by kernel_rfl) rfl rfl rfl (by kernel_rfl)
  (.r 2 [] <| .r 3 [] <| .br (.r 2 [] <| .nil) (.r 1 [] <| .r 1 [] <| .loop (Nat×(List UInt8)) (fun (i,o)=>⟨[(0,sV s),(4,sV o),(5,iN i)],[]⟩) (fun (i,o)=>escNorm_k0 s i o) (fun (i,o)=>s.length - i) (fun (i,o)=>.r 4 [] <| .br (.r 5 [] <| .r 4 [] <| .br (.r 10 [] <| .cg (l1Hex_c (s.getD (i+1) 0)) <| .r 7 [] <| .cg (l1Hex_c (s.getD (i+2) 0)) <| .r 2 [] <| .br (.r 2 [] <| .nil) (.d 12 <| .r 4 [] <| .c (l1Hex_c (s.getD (i+1) 0)) [] <| .r 5 [] <| .c (l1Hex_c (s.getD (i+2) 0)) [] <| .r 1 [] <| .r 1 [] <| .h (.eqt 56 (iN ((hexB (s.getD (i+1) 0) (s.getD (i+2) 0)).toNat))) <| .h (.eqt 6 (iN ((hexB (s.getD (i+1) 0) (s.getD (i+2) 0)).toNat))) <| .r 3 [] <| .r 2 [] <| .c (l1Plain_c (hexB (s.getD (i+1) 0) (s.getD (i+2) 0))) [] <| .br (.r 3 [] <| .bs <| .by_ [(hexB (s.getD (i+1) 0) (s.getD (i+2) 0))] <| .r 2 [] <| .r 3 [] <| .nil) (.r 2 [] <| .c (l1Sign_c (hexB (s.getD (i+1) 0) (s.getD (i+2) 0))) [] <| .r 2 [] <| .r 3 [] <| .nil))) (.r 2 [] <| .c (l1Plain_c (s.getD i 0)) [] <| .br (.r 3 [] <| .bs <| .by_ [(s.getD i 0)] <| .r 2 [] <| .r 3 [] <| .nil) (.r 2 [] <| .c (l1Sign_c (s.getD i 0)) [] <| .r 2 [] <| .r 3 [] <| .nil))) (.r 3 [] <| .nil))))
  ((fun v1:Int=>(fun v2:V=>(True∧True∧Br (gtB v1 60) (True∧True∧Q (.tup [sV [],bV false]) v2∧(True)) (True∧True∧(∃ x:Nat×(List UInt8),match x with | (i₀,o₀)=>(escNorm_k0 s i₀ o₀)∧(E (sV s)∧Q (sV []) (sV o₀)∧Q (iN 0) (iN i₀)∧True)∧True)∧∀ x:Nat×(List UInt8),match x with | (i,o)=>(escNorm_k0 s i o)→(fun v9:Bool=>(fun v5:Int=>(fun v3:Bool=>(fun v4:Bool=>(fun v6:Int=>(fun v7:V=>(fun v8:Int=>True∧Br (ltB (i:Int) v1) ((Ix (i:Int) s∧I64 v6∧True)∧(Ix (i:Int) s∧True)∧Br (eqB v6 37) ((I64 ((i:Int)+2)∧Gd v4 (True∧True)∧Gd v4 (True∧True)∧Gd v4 ((Gd v4 (v4=true)∧True)∧I64 ((i:Int)+1))∧Gd v4 ((Gd v4 (v4=true)∧(Gd v4 (v4=true)∧True))∧Ix ((i+1:Nat):Int) s)∧True)∧Gd v4 ((Gd v4 (v4=true)∧True)∧(True)∧(l1Hex_c (s.getD (i+1) 0)).sm)∧(Gd v4 ((Gd v4 (v4=true)∧True)∧True)∧Pk (geB v5 v1) true v4∧Gd v3 (True∧True)∧Gd v3 (True∧True)∧Gd v3 ((Gd v3 (v3=true)∧True)∧I64 ((i:Int)+2))∧Gd v3 ((Gd v3 (v3=true)∧(Gd v3 (v3=true)∧True))∧Ix v5 s)∧True)∧Gd v3 ((Gd v3 (v3=true)∧True)∧(True)∧(l1Hex_c (s.getD (i+2) 0)).sm)∧(Gd v3 ((Gd v3 (v3=true)∧True)∧True)∧Pk ((geB v5 v1)||v9) true v3∧True)∧Br (((geB v5 v1)||v9)||(ltB (hexL (s.getD (i+2) 0)) 0)) (True∧True∧Q (.tup [sV [],bV false]) v2∧(True)) ((I64 ((i:Int)+1)∧Ix ((i+1:Nat):Int) s∧True)∧(l1Hex_c (s.getD (i+1) 0)).sm∧(True)∧(I64 ((hexL (s.getD (i+1) 0)) * 16)∧I64 ((i:Int)+2)∧Ix v5 s∧True)∧(l1Hex_c (s.getD (i+2) 0)).sm∧(True)∧(I64 (((hexL (s.getD (i+1) 0)) * 16)+(hexL (s.getD (i+2) 0)))∧True)∧True∧(v7=iN ((hexB (s.getD (i+1) 0) (s.getD (i+2) 0)).toNat))∧(v7=iN ((hexB (s.getD (i+1) 0) (s.getD (i+2) 0)).toNat))∧(I64 ((i:Int)+2)∧True)∧(U8r v8∧True)∧(l1Plain_c (hexB (s.getD (i+1) 0) (s.getD (i+2) 0))).sm∧(True)∧(True)∧Br (plainB (hexB (s.getD (i+1) 0) (s.getD (i+2) 0))) ((U8r v8∧True)∧(True)∧([uN ((hexB (s.getD (i+1) 0) (s.getD (i+2) 0)).toNat)]=[(hexB (s.getD (i+1) 0) (s.getD (i+2) 0))].map u8V)∧((o.length+([(hexB (s.getD (i+1) 0) (s.getD (i+2) 0))]:List UInt8).length≤4611686018427387904)∧True)∧(I64 (v5+1)∧True)∧∃ x:Nat×(List UInt8),match x with | (i₂,o₂)=>(escNorm_k0 s i₂ o₂)∧(s.length - i₂ < s.length - i)∧(E (sV s)∧Q (sV (o++[(hexB (s.getD (i+1) 0) (s.getD (i+2) 0))])) (sV o₂)∧Q (iN ((i+2)+1)) (iN i₂)∧True)∧True) (True∧(l1Sign_c (hexB (s.getD (i+1) 0) (s.getD (i+2) 0))).sm∧(True)∧(True)∧((o.length+(signL (hexB (s.getD (i+1) 0) (s.getD (i+2) 0))).length≤4611686018427387904)∧True)∧(I64 (v5+1)∧True)∧∃ x:Nat×(List UInt8),match x with | (i₂,o₂)=>(escNorm_k0 s i₂ o₂)∧(s.length - i₂ < s.length - i)∧(E (sV s)∧Q (sV (o++(signL (hexB (s.getD (i+1) 0) (s.getD (i+2) 0))))) (sV o₂)∧Q (iN ((i+2)+1)) (iN i₂)∧True)∧True))) ((U8r v6∧True)∧(l1Plain_c (s.getD i 0)).sm∧(True)∧(True)∧Br (plainB (s.getD i 0)) ((U8r v6∧True)∧(True)∧([uN ((s.getD i 0).toNat)]=[(s.getD i 0)].map u8V)∧((o.length+([(s.getD i 0)]:List UInt8).length≤4611686018427387904)∧True)∧(I64 ((i:Int)+1)∧True)∧∃ x:Nat×(List UInt8),match x with | (i₂,o₂)=>(escNorm_k0 s i₂ o₂)∧(s.length - i₂ < s.length - i)∧(E (sV s)∧Q (sV (o++[(s.getD i 0)])) (sV o₂)∧Q (iN (i+1)) (iN i₂)∧True)∧True) (True∧(l1Sign_c (s.getD i 0)).sm∧(True)∧(True)∧((o.length+(signL (s.getD i 0)).length≤4611686018427387904)∧True)∧(I64 ((i:Int)+1)∧True)∧∃ x:Nat×(List UInt8),match x with | (i₂,o₂)=>(escNorm_k0 s i₂ o₂)∧(s.length - i₂ < s.length - i)∧(E (sV s)∧Q (sV (o++(signL (s.getD i 0)))) (sV o₂)∧Q (iN (i+1)) (iN i₂)∧True)∧True))) (True∧True∧Q (.tup [sV o,bV true]) v2∧(True))) (((hexB (s.getD (i+1) 0) (s.getD (i+2) 0)).toNat:Nat):Int)) (iV (((hexL (s.getD (i+1) 0)) * 16)+(hexL (s.getD (i+2) 0))):V)) (((s.getD i 0).toNat:Nat):Int)) ((geB v5 v1)==false)) (((geB v5 v1)||v9)==false)) ((i+2:Nat):Int)) (ltB (hexL (s.getD (i+1) 0)) 0)))) (.tup [sV ((escN s).1),bV ((escN s).2)])) (s.length:Int))
  (by kernel_rfl) ?_
 refine ⟨trivial,trivial,?_⟩
 refine ⟨fun hb1=>?_,fun hb1=>?_⟩
 · try simp only [nb] at hb1
   refine ⟨trivial,?_⟩
   refine ⟨trivial,?_,trivial⟩
   unfold Q
   rw [show escN s=([],false) from if_neg (by omega)]
 · try simp only [nb] at hb1
   refine ⟨trivial,trivial,?_⟩
   refine ⟨⟨(0,[]),?_,⟨rfl,rfl,rfl,trivial⟩,trivial⟩,?_⟩
   · unfold escNorm_k0
     refine ⟨by omega,by simp,?_⟩
     cases h:escL s <;> simp [h]
   rintro ⟨i,o⟩ ⟨hi,ho,hesc⟩
   refine ⟨trivial,?_⟩
   refine ⟨fun hb2=>?_,fun hb2=>?_⟩
   · try simp only [nb] at hb2
     refine ⟨⟨by omega,by have:=UInt8.toNat_lt (s.getD i 0); omega,trivial⟩,⟨by omega,trivial⟩,?_⟩
     refine ⟨fun hb3=>?_,fun hb3=>?_⟩
     · try simp only [nb] at hb3
       refine ⟨⟨by omega,fun hG=>⟨trivial,trivial⟩,fun hG=>⟨trivial,trivial⟩,fun hG=>⟨⟨fun h=>h,trivial⟩,by (try simp only [nb] at hG); omega⟩,fun hG=>⟨⟨fun h=>h,⟨fun h=>h,trivial⟩⟩,by (try simp only [nb] at hG); omega⟩,trivial⟩,fun hG=>⟨⟨fun h=>h,trivial⟩,trivial,rfl⟩,⟨fun hG=>⟨⟨fun h=>h,trivial⟩,trivial⟩,⟨fun _=>rfl,fun h=>by rw [h]; rfl⟩,fun hG=>⟨trivial,trivial⟩,fun hG=>⟨trivial,trivial⟩,fun hG=>⟨⟨fun h=>h,trivial⟩,by (try simp only [nb] at hG); omega⟩,fun hG=>⟨⟨fun h=>h,⟨fun h=>h,trivial⟩⟩,by (try simp only [nb] at hG); omega⟩,trivial⟩,fun hG=>⟨⟨fun h=>h,trivial⟩,trivial,rfl⟩,⟨fun hG=>⟨⟨fun h=>h,trivial⟩,trivial⟩,⟨fun _=>rfl,fun h=>by rw [h]; rfl⟩,trivial⟩,?_⟩
       refine ⟨fun hb4=>?_,fun hb4=>?_⟩
       · try simp only [nb] at hb4
         refine ⟨trivial,?_⟩
         refine ⟨trivial,?_,trivial⟩
         unfold Q
         rw [show escN s=([],false) from by unfold escN; rw [hesc,esc_none (by omega) (by omega) (by omega)]; simp]
       · try simp only [nb] at hb4
         refine ⟨⟨by omega,by omega,trivial⟩,rfl,trivial,⟨by have:=hexL_lt (s.getD (i+1) 0); have:=hexL_ge (s.getD (i+1) 0); omega,by omega,by omega,trivial⟩,rfl,trivial,⟨by have:=hexL_lt (s.getD (i+1) 0); have:=hexL_ge (s.getD (i+1) 0); have:=hexL_lt (s.getD (i+2) 0); have:=hexL_ge (s.getD (i+2) 0); omega,trivial⟩,trivial,(congrArg iV (hexB_nat (by omega) (by omega)).symm),(congrArg iV (hexB_nat (by omega) (by omega)).symm),⟨by omega,trivial⟩,⟨by have:=UInt8.toNat_lt (hexB (s.getD (i+1) 0) (s.getD (i+2) 0)); omega,trivial⟩,rfl,trivial,trivial,?_⟩
         refine ⟨fun hb5=>?_,fun hb5=>?_⟩
         · try simp only [nb] at hb5
           refine ⟨⟨by have:=UInt8.toNat_lt (hexB (s.getD (i+1) 0) (s.getD (i+2) 0)); omega,trivial⟩,trivial,rfl,⟨by (try simp only [List.length_append,List.length_cons,List.length_nil]); omega,trivial⟩,⟨by omega,trivial⟩,?_⟩
           refine ⟨((i+2)+1,o++[(hexB (s.getD (i+1) 0) (s.getD (i+2) 0))]),?_,?_,⟨rfl,rfl,rfl,trivial⟩,trivial⟩
           · unfold escNorm_k0
             have he:escB (hexB (s.getD (i+1) 0) (s.getD (i+2) 0))=[(hexB (s.getD (i+1) 0) (s.getD (i+2) 0))]:=by unfold escB; rw [if_pos hb5]
             have hl:=escB_len (hexB (s.getD (i+1) 0) (s.getD (i+2) 0))
             rw [he] at hl
             refine ⟨by omega,by rw [List.length_append]; omega,?_⟩
             rw [hesc,esc_sign (by omega) (by omega) (by omega) (by omega),he]
             cases escL (s.drop (i+3)) <;> simp
           · first | (simp; done) | omega | (simp; omega)
         · try simp only [nb] at hb5
           refine ⟨trivial,rfl,trivial,trivial,⟨by have:(signL (hexB (s.getD (i+1) 0) (s.getD (i+2) 0))).length=3:=rfl; (try simp only [List.length_append,List.length_cons,List.length_nil]); omega,trivial⟩,⟨by omega,trivial⟩,?_⟩
           refine ⟨((i+2)+1,o++(signL (hexB (s.getD (i+1) 0) (s.getD (i+2) 0)))),?_,?_,⟨rfl,rfl,rfl,trivial⟩,trivial⟩
           · unfold escNorm_k0
             have he:escB (hexB (s.getD (i+1) 0) (s.getD (i+2) 0))=signL (hexB (s.getD (i+1) 0) (s.getD (i+2) 0)):=by unfold escB; rw [if_neg (by rw [hb5]; decide)]
             have hl:=escB_len (hexB (s.getD (i+1) 0) (s.getD (i+2) 0))
             rw [he] at hl
             refine ⟨by omega,by rw [List.length_append]; omega,?_⟩
             rw [hesc,esc_sign (by omega) (by omega) (by omega) (by omega),he]
             cases escL (s.drop (i+3)) <;> simp
           · first | (simp; done) | omega | (simp; omega)
     · try simp only [nb] at hb3
       refine ⟨⟨by have:=UInt8.toNat_lt (s.getD i 0); omega,trivial⟩,rfl,trivial,trivial,?_⟩
       refine ⟨fun hb6=>?_,fun hb6=>?_⟩
       · try simp only [nb] at hb6
         refine ⟨⟨by have:=UInt8.toNat_lt (s.getD i 0); omega,trivial⟩,trivial,rfl,⟨by (try simp only [List.length_append,List.length_cons,List.length_nil]); omega,trivial⟩,⟨by omega,trivial⟩,?_⟩
         refine ⟨(i+1,o++[(s.getD i 0)]),?_,?_,⟨rfl,rfl,rfl,trivial⟩,trivial⟩
         · unfold escNorm_k0
           have he:escB (s.getD i 0)=[(s.getD i 0)]:=by unfold escB; rw [if_pos hb6]
           have hl:=escB_len (s.getD i 0)
           rw [he] at hl
           refine ⟨by omega,by rw [List.length_append]; omega,?_⟩
           rw [hesc,esc_plain (by omega) (by omega),he]
           cases escL (s.drop (i+1)) <;> simp
         · first | (simp; done) | omega | (simp; omega)
       · try simp only [nb] at hb6
         refine ⟨trivial,rfl,trivial,trivial,⟨by have:(signL (s.getD i 0)).length=3:=rfl; (try simp only [List.length_append,List.length_cons,List.length_nil]); omega,trivial⟩,⟨by omega,trivial⟩,?_⟩
         refine ⟨(i+1,o++(signL (s.getD i 0))),?_,?_,⟨rfl,rfl,rfl,trivial⟩,trivial⟩
         · unfold escNorm_k0
           have he:escB (s.getD i 0)=signL (s.getD i 0):=by unfold escB; rw [if_neg (by rw [hb6]; decide)]
           have hl:=escB_len (s.getD i 0)
           rw [he] at hl
           refine ⟨by omega,by rw [List.length_append]; omega,?_⟩
           rw [hesc,esc_plain (by omega) (by omega),he]
           cases escL (s.drop (i+1)) <;> simp
         · first | (simp; done) | omega | (simp; omega)
   · try simp only [nb] at hb2
     refine ⟨trivial,?_⟩
     refine ⟨trivial,?_,trivial⟩
     unfold Q
     rw [List.drop_eq_nil_of_le (by omega)] at hesc
     rw [show escN s=(o,true) from by unfold escN; rw [hesc,if_pos (by omega)]; simp [escL]]
def escNorm_c (s:List UInt8):Con Tryz.prog:={ f:=141,args:=[sV s],H:=[],pre:=(s.length≤4611686018427387904),res:=.tup [sV ((escN s).1),bV ((escN s).2)],H':=[],ok:=fun h=>escNorm_ok s h }
theorem l1Norm_ok (s:List UInt8) (hs:s.length≤4611686018427387904):PF Tryz.prog 147 [sV s] [] (fun r h=>r=(bV (normB s))∧h=[]):=by
 refine PF_go1 (N:=16) (rs:=[.tmp 2]) Tryz.func147 (by kernel_rfl) rfl rfl rfl (by kernel_rfl)
  (.r 1 [] <| .r 1 [] <| .c (escNorm_c s) [] <| .r 5 [] <| .r 7 [] <| .nil)
  (True∧True∧(escNorm_c s).sm∧(True)∧((s.length≤4611686018427387904))∧True∧(Gd (((escN s).2)==true) (True∧True)∧Gd (((escN s).2)==true) (True∧True)∧Gd (((escN s).2)==true) ((Gd (((escN s).2)==true) ((((escN s).2)==true)=true)∧(Gd (((escN s).2)==true) ((((escN s).2)==true)=true)∧True))∧True)∧Pk ((escN s).2) (((escN s).2)==true) true∧True)∧True∧Q (bV (((escN s).2)&&(((escN s).1)==s))) (bV (normB s))∧(True))
  (by kernel_rfl) ?_
 refine ⟨trivial,trivial,rfl,trivial,by first | assumption | omega | (simp; omega),trivial,⟨fun hG=>⟨trivial,trivial⟩,fun hG=>⟨trivial,trivial⟩,fun hG=>⟨⟨fun h=>h,⟨fun h=>h,trivial⟩⟩,trivial⟩,⟨fun h=>by rw [h]; rfl,fun _=>rfl⟩,trivial⟩,?_⟩
 refine ⟨trivial,?_,trivial⟩
 unfold Q
 rfl
def l1Norm_c (s:List UInt8):Con Tryz.prog:={ f:=147,args:=[sV s],H:=[],pre:=(s.length≤4611686018427387904),res:=bV (normB s),H':=[],ok:=fun h=>l1Norm_ok s h }
abbrev l1Split_k0 (s:List UInt8) (c:UInt8) (o:List (List UInt8)) (r:List UInt8) (m:Bool) (g:Nat) (f:Nat) (k:Nat):Prop:=(m=true→splitL c s=o++splitL c r)∧(m=false→splitL c s=o)∧o.length+r.length≤s.length+cond m 0 1∧r.length≤s.length
theorem l1Split_ok (s:List UInt8) (c:UInt8) (hs:s.length≤1099511627776):PF Tryz.prog 140 [sV s,uN c.toNat] [] (fun r h=>r=(.sl false ((splitL c s).map sV))∧h=[]):=by
 refine PF_go1 (N:=24) (rs:=[.tmp 4]) Tryz.func140 (by kernel_rfl) rfl rfl rfl (by kernel_rfl)
  (.r 1 [] <| .bs <| .r 1 [] <| .r 2 [] <| .r 1 [] <| .h (.own0 5 1) <| .loop ((List (List UInt8))×(List UInt8)×Bool×Nat×Nat×Nat) (fun (o,r,m,g,f,k)=>⟨[(0,sV s),(1,uN c.toNat),(5,.own 1 (o.map sV) g f k),(6,sV r),(7,bV m)],[]⟩) (fun (o,r,m,g,f,k)=>l1Split_k0 s c o r m g f k) (fun (o,r,m,g,f,k)=>cond m (r.length+1) 0) (fun (o,r,m,g,f,k)=>.r 1 [] <| .br (.r 1 [] <| .r 2 [] <| .c (l1Cut_c r c) [] <| .r 7 [] <| .r 2 [] <| .bs <| .ap (fun g22 o22 c22=>.h (.eqt 22 (.own 1 ((o++[(cutL c r).1]).map sV) g22 o22 c22)) <| .r 1 [] <| .nil)) (.h (.fz 5) <| .h (.eqt 5 (.sl false (o.map sV))) <| .r 2 [] <| .nil)))
  (True∧True∧True∧True∧(∃ x:(List (List UInt8))×(List UInt8)×Bool×Nat×Nat×Nat,match x with | (o₀,r₀,m₀,g₀,f₀,k₀)=>(l1Split_k0 s c o₀ r₀ m₀ g₀ f₀ k₀)∧(E (sV s)∧E (uN c.toNat)∧Q (.own 1 ([].map sV) 0 0 0) (.own 1 (o₀.map sV) g₀ f₀ k₀)∧Q (sV s) (sV r₀)∧Q (bV true) (bV m₀)∧True)∧True)∧∀ x:(List (List UInt8))×(List UInt8)×Bool×Nat×Nat×Nat,match x with | (o,r,m,g,f,k)=>(l1Split_k0 s c o r m g f k)→(fun v1:List V=>True∧Br m (True∧True∧(l1Cut_c r c).sm∧(True)∧((r.length≤4611686018427387904))∧True∧True∧((1,1,g,f,k,(o.map sV).length)=(1,1,g,f,k,(o.map sV).length))∧(True)∧(V.ownsL v1=false)∧(AllN 1 v1)∧(((o.map sV).length+v1.length) * 16≤140737488355328)∧∀ g22 o22 c22:Nat,((.own 1 ((o.map sV)++v1) g22 o22 c22:V)=.own 1 ((o++[(cutL c r).1]).map sV) g22 o22 c22)∧True∧∃ x:(List (List UInt8))×(List UInt8)×Bool×Nat×Nat×Nat,match x with | (o₂,r₂,m₂,g₂,f₂,k₂)=>(l1Split_k0 s c o₂ r₂ m₂ g₂ f₂ k₂)∧(cond m₂ (r₂.length+1) 0 < cond m (r.length+1) 0)∧(E (sV s)∧E (uN c.toNat)∧Q (.own 1 ((o++[(cutL c r).1]).map sV) g22 o22 c22) (.own 1 (o₂.map sV) g₂ f₂ k₂)∧Q (sV ((cutL c r).2.1)) (sV r₂)∧Q (bV ((cutL c r).2.2)) (bV m₂)∧True)∧True) (((.sl false (V.erL (o.map sV)):V)=.sl false (o.map sV))∧True∧True∧Q (.sl false (o.map sV)) (.sl false ((splitL c s).map sV))∧(True))) ([sV ((cutL c r).1)]:List V))
  (by kernel_rfl) ?_
 refine ⟨trivial,trivial,trivial,trivial,?_⟩
 refine ⟨⟨([],s,true,0,0,0),?_,⟨rfl,rfl,rfl,rfl,rfl,trivial⟩,trivial⟩,?_⟩
 · unfold l1Split_k0
   simp
 rintro ⟨o,r,m,g,f,k⟩ ⟨h1,h2,h3,h4⟩
 refine ⟨trivial,?_⟩
 refine ⟨fun hb1=>?_,fun hb1=>?_⟩
 · try simp only [nb] at hb1
   refine ⟨trivial,trivial,rfl,trivial,by first | assumption | omega | (simp; omega),trivial,trivial,rfl,trivial,rfl,by simp [AllN,V.n,V.ns],by rw [hb1] at h3; simp at h3 ⊢; omega,?_⟩
   intro g22 o22 c22
   refine ⟨congrArg (V.own 1 · g22 o22 c22) (by simp),trivial,?_⟩
   refine ⟨(o++[(cutL c r).1],(cutL c r).2.1,(cutL c r).2.2,g22,o22,c22),?_,?_,⟨rfl,rfl,rfl,rfl,rfl,trivial⟩,trivial⟩
   · unfold l1Split_k0
     have hl:=cut_lt c r
     subst hb1
     have h1:=h1 rfl
     rw [splitL_cut c r] at h1
     have hle:=cut_le c r
     refine ⟨fun hm=>?_,fun hm=>?_,?_,by omega⟩
     · rw [h1,hm]; simp
     · rw [h1,hm]; simp
     · simp only [List.length_append,List.length_cons,List.length_nil]; cases hm:(cutL c r).2.2 <;> simp [hm] at hl h3 ⊢ <;> omega
   · have:=cut_lt c r
     subst hb1
     cases hm:(cutL c r).2.2 <;> simp [hm] at this ⊢; omega
 · try simp only [nb] at hb1
   refine ⟨congrArg (V.sl false) (erL_map_id (fun _=>rfl) _),trivial,?_⟩
   refine ⟨trivial,?_,trivial⟩
   unfold Q
   rw [h2 hb1]
def l1Split_c (s:List UInt8) (c:UInt8):Con Tryz.prog:={ f:=140,args:=[sV s,uN c.toNat],H:=[],pre:=(s.length≤1099511627776),res:=.sl false ((splitL c s).map sV),H':=[],ok:=fun h=>l1Split_ok s c h }
abbrev pathClean_k0 (ps:List (List UInt8)) (i:Nat) (o:List (List UInt8)) (g:Nat) (f:Nat) (k:Nat):Prop:=i≤ps.length∧o=cleanL (ps.take i)∧o.length≤i
theorem pathClean_ok (ps:List (List UInt8)) (hs:ps.length≤1099511627776):PF Tryz.prog 142 [.sl false (ps.map sV)] [] (fun r h=>r=(.sl false ((cleanL ps).map sV))∧h=[]):=by
 refine PF_go1 (N:=45) (rs:=[.tmp 2]) Tryz.func142 (by kernel_rfl) rfl rfl rfl (by kernel_rfl)
  (.r 1 [] <| .bs <| .r 1 [] <| .r 1 [] <| .h (.own0 3 1) <| .loop (Nat×(List (List UInt8))×Nat×Nat×Nat) (fun (i,o,g,f,k)=>⟨[(0,.sl false (ps.map sV)),(3,.own 1 (o.map sV) g f k),(4,iN i)],[]⟩) (fun (i,o,g,f,k)=>pathClean_k0 ps i o g f k) (fun (i,o,g,f,k)=>ps.length - i) (fun (i,o,g,f,k)=>.r 4 [] <| .br (.r 13 [sV (ps.getD i []),sV (ps.getD i [])] <| .br (.r 3 [] <| .nil) (.r 6 [sV (ps.getD i [])] <| .br (.r 4 [] <| .mm <| .r 1 [] <| .rs <| .h (.eqt 3 (.own 1 (o.dropLast.map sV) g (f+(0+((0:Int).toNat)) * 1) (k - ((0:Int).toNat)))) <| .r 3 [] <| .nil) (.r 5 [sV (ps.getD i [])] <| .bs <| .ap (fun g18 o18 c18=>.h (.eqt 18 (.own 1 ((o++[(ps.getD i [])]).map sV) g18 o18 c18)) <| .r 1 [] <| .r 3 [] <| .nil)))) (.h (.fz 3) <| .h (.eqt 3 (.sl false (o.map sV))) <| .r 2 [] <| .nil)))
  ((fun v1:V=>(True∧True∧True∧(∃ x:Nat×(List (List UInt8))×Nat×Nat×Nat,match x with | (i₀,o₀,g₀,f₀,k₀)=>(pathClean_k0 ps i₀ o₀ g₀ f₀ k₀)∧(E v1∧Q (.own 1 ([].map sV) 0 0 0) (.own 1 (o₀.map sV) g₀ f₀ k₀)∧Q (iN 0) (iN i₀)∧True)∧True)∧∀ x:Nat×(List (List UInt8))×Nat×Nat×Nat,match x with | (i,o,g,f,k)=>(pathClean_k0 ps i o g f k)→(fun v2:Bool=>(fun v3:Int=>(fun v4:List V=>(fun v5:V=>True∧Br (ltB (i:Int) (((ps.map sV).length:Nat):Int)) ((Ex (i:Int) (ps.map sV) v5∧True∧Gd v2 (True∧True)∧Gd v2 (True∧True)∧Gd v2 ((Gd v2 (v2=true)∧(Gd v2 (v2=true)∧True))∧Ex (i:Int) (ps.map sV) v5)∧Gd v2 ((Gd v2 (v2=true)∧True)∧True)∧Gd v2 ((Gd v2 (v2=true)∧True)∧True)∧Pk ((ps.getD i [])==[]) true v2∧True)∧Br (((ps.getD i [])==[])||((ps.getD i [])==([46]:List UInt8))) ((I64 ((i:Int)+1)∧True)∧∃ x:Nat×(List (List UInt8))×Nat×Nat×Nat,match x with | (i₂,o₂,g₂,f₂,k₂)=>(pathClean_k0 ps i₂ o₂ g₂ f₂ k₂)∧(ps.length - i₂ < ps.length - i)∧(E v1∧Q (.own 1 (o.map sV) g f k) (.own 1 (o₂.map sV) g₂ f₂ k₂)∧Q (iN (i+1)) (iN i₂)∧True)∧True) ((Ex (i:Int) (ps.map sV) v5∧True∧True)∧Br ((ps.getD i [])==([46,46]:List UInt8)) ((I64 (v3 - 1)∧True)∧(IntKind.i64=IntKind.i64)∧(((0:Int)≤(0:Int)∧(0:Int)≤(max (v3 - 1) 0)∧(max (v3 - 1) 0)≤((o.map sV).length)∧1=1)∧True)∧((3,1,g,f)=(3,1,g,f))∧((0+((0:Int).toNat))+((Int.toNat (max (v3 - 1) 0)) - ((0:Int).toNat))≤(o.map sV).length∧(0+((0:Int).toNat))+(k - ((0:Int).toNat))≤k∧V.ownsL (o.map sV)=false)∧((.own 1 (((o.map sV).drop (0+((0:Int).toNat))).take ((Int.toNat (max (v3 - 1) 0)) - ((0:Int).toNat))) g (f+(0+((0:Int).toNat)) * 1) (k - ((0:Int).toNat)):V)=.own 1 (o.dropLast.map sV) g (f+(0+((0:Int).toNat)) * 1) (k - ((0:Int).toNat)))∧(I64 ((i:Int)+1)∧True)∧∃ x:Nat×(List (List UInt8))×Nat×Nat×Nat,match x with | (i₂,o₂,g₂,f₂,k₂)=>(pathClean_k0 ps i₂ o₂ g₂ f₂ k₂)∧(ps.length - i₂ < ps.length - i)∧(E v1∧Q (.own 1 (o.dropLast.map sV) g (f+(0+((0:Int).toNat)) * 1) (k - ((0:Int).toNat))) (.own 1 (o₂.map sV) g₂ f₂ k₂)∧Q (iN (i+1)) (iN i₂)∧True)∧True) ((Ex (i:Int) (ps.map sV) v5∧True∧True)∧((1,1,g,f,k,(o.map sV).length)=(1,1,g,f,k,(o.map sV).length))∧(True)∧(V.ownsL v4=false)∧(AllN 1 v4)∧(((o.map sV).length+v4.length) * 16≤140737488355328)∧∀ g18 o18 c18:Nat,((.own 1 ((o.map sV)++v4) g18 o18 c18:V)=.own 1 ((o++[(ps.getD i [])]).map sV) g18 o18 c18)∧True∧(I64 ((i:Int)+1)∧True)∧∃ x:Nat×(List (List UInt8))×Nat×Nat×Nat,match x with | (i₂,o₂,g₂,f₂,k₂)=>(pathClean_k0 ps i₂ o₂ g₂ f₂ k₂)∧(ps.length - i₂ < ps.length - i)∧(E v1∧Q (.own 1 ((o++[(ps.getD i [])]).map sV) g18 o18 c18) (.own 1 (o₂.map sV) g₂ f₂ k₂)∧Q (iN (i+1)) (iN i₂)∧True)∧True))) (((.sl false (V.erL (o.map sV)):V)=.sl false (o.map sV))∧True∧True∧Q (.sl false (o.map sV)) (.sl false ((cleanL ps).map sV))∧(True))) (sV (ps.getD i []))) ([sV (ps.getD i [])]:List V)) (((o.map sV).length:Nat):Int)) (((ps.getD i [])==[])==false))) (.sl false (ps.map sV)))
  (by kernel_rfl) ?_
 refine ⟨trivial,trivial,trivial,?_⟩
 refine ⟨⟨(0,[],0,0,0),?_,⟨rfl,rfl,rfl,trivial⟩,trivial⟩,?_⟩
 · unfold pathClean_k0
   simp [cleanL]
 rintro ⟨i,o,g,f,k⟩ ⟨h1,h2,h3⟩
 refine ⟨trivial,?_⟩
 refine ⟨fun hb1=>?_,fun hb1=>?_⟩
 · try simp only [nb,List.length_map] at hb1
   refine ⟨⟨⟨by omega,getE_map (d:=[]) (by omega)⟩,trivial,fun hG=>⟨trivial,trivial⟩,fun hG=>⟨trivial,trivial⟩,fun hG=>⟨⟨fun h=>h,⟨fun h=>h,trivial⟩⟩,⟨by omega,getE_map (d:=[]) (by omega)⟩⟩,fun hG=>⟨⟨fun h=>h,trivial⟩,trivial⟩,fun hG=>⟨⟨fun h=>h,trivial⟩,trivial⟩,⟨fun _=>rfl,fun h=>by rw [h]; rfl⟩,trivial⟩,?_⟩
   refine ⟨fun hb2=>?_,fun hb2=>?_⟩
   · try simp only [nb] at hb2
     refine ⟨⟨by omega,trivial⟩,?_⟩
     refine ⟨(i+1,o,g,f,k),?_,?_,⟨rfl,rfl,rfl,trivial⟩,trivial⟩
     · unfold pathClean_k0
       refine ⟨by omega,?_,by omega⟩
       rw [clean_succ (by omega),← h2,cleanStep,if_pos hb2]
     · first | (simp; done) | omega | (simp; omega)
   · try simp only [nb] at hb2
     refine ⟨⟨⟨by omega,getE_map (d:=[]) (by omega)⟩,trivial,trivial⟩,?_⟩
     refine ⟨fun hb3=>?_,fun hb3=>?_⟩
     · try simp only [nb] at hb3
       refine ⟨⟨by (try simp only [List.length_map] at *); omega,trivial⟩,rfl,⟨⟨by omega,by omega,by omega,rfl⟩,trivial⟩,rfl,⟨by simp <;> omega,by simp,ownsL_map (fun _=>rfl) _⟩,congrArg (V.own 1 · g (f+(0+((0:Int).toNat)) * 1) (k - ((0:Int).toNat))) (by rw [show (0+Int.toNat 0)=0 from rfl,List.drop_zero,← List.map_take,List.dropLast_eq_take]; congr 2; simp; omega),⟨by omega,trivial⟩,?_⟩
       refine ⟨(i+1,o.dropLast,g,f+(0+((0:Int).toNat)) * 1,k - ((0:Int).toNat)),?_,?_,⟨rfl,rfl,rfl,trivial⟩,trivial⟩
       · unfold pathClean_k0
         refine ⟨by omega,?_,by simp; omega⟩
         rw [clean_succ (by omega),← h2,cleanStep,if_neg (by simpa using hb2),if_pos hb3]
       · first | (simp; done) | omega | (simp; omega)
     · try simp only [nb] at hb3
       refine ⟨⟨⟨by omega,getE_map (d:=[]) (by omega)⟩,trivial,trivial⟩,rfl,trivial,rfl,by simp [AllN,V.n,V.ns],by simp; omega,?_⟩
       intro g18 o18 c18
       refine ⟨congrArg (V.own 1 · g18 o18 c18) (by simp),trivial,⟨by omega,trivial⟩,?_⟩
       refine ⟨(i+1,o++[(ps.getD i [])],g18,o18,c18),?_,?_,⟨rfl,rfl,rfl,trivial⟩,trivial⟩
       · unfold pathClean_k0
         refine ⟨by omega,?_,by simp; omega⟩
         rw [clean_succ (by omega),← h2,cleanStep,if_neg (by simpa using hb2),if_neg hb3]
       · first | (simp; done) | omega | (simp; omega)
 · try simp only [nb,List.length_map] at hb1
   refine ⟨congrArg (V.sl false) (erL_map_id (fun _=>rfl) _),trivial,?_⟩
   refine ⟨trivial,?_,trivial⟩
   unfold Q
   rw [h2,List.take_of_length_le (by omega)]
def pathClean_c (ps:List (List UInt8)):Con Tryz.prog:={ f:=142,args:=[.sl false (ps.map sV)],H:=[],pre:=(ps.length≤1099511627776),res:=.sl false ((cleanL ps).map sV),H':=[],ok:=fun h=>pathClean_ok ps h }
end Go.Proofs.YthliifpcaahnnaaGreatDoor
namespace Go.Proofs.YthliifpcaahnnaaGreatDoor
open Go Go.Abs Go.RowKit Go.Pd
set_option maxRecDepth 20000
abbrev l1Path_k0 (a:Adr) (i:Nat) (o:List UInt8):Prop:=i≤a.parts.length∧o=[47]++joinL (a.parts.take i)
theorem l1Path_ok (a:Adr) (ha:AdrSz a):PF Tryz.prog 69 [.agg [sV a.house,.sl false (a.parts.map sV),bV a.asks,sV a.ask]] [] (fun r h=>r=(sV (pathL a))∧h=[]):=by
 obtain ⟨z1,z2,z3,z4⟩:=ha
 refine PF_go1 (N:=31) (rs:=[.tmp 2]) Tryz.func69 (by kernel_rfl) rfl rfl rfl (by kernel_rfl)
  (.bx (fun g1=>.r 1 [] <| .r 1 [] <| .r 1 [] <| .loop (Nat×(List UInt8)) (fun (i,o)=>⟨[(1,.ptr (.key 1) [] g1 0),(3,sV o),(4,iN i)],[(1,(g1,.agg [sV a.house,.sl false (a.parts.map sV),bV a.asks,sV a.ask]))]⟩) (fun (i,o)=>l1Path_k0 a i o) (fun (i,o)=>a.parts.length - i) (fun (i,o)=>.r 5 [.dead] <| .br (.r 2 [] <| .br (.r 3 [] <| .r 8 [.dead,sV (a.parts.getD i [])] <| .r 3 [] <| .nil) (.r 8 [.dead,sV (a.parts.getD i [])] <| .r 3 [] <| .nil)) (.r 2 [.dead] <| .br (.r 6 [.dead] <| .r 2 [] <| .nil) (.r 2 [] <| .nil)))))
  ((fun v1:V=>(fun v2:List UInt8=>(∀ g1:Nat,True∧True∧True∧(∃ x:Nat×(List UInt8),match x with | (i₀,o₀)=>(l1Path_k0 a i₀ o₀)∧(E (.ptr (.key 1) [] g1 0)∧Q (sV v2) (sV o₀)∧Q (iN 0) (iN i₀)∧True)∧(Er g1 v1∧True))∧∀ x:Nat×(List UInt8),match x with | (i,o)=>(l1Path_k0 a i o)→(Z g1 1∧True)∧Br (ltB (i:Int) (((a.parts.map sV).length:Nat):Int)) (True∧Br (gtB (i:Int) 0) (((o.length+v2.length≤4611686018427387904)∧True)∧(Z g1 1∧Ex (i:Int) (a.parts.map sV) (sV (a.parts.getD i []))∧True∧((o++v2).length+(a.parts.getD i []).length≤4611686018427387904)∧True)∧(I64 ((i:Int)+1)∧True)∧∃ x:Nat×(List UInt8),match x with | (i₂,o₂)=>(l1Path_k0 a i₂ o₂)∧(a.parts.length - i₂ < a.parts.length - i)∧(E (.ptr (.key 1) [] g1 0)∧Q (sV ((o++v2)++(a.parts.getD i []))) (sV o₂)∧Q (iN (i+1)) (iN i₂)∧True)∧(Er g1 v1∧True)) ((Z g1 1∧Ex (i:Int) (a.parts.map sV) (sV (a.parts.getD i []))∧True∧(o.length+(a.parts.getD i []).length≤4611686018427387904)∧True)∧(I64 ((i:Int)+1)∧True)∧∃ x:Nat×(List UInt8),match x with | (i₂,o₂)=>(l1Path_k0 a i₂ o₂)∧(a.parts.length - i₂ < a.parts.length - i)∧(E (.ptr (.key 1) [] g1 0)∧Q (sV (o++(a.parts.getD i []))) (sV o₂)∧Q (iN (i+1)) (iN i₂)∧True)∧(Er g1 v1∧True))) ((Z g1 2∧True)∧Br a.asks (((o.length+([63]:List UInt8).length≤4611686018427387904)∧Z g1 3∧((o++([63]:List UInt8)).length+a.ask.length≤4611686018427387904)∧True)∧True∧True∧Q (sV ((o++([63]:List UInt8))++a.ask)) (sV (pathL a))∧(True)) (True∧True∧Q (sV o) (sV (pathL a))∧(True))))) ([47]:List UInt8)) (.agg [sV a.house,.sl false (a.parts.map sV),bV a.asks,sV a.ask]))
  (by kernel_rfl) ?_
 intro g1
 refine ⟨trivial,trivial,trivial,?_⟩
 refine ⟨⟨(0,[47]),?_,⟨rfl,by first | rfl | simp | (simp; omega),rfl,trivial⟩,⟨rfl,trivial⟩⟩,?_⟩
 · unfold l1Path_k0
   simp [joinL]
 rintro ⟨i,o⟩ ⟨h1,h2⟩
 have hl:=joinL_len z4 i h1
 have hol:o.length≤1+i * 1048577:=by rw [h2]; simp; omega
 have z4i:=z4 i
 refine ⟨⟨rfl,trivial⟩,?_⟩
 refine ⟨fun hb1=>?_,fun hb1=>?_⟩
 · try simp only [nb,List.length_map] at hb1
   refine ⟨trivial,?_⟩
   refine ⟨fun hb2=>?_,fun hb2=>?_⟩
   · try simp only [nb] at hb2
     refine ⟨⟨by (try simp only [List.length_append,List.length_cons,List.length_nil]); omega,trivial⟩,⟨rfl,⟨by omega,getE_map (d:=[]) (by omega)⟩,trivial,by (try simp only [List.length_append,List.length_cons,List.length_nil]); omega,trivial⟩,⟨by omega,trivial⟩,?_⟩
     refine ⟨(i+1,(o++([47]:List UInt8))++(a.parts.getD i [])),?_,?_,⟨rfl,rfl,rfl,trivial⟩,⟨rfl,trivial⟩⟩
     · unfold l1Path_k0
       refine ⟨by omega,?_⟩
       rw [h2,take_succ_getD (by omega:i < a.parts.length) [],joinL_snoc,if_neg (by intro h; have:=congrArg List.length h; simp only [List.length_take,List.length_nil] at this; omega)]
       simp [List.append_assoc]
     · first | (simp; done) | omega | (simp; omega)
   · try simp only [nb] at hb2
     refine ⟨⟨rfl,⟨by omega,getE_map (d:=[]) (by omega)⟩,trivial,by (try simp only [List.length_append,List.length_cons,List.length_nil]); omega,trivial⟩,⟨by omega,trivial⟩,?_⟩
     refine ⟨(i+1,o++(a.parts.getD i [])),?_,?_,⟨rfl,rfl,rfl,trivial⟩,⟨rfl,trivial⟩⟩
     · unfold l1Path_k0
       refine ⟨by omega,?_⟩
       have hi0:i=0:=by omega
       subst hi0
       rw [h2,take_succ_getD (by omega:0 < a.parts.length) []]; simp [joinL]
     · first | (simp; done) | omega | (simp; omega)
 · try simp only [nb,List.length_map] at hb1
   refine ⟨⟨rfl,trivial⟩,?_⟩
   refine ⟨fun hb3=>?_,fun hb3=>?_⟩
   · try simp only [nb] at hb3
     refine ⟨⟨by (try simp only [List.length_append,List.length_cons,List.length_nil]); omega,rfl,by (try simp only [List.length_append,List.length_cons,List.length_nil]); omega,trivial⟩,trivial,?_⟩
     refine ⟨trivial,?_,trivial⟩
     unfold Q
     refine congrArg sV ?_
     rw [h2,List.take_of_length_le (by omega)]
     unfold pathL; rw [if_pos hb3]; simp [List.append_assoc]
   · try simp only [nb] at hb3
     refine ⟨trivial,?_⟩
     refine ⟨trivial,?_,trivial⟩
     unfold Q
     refine congrArg sV ?_
     rw [h2,List.take_of_length_le (by omega)]
     unfold pathL; rw [if_neg (by rw [hb3]; decide)]; simp
def l1Path_c (a:Adr):Con Tryz.prog:={ f:=69,args:=[.agg [sV a.house,.sl false (a.parts.map sV),bV a.asks,sV a.ask]],H:=[],pre:=(AdrSz a),res:=sV (pathL a),H':=[],ok:=fun h=>l1Path_ok a h }
theorem l1Text_ok (a:Adr) (ha:AdrSz a):PF Tryz.prog 110 [.agg [sV a.house,.sl false (a.parts.map sV),bV a.asks,sV a.ask]] [] (fun r h=>r=(sV (textL a))∧h=[]):=by
 have hp:=pathL_len ha
 have h1:=ha.1
 refine PF_go1 (N:=9) (rs:=[.tmp 2]) Tryz.func110 (by kernel_rfl) rfl rfl rfl (by kernel_rfl)
  (.bx (fun g1=>.r 1 [] <| .d 6 <| .r 4 [.dead,.dead] <| .c (l1Path_c a) [] <| .r 1 [] <| .r 1 [] <| .nil))
  (∀ g1:Nat,True∧(Z g1 0∧(([47,47]:List UInt8).length+a.house.length≤4611686018427387904)∧Z g1 0∧True)∧(l1Path_c a).sm∧((AdrSz a))∧(((([47,47]:List UInt8)++a.house).length+(pathL a).length≤4611686018427387904)∧True)∧True∧True∧Q (sV ((([47,47]:List UInt8)++a.house)++(pathL a))) (sV (textL a))∧(True))
  (by kernel_rfl) ?_
 intro g1
 refine ⟨trivial,⟨rfl,by (try simp only [List.length_append,List.length_cons,List.length_nil]); omega,rfl,trivial⟩,rfl,by first | assumption | exact oA_sz _ | simp_all,⟨by (try simp only [List.length_append,List.length_cons,List.length_nil]); omega,trivial⟩,trivial,?_⟩
 refine ⟨trivial,?_,trivial⟩
 unfold Q
 rfl
def l1Text_c (a:Adr):Con Tryz.prog:={ f:=110,args:=[.agg [sV a.house,.sl false (a.parts.map sV),bV a.asks,sV a.ask]],H:=[],pre:=(AdrSz a),res:=sV (textL a),H':=[],ok:=fun h=>l1Text_ok a h }
abbrev addrOk_k0 (a:Adr) (i:Nat):Prop:=i≤a.parts.length∧∀ j,j < i→partOk (a.parts.getD j [])=true
theorem addrOk_ok (a:Adr) (ha:AdrSz a):PF Tryz.prog 109 [.agg [sV a.house,.sl false (a.parts.map sV),bV a.asks,sV a.ask]] [] (fun r h=>r=(bV (addrOkL a))∧h=[]):=by
 obtain ⟨z1,z2,z3,z4⟩:=id ha
 refine PF_go1 (N:=72) (rs:=[.tmp 2]) Tryz.func109 (by kernel_rfl) rfl rfl rfl (by kernel_rfl)
  (.bx (fun g1=>.r 1 [] <| .r 2 [.dead] <| .c (l1House_c a.house) [] <| .r 10 [.dead,.dead] <| .cg (l1Norm_c a.ask) <| .r 12 [.dead,.dead] <| .br (.r 1 [] <| .nil) (.r 1 [] <| .loop (Nat) (fun (i:Nat)=>⟨[(1,.ptr (.key 1) [] g1 0),(3,iN i)],[(1,(g1,.agg [sV a.house,.sl false (a.parts.map sV),bV a.asks,sV a.ask]))]⟩) (fun (i:Nat)=>addrOk_k0 a i) (fun (i:Nat)=>a.parts.length - i) (fun (i:Nat)=>.r 5 [.dead] <| .br (.r 5 [.dead,sV (a.parts.getD i [])] <| .c (l1Norm_c (a.parts.getD i [])) [] <| .r 25 [.dead,sV (a.parts.getD i []),.dead,sV (a.parts.getD i []),.dead,sV (a.parts.getD i [])] <| .br (.r 1 [] <| .nil) (.r 3 [] <| .nil)) (.r 1 [.dead] <| .c (l1Text_c a) [] <| .r 3 [] <| .nil)))))
  ((fun v5:Int=>(fun v7:Bool=>(fun v1:Bool=>(fun v2:Bool=>(fun v3:List UInt8=>(fun v4:Bool=>(fun v6:V=>(∀ g1:Nat,True∧(Z g1 0∧True)∧(l1House_c a.house).sm∧(True)∧((a.house.length≤4611686018427387904))∧(Gd v4 (True∧True)∧Gd v4 ((Gd v4 (v4=true)∧True)∧Z g1 1)∧Gd v4 ((Gd v4 (v4=true)∧True)∧True)∧Gd v4 ((Gd v4 (v4=true)∧True)∧True)∧Pk v7 true v4∧Gd v2 (True∧True)∧Gd v2 ((Gd v2 (v2=true)∧True)∧Z g1 3)∧True)∧Gd v2 ((Gd v2 (v2=true)∧True)∧((a.ask.length≤4611686018427387904))∧(l1Norm_c a.ask).sm)∧(Gd v2 ((Gd v2 (v2=true)∧True)∧True)∧Pk (v7||(gtB v5 5)) true v2∧Gd v1 (True∧True)∧Gd v1 ((Gd v1 (v1=true)∧True)∧Z g1 2)∧Gd v1 ((Gd v1 (v1=true)∧True)∧True)∧Gd v1 ((Gd v1 (v1=true)∧True)∧True)∧Gd (v1&&((!a.asks)==true)) (True∧True)∧Gd (v1&&((!a.asks)==true)) ((Gd (v1&&((!a.asks)==true)) ((v1&&((!a.asks)==true))=true)∧True)∧Z g1 3)∧Gd (v1&&((!a.asks)==true)) ((Gd (v1&&((!a.asks)==true)) ((v1&&((!a.asks)==true))=true)∧True)∧True)∧Gd v1 ((Gd v1 (v1=true)∧True)∧Pk (!a.asks) (v1&&((!a.asks)==true)) true)∧Pk ((v7||(gtB v5 5))||(!(normB a.ask))) true v1∧True)∧Br (((v7||(gtB v5 5))||(!(normB a.ask)))||((!a.asks)&&(!(a.ask==[])))) (True∧True∧Q (bV false) (bV (addrOkL a))∧(True)) (True∧(∃ i₀:Nat,(addrOk_k0 a i₀)∧(E (.ptr (.key 1) [] g1 0)∧Q (iN 0) (iN i₀)∧True)∧(Er g1 v6∧True))∧∀ i:Nat,(addrOk_k0 a i)→(fun v11:Bool=>(fun v8:Bool=>(fun v9:Bool=>(fun v10:Bool=>(fun v12:V=>(Z g1 1∧True)∧Br (ltB (i:Int) v5) ((Z g1 1∧Ex (i:Int) (a.parts.map sV) v12∧True∧True)∧(l1Norm_c (a.parts.getD i [])).sm∧(True)∧(((a.parts.getD i []).length≤4611686018427387904))∧(Gd v10 (True∧True)∧Gd v10 ((Gd v10 (v10=true)∧True)∧Z g1 1)∧Gd v10 (True∧True)∧Gd v10 ((Gd v10 (v10=true)∧(Gd v10 (v10=true)∧True))∧Ex (i:Int) (a.parts.map sV) v12)∧Gd v10 ((Gd v10 (v10=true)∧True)∧True)∧Gd v10 ((Gd v10 (v10=true)∧True)∧True)∧Pk v11 true v10∧Gd v9 (True∧True)∧Gd v9 ((Gd v9 (v9=true)∧True)∧Z g1 1)∧Gd v9 (True∧True)∧Gd v9 ((Gd v9 (v9=true)∧(Gd v9 (v9=true)∧True))∧Ex (i:Int) (a.parts.map sV) v12)∧Gd v9 ((Gd v9 (v9=true)∧True)∧True)∧Gd v9 ((Gd v9 (v9=true)∧True)∧True)∧Pk (v11||((a.parts.getD i [])==[])) true v9∧Gd v8 (True∧True)∧Gd v8 ((Gd v8 (v8=true)∧True)∧Z g1 1)∧Gd v8 (True∧True)∧Gd v8 ((Gd v8 (v8=true)∧(Gd v8 (v8=true)∧True))∧Ex (i:Int) (a.parts.map sV) v12)∧Gd v8 ((Gd v8 (v8=true)∧True)∧True)∧Gd v8 ((Gd v8 (v8=true)∧True)∧True)∧Pk ((v11||((a.parts.getD i [])==[]))||((a.parts.getD i [])==v3)) true v8∧True)∧Br (((v11||((a.parts.getD i [])==[]))||((a.parts.getD i [])==v3))||((a.parts.getD i [])==([46,46]:List UInt8))) (True∧True∧Q (bV false) (bV (addrOkL a))∧(True)) ((I64 ((i:Int)+1)∧True)∧∃ i₂:Nat,(addrOk_k0 a i₂)∧(a.parts.length - i₂ < a.parts.length - i)∧(E (.ptr (.key 1) [] g1 0)∧Q (iN (i+1)) (iN i₂)∧True)∧(Er g1 v6∧True))) ((Z g1 0∧True)∧(l1Text_c a).sm∧(True)∧((AdrSz a))∧True∧True∧Q (bV (leB (((textL a).length:Nat):Int) 60)) (bV (addrOkL a))∧(True))) (sV (a.parts.getD i []))) (v11==false)) ((v11||((a.parts.getD i [])==[]))==false)) (((v11||((a.parts.getD i [])==[]))||((a.parts.getD i [])==v3))==false)) (!(normB (a.parts.getD i [])))))) (.agg [sV a.house,.sl false (a.parts.map sV),bV a.asks,sV a.ask])) (v7==false)) ([46]:List UInt8)) ((v7||(gtB v5 5))==false)) (((v7||(gtB v5 5))||(!(normB a.ask)))==false)) (!(houseL a.house))) (((a.parts.map sV).length:Nat):Int))
  (by kernel_rfl) ?_
 intro g1
 refine ⟨trivial,⟨rfl,trivial⟩,rfl,trivial,by first | assumption | omega | (simp; omega),⟨fun hG=>⟨trivial,trivial⟩,fun hG=>⟨⟨fun h=>h,trivial⟩,rfl⟩,fun hG=>⟨⟨fun h=>h,trivial⟩,trivial⟩,fun hG=>⟨⟨fun h=>h,trivial⟩,trivial⟩,⟨fun _=>rfl,fun h=>by rw [h]; rfl⟩,fun hG=>⟨trivial,trivial⟩,fun hG=>⟨⟨fun h=>h,trivial⟩,rfl⟩,trivial⟩,fun hG=>⟨⟨fun h=>h,trivial⟩,by (try simp only [nb,List.length_map] at hG); first | assumption | omega | (simp; omega),rfl⟩,⟨fun hG=>⟨⟨fun h=>h,trivial⟩,trivial⟩,⟨fun _=>rfl,fun h=>by rw [h]; rfl⟩,fun hG=>⟨trivial,trivial⟩,fun hG=>⟨⟨fun h=>h,trivial⟩,rfl⟩,fun hG=>⟨⟨fun h=>h,trivial⟩,trivial⟩,fun hG=>⟨⟨fun h=>h,trivial⟩,trivial⟩,fun hG=>⟨trivial,trivial⟩,fun hG=>⟨⟨fun h=>h,trivial⟩,rfl⟩,fun hG=>⟨⟨fun h=>h,trivial⟩,trivial⟩,fun hG=>⟨⟨fun h=>h,trivial⟩,⟨fun h=>by rw [h]; exact (Bool.and_eq_true _ _).mpr ⟨hG,rfl⟩,fun _=>rfl⟩⟩,⟨fun _=>rfl,fun h=>by rw [h]; rfl⟩,trivial⟩,?_⟩
 refine ⟨fun hb1=>?_,fun hb1=>?_⟩
 · try simp only [nb,List.length_map] at hb1
   refine ⟨trivial,?_⟩
   refine ⟨trivial,?_,trivial⟩
   unfold Q
   refine congrArg bV ?_
   unfold addrOkL
   grind
 · try simp only [nb,List.length_map] at hb1
   refine ⟨trivial,?_⟩
   refine ⟨⟨0,?_,⟨rfl,rfl,trivial⟩,⟨rfl,trivial⟩⟩,?_⟩
   · unfold addrOk_k0
     simp
   rintro i ⟨h1,h2⟩
   have z4i:=z4 i
   refine ⟨⟨rfl,trivial⟩,?_⟩
   refine ⟨fun hb2=>?_,fun hb2=>?_⟩
   · try simp only [nb,List.length_map] at hb2
     refine ⟨⟨rfl,⟨by omega,getE_map (d:=[]) (by omega)⟩,trivial,trivial⟩,rfl,trivial,by first | assumption | omega | (simp; omega),⟨fun hG=>⟨trivial,trivial⟩,fun hG=>⟨⟨fun h=>h,trivial⟩,rfl⟩,fun hG=>⟨trivial,trivial⟩,fun hG=>⟨⟨fun h=>h,⟨fun h=>h,trivial⟩⟩,⟨by omega,getE_map (d:=[]) (by omega)⟩⟩,fun hG=>⟨⟨fun h=>h,trivial⟩,trivial⟩,fun hG=>⟨⟨fun h=>h,trivial⟩,trivial⟩,⟨fun _=>rfl,fun h=>by rw [h]; rfl⟩,fun hG=>⟨trivial,trivial⟩,fun hG=>⟨⟨fun h=>h,trivial⟩,rfl⟩,fun hG=>⟨trivial,trivial⟩,fun hG=>⟨⟨fun h=>h,⟨fun h=>h,trivial⟩⟩,⟨by omega,getE_map (d:=[]) (by omega)⟩⟩,fun hG=>⟨⟨fun h=>h,trivial⟩,trivial⟩,fun hG=>⟨⟨fun h=>h,trivial⟩,trivial⟩,⟨fun _=>rfl,fun h=>by rw [h]; rfl⟩,fun hG=>⟨trivial,trivial⟩,fun hG=>⟨⟨fun h=>h,trivial⟩,rfl⟩,fun hG=>⟨trivial,trivial⟩,fun hG=>⟨⟨fun h=>h,⟨fun h=>h,trivial⟩⟩,⟨by omega,getE_map (d:=[]) (by omega)⟩⟩,fun hG=>⟨⟨fun h=>h,trivial⟩,trivial⟩,fun hG=>⟨⟨fun h=>h,trivial⟩,trivial⟩,⟨fun _=>rfl,fun h=>by rw [h]; rfl⟩,trivial⟩,?_⟩
     refine ⟨fun hb3=>?_,fun hb3=>?_⟩
     · try simp only [nb] at hb3
       refine ⟨trivial,?_⟩
       refine ⟨trivial,?_,trivial⟩
       unfold Q
       refine congrArg bV ?_
       unfold addrOkL
       rw [all_false (i:=i) (d:=[]) (by omega) (by simp only [partOk]; grind)]; simp
     · try simp only [nb] at hb3
       refine ⟨⟨by omega,trivial⟩,?_⟩
       refine ⟨i+1,?_,?_,⟨rfl,rfl,trivial⟩,⟨rfl,trivial⟩⟩
       · unfold addrOk_k0
         refine ⟨by omega,lt_succ_of h2 ?_⟩
         simp only [partOk]; grind
       · first | (simp; done) | omega | (simp; omega)
   · try simp only [nb,List.length_map] at hb2
     refine ⟨⟨rfl,trivial⟩,rfl,trivial,by first | assumption | exact oA_sz _ | simp_all,trivial,?_⟩
     refine ⟨trivial,?_,trivial⟩
     unfold Q
     refine congrArg bV ?_
     unfold addrOkL
     rw [all_true (d:=[]) (fun j hj=>h2 j (by omega))]
     grind
def addrOk_c (a:Adr):Con Tryz.prog:={ f:=109,args:=[.agg [sV a.house,.sl false (a.parts.map sV),bV a.asks,sV a.ask]],H:=[],pre:=(AdrSz a),res:=bV (addrOkL a),H':=[],ok:=fun h=>addrOk_ok a h }
abbrev addrText_r (a:Adr):V:=sV (if addrOkL a=true then textL a else [])
theorem addrText_ok (a:Adr) (ha:AdrSz a):PF Tryz.prog 73 [.agg [sV a.house,.sl false (a.parts.map sV),bV a.asks,sV a.ask]] [] (fun r h=>r=(addrText_r a)∧h=[]):=by
 refine PF_go1 (N:=8) (rs:=[.tmp 2]) Tryz.func73 (by kernel_rfl) rfl rfl rfl (by kernel_rfl)
  (.bx (fun g1=>.r 1 [] <| .r 1 [.dead] <| .c (addrOk_c a) [] <| .r 1 [] <| .br (.r 1 [] <| .nil) (.r 1 [.dead] <| .c (l1Text_c a) [] <| .r 1 [] <| .nil)))
  (∀ g1:Nat,True∧(Z g1 0∧True)∧(addrOk_c a).sm∧(True)∧((AdrSz a))∧True∧Br (!(addrOkL a)) (True∧True∧Q (sV []) (addrText_r a)∧(True)) ((Z g1 0∧True)∧(l1Text_c a).sm∧(True)∧((AdrSz a))∧True∧True∧Q (sV (textL a)) (addrText_r a)∧(True)))
  (by kernel_rfl) ?_
 intro g1
 refine ⟨trivial,⟨rfl,trivial⟩,rfl,trivial,by first | assumption | exact oA_sz _ | simp_all,trivial,?_⟩
 refine ⟨fun hb1=>?_,fun hb1=>?_⟩
 · try simp only [nb] at hb1
   refine ⟨trivial,?_⟩
   refine ⟨trivial,?_,trivial⟩
   unfold Q addrText_r
   rw [if_neg (by rw [hb1]; decide)]
 · try simp only [nb] at hb1
   refine ⟨⟨rfl,trivial⟩,rfl,trivial,by first | assumption | exact oA_sz _ | simp_all,trivial,?_⟩
   refine ⟨trivial,?_,trivial⟩
   unfold Q addrText_r
   rw [if_pos hb1]
def addrText_c (a:Adr):Con Tryz.prog:={ f:=73,args:=[.agg [sV a.house,.sl false (a.parts.map sV),bV a.asks,sV a.ask]],H:=[],pre:=(AdrSz a),res:=addrText_r a,H':=[],ok:=fun h=>addrText_ok a h }
abbrev l1Small_k0 (s:List UInt8) (i:Nat) (l:List UInt8) (g:Nat) (k:Nat):Prop:=i≤s.length∧l.length=s.length∧l=lowerL (s.take i)++s.drop i
theorem l1Small_ok (s:List UInt8) (hs:s.length≤1099511627776):PF Tryz.prog 104 [sV s] [] (fun r h=>r=(sV (lowerL s))∧h=[]):=by
 refine PF_go1 (N:=35) (rs:=[.tmp 2]) Tryz.func104 (by kernel_rfl) rfl rfl rfl (by kernel_rfl)
  (.r 1 [] <| .r 1 [] <| .sb s (fun g6 c6=>.r 1 [] <| .r 1 [] <| .loop (Nat×(List UInt8)×Nat×Nat) (fun (i,l,g,k)=>⟨[(3,.own 1 (l.map u8V) g 0 k),(4,iN i)],[]⟩) (fun (i,l,g,k)=>l1Small_k0 s i l g k) (fun (i,l,g,k)=>s.length - i) (fun (i,l,g,k)=>.r 4 [] <| .br (.r 12 [uN ((l.getD i 0).toNat),uN ((l.getD i 0).toNat)] <| .br (.r 8 [uN ((l.getD i 0).toNat)] <| .h (.eqt 31 (uN ((smallB (l.getD i 0)).toNat))) <| .st (some (uN ((l.getD i 0).toNat))) <| .h (.eqt 3 (.own 1 ((l.set i (smallB (l.getD i 0))).map u8V) g 0 k)) <| .r 3 [] <| .nil) (.r 3 [] <| .nil)) (.r 1 [] <| .by_ l <| .r 1 [] <| .nil))))
  (True∧True∧((sV s:V)=sV s)∧∀ g6 c6:Nat,True∧True∧(∃ x:Nat×(List UInt8)×Nat×Nat,match x with | (i₀,l₀,g₀,k₀)=>(l1Small_k0 s i₀ l₀ g₀ k₀)∧(Q (.own 1 (s.map u8V) g6 0 c6) (.own 1 (l₀.map u8V) g₀ 0 k₀)∧Q (iN 0) (iN i₀)∧True)∧True)∧∀ x:Nat×(List UInt8)×Nat×Nat,match x with | (i,l,g,k)=>(l1Small_k0 s i l g k)→(fun v3:Int=>(fun v1:Bool=>(fun v2:V=>True∧Br (ltB (i:Int) (((l.map u8V).length:Nat):Int)) ((In (i:Int) ((l.map u8V).length)∧(V.at g 0 v2 [0+i]=some (g,(0+(0+i) * 1),uN ((l.getD i 0).toNat)))∧Gd (v1==true) (True∧True)∧Gd (v1==true) (True∧True)∧Gd (v1==true) ((Gd (v1==true) ((v1==true)=true)∧(Gd (v1==true) ((v1==true)=true)∧True))∧In (i:Int) ((l.map u8V).length))∧Gd (v1==true) ((Gd (v1==true) ((v1==true)=true)∧True)∧(V.at g 0 v2 [0+i]=some (g,(0+(0+i) * 1),uN ((l.getD i 0).toNat))))∧Gd (v1==true) ((Gd (v1==true) ((v1==true)=true)∧True)∧True)∧Pk v1 (v1==true) true∧True)∧Br (v1&&(leB v3 90)) ((In (i:Int) ((l.map u8V).length)∧(V.at g 0 v2 [0+i]=some (g,(0+(0+i) * 1),uN ((l.getD i 0).toNat)))∧U8r (v3+32)∧In (i:Int) ((l.map u8V).length)∧True)∧((uN (((l.getD i 0).toNat)+32):V)=uN ((smallB (l.getD i 0)).toNat))∧(V.at g 0 v2 [0+i]=some (g,(0+(0+i) * 1),uN ((l.getD i 0).toNat)))∧(V.set v2 [0+i] (uN ((smallB (l.getD i 0)).toNat))=.own 1 ((l.set i (smallB (l.getD i 0))).map u8V) g 0 k)∧(I64 ((i:Int)+1)∧True)∧∃ x:Nat×(List UInt8)×Nat×Nat,match x with | (i₂,l₂,g₂,k₂)=>(l1Small_k0 s i₂ l₂ g₂ k₂)∧(s.length - i₂ < s.length - i)∧(Q (.own 1 ((l.set i (smallB (l.getD i 0))).map u8V) g 0 k) (.own 1 (l₂.map u8V) g₂ 0 k₂)∧Q (iN (i+1)) (iN i₂)∧True)∧True) ((I64 ((i:Int)+1)∧True)∧∃ x:Nat×(List UInt8)×Nat×Nat,match x with | (i₂,l₂,g₂,k₂)=>(l1Small_k0 s i₂ l₂ g₂ k₂)∧(s.length - i₂ < s.length - i)∧(Q v2 (.own 1 (l₂.map u8V) g₂ 0 k₂)∧Q (iN (i+1)) (iN i₂)∧True)∧True)) (True∧((1=1∧g=g∧0=0)∧0+((l.map u8V).length)≤(l.map u8V).length∧V.ownsL (l.map u8V)=false∧AllN 1 (l.map u8V))∧(((l.map u8V).drop 0).take ((l.map u8V).length)=l.map u8V)∧True∧True∧Q (sV l) (sV (lowerL s))∧(True))) (.own 1 (l.map u8V) g 0 k)) (geB v3 65)) (((l.getD i 0).toNat:Nat):Int))
  (by kernel_rfl) ?_
 refine ⟨trivial,trivial,rfl,?_⟩
 intro g6 c6
 refine ⟨trivial,trivial,?_⟩
 refine ⟨⟨(0,s,g6,c6),?_,⟨rfl,rfl,trivial⟩,trivial⟩,?_⟩
 · unfold l1Small_k0
   simp [lowerL]
 rintro ⟨i,l,g,k⟩ ⟨h1,h2,h3⟩
 have hbi:=(l.getD i 0).toNat_lt
 refine ⟨trivial,?_⟩
 refine ⟨fun hb1=>?_,fun hb1=>?_⟩
 · try simp only [nb,List.length_map] at hb1
   refine ⟨⟨by (try simp only [List.length_map] at *); omega,at_el (by rw [Nat.zero_add]; exact getE_map (d:=0) (by omega)),fun hG=>⟨trivial,trivial⟩,fun hG=>⟨trivial,trivial⟩,fun hG=>⟨⟨fun h=>h,⟨fun h=>h,trivial⟩⟩,by (try simp only [nb] at hG); (try simp only [List.length_map] at *); omega⟩,fun hG=>⟨⟨fun h=>h,trivial⟩,at_el (by rw [Nat.zero_add]; exact getE_map (d:=0) (by omega))⟩,fun hG=>⟨⟨fun h=>h,trivial⟩,trivial⟩,⟨fun h=>by rw [h]; rfl,fun _=>rfl⟩,trivial⟩,?_⟩
   refine ⟨fun hb2=>?_,fun hb2=>?_⟩
   · try simp only [nb] at hb2
     refine ⟨⟨by (try simp only [List.length_map] at *); omega,at_el (by rw [Nat.zero_add]; exact getE_map (d:=0) (by omega)),by have:=UInt8.toNat_lt (l.getD i 0); omega,by (try simp only [List.length_map] at *); omega,trivial⟩,(congrArg uN (small_nat (by omega)).symm),at_el (by rw [Nat.zero_add]; exact getE_map (d:=0) (by omega)),set_el (by rw [Nat.zero_add]; exact getE_map (d:=0) (by omega)) (by rw [Nat.zero_add]; exact (List.map_set ..).symm),⟨by omega,trivial⟩,?_⟩
     refine ⟨(i+1,l.set i (smallB (l.getD i 0)),g,k),?_,?_,⟨rfl,rfl,trivial⟩,trivial⟩
     · unfold l1Small_k0
       refine ⟨by omega,by simp [h2],?_⟩
       exact lower_set (by omega) h3
     · first | (simp; done) | omega | (simp; omega)
   · try simp only [nb] at hb2
     refine ⟨⟨by omega,trivial⟩,?_⟩
     refine ⟨(i+1,l,g,k),?_,?_,⟨rfl,rfl,trivial⟩,trivial⟩
     · unfold l1Small_k0
       refine ⟨by omega,h2,?_⟩
       exact lower_keep (by omega) h3 (by omega)
     · first | (simp; done) | omega | (simp; omega)
 · try simp only [nb,List.length_map] at hb1
   refine ⟨trivial,⟨⟨rfl,rfl,rfl⟩,by simp,owns_u8 _,all_u8 _⟩,by simp [List.take_of_length_le],trivial,?_⟩
   refine ⟨trivial,?_,trivial⟩
   unfold Q
   rw [h3,List.drop_eq_nil_of_le (by omega),List.take_of_length_le (by omega),List.append_nil]
def l1Small_c (s:List UInt8):Con Tryz.prog:={ f:=104,args:=[sV s],H:=[],pre:=(s.length≤1099511627776),res:=sV (lowerL s),H':=[],ok:=fun h=>l1Small_ok s h }
end Go.Proofs.YthliifpcaahnnaaGreatDoor
namespace Go.Proofs.YthliifpcaahnnaaGreatDoor
open Go Go.Abs Go.RowKit Go.Pd
set_option maxRecDepth 20000
abbrev l1Way_r (a:Adr) (way:List UInt8):V:=.tup [.agg [sV ((oA (wayL a.house a.parts way)).house),.sl false (((oA (wayL a.house a.parts way)).parts).map sV),bV ((oA (wayL a.house a.parts way)).asks),sV ((oA (wayL a.house a.parts way)).ask)],bV ((wayL a.house a.parts way).isSome)]
abbrev l1Way_k0 (a:Adr) (way:List UInt8) (i:Nat) (o:List (List UInt8)) (g:Nat) (f:Nat) (k:Nat):Prop:=i≤(splitL 47 (cutL 63 way).1).length∧o=a.parts++((splitL 47 (cutL 63 way).1).take i).map escF∧((splitL 47 (cutL 63 way).1).take i).all escOk=true
theorem l1Way_ok (a:Adr) (way:List UInt8) (ha:AdrSz a) (hw:way.length≤1000) (hp:a.parts.length≤1000):PF Tryz.prog 103 [.agg [sV a.house,.sl false (a.parts.map sV),bV a.asks,sV a.ask],sV way] [] (fun r h=>r=(l1Way_r a way)∧h=[]):=by
 have hcut:=cut_le 63 way
 have hsp:=split_len 47 (cutL 63 way).1
 refine PF_go1 (N:=70) (rs:=[.cell 4 29,.tmp 5]) Tryz.func103 (by kernel_rfl) rfl rfl rfl (by kernel_rfl)
  (.bx (fun g2=>.al zt29 (fun g4=>.r 1 [] <| .r 1 [] <| .c (l1Cut_c way (63:UInt8)) [] <| .r 7 [] <| .bs <| .r 2 [.dead] <| .ap (fun g25 o25 c25=>.h (.eqt 25 (.own 1 (a.parts.map sV) g25 o25 c25)) <| .r 1 [] <| .r 1 [] <| .c (l1Split_c ((cutL (63:UInt8) way).1) (47:UInt8)) [] <| .r 1 [] <| .r 1 [] <| .loop (Nat×(List (List UInt8))×Nat×Nat×Nat) (fun (i,o,g,f,k)=>⟨[(2,.ptr (.key 2) [] g2 0),(4,.ptr (.key 4) [] g4 0),(6,sV ((cutL 63 way).2.1)),(7,bV ((cutL 63 way).2.2)),(8,.own 1 (o.map sV) g f k),(9,.sl false ((splitL 47 (cutL 63 way).1).map sV)),(10,iN i)],[(2,(g2,.agg [sV a.house,.sl false (a.parts.map sV),bV a.asks,sV a.ask])),(4,(g4,.agg [sV [],.sl true [],bV false,sV []]))]⟩) (fun (i,o,g,f,k)=>l1Way_k0 a way i o g f k) (fun (i,o,g,f,k)=>(splitL 47 (cutL 63 way).1).length - i) (fun (i,o,g,f,k)=>.r 4 [] <| .br (.r 4 [sV ((splitL 47 (cutL 63 way).1).getD i [])] <| .c (escNorm_c ((splitL 47 (cutL 63 way).1).getD i [])) [] <| .r 5 [] <| .r 2 [] <| .br (.bd zt29 <| .st none <| .r 1 [] <| .nil) (.r 2 [] <| .bs <| .ap (fun g48 o48 c48=>.h (.eqt 48 (.own 1 ((o++[(escN ((splitL 47 (cutL 63 way).1).getD i [])).1]).map sV) g48 o48 c48)) <| .r 1 [] <| .r 3 [] <| .nil))) (.r 1 [] <| .c (escNorm_c ((cutL 63 way).2.1)) [] <| .r 5 [] <| .h (.fz 8) <| .h (.eqt 8 (.sl false (o.map sV))) <| .du 8 7 [15] [] [15] <| .r 3 [.dead] <| .c (pathClean_c o) [] <| .r 2 [] <| .bd zt29 <| .ue (some zt29) <| .ub (fun g15 o15 c15=>.st none <| .r 4 [.dead] <| .cg (addrOk_c (⟨a.house,cleanL o,(cutL 63 way).2.2,(escN ((cutL 63 way).2.1)).1⟩:Adr)) <| .r 2 [] <| .br (.bd zt29 <| .st none <| .r 1 [] <| .nil) (.r 1 [.dead] <| .st none <| .r 1 [] <| .nil))))))))
  ((fun v1:Bool=>(fun v2:V=>(fun v3:V=>(∀ g2:Nat,∀ g4:Nat,True∧True∧(l1Cut_c way (63:UInt8)).sm∧(True)∧((way.length≤4611686018427387904))∧True∧(Z g2 1∧True)∧(True)∧(True)∧(V.ownsL (a.parts.map sV)=false)∧(AllN 1 (a.parts.map sV))∧((([]:List V).length+(a.parts.map sV).length) * 16≤140737488355328)∧∀ g25 o25 c25:Nat,((.own 1 (([]:List V)++(a.parts.map sV)) g25 o25 c25:V)=.own 1 (a.parts.map sV) g25 o25 c25)∧True∧True∧(l1Split_c ((cutL (63:UInt8) way).1) (47:UInt8)).sm∧(True)∧((((cutL (63:UInt8) way).1).length≤1099511627776))∧True∧True∧(∃ x:Nat×(List (List UInt8))×Nat×Nat×Nat,match x with | (i₀,o₀,g₀,f₀,k₀)=>(l1Way_k0 a way i₀ o₀ g₀ f₀ k₀)∧(E (.ptr (.key 2) [] g2 0)∧E (.ptr (.key 4) [] g4 0)∧Q (sV ((cutL (63:UInt8) way).2.1)) (sV ((cutL 63 way).2.1))∧Q (bV ((cutL (63:UInt8) way).2.2)) (bV ((cutL 63 way).2.2))∧Q (.own 1 (a.parts.map sV) g25 o25 c25) (.own 1 (o₀.map sV) g₀ f₀ k₀)∧Q (.sl false ((splitL (47:UInt8) ((cutL (63:UInt8) way).1)).map sV)) (.sl false ((splitL 47 (cutL 63 way).1).map sV))∧Q (iN 0) (iN i₀)∧True)∧(Er g2 v2∧Er g4 (.agg [sV [],.sl true [],bV false,sV []])∧True))∧∀ x:Nat×(List (List UInt8))×Nat×Nat×Nat,match x with | (i,o,g,f,k)=>(l1Way_k0 a way i o g f k)→(fun v4:List V=>True∧Br (ltB (i:Int) ((((splitL 47 (cutL 63 way).1).map sV).length:Nat):Int)) ((Ex (i:Int) ((splitL 47 (cutL 63 way).1).map sV) (sV ((splitL 47 (cutL 63 way).1).getD i []))∧True∧True)∧(escNorm_c ((splitL 47 (cutL 63 way).1).getD i [])).sm∧(True)∧((((splitL 47 (cutL 63 way).1).getD i []).length≤4611686018427387904))∧True∧True∧Br (!((escN ((splitL 47 (cutL 63 way).1).getD i [])).2)) (Z g4 0∧True∧(g4=g4∧True)∧Q v3 (l1Way_r a way)∧(True)) (True∧((1,1,g,f,k,(o.map sV).length)=(1,1,g,f,k,(o.map sV).length))∧(True)∧(V.ownsL v4=false)∧(AllN 1 v4)∧(((o.map sV).length+v4.length) * 16≤140737488355328)∧∀ g48 o48 c48:Nat,((.own 1 ((o.map sV)++v4) g48 o48 c48:V)=.own 1 ((o++[(escN ((splitL 47 (cutL 63 way).1).getD i [])).1]).map sV) g48 o48 c48)∧True∧(I64 ((i:Int)+1)∧True)∧∃ x:Nat×(List (List UInt8))×Nat×Nat×Nat,match x with | (i₂,o₂,g₂,f₂,k₂)=>(l1Way_k0 a way i₂ o₂ g₂ f₂ k₂)∧((splitL 47 (cutL 63 way).1).length - i₂ < (splitL 47 (cutL 63 way).1).length - i)∧(E (.ptr (.key 2) [] g2 0)∧E (.ptr (.key 4) [] g4 0)∧E (sV ((cutL 63 way).2.1))∧E (bV ((cutL 63 way).2.2))∧Q (.own 1 ((o++[(escN ((splitL 47 (cutL 63 way).1).getD i [])).1]).map sV) g48 o48 c48) (.own 1 (o₂.map sV) g₂ f₂ k₂)∧E (.sl false ((splitL 47 (cutL 63 way).1).map sV))∧Q (iN (i+1)) (iN i₂)∧True)∧(Er g2 v2∧Er g4 (.agg [sV [],.sl true [],bV false,sV []])∧True))) (True∧(escNorm_c ((cutL 63 way).2.1)).sm∧(True)∧((((cutL 63 way).2.1).length≤4611686018427387904))∧True∧((.sl false (V.erL (o.map sV)):V)=.sl false (o.map sV))∧(Z g2 0∧True)∧(pathClean_c o).sm∧((o.length≤1099511627776))∧True∧True∧∀ g15 o15 c15:Nat,Z g15 0∧(Gd v1 (True∧Z g15 0)∧True)∧Gd v1 ((Gd v1 (v1=true)∧True)∧((AdrSz (⟨a.house,cleanL o,(cutL 63 way).2.2,(escN ((cutL 63 way).2.1)).1⟩:Adr)))∧(addrOk_c (⟨a.house,cleanL o,(cutL 63 way).2.2,(escN ((cutL 63 way).2.1)).1⟩:Adr)).sm)∧(Gd v1 ((Gd v1 (v1=true)∧True)∧True)∧Pk (!((escN ((cutL 63 way).2.1)).2)) true v1∧True)∧Br ((!((escN ((cutL 63 way).2.1)).2))||(!(addrOkL (⟨a.house,cleanL o,(cutL 63 way).2.2,(escN ((cutL 63 way).2.1)).1⟩:Adr)))) (Z g4 0∧True∧(g4=g4∧True)∧Q v3 (l1Way_r a way)∧(True)) ((Z g15 0∧True)∧Z g4 0∧True∧(g4=g4∧True)∧Q (.tup [.agg [sV a.house,.sl false ((cleanL o).map sV),bV ((cutL 63 way).2.2),sV ((escN ((cutL 63 way).2.1)).1)],bV true]) (l1Way_r a way)∧(True)))) ([sV ((escN ((splitL 47 (cutL 63 way).1).getD i [])).1)]:List V))) (.tup [.agg [sV [],.sl false [],bV false,sV []],bV false])) (.agg [sV a.house,.sl false (a.parts.map sV),bV a.asks,sV a.ask])) ((!((escN ((cutL 63 way).2.1)).2))==false))
  (by kernel_rfl) ?_
 intro g2
 intro g4
 refine ⟨trivial,trivial,rfl,trivial,by first | assumption | omega | (simp; omega),trivial,⟨rfl,trivial⟩,trivial,trivial,(ownsL_map (f:=sV) (fun _=>rfl) _),(allN_map (f:=sV) (fun _=>rfl) _),by simp; omega,?_⟩
 intro g25 o25 c25
 refine ⟨congrArg (V.own 1 · g25 o25 c25) (List.nil_append _),trivial,trivial,rfl,trivial,by first | assumption | omega | (simp; omega),trivial,trivial,?_⟩
 refine ⟨⟨(0,a.parts,g25,o25,c25),?_,⟨rfl,rfl,by first | rfl | simp | (simp; omega),by first | rfl | simp | (simp; omega),rfl,by first | rfl | simp | (simp; omega),rfl,trivial⟩,⟨rfl,rfl,trivial⟩⟩,?_⟩
 · unfold l1Way_k0
   simp
 rintro ⟨i,o,g,f,k⟩ ⟨h1,h2,h3⟩
 have hpl:=split_get 47 (cutL 63 way).1 i
 have hol:o.length≤1000+i:=by rw [h2]; simp; omega
 refine ⟨trivial,?_⟩
 refine ⟨fun hb1=>?_,fun hb1=>?_⟩
 · try simp only [nb,List.length_map] at hb1
   refine ⟨⟨⟨by omega,getE_map (d:=[]) (by omega)⟩,trivial,trivial⟩,rfl,trivial,by first | assumption | omega | (simp; omega),trivial,trivial,?_⟩
   refine ⟨fun hb2=>?_,fun hb2=>?_⟩
   · try simp only [nb] at hb2
     refine ⟨rfl,trivial,?_⟩
     refine ⟨⟨rfl,trivial⟩,?_,trivial⟩
     unfold Q l1Way_r
     rw [show wayL a.house a.parts way=none from by unfold wayL; rw [all_false (i:=i) (d:=[]) (by omega) hb2]; rfl]; rfl
   · try simp only [nb] at hb2
     refine ⟨trivial,rfl,trivial,rfl,by simp [AllN,V.n,V.ns],by simp; omega,?_⟩
     intro g48 o48 c48
     refine ⟨congrArg (V.own 1 · g48 o48 c48) (by simp),trivial,⟨by omega,trivial⟩,?_⟩
     refine ⟨(i+1,o++[(escN ((splitL 47 (cutL 63 way).1).getD i [])).1],g48,o48,c48),?_,?_,⟨rfl,rfl,rfl,rfl,rfl,rfl,rfl,trivial⟩,⟨rfl,rfl,trivial⟩⟩
     · unfold l1Way_k0
       refine ⟨by omega,?_,?_⟩
       · rw [h2,take_succ_getD (by omega:i < (splitL 47 (cutL 63 way).1).length) []]; simp [escF]
       · rw [take_succ_getD (by omega:i < (splitL 47 (cutL 63 way).1).length) []]; simp only [List.all_append,h3,List.all_cons,List.all_nil,escOk,Bool.and_true,Bool.true_and]; exact hb2
     · first | (simp; done) | omega | (simp; omega)
 · try simp only [nb,List.length_map] at hb1
   refine ⟨trivial,rfl,trivial,by first | assumption | omega | (simp; omega),trivial,congrArg (V.sl false) (erL_map_id (fun _=>rfl) _),⟨rfl,trivial⟩,rfl,by first | assumption | omega | (simp; omega),trivial,trivial,?_⟩
   intro g15 o15 c15
   refine ⟨rfl,?_⟩
   have hz:AdrSz ⟨a.house,cleanL o,(cutL 63 way).2.2,(escN (cutL 63 way).2.1).1⟩:=by
     rw [h2,List.take_of_length_le (by omega)]; exact way_sz ha hp (by omega)
   refine ⟨⟨fun hG=>⟨trivial,rfl⟩,trivial⟩,fun hG=>⟨⟨fun h=>h,trivial⟩,hz,rfl⟩,⟨fun hG=>⟨⟨fun h=>h,trivial⟩,trivial⟩,⟨fun _=>rfl,fun h=>by rw [h]; rfl⟩,trivial⟩,?_⟩
   refine ⟨fun hb3=>?_,fun hb3=>?_⟩
   · try simp only [nb] at hb3
     refine ⟨rfl,trivial,?_⟩
     refine ⟨⟨rfl,trivial⟩,?_,trivial⟩
     unfold Q l1Way_r
     have hall:(splitL 47 (cutL 63 way).1).all escOk=true:=by rw [List.take_of_length_le (by omega)] at h3; exact h3
     rw [List.take_of_length_le (by omega)] at h2
     subst h2
     rw [show wayL a.house a.parts way=none from by unfold wayL; rw [hall]; grind [escOk,escF]]; rfl
   · try simp only [nb] at hb3
     refine ⟨⟨rfl,trivial⟩,rfl,trivial,?_⟩
     refine ⟨⟨rfl,trivial⟩,?_,trivial⟩
     unfold Q l1Way_r
     have hall:(splitL 47 (cutL 63 way).1).all escOk=true:=by rw [List.take_of_length_le (by omega)] at h3; exact h3
     rw [List.take_of_length_le (by omega)] at h2
     subst h2
     rw [show wayL a.house a.parts way=some _ from by unfold wayL; rw [hall,if_pos (by grind [escOk,escF]),if_pos (by grind [escOk,escF])]]; rfl
def l1Way_c (a:Adr) (way:List UInt8):Con Tryz.prog:={ f:=103,args:=[.agg [sV a.house,.sl false (a.parts.map sV),bV a.asks,sV a.ask],sV way],H:=[],pre:=(AdrSz a)∧(way.length≤1000)∧(a.parts.length≤1000),res:=l1Way_r a way,H':=[],ok:=fun h=>l1Way_ok a way h.1 h.2.1 h.2.2 }
abbrev l1Whole_r (s:List UInt8):V:=.tup [.agg [sV ((oA (wholeL s)).house),.sl false (((oA (wholeL s)).parts).map sV),bV ((oA (wholeL s)).asks),sV ((oA (wholeL s)).ask)],bV ((wholeL s).isSome)]
abbrev l1Whole_k0 (s:List UInt8) (i:Nat):Prop:=i≤s.length∧∀ j,j < i→notW (s.getD j 0)=true
theorem l1Whole_ok (s:List UInt8) (hs:s.length≤1000):PF Tryz.prog 67 [sV s] [] (fun r h=>r=(l1Whole_r s)∧h=[]):=by
 refine PF_go1 (N:=37) (rs:=[.cell 2 29,.tmp 3]) Tryz.func67 (by kernel_rfl) rfl rfl rfl (by kernel_rfl)
  (.al zt29 (fun g2=>.r 1 [] <| .r 2 [] <| .r 1 [] <| .r 1 [] <| .loop (Nat) (fun (i:Nat)=>⟨[(0,sV s),(2,.ptr (.key 2) [] g2 0),(4,sV s),(5,sV []),(6,iN i)],[(2,(g2,.agg [sV [],.sl true [],bV false,sV []]))]⟩) (fun (i:Nat)=>l1Whole_k0 s i) (fun (i:Nat)=>s.length - i) (fun (i:Nat)=>.r 4 [] <| .br (.r 10 [] <| .br (.r 4 [] <| .r 4 [] <| .r 1 [] <| .c (l1Small_c ((s.take i).drop ((0:Int).toNat))) [] <| .bd zt29 <| .r 1 [] <| .c (l1Way_c (⟨lowerL ((s.take i).drop ((0:Int).toNat)),[],false,[]⟩:Adr) ((s.take s.length).drop i)) [] <| .r 2 [] <| .st none <| .r 1 [] <| .nil) (.r 3 [] <| .nil)) (.r 1 [] <| .c (l1Small_c s) [] <| .bd zt29 <| .r 1 [] <| .c (l1Way_c (⟨lowerL s,[],false,[]⟩:Adr) ([]:List UInt8)) [] <| .r 2 [] <| .st none <| .r 1 [] <| .nil))))
  ((fun v1:List UInt8=>(∀ g2:Nat,True∧True∧True∧True∧(∃ i₀:Nat,(l1Whole_k0 s i₀)∧(E (sV s)∧E (.ptr (.key 2) [] g2 0)∧E (sV s)∧E (sV [])∧Q (iN 0) (iN i₀)∧True)∧(Er g2 (.agg [sV [],.sl true [],bV false,sV []])∧True))∧∀ i:Nat,(l1Whole_k0 s i)→(fun v3:Int=>(fun v2:Bool=>True∧Br (ltB (i:Int) (s.length:Int)) ((Ix (i:Int) s∧Gd v2 (True∧True)∧Gd v2 (True∧True)∧Gd v2 ((Gd v2 (v2=true)∧(Gd v2 (v2=true)∧True))∧Ix (i:Int) s)∧Gd v2 ((Gd v2 (v2=true)∧True)∧True)∧Pk (eqB v3 47) true v2∧True)∧Br ((eqB v3 47)||(eqB v3 63)) ((Sx (0:Int) (i:Int) s∧True)∧(Sx (i:Int) (s.length:Int) s∧True)∧True∧(l1Small_c ((s.take i).drop ((0:Int).toNat))).sm∧(True)∧((((s.take i).drop ((0:Int).toNat)).length≤1099511627776))∧True∧(l1Way_c (⟨lowerL ((s.take i).drop ((0:Int).toNat)),[],false,[]⟩:Adr) ((s.take s.length).drop i)).sm∧(True)∧((AdrSz (⟨lowerL ((s.take i).drop ((0:Int).toNat)),[],false,[]⟩:Adr))∧(((s.take s.length).drop i).length≤1000)∧((⟨lowerL ((s.take i).drop ((0:Int).toNat)),[],false,[]⟩:Adr).parts.length≤1000))∧True∧Z g2 0∧True∧(g2=g2∧True)∧Q (.tup [.agg [sV ((oA (wayL (⟨lowerL ((s.take i).drop ((0:Int).toNat)),[],false,[]⟩:Adr).house (⟨lowerL ((s.take i).drop ((0:Int).toNat)),[],false,[]⟩:Adr).parts ((s.take s.length).drop i))).house),.sl false (((oA (wayL (⟨lowerL ((s.take i).drop ((0:Int).toNat)),[],false,[]⟩:Adr).house (⟨lowerL ((s.take i).drop ((0:Int).toNat)),[],false,[]⟩:Adr).parts ((s.take s.length).drop i))).parts).map sV),bV ((oA (wayL (⟨lowerL ((s.take i).drop ((0:Int).toNat)),[],false,[]⟩:Adr).house (⟨lowerL ((s.take i).drop ((0:Int).toNat)),[],false,[]⟩:Adr).parts ((s.take s.length).drop i))).asks),sV ((oA (wayL (⟨lowerL ((s.take i).drop ((0:Int).toNat)),[],false,[]⟩:Adr).house (⟨lowerL ((s.take i).drop ((0:Int).toNat)),[],false,[]⟩:Adr).parts ((s.take s.length).drop i))).ask)],bV ((wayL (⟨lowerL ((s.take i).drop ((0:Int).toNat)),[],false,[]⟩:Adr).house (⟨lowerL ((s.take i).drop ((0:Int).toNat)),[],false,[]⟩:Adr).parts ((s.take s.length).drop i)).isSome)]) (l1Whole_r s)∧(True)) ((I64 ((i:Int)+1)∧True)∧∃ i₂:Nat,(l1Whole_k0 s i₂)∧(s.length - i₂ < s.length - i)∧(E (sV s)∧E (.ptr (.key 2) [] g2 0)∧E (sV s)∧E (sV [])∧Q (iN (i+1)) (iN i₂)∧True)∧(Er g2 (.agg [sV [],.sl true [],bV false,sV []])∧True))) (True∧(l1Small_c s).sm∧(True)∧((s.length≤1099511627776))∧True∧(l1Way_c (⟨lowerL s,[],false,[]⟩:Adr) v1).sm∧(True)∧((AdrSz (⟨lowerL s,[],false,[]⟩:Adr))∧(v1.length≤1000)∧((⟨lowerL s,[],false,[]⟩:Adr).parts.length≤1000))∧True∧Z g2 0∧True∧(g2=g2∧True)∧Q (.tup [.agg [sV ((oA (wayL (⟨lowerL s,[],false,[]⟩:Adr).house (⟨lowerL s,[],false,[]⟩:Adr).parts v1)).house),.sl false (((oA (wayL (⟨lowerL s,[],false,[]⟩:Adr).house (⟨lowerL s,[],false,[]⟩:Adr).parts v1)).parts).map sV),bV ((oA (wayL (⟨lowerL s,[],false,[]⟩:Adr).house (⟨lowerL s,[],false,[]⟩:Adr).parts v1)).asks),sV ((oA (wayL (⟨lowerL s,[],false,[]⟩:Adr).house (⟨lowerL s,[],false,[]⟩:Adr).parts v1)).ask)],bV ((wayL (⟨lowerL s,[],false,[]⟩:Adr).house (⟨lowerL s,[],false,[]⟩:Adr).parts v1).isSome)]) (l1Whole_r s)∧(True))) ((eqB v3 47)==false)) (((s.getD i 0).toNat:Nat):Int))) ([]:List UInt8))
  (by kernel_rfl) ?_
 intro g2
 refine ⟨trivial,trivial,trivial,trivial,?_⟩
 refine ⟨⟨0,?_,⟨rfl,rfl,rfl,rfl,rfl,trivial⟩,⟨rfl,trivial⟩⟩,?_⟩
 · unfold l1Whole_k0
   simp
 rintro i ⟨h1,h2⟩
 refine ⟨trivial,?_⟩
 refine ⟨fun hb1=>?_,fun hb1=>?_⟩
 · try simp only [nb] at hb1
   refine ⟨⟨by omega,fun hG=>⟨trivial,trivial⟩,fun hG=>⟨trivial,trivial⟩,fun hG=>⟨⟨fun h=>h,⟨fun h=>h,trivial⟩⟩,by (try simp only [nb] at hG); omega⟩,fun hG=>⟨⟨fun h=>h,trivial⟩,trivial⟩,⟨fun _=>rfl,fun h=>by rw [h]; rfl⟩,trivial⟩,?_⟩
   refine ⟨fun hb2=>?_,fun hb2=>?_⟩
   · try simp only [nb] at hb2
     refine ⟨⟨by omega,trivial⟩,⟨by omega,trivial⟩,?_⟩
     have hz:AdrSz ⟨lowerL ((s.take i).drop ((0:Int).toNat)),[],false,[]⟩:=⟨by simp only [lowerL,List.length_map]; first | omega | (simp; omega),by simp,by simp,by simp⟩
     have hw:((s.take s.length).drop i).length≤1000:=by first | (simp; done) | (simp; omega)
     refine ⟨trivial,rfl,trivial,by first | assumption | omega | (simp; omega),trivial,rfl,trivial,⟨hz,hw,by simp⟩,trivial,rfl,trivial,?_⟩
     refine ⟨⟨rfl,trivial⟩,?_,trivial⟩
     unfold Q l1Whole_r
     obtain ⟨k1,k2⟩:=while_eq (p:=notW) h1 h2 (.inr (by simp only [notW,decide_eq_false_iff_not]; omega))
     unfold wholeL
     rw [k1,k2]; simp
   · try simp only [nb] at hb2
     refine ⟨⟨by omega,trivial⟩,?_⟩
     refine ⟨i+1,?_,?_,⟨rfl,rfl,rfl,rfl,rfl,trivial⟩,⟨rfl,trivial⟩⟩
     · unfold l1Whole_k0
       refine ⟨by omega,lt_succ_of h2 ?_⟩
       simp only [notW,decide_eq_true_eq]; omega
     · first | (simp; done) | omega | (simp; omega)
 · try simp only [nb] at hb1
   have hz:AdrSz ⟨lowerL s,[],false,[]⟩:=⟨by simp only [lowerL,List.length_map]; first | omega | (simp; omega),by simp,by simp,by simp⟩
   have hw:([]:List UInt8).length≤1000:=by first | (simp; done) | (simp; omega)
   refine ⟨trivial,rfl,trivial,by first | assumption | omega | (simp; omega),trivial,rfl,trivial,⟨hz,hw,by simp⟩,trivial,rfl,trivial,?_⟩
   refine ⟨⟨rfl,trivial⟩,?_,trivial⟩
   unfold Q l1Whole_r
   obtain ⟨k1,k2⟩:=while_eq (p:=notW) h1 h2 (.inl (by omega))
   unfold wholeL
   rw [k1,k2,List.take_of_length_le (by omega),List.drop_eq_nil_of_le (by omega)]
def l1Whole_c (s:List UInt8):Con Tryz.prog:={ f:=67,args:=[sV s],H:=[],pre:=(s.length≤1000),res:=l1Whole_r s,H':=[],ok:=fun h=>l1Whole_ok s h }
abbrev addrRead_r (raw:List UInt8):V:=.tup [.agg [sV ((oA (readL raw)).house),.sl false (((oA (readL raw)).parts).map sV),bV ((oA (readL raw)).asks),sV ((oA (readL raw)).ask)],bV ((readL raw).isSome)]
theorem addrRead_ok (raw:List UInt8) (hs:raw.length≤4611686018427387904):PF Tryz.prog 33 [sV raw] [] (fun r h=>r=(addrRead_r raw)∧h=[]):=by
 have hcut:=cut_le 35 raw
 refine PF_go1 (N:=32) (rs:=[.cell 2 29,.tmp 3]) Tryz.func33 (by kernel_rfl) rfl rfl rfl (by kernel_rfl)
  (.al zt29 (fun g2=>.r 1 [] <| .r 1 [] <| .c (l1Cut_c raw (35:UInt8)) [] <| .r 7 [] <| .r 13 [] <| .br (.bd zt29 <| .st none <| .r 1 [] <| .nil) (.r 2 [] <| .c (l1Whole_c ((((cutL (35:UInt8) raw).1).take ((cutL (35:UInt8) raw).1).length).drop 2)) [] <| .r 2 [] <| .st none <| .r 1 [] <| .nil)))
  ((fun v3:Bool=>(fun v4:Bool=>(fun v1:Bool=>(fun v2:Bool=>(∀ g2:Nat,True∧True∧(l1Cut_c raw (35:UInt8)).sm∧(True)∧((raw.length≤4611686018427387904))∧True∧(Gd v2 (True∧True)∧Gd v2 ((Gd v2 (v2=true)∧True)∧True)∧Gd v2 ((Gd v2 (v2=true)∧True)∧True)∧Pk v4 true v2∧Gd v1 (True∧True)∧Gd v1 ((Gd v1 (v1=true)∧True)∧Sx (0:Int) (2:Int) ((cutL (35:UInt8) raw).1))∧Gd v1 ((Gd v1 (v1=true)∧True)∧True)∧Pk (v4||v3) true v1∧True)∧Br ((v4||v3)||(!(((((cutL (35:UInt8) raw).1).take 2).drop ((0:Int).toNat))==([47,47]:List UInt8)))) (Z g2 0∧True∧(g2=g2∧True)∧Q (.tup [.agg [sV [],.sl false [],bV false,sV []],bV false]) (addrRead_r raw)∧(True)) ((Sx (2:Int) (((cutL (35:UInt8) raw).1).length:Int) ((cutL (35:UInt8) raw).1)∧True)∧(l1Whole_c ((((cutL (35:UInt8) raw).1).take ((cutL (35:UInt8) raw).1).length).drop 2)).sm∧(True)∧((((((cutL (35:UInt8) raw).1).take ((cutL (35:UInt8) raw).1).length).drop 2).length≤1000))∧True∧Z g2 0∧True∧(g2=g2∧True)∧Q (.tup [.agg [sV ((oA (wholeL ((((cutL (35:UInt8) raw).1).take ((cutL (35:UInt8) raw).1).length).drop 2))).house),.sl false (((oA (wholeL ((((cutL (35:UInt8) raw).1).take ((cutL (35:UInt8) raw).1).length).drop 2))).parts).map sV),bV ((oA (wholeL ((((cutL (35:UInt8) raw).1).take ((cutL (35:UInt8) raw).1).length).drop 2))).asks),sV ((oA (wholeL ((((cutL (35:UInt8) raw).1).take ((cutL (35:UInt8) raw).1).length).drop 2))).ask)],bV ((wholeL ((((cutL (35:UInt8) raw).1).take ((cutL (35:UInt8) raw).1).length).drop 2)).isSome)]) (addrRead_r raw)∧(True)))) (v4==false)) ((v4||v3)==false)) (gtB (raw.length:Int) 60)) (ltB ((((cutL (35:UInt8) raw).1).length:Nat):Int) 2))
  (by kernel_rfl) ?_
 intro g2
 refine ⟨trivial,trivial,rfl,trivial,by first | assumption | omega | (simp; omega),trivial,⟨fun hG=>⟨trivial,trivial⟩,fun hG=>⟨⟨fun h=>h,trivial⟩,trivial⟩,fun hG=>⟨⟨fun h=>h,trivial⟩,trivial⟩,⟨fun _=>rfl,fun h=>by rw [h]; rfl⟩,fun hG=>⟨trivial,trivial⟩,fun hG=>⟨⟨fun h=>h,trivial⟩,by (try simp only [nb] at hG); omega⟩,fun hG=>⟨⟨fun h=>h,trivial⟩,trivial⟩,⟨fun _=>rfl,fun h=>by rw [h]; rfl⟩,trivial⟩,?_⟩
 refine ⟨fun hb1=>?_,fun hb1=>?_⟩
 · try simp only [nb] at hb1
   refine ⟨rfl,trivial,?_⟩
   refine ⟨⟨rfl,trivial⟩,?_,trivial⟩
   unfold Q addrRead_r
   rw [show readL raw=none from if_neg (by grind)]; rfl
 · try simp only [nb] at hb1
   refine ⟨⟨by omega,trivial⟩,rfl,trivial,by first | assumption | omega | (simp; omega),trivial,rfl,trivial,?_⟩
   refine ⟨⟨rfl,trivial⟩,?_,trivial⟩
   unfold Q addrRead_r
   rw [show readL raw=wholeL ((cutL 35 raw).1.drop 2) from if_pos (by grind)]; simp
def addrRead_c (raw:List UInt8):Con Tryz.prog:={ f:=33,args:=[sV raw],H:=[],pre:=(raw.length≤4611686018427387904),res:=addrRead_r raw,H':=[],ok:=fun h=>addrRead_ok raw h }
end Go.Proofs.YthliifpcaahnnaaGreatDoor
namespace Go.Proofs.YthliifpcaahnnaaGreatDoor
open Go Go.Abs Go.RowKit Go.Pd
set_option maxRecDepth 20000
theorem take_drop_comm {s p:List UInt8} {i:Nat}:(s.take (i+p.length)).drop i=(s.drop i).take p.length:=by rw [List.drop_take]; congr 1; omega
theorem l11Norm_ok (s:List UInt8) (hs:s.length≤4611686018427387904):PF Tryz.prog 37 [sV s] [] (fun r h=>r=(bV (isAdrL s))∧h=[]):=by
 refine PF_go1 (N:=17) (rs:=[.tmp 2]) Tryz.func37 (by kernel_rfl) rfl rfl rfl (by kernel_rfl)
  (.r 1 [] <| .r 1 [] <| .c (addrRead_c s) [] <| .r 3 [] <| .al zt29 (fun g3=>.st none <| .r 1 [] <| .r 3 [.dead] <| .cg (addrText_c (oA (readL s))) <| .r 4 [] <| .nil))
  (True∧True∧(addrRead_c s).sm∧(True)∧((s.length≤4611686018427387904))∧True∧∀ g3:Nat,Z g3 0∧True∧(Gd (((readL s).isSome)==true) (True∧Z g3 0)∧True)∧Gd (((readL s).isSome)==true) ((Gd (((readL s).isSome)==true) ((((readL s).isSome)==true)=true)∧True)∧((AdrSz (oA (readL s))))∧(addrText_c (oA (readL s))).sm)∧(Gd (((readL s).isSome)==true) (True∧True)∧Gd (((readL s).isSome)==true) ((Gd (((readL s).isSome)==true) ((((readL s).isSome)==true)=true)∧(Gd (((readL s).isSome)==true) ((((readL s).isSome)==true)=true)∧True))∧True)∧Pk ((readL s).isSome) (((readL s).isSome)==true) true∧True)∧True∧Q (bV (((readL s).isSome)&&((adrTextL (oA (readL s)))==s))) (bV (isAdrL s))∧(True))
  (by kernel_rfl) ?_
 refine ⟨trivial,trivial,rfl,trivial,by first | assumption | omega | (simp; omega),trivial,?_⟩
 intro g3
 refine ⟨rfl,trivial,⟨fun hG=>⟨trivial,rfl⟩,trivial⟩,fun hG=>⟨⟨fun h=>h,trivial⟩,by (try simp only [nb] at hG); first | assumption | exact oA_sz _ | simp_all,rfl⟩,⟨fun hG=>⟨trivial,trivial⟩,fun hG=>⟨⟨fun h=>h,⟨fun h=>h,trivial⟩⟩,trivial⟩,⟨fun h=>by rw [h]; rfl,fun _=>rfl⟩,trivial⟩,?_⟩
 refine ⟨trivial,?_,trivial⟩
 unfold Q
 rfl
def l11Norm_c (s:List UInt8):Con Tryz.prog:={ f:=37,args:=[sV s],H:=[],pre:=(s.length≤4611686018427387904),res:=bV (isAdrL s),H':=[],ok:=fun h=>l11Norm_ok s h }
abbrev l2Find_k0 (s:List UInt8) (p:List UInt8) (f:Nat) (i:Nat):Prop:=findL s p f=findL s p i∧i≤2000001
theorem l2Find_ok (s p:List UInt8) (f:Nat) (hs:s.length≤1000000) (hp:p.length≤1000000) (hf:f≤1000000):PF Tryz.prog 173 [sV s,sV p,iN f] [] (fun r h=>r=(iV (findL s p f))∧h=[]):=by
 refine PF_go1 (N:=28) (rs:=[.tmp 6]) Tryz.func173 (by kernel_rfl) rfl rfl rfl (by kernel_rfl)
  (.r 1 [] <| .r 2 [] <| .loop (Nat) (fun (i:Nat)=>⟨[(0,sV s),(1,sV p),(7,iN i)],[]⟩) (fun (i:Nat)=>l2Find_k0 s p f i) (fun (i:Nat)=>s.length+1 - i) (fun (i:Nat)=>.r 7 [] <| .br (.r 9 [] <| .br (.r 2 [] <| .nil) (.r 3 [] <| .nil)) (.r 1 [] <| .nil)))
  (True∧True∧(∃ i₀:Nat,(l2Find_k0 s p f i₀)∧(E (sV s)∧E (sV p)∧Q (iN f) (iN i₀)∧True)∧True)∧∀ i:Nat,(l2Find_k0 s p f i)→(I64 ((i:Int)+(p.length:Int))∧True)∧Br (leB ((i+p.length:Nat):Int) (s.length:Int)) ((I64 ((i:Int)+(p.length:Int))∧Sx (i:Int) ((i+p.length:Nat):Int) s∧True)∧Br (((s.take (i+p.length)).drop i)==p) (True∧True∧Q (iN i) (iV (findL s p f))∧(True)) ((I64 ((i:Int)+1)∧True)∧∃ i₂:Nat,(l2Find_k0 s p f i₂)∧(s.length+1 - i₂ < s.length+1 - i)∧(E (sV s)∧E (sV p)∧Q (iN (i+1)) (iN i₂)∧True)∧True)) (True∧True∧Q (iV (-1)) (iV (findL s p f))∧(True)))
  (by kernel_rfl) ?_
 refine ⟨trivial,trivial,?_⟩
 refine ⟨⟨f,?_,⟨rfl,rfl,rfl,trivial⟩,trivial⟩,?_⟩
 · unfold l2Find_k0
   exact ⟨rfl,by omega⟩
 rintro i ⟨h1,h2⟩
 refine ⟨⟨by omega,trivial⟩,?_⟩
 refine ⟨fun hb1=>?_,fun hb1=>?_⟩
 · try simp only [nb] at hb1
   refine ⟨⟨by omega,by omega,trivial⟩,?_⟩
   refine ⟨fun hb2=>?_,fun hb2=>?_⟩
   · try simp only [nb] at hb2
     refine ⟨trivial,?_⟩
     refine ⟨trivial,?_,trivial⟩
     unfold Q
     rw [h1,findL,dif_pos (by omega),if_pos (by rw [← take_drop_comm]; exact hb2)]
   · try simp only [nb] at hb2
     refine ⟨⟨by omega,trivial⟩,?_⟩
     refine ⟨i+1,?_,?_,⟨rfl,rfl,rfl,trivial⟩,trivial⟩
     · unfold l2Find_k0
       refine ⟨?_,by omega⟩
       rw [h1,findL,dif_pos (by omega),if_neg (by rw [← take_drop_comm]; exact hb2)]
     · first | (simp; done) | omega | (simp; omega)
 · try simp only [nb] at hb1
   refine ⟨trivial,?_⟩
   refine ⟨trivial,?_,trivial⟩
   unfold Q
   rw [h1,findL,dif_neg (by omega)]
def l2Find_c (s:List UInt8) (p:List UInt8) (f:Nat):Con Tryz.prog:={ f:=173,args:=[sV s,sV p,iN f],H:=[],pre:=(s.length≤1000000)∧(p.length≤1000000)∧(f≤1000000),res:=iV (findL s p f),H':=[],ok:=fun h=>l2Find_ok s p f h.1 h.2.1 h.2.2 }
abbrev ruleOk_k0 (p:List UInt8) (i:Nat):Prop:=i≤p.length∧∀ j,j < i→okAt p j=true
theorem ruleOk_ok (p:List UInt8) (hs:p.length≤4611686018427387904):PF Tryz.prog 143 [sV p] [] (fun r h=>r=(bV (ruleOkL p))∧h=[]):=by
 refine PF_go1 (N:=66) (rs:=[.tmp 2]) Tryz.func143 (by kernel_rfl) rfl rfl rfl (by kernel_rfl)
  (.r 1 [] <| .r 12 [] <| .br (.r 1 [] <| .nil) (.r 1 [] <| .loop (Nat) (fun (i:Nat)=>⟨[(0,sV p),(3,iN i)],[]⟩) (fun (i:Nat)=>ruleOk_k0 p i) (fun (i:Nat)=>p.length - i) (fun (i:Nat)=>.r 4 [] <| .br (.r 4 [] <| .r 1 [] <| .c (l1Plain_c (p.getD i 0)) [] <| .r 38 [] <| .br (.r 1 [] <| .nil) (.r 3 [] <| .nil)) (.r 1 [] <| .nil))))
  ((fun v2:Bool=>(fun v1:Bool=>(True∧(Gd (v2==false) (True∧True)∧Gd (v2==false) ((Gd (v2==false) ((v2==false)=true)∧True)∧True)∧Pk v2 true (v2==false)∧Gd v1 (True∧True)∧Gd v1 ((Gd v1 (v1=true)∧True)∧Ix 0 p)∧Gd v1 ((Gd v1 (v1=true)∧True)∧True)∧Pk (v2||(p==[])) true v1∧True)∧Br ((v2||(p==[]))||(neB (((p.getD 0 0).toNat:Nat):Int) 47)) (True∧True∧Q (bV false) (bV (ruleOkL p))∧(True)) (True∧(∃ i₀:Nat,(ruleOk_k0 p i₀)∧(E (sV p)∧Q (iN 0) (iN i₀)∧True)∧True)∧∀ i:Nat,(ruleOk_k0 p i)→(fun v3:Int=>(fun v4:Bool=>(fun v5:Bool=>True∧Br (ltB (i:Int) (p.length:Int)) ((Ix (i:Int) p∧True)∧True∧(l1Plain_c (p.getD i 0)).sm∧(True)∧(True)∧(Gd (v4==true) (True∧True)∧Gd (v4==true) ((Gd (v4==true) ((v4==true)=true)∧True)∧True)∧Pk v4 (v4==true) true∧Gd ((v4&&(neB v3 47))==true) (True∧True)∧Gd ((v4&&(neB v3 47))==true) ((Gd ((v4&&(neB v3 47))==true) (((v4&&(neB v3 47))==true)=true)∧True)∧True)∧Pk (v4&&(neB v3 47)) ((v4&&(neB v3 47))==true) true∧Gd (((v4&&(neB v3 47))&&(neB v3 42))==true) (True∧True)∧Gd (((v4&&(neB v3 47))&&(neB v3 42))==true) ((Gd (((v4&&(neB v3 47))&&(neB v3 42))==true) ((((v4&&(neB v3 47))&&(neB v3 42))==true)=true)∧True)∧True)∧Pk ((v4&&(neB v3 47))&&(neB v3 42)) (((v4&&(neB v3 47))&&(neB v3 42))==true) true∧Gd ((((v4&&(neB v3 47))&&(neB v3 42))&&(neB v3 63))==true) (True∧True)∧Gd ((((v4&&(neB v3 47))&&(neB v3 42))&&(neB v3 63))==true) ((Gd ((((v4&&(neB v3 47))&&(neB v3 42))&&(neB v3 63))==true) (((((v4&&(neB v3 47))&&(neB v3 42))&&(neB v3 63))==true)=true)∧True)∧True)∧Pk (((v4&&(neB v3 47))&&(neB v3 42))&&(neB v3 63)) ((((v4&&(neB v3 47))&&(neB v3 42))&&(neB v3 63))==true) true∧Gd (((((v4&&(neB v3 47))&&(neB v3 42))&&(neB v3 63))&&(neB v3 37))==true) (True∧True)∧Gd (((((v4&&(neB v3 47))&&(neB v3 42))&&(neB v3 63))&&(neB v3 37))==true) ((Gd (((((v4&&(neB v3 47))&&(neB v3 42))&&(neB v3 63))&&(neB v3 37))==true) ((((((v4&&(neB v3 47))&&(neB v3 42))&&(neB v3 63))&&(neB v3 37))==true)=true)∧True)∧True)∧Gd (((((v4&&(neB v3 47))&&(neB v3 42))&&(neB v3 63))&&(neB v3 37))==true) ((Gd (((((v4&&(neB v3 47))&&(neB v3 42))&&(neB v3 63))&&(neB v3 37))==true) ((((((v4&&(neB v3 47))&&(neB v3 42))&&(neB v3 63))&&(neB v3 37))==true)=true)∧True)∧True)∧Gd ((((((v4&&(neB v3 47))&&(neB v3 42))&&(neB v3 63))&&(neB v3 37))==true)&&((geB v3 65)==true)) (True∧True)∧Gd ((((((v4&&(neB v3 47))&&(neB v3 42))&&(neB v3 63))&&(neB v3 37))==true)&&((geB v3 65)==true)) ((Gd ((((((v4&&(neB v3 47))&&(neB v3 42))&&(neB v3 63))&&(neB v3 37))==true)&&((geB v3 65)==true)) (((((((v4&&(neB v3 47))&&(neB v3 42))&&(neB v3 63))&&(neB v3 37))==true)&&((geB v3 65)==true))=true)∧True)∧True)∧Gd (((((v4&&(neB v3 47))&&(neB v3 42))&&(neB v3 63))&&(neB v3 37))==true) ((Gd (((((v4&&(neB v3 47))&&(neB v3 42))&&(neB v3 63))&&(neB v3 37))==true) ((((((v4&&(neB v3 47))&&(neB v3 42))&&(neB v3 63))&&(neB v3 37))==true)=true)∧True)∧Pk (geB v3 65) ((((((v4&&(neB v3 47))&&(neB v3 42))&&(neB v3 63))&&(neB v3 37))==true)&&((geB v3 65)==true)) true)∧Gd (((((v4&&(neB v3 47))&&(neB v3 42))&&(neB v3 63))&&(neB v3 37))==true) ((Gd (((((v4&&(neB v3 47))&&(neB v3 42))&&(neB v3 63))&&(neB v3 37))==true) ((((((v4&&(neB v3 47))&&(neB v3 42))&&(neB v3 63))&&(neB v3 37))==true)=true)∧True)∧True)∧Pk ((((v4&&(neB v3 47))&&(neB v3 42))&&(neB v3 63))&&(neB v3 37)) (((((v4&&(neB v3 47))&&(neB v3 42))&&(neB v3 63))&&(neB v3 37))==true) true∧Gd ((((((v4&&(neB v3 47))&&(neB v3 42))&&(neB v3 63))&&(neB v3 37))&&v5)==true) (True∧True)∧Gd ((((((v4&&(neB v3 47))&&(neB v3 42))&&(neB v3 63))&&(neB v3 37))&&v5)==true) ((Gd ((((((v4&&(neB v3 47))&&(neB v3 42))&&(neB v3 63))&&(neB v3 37))&&v5)==true) (((((((v4&&(neB v3 47))&&(neB v3 42))&&(neB v3 63))&&(neB v3 37))&&v5)==true)=true)∧True)∧True)∧Gd ((((((v4&&(neB v3 47))&&(neB v3 42))&&(neB v3 63))&&(neB v3 37))&&v5)==true) ((Gd ((((((v4&&(neB v3 47))&&(neB v3 42))&&(neB v3 63))&&(neB v3 37))&&v5)==true) (((((((v4&&(neB v3 47))&&(neB v3 42))&&(neB v3 63))&&(neB v3 37))&&v5)==true)=true)∧True)∧True)∧Gd (((((((v4&&(neB v3 47))&&(neB v3 42))&&(neB v3 63))&&(neB v3 37))&&v5)==true)&&((eqB v3 36)==true)) (True∧True)∧Gd (((((((v4&&(neB v3 47))&&(neB v3 42))&&(neB v3 63))&&(neB v3 37))&&v5)==true)&&((eqB v3 36)==true)) (True∧True)∧Gd (((((((v4&&(neB v3 47))&&(neB v3 42))&&(neB v3 63))&&(neB v3 37))&&v5)==true)&&((eqB v3 36)==true)) ((Gd (((((((v4&&(neB v3 47))&&(neB v3 42))&&(neB v3 63))&&(neB v3 37))&&v5)==true)&&((eqB v3 36)==true)) ((((((((v4&&(neB v3 47))&&(neB v3 42))&&(neB v3 63))&&(neB v3 37))&&v5)==true)&&((eqB v3 36)==true))=true)∧True)∧True)∧Gd (((((((v4&&(neB v3 47))&&(neB v3 42))&&(neB v3 63))&&(neB v3 37))&&v5)==true)&&((eqB v3 36)==true)) ((Gd (((((((v4&&(neB v3 47))&&(neB v3 42))&&(neB v3 63))&&(neB v3 37))&&v5)==true)&&((eqB v3 36)==true)) ((((((((v4&&(neB v3 47))&&(neB v3 42))&&(neB v3 63))&&(neB v3 37))&&v5)==true)&&((eqB v3 36)==true))=true)∧True)∧I64 ((p.length:Int) - 1))∧Gd (((((((v4&&(neB v3 47))&&(neB v3 42))&&(neB v3 63))&&(neB v3 37))&&v5)==true)&&((eqB v3 36)==true)) ((Gd (((((((v4&&(neB v3 47))&&(neB v3 42))&&(neB v3 63))&&(neB v3 37))&&v5)==true)&&((eqB v3 36)==true)) ((((((((v4&&(neB v3 47))&&(neB v3 42))&&(neB v3 63))&&(neB v3 37))&&v5)==true)&&((eqB v3 36)==true))=true)∧(Gd (((((((v4&&(neB v3 47))&&(neB v3 42))&&(neB v3 63))&&(neB v3 37))&&v5)==true)&&((eqB v3 36)==true)) ((((((((v4&&(neB v3 47))&&(neB v3 42))&&(neB v3 63))&&(neB v3 37))&&v5)==true)&&((eqB v3 36)==true))=true)∧True))∧True)∧Gd ((((((v4&&(neB v3 47))&&(neB v3 42))&&(neB v3 63))&&(neB v3 37))&&v5)==true) ((Gd ((((((v4&&(neB v3 47))&&(neB v3 42))&&(neB v3 63))&&(neB v3 37))&&v5)==true) (((((((v4&&(neB v3 47))&&(neB v3 42))&&(neB v3 63))&&(neB v3 37))&&v5)==true)=true)∧True)∧Pk (eqB v3 36) (((((((v4&&(neB v3 47))&&(neB v3 42))&&(neB v3 63))&&(neB v3 37))&&v5)==true)&&((eqB v3 36)==true)) true)∧Gd ((((((v4&&(neB v3 47))&&(neB v3 42))&&(neB v3 63))&&(neB v3 37))&&v5)==true) ((Gd ((((((v4&&(neB v3 47))&&(neB v3 42))&&(neB v3 63))&&(neB v3 37))&&v5)==true) (((((((v4&&(neB v3 47))&&(neB v3 42))&&(neB v3 63))&&(neB v3 37))&&v5)==true)=true)∧True)∧True)∧Pk (((((v4&&(neB v3 47))&&(neB v3 42))&&(neB v3 63))&&(neB v3 37))&&v5) ((((((v4&&(neB v3 47))&&(neB v3 42))&&(neB v3 63))&&(neB v3 37))&&v5)==true) true∧True)∧Br ((((((v4&&(neB v3 47))&&(neB v3 42))&&(neB v3 63))&&(neB v3 37))&&v5)&&(!((eqB v3 36)&&(eqB (i:Int) ((p.length:Int) - 1))))) (True∧True∧Q (bV false) (bV (ruleOkL p))∧(True)) ((I64 ((i:Int)+1)∧True)∧∃ i₂:Nat,(ruleOk_k0 p i₂)∧(p.length - i₂ < p.length - i)∧(E (sV p)∧Q (iN (i+1)) (iN i₂)∧True)∧True)) (True∧True∧Q (bV true) (bV (ruleOkL p))∧(True))) (!((geB v3 65)&&(leB v3 70)))) (!(plainB (p.getD i 0)))) (((p.getD i 0).toNat:Nat):Int)))) ((v2||(p==[]))==false)) (gtB (p.length:Int) 16))
  (by kernel_rfl) ?_
 refine ⟨trivial,⟨fun hG=>⟨trivial,trivial⟩,fun hG=>⟨⟨fun h=>h,trivial⟩,trivial⟩,⟨fun _=>rfl,fun h=>by rw [h]; rfl⟩,fun hG=>⟨trivial,trivial⟩,fun hG=>⟨⟨fun h=>h,trivial⟩,by (try simp only [nb] at hG); grind [List.length_pos_iff]⟩,fun hG=>⟨⟨fun h=>h,trivial⟩,trivial⟩,⟨fun _=>rfl,fun h=>by rw [h]; rfl⟩,trivial⟩,?_⟩
 refine ⟨fun hb1=>?_,fun hb1=>?_⟩
 · try simp only [nb] at hb1
   refine ⟨trivial,?_⟩
   refine ⟨trivial,?_,trivial⟩
   unfold Q
   refine congrArg bV ?_
   unfold ruleOkL
   symm
   rw [decide_eq_false_iff_not]
   grind
 · try simp only [nb] at hb1
   refine ⟨trivial,?_⟩
   refine ⟨⟨0,?_,⟨rfl,rfl,trivial⟩,trivial⟩,?_⟩
   · unfold ruleOk_k0
     simp
   rintro i ⟨h1,h2⟩
   refine ⟨trivial,?_⟩
   refine ⟨fun hb2=>?_,fun hb2=>?_⟩
   · try simp only [nb] at hb2
     refine ⟨⟨by omega,trivial⟩,trivial,rfl,trivial,trivial,⟨fun hG=>⟨trivial,trivial⟩,fun hG=>⟨⟨fun h=>h,trivial⟩,trivial⟩,⟨fun h=>by rw [h]; rfl,fun _=>rfl⟩,fun hG=>⟨trivial,trivial⟩,fun hG=>⟨⟨fun h=>h,trivial⟩,trivial⟩,⟨fun h=>by rw [h]; rfl,fun _=>rfl⟩,fun hG=>⟨trivial,trivial⟩,fun hG=>⟨⟨fun h=>h,trivial⟩,trivial⟩,⟨fun h=>by rw [h]; rfl,fun _=>rfl⟩,fun hG=>⟨trivial,trivial⟩,fun hG=>⟨⟨fun h=>h,trivial⟩,trivial⟩,⟨fun h=>by rw [h]; rfl,fun _=>rfl⟩,fun hG=>⟨trivial,trivial⟩,fun hG=>⟨⟨fun h=>h,trivial⟩,trivial⟩,fun hG=>⟨⟨fun h=>h,trivial⟩,trivial⟩,fun hG=>⟨trivial,trivial⟩,fun hG=>⟨⟨fun h=>h,trivial⟩,trivial⟩,fun hG=>⟨⟨fun h=>h,trivial⟩,⟨fun h=>by rw [h]; exact (Bool.and_eq_true _ _).mpr ⟨hG,rfl⟩,fun _=>rfl⟩⟩,fun hG=>⟨⟨fun h=>h,trivial⟩,trivial⟩,⟨fun h=>by rw [h]; rfl,fun _=>rfl⟩,fun hG=>⟨trivial,trivial⟩,fun hG=>⟨⟨fun h=>h,trivial⟩,trivial⟩,fun hG=>⟨⟨fun h=>h,trivial⟩,trivial⟩,fun hG=>⟨trivial,trivial⟩,fun hG=>⟨trivial,trivial⟩,fun hG=>⟨⟨fun h=>h,trivial⟩,trivial⟩,fun hG=>⟨⟨fun h=>h,trivial⟩,by (try simp only [nb] at hG); omega⟩,fun hG=>⟨⟨fun h=>h,⟨fun h=>h,trivial⟩⟩,trivial⟩,fun hG=>⟨⟨fun h=>h,trivial⟩,⟨fun h=>by rw [h]; exact (Bool.and_eq_true _ _).mpr ⟨hG,rfl⟩,fun _=>rfl⟩⟩,fun hG=>⟨⟨fun h=>h,trivial⟩,trivial⟩,⟨fun h=>by rw [h]; rfl,fun _=>rfl⟩,trivial⟩,?_⟩
     refine ⟨fun hb3=>?_,fun hb3=>?_⟩
     · try simp only [nb] at hb3
       refine ⟨trivial,?_⟩
       refine ⟨trivial,?_,trivial⟩
       unfold Q
       refine congrArg bV ?_
       unfold ruleOkL
       symm
       rw [decide_eq_false_iff_not]
       rintro ⟨k1,k2,k3,k4⟩
       have:=k4 i (by omega)
       unfold okAt patB at this
       grind
     · try simp only [nb] at hb3
       refine ⟨⟨by omega,trivial⟩,?_⟩
       refine ⟨i+1,?_,?_,⟨rfl,rfl,trivial⟩,trivial⟩
       · unfold ruleOk_k0
         refine ⟨by omega,lt_succ_of h2 ?_⟩
         by_cases hq:plainB (p.getD i 0)=true
         · simp only [okAt,patB,hq,Bool.true_or]
         · simp only [Bool.not_eq_true] at hq
           simp only [okAt,patB,hq,Bool.false_or,Bool.or_eq_true,Bool.and_eq_true,decide_eq_true_eq]
           simp only [hq,true_and] at hb3
           omega
       · first | (simp; done) | omega | (simp; omega)
   · try simp only [nb] at hb2
     refine ⟨trivial,?_⟩
     refine ⟨trivial,?_,trivial⟩
     unfold Q
     refine congrArg bV ?_
     unfold ruleOkL
     symm
     rw [decide_eq_true_eq]
     exact ⟨by grind,by omega,by grind,fun j hj=>h2 j (by omega)⟩
def ruleOk_c (p:List UInt8):Con Tryz.prog:={ f:=143,args:=[sV p],H:=[],pre:=(p.length≤4611686018427387904),res:=bV (ruleOkL p),H':=[],ok:=fun h=>ruleOk_ok p h }
abbrev l2Has_k0 (p:List UInt8) (s:List UInt8) (i:Nat) (q:Nat):Prop:=1≤i∧i≤(splitL 42 (bodyL p)).length∧q≤s.length∧hasL p s=hasGo (endL p) s q ((splitL 42 (bodyL p)).drop i)
theorem l2Has_ok (p s:List UInt8) (hp:p.length≤1000) (hn:1≤p.length) (hs:s.length≤1000):PF Tryz.prog 144 [sV p,sV s] [] (fun r h=>r=(bV (hasL p s))∧h=[]):=by
 have hb:(bodyL p).length≤p.length:=by unfold bodyL; split <;> simp <;> omega
 have hl1:=split_len 42 (bodyL p)
 have hl0:=split_pos 42 (bodyL p)
 have hp0:=split_get 42 (bodyL p) 0
 have hh:(splitL 42 (bodyL p)).headD []=(splitL 42 (bodyL p)).getD 0 []:=by cases (splitL 42 (bodyL p)) <;> rfl
 refine PF_go1 (N:=101) (rs:=[.tmp 4]) Tryz.func144 (by kernel_rfl) rfl rfl rfl (by kernel_rfl)
  (.r 1 [] <| .r 7 [] <| .h (.eqt 16 (bV (endL p))) <| .h (.eqt 5 (bV (endL p))) <| .r 1 [] <| .join Unit (fun _=>⟨[(0,sV (bodyL p)),(1,sV s),(5,bV (endL p))],[]⟩) (fun _=>True) (.r 6 [] <| .nil) (.nil) (fun _=>.r 1 [] <| .c (l1Split_c (bodyL p) (42:UInt8)) [] <| .r 1 [] <| .r 5 [sV ((splitL (42:UInt8) (bodyL p)).getD 0 [])] <| .d 13 <| .r 13 [sV ((splitL (42:UInt8) (bodyL p)).getD 0 [])] <| .br (.r 1 [] <| .nil) (.r 1 [] <| .loop (Nat×Nat) (fun (i,q)=>⟨[(1,sV s),(5,bV (endL p)),(6,.sl false ((splitL 42 (bodyL p)).map sV)),(7,iN q),(8,iN i)],[]⟩) (fun (i,q)=>l2Has_k0 p s i q) (fun (i,q)=>(splitL 42 (bodyL p)).length - i) (fun (i,q)=>.r 4 [] <| .br (.r 8 [] <| .br (.r 9 [sV ((splitL 42 (bodyL p)).getD i [])] <| .d 13 <| .r 13 [sV ((splitL 42 (bodyL p)).getD i [])] <| .r 1 [] <| .nil) (.r 6 [sV ((splitL 42 (bodyL p)).getD i [])] <| .c (l2Find_c s ((splitL 42 (bodyL p)).getD i []) q) [] <| .r 1 [] <| .r 2 [] <| .br (.r 1 [] <| .nil) (.r 8 [sV ((splitL 42 (bodyL p)).getD i [])] <| .h (.eqt 92 (iN ((findL s ((splitL 42 (bodyL p)).getD i []) q).toNat+((splitL 42 (bodyL p)).getD i []).length))) <| .h (.eqt 7 (iN ((findL s ((splitL 42 (bodyL p)).getD i []) q).toNat+((splitL 42 (bodyL p)).getD i []).length))) <| .r 3 [] <| .nil))) (.r 9 [] <| .nil)))))
  ((fun v2:Int=>(fun v4:Int=>(fun v1:Bool=>(fun v3:Bool=>(fun v5:Int=>(fun v7:Int=>(fun v6:V=>(True∧(I64 (v7 - 1)∧Ix (v7 - 1) p∧True)∧(v6=bV (endL p))∧(v6=bV (endL p))∧True∧((endL p)=true→(I64 (v7 - 1)∧Sx (0:Int) (v7 - 1) p∧True)∧∃ _:Unit,True∧(Q (sV ((p.take (Int.toNat (v7 - 1))).drop ((0:Int).toNat))) (sV (bodyL p))∧E (sV s)∧E (bV (endL p))∧True)∧True)∧((endL p)=false→∃ _:Unit,True∧(Q (sV p) (sV (bodyL p))∧E (sV s)∧E (bV (endL p))∧True)∧True)∧(∀ _:Unit,True→True∧(l1Split_c (bodyL p) (42:UInt8)).sm∧(True)∧(((bodyL p).length≤1099511627776))∧True∧(Ex 0 ((splitL (42:UInt8) (bodyL p)).map sV) (sV ((splitL (42:UInt8) (bodyL p)).getD 0 []))∧True∧True)∧(Gd v1 (True∧True)∧Gd v1 (True∧True)∧Gd v1 ((Gd v1 (v1=true)∧(Gd v1 (v1=true)∧True))∧Sx (0:Int) v4 s)∧Gd v1 (True∧True)∧Gd v1 ((Gd v1 (v1=true)∧True)∧Ex 0 ((splitL (42:UInt8) (bodyL p)).map sV) (sV ((splitL (42:UInt8) (bodyL p)).getD 0 [])))∧Gd v1 ((Gd v1 (v1=true)∧True)∧True)∧Gd v1 ((Gd v1 (v1=true)∧(Gd v1 (v1=true)∧True))∧True)∧Pk (gtB v4 v2) true v1∧True)∧Br ((gtB v4 v2)||(!(((s.take (((splitL (42:UInt8) (bodyL p)).getD 0 []).length)).drop ((0:Int).toNat))==((splitL (42:UInt8) (bodyL p)).getD 0 [])))) (True∧True∧Q (bV false) (bV (hasL p s))∧(True)) (True∧(∃ x:Nat×Nat,match x with | (i₀,q₀)=>(l2Has_k0 p s i₀ q₀)∧(E (sV s)∧E (bV (endL p))∧Q (.sl false ((splitL (42:UInt8) (bodyL p)).map sV)) (.sl false ((splitL 42 (bodyL p)).map sV))∧Q (iN (((splitL (42:UInt8) (bodyL p)).getD 0 []).length)) (iN q₀)∧Q (iN 1) (iN i₀)∧True)∧True)∧∀ x:Nat×Nat,match x with | (i,q)=>(l2Has_k0 p s i q)→(fun v9:Int=>(fun v8:Bool=>(fun v10:V=>(fun v11:V=>True∧Br (ltB (i:Int) v5) ((Gd ((endL p)==true) (True∧True)∧Gd ((endL p)==true) (True∧True)∧Gd ((endL p)==true) ((Gd ((endL p)==true) (((endL p)==true)=true)∧True)∧True)∧Gd ((endL p)==true) ((Gd ((endL p)==true) (((endL p)==true)=true)∧True)∧I64 (v5 - 1))∧Gd ((endL p)==true) ((Gd ((endL p)==true) (((endL p)==true)=true)∧(Gd ((endL p)==true) (((endL p)==true)=true)∧True))∧True)∧Pk (endL p) ((endL p)==true) true∧True)∧Br ((endL p)&&(eqB (i:Int) (v5 - 1))) ((Ex (i:Int) ((splitL 42 (bodyL p)).map sV) v10∧True∧I64 (v2 - v9)∧True)∧(Gd (v8==true) (True∧True)∧Gd (v8==true) (True∧True)∧Gd (v8==true) ((Gd (v8==true) ((v8==true)=true)∧(Gd (v8==true) ((v8==true)=true)∧True))∧Sx (v2 - v9) v2 s)∧Gd (v8==true) (True∧True)∧Gd (v8==true) (True∧True)∧Gd (v8==true) ((Gd (v8==true) ((v8==true)=true)∧(Gd (v8==true) ((v8==true)=true)∧True))∧Ex (i:Int) ((splitL 42 (bodyL p)).map sV) v10)∧Gd (v8==true) ((Gd (v8==true) ((v8==true)=true)∧True)∧True)∧Gd (v8==true) ((Gd (v8==true) ((v8==true)=true)∧(Gd (v8==true) ((v8==true)=true)∧True))∧True)∧Pk v8 (v8==true) true∧True)∧True∧True∧Q (bV (v8&&(((s.take s.length).drop (Int.toNat (v2 - v9)))==((splitL 42 (bodyL p)).getD i [])))) (bV (hasL p s))∧(True)) ((Ex (i:Int) ((splitL 42 (bodyL p)).map sV) v10∧True∧True)∧(l2Find_c s ((splitL 42 (bodyL p)).getD i []) q).sm∧(True)∧((s.length≤1000000)∧(((splitL 42 (bodyL p)).getD i []).length≤1000000)∧(q≤1000000))∧True∧True∧Br (ltB (findL s ((splitL 42 (bodyL p)).getD i []) q) 0) (True∧True∧Q (bV false) (bV (hasL p s))∧(True)) ((Ex (i:Int) ((splitL 42 (bodyL p)).map sV) v10∧True∧I64 ((findL s ((splitL 42 (bodyL p)).getD i []) q)+v9)∧True)∧(v11=iN ((findL s ((splitL 42 (bodyL p)).getD i []) q).toNat+((splitL 42 (bodyL p)).getD i []).length))∧(v11=iN ((findL s ((splitL 42 (bodyL p)).getD i []) q).toNat+((splitL 42 (bodyL p)).getD i []).length))∧(I64 ((i:Int)+1)∧True)∧∃ x:Nat×Nat,match x with | (i₂,q₂)=>(l2Has_k0 p s i₂ q₂)∧((splitL 42 (bodyL p)).length - i₂ < (splitL 42 (bodyL p)).length - i)∧(E (sV s)∧E (bV (endL p))∧E (.sl false ((splitL 42 (bodyL p)).map sV))∧Q (iN ((findL s ((splitL 42 (bodyL p)).getD i []) q).toNat+((splitL 42 (bodyL p)).getD i []).length)) (iN q₂)∧Q (iN (i+1)) (iN i₂)∧True)∧True))) ((Gd v3 (True∧True)∧Gd v3 (True∧True)∧Gd v3 ((Gd v3 (v3=true)∧True)∧True)∧Gd v3 ((Gd v3 (v3=true)∧(Gd v3 (v3=true)∧True))∧True)∧Pk (!(endL p)) true v3∧True)∧True∧Q (bV ((!(endL p))||(eqB (q:Int) v2))) (bV (hasL p s))∧(True))) (iV ((findL s ((splitL 42 (bodyL p)).getD i []) q)+v9):V)) (sV ((splitL 42 (bodyL p)).getD i []))) (geB (v2 - v9) (q:Int))) ((((splitL 42 (bodyL p)).getD i []).length:Nat):Int))))) (bV (eqB (((p.getD (Int.toNat (v7 - 1)) 0).toNat:Nat):Int) 36):V)) (p.length:Int)) ((((splitL 42 (bodyL p)).map sV).length:Nat):Int)) ((!(endL p))==false)) ((gtB v4 v2)==false)) ((((splitL (42:UInt8) (bodyL p)).getD 0 []).length:Nat):Int)) (s.length:Int))
  (by kernel_rfl) ?_
 refine ⟨trivial,⟨by omega,by omega,trivial⟩,(congrArg bV (endL_eq hn)),(congrArg bV (endL_eq hn)),trivial,?_⟩
 refine ⟨fun hb1=>?_,fun hb1=>?_,fun _ _=>?_⟩
 · try simp only [nb] at hb1
   refine ⟨⟨by omega,by omega,trivial⟩,?_⟩
   exact ⟨(),trivial,⟨by first | exact congrArg sV (body_t hb1) | exact congrArg sV (body_f hb1),rfl,rfl,trivial⟩,trivial⟩
 · try simp only [nb] at hb1
   exact ⟨(),trivial,⟨by first | exact congrArg sV (body_t hb1) | exact congrArg sV (body_f hb1),rfl,rfl,trivial⟩,trivial⟩
 refine ⟨trivial,rfl,trivial,by first | assumption | omega | (simp; omega),trivial,⟨⟨by omega,getE_map (d:=[]) (by omega)⟩,trivial,trivial⟩,⟨fun hG=>⟨trivial,trivial⟩,fun hG=>⟨trivial,trivial⟩,fun hG=>⟨⟨fun h=>h,⟨fun h=>h,trivial⟩⟩,by (try simp only [nb] at hG); omega⟩,fun hG=>⟨trivial,trivial⟩,fun hG=>⟨⟨fun h=>h,trivial⟩,⟨by omega,getE_map (d:=[]) (by omega)⟩⟩,fun hG=>⟨⟨fun h=>h,trivial⟩,trivial⟩,fun hG=>⟨⟨fun h=>h,⟨fun h=>h,trivial⟩⟩,trivial⟩,⟨fun _=>rfl,fun h=>by rw [h]; rfl⟩,trivial⟩,?_⟩
 refine ⟨fun hb2=>?_,fun hb2=>?_⟩
 · try simp only [nb] at hb2
   refine ⟨trivial,?_⟩
   refine ⟨trivial,?_,trivial⟩
   unfold Q
   refine congrArg bV ?_
   unfold hasL
   rw [hh]
   by_cases hx:s.take ((splitL 42 (bodyL p)).getD 0 []).length=(splitL 42 (bodyL p)).getD 0 []
   · exfalso
     have:=congrArg List.length hx
     rw [List.length_take] at this
     rcases hb2 with hb2 | hb2
     · omega
     · exact hb2 hx
   · rw [pre_not hx]; rfl
 · try simp only [nb] at hb2
   refine ⟨trivial,?_⟩
   refine ⟨⟨(1,((splitL 42 (bodyL p)).getD 0 []).length),?_,⟨rfl,rfl,by first | rfl | simp | (simp; omega),by first | rfl | simp | (simp; omega),rfl,trivial⟩,trivial⟩,?_⟩
   · unfold l2Has_k0
     refine ⟨by omega,by omega,by omega,?_⟩
     unfold hasL
     rw [hh,pre_of hb2.2]
     cases (splitL 42 (bodyL p)) <;> rfl
   rintro ⟨i,q⟩ ⟨h1,h2,h3,h4⟩
   have hpi:=split_get 42 (bodyL p) i
   have hfg:=findL_ge s ((splitL 42 (bodyL p)).getD i []) q
   refine ⟨trivial,?_⟩
   refine ⟨fun hb3=>?_,fun hb3=>?_⟩
   · try simp only [nb,List.length_map] at hb3
     refine ⟨⟨fun hG=>⟨trivial,trivial⟩,fun hG=>⟨trivial,trivial⟩,fun hG=>⟨⟨fun h=>h,trivial⟩,trivial⟩,fun hG=>⟨⟨fun h=>h,trivial⟩,by (try simp only [nb] at hG); (try simp only [List.length_map] at *); omega⟩,fun hG=>⟨⟨fun h=>h,⟨fun h=>h,trivial⟩⟩,trivial⟩,⟨fun h=>by rw [h]; rfl,fun _=>rfl⟩,trivial⟩,?_⟩
     refine ⟨fun hb4=>?_,fun hb4=>?_⟩
     · try simp only [nb,List.length_map] at hb4
       refine ⟨⟨⟨by omega,getE_map (d:=[]) (by omega)⟩,trivial,by omega,trivial⟩,⟨fun hG=>⟨trivial,trivial⟩,fun hG=>⟨trivial,trivial⟩,fun hG=>⟨⟨fun h=>h,⟨fun h=>h,trivial⟩⟩,by (try simp only [nb] at hG); omega⟩,fun hG=>⟨trivial,trivial⟩,fun hG=>⟨trivial,trivial⟩,fun hG=>⟨⟨fun h=>h,⟨fun h=>h,trivial⟩⟩,⟨by omega,getE_map (d:=[]) (by omega)⟩⟩,fun hG=>⟨⟨fun h=>h,trivial⟩,trivial⟩,fun hG=>⟨⟨fun h=>h,⟨fun h=>h,trivial⟩⟩,trivial⟩,⟨fun h=>by rw [h]; rfl,fun _=>rfl⟩,trivial⟩,trivial,?_⟩
       refine ⟨trivial,?_,trivial⟩
       unfold Q
       refine congrArg bV ?_
       unfold geB
       rw [h4,drop_cons (by omega:i < (splitL 42 (bodyL p)).length) [],(List.drop_eq_nil_of_le (by omega):(splitL 42 (bodyL p)).drop (i+1)=[]),hb4.1,has_last,List.take_length]
       by_cases hq:q+((splitL 42 (bodyL p)).getD i []).length≤s.length
       · rw [show Int.toNat ((s.length:Int) - (((splitL 42 (bodyL p)).getD i []).length:Int))=s.length - ((splitL 42 (bodyL p)).getD i []).length from by omega,decide_eq_true hq,decide_eq_true (by omega)]
       · rw [decide_eq_false hq,decide_eq_false (by omega)]; rfl
     · try simp only [nb,List.length_map] at hb4
       refine ⟨⟨⟨by omega,getE_map (d:=[]) (by omega)⟩,trivial,trivial⟩,rfl,trivial,⟨by first | assumption | omega | (simp; omega),by first | assumption | omega | (simp; omega),by first | assumption | omega | (simp; omega)⟩,trivial,trivial,?_⟩
       refine ⟨fun hb5=>?_,fun hb5=>?_⟩
       · try simp only [nb] at hb5
         refine ⟨trivial,?_⟩
         refine ⟨trivial,?_,trivial⟩
         unfold Q
         refine congrArg bV ?_
         rw [h4,drop_cons (by omega:i < (splitL 42 (bodyL p)).length) [],has_no (by rintro ⟨k1,k2⟩; have k3:=congrArg List.length k2; simp only [List.length_drop,List.length_nil] at k3; exact hb4 k1 (by omega)) hb5]
       · try simp only [nb] at hb5
         refine ⟨⟨⟨by omega,getE_map (d:=[]) (by omega)⟩,trivial,by omega,trivial⟩,(congrArg iV (by omega)),(congrArg iV (by omega)),⟨by omega,trivial⟩,?_⟩
         refine ⟨(i+1,(findL s ((splitL 42 (bodyL p)).getD i []) q).toNat+((splitL 42 (bodyL p)).getD i []).length),?_,?_,⟨rfl,rfl,rfl,rfl,rfl,trivial⟩,trivial⟩
         · unfold l2Has_k0
           refine ⟨by omega,by omega,by omega,?_⟩
           rw [h4,drop_cons (by omega:i < (splitL 42 (bodyL p)).length) [],has_go (by rintro ⟨k1,k2⟩; have k3:=congrArg List.length k2; simp only [List.length_drop,List.length_nil] at k3; exact hb4 k1 (by omega)) (by omega)]
         · first | (simp; done) | omega | (simp; omega)
   · try simp only [nb,List.length_map] at hb3
     refine ⟨⟨fun hG=>⟨trivial,trivial⟩,fun hG=>⟨trivial,trivial⟩,fun hG=>⟨⟨fun h=>h,trivial⟩,trivial⟩,fun hG=>⟨⟨fun h=>h,⟨fun h=>h,trivial⟩⟩,trivial⟩,⟨fun _=>rfl,fun h=>by rw [h]; rfl⟩,trivial⟩,?_⟩
     refine ⟨trivial,?_,trivial⟩
     unfold Q
     refine congrArg bV ?_
     rw [h4,List.drop_eq_nil_of_le (by omega),hasGo]
     congr 1
     rw [Bool.eq_iff_iff]
     simp only [beq_iff_eq,decide_eq_true_eq]
     omega
def l2Has_c (p:List UInt8) (s:List UInt8):Con Tryz.prog:={ f:=144,args:=[sV p,sV s],H:=[],pre:=(p.length≤1000)∧(1≤p.length)∧(s.length≤1000),res:=bV (hasL p s),H':=[],ok:=fun h=>l2Has_ok p s h.1 h.2.1 h.2.2 }
end Go.Proofs.YthliifpcaahnnaaGreatDoor
namespace Go.Proofs.YthliifpcaahnnaaGreatDoor
open Go Go.Abs Go.RowKit Go.Pd
set_option maxRecDepth 20000
theorem ruleHas_ok (p s:List UInt8) (hp:p.length≤4611686018427387904) (hs:s.length≤4611686018427387904):PF Tryz.prog 105 [sV p,sV s] [] (fun r h=>r=(bV (ruleHasL p s))∧h=[]):=by
 refine PF_go1 (N:=17) (rs:=[.tmp 4]) Tryz.func105 (by kernel_rfl) rfl rfl rfl (by kernel_rfl)
  (.r 1 [] <| .r 1 [] <| .c (ruleOk_c p) [] <| .r 8 [] <| .cg (l2Has_c p s) <| .r 2 [] <| .nil)
  ((fun v1:Bool=>(True∧True∧(ruleOk_c p).sm∧(True)∧((p.length≤4611686018427387904))∧(Gd ((ruleOkL p)==true) (True∧True)∧Gd ((ruleOkL p)==true) ((Gd ((ruleOkL p)==true) (((ruleOkL p)==true)=true)∧True)∧True)∧Gd ((ruleOkL p)==true) ((Gd ((ruleOkL p)==true) (((ruleOkL p)==true)=true)∧True)∧True)∧Pk (ruleOkL p) ((ruleOkL p)==true) true∧Gd (((ruleOkL p)&&v1)==true) (True∧True)∧Gd (((ruleOkL p)&&v1)==true) (True∧True)∧True)∧Gd (((ruleOkL p)&&v1)==true) ((Gd (((ruleOkL p)&&v1)==true) ((((ruleOkL p)&&v1)==true)=true)∧(Gd (((ruleOkL p)&&v1)==true) ((((ruleOkL p)&&v1)==true)=true)∧True))∧((p.length≤1000)∧(1≤p.length)∧(s.length≤1000))∧(l2Has_c p s).sm)∧(Pk ((ruleOkL p)&&v1) (((ruleOkL p)&&v1)==true) true∧True)∧True∧Q (bV (((ruleOkL p)&&v1)&&(hasL p s))) (bV (ruleHasL p s))∧(True))) (leB (s.length:Int) 60))
  (by kernel_rfl) ?_
 refine ⟨trivial,trivial,rfl,trivial,by first | assumption | omega | (simp; omega),⟨fun hG=>⟨trivial,trivial⟩,fun hG=>⟨⟨fun h=>h,trivial⟩,trivial⟩,fun hG=>⟨⟨fun h=>h,trivial⟩,trivial⟩,⟨fun h=>by rw [h]; rfl,fun _=>rfl⟩,fun hG=>⟨trivial,trivial⟩,fun hG=>⟨trivial,trivial⟩,trivial⟩,fun hG=>⟨⟨fun h=>h,⟨fun h=>h,trivial⟩⟩,⟨by (try simp only [nb] at hG); have:=ruleOk_len hG.1; omega,by (try simp only [nb] at hG); have:=ruleOk_len hG.1; omega,by (try simp only [nb] at hG); omega⟩,rfl⟩,⟨⟨fun h=>by rw [h]; rfl,fun _=>rfl⟩,trivial⟩,?_⟩
 refine ⟨trivial,?_,trivial⟩
 unfold Q
 refine congrArg bV ?_
 unfold ruleHasL
 congr 2
 rw [Bool.eq_iff_iff]; simp only [decide_eq_true_eq]; omega
def ruleHas_c (p:List UInt8) (s:List UInt8):Con Tryz.prog:={ f:=105,args:=[sV p,sV s],H:=[],pre:=(p.length≤4611686018427387904)∧(s.length≤4611686018427387904),res:=bV (ruleHasL p s),H':=[],ok:=fun h=>ruleHas_ok p s h.1 h.2 }
abbrev ruleLets_k0 (rs:List Rul) (s:List UInt8) (i:Nat) (b:Int) (l:Bool):Prop:=i≤rs.length∧(b,l)=(rs.take i).foldl (letsStep s) (-1,true)
theorem ruleLets_ok (rs:List Rul) (s:List UInt8) (hl:rs.length≤4611686018427387904) (hr:∀ i,(rs.getD i ⟨false,[]⟩).path.length≤4611686018427387904) (hs:s.length≤4611686018427387904):PF Tryz.prog 68 [.sl false (rs.map ruleV),sV s] [] (fun r h=>r=(bV (ruleLetsL rs s))∧h=[]):=by
 refine PF_go1 (N:=49) (rs:=[.tmp 4]) Tryz.func68 (by kernel_rfl) rfl rfl rfl (by kernel_rfl)
  (.r 1 [] <| .r 1 [] <| .r 1 [] <| .r 1 [] <| .loop (Nat×Int×Bool) (fun (i,b,l)=>⟨[(0,.sl false (rs.map ruleV)),(1,sV s),(5,iV b),(6,bV l),(7,iN i)],[]⟩) (fun (i,b,l)=>ruleLets_k0 rs s i b l) (fun (i,b,l)=>rs.length - i) (fun (i,b,l)=>.r 4 [] <| .br (.r 7 [.agg [bV ((rs.getD i (⟨false,[]⟩:Rul)).let_),sV ((rs.getD i (⟨false,[]⟩:Rul)).path)]] <| .r 6 [.agg [bV ((rs.getD i (⟨false,[]⟩:Rul)).let_),sV ((rs.getD i (⟨false,[]⟩:Rul)).path)]] <| .c (ruleHas_c ((rs.getD i (⟨false,[]⟩:Rul)).path) s) [] <| .r 6 [] <| .br (.r 3 [] <| .nil) (.r 14 [.agg [bV ((rs.getD i (⟨false,[]⟩:Rul)).let_),sV ((rs.getD i (⟨false,[]⟩:Rul)).path)]] <| .r 2 [] <| .r 3 [] <| .nil)) (.r 2 [] <| .nil)))
  (True∧True∧True∧True∧(∃ x:Nat×Int×Bool,match x with | (i₀,b₀,l₀)=>(ruleLets_k0 rs s i₀ b₀ l₀)∧(E (.sl false (rs.map ruleV))∧E (sV s)∧Q (iV (-1)) (iV b₀)∧Q (bV true) (bV l₀)∧Q (iN 0) (iN i₀)∧True)∧True)∧∀ x:Nat×Int×Bool,match x with | (i,b,l)=>(ruleLets_k0 rs s i b l)→True∧Br (ltB (i:Int) (((rs.map ruleV).length:Nat):Int)) ((Ex (i:Int) (rs.map ruleV) (.agg [bV ((rs.getD i (⟨false,[]⟩:Rul)).let_),sV ((rs.getD i (⟨false,[]⟩:Rul)).path)])∧True∧True)∧(Ex (i:Int) (rs.map ruleV) (.agg [bV ((rs.getD i (⟨false,[]⟩:Rul)).let_),sV ((rs.getD i (⟨false,[]⟩:Rul)).path)])∧True∧True)∧(ruleHas_c ((rs.getD i (⟨false,[]⟩:Rul)).path) s).sm∧(True)∧((((rs.getD i (⟨false,[]⟩:Rul)).path).length≤4611686018427387904)∧(s.length≤4611686018427387904))∧(Gd ((!(ruleHasL ((rs.getD i (⟨false,[]⟩:Rul)).path) s))==false) (True∧True)∧Gd ((!(ruleHasL ((rs.getD i (⟨false,[]⟩:Rul)).path) s))==false) (True∧True)∧Gd ((!(ruleHasL ((rs.getD i (⟨false,[]⟩:Rul)).path) s))==false) ((Gd ((!(ruleHasL ((rs.getD i (⟨false,[]⟩:Rul)).path) s))==false) (((!(ruleHasL ((rs.getD i (⟨false,[]⟩:Rul)).path) s))==false)=true)∧(Gd ((!(ruleHasL ((rs.getD i (⟨false,[]⟩:Rul)).path) s))==false) (((!(ruleHasL ((rs.getD i (⟨false,[]⟩:Rul)).path) s))==false)=true)∧True))∧True)∧Pk (!(ruleHasL ((rs.getD i (⟨false,[]⟩:Rul)).path) s)) true ((!(ruleHasL ((rs.getD i (⟨false,[]⟩:Rul)).path) s))==false)∧True)∧Br ((!(ruleHasL ((rs.getD i (⟨false,[]⟩:Rul)).path) s))||(ltB ((((rs.getD i (⟨false,[]⟩:Rul)).path).length:Nat):Int) b)) ((I64 ((i:Int)+1)∧True)∧∃ x:Nat×Int×Bool,match x with | (i₂,b₂,l₂)=>(ruleLets_k0 rs s i₂ b₂ l₂)∧(rs.length - i₂ < rs.length - i)∧(E (.sl false (rs.map ruleV))∧E (sV s)∧Q (iV b) (iV b₂)∧Q (bV l) (bV l₂)∧Q (iN (i+1)) (iN i₂)∧True)∧True) ((Ex (i:Int) (rs.map ruleV) (.agg [bV ((rs.getD i (⟨false,[]⟩:Rul)).let_),sV ((rs.getD i (⟨false,[]⟩:Rul)).path)])∧True∧Gd (((rs.getD i (⟨false,[]⟩:Rul)).let_)==false) (True∧True)∧Gd (((rs.getD i (⟨false,[]⟩:Rul)).let_)==false) (True∧True)∧Gd (((rs.getD i (⟨false,[]⟩:Rul)).let_)==false) ((Gd (((rs.getD i (⟨false,[]⟩:Rul)).let_)==false) ((((rs.getD i (⟨false,[]⟩:Rul)).let_)==false)=true)∧(Gd (((rs.getD i (⟨false,[]⟩:Rul)).let_)==false) ((((rs.getD i (⟨false,[]⟩:Rul)).let_)==false)=true)∧True))∧True)∧Gd (((rs.getD i (⟨false,[]⟩:Rul)).let_)==false) ((Gd (((rs.getD i (⟨false,[]⟩:Rul)).let_)==false) ((((rs.getD i (⟨false,[]⟩:Rul)).let_)==false)=true)∧True)∧True)∧Gd ((((rs.getD i (⟨false,[]⟩:Rul)).let_)==false)&&((eqB ((((rs.getD i (⟨false,[]⟩:Rul)).path).length:Nat):Int) b)==true)) (True∧True)∧Gd (((rs.getD i (⟨false,[]⟩:Rul)).let_)==false) ((Gd (((rs.getD i (⟨false,[]⟩:Rul)).let_)==false) ((((rs.getD i (⟨false,[]⟩:Rul)).let_)==false)=true)∧True)∧Pk (eqB ((((rs.getD i (⟨false,[]⟩:Rul)).path).length:Nat):Int) b) ((((rs.getD i (⟨false,[]⟩:Rul)).let_)==false)&&((eqB ((((rs.getD i (⟨false,[]⟩:Rul)).path).length:Nat):Int) b)==true)) true)∧Pk ((rs.getD i (⟨false,[]⟩:Rul)).let_) true (((rs.getD i (⟨false,[]⟩:Rul)).let_)==false)∧True)∧True∧(I64 ((i:Int)+1)∧True)∧∃ x:Nat×Int×Bool,match x with | (i₂,b₂,l₂)=>(ruleLets_k0 rs s i₂ b₂ l₂)∧(rs.length - i₂ < rs.length - i)∧(E (.sl false (rs.map ruleV))∧E (sV s)∧Q (iN (((rs.getD i (⟨false,[]⟩:Rul)).path).length)) (iV b₂)∧Q (bV (((rs.getD i (⟨false,[]⟩:Rul)).let_)||((eqB ((((rs.getD i (⟨false,[]⟩:Rul)).path).length:Nat):Int) b)&&l))) (bV l₂)∧Q (iN (i+1)) (iN i₂)∧True)∧True)) (True∧True∧Q (bV l) (bV (ruleLetsL rs s))∧(True)))
  (by kernel_rfl) ?_
 refine ⟨trivial,trivial,trivial,trivial,?_⟩
 refine ⟨⟨(0, -1,true),?_,⟨rfl,rfl,rfl,rfl,rfl,trivial⟩,trivial⟩,?_⟩
 · unfold ruleLets_k0
   simp
 rintro ⟨i,b,l⟩ ⟨h1,h2⟩
 have hri:=hr i
 refine ⟨trivial,?_⟩
 refine ⟨fun hb1=>?_,fun hb1=>?_⟩
 · try simp only [nb,List.length_map] at hb1
   refine ⟨⟨⟨by omega,getE_map (d:=(⟨false,[]⟩:Rul)) (by omega)⟩,trivial,trivial⟩,⟨⟨by omega,getE_map (d:=(⟨false,[]⟩:Rul)) (by omega)⟩,trivial,trivial⟩,rfl,trivial,⟨by first | assumption | omega | (simp; omega),by first | assumption | omega | (simp; omega)⟩,⟨fun hG=>⟨trivial,trivial⟩,fun hG=>⟨trivial,trivial⟩,fun hG=>⟨⟨fun h=>h,⟨fun h=>h,trivial⟩⟩,trivial⟩,⟨fun _=>rfl,fun h=>by rw [h]; rfl⟩,trivial⟩,?_⟩
   refine ⟨fun hb2=>?_,fun hb2=>?_⟩
   · try simp only [nb] at hb2
     refine ⟨⟨by omega,trivial⟩,?_⟩
     refine ⟨(i+1,b,l),?_,?_,⟨rfl,rfl,rfl,rfl,rfl,trivial⟩,trivial⟩
     · unfold ruleLets_k0
       refine ⟨by omega,?_⟩
       rw [foldl_succ (d:=⟨false,[]⟩) (by omega),← h2,letsStep,if_pos (by simpa using hb2)]
     · first | (simp; done) | omega | (simp; omega)
   · try simp only [nb] at hb2
     refine ⟨⟨⟨by omega,getE_map (d:=(⟨false,[]⟩:Rul)) (by omega)⟩,trivial,fun hG=>⟨trivial,trivial⟩,fun hG=>⟨trivial,trivial⟩,fun hG=>⟨⟨fun h=>h,⟨fun h=>h,trivial⟩⟩,trivial⟩,fun hG=>⟨⟨fun h=>h,trivial⟩,trivial⟩,fun hG=>⟨trivial,trivial⟩,fun hG=>⟨⟨fun h=>h,trivial⟩,⟨fun h=>by rw [h]; exact (Bool.and_eq_true _ _).mpr ⟨hG,rfl⟩,fun _=>rfl⟩⟩,⟨fun _=>rfl,fun h=>by rw [h]; rfl⟩,trivial⟩,trivial,⟨by omega,trivial⟩,?_⟩
     refine ⟨(i+1,((((rs.getD i (⟨false,[]⟩:Rul)).path).length:Nat):Int),(((rs.getD i (⟨false,[]⟩:Rul)).let_)||((eqB ((((rs.getD i (⟨false,[]⟩:Rul)).path).length:Nat):Int) b)&&l))),?_,?_,⟨rfl,rfl,by first | rfl | simp | (simp; omega),rfl,rfl,trivial⟩,trivial⟩
     · unfold ruleLets_k0
       refine ⟨by omega,?_⟩
       rw [foldl_succ (d:=⟨false,[]⟩) (by omega),← h2,letsStep,if_neg (by grind)]
       grind
     · first | (simp; done) | omega | (simp; omega)
 · try simp only [nb,List.length_map] at hb1
   refine ⟨trivial,?_⟩
   refine ⟨trivial,?_,trivial⟩
   unfold Q
   unfold ruleLetsL
   rw [List.take_of_length_le (by omega)] at h2
   rw [← h2]
def ruleLets_c (rs:List Rul) (s:List UInt8):Con Tryz.prog:={ f:=68,args:=[.sl false (rs.map ruleV),sV s],H:=[],pre:=(rs.length≤4611686018427387904)∧(∀ i,(rs.getD i ⟨false,[]⟩).path.length≤4611686018427387904)∧(s.length≤4611686018427387904),res:=bV (ruleLetsL rs s),H':=[],ok:=fun h=>ruleLets_ok rs s h.1 h.2.1 h.2.2 }
abbrev l2Num_k0 (s:List UInt8) (m:Int) (i:Nat) (n:Int):Prop:=i≤s.length∧0≤n∧n≤1000000∧n=(s.take i).foldl (numStep m) 0∧∀ j,j < i→decide (48≤(s.getD j 0).toNat∧(s.getD j 0).toNat≤57)=true
theorem l2Num_ok (s:List UInt8) (m:Int) (hs:s.length≤4611686018427387904) (h0:0≤m) (hm:m≤1000000):PF Tryz.prog 174 [sV s,iV m] [] (fun r h=>r=(iV (numL s m))∧h=[]):=by
 refine PF_go1 (N:=34) (rs:=[.tmp 4]) Tryz.func174 (by kernel_rfl) rfl rfl rfl (by kernel_rfl)
  (.r 1 [] <| .r 1 [] <| .r 1 [] <| .loop (Nat×Int) (fun (i,n)=>⟨[(0,sV s),(1,iV m),(5,iV n),(6,iN i)],[]⟩) (fun (i,n)=>l2Num_k0 s m i n) (fun (i,n)=>s.length - i) (fun (i,n)=>.r 4 [] <| .br (.r 10 [] <| .br (.r 1 [] <| .nil) (.r 9 [] <| .mm <| .r 1 [] <| .r 3 [] <| .nil)) (.r 2 [] <| .nil)))
  (True∧True∧True∧(∃ x:Nat×Int,match x with | (i₀,n₀)=>(l2Num_k0 s m i₀ n₀)∧(E (sV s)∧E (iV m)∧Q (iN 0) (iV n₀)∧Q (iN 0) (iN i₀)∧True)∧True)∧∀ x:Nat×Int,match x with | (i,n)=>(l2Num_k0 s m i n)→(fun v1:Int=>(fun v2:Bool=>True∧Br (ltB (i:Int) (s.length:Int)) ((Ix (i:Int) s∧Gd v2 (True∧True)∧Gd v2 (True∧True)∧Gd v2 ((Gd v2 (v2=true)∧(Gd v2 (v2=true)∧True))∧Ix (i:Int) s)∧Gd v2 ((Gd v2 (v2=true)∧True)∧True)∧Pk (ltB v1 48) true v2∧True)∧Br ((ltB v1 48)||(gtB v1 57)) (True∧True∧Q (iN 0) (iV (numL s m))∧(True)) ((I64 (n * 10)∧Ix (i:Int) s∧U8r (v1 - 48)∧I64 (v1 - 48)∧I64 ((n * 10)+(v1 - 48))∧True)∧(IntKind.i64=IntKind.i64)∧True∧(I64 ((i:Int)+1)∧True)∧∃ x:Nat×Int,match x with | (i₂,n₂)=>(l2Num_k0 s m i₂ n₂)∧(s.length - i₂ < s.length - i)∧(E (sV s)∧E (iV m)∧Q (iV (min ((n * 10)+(v1 - 48)) m)) (iV n₂)∧Q (iN (i+1)) (iN i₂)∧True)∧True)) (True∧True∧Q (iV n) (iV (numL s m))∧(True))) ((ltB v1 48)==false)) (((s.getD i 0).toNat:Nat):Int))
  (by kernel_rfl) ?_
 refine ⟨trivial,trivial,trivial,?_⟩
 refine ⟨⟨(0,0),?_,⟨rfl,rfl,by first | rfl | simp | (simp; omega),rfl,trivial⟩,trivial⟩,?_⟩
 · unfold l2Num_k0
   simp
 rintro ⟨i,n⟩ ⟨h1,h2,h3,h4,h5⟩
 refine ⟨trivial,?_⟩
 refine ⟨fun hb1=>?_,fun hb1=>?_⟩
 · try simp only [nb] at hb1
   refine ⟨⟨by omega,fun hG=>⟨trivial,trivial⟩,fun hG=>⟨trivial,trivial⟩,fun hG=>⟨⟨fun h=>h,⟨fun h=>h,trivial⟩⟩,by (try simp only [nb] at hG); omega⟩,fun hG=>⟨⟨fun h=>h,trivial⟩,trivial⟩,⟨fun _=>rfl,fun h=>by rw [h]; rfl⟩,trivial⟩,?_⟩
   refine ⟨fun hb2=>?_,fun hb2=>?_⟩
   · try simp only [nb] at hb2
     refine ⟨trivial,?_⟩
     refine ⟨trivial,?_,trivial⟩
     unfold Q
     rw [show numL s m=0 from by unfold numL; rw [all_false (i:=i) (d:=0) (by omega) (by rw [decide_eq_false_iff_not]; omega)]; rfl]
     rfl
   · try simp only [nb] at hb2
     refine ⟨⟨by omega,by omega,by have:=UInt8.toNat_lt (s.getD i 0); omega,by have:=UInt8.toNat_lt (s.getD i 0); omega,by have:=UInt8.toNat_lt (s.getD i 0); omega,trivial⟩,rfl,trivial,⟨by omega,trivial⟩,?_⟩
     refine ⟨(i+1,min ((n * 10)+((((s.getD i 0).toNat:Nat):Int) - 48)) m),?_,?_,⟨rfl,rfl,rfl,rfl,trivial⟩,trivial⟩
     · unfold l2Num_k0
       have hb:=(s.getD i 0).toNat_lt
       refine ⟨by omega,by omega,by omega,?_,lt_succ_of h5 (by rw [decide_eq_true_eq]; omega)⟩
       rw [foldl_succ (d:=0) (by omega),← h4,numStep]
     · first | (simp; done) | omega | (simp; omega)
 · try simp only [nb] at hb1
   refine ⟨trivial,?_⟩
   refine ⟨trivial,?_,trivial⟩
   unfold Q
   rw [show numL s m=n from by unfold numL; rw [all_true (d:=0) (fun j hj=>h5 j (by omega)),h4,List.take_of_length_le (by omega)]; rfl]
def l2Num_c (s:List UInt8) (m:Int):Con Tryz.prog:={ f:=174,args:=[sV s,iV m],H:=[],pre:=(s.length≤4611686018427387904)∧(0≤m)∧(m≤1000000),res:=iV (numL s m),H':=[],ok:=fun h=>l2Num_ok s m h.1 h.2.1 h.2.2 }
end Go.Proofs.YthliifpcaahnnaaGreatDoor
namespace Go.Proofs.YthliifpcaahnnaaGreatDoor
open Go Go.Abs Go.RowKit Go.Pd
set_option maxRecDepth 20000
theorem ex_s {l:List (List UInt8)} {i:Nat} (h:i < l.length):Ex (i:Int) (l.map sV) (sV (l.getD i [])):=⟨Int.natCast_nonneg _,by simp [List.getD_eq_getElem?_getD,h]⟩
theorem ex_u8 {b:List UInt8} {i:Nat} (h:i < (b.map u8V).length):Ex (i:Int) (b.map u8V) (uN (b.getD i 0).toNat):=⟨Int.natCast_nonneg _,by simp at h; simp [List.getD_eq_getElem?_getD,h,u8V,uN]⟩
theorem l6Open_ok (b:List UInt8) (hb:b.length≤9223372036854775807):PF Tryz.prog 24 [.sl false (b.map u8V)] [] (fun r h=> ∃ x:List UInt8×Nat,(x.1.length≤2000)∧r=(.ptr (.key 1000) [] x.2 0)∧h=[(1000,(x.2,.agg [.sl false (x.1.map u8V),iN 0]))]):=by
 refine PF_go (N:=11) (rs:=[.tmp 2]) (X:=List UInt8×Nat) (post:=fun x=>x.1.length≤2000) (E:=fun x=>.ptr (.key 1000) [] x.2 0) (H':=fun x=>[(1000,(x.2,.agg [.sl false (x.1.map u8V),iN 0]))]) Tryz.func24 (by kernel_rfl) rfl rfl rfl (by kernel_rfl) [(1000,(0,.dead))] (by intro _ k hk; simpa [lk] using hk)
  (.r 1 [] <| .r 3 [] <| .join (List UInt8) (fun c=>⟨[(0,.sl false (c.map u8V))],[]⟩) (fun c=>c.length≤2000) (.r 2 [] <| .h (.eqt 7 (.sl false ((b.take 2000).map u8V))) <| .r 1 [] <| .nil) (.nil) (fun c=>.r 1 [] <| .bd zt84 <| .bx (fun g10=>.r 1 [] <| .h (.rk 10 1000) <| .nil)))
  (True∧True∧((gtB (((b.map u8V).length:Nat):Int) 2000)=true→(((0:Int)≤(0:Int)∧(0:Int)≤(2000:Int)∧(2000:Int)≤(b.map u8V).length∧∀ x∈(b.map u8V),x.n=1)∧True)∧Q (.sl false (((b.map u8V).take 2000).drop ((0:Int).toNat))) (.sl false ((b.take 2000).map u8V))∧True∧∃ c:List UInt8,(c.length≤2000)∧(Q (.sl false ((b.take 2000).map u8V)) (.sl false (c.map u8V))∧True)∧True)∧((gtB (((b.map u8V).length:Nat):Int) 2000)=false→∃ c:List UInt8,(c.length≤2000)∧(Q (.sl false (b.map u8V)) (.sl false (c.map u8V))∧True)∧True)∧(∀ c:List UInt8,(c.length≤2000)→True∧∀ g10:Nat,True∧True∧∃ x:List UInt8×Nat,(x.1.length≤2000)∧Q (.ptr (.key 1000) [] g10 0) (.ptr (.key 1000) [] x.2 0)∧(Qr g10 (.agg [.sl false (c.map u8V),iN 0]) x.2 (.agg [.sl false (x.1.map u8V),iN 0])∧True)))
  (by kernel_rfl) ?_
 refine ⟨trivial,trivial,?_⟩
 refine ⟨fun hb1=>?_,fun hb1=>?_,fun c hc=>?_⟩
 · try simp only [nb,List.length_map] at hb1
   refine ⟨⟨⟨by simp <;> omega,by simp <;> omega,by simp <;> omega,all_map (fun _=>rfl)⟩,trivial⟩,by simp [Q,List.map_take],trivial,?_⟩
   exact ⟨b.take 2000,by simp; omega,⟨rfl,trivial⟩,trivial⟩
 · try simp only [nb,List.length_map] at hb1
   exact ⟨b,by omega,⟨rfl,trivial⟩,trivial⟩
 refine ⟨trivial,?_⟩
 intro g10
 refine ⟨trivial,?_⟩
 refine ⟨trivial,(c,g10),?_,?_,?_⟩
 · try dsimp only
   assumption
 · first | rfl | simp_all
 · first | exact ⟨rfl,trivial⟩ | trivial | simp_all
def l6Open_c (b:List UInt8):ConX Tryz.prog:={ X:=List UInt8×Nat,f:=24,args:=[.sl false (b.map u8V)],H:=[],pre:=(b.length≤9223372036854775807),post:=fun x=>x.1.length≤2000,res:=fun x=>.ptr (.key 1000) [] x.2 0,H':=fun x=>[(1000,(x.2,.agg [.sl false (x.1.map u8V),iN 0]))],ok:=fun h=>l6Open_ok b h }
theorem l71Houses_ok:PF Tryz.prog 88 [] [] (fun r h=>r=(.sl false (housesL.map sV))∧h=[]):=by
 refine PF_go1 (N:=2) (rs:=[.tmp 0]) Tryz.func88 (by kernel_rfl) rfl rfl rfl (by kernel_rfl)
  (.r 1 [] <| .bs <| .r 1 [] <| .nil)
  (True∧True∧True∧Q (.sl false [sV ([97,98]:List UInt8),sV ([99,100]:List UInt8),sV ([101]:List UInt8),sV ([102,111,120]:List UInt8)]) (.sl false (housesL.map sV))∧(True))
  (by kernel_rfl) ?_
 refine ⟨trivial,trivial,?_⟩
 refine ⟨trivial,?_,trivial⟩
 unfold Q
 rfl
def l71Houses_c:Con Tryz.prog:={ f:=88,args:=[],H:=[],pre:=True,res:=.sl false (housesL.map sV),H':=[],ok:=fun _=>l71Houses_ok }
theorem pick_ok (b:List UInt8) (p g n:Nat) (hb:b.length≤2000) (hp:p≤1000000) (hn:n≤1000000):PF Tryz.prog 55 [.ptr (.key 1000) [] g 0,iN n] [(1000,(g,.agg [.sl false (b.map u8V),iN p]))] (fun r h=> ∃ x:Nat,(n=0∧x=0∨x < n)∧r=(iN x)∧h=[(1000,(g,.agg [.sl false (b.map u8V),iN (p+1)]))]):=by
 refine PF_go (N:=99) (rs:=[.tmp 4]) (X:=Nat) (post:=fun x=>n=0∧x=0∨x < n) (E:=fun x=>iN x) (H':=fun x=>[(1000,(g,.agg [.sl false (b.map u8V),iN (p+1)]))]) Tryz.func55 (by kernel_rfl) rfl rfl rfl (by kernel_rfl) [(1000,(0,.dead))] (by intro _ k hk; simpa [lk] using hk)
  (.r 1 [] <| .r 8 [.dead] <| .st none <| .r 10 [.dead] <| .br (.r 1 [] <| .nil) (.r 5 [.dead] <| .h (.eqt 29 (iN p)) <| .r 1 [] <| .r 7 [.dead] <| .br (.r 11 [.dead,uN ((b.getD p 0).toNat)] <| .nil) (.d 45 <| .r 45 [.dead,.dead,uN ((b.getD (p % ((b.map u8V).length)) 0).toNat),.dead,.dead,uN ((b.getD (((p * 7)+3) % ((b.map u8V).length)) 0).toNat),.dead] <| .r 1 [] <| .r 5 [] <| .r 4 [] <| .nil)))
  ((fun v1:Int=>(fun v2:Bool=>(fun v3:Int=>(fun v4:Int=>(fun v5:V=>(fun v6:Int=>(fun v7:Int=>(True∧(True∧Z g 1∧I64 ((p:Int)+1)∧True∧True)∧Z g 1∧(Gd v2 (True∧True)∧Gd v2 ((Gd v2 (v2=true)∧True)∧True)∧Gd v2 ((Gd v2 (v2=true)∧True)∧True)∧Gd v2 ((Gd v2 (v2=true)∧True)∧Z g 0)∧Gd v2 ((Gd v2 (v2=true)∧True)∧True)∧Gd v2 ((Gd v2 (v2=true)∧True)∧True)∧Pk (ltB (n:Int) 1) true v2∧True)∧Br ((ltB (n:Int) 1)||(eqB v4 0)) (True∧True∧∃ x:Nat,(n=0∧x=0∨x < n)∧Q (iN 0) (iN x)∧(Er g v5∧True)) ((True∧Z g 1∧I64 (((p+1:Nat):Int) - 1)∧True)∧Q (iV (((p+1:Nat):Int) - 1)) (iN p)∧True∧(True∧Z g 0∧True)∧Br (ltB (p:Int) v4) ((True∧Z g 0∧Ex (p:Int) (b.map u8V) (uN ((b.getD p 0).toNat))∧True∧I64 (((b.getD p 0).toNat:Nat):Int)∧((0:Int)≤(((b.getD p 0).toNat:Nat):Int)∧(0:Int) < (n:Int))∧True)∧True∧∃ x:Nat,(n=0∧x=0∨x < n)∧Q (iN (((b.getD p 0).toNat) % n)) (iN x)∧(Er g v5∧True)) ((True∧Z g 0∧True∧Z g 0∧((0:Int)≤(p:Int)∧(0:Int) < v4)∧Ex ((p % ((b.map u8V).length):Nat):Int) (b.map u8V) (uN ((b.getD (p % ((b.map u8V).length)) 0).toNat))∧True∧I64 v7∧I64 (v7 * 131)∧True∧Z g 0∧I64 ((p:Int) * 7)∧I64 (((p * 7:Nat):Int)+3)∧True∧Z g 0∧((0:Int)≤(((p * 7)+3:Nat):Int)∧(0:Int) < v4)∧Ex ((((p * 7)+3) % ((b.map u8V).length):Nat):Int) (b.map u8V) (uN ((b.getD (((p * 7)+3) % ((b.map u8V).length)) 0).toNat))∧True∧I64 v6∧I64 (v6 * 1117)∧I64 (((((b.getD (p % ((b.map u8V).length)) 0).toNat) * 131:Nat):Int)+((((b.getD (((p * 7)+3) % ((b.map u8V).length)) 0).toNat) * 1117:Nat):Int))∧I64 ((p:Int) * 29)∧I64 ((((((b.getD (p % ((b.map u8V).length)) 0).toNat) * 131)+(((b.getD (((p * 7)+3) % ((b.map u8V).length)) 0).toNat) * 1117):Nat):Int)+((p * 29:Nat):Int))∧True∧Z g 0∧((0:Int)≤(p:Int)∧(0:Int) < v4∧I64 (p:Int))∧I64 (((p / ((b.map u8V).length):Nat):Int) * 53)∧I64 (((((((b.getD (p % ((b.map u8V).length)) 0).toNat) * 131)+(((b.getD (((p * 7)+3) % ((b.map u8V).length)) 0).toNat) * 1117))+(p * 29):Nat):Int)+(((p / ((b.map u8V).length)) * 53:Nat):Int))∧True)∧True∧(((0:Int)≤v1∧(0:Int) < 64∧I64 v1)∧((0:Int)≤v1∧(0:Int)≤v3∧I64 v1∧I64 v3)∧True)∧(((0:Int)≤((((((((b.getD (p % ((b.map u8V).length)) 0).toNat) * 131)+(((b.getD (((p * 7)+3) % ((b.map u8V).length)) 0).toNat) * 1117))+(p * 29))+((p / ((b.map u8V).length)) * 53)) ^^^ (((((((b.getD (p % ((b.map u8V).length)) 0).toNat) * 131)+(((b.getD (((p * 7)+3) % ((b.map u8V).length)) 0).toNat) * 1117))+(p * 29))+((p / ((b.map u8V).length)) * 53)) / 64):Nat):Int)∧(0:Int) < (n:Int))∧True)∧True∧∃ x:Nat,(n=0∧x=0∨x < n)∧Q (iN ((((((((b.getD (p % ((b.map u8V).length)) 0).toNat) * 131)+(((b.getD (((p * 7)+3) % ((b.map u8V).length)) 0).toNat) * 1117))+(p * 29))+((p / ((b.map u8V).length)) * 53)) ^^^ (((((((b.getD (p % ((b.map u8V).length)) 0).toNat) * 131)+(((b.getD (((p * 7)+3) % ((b.map u8V).length)) 0).toNat) * 1117))+(p * 29))+((p / ((b.map u8V).length)) * 53)) / 64)) % n)) (iN x)∧(Er g v5∧True))))) (((b.getD (p % ((b.map u8V).length)) 0).toNat:Nat):Int)) (((b.getD (((p * 7)+3) % ((b.map u8V).length)) 0).toNat:Nat):Int)) (.agg [.sl false (b.map u8V),iN (p+1)])) (((b.map u8V).length:Nat):Int)) ((((((((b.getD (p % ((b.map u8V).length)) 0).toNat) * 131)+(((b.getD (((p * 7)+3) % ((b.map u8V).length)) 0).toNat) * 1117))+(p * 29))+((p / ((b.map u8V).length)) * 53)) / 64:Nat):Int)) ((ltB (n:Int) 1)==false)) (((((((b.getD (p % ((b.map u8V).length)) 0).toNat) * 131)+(((b.getD (((p * 7)+3) % ((b.map u8V).length)) 0).toNat) * 1117))+(p * 29))+((p / ((b.map u8V).length)) * 53):Nat):Int))
  (by kernel_rfl) ?_
 refine ⟨trivial,⟨trivial,rfl,by omega,trivial,trivial⟩,rfl,⟨fun hG=>⟨trivial,trivial⟩,fun hG=>⟨⟨fun h=>h,trivial⟩,trivial⟩,fun hG=>⟨⟨fun h=>h,trivial⟩,trivial⟩,fun hG=>⟨⟨fun h=>h,trivial⟩,rfl⟩,fun hG=>⟨⟨fun h=>h,trivial⟩,trivial⟩,fun hG=>⟨⟨fun h=>h,trivial⟩,trivial⟩,⟨fun _=>rfl,fun h=>by first | (rw [h]; done) | (rw [h]; rfl)⟩,trivial⟩,?_⟩
 refine ⟨fun hb1=>?_,fun hb1=>?_⟩
 · try simp only [nb,List.length_map] at hb1
   refine ⟨trivial,?_⟩
   refine ⟨trivial,0,?_,?_,?_⟩
   · try dsimp only
     omega
   · first | rfl | simp_all
   · first | exact ⟨rfl,trivial⟩ | trivial | simp_all
 · try simp only [nb,List.length_map] at hb1
   refine ⟨⟨trivial,rfl,by omega,trivial⟩,by simp [Q],trivial,?_⟩
   have hn1:1≤n∧1≤b.length:=by omega
   refine ⟨⟨trivial,rfl,trivial⟩,?_⟩
   refine ⟨fun hb2=>?_,fun hb2=>?_⟩
   · try simp only [nb,List.length_map] at hb2
     have u1:=(b.getD p 0).toNat_lt
     refine ⟨⟨trivial,rfl,⟨by omega,getE_map (d:=0) (by omega)⟩,trivial,by have:=UInt8.toNat_lt (b.getD p 0); omega,by have:=UInt8.toNat_lt (b.getD p 0); omega,trivial⟩,?_⟩
     refine ⟨trivial,(b.getD p 0).toNat % n,?_,?_,?_⟩
     · try dsimp only
       exact .inr (Nat.mod_lt _ (by omega))
     · first | rfl | simp_all
     · first | exact ⟨rfl,trivial⟩ | trivial | simp_all
   · try simp only [nb,List.length_map] at hb2
     have u1:=(b.getD (p % b.length) 0).toNat_lt
     have u2:=(b.getD ((p * 7+3) % b.length) 0).toNat_lt
     have u3:=Nat.mod_lt p (show 0 < b.length by omega)
     have u4:=Nat.mod_lt (p * 7+3) (show 0 < b.length by omega)
     have u5:=Nat.div_le_self p b.length
     have u6:=Int.natCast_nonneg (p / b.length)
     refine ⟨⟨trivial,rfl,trivial,rfl,by (try simp only [List.length_map] at *); omega,ex_u8 (by rw [List.length_map]; exact u3),trivial,by (try simp only [List.length_map] at *); omega,by (try simp only [List.length_map] at *); omega,trivial,rfl,by omega,by omega,trivial,rfl,by (try simp only [List.length_map] at *); omega,ex_u8 (by rw [List.length_map]; exact u4),trivial,by (try simp only [List.length_map] at *); omega,by (try simp only [List.length_map] at *); omega,by (try simp only [List.length_map] at *); omega,by omega,by (try simp only [List.length_map] at *); omega,trivial,rfl,by (try simp only [List.length_map] at *); omega,by (try simp only [List.length_map] at *); omega,by (try simp only [List.length_map] at *); omega,trivial⟩,trivial,⟨by (try simp only [List.length_map] at *); omega,by (try simp only [List.length_map] at *); omega,trivial⟩,⟨by (try simp only [List.length_map] at *); omega,trivial⟩,?_⟩
     refine ⟨trivial,(((((((b.getD (p % ((b.map u8V).length)) 0).toNat) * 131)+(((b.getD (((p * 7)+3) % ((b.map u8V).length)) 0).toNat) * 1117))+(p * 29))+((p / ((b.map u8V).length)) * 53)) ^^^ (((((((b.getD (p % ((b.map u8V).length)) 0).toNat) * 131)+(((b.getD (((p * 7)+3) % ((b.map u8V).length)) 0).toNat) * 1117))+(p * 29))+((p / ((b.map u8V).length)) * 53)) / 64)) % n,?_,?_,?_⟩
     · try dsimp only
       exact .inr (Nat.mod_lt _ (by omega))
     · first | rfl | simp_all
     · first | exact ⟨rfl,trivial⟩ | trivial | simp_all
def pick_c (b:List UInt8) (p:Nat) (g:Nat) (n:Nat):ConX Tryz.prog:={ X:=Nat,f:=55,args:=[.ptr (.key 1000) [] g 0,iN n],H:=[(1000,(g,.agg [.sl false (b.map u8V),iN p]))],pre:=(b.length≤2000)∧(p≤1000000)∧(n≤1000000),post:=fun x=>n=0∧x=0∨x < n,res:=fun x=>iN x,H':=fun x=>[(1000,(g,.agg [.sl false (b.map u8V),iN (p+1)]))],ok:=fun h=>pick_ok b p g n h.1 h.2.1 h.2.2 }
theorem of_ok (b:List UInt8) (p g:Nat) (l:List (List UInt8)) (hb:b.length≤2000) (hp:p≤1000000) (hl:1≤l.length) (hn:l.length≤1000):PF Tryz.prog 56 [.ptr (.key 1000) [] g 0,.sl false (l.map sV)] [(1000,(g,.agg [.sl false (b.map u8V),iN p]))] (fun r h=> ∃ x:List UInt8,(x∈l)∧r=(sV x)∧h=[(1000,(g,.agg [.sl false (b.map u8V),iN (p+1)]))]):=by
 refine PF_go (N:=12) (rs:=[.tmp 4]) (X:=List UInt8) (post:=fun x=>x∈l) (E:=fun x=>sV x) (H':=fun x=>[(1000,(g,.agg [.sl false (b.map u8V),iN (p+1)]))]) Tryz.func56 (by kernel_rfl) rfl rfl rfl (by kernel_rfl) [(1000,(0,.dead))] (by intro _ k hk; simpa [lk] using hk)
  (.r 1 [] <| .r 4 [] <| .h (.eqt 8 (iN l.length)) <| .cx (pick_c b p g l.length) [(1000,1000)] (fun (x1_4:Nat)=>.r 3 [sV (l.getD x1_4 [])] <| .nil))
  (True∧True∧Q (iN ((l.map sV).length)) (iN l.length)∧(pick_c b p g l.length).sm∧(((((g,.agg [.sl false (b.map u8V),iN p])):Nat×V)=(g,.agg [.sl false (b.map u8V),iN p]))∧True)∧((b.length≤2000)∧(p≤1000000)∧(l.length≤1000000))∧∀ x1_4:Nat,(l.length=0∧x1_4=0∨x1_4 < l.length)→(Ex (x1_4:Int) (l.map sV) (sV (l.getD x1_4 []))∧True∧True)∧True∧∃ x:List UInt8,(x∈l)∧Q (sV (l.getD x1_4 [])) (sV x)∧(Er g (.agg [.sl false (b.map u8V),iN (p+1)])∧True))
  (by kernel_rfl) ?_
 refine ⟨trivial,trivial,by simp [Q],rfl,⟨rfl,trivial⟩,⟨by first | assumption | omega | (simp; omega),by first | assumption | omega | (simp; omega),by first | assumption | omega | (simp; omega)⟩,?_⟩
 intro x1_4 hx1_4
 refine ⟨⟨ex_s (by omega),trivial,trivial⟩,?_⟩
 refine ⟨trivial,l.getD x1_4 [],?_,?_,?_⟩
 · try dsimp only
   rw [List.getD_eq_getElem?_getD,List.getElem?_eq_getElem (by omega)]; simp
 · first | rfl | simp_all
 · first | exact ⟨rfl,trivial⟩ | trivial | simp_all
def of_c (b:List UInt8) (p:Nat) (g:Nat) (l:List (List UInt8)):ConX Tryz.prog:={ X:=List UInt8,f:=56,args:=[.ptr (.key 1000) [] g 0,.sl false (l.map sV)],H:=[(1000,(g,.agg [.sl false (b.map u8V),iN p]))],pre:=(b.length≤2000)∧(p≤1000000)∧(1≤l.length)∧(l.length≤1000),post:=fun x=>x∈l,res:=fun x=>sV x,H':=fun x=>[(1000,(g,.agg [.sl false (b.map u8V),iN (p+1)]))],ok:=fun h=>of_ok b p g l h.1 h.2.1 h.2.2.1 h.2.2.2 }
theorem l71Rule_ok (b:List UInt8) (p g:Nat) (hb:b.length≤2000) (hp:p≤1000000):PF Tryz.prog 163 [.ptr (.key 1000) [] g 0] [(1000,(g,.agg [.sl false (b.map u8V),iN p]))] (fun r h=> ∃ x:List UInt8,(x∈ruleL)∧r=(sV x)∧h=[(1000,(g,.agg [.sl false (b.map u8V),iN (p+1)]))]):=by
 refine PF_go (N:=6) (rs:=[.tmp 2]) (X:=List UInt8) (post:=fun x=>x∈ruleL) (E:=fun x=>sV x) (H':=fun x=>[(1000,(g,.agg [.sl false (b.map u8V),iN (p+1)]))]) Tryz.func163 (by kernel_rfl) rfl rfl rfl (by kernel_rfl) [(1000,(0,.dead))] (by intro _ k hk; simpa [lk] using hk)
  (.r 1 [] <| .r 1 [] <| .bs <| .cx (of_c b p g ([([47]:List UInt8),([47,97]:List UInt8),([47,98]:List UInt8),([47,97,47]:List UInt8),([47,42,98]:List UInt8),([47,97,36]:List UInt8),([47,99]:List UInt8),([47,42,63]:List UInt8),([47,97,47,98]:List UInt8),([47,42,47,98,36]:List UInt8),([47,36]:List UInt8),([47,98,42,99]:List UInt8),([47,110,111,116,105,99,101]:List UInt8),([47,42]:List UInt8)]:List (List UInt8))) [(1000,1000)] (fun (x1_2:List UInt8)=>.r 1 [] <| .nil))
  ((fun v1:List UInt8=>(fun v2:List UInt8=>(fun v3:List UInt8=>(fun v4:List UInt8=>(fun v5:List UInt8=>(fun v6:List UInt8=>(fun v7:List UInt8=>(fun v8:List UInt8=>(fun v9:List UInt8=>(fun v10:List UInt8=>(fun v11:List UInt8=>(fun v12:List UInt8=>(fun v13:List UInt8=>(fun v14:List UInt8=>(True∧True∧(of_c b p g ([v14,v9,v10,v5,v6,v7,v11,v8,v3,v2,v12,v4,v1,v13]:List (List UInt8))).sm∧(((((g,.agg [.sl false (b.map u8V),iN p])):Nat×V)=(g,.agg [.sl false (b.map u8V),iN p]))∧True)∧((b.length≤2000)∧(p≤1000000)∧(1≤([v14,v9,v10,v5,v6,v7,v11,v8,v3,v2,v12,v4,v1,v13]:List (List UInt8)).length)∧(([v14,v9,v10,v5,v6,v7,v11,v8,v3,v2,v12,v4,v1,v13]:List (List UInt8)).length≤1000))∧∀ x1_2:List UInt8,(x1_2∈([v14,v9,v10,v5,v6,v7,v11,v8,v3,v2,v12,v4,v1,v13]:List (List UInt8)))→True∧True∧∃ x:List UInt8,(x∈ruleL)∧Q (sV x1_2) (sV x)∧(Er g (.agg [.sl false (b.map u8V),iN (p+1)])∧True))) ([47]:List UInt8)) ([47,42]:List UInt8)) ([47,36]:List UInt8)) ([47,99]:List UInt8)) ([47,98]:List UInt8)) ([47,97]:List UInt8)) ([47,42,63]:List UInt8)) ([47,97,36]:List UInt8)) ([47,42,98]:List UInt8)) ([47,97,47]:List UInt8)) ([47,98,42,99]:List UInt8)) ([47,97,47,98]:List UInt8)) ([47,42,47,98,36]:List UInt8)) ([47,110,111,116,105,99,101]:List UInt8))
  (by kernel_rfl) ?_
 refine ⟨trivial,trivial,rfl,⟨rfl,trivial⟩,⟨by first | assumption | omega,by first | assumption | omega,by decide,by decide⟩,?_⟩
 intro x1_2 hx1_2
 refine ⟨trivial,?_⟩
 refine ⟨trivial,x1_2,?_,?_,?_⟩
 · try dsimp only
   assumption
 · first | rfl | simp_all
 · first | exact ⟨rfl,trivial⟩ | trivial | simp_all
def l71Rule_c (b:List UInt8) (p:Nat) (g:Nat):ConX Tryz.prog:={ X:=List UInt8,f:=163,args:=[.ptr (.key 1000) [] g 0],H:=[(1000,(g,.agg [.sl false (b.map u8V),iN p]))],pre:=(b.length≤2000)∧(p≤1000000),post:=fun x=>x∈ruleL,res:=fun x=>sV x,H':=fun x=>[(1000,(g,.agg [.sl false (b.map u8V),iN (p+1)]))],ok:=fun h=>l71Rule_ok b p g h.1 h.2 }
end Go.Proofs.YthliifpcaahnnaaGreatDoor
