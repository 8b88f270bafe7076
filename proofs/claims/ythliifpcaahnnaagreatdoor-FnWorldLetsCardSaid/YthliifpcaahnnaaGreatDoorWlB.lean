/-
  laws.FnWorldLets returns true for every slice of bytes and leaves it as it was; conditions: the listed tables lie as the program's text lays them.
-/
import Derived.Test.YthliifpcaahnnaaGreatDoorWlA
import Derived.Laws.BytesString
import Derived.Lib.ConvBytes
import Derived.Lib.MinMax
import Derived.Scope
set_option linter.unusedVariables false
set_option linter.unusedSimpArgs false
set_option linter.unnecessarySimpa false
set_option linter.unusedSectionVars false
namespace Go.Abs
open Go Go.RowKit
section
variable {P:Program} {N:Nat} {ops:Array Oper} {A A':AS}
theorem RV_of0 {w:World} {Pb:Nat→Prop} {v:V} {x:Value} {F:List Nat} (h:RV0 w Pb v x F):RV w Pb v x F:=by
  cases v with
  | gv b u=>simp [RV0,R] at h
  | _=>exact h
def V.isGv:V→Bool | .gv _ _=>true | _=>false
theorem RV0_of {w:World} {Pb:Nat→Prop} {v:V} {x:Value} {F:List Nat} (h:RV w Pb v x F) (hn:v.isGv=false):RV0 w Pb v x F:=by
  cases v with
  | gv b u=>simp [V.isGv] at hn
  | _=>exact h
theorem put_self {a:Act} {t:Nat}:a.put (some t) (a.tmps.getD t undef)=a:=by
  cases a with
  | mk tmps defers=>
    simp only [Act.put]
    congr 1
    apply Array.ext_getElem?
    intro i
    by_cases e:t=i
    · subst e
      by_cases h:t < tmps.size
      · simp [h,Array.getElem?_setIfInBounds_self]
      · simp [h,Array.getElem?_setIfInBounds]
    · rw [Array.getElem?_setIfInBounds_ne e]
def guardC (G b:Bool) (v:V):Prop:=match v.owns||v.isGv with
  | false=>G=true→b=true
  | true=>False
theorem guardC_of {G b:Bool} {v:V} (h:guardC G b v) (hG:G=true):b=true∧v.owns=false∧v.isGv=false:=by
  unfold guardC at h
  split at h
  · rename_i e; rw [Bool.or_eq_false_iff] at e; exact ⟨h hG,e.1,e.2⟩
  · exact h.elim
def AS.un (G:Bool):List Operand→AS→Prop×AS
  | [],A=>(True,A)
  | .tmp t :: r,A=>match A.get t with
    | .gv b v=>match AS.un G r (A.put (some t) v) with
      | (C,B)=>(guardC G b v∧C,B)
    | _=>AS.un G r A
  | _ :: r,A=>AS.un G r A
theorem un_sound {w:World} {Pb Kb:Nat→Prop} {a:Act} {G:Bool} (hG:G=true):∀ (xs:List Operand) {A B:AS} {F:Root→List Nat} {C:Prop},AS.un G xs A=(C,B)→C→SIM N Pb Kb A a w F→(∀ t,Operand.tmp t∈xs→t < N)→∃ F',SIM N Pb Kb B a w F'
  | [],A,B,F,C,h,hC,hs,_=>by simp only [AS.un,Prod.mk.injEq] at h; obtain ⟨_,rfl⟩:=h; exact ⟨F,hs⟩
  | x :: xs,A,B,F,C,h,hC,hs,hN=>by
    have hN':∀ t,Operand.tmp t∈xs→t < N:=fun t ht=>hN t (by simp [ht])
    cases x with
    | tmp t=>
      simp only [AS.un] at h
      split at h
      · rename_i b v hg
        cases hu:AS.un G xs (A.put (some t) v) with
        | mk C1 B1=>
          rw [hu] at h
          simp only [Prod.mk.injEq] at h
          obtain ⟨rfl,rfl⟩:=h
          have hr:=hs.slot t
          rw [hg] at hr
          have hs':=hs.put (d:=t) (v:=v) (x:=a.tmps.getD t undef) (F':=[]) (hN t (by simp)) (RV_of0 (hr.2.1 (guardC_of hC.1 hG).1)) (by simp) (by simp) (by simp)
          rw [put_self] at hs'
          exact un_sound hG xs hu hC.2 hs' hN'
      · exact un_sound hG xs h hC hs hN'
    | _=>exact un_sound hG xs h hC hs hN'
def wraps (A B:AS):Prop:=(∀ i,A.get i=B.get i∨∃ b,A.get i=.gv b (B.get i)∧b=true∧(B.get i).owns=false∧(B.get i).isGv=false)∧A.h=B.h
theorem SIM.wrap {w:World} {Pb Kb:Nat→Prop} {a:Act} {F:Root→List Nat} {B:AS} (hs:SIM N Pb Kb B a w F) (h:wraps A B):SIM N Pb Kb A a w F where
  size:=hs.size
  defers:=hs.defers
  slot:=fun i=>by
    rcases h.1 i with e | ⟨b,e,hb,ho,hg⟩
    · rw [e]; exact hs.slot i
    · have hr:=hs.slot i
      rw [e]
      have hF:=RV_owns ho hr
      rw [hF] at hr ⊢
      exact ⟨rfl,fun _=>RV0_of hr hg,fun c=>by rw [hb] at c; cases c⟩
  root:=fun k g v hk=>hs.root k g v (by rw [← h.2]; exact hk)
  disj:=hs.disj
  nodup:=hs.nodup
  free:=hs.free
  sub:=hs.sub
  bound:=hs.bound
theorem un_wraps {G:Bool} (hG:G=true):∀ (xs:List Operand) {A B:AS} {C:Prop},AS.un G xs A=(C,B)→C→wraps A B
  | [],A,B,C,h,hC=>by simp only [AS.un,Prod.mk.injEq] at h; obtain ⟨_,rfl⟩:=h; exact ⟨fun _=>.inl rfl,rfl⟩
  | x :: xs,A,B,C,h,hC=>by
    cases x with
    | tmp t =>
      simp only [AS.un] at h
      split at h
      · rename_i b v hg
        cases hu:AS.un G xs (A.put (some t) v) with
        | mk C1 B1=>
          rw [hu] at h
          simp only [Prod.mk.injEq] at h
          obtain ⟨rfl,rfl⟩:=h
          obtain ⟨k1,k2⟩:=un_wraps hG xs hu hC.2
          obtain ⟨hb,ho,hv⟩:=guardC_of hC.1 hG
          refine ⟨fun i=>?_,k2⟩
          have:=k1 i
          rw [AS.get_put] at this
          by_cases e:i=t
          · subst e
            rw [if_pos rfl] at this
            rcases this with e' | ⟨b',e',_⟩
            · exact .inr ⟨b,by rw [hg,← e'],hb,by rw [← e']; exact ho,by rw [← e']; exact hv⟩
            · rw [e'] at hv; simp [V.isGv] at hv
          · rw [if_neg e] at this; exact this
      · exact un_wraps hG xs h hC
    | _=>exact un_wraps hG xs h hC
def gdV (A:AS) (ops:Array Oper) (j:Nat) (b:Bool):Option Bool:=
  match ((ops[j]?).bind (·.dst)).map A.get with
  | some (.lit (.bool g))=>some (g==b)
  | some (.gv c (.lit (.bool g)))=>some (c&&(g==b))
  | _=>none
theorem gd_of {A:AS} {o:Oper} {j:Nat} {b G:Bool} {x y:Prop} (hg:o.guard=some (j,b)) (h:gdV A ops j b=some G) (hx:G=true→x) (hy:G=false→y):gd ops o A x y:=by
  unfold gdV at h
  unfold gd
  rw [hg]
  simp only
  split at h
  · rename_i g e
    rw [e]
    simp only [Option.some.injEq] at h ⊢
    subst h
    split
    · rename_i e'; exact hx (by simp [e'])
    · rename_i e'; exact hy (by simp [e'])
  · rename_i c g e
    rw [e]
    simp only [Option.some.injEq] at h ⊢
    subst h
    split
    · rename_i e'; exact hx e'
    · rename_i e'; exact hy (by simpa using e')
  · simp at h
def okT (N:Nat):List Operand→Bool
  | []=>true
  | .tmp t :: r=>decide (t < N)&&okT N r
  | _ :: r=>okT N r
theorem okT_of:∀ {xs:List Operand},okT N xs=true→∀ t,Operand.tmp t∈xs→t < N
  | [],_,t,ht=>by simp at ht
  | x :: xs,h,t,ht=>by
    cases x with
    | tmp t'=>
      simp only [okT,Bool.and_eq_true,decide_eq_true_eq] at h
      simp only [List.mem_cons] at ht
      rcases ht with e | ht
      · injection e with e; subst e; exact h.1
      · exact okT_of h.2 t ht
    | _=>
      simp only [List.mem_cons,reduceCtorEq,false_or] at ht
      exact okT_of (xs:=xs) (by simpa [okT] using h) t ht
theorem WL_guard {o:Oper} {l:List Oper} {K:AS→Prop} {j:Nat} {b G:Bool} {C C':Prop} {B:AS} {v:V} {xs:List Operand} (hg:o.guard=some (j,b)) (hG:gdV A ops j b=some G) (hu:AS.un G xs A=(C,B))
    (hst:stX P B o.op=some (C',v)) (hok:okT N xs=true) (hd:dstOk N o.dst) (hC:G=true→C∧C'∧v.isGv=false)
    (hK:WL P N ops l (A.put o.dst (.gv G v)) K):WL P N ops (o :: l) A K:=by
  refine gd_of hg hG (fun hGt=>?_) (fun hGf=>?_)
  · obtain ⟨h1,h2,h3⟩:=hC hGt
    refine opT_value (v:=.gv G v) hd hK fun Pb Kb a w F hs=>?_
    obtain ⟨F',hs'⟩:=un_sound hGt _ hu h1 hs (okT_of hok)
    obtain ⟨x,hx,hr⟩:=stX_run hst h2 hs' rfl
    exact ⟨x,hx,rfl,fun _=>RV0_of hr h3,fun h=>by rw [hGt] at h; cases h⟩
  · exact ⟨hd,.gv G v,fun _ _=>⟨rfl,(fun h=>by rw [hGf] at h; cases h),fun _=>rfl⟩,hK⟩
theorem ev_congr {x:Operand} (h:∀ t,x=.tmp t→A'.get t=A.get t):A'.ev x=A.ev x:=by
  cases x with
  | tmp t=>exact h t rfl
  | _=>rfl
theorem cp_congr {x:Operand} (h:∀ t,x=.tmp t→A'.get t=A.get t):A'.cp x=A.cp x:=by
  cases x with
  | tmp t=>simp only [AS.cp,h t rfl]
  | _=>rfl
def rootFree (ops:Array Oper) (A:AS):Op→Bool
  | .load _ x=>match A.ev x with
    | .ptr (.slot i) _ _ _=>ops.toList.all fun o=>o.dst != some i
    | _=>true
  | _=>true
theorem lmap_congr {x:Option Operand} (h:∀ t,x=some (.tmp t)→A'.get t=A.get t):x.map A'.ev=x.map A.ev:=by
  cases x with
  | none=>rfl
  | some y=>simp only [Option.map_some,ev_congr (x:=y) fun t e=>h t (by rw [e])]
theorem stX_congr {op:Op} (h:∀ t,Operand.tmp t∈op.operands.toList→A'.get t=A.get t) (hk:∀ k,lk k A'.h=lk k A.h) (hr:∀ i,rootFree ops A op=true→(∀ o∈ops.toList,o.dst≠some i)→A'.get i=A.get i)
    (hf:rootFree ops A op=true):stX P A' op=stX P A op:=by
  cases op with
  | move x=>simp only [stX,stV,moveV,cp_congr (x:=x) fun t e=>h t (by simp [Op.operands,e]),ev_congr (x:=x) fun t e=>h t (by simp [Op.operands,e])]
  | pick c a b=>
    have h1:=ev_congr (x:=c) fun t e=>h t (by simp [Op.operands,e])
    have h2:=ev_congr (x:=a) fun t e=>h t (by simp [Op.operands,e])
    have h3:=ev_congr (x:=b) fun t e=>h t (by simp [Op.operands,e])
    simp only [stX,stV,pickV,h1,h2,h3]
  | binOp op T x y T'=>simp only [stX,stV,ev_congr (x:=x) fun t e=>h t (by simp [Op.operands,e]),ev_congr (x:=y) fun t e=>h t (by simp [Op.operands,e])]
  | unOp op T x=>simp only [stX,stV,ev_congr (x:=x) fun t e=>h t (by simp [Op.operands,e])]
  | convert s d x=>simp only [stX,stV,ev_congr (x:=x) fun t e=>h t (by simp [Op.operands,e])]
  | index T x y=>simp only [stX,stV,ev_congr (x:=x) fun t e=>h t (by simp [Op.operands,e]),ev_congr (x:=y) fun t e=>h t (by simp [Op.operands,e])]
  | slice T x lo hi m=>
    have h1:=ev_congr (x:=x) fun t e=>h t (by simp [Op.operands,e])
    have h2:=lmap_congr (x:=lo) fun t e=>h t (by simp [Op.operands,e])
    have h3:=lmap_congr (x:=hi) fun t e=>h t (by simp [Op.operands,e])
    cases m with
    | none=>simp only [stX,h1,h2,h3]
    | some m=>rfl
  | extract x i=>simp only [stX,stV,ev_congr (x:=x) fun t e=>h t (by simp [Op.operands,e])]
  | call c=>
    simp only [stX,stV,callV]
    split
    · split
      · rename_i x T hx _
        rw [ev_congr (x:=x) fun t e=>h t (by simp [Op.operands,Call.operands,hx,e])]
      · rfl
    · rfl
  | fieldAddr T x j=>simp only [stX,ev_congr (x:=x) fun t e=>h t (by simp [Op.operands,e])]
  | field T x j=>simp only [stX,cp_congr (x:=x) fun t e=>h t (by simp [Op.operands,e])]
  | indexAddr T x y=>simp only [stX,ev_congr (x:=x) fun t e=>h t (by simp [Op.operands,e]),ev_congr (x:=y) fun t e=>h t (by simp [Op.operands,e])]
  | load T x=>
    have h1:=ev_congr (x:=x) fun t e=>h t (by simp [Op.operands,e])
    simp only [stX,h1,loadV]
    split
    · split
      · rename_i r p g o e
        have:A'.at r p=A.at r p:=by
          unfold AS.at
          cases r with
          | key k=>simp only [hk]
          | slot i=>
            have hf':=hf
            simp only [rootFree,e,List.all_eq_true,bne_iff_ne] at hf'
            simp only [hr i hf hf']
        rw [this]
      · rfl
      · rfl
    · rfl
  | nilCheck x=>simp only [stX,ev_congr (x:=x) fun t e=>h t (by simp [Op.operands,e])]
  | makeInterface T x=>simp only [stX,cp_congr (x:=x) fun t e=>h t (by simp [Op.operands,e])]
  | typeAssert x xT T b=>
    cases b with
    | true=>simp only [stX,ev_congr (x:=x) fun t e=>h t (by simp [Op.operands,e])]
    | false=>rfl
  | makeFunc fn p q=>
    have e1:p.toList.map A'.ev=p.toList.map A.ev:=List.map_congr_left fun x hx=>ev_congr fun t e=>h t (by subst e; simp only [Op.operands,Array.toList_append,List.mem_append]; exact .inl hx)
    have e2:q.toList.map A'.ev=q.toList.map A.ev:=List.map_congr_left fun x hx=>ev_congr fun t e=>h t (by subst e; simp only [Op.operands,Array.toList_append,List.mem_append]; exact .inr hx)
    simp only [stX,e1,e2]
  | _=>rfl
theorem un_congr {G:Bool}:∀ (xs:List Operand) {A A' B:AS} {C:Prop},AS.un G xs A=(C,B)→(∀ t,Operand.tmp t∈xs→A'.get t=A.get t)→
    ∃ B',AS.un G xs A'=(C,B')∧(∀ t,A'.get t=A.get t→B'.get t=B.get t)∧B'.h=A'.h∧B.h=A.h
  | [],A,A',B,C,h,_=>by
    simp only [AS.un,Prod.mk.injEq] at h; obtain ⟨rfl,rfl⟩:=h
    exact ⟨A',rfl,fun _ h=>h,rfl,rfl⟩
  | x :: xs,A,A',B,C,h,hx=>by
    have hx':∀ t,Operand.tmp t∈xs→A'.get t=A.get t:=fun t ht=>hx t (by simp [ht])
    cases x with
    | tmp t =>
      have ht:=hx t (by simp)
      simp only [AS.un] at h ⊢
      rw [ht]
      split at h
      · rename_i b v hg
        cases hu:AS.un G xs (A.put (some t) v) with
        | mk C1 B1=>
          rw [hu] at h
          simp only [Prod.mk.injEq] at h
          obtain ⟨rfl,rfl⟩:=h
          obtain ⟨B',k1,k2,k3,k4⟩:=un_congr xs (A':=A'.put (some t) v) hu (fun t' ht'=>by
            rw [AS.get_put,AS.get_put]; split
            · rfl
            · exact hx' t' ht')
          refine ⟨B',by simp only [k1],fun t' ht'=>k2 t' ?_,by rw [k3]; rfl,by rw [k4]; rfl⟩
          rw [AS.get_put,AS.get_put]; split
          · rfl
          · exact ht'
      · exact un_congr xs h hx'
    | const c=>exact un_congr xs h hx'
    | global g=>exact un_congr xs h hx'
    | func f=>exact un_congr xs h hx'
theorem OpDet_guard {o:Oper} {xs:List Operand} {j:Nat} {b G:Bool} {C:Prop} {B:AS} {v:V} (hg:o.guard=some (j,b)) (hG:gdV A ops j b=some G) (hu:AS.un G xs A=(C,B))
    (hxs:∀ t,Operand.tmp t∈xs→Operand.tmp t∈o.op.operands.toList) (hok:okT N xs=true) (hd:dstOk N o.dst) (hf:rootFree ops B o.op=true) (hC:G=true→C∧v.isGv=false∧∃ C',stX P B o.op=some (C',v)∧C'):OpDet P N ops o A (.gv G v):=by
  intro A' h1 hk
  have hlk:∀ t,Operand.tmp t∈o.op.operands.toList→t∈o.looksAt ops:=fun t ht=>by unfold Oper.looksAt; rw [List.mem_append]; exact .inl (List.mem_filterMap.2 ⟨_,ht,rfl⟩)
  have hG':gdV A' ops j b=some G:=by
    rw [← hG]
    unfold gdV
    cases hj:(ops[j]?).bind (·.dst) with
    | none=>rfl
    | some d=>
      simp only [Option.map_some]
      rw [h1 d (.inl (by unfold Oper.looksAt; rw [List.mem_append]; right; rw [hg]; simp [hj]))]
  obtain ⟨B',k1,k2,k3,k4⟩:=un_congr xs (A':=A') hu (fun t ht=>h1 t (.inl (hlk t (hxs t ht))))
  have hst':stX P B' o.op=stX P B o.op:=by
    rw [stX_congr (ops:=ops) (A:=B) (fun t ht=>k2 t (h1 t (.inl (hlk t ht)))) (fun k=>by rw [k3,k4]; exact hk k) (fun i _ hi=>k2 i (h1 i (.inr hi))) hf]
  refine gd_of hg hG' (fun hGt=>?_) (fun hGf=>⟨hd,fun _ _=>⟨rfl,(fun h=>by rw [hGf] at h; cases h),fun _=>rfl⟩⟩)
  obtain ⟨c1,c3,C',hst,c2⟩:=hC hGt
  rw [← hst'] at hst
  refine opT_value (v:=.gv G v) hd ⟨fun _=>rfl,fun _=>rfl⟩ fun Pb Kb a w F hs=>?_
  obtain ⟨F',hs'⟩:=un_sound hGt _ k1 c1 hs (okT_of hok)
  obtain ⟨x,hx,hr⟩:=stX_run hst c2 hs' rfl
  exact ⟨x,hx,rfl,fun _=>RV0_of hr c3,fun h=>by rw [hGt] at h; cases h⟩
theorem DW_cons {o:Oper} {l:List Oper} {v:V} {K:AS→Prop} (h:OpDet P N ops o A v) (hK:DW P N ops l (A.put o.dst v) K):DW P N ops (o :: l) A K:=by
  obtain ⟨vs,h1,h2⟩:=hK
  exact ⟨v :: vs,⟨v,vs,rfl,h,h1⟩,h2⟩
theorem DW_nil {K:AS→Prop} (h:K A):DW P N ops [] A K:=⟨[],rfl,h⟩
theorem OpDet_stX {o:Oper} {C:Prop} {v:V} (hg:o.guard=none) (h:stX P A o.op=some (C,v)) (hC:C) (hd:dstOk N o.dst) (hf:rootFree ops A o.op=true):OpDet P N ops o A v:=by
  intro A' h1 hk
  unfold gd
  rw [hg]
  simp only
  refine opT_stX (C:=C) (v:=v) ?_ hC hd ⟨fun _=>rfl,fun _=>rfl⟩
  rw [stX_congr (ops:=ops) (A:=A) (fun t ht=>h1 t (.inl (by unfold Oper.looksAt; rw [List.mem_append]; exact .inl (List.mem_filterMap.2 ⟨_,ht,rfl⟩)))) hk (fun i _ hi=>h1 i (.inr hi)) hf]
  exact h
theorem looks_op {o:Oper} {t:Nat} (h:Operand.tmp t∈o.op.operands.toList):t∈o.looksAt ops:=by
  unfold Oper.looksAt; rw [List.mem_append]; exact .inl (List.mem_filterMap.2 ⟨_,h,rfl⟩)
theorem OpDet_assign {o:Oper} {x:Operand} (hg:o.guard=none) (ho:o.op=.assign x) (hd:dstOk N o.dst) (hn:(A.ev x).owns=false):OpDet P N ops o A (A.ev x):=by
  intro A' h1 hk
  unfold gd
  rw [hg]
  simp only
  have e:A'.ev x=A.ev x:=ev_congr fun t ht=>h1 t (.inl (looks_op (by rw [ho,ht]; simp [Op.operands])))
  refine opT_assign ho hd ?_
  have hdr:A'.drop x=A':=by
    cases x with
    | tmp t=>
      have:A'.get t=A.get t:=e
      have hn':(A'.get t).owns=false:=by rw [this]; exact hn
      simp [AS.drop,hn']
    | _=>rfl
  rw [hdr,e]
  exact ⟨fun _=>rfl,fun _=>rfl⟩
theorem map_cp_congr {xs:List Operand} (h:∀ t,Operand.tmp t∈xs→A'.get t=A.get t):xs.map A'.cp=xs.map A.cp:=by
  apply List.map_congr_left
  intro x hx
  exact cp_congr fun t e=>h t (by rw [← e]; exact hx)
theorem DW_call {K:AS→Prop} {d:Option Nat} {f:FuncId} {xs:Array Operand} {tys:Array TypeId} {ty:TypeId} {pos:String} {after:Array Edge} {rest:List Oper}
    {Q:V→Prop} {E:V} (hd:dstOk N d) (hc:PC P f (xs.toList.map A.cp) Q) (hE:∀ r,Q r→r.er=E) (hK:DW P N ops rest (A.put d E) K):
    DW P N ops (⟨d,.call { callee:=.value (.func f),args:=xs,argTypes:=tys },ty,pos,after,none⟩ :: rest) A K:=by
  refine DW_cons (v:=E) (fun A' h1 hk=>?_) hK
  unfold gd
  refine opT_call_er rfl hd ?_ hE ⟨fun _=>rfl,fun _=>rfl⟩
  rw [map_cp_congr fun t ht=>h1 t (.inl (looks_op (by simp [Op.operands,Call.operands]; simpa using ht)))]
  exact hc
end
end Go.Abs
namespace Go.Abs
open Go Go.RowKit
section
variable {P:Program} {N:Nat} {ops:Array Oper} {A A':AS}
theorem PC.er {f:FuncId} {L:List V} {Q:V→Prop} (h:PC P f L Q):PC P f L (fun r=> ∃ r',Q r'∧r=r'.er):=by
  refine ⟨h.1,fun w Pb cargs h1 h2=>(h.2 w Pb cargs h1 h2).mono ?_⟩
  rintro e w' ⟨r,x,F,Pb',rfl,q,hr,hnd,hF,k1,k2,hb⟩
  refine ⟨r.er,x,[],fun g=>Pb' g∨g∈F,rfl,⟨r,q,rfl⟩,RV_er hr (fun g hg=>.inl hg) (fun g hg=>.inr hg),List.nodup_nil,by simp,fun g hg=>.inl (k1 g hg),fun g hg=>?_,hb⟩
  rcases hg with hg | hg
  · exact k2 g hg
  · exact .inr ⟨(hF g hg).1,(hF g hg).2.1⟩
theorem WL_callG {K:AS→Prop} {d:Option Nat} {f:FuncId} {xs:Array Operand} {tys:Array TypeId} {ty:TypeId} {pos:String} {after:Array Edge} {rest:List Oper}
    {j:Nat} {b G:Bool} {C:Prop} {B:AS} {L:List V} {E:V} (hd:dstOk N d) (hG:gdV A ops j b=some G) (hu:AS.un G xs.toList A=(C,B)) (hok:okT N xs.toList=true)
    (hL:xs.toList.map B.cp=L) (hc:G=true→C∧PC P f L (fun r=>r.er=E)∧E.isGv=false∧E.owns=false) (hK:WL P N ops rest (A.put d (.gv G E)) K):
    WL P N ops (⟨d,.call { callee:=.value (.func f),args:=xs,argTypes:=tys },ty,pos,after,some (j,b)⟩ :: rest) A K:=by
  subst hL
  refine gd_of (j:=j) (b:=b) rfl hG (fun hGt=>?_) (fun hGf=>⟨hd,.gv G E,fun _ _=>⟨rfl,(fun h=>by rw [hGf] at h; cases h),fun _=>rfl⟩,hK⟩)
  obtain ⟨h1,h2,h3,h4⟩:=hc hGt
  intro Pb Kb a w F Q' hs
  obtain ⟨F',hs'⟩:=un_sound hGt _ hu h1 hs (okT_of hok)
  have hw:=un_wraps hGt _ hu h1
  have hcall:=opT_call_er (N:=N) (o:=⟨d,.call { callee:=.value (.func f),args:=xs,argTypes:=tys },ty,pos,after,some (j,b)⟩) (K:=fun A'=>A'=B.put d E) (A:=B) rfl hd h2 (fun _ h=>h) rfl
  refine Oper.wp_mono ?_ (hcall Pb Kb a w F' Q' hs')
  rintro a' w' ⟨A',Pb',Kb',F2,rfl,hs2,k3,k4,k5,k6⟩
  refine ⟨_,Pb',Kb',F2,hK,hs2.wrap ?_,k3,k4,k5,k6⟩
  cases d with
  | none=>exact hw
  | some d=>
    refine ⟨fun i=>?_,hw.2⟩
    rw [AS.get_put,AS.get_put]
    by_cases e:i=d
    · rw [if_pos e,if_pos e]; exact .inr ⟨G,rfl,hGt,h4,h3⟩
    · rw [if_neg e,if_neg e]; exact hw.1 i
end
end Go.Abs
namespace Go.Abs
open Go Go.RowKit
def strY (op:BinOp) (a b:List UInt8):Option (Prop×V):=
  match op with
  | .add=>some (a.length+b.length≤4611686018427387904,.lit (.string (Str (a++b))))
  | .eql=>some (True,.lit (.bool (a==b)))
  | .neq=>some (True,.lit (.bool (!(a==b))))
  | _=>none
def binY (op:BinOp) (d:Option D) (x y:V):Option (Prop×V):=
  match d,x,y with
  | some .str,.lit (.string a),.lit (.string b)=>strY op a.data.toList b.data.toList
  | d,x,y=>binT op d x y
def idxY:Option D→V→V→Option (Prop×V)
  | some .str,.lit (.string s),.lit (.int _ i)=>some (0≤i∧i < s.data.toList.length,.lit (.int .u8 (s.data.toList.getD i.toNat 0).toNat))
  | _,_,_=>none
def slcYS (s:List UInt8) (lo hi:Option V):Option (Prop×V):=
  match loI lo,hiI s.length hi with
  | some l,some h=>some (0≤l∧l≤h∧h≤s.length,.lit (.string (Str ((s.take h.toNat).drop l.toNat))))
  | _,_=>none
def slcY (x:V) (lo hi:Option V):Option (Prop×V):=
  match x with
  | .lit (.string s)=>slcYS s.data.toList lo hi
  | _=>none
def lenY:Option D→V→Option (Prop×V)
  | some .str,.lit (.string s)=>some (True,.lit (.int .i64 s.data.toList.length))
  | d,x=>lenV d x
def callY (P:Program) (A:AS) (c:Call):Option (Prop×V):=
  match c.callee with
  | .builtin .len=>match c.args.toList,c.argTypes.toList with
    | [x],[T]=>lenY (tD P T) (A.ev x)
    | _,_=>none
  | _=>none
def fieldY (P:Program) (d:Option D) (x:V) (j:Nat):Option (Prop×V):=
  match d with
  | some (.st fs)=>match fs[j]? with
    | some (off,T)=>match ti P T with
      | some i=>match x with
        | .agg vs=>match vs[j]? with
          | some v=>if (V.ns (vs.take j)==off&&(i.sz==v.n&&i.d.agg==v.isAgg))=true then some (True,v) else none
          | none=>none
        | _=>none
      | none=>none
    | none=>none
  | _=>none
def fieldAddrY (P:Program) (d:Option D) (x:V) (j:Nat):Option (Prop×V):=
  match d with
  | some (.st fs)=>match fs[j]? with
    | some (off,T)=>match ti P T with
      | some i=>match x with
        | .ptr r p g o=>if (i.sz != 0)=true then some (True,.ptr r (p++[j]) g (o+off)) else none
        | .ep (.agg vs)=>match vs[j]? with
          | some v=>if (i.sz != 0&&V.ns (vs.take j)==off)=true then some (True,.ep v) else none
          | none=>none
        | _=>none
      | none=>none
    | none=>none
  | _=>none
def loadY (A:AS) (i:Option TI) (x:V) (orc:List V):Option (Prop×V×List V):=
  match i with
  | some i=>match x with
    | .ptr r p g o=>match orc with
      | []=>none
      | .dead :: orc=>match A.at r p with
        | some (g',o',v)=>if (v.n==i.sz&&i.d.agg==v.isAgg)=true then some ((g',o')=(g,o),v.cpy r p,orc) else none
        | none=>none
      | v :: orc=>if (v.n==i.sz&&i.d.agg==v.isAgg)=true then some (A.at r p=some (g,o,v),v.cpy r p,orc) else none
    | .ep v=>if (v.n==i.sz&&i.d.agg==v.isAgg)=true then some (True,v,orc) else none
    | _=>none
  | none=>none
def indexAddrY (P:Program) (d:Option D) (x i:V) (orc:List V):Option (Prop×V×List V):=
  match d,i with
  | some (.sl e),.lit (.int _ i)=>match ti P e with
    | some t=>match x with
      | .sl _ xs=>match orc with
        | v :: orc=>if (v.n==t.sz)=true then some (0≤i∧xs[i.toNat]? =some v,.ep v,orc) else none
        | []=>none
      | .hd r p sz g o lo n _=>if (sz==t.sz)=true then some (0≤i∧i < n,.ptr r (p++[lo+i.toNat]) g (o+(lo+i.toNat) * sz),orc) else none
      | _=>none
    | none=>none
  | _,_=>none
def wO (orc:List V):Option (Prop×V)→Option (Prop×V×List V)
  | some (C,v)=>some (C,v,orc)
  | none=>none
def sY (P:Program) (A:AS) (op:Op) (orc:List V):Option (Prop×V×List V):=
  match op with
  | .binOp o T x y _=>wO orc (binY o (tD P T) (A.ev x) (A.ev y))
  | .index T x i=>wO orc (idxY (tD P T) (A.ev x) (A.ev i))
  | .slice T x lo hi none=>match tD P T with
    | some .str=>wO orc (slcY (A.ev x) (lo.map A.ev) (hi.map A.ev))
    | d=>wO orc (slcL P d (A.ev x) (lo.map A.ev) (hi.map A.ev))
  | .call c=>wO orc (callY P A c)
  | .field T x j=>wO orc (fieldY P (tD P T) (A.cp x) j)
  | .fieldAddr T x j=>wO orc (fieldAddrY P (tD P T) (A.ev x) j)
  | .load T x=>loadY A (ti P T) (A.ev x) orc
  | .indexAddr T x i=>indexAddrY P (tD P T) (A.ev x) (A.ev i) orc
  | op=>wO orc (stX P A op)
section
variable {P:Program} {N:Nat} {ops:Array Oper} {A A':AS}
theorem Str_data (s:ByteArray):Str s.data.toList=s:=by apply ByteArray.ext; simp [Str]
theorem wO_some {orc orc':List V} {x:Option (Prop×V)} {C:Prop} {v:V} (h:wO orc x=some (C,v,orc')):x=some (C,v):=by
  cases x with
  | none=>simp [wO] at h
  | some y=>obtain ⟨a,b⟩:=y; simp only [wO,Option.some.injEq,Prod.mk.injEq] at h; obtain ⟨rfl,rfl,_⟩:=h; rfl
theorem binY_ok {op:BinOp} {d:Option D} {x y:V} {C:Prop} {v:V} (h:binY op d x y=some (C,v)) (hC:C):∃ C',binT op d x y=some (C',v)∧C':=by
  unfold binY at h
  split at h
  · rename_i a b
    simp only [binT]
    cases op <;> simp only [strY,Option.some.injEq,Prod.mk.injEq,reduceCtorEq] at h <;> obtain ⟨rfl,rfl⟩:=h
    · refine ⟨a.size+b.size≤4611686018427387904,?_,by rw [Array.length_toList,Array.length_toList] at hC; exact hC⟩
      simp only [strV]; rw [← Str_app,Str_data,Str_data]
    · refine ⟨True,?_,trivial⟩
      simp only [strV,Lib.toList_data]
    · refine ⟨True,?_,trivial⟩
      simp only [strV,Lib.toList_data]
  · exact ⟨C,h,hC⟩
theorem sY_ok {op:Op} {orc orc':List V} {C:Prop} {v:V} (h:sY P A op orc=some (C,v,orc')) (hC:C):∃ C',stX P A op=some (C',v)∧C':=by
  unfold sY at h
  split at h
  · exact binY_ok (wO_some h) hC
  · rename_i T x i
    have h:=wO_some h
    unfold idxY at h
    split at h
    · rename_i s k i' e1 e2 e3
      simp only [Option.some.injEq,Prod.mk.injEq] at h
      obtain ⟨rfl,rfl⟩:=h
      refine ⟨0≤i'∧i' < s.size,?_,by rw [Array.length_toList] at hC; exact hC⟩
      simp only [stX,stV,idxV,e1,e2,e3]
      rw [← Str_data s,Str_bt]; rfl
    · simp at h
  · rename_i T x lo hi
    split at h
    · rename_i e
      have h:=wO_some h
      simp only [stX,e]
      unfold slcY at h
      split at h
      · rename_i s e'
        unfold slcYS at h
        split at h
        · rename_i l hh e1 e2
          simp only [Option.some.injEq,Prod.mk.injEq] at h
          obtain ⟨rfl,rfl⟩:=h
          have e2':hiI s.size (hi.map A.ev)=some hh:=by
            rw [← e2,Array.length_toList]; rfl
          refine ⟨0≤l∧l≤hh∧hh≤s.size,?_,by rw [Array.length_toList] at hC; exact hC⟩
          simp only [slcV,e',slcS,e1,e2']
          rw [← Str_ext,Str_data]
        · simp at h
      · simp at h
    · rename_i d hd
      have h:=wO_some h
      refine ⟨C,?_,hC⟩
      simp only [stX]
      exact h
  · rename_i c
    have h:=wO_some h
    unfold callY at h
    split at h
    · rename_i hc
      split at h
      · rename_i x T hx hT
        simp only [stX,stV,callV,hc,hx,hT]
        unfold lenY at h
        split at h
        · rename_i s e1 e2
          simp only [Option.some.injEq,Prod.mk.injEq] at h
          obtain ⟨rfl,rfl⟩:=h
          exact ⟨True,by simp only [lenV,e1,e2,ByteArray.size,Array.length_toList],trivial⟩
        · exact ⟨C,h,hC⟩
      · simp at h
    · simp at h
  · rename_i T x j
    have h:=wO_some h
    simp only [stX]
    unfold fieldY at h
    split at h
    · rename_i fs e1
      split at h
      · rename_i off T' e2
        split at h
        · rename_i i e3
          split at h
          · rename_i vs e4
            split at h
            · rename_i u e5
              split at h
              · rename_i hb
                simp only [Option.some.injEq,Prod.mk.injEq] at h
                obtain ⟨_,rfl⟩:=h
                simp only [Bool.and_eq_true,beq_iff_eq] at hb
                exact ⟨_,by simp only [fieldV,e1,e2,e3,e4,e5],hb⟩
              · simp at h
            · simp at h
          · simp at h
        · simp at h
      · simp at h
    · simp at h
  · rename_i T x j
    have h:=wO_some h
    simp only [stX]
    unfold fieldAddrY at h
    split at h
    · rename_i fs e1
      split at h
      · rename_i off T' e2
        split at h
        · rename_i i e3
          split at h
          · rename_i r p g o e4
            split at h
            · rename_i hb
              simp only [Option.some.injEq,Prod.mk.injEq] at h
              obtain ⟨_,rfl⟩:=h
              exact ⟨i.sz≠0,by simp only [fieldAddrV,e1,e2,e3,e4],by simpa using hb⟩
            · simp at h
          · rename_i vs e4
            split at h
            · rename_i u e5
              split at h
              · rename_i hb
                simp only [Option.some.injEq,Prod.mk.injEq] at h
                obtain ⟨_,rfl⟩:=h
                simp only [Bool.and_eq_true,beq_iff_eq,bne_iff_ne] at hb
                exact ⟨_,by simp only [fieldAddrV,e1,e2,e3,e4,e5],hb⟩
              · simp at h
            · simp at h
          · simp at h
        · simp at h
      · simp at h
    · simp at h
  · rename_i T x
    simp only [stX]
    unfold loadY at h
    split at h
    · rename_i i e1
      split at h
      · rename_i r p g o e2
        split at h
        · simp at h
        · split at h
          · rename_i g1 o1 u e3
            split at h
            · rename_i hb
              simp only [Option.some.injEq] at h
              obtain ⟨h1,h2⟩:=Prod.mk.inj h
              obtain ⟨rfl,_⟩:=Prod.mk.inj h2
              subst h1
              obtain ⟨rfl,rfl⟩:=Prod.mk.inj hC
              simp only [Bool.and_eq_true,beq_iff_eq] at hb
              exact ⟨g1=g1∧o1=o1∧u.n=i.sz∧i.d.agg=u.isAgg,by simp only [loadV,e1,e2,e3],rfl,rfl,hb.1,hb.2⟩
            · simp at h
          · simp at h
        · rename_i u orc2 _
          split at h
          · rename_i hb
            simp only [Option.some.injEq,Prod.mk.injEq] at h
            obtain ⟨rfl,rfl,_⟩:=h
            simp only [Bool.and_eq_true,beq_iff_eq] at hb
            exact ⟨g=g∧o=o∧u.n=i.sz∧i.d.agg=u.isAgg,by simp only [loadV,e1,e2,hC],rfl,rfl,hb.1,hb.2⟩
          · simp at h
      · rename_i u e2
        split at h
        · rename_i hb
          simp only [Option.some.injEq,Prod.mk.injEq] at h
          obtain ⟨_,rfl,_⟩:=h
          simp only [Bool.and_eq_true,beq_iff_eq] at hb
          exact ⟨_,by simp only [loadV,e1,e2],hb⟩
        · simp at h
      · simp at h
    · simp at h
  · rename_i T x i
    simp only [stX]
    unfold indexAddrY at h
    split at h
    · rename_i e k i' e1 e2
      split at h
      · rename_i t e3
        split at h
        · rename_i full xs e4
          split at h
          · rename_i u orc2
            split at h
            · rename_i hb
              simp only [Option.some.injEq,Prod.mk.injEq] at h
              obtain ⟨rfl,rfl,_⟩:=h
              obtain ⟨h0,hx⟩:=hC
              have hlt:=(List.getElem?_eq_some_iff.1 hx).1
              have hv:xs.getD i'.toNat .dead=u:=by rw [List.getD_eq_getElem?_getD,hx]; rfl
              exact ⟨0≤i'∧i' < xs.length∧u.n=t.sz,by simp only [indexAddrV,e1,e2,e3,e4,hv],h0,by omega,by simpa using hb⟩
            · simp at h
          · simp at h
        · rename_i r p sz g o lo n c e4
          split at h
          · rename_i hb
            simp only [Option.some.injEq,Prod.mk.injEq] at h
            obtain ⟨rfl,rfl,_⟩:=h
            exact ⟨0≤i'∧i' < n∧sz=t.sz,by simp only [indexAddrV,e1,e2,e3,e4],hC.1,hC.2,by simpa using hb⟩
          · simp at h
        · simp at h
      · simp at h
    · simp at h
  · exact ⟨C,wO_some h,hC⟩
theorem AS.le_refl (A:AS):A.le A:=⟨fun _=>.inr rfl,fun _=>.inr rfl⟩
theorem AS.le_trans {A B C:AS} (h:A.le B) (k:B.le C):A.le C:=
  ⟨fun i=>by
    rcases h.1 i with e | e
    · exact .inl e
    · rw [e]; exact k.1 i,
   fun i=>by
    rcases h.2 i with e | e
    · exact .inl e
    · rw [e]; exact k.2 i⟩
theorem opT_mono {o:Oper} {K K':AS→Prop} (h:opT P N o A K) (hK:∀ B,K B→K' B):opT P N o A K':=
  fun Pb Kb a w F Q hs=>Oper.wp_mono (fun _ _ hn=>hn.mono hK) (h Pb Kb a w F Q hs)
def keepH (A:AS):List Nat→List (Nat×(Nat×V))
  | []=>[]
  | k :: ks=>match lk k A.h with
    | some v=>(k,v) :: keepH A ks
    | none=>keepH A ks
def keep (ks hs:List Nat) (A:AS):AS:=⟨ks.map fun k=>(k,A.get k),keepH A hs⟩
def triv:Op→Bool
  | .move _ | .extract _ _ | .call _ | .field _ _ _ | .fieldAddr _ _ _=>true
  | .binOp o _ _ _ _=>match o with
    | .eql | .neq | .lss | .leq | .gtr | .geq=>true
    | _=>false
  | .unOp o _ _=>match o with
    | .not=>true
    | _=>false
  | _=>false
theorem triv_ok {op:Op} {orc orc':List V} {C:Prop} {v:V} (ht:triv op=true) (h:sY P A op orc=some (C,v,orc')):C:=by
  have hB:∀ {o:BinOp} {k:IntKind} {a b:Int} {C:Prop} {v:V},(o=.eql∨o=.neq∨o=.lss∨o=.leq∨o=.gtr∨o=.geq)→intN o k a b=some (C,v)→C:=by
    intro o k a b C v ho h
    rcases ho with rfl | rfl | rfl | rfl | rfl | rfl <;> (simp only [intN,intV,Option.some.injEq,Prod.mk.injEq] at h; rw [← h.1]; trivial)
  cases op with
  | move x=>have h:=wO_some (show wO orc (stX P A (.move x))=_ from h); simp only [stX,stV,Option.some.injEq,Prod.mk.injEq] at h; rw [← h.1]; trivial
  | extract x i=>
    have h:=wO_some (show wO orc (stX P A (.extract x i))=_ from h)
    simp only [stX,stV] at h
    unfold extV at h
    repeat (split at h <;> try (simp at h; done))
    all_goals (simp only [Option.some.injEq,Prod.mk.injEq] at h; rw [← h.1]; trivial)
  | call c=>
    have h:=wO_some h
    unfold callY at h
    repeat (split at h <;> try (simp at h; done))
    unfold lenY at h
    split at h
    · simp only [Option.some.injEq,Prod.mk.injEq] at h; rw [← h.1]; trivial
    · unfold lenV at h
      split at h <;> first | (simp at h; done) | (simp only [Option.some.injEq,Prod.mk.injEq] at h; rw [← h.1]; trivial)
  | field T x j=>
    have h:=wO_some h
    unfold fieldY at h
    repeat (split at h <;> try (simp at h; done))
    all_goals (simp only [Option.some.injEq,Prod.mk.injEq] at h; rw [← h.1]; trivial)
  | fieldAddr T x j=>
    have h:=wO_some h
    unfold fieldAddrY at h
    repeat (first | (simp at h; done) | split at h)
    all_goals first | (simp at h; done) | (obtain ⟨rfl,_⟩:=h; trivial) | (simp only [Option.some.injEq,Prod.mk.injEq] at h; rw [← h.1]; trivial) | (split at h <;> first | (simp at h; done) | (split at h <;> first | (simp at h; done) | (simp only [Option.some.injEq,Prod.mk.injEq] at h; rw [← h.1]; trivial)))
  | binOp o T x y pos=>
    have h:=wO_some h
    have ho:o=.eql∨o=.neq∨o=.lss∨o=.leq∨o=.gtr∨o=.geq:=by cases o <;> simp [triv] at ht ⊢
    unfold binY at h
    split at h
    · rcases ho with rfl | rfl | rfl | rfl | rfl | rfl <;> simp only [strY,Option.some.injEq,Prod.mk.injEq,reduceCtorEq] at h <;> (rw [← h.1]; trivial)
    · unfold binT at h
      split at h
      · split at h
        · exact hB ho h
        · split at h
          · exact hB ho h
          · simp at h
      · rcases ho with rfl | rfl | rfl | rfl | rfl | rfl <;> simp only [strV,Option.some.injEq,Prod.mk.injEq,reduceCtorEq] at h <;> (rw [← h.1]; trivial)
      · rcases ho with rfl | rfl | rfl | rfl | rfl | rfl <;> simp only [boolV,Option.some.injEq,Prod.mk.injEq,reduceCtorEq] at h <;> (rw [← h.1]; trivial)
      · simp at h
  | unOp o T x=>
    have h:=wO_some (show wO orc (stX P A (.unOp o T x))=_ from h)
    have ho:o=.not:=by cases o <;> simp [triv] at ht ⊢
    subst ho
    simp only [stX,stV] at h
    unfold unV at h
    split at h
    all_goals first | (simp at h; done) | (simp only [Option.some.injEq,Prod.mk.injEq] at h; rw [← h.1]; trivial) | (simp_all; done)
  | _=>simp [triv] at ht
def unOps:Op→List Operand
  | .pick c _ _=>[c]
  | op=>op.operands.toList
def runG (P : Program) (N:Nat) (ops:Array Oper):Nat→List Oper→List V→AS→Option (Prop×AS)
  | 0,_,_,A=>some (True,A)
  | _+1,[],_,A=>some (True,A)
  | n + 1,o :: rest,orc,A=>
    match o.dst with
    | none=>none
    | some d=>if d < N then
      match o.guard with
      | some (j,b)=>match gdV A ops j b with
        | some G=>match AS.un G (unOps o.op) A with
          | (C0,B)=>match sY P B o.op orc with
            | some (C,v,orc)=>if (okT N (unOps o.op)&&!v.isGv)=true then match runG P N ops n rest orc (A.put (some d) (.gv G v)) with
              | some (C',A')=>some ((G=true→C0∧C)∧C',A')
              | none=>none else none
            | none=>none
        | none=>none
      | none=>match o.op with
        | .assign x=>runG P N ops n rest orc ((A.drop x).put (some d) (A.ev x))
        | op=>match sY P A op orc with
          | some (C,v,orc)=>match runG P N ops n rest orc (A.put (some d) v) with
            | some (C',A')=>if triv op=true then some (C',A') else some (C∧C',A')
            | none=>none
          | none=>none
      else none
theorem WL_run {K:AS→Prop}:∀ (n:Nat) {l:List Oper} {orc:List V} {A A':AS} {C:Prop},
    runG P N ops n l orc A=some (C,A')→C→WL P N ops (l.drop n) A' K→WL P N ops l A K
  | 0,l,orc,A,A',C,h,hC,hK=>by
    simp only [runG,Option.some.injEq,Prod.mk.injEq] at h; obtain ⟨_,rfl⟩:=h; exact hK
  | n+1,[],orc,A,A',C,h,hC,hK=>by
    simp only [runG,Option.some.injEq,Prod.mk.injEq] at h; obtain ⟨_,rfl⟩:=h; exact hK
  | n + 1,o :: l,orc,A,A',C,h,hC,hK=>by
    have hdrop:(o :: l).drop (n+1)=l.drop n:=rfl
    rw [hdrop] at hK
    unfold runG at h
    split at h
    · simp at h
    rename_i d hd
    split at h
    case isFalse=>simp at h
    rename_i hdN
    have hdok:dstOk N o.dst:=by rw [hd]; exact hdN
    cases hg:o.guard with
    | some jb=>
      obtain ⟨j,b⟩:=jb
      rw [hg] at h
      simp only at h
      split at h
      case h_2=>simp at h
      rename_i G hG
      cases hu:AS.un G (unOps o.op) A with
      | mk C0 B=>
        rw [hu] at h
        simp only at h
        split at h
        case h_2=>simp at h
        rename_i C1 v orc2 hst
        split at h
        case isFalse=>simp at h
        rename_i hok
        simp only [Bool.and_eq_true,Bool.not_eq_true'] at hok
        split at h
        case h_2=>simp at h
        rename_i C2 A2 hr
        simp only [Option.some.injEq,Prod.mk.injEq] at h
        obtain ⟨rfl,rfl⟩:=h
        by_cases hGt:G=true
        · obtain ⟨C',h1,h2⟩:=sY_ok hst (hC.1 hGt).2
          exact WL_guard hg hG hu h1 hok.1 hdok (fun _=>⟨(hC.1 hGt).1,h2,hok.2⟩) (by rw [hd]; exact WL_run n hr hC.2 hK)
        · refine gd_of hg hG (fun c=>absurd c hGt) (fun hGf=>⟨hdok,.gv G v,fun _ _=>⟨rfl,(fun h=>absurd h hGt),fun _=>rfl⟩,?_⟩)
          rw [hd]; exact WL_run n hr hC.2 hK
    | none=>
      rw [hg] at h
      simp only at h
      show gd ops o A _ _
      unfold gd
      rw [hg]
      simp only
      split at h
      · rename_i x hop
        exact opT_assign hop hdok (by rw [hd]; exact WL_run n h hC hK)
      · split at h
        case h_2=>simp at h
        rename_i C1 v orc2 hst
        split at h
        case h_2=>simp at h
        rename_i C2 A2 hr
        split at h
        · rename_i ht
          simp only [Option.some.injEq,Prod.mk.injEq] at h
          obtain ⟨rfl,rfl⟩:=h
          obtain ⟨C',h1,h2⟩:=sY_ok hst (triv_ok ht hst)
          exact opT_stX h1 h2 hdok (by rw [hd]; exact WL_run n hr hC hK)
        · simp only [Option.some.injEq,Prod.mk.injEq] at h
          obtain ⟨rfl,rfl⟩:=h
          obtain ⟨C',h1,h2⟩:=sY_ok hst hC.1
          exact opT_stX h1 h2 hdok (by rw [hd]; exact WL_run n hr hC.2 hK)
theorem unOps_sub (op:Op):∀ t,Operand.tmp t∈unOps op→Operand.tmp t∈op.operands.toList:=by
  intro t ht
  cases op with
  | pick c a b=>simp only [unOps,List.mem_singleton] at ht; simp [Op.operands,ht]
  | _=>exact ht
def runD (P : Program) (N:Nat) (ops:Array Oper):Nat→List Oper→List V→AS→Option (Prop×AS)
  | 0,_,_,A=>some (True,A)
  | _+1,[],_,A=>some (True,A)
  | n + 1,o :: rest,orc,A=>
    match o.dst with
    | none=>none
    | some d=>if d < N then
      match o.guard with
      | some (j,b)=>match gdV A ops j b with
        | some G=>match AS.un G (unOps o.op) A with
          | (C0,B)=>match sY P B o.op orc with
            | some (C,v,orc)=>if (okT N (unOps o.op)&&!v.isGv&&rootFree ops B o.op)=true then match runD P N ops n rest orc (A.put (some d) (.gv G v)) with
              | some (C',A')=>some ((G=true→C0∧C)∧C',A')
              | none=>none else none
            | none=>none
        | none=>none
      | none=>match o.op with
        | .assign x=>if (A.ev x).owns=false then runD P N ops n rest orc (A.put (some d) (A.ev x)) else none
        | op=>if rootFree ops A op=true then match sY P A op orc with
          | some (C,v,orc)=>match runD P N ops n rest orc (A.put (some d) v) with
            | some (C',A')=>if triv op=true then some (C',A') else some (C∧C',A')
            | none=>none
          | none=>none else none
      else none
theorem DW_run {K:AS→Prop}:∀ (n:Nat) {l:List Oper} (orc:List V) {A:AS} (C:Prop) (A':AS),
    runD P N ops n l orc A=some (C,A')→C→DW P N ops (l.drop n) A' K→DW P N ops l A K
  | 0,l,orc,A,C,A',h,hC,hK=>by
    simp only [runD,Option.some.injEq,Prod.mk.injEq] at h; obtain ⟨_,rfl⟩:=h; exact hK
  | n+1,[],orc,A,C,A',h,hC,hK=>by
    simp only [runD,Option.some.injEq,Prod.mk.injEq] at h; obtain ⟨_,rfl⟩:=h; exact hK
  | n + 1,o :: l,orc,A,C,A',h,hC,hK=>by
    have hdrop:(o :: l).drop (n+1)=l.drop n:=rfl
    rw [hdrop] at hK
    unfold runD at h
    split at h
    · simp at h
    rename_i d hd
    split at h
    case isFalse=>simp at h
    rename_i hdN
    have hdok:dstOk N o.dst:=by rw [hd]; exact hdN
    cases hg:o.guard with
    | some jb=>
      obtain ⟨j,b⟩:=jb
      rw [hg] at h
      simp only at h
      split at h
      case h_2=>simp at h
      rename_i G hG
      cases hu:AS.un G (unOps o.op) A with
      | mk C0 B=>
        rw [hu] at h
        simp only at h
        split at h
        case h_2=>simp at h
        rename_i C1 v orc2 hst
        split at h
        case isFalse=>simp at h
        rename_i hok
        simp only [Bool.and_eq_true,Bool.not_eq_true'] at hok
        split at h
        case h_2=>simp at h
        rename_i C2 A2 hr
        simp only [Option.some.injEq,Prod.mk.injEq] at h
        obtain ⟨rfl,rfl⟩:=h
        refine DW_cons (v:=.gv G v) (OpDet_guard hg hG hu (unOps_sub _) hok.1.1 hdok hok.2 (fun hGt=>⟨(hC.1 hGt).1,hok.1.2,sY_ok hst (hC.1 hGt).2⟩)) (by rw [hd]; exact DW_run n orc2 C2 A2 hr hC.2 hK)
    | none=>
      rw [hg] at h
      simp only at h
      split at h
      · rename_i x hop
        split at h
        case isFalse=>simp at h
        rename_i hown
        exact DW_cons (OpDet_assign hg hop hdok hown) (by rw [hd]; exact DW_run n orc C A' h hC hK)
      · split at h
        case isFalse=>simp at h
        rename_i hrf
        split at h
        case h_2=>simp at h
        rename_i C1 v orc2 hst
        split at h
        case h_2=>simp at h
        rename_i C2 A2 hr
        split at h
        · rename_i ht
          simp only [Option.some.injEq,Prod.mk.injEq] at h
          obtain ⟨rfl,rfl⟩:=h
          obtain ⟨C',h1,h2⟩:=sY_ok hst (triv_ok ht hst)
          exact DW_cons (OpDet_stX hg h1 h2 hdok hrf) (by rw [hd]; exact DW_run n orc2 C2 A2 hr hC hK)
        simp only [Option.some.injEq,Prod.mk.injEq] at h
        obtain ⟨rfl,rfl⟩:=h
        obtain ⟨C',h1,h2⟩:=sY_ok hst hC.1
        exact DW_cons (OpDet_stX hg h1 h2 hdok hrf) (by rw [hd]; exact DW_run n orc2 C2 A2 hr hC.2 hK)
def okResB (P:Program):List ResultVar→List (Root×V)→Bool
  | .cell _ T :: rs,(_,v) :: xs=>(match ti P T with | some i=>v.n==i.sz&&i.d.agg==v.isAgg | none=>false)&&okResB P rs xs
  | .tmp _ :: rs,(_,v) :: xs=>(match v with | .tup _=>false | .gv _ _=>false | _=>true)&&okResB P rs xs
  | [],[]=>true
  | _,_=>false
theorem okRes_of:∀ {rs:List ResultVar} {xs:List (Root×V)},okResB P rs xs=true→okRes P rs xs
  | [],[],_=>trivial
  | .cell t T :: rs,(r,v) :: xs,h=>by
    simp only [okResB,Bool.and_eq_true] at h
    refine ⟨?_,okRes_of h.2⟩
    have h1:=h.1
    cases ht:ti P T with
    | none=>rw [ht] at h1; simp at h1
    | some i=>rw [ht] at h1; simpa using h1
  | .tmp t :: rs,(r,v) :: xs,h=>by
    simp only [okResB,Bool.and_eq_true] at h
    refine ⟨?_,okRes_of h.2⟩
    have h1:=h.1
    cases v <;> first | trivial | simp at h1
  | [],_ :: _,h=>by simp [okResB] at h
  | .cell _ _ :: _,[],h=>by simp [okResB] at h
  | .tmp _ :: _,[],h=>by simp [okResB] at h
def nodupB:List Root→Bool
  | []=>true
  | r :: rs=>!(rs.any fun x=>decide (x=r))&&nodupB rs
theorem nodup_of:∀ {l:List Root},nodupB l=true→l.Nodup
  | [],_=>List.nodup_nil
  | r :: rs,h=>by
    simp only [nodupB,Bool.and_eq_true,Bool.not_eq_true',List.any_eq_false,decide_eq_true_eq] at h
    exact List.nodup_cons.2 ⟨fun c=>h.1 r c rfl,nodup_of h.2⟩
abbrev iN (n:Nat):V:=.lit (.int .i64 n)
abbrev iV (x:Int):V:=.lit (.int .i64 x)
abbrev uN (n:Nat):V:=.lit (.int .u8 n)
abbrev bV (b:Bool):V:=.lit (.bool b)
abbrev sV (l:List UInt8):V:=.lit (.string (Str l))
theorem getE_map {α:Type} {f:α→V} {l:List α} {i:Nat} {d:α} (h:i < l.length):(l.map f)[i]? =some (f (l.getD i d)):=by
  rw [List.getElem?_map,List.getElem?_eq_getElem h,List.getD_eq_getElem?_getD,List.getElem?_eq_getElem h]; rfl
theorem all_map {α:Type} {f:α→V} {l:List α} {n:Nat} (h:∀ x,(f x).n=n):∀ x∈l.map f,x.n=n:=by
  intro x hx
  obtain ⟨y,_,rfl⟩:=List.mem_map.1 hx
  exact h y
end
end Go.Abs
namespace Go.Abs
open Go Go.RowKit
section
variable {P:Program} {N:Nat} {ops:Array Oper} {A A' A1:AS}
theorem DW_callE {K:AS→Prop} {d:Option Nat} {f:FuncId} {xs:Array Operand} {tys:Array TypeId} {ty:TypeId} {pos:String} {after:Array Edge} {rest:List Oper}
    {L:List V} {E0:V} (E:V) (hd:dstOk N d) (hL:xs.toList.map A.cp=L) (hc:PC P f L (fun r=>r=E0)) (hE:E0.er=E) (hK:DW P N ops rest (A.put d E) K):
    DW P N ops (⟨d,.call { callee:=.value (.func f),args:=xs,argTypes:=tys },ty,pos,after,none⟩ :: rest) A K:=by
  subst hL hE
  exact DW_call hd hc (by rintro r rfl; rfl) hK
def zOk (P:Program) (e:Nat) (sz:Nat):Bool:=match P.info? e with
  | some inf=>match inf.zero with
    | some z=>z.cells.size==sz
    | none=>false
  | none=>false
theorem zOk_of {e sz:Nat} (h:zOk P e sz=true):∃ inf z,P.info? e=some inf∧inf.zero=some z∧z.cells.size=sz:=by
  unfold zOk at h
  split at h
  · rename_i inf h1
    split at h
    · rename_i z h2; exact ⟨inf,z,h1,h2,by simpa using h⟩
    · simp at h
  · simp at h
def zeroE (P:Program) (T:Nat):Option (List Value):=match P.info? T with
  | some inf=>match inf.zero with
    | some z=>some z.cells.toList
    | none=>none
  | none=>none
theorem zero_of {T:Nat} {v:V} {cs:List Value} (h:zeroE P T=some cs) (hv:v.flat=some cs):ZeroOk P T v:=by
  unfold zeroE at h
  split at h
  · rename_i inf h1
    split at h
    · rename_i z h2; exact ⟨inf,z,h1,h2,by rw [hv,h]⟩
    · simp at h
  · simp at h
def allB (sz:Nat):List V→Bool
  | []=>true
  | v :: vs=>v.isVal&&v.n==sz&&allB sz vs
theorem allB_of {sz:Nat}:∀ {vs:List V},allB sz vs=true→∀ v,v∈vs→v.isVal=true∧v.n=sz
  | [],_,v,hv=>by simp at hv
  | u :: us,h,v,hv=>by
    simp only [allB,Bool.and_eq_true,beq_iff_eq] at h
    simp only [List.mem_cons] at hv
    rcases hv with rfl | hv
    · exact h.1
    · exact allB_of h.2 v hv
def bsB (P:Program) (T e len:Nat) (i:TI) (vs:List V):Bool:=zOk P e i.sz&&vs.length==len&&Nat.ble (len * i.sz) 16777216&&Nat.blt 0 i.sz&&allB i.sz vs
theorem opT_bs {o:Oper} {K:AS→Prop} {T e len:Nat} {parts:Array (Nat×Operand)} {i:TI} {vs:List V} (ho:o.op=.buildSlice T len parts) (hd:dstOk N o.dst) (hT:tD P T=some (.sl e)) (hi:ti P e=some i)
    (hvs:partsV A 0 parts.toList=some vs) (hB:bsB P T e len i vs=true) (hK:K (A.put o.dst (.sl true vs))):opT P N o A K:=by
  simp only [bsB,Bool.and_eq_true,beq_iff_eq] at hB
  obtain ⟨⟨⟨⟨h1,h2⟩,h3⟩,h4⟩,h5⟩:=hB
  obtain ⟨inf,z,k1,k2,_⟩:=zOk_of h1
  exact opT_buildSlice ho hd hT hi ⟨inf,z,k1,k2⟩ hvs h2 (Nat.le_of_ble_eq_true h3) (Nat.lt_of_succ_le (Nat.le_of_ble_eq_true h4)) (allB_of h5) hK
theorem WL_buildSlice {K:AS→Prop} {d:Option Nat} {T len ty:Nat} {parts:Array (Nat×Operand)} {pos:String} {after:Array Edge} {rest:List Oper} (e:Nat) (i:TI) (vs:List V)
    (hty:tD P T=some (.sl e)∧ti P e=some i) (hd:dstOk N d) (hvs:partsV A 0 parts.toList=some vs) (hB:bsB P T e len i vs=true) (hK:WL P N ops rest (A.put d (.sl true vs)) K):
    WL P N ops (⟨d,.buildSlice T len parts,ty,pos,after,none⟩ :: rest) A K:=by
  show opT P N _ A _
  exact opT_bs rfl hd hty.1 hty.2 hvs hB hK
theorem parts_congr:∀ (ps:List (Nat×Operand)) (k:Nat),(∀ t,Operand.tmp t∈ps.map (·.2)→A'.get t=A.get t)→partsV A' k ps=partsV A k ps
  | [],_,_=>rfl
  | (i,x) :: r,k,h=>by
    simp only [partsV]
    rw [parts_congr r (k+1) (fun t ht=>h t (by simp [ht])),cp_congr (x:=x) (fun t e=>h t (by simp [e]))]
theorem DW_buildSlice {K:AS→Prop} {d:Option Nat} {T len ty:Nat} {parts:Array (Nat×Operand)} {pos:String} {after:Array Edge} {rest:List Oper} (e:Nat) (i:TI) (vs:List V)
    (hty:tD P T=some (.sl e)∧ti P e=some i) (hd:dstOk N d) (hvs:partsV A 0 parts.toList=some vs) (hB:bsB P T e len i vs=true) (hK:DW P N ops rest (A.put d (.sl true vs)) K):
    DW P N ops (⟨d,.buildSlice T len parts,ty,pos,after,none⟩ :: rest) A K:=by
  refine DW_cons (v:=.sl true vs) (fun A' h1 hk=>?_) hK
  show opT P N _ A' _
  refine opT_bs rfl hd hty.1 hty.2 ?_ hB ⟨fun _=>rfl,fun _=>rfl⟩
  rw [parts_congr (A:=A) _ _ (fun t ht=>h1 t (.inl (looks_op (by simpa [Op.operands] using ht))))]
  exact hvs
def fillB (places:List (Nat×Nat)):List V→List (Nat×V)→Option (List V)
  | zs,[]=>some zs
  | zs,(i,v) :: r=>match places[i]?,zs[i]? with
    | some (off,sz),some z=>if (V.ns (zs.take i)==off&&v.n==sz&&z.n==sz&&v.isVal)=true then fillB places (zs.set i v) r else none
    | _,_=>none
theorem fillB_ok {places:List (Nat×Nat)}:∀ {ps:List (Nat×V)} {zs vs:List V},fillB places zs ps=some vs→∃ C,fillV places zs ps=some (C,vs)∧C
  | [],zs,vs,h=>by simp only [fillB,Option.some.injEq] at h; subst h; exact ⟨True,rfl,trivial⟩
  | (i, v) :: r,zs,vs,h=>by
    simp only [fillB] at h
    split at h
    · rename_i off sz z h1 h2
      split at h
      · rename_i hb
        simp only [Bool.and_eq_true,beq_iff_eq] at hb
        obtain ⟨C,hf,hC⟩:=fillB_ok h
        exact ⟨V.ns (zs.take i)=off∧v.n=sz∧z.n=sz∧v.isVal=true∧C,by simp only [fillV,h1,h2,hf],hb.1.1.1,hb.1.1.2,hb.1.2,hb.2,hC⟩
      · simp at h
    · simp at h
def buildB (P:Program) (A:AS) (T:Nat) (zs:List V) (parts:List (Nat×Operand)):Option V:=
  match tD P T with
  | some (.st fs)=>match placesP P fs with
    | some places=>match fillB places zs (parts.map fun (i,x)=>(i,A.cp x)) with
      | some vs=>some (.agg vs)
      | none=>none
    | none=>none
  | _=>none
theorem buildB_ok {T:Nat} {zs:List V} {parts:List (Nat×Operand)} {v:V} (h:buildB P A T zs parts=some v):∃ C,buildV P A T zs parts=some (C,v)∧C:=by
  unfold buildB at h
  split at h
  · rename_i fs h1
    split at h
    · rename_i places h2
      split at h
      · rename_i vs h3
        simp only [Option.some.injEq] at h
        subst h
        obtain ⟨C,hf,hC⟩:=fillB_ok h3
        exact ⟨C,by simp only [buildV,h1,h2,hf],hC⟩
      · simp at h
    · simp at h
  · simp at h
theorem WL_build {K:AS→Prop} {d:Option Nat} {T ty:Nat} {parts:Array (Nat×Operand)} {pos:String} {after:Array Edge} {rest:List Oper} (zs:List V) (v:V)
    (hz:ZeroOk P T (.agg zs)) (hd:dstOk N d) (hb:buildB P A T zs parts.toList=some v) (hK:WL P N ops rest (A.put d v) K):
    WL P N ops (⟨d,.build T parts,ty,pos,after,none⟩ :: rest) A K:=by
  obtain ⟨C,h1,h2⟩:=buildB_ok hb
  show opT P N _ A _
  exact opT_build rfl hd hz h1 h2 hK
theorem DW_build {K:AS→Prop} {d:Option Nat} {T ty:Nat} {parts:Array (Nat×Operand)} {pos:String} {after:Array Edge} {rest:List Oper} (zs:List V) (v:V)
    (hz:ZeroOk P T (.agg zs)) (hd:dstOk N d) (hb:buildB P A T zs parts.toList=some v) (hK:DW P N ops rest (A.put d v) K):
    DW P N ops (⟨d,.build T parts,ty,pos,after,none⟩ :: rest) A K:=by
  refine DW_cons (v:=v) (fun A' h1 hk=>?_) hK
  show opT P N _ A' _
  have e:buildB P A' T zs parts.toList=some v:=by
    rw [← hb]
    unfold buildB
    have:(parts.toList.map fun (i,x)=>(i,A'.cp x))=parts.toList.map fun (i,x)=>(i,A.cp x):=by
      apply List.map_congr_left
      rintro ⟨i,x⟩ hx
      simp only
      rw [cp_congr (x:=x) fun t ht=>h1 t (.inl (looks_op (by
        subst ht
        simp only [Op.operands,List.mem_map]
        exact ⟨(i,.tmp t),hx,rfl⟩)))]
    rw [this]
  obtain ⟨C,k1,k2⟩:=buildB_ok e
  exact opT_build rfl hd hz k1 k2 ⟨fun _=>rfl,fun _=>rfl⟩
end
end Go.Abs
namespace Go.Abs
open Go Go.RowKit
section
variable {P:Program} {N:Nat} {ops:Array Oper} {A A' A1:AS}
variable {w:World} {Pb Kb:Nat→Prop} {a:Act} {F:Root→List Nat}
def u8V (b:UInt8):V:=.lit (.int .u8 b.toNat)
theorem RL_u8:∀ (bs:List UInt8) {cs:List Value} {F:List Nat},RL w Pb (bs.map u8V) cs F→cs=bs.map fun b=>Value.int .u8 (b.toNat:Int)
  | [],cs,F,h=>h.1
  | b :: bs,cs,F,h=>by
    obtain ⟨c1,c2,F1,F2,rfl,rfl,h1,h2⟩:=h
    rw [RL_u8 bs h2,h1.2.1]; rfl
theorem RL_u8_of:∀ (l:List UInt8),RL w Pb (l.map u8V) (l.map fun b=>Value.int .u8 (b.toNat:Int)) []
  | []=>⟨rfl,rfl⟩
  | b :: l=>⟨[.int .u8 (b.toNat:Int)],_,[],[],rfl,rfl,⟨rfl,rfl,rfl⟩,RL_u8_of l⟩
theorem owns_u8:∀ (bs:List UInt8),V.ownsL (bs.map u8V)=false
  | []=>rfl
  | b :: bs=>by simp [V.ownsL,u8V,V.owns,owns_u8 bs]
theorem all_u8 (bs:List UInt8):AllN 1 (bs.map u8V):=fun x hx=>by
  obtain ⟨b,_,rfl⟩:=List.mem_map.1 hx; rfl
theorem fold_u8:∀ (bs l:List UInt8),(bs.map fun b=>(b.toNat:Int)).foldl (fun (r:ByteArray) n=>r.push (UInt8.ofNat n.toNat)) (Str l)=Str (l++bs)
  | [],l=>by simp
  | b :: bs,l=>by
    simp only [List.map_cons,List.foldl_cons]
    have:(Str l).push (UInt8.ofNat (b.toNat:Int).toNat)=Str (l++[b]):=by
      apply ByteArray.ext
      simp [Str,ByteArray.push]
    rw [this,fold_u8 bs]; simp
theorem opT_bytesStr {o:Oper} {K:AS→Prop} {src dst e:Nat} {x:Operand} {C:Prop} {bs:List UInt8} (ho:o.op=.convert src dst x) (hd:dstOk N o.dst) (h1:tD P src=some (.sl e)) (h2:tD P e=some (.int .u8)) (h3:tD P dst=some .str)
    (hx:rdL A x=some (C,bs.map u8V)) (hC:C) (hK:K (A.put o.dst (sV bs))):opT P N o A K:=by
  refine opT_value hd hK fun Pb Kb a w F hs=>?_
  obtain ⟨B,c,flat,hv,hr,hf,hl⟩:=rd_sound (P:=P) hs hx hC (all_u8 bs) (owns_u8 bs)
  obtain ⟨td,hu1,hd1⟩:=tD_some h1
  obtain ⟨td2,hu2,hd2⟩:=tD_some h2
  obtain ⟨td3,hu3,hd3⟩:=tD_some h3
  cases td <;> simp [descD] at hd1
  cases td2 <;> simp [descD] at hd2
  cases td3 <;> simp [descD] at hd3
  subst hd1 hd2
  refine ⟨.string (Str bs),?_,RV_lit rfl⟩
  have hflat:=RL_u8 bs hr
  simp only [execOp,ho,hv,Sem.run_bind,run_convert_bytes_string w src dst _ B _ c hu1 hu2 hu3]
  have hrun:(Conv.bytesToString (.slice B (bs.map u8V).length c)).run P w=.ok (.string (Str bs)) w:=by
    cases B with
    | none=>
      have:=hf w (fun _=>rfl)
      rw [hv] at this
      simp only [Builtin.firstCells] at this
      have hb:flat=[]:=by
        have h:=this
        simp at h
        exact h
      rw [hflat] at hb
      have:bs=[]:=by simpa using hb
      subst this
      rfl
    | some ad=>
      have:=hf w (fun _=>rfl)
      rw [hv] at this
      simp only [Builtin.firstCells,Nat.mul_one] at this
      rw [run_bytesToString w ad _ c (bs.map fun b=>(b.toNat:Int)) (by rw [this,hflat]; simp [List.map_map,Function.comp_def])]
      have:=fold_u8 bs []
      simp only [List.nil_append] at this
      rw [← this]; rfl
  rw [hrun]; rfl
theorem opT_strBytes {o:Oper} {K:AS→Prop} {src dst e d:Nat} {x:Operand} {l:List UInt8} (ho:o.op=.convert src dst x) (hd:o.dst=some d) (hN:d < N) (h1:tD P src=some .str) (h2:tD P dst=some (.sl e)) (h3:tD P e=some (.int .u8))
    (hx:A.ev x=sV l) (hK:∀ g c,K (A.put (some d) (.own 1 (l.map u8V) g 0 c))):opT P N o A K:=by
  intro Pb Kb a w F Q hs
  obtain ⟨td,hu1,hd1⟩:=tD_some h1
  obtain ⟨td2,hu2,hd2⟩:=tD_some h2
  obtain ⟨td3,hu3,hd3⟩:=tD_some h3
  cases td <;> simp [descD] at hd1
  cases td2 <;> simp [descD] at hd2
  cases td3 <;> simp [descD] at hd3
  obtain rfl:=hd2
  subst hd3
  rename_i el
  have hev:=ev_lit hs hx
  have hrun:=Lib.run_convert_string_bytes (P:=P) w src dst _ (Str l) hu1 hu2 hu3
  unfold Oper.wp
  have hx':(execOp a.eval o).run P w=.ok (.value (.slice (some ⟨w.heap.size,0,none⟩) (Str l).size (grownCap w (Str l).size 0 el))) (Lib.bytesWorld w el (Str l)):=by
    simp only [execOp,ho,hev,Sem.run_bind,hrun,Result.andThen_ok]; rfl
  rw [hx',Oper.upon_value,hd]
  have hold:=fun j (hj:j < w.heap.size)=>Lib.bytesWorld_at_old w el (Str l) j hj
  have hsz:=Lib.bytesWorld_size w el (Str l)
  have hnew:=Lib.bytesWorld_at_new w el (Str l)
  obtain ⟨w',hw'⟩:∃ w',w'=Lib.bytesWorld w el (Str l):=⟨_,rfl⟩
  obtain ⟨c,hc⟩:∃ c,c=grownCap w (Str l).size 0 el:=⟨_,rfl⟩
  have hcap:l.length≤c:=by
    rw [hc,← Str_size]
    simp only [grownCap,Question.cut]; exact Nat.le_add_right _ _
  have hkeep:Keep Kb w w':=by
    rw [hw']; exact ⟨rfl,rfl,rfl,by omega,fun g hg=>hold g (hs.bound g hg)⟩
  have hs':SIM N Pb Kb A a w' F:=hs.grow (by rw [hw']; exact hold) (by rw [hw']; omega) (fun _ h=>h) (fun g h=>.inl h) hs.sub
  rw [← hw',← hc]
  have hfreeR:∀ r g,g∈F r→g≠w.heap.size:=fun r g hg=>by have:=(hs.free r g hg).2; omega
  have hKn: ¬ Kb w.heap.size:=fun h=>by have:=hs.bound _ h; omega
  by_cases h0:c=0
  · have hl0:l=[]:=List.eq_nil_of_length_eq_zero (by omega)
    subst hl0
    have hrv:RV w' Pb (.own 1 (([]:List UInt8).map u8V) 0 0 0) (.slice (some ⟨w.heap.size,0,none⟩) (Str []).size c) []:=.inl ⟨rfl,rfl,rfl,some ⟨w.heap.size,0,none⟩,by rw [h0]; rfl⟩
    exact ⟨_,Pb,Kb,_,hK 0 0,hs'.put hN (F':=[]) hrv (by simp) List.nodup_nil (by simp),fun _ h=>h,fun _ h=>h,fun _ h=>.inl h,hkeep⟩
  · have hrv:RV w' Pb (.own 1 (l.map u8V) w.heap.size 0 c) (.slice (some ⟨w.heap.size,0,none⟩) (Str l).size c) [w.heap.size]:=by
      refine .inr ⟨by omega,by omega,by simpa using hcap,?_,all_u8 l,fun h=>hKn (hs.sub _ h),l.map (fun b=>Value.int .u8 (b.toNat:Int)),[],Lib.bytesCells w el (Str l),rfl,RL_u8_of l,?_,?_,?_⟩
      · simp [Str_size]
      · exact ⟨el,((Lib.bytesCells w el (Str l)).size,(Lib.bytesCells w el (Str l)).size+1),by rw [hw']; exact hnew,fun i hi=>by simp; omega⟩
      · simp only [Lib.bytesCells,Array.size_append,Array.size_map,Array.size_replicate,← hc]
        have:(Str l).data.size=l.length:=by simp [Str]
        rw [this,Str_size]; omega
      · intro j u hu
        simp only [List.getElem?_map,Option.map_eq_some_iff] at hu
        obtain ⟨b,hb,rfl⟩:=hu
        have hj:j < l.length:=(List.getElem?_eq_some_iff.1 hb).1
        simp only [Lib.bytesCells,Nat.zero_add]
        rw [Array.getElem?_append_left (by simp [Str]; exact hj)]
        simp [Str,hb]
    refine ⟨_,Pb,Kb,_,hK w.heap.size c,hs'.put hN (F':=[w.heap.size]) hrv ?_ (by simp) ?_,fun _ h=>h,fun _ h=>h,fun _ h=>.inl h,hkeep⟩
    · intro r _ g hg hg'
      simp only [List.mem_singleton] at hg
      exact hfreeR r g hg' hg
    · intro g hg
      simp only [List.mem_singleton] at hg
      subst hg
      exact ⟨hKn,by rw [hw']; omega⟩
theorem WL_bytesStr {K:AS→Prop} {d:Option Nat} {src dst ty:Nat} {x:Operand} {pos:String} {after:Array Edge} {rest:List Oper} (e:Nat) (C:Prop) (bs:List UInt8)
    (ht:tD P src=some (.sl e)∧tD P e=some (.int .u8)∧tD P dst=some .str) (hd:dstOk N d) (hx:rdL A x=some (C,bs.map u8V)) (hC:C) (hK:WL P N ops rest (A.put d (sV bs)) K):
    WL P N ops (⟨d,.convert src dst x,ty,pos,after,none⟩ :: rest) A K:=by
  show opT P N _ A _
  exact opT_bytesStr rfl hd ht.1 ht.2.1 ht.2.2 hx hC hK
theorem DW_bytesStr {K:AS→Prop} {d:Option Nat} {src dst ty:Nat} {x:Operand} {pos:String} {after:Array Edge} {rest:List Oper} (e:Nat) (full:Bool) (bs:List UInt8)
    (ht:tD P src=some (.sl e)∧tD P e=some (.int .u8)∧tD P dst=some .str) (hd:dstOk N d) (hx:A.ev x=.sl full (bs.map u8V)) (hK:DW P N ops rest (A.put d (sV bs)) K):
    DW P N ops (⟨d,.convert src dst x,ty,pos,after,none⟩ :: rest) A K:=by
  refine DW_cons (v:=sV bs) (fun A' h1 hk=>?_) hK
  show opT P N _ A' _
  have e1:A'.ev x=.sl full (bs.map u8V):=by rw [← hx]; exact ev_congr fun t ht=>h1 t (.inl (looks_op (by rw [ht]; simp [Op.operands])))
  exact opT_bytesStr rfl hd ht.1 ht.2.1 ht.2.2 (C:=True) (by simp only [rdL,e1]) trivial ⟨fun _=>rfl,fun _=>rfl⟩
theorem WL_strBytes {K:AS→Prop} {d src dst ty:Nat} {x:Operand} {pos:String} {after:Array Edge} {rest:List Oper} (e:Nat) (l:List UInt8)
    (ht:tD P src=some .str∧tD P dst=some (.sl e)∧tD P e=some (.int .u8)) (hN:d < N) (hx:A.ev x=sV l) (hK:∀ g c,WL P N ops rest (A.put (some d) (.own 1 (l.map u8V) g 0 c)) K):
    WL P N ops (⟨some d,.convert src dst x,ty,pos,after,none⟩ :: rest) A K:=by
  show opT P N _ A _
  exact opT_strBytes rfl rfl hN ht.1 ht.2.1 ht.2.2 hx hK
end
end Go.Abs
namespace Go.Abs
open Go Go.RowKit
section
variable {P:Program} {N:Nat} {ops:Array Oper} {A A' A1:AS}
variable {w:World} {Pb Kb:Nat→Prop} {a:Act} {F:Root→List Nat}
theorem SIM.reread (hs:SIM N Pb Kb A a w F) {t:Nat} {v:V} (ht:t < N) (h:RV w Pb v (a.tmps.getD t undef) (F (.slot t))):SIM N Pb Kb (A.put (some t) v) a w F:=by
  have h2:=hs.put (d:=t) (v:=v) (x:=a.tmps.getD t undef) (F':=F (.slot t)) ht h (fun r hr g hg=>hs.disj _ _ (Ne.symm hr) g hg) (hs.nodup _) (fun g hg=>hs.free _ g hg)
  rw [put_self] at h2
  have e:updF F (.slot t) (F (.slot t))=F:=by
    funext r; unfold updF; split
    · rename_i e; rw [e]
    · rfl
  rw [e] at h2
  exact h2
theorem SIM.claim (hs:SIM N Pb Kb A a w F) {t i sz n g o c:Nat} {xs:List V} (ht:t < N) (hi:i < N) (hti:t≠i) (h1:A.get t=.hd (.slot i) [] sz g o 0 n c) (h2:A.get i=.own sz xs g o c) (hn:n=xs.length):
    ∃ F',SIM N Pb Kb ((A.put (some i) .dead).put (some t) (.own sz xs g o c)) a w F':=by
  subst hn
  obtain ⟨Fx,F1,hr,hs1,hnd,hdis,hfr,_⟩:=hs.take (.tmp i)
  rw [drop_own h2] at hs1
  have hr:RV w Pb (A.get i) (a.tmps.getD i undef) Fx:=hr
  rw [h2] at hr
  have hh:=hs.slot t
  rw [h1] at hh
  obtain ⟨_,hle,B,hv,hB⟩:=hh
  have hv:a.tmps.getD t undef=.slice B xs.length c:=(List.cons.inj hv).1
  have hr':RV w Pb (.own sz xs g o c) (a.tmps.getD t undef) Fx:=by
    rw [hv]
    rcases hr with ⟨rfl,rfl,rfl,A0,_⟩ | ⟨k1,k2,k3,k4,k5⟩
    · exact .inl ⟨rfl,rfl,rfl,B,rfl⟩
    · have:=hB k1
      rw [Nat.zero_mul,Nat.add_zero] at this
      subst this
      exact .inr ⟨k1,k2,k3,rfl,k5⟩
  have h3:=hs1.put (d:=t) (v:=.own sz xs g o c) (x:=a.tmps.getD t undef) (F':=Fx) ht hr' (fun r _ g hg=>hdis r g hg) hnd hfr
  rw [put_self] at h3
  exact ⟨_,h3⟩
theorem ownsL_map {α:Type} {f:α→V} (hf:∀ x,(f x).owns=false):∀ (l:List α),V.ownsL (l.map f)=false
  | []=>rfl
  | x :: l=>by simp only [List.map_cons,V.ownsL,hf x,ownsL_map hf l,Bool.or_self]
theorem allN_map {α:Type} {f:α→V} {n:Nat} (hf:∀ x,(f x).n=n) (l:List α):AllN n (l.map f):=fun x hx=>by
  obtain ⟨y,_,rfl⟩:=List.mem_map.1 hx; exact hf y
theorem erL_map_id {α:Type} {f:α→V} (hf:∀ x,(f x).er=f x):∀ (l:List α),V.erL (l.map f)=l.map f
  | []=>rfl
  | x :: l=>by simp only [List.map_cons,V.erL,hf x,erL_map_id hf l]
end
end Go.Abs
namespace Go.Abs
open Go Go.RowKit
section
variable {P:Program} {N:Nat} {ops:Array Oper} {A A' A1:AS}
variable {w:World} {Pb Kb:Nat→Prop} {a:Act} {F:Root→List Nat}
theorem opT_mm {o:Oper} {K:AS→Prop} {x y:Operand} {tys:Array TypeId} {k:IntKind} {p q r:Int} {b:Builtin} (ho:o.op=.call { callee:=.builtin b,args:= #[x,y],argTypes:=tys }) (hd:dstOk N o.dst)
    (hx:A.ev x=.lit (.int k p)) (hy:A.ev y=.lit (.int k q)) (hb:(b=.max∧r=max p q)∨(b=.min∧r=min p q)) (hK:K (A.put o.dst (.lit (.int k r)))):opT P N o A K:=by
  refine opT_value hd hK fun Pb Kb a w F hs=>⟨.int k r,?_,RV_lit rfl⟩
  have e:(#[x,y].map a.eval)= #[.int k p,.int k q]:=by simp [ev_lit hs hx,ev_lit hs hy]
  rcases hb with ⟨rfl,rfl⟩ | ⟨rfl,rfl⟩
  · simp only [execOp,ho,resolve,invoke,builtin,Sem.run_bind,Sem.run_pure,Result.andThen_ok,e,Lib.run_max_ints]
  · simp only [execOp,ho,resolve,invoke,builtin,Sem.run_bind,Sem.run_pure,Result.andThen_ok,e,Lib.run_min_ints]
theorem WL_max {K:AS→Prop} {d:Option Nat} {x y:Operand} {tys:Array TypeId} {ty:TypeId} {pos:String} {after:Array Edge} {rest:List Oper} (k:IntKind) (p q:Int) (hd:dstOk N d)
    (hx:A.ev x=.lit (.int k p)) (hy:A.ev y=.lit (.int k q)) (hK:WL P N ops rest (A.put d (.lit (.int k (max p q)))) K):
    WL P N ops (⟨d,.call { callee:=.builtin .max,args:= #[x,y],argTypes:=tys },ty,pos,after,none⟩ :: rest) A K:=by
  show opT P N _ A _
  exact opT_mm rfl hd hx hy (.inl ⟨rfl,rfl⟩) hK
theorem WL_min {K:AS→Prop} {d:Option Nat} {x y:Operand} {tys:Array TypeId} {ty:TypeId} {pos:String} {after:Array Edge} {rest:List Oper} (k:IntKind) (p q:Int) (hd:dstOk N d)
    (hx:A.ev x=.lit (.int k p)) (hy:A.ev y=.lit (.int k q)) (hK:WL P N ops rest (A.put d (.lit (.int k (min p q)))) K):
    WL P N ops (⟨d,.call { callee:=.builtin .min,args:= #[x,y],argTypes:=tys },ty,pos,after,none⟩ :: rest) A K:=by
  show opT P N _ A _
  exact opT_mm rfl hd hx hy (.inr ⟨rfl,rfl⟩) hK
theorem R_reslice {sz g o c lo n c':Nat} {xs:List V} {x y:Value} {Fx:List Nat} (hr:R w Pb (.own sz xs g o c) [x] Fx) (hle:n≤c') {B:Option Addr} (hy:y=.slice B n c') (hB:0 < c'→B=some ⟨g,o+lo * sz,none⟩)
    (hn:lo+n≤xs.length) (hc:lo+c'≤c) (ho:V.ownsL xs=false):∃ F',R w Pb (.own sz ((xs.drop lo).take n) g (o+lo * sz) c') [y] F'∧∀ z,z∈F'→z∈Fx:=by
  subst hy
  by_cases h0:c'=0
  · subst h0
    have:n=0:=by omega
    subst this
    exact ⟨[],.inl ⟨rfl,by simp,rfl,B,rfl⟩,by simp⟩
  · rcases hr with ⟨rfl,_⟩ | ⟨h1,h2,h3,_,hN,hP,flat,F',cells,hF,hrl,hb,hsz,hcell⟩
    · omega
    · have hF0:=RL_owns xs ho hrl
      subst hF0
      obtain ⟨c1,hr1,hc1⟩:=RL_drop xs lo hrl
      obtain ⟨c3,hr3,hc3⟩:=RL_take _ n hr1
      have hlen:((xs.drop lo).take n).length=n:=by simp; omega
      refine ⟨[g],.inr ⟨by omega,h2,by omega,?_,fun z hz=>hN z (List.mem_of_mem_drop (List.mem_of_mem_take hz)),hP,c3,[],cells,rfl,hr3,hb,?_,fun j u hu=>?_⟩,by rw [hF]; simp⟩
      · rw [hlen,hB (by omega)]
      · have:(lo+c') * sz≤c * sz:=Nat.mul_le_mul_right _ hc
        rw [Nat.add_mul] at this; omega
      · have:=hc1 j u (hc3 j u hu)
        rw [ns_take xs lo hN (by omega)] at this
        have:=hcell _ _ this
        rw [Nat.add_assoc]; exact this
theorem WL_reslice {K:AS→Prop} {i:Nat} {x:Operand} {ty:TypeId} {pos:String} {after:Array Edge} {rest:List Oper} (lo n c':Nat) {sz g o c:Nat} (xs:List V) (hi:i < N)
    (hx:A.ev x=.hd (.slot i) [] sz g o lo n c') (h2:A.get i=.own sz xs g o c) (hn:lo+n≤xs.length) (hc:lo+c'≤c) (ho:V.ownsL xs=false)
    (hK:WL P N ops rest (A.put (some i) (.own sz ((xs.drop lo).take n) g (o+lo * sz) c')) K):WL P N ops (⟨some i,.assign x,ty,pos,after,none⟩ :: rest) A K:=by
  show opT P N _ A _
  intro Pb Kb a w F Q hs
  obtain ⟨_,hr⟩:=ev_RV hs x
  rw [hx] at hr
  obtain ⟨_,hle,B,hv,hB⟩:=hr
  have hv:a.eval x=.slice B n c':=(List.cons.inj hv).1
  have hsl:=hs.slot i
  rw [h2] at hsl
  obtain ⟨F',hr',hsub⟩:=R_reslice (w:=w) (Pb:=Pb) hsl hle hv hB hn hc ho
  have hnd:F'.Nodup:=by
    rcases hr' with ⟨_,_,rfl,_⟩ | ⟨_,_,_,_,_,_,flat,F2,cells,hF,hrl,_⟩
    · exact List.nodup_nil
    · have:=RL_owns _ (by
        have:=ownsL_drop xs lo ho
        have h3:∀ (l:List V) (k:Nat),V.ownsL l=false→V.ownsL (l.take k)=false:=by
          intro l
          induction l with
          | nil=>intro k _; simp [V.ownsL]
          | cons v l ih=>
            intro k h
            cases k with
            | zero=>rfl
            | succ k=>simp only [List.take_succ_cons,V.ownsL,Bool.or_eq_false_iff] at h ⊢; exact ⟨h.1,ih k h.2⟩
        exact h3 _ n this) hrl
      subst this
      rw [hF]; simp
  unfold Oper.wp
  have:(execOp a.eval ⟨some i,.assign x,ty,pos,after,none⟩).run P w=.ok (.value (a.eval x)) w:=rfl
  rw [this,Oper.upon_value]
  exact ⟨_,Pb,Kb,_,hK,hs.put hi hr' (fun r hr g hg=>fun hg'=>hs.disj _ _ (Ne.symm hr) g (hsub g hg) hg') hnd (fun g hg=>hs.free _ g (hsub g hg)),fun _ h=>h,fun _ h=>h,fun _ h=>.inl h,Keep.refl _ _⟩
end
end Go.Abs
namespace Go.Abs
open Go Go.RowKit
section
variable {P:Program} {N:Nat} {ops:Array Oper} {A A' A1:AS}
variable {w:World} {Pb Kb:Nat→Prop} {a:Act} {F:Root→List Nat}
end
end Go.Abs
namespace Go.Abs
open Go Go.RowKit
section
variable {P:Program} {N:Nat} {ops:Array Oper} {A A' A1:AS}
def resY (A:AS):List ResultVar→Option (Prop×List (Root×V))
  | []=>some (True,[])
  | r :: rs=>match resY A rs with
    | some (C,xs)=>match r with
      | .tmp t=>some (C,(.slot t,A.get t) :: xs)
      | .cell t _=>match A.get t with
        | .ptr (.key k) [] g 0=>match lk k A.h with
          | some (g',v)=>some (g'=g∧C,(.key k,v) :: xs)
          | none=>none
        | _=>none
    | none=>none
theorem resY_ok:∀ {rs:List ResultVar} {C:Prop} {xs:List (Root×V)},resY A rs=some (C,xs)→C→resL A rs=some xs
  | [],C,xs,h,_=>by simp only [resY,Option.some.injEq,Prod.mk.injEq] at h; rw [← h.2]; rfl
  | r :: rs,C,xs,h,hC=>by
    simp only [resY] at h
    split at h
    case h_2=>simp at h
    rename_i C1 xs1 hr
    cases r with
    | tmp t=>
      simp only [Option.some.injEq,Prod.mk.injEq] at h
      obtain ⟨rfl,rfl⟩:=h
      simp only [resL,resC,resY_ok hr hC]
    | cell t T=>
      simp only at h
      split at h
      · rename_i k g hg
        split at h
        · rename_i g' v hk
          simp only [Option.some.injEq,Prod.mk.injEq] at h
          obtain ⟨rfl,rfl⟩:=h
          obtain ⟨rfl,hC⟩:=hC
          simp only [resL,resC,hg,hk,if_true,resY_ok hr hC]
        · simp at h
      · simp at h
end
end Go.Abs
namespace Go.Abs
open Go Go.RowKit
mutual
def V.kill:V→V
  | .own .. =>.dead
  | .ow .. =>.dead
  | .om .. =>.dead
  | .agg vs=>.agg (V.killL vs)
  | v=>v
def V.killL:List V→List V
  | []=>[]
  | v :: vs=>v.kill :: V.killL vs
end
section
variable {P:Program} {N:Nat} {ops:Array Oper} {A A' A1:AS}
variable {w:World} {Pb Kb:Nat→Prop} {a:Act} {F:Root→List Nat}
mutual
theorem kill_n:∀ v:V,v.kill.n=v.n
  | .own .. =>rfl
  | .ow .. =>rfl
  | .om .. =>rfl
  | .mp .. =>rfl
  | .agg vs=>by simp only [V.kill,V.n]; exact killL_n vs
  | .tup _=>rfl | .gv _ _=>rfl | .lit _=>rfl | .sl .. =>rfl | .hd .. =>rfl | .ptr .. =>rfl | .ep _=>rfl | .dead=>rfl
theorem killL_n:∀ vs:List V,V.ns (V.killL vs)=V.ns vs
  | []=>rfl
  | v :: vs=>by simp only [V.killL,V.ns,kill_n v,killL_n vs]
end
mutual
theorem R_kill:∀ (v:V) {cs F},R w Pb v cs F→R w Pb v.kill cs []
  | .own sz xs g o c,cs,F,h=>by
    rcases h with ⟨_,_,_,B,rfl⟩ | ⟨_,_,_,rfl,_⟩ <;> exact ⟨rfl,_,rfl,rfl⟩
  | .ow sz xs,cs,F,h=>by
    obtain ⟨g,o,c,h⟩:=h
    rcases h with ⟨_,_,_,B,rfl⟩ | ⟨_,_,_,rfl,_⟩ <;> exact ⟨rfl,_,rfl,rfl⟩
  | .om ..,_,_,h=>⟨rfl,_,h.2.1,rfl⟩
  | .mp ..,_,_,h=>⟨rfl,h.2⟩
  | .agg vs,cs,F,h=>by simp only [R,V.kill] at h ⊢; exact RL_kill vs h
  | .tup _,_,_,h=>by simp [R] at h
  | .gv _ _,_,_,h=>by simp [R] at h
  | .lit x,_,_,h=>⟨h.1,h.2.1,rfl⟩
  | .sl ..,_,_,h=>⟨rfl,h.2⟩
  | .hd ..,_,_,h=>⟨rfl,h.2⟩
  | .ptr ..,_,_,h=>⟨rfl,h.2⟩
  | .ep _,_,_,h=>⟨rfl,h.2⟩
  | .dead,_,_,h=>⟨rfl,h.2⟩
theorem RL_kill:∀ (vs:List V) {cs F},RL w Pb vs cs F→RL w Pb (V.killL vs) cs []
  | [],_,_,h=>⟨h.1,rfl⟩
  | v :: vs,_,_,h=>by
    obtain ⟨c1,c2,F1,F2,rfl,rfl,h1,h2⟩:=h
    exact ⟨c1,c2,[],[],rfl,rfl,R_kill v h1,RL_kill vs h2⟩
end
def Parts (F F1 F2:List Nat):Prop:=(∀ y,y∈F1→y∈F)∧(∀ y,y∈F2→y∈F)∧(F.Nodup→F1.Nodup∧F2.Nodup∧∀ y,y∈F1→y ∉ F2)
theorem Parts.mid {X F Y F1 F2:List Nat} (h:Parts F F1 F2):Parts (X++F++Y) (X++F1++Y) F2:=by
  obtain ⟨h1,h2,h3⟩:=h
  refine ⟨fun y hy=>?_,fun y hy=>by simp [h2 y hy],fun hnd=>?_⟩
  · simp only [List.mem_append] at hy ⊢
    rcases hy with (hy | hy) | hy
    · exact .inl (.inl hy)
    · exact .inl (.inr (h1 y hy))
    · exact .inr hy
  · simp only [List.nodup_append,List.mem_append] at hnd ⊢
    obtain ⟨⟨n1,n2,n3⟩,n4,n5⟩:=hnd
    obtain ⟨k1,k2,k3⟩:=h3 n2
    refine ⟨⟨⟨n1,k1,fun p hp q hq=>n3 p hp q (h1 q hq)⟩,n4,fun p hp q hq=>?_⟩,k2,fun y hy hy2=>?_⟩
    · rcases hp with hp | hp
      · exact n5 p (.inl hp) q hq
      · exact n5 p (.inr (h1 p hp)) q hq
    · rcases hy with (hy | hy) | hy
      · exact n3 y hy y (h2 y hy2) rfl
      · exact k3 y hy hy2
      · exact n5 y (.inr (h2 y hy2)) y hy rfl
theorem RL_splitAt:∀ (vs:List V) {cs F} {j:Nat} {u u':V},RL w Pb vs cs F→vs[j]? =some u→∃ c Fa Fj Fb,F=Fa++Fj++Fb∧R w Pb u c Fj∧(∀ i x,c[i]? =some x→cs[V.ns (vs.take j)+i]? =some x)∧
    ∀ Fj',R w Pb u' c Fj'→RL w Pb (vs.set j u') cs (Fa++Fj'++Fb)
  | [],_,_,_,_,_,_,h=>by simp at h
  | v :: vs,cs,F,0,u,u',h,hj=>by
    obtain ⟨c1,c2,F1,F2,rfl,rfl,h1,h2⟩:=h
    simp at hj; subst hj
    refine ⟨c1,[],F1,F2,by simp,h1,fun i x hx=>?_,fun Fj' hr=>⟨c1,c2,Fj',F2,rfl,by simp,hr,h2⟩⟩
    simp only [List.take_zero,V.ns,Nat.zero_add]
    rw [List.getElem?_append_left (List.getElem?_eq_some_iff.1 hx).1]; exact hx
  | v :: vs,cs,F,j+1,u,u',h,hj=>by
    obtain ⟨c1,c2,F1,F2,rfl,rfl,h1,h2⟩:=h
    obtain ⟨c,Fa,Fj,Fb,rfl,k1,k2,k3⟩:=RL_splitAt vs (u':=u') h2 (by simpa using hj)
    refine ⟨c,F1++Fa,Fj,Fb,by simp,k1,fun i x hx=>?_,fun Fj' hr=>⟨c1,c2,F1,Fa++Fj'++Fb,rfl,by simp,h1,k3 Fj' hr⟩⟩
    have hl:=R_len _ h1
    simp only [List.take_succ_cons,V.ns]
    rw [List.getElem?_append_right (by omega)]
    rw [show v.n+V.ns (vs.take j)+i - c1.length=V.ns (vs.take j)+i by omega]
    exact k2 i x hx
theorem Parts.refl (F:List Nat):Parts F [] F:=⟨by simp,fun _ h=>h,fun h=>⟨List.nodup_nil,h,by simp⟩⟩
theorem split_R:∀ (p:List Nat) {v u:V} {g o g' o':Nat} {cs:List Value} {F:List Nat} {cells:Array Value},R w Pb v cs F→Blk w g cells→(∀ j x,cs[j]? =some x→cells[o+j]? =some x)→V.at g o v p=some (g',o',u)→
    ∃ F1 Fu,R w Pb (v.set p u.kill) cs F1∧At w Pb u g' o' Fu∧Parts F F1 Fu
  | [],v,u,g,o,g',o',cs,F,cells,h,hb,hc,e=>by
    simp only [V.at,Option.some.injEq,Prod.mk.injEq] at e
    obtain ⟨rfl,rfl,rfl⟩:=e
    exact ⟨[],F,by simpa only [V.set] using R_kill v h,⟨cs,cells,hb,h,hc⟩,Parts.refl F⟩
  | j :: p,v,u,g,o,g',o',cs,F,cells,h,hb,hc,e=>by
    cases v with
    | agg vs=>
      simp only [V.at] at e
      split at e
      case h_2=>simp at e
      rename_i x hx
      simp only [R] at h
      obtain ⟨c,Fa,Fj,Fb,rfl,k1,k2,k3⟩:=RL_splitAt vs (u':=x.set p u.kill) h hx
      obtain ⟨F1,Fu,m1,m2,m3⟩:=split_R p k1 hb (o:=o+V.ns (vs.take j)) (fun i y hy=>by rw [Nat.add_assoc]; exact hc _ _ (k2 i y hy)) e
      exact ⟨Fa++F1++Fb,Fu,by simp only [V.set,hx,R]; exact k3 F1 m1,m2,m3.mid⟩
    | own sz xs g0 o0 c0=>
      simp only [V.at] at e
      split at e
      case h_2=>simp at e
      rename_i x hx
      rcases h with ⟨_,rfl,_⟩ | ⟨h1,h2,h3,h4,hN,h5,flat,F',cells0,rfl,hr,hb0,hsz,hcell⟩
      · simp at hx
      · obtain ⟨c,Fa,Fj,Fb,rfl,k1,k2,k3⟩:=RL_splitAt xs (u':=x.set p u.kill) hr hx
        have hj:j < xs.length:=(List.getElem?_eq_some_iff.1 hx).1
        rw [ns_take xs j hN (by omega)] at k2
        obtain ⟨F1,Fu,m1,m2,m3⟩:=split_R p k1 hb0 (o:=o0+j * sz) (fun i y hy=>by rw [Nat.add_assoc]; exact hcell _ _ (k2 i y hy)) e
        have hn:(x.set p u.kill).n=x.n:=V_set_n p e (kill_n u)
        refine ⟨g0 :: (Fa++F1++Fb),Fu,?_,m2,?_⟩
        · simp only [V.set,hx]
          refine .inr ⟨h1,h2,by simpa using h3,by simpa using h4,fun y hy=>?_,h5,flat,_,cells0,rfl,k3 F1 m1,hb0,hsz,hcell⟩
          rcases List.mem_or_eq_of_mem_set hy with hy | rfl
          · exact hN y hy
          · rw [hn]; exact hN x (List.mem_of_getElem? hx)
        · have:=Parts.mid (X:=g0 :: Fa) (Y:=Fb) m3
          simpa using this
    | _=>simp [V.at] at e
theorem split_own {j:Nat} {p:List Nat} {u:V} {g o g' o' sz g0 o0 c0:Nat} {xs:List V} {cs:List Value} {F:List Nat} (h:R w Pb (.own sz xs g0 o0 c0) cs F) (e:V.at g o (.own sz xs g0 o0 c0) (j :: p)=some (g',o',u)):
    ∃ F1 Fu,R w Pb ((V.own sz xs g0 o0 c0).set (j :: p) u.kill) cs F1∧At w Pb u g' o' Fu∧Parts F F1 Fu:=by
  simp only [V.at] at e
  split at e
  case h_2=>simp at e
  rename_i x hx
  rcases h with ⟨_,rfl,_⟩ | ⟨h1,h2,h3,h4,hN,h5,flat,F',cells0,rfl,hr,hb0,hsz,hcell⟩
  · simp at hx
  · obtain ⟨c,Fa,Fj,Fb,rfl,k1,k2,k3⟩:=RL_splitAt xs (u':=x.set p u.kill) hr hx
    have hj:j < xs.length:=(List.getElem?_eq_some_iff.1 hx).1
    rw [ns_take xs j hN (by omega)] at k2
    obtain ⟨F1,Fu,m1,m2,m3⟩:=split_R p k1 hb0 (o:=o0+j * sz) (fun i y hy=>by rw [Nat.add_assoc]; exact hcell _ _ (k2 i y hy)) e
    have hn:(x.set p u.kill).n=x.n:=V_set_n p e (kill_n u)
    refine ⟨g0 :: (Fa++F1++Fb),Fu,?_,m2,?_⟩
    · simp only [V.set,hx]
      refine .inr ⟨h1,h2,by simpa using h3,by simpa using h4,fun y hy=>?_,h5,flat,_,cells0,rfl,k3 F1 m1,hb0,hsz,hcell⟩
      rcases List.mem_or_eq_of_mem_set hy with hy | rfl
      · exact hN y hy
      · rw [hn]; exact hN x (List.mem_of_getElem? hx)
    · have:=Parts.mid (X:=g0 :: Fa) (Y:=Fb) m3
      simpa using this
theorem SIM.split (hs:SIM N Pb Kb A a w F) {r:Root} {p:List Nat} {g o:Nat} {u:V} (hat:A.at r p=some (g,o,u)):
    ∃ Fr Fu,SIM N Pb Kb (A.setAt r p u.kill) a w (updF F r Fr)∧At w Pb u g o Fu∧Fu.Nodup∧(∀ r' y,y∈Fu→y ∉ updF F r Fr r')∧(∀ y,y∈Fu→¬ Kb y∧y < w.heap.size):=by
  have main:∃ Fr Fu,At w Pb u g o Fu∧Parts (F r) Fr Fu∧(match r with
       | .key k=> ∀ g0 t,lk k A.h=some (g0,t)→∃ F',Fr=g0 :: F'∧At w Pb (t.set p u.kill) g0 0 F'
       | .slot i=>RV w Pb ((A.get i).set p u.kill) (a.tmps.getD i undef) Fr):=by
    cases r with
    | key k=>
      simp only [AS.at] at hat
      split at hat
      · rename_i g0 t hk
        obtain ⟨F0,hF,cs,cells,hb,hr,hc⟩:=hs.root k g0 t hk
        obtain ⟨F1,Fu,m1,m2,m3⟩:=split_R p hr hb hc hat
        refine ⟨g0 :: F1,Fu,m2,?_,fun g1 t1 hk1=>?_⟩
        · rw [hF]
          have:=Parts.mid (X:=[g0]) (Y:=[]) m3
          simpa using this
        · rw [hk] at hk1
          simp only [Option.some.injEq,Prod.mk.injEq] at hk1
          obtain ⟨rfl,rfl⟩:=hk1
          exact ⟨F1,rfl,cs,cells,hb,m1,hc⟩
      · simp at hat
    | slot i=>
      simp only [AS.at] at hat
      split at hat
      · rename_i sz xs g0 o0 c0 j p' hg _
        have hr:=hs.slot i
        rw [hg] at hr
        obtain ⟨F1,Fu,m1,m2,m3⟩:=split_own (w:=w) (Pb:=Pb) hr hat
        refine ⟨F1,Fu,m2,m3,?_⟩
        simp only [hg]
        have e:∃ ys,(V.own sz xs g0 o0 c0).set (j :: p') u.kill=.own sz ys g0 o0 c0:=by
          simp only [V.set]; split
          · exact ⟨_,rfl⟩
          · exact ⟨_,rfl⟩
        obtain ⟨ys,e⟩:=e
        rw [e] at m1 ⊢
        exact m1
      · simp at hat
  obtain ⟨Fr,Fu,hA,hP,hm⟩:=main
  obtain ⟨p1,p2,p3⟩:=hP
  obtain ⟨n1,n2,n3⟩:=p3 (hs.nodup r)
  refine ⟨Fr,Fu,⟨hs.size,hs.defers,fun i=>?_,fun k g0 t hk=>?_,fun r1 r2 hne y hy=>?_,fun r1=>?_,fun r1 y hy=>?_,hs.sub,hs.bound⟩,hA,n2,fun r' y hy=>?_,fun y hy=>hs.free r y (p2 y hy)⟩
  · by_cases hri:r=.slot i
    · subst hri
      simp only [updF,if_true,AS.setAt,AS.get,lk,Option.getD_some]
      exact hm
    · simp only [updF,if_neg (Ne.symm hri)]
      have:(A.setAt r p u.kill).get i=A.get i:=by
        cases r with
        | key k=>simp only [AS.setAt]; split <;> rfl
        | slot j=>simp only [AS.setAt,AS.get,lk]; rw [if_neg (fun c=>hri (by rw [c]))]
      rw [this]
      exact hs.slot i
  · by_cases hrk:r=.key k
    · subst hrk
      simp only [updF,if_true]
      cases hk0:lk k A.h with
      | none=>
        simp only [AS.setAt,hk0] at hk
        cases hk
      | some gt=>
        obtain ⟨g1,t1⟩:=gt
        simp only [AS.setAt,hk0,lk,if_true,Option.some.injEq,Prod.mk.injEq] at hk
        obtain ⟨rfl,rfl⟩:=hk
        exact hm g1 t1 hk0
    · simp only [updF,if_neg (Ne.symm hrk)]
      refine hs.root k g0 t ?_
      rw [← hk]
      cases r with
      | key k'=>
        have hne:k≠k':=fun c=>hrk (by rw [c])
        simp only [AS.setAt]
        split
        · simp only [lk]; rw [if_neg hne]
        · rfl
      | slot j=>rfl
  · simp only [updF] at hy ⊢
    by_cases e1:r1=r
    · subst e1
      rw [if_pos rfl] at hy
      rw [if_neg (Ne.symm hne)]
      exact hs.disj r1 r2 hne y (p1 y hy)
    · rw [if_neg e1] at hy
      by_cases e2:r2=r
      · subst e2
        rw [if_pos rfl]
        exact fun c=>hs.disj r1 r2 hne y hy (p1 y c)
      · rw [if_neg e2]; exact hs.disj r1 r2 hne y hy
  · simp only [updF]; split
    · exact n1
    · exact hs.nodup r1
  · simp only [updF] at hy; split at hy
    · exact hs.free r y (p1 y hy)
    · exact hs.free r1 y hy
  · simp only [updF]; split
    · exact fun c=>n3 y c hy
    · rename_i hne; exact fun c=>hs.disj r r' (Ne.symm hne) y (p2 y hy) c
end
end Go.Abs
namespace Go.Abs
open Go Go.RowKit
mutual
def wk:V→V→V
  | .own sz xs g o c,u=>match u with | .ow _ _=>.ow sz xs | _=>.own sz xs g o c
  | .sl f xs,u=>match u with | .sl false _=>.sl false xs | .dead=>.dead | _=>.sl f xs
  | .ptr r p g o,u=>match u with | .ptr r' p' _ _=>.ptr r' p' g o | .dead=>.dead | _=>.ptr r p g o
  | .lit x,u=>match u with
    | .ptr r' p' _ _=>match x with
      | .pointer (some ⟨g,o,none⟩)=>.ptr r' p' g o
      | _=>.lit x
    | .dead=>if x.oneCell' then .dead else .lit x
    | _=>.lit x
  | .hd r p sz g o lo n c,u=>match u with | .hd r' p' _ _ _ _ _ _=>.hd r' p' sz g o lo n c | .dead=>.dead | _=>.hd r p sz g o lo n c
  | .mp es,u=>match u with | .dead=>.dead | _=>.mp es
  | .agg vs,u=>match u with | .agg us=>.agg (wkL vs us) | _=>.agg vs
  | .tup vs,u=>match u with | .tup us=>.tup (wkL vs us) | _=>.tup vs
  | v,_=>v
def wkL:List V→List V→List V
  | v :: vs,u :: us=>wk v u :: wkL vs us
  | vs,_=>vs
end
section
variable {w w':World} {Pb Kb Pb':Nat→Prop} {N:Nat} {A A' B:AS} {a:Act} {F:Root→List Nat} {P:Program} {ops:Array Oper}
mutual
theorem R_wk:∀ (v u:V) {cs F},R w Pb v cs F→R w Pb (wk v u) cs F
  | .own sz xs g o c,u,cs,F,h=>by
    simp only [wk]; split
    · exact R_ow.2 ⟨_,_,_,h⟩
    · exact h
  | .sl f xs,u,cs,F,h=>by
    simp only [wk]; split
    · obtain ⟨hF,B,c,hc,hl,_,hx⟩:=h
      exact ⟨hF,B,c,hc,hl,(fun h=>by cases h),hx⟩
    · obtain ⟨hF,B,c,rfl,_⟩:=h; exact ⟨hF,_,rfl,rfl⟩
    · exact h
  | .ptr r p g o,u,cs,F,h=>by
    simp only [wk]; split
    · exact h
    · obtain ⟨hF,rfl⟩:=h; exact ⟨hF,_,rfl,rfl⟩
    · exact h
  | .lit x,u,cs,F,h=>by
    simp only [wk]; split
    · split
      · obtain ⟨_,rfl,hF⟩:=h; exact ⟨hF,rfl⟩
      · exact h
    · split
      · rename_i hx; obtain ⟨_,rfl,hF⟩:=h; exact ⟨hF,x,rfl,hx⟩
      · exact h
    · exact h
  | .hd r p sz g o lo n c,u,cs,F,h=>by
    simp only [wk]; split
    · exact h
    · obtain ⟨hF,_,B,rfl,_⟩:=h; exact ⟨hF,_,rfl,rfl⟩
    · exact h
  | .mp es,u,cs,F,h=>by
    simp only [wk]; split
    · obtain ⟨hF,g,rfl,_⟩:=h; exact ⟨hF,_,rfl,rfl⟩
    · exact h
  | .agg vs,u,cs,F,h=>by
    simp only [wk]; split
    · rename_i us; simp only [R] at h ⊢; exact RL_wk vs us h
    · exact h
  | .tup vs,_,_,_,h=>by simp [R] at h
  | .gv _ _,_,_,_,h=>by simp [R] at h
  | .ow ..,u,_,_,h=>by simpa [wk] using h
  | .om ..,u,_,_,h=>by simpa [wk] using h
  | .ep _,u,_,_,h=>by simpa [wk] using h
  | .dead,u,_,_,h=>by simpa [wk] using h
theorem RL_wk:∀ (vs us:List V) {cs F},RL w Pb vs cs F→RL w Pb (wkL vs us) cs F
  | [],us,_,_,h=>by simpa [wkL] using h
  | v :: vs,[],_,_,h=>by simpa [wkL] using h
  | v :: vs,u :: us,cs,F,h=>by
    obtain ⟨c1,c2,F1,F2,rfl,rfl,h1,h2⟩:=h
    exact ⟨c1,c2,F1,F2,rfl,rfl,R_wk v u h1,RL_wk vs us h2⟩
end
theorem RVc_wk {v:V} (u:V) {x:Value} {F1:List Nat} (h:RVc w Pb v x F1):RVc w Pb (wk v u) x F1:=by
  cases v with
  | agg us=>
    obtain ⟨cs,rfl,h⟩:=h
    simp only [wk]; split
    · exact ⟨cs,rfl,RL_wk _ _ h⟩
    · exact ⟨cs,rfl,h⟩
  | dead=>simpa [wk] using h
  | tup vs=>simp [RVc,R] at h
  | gv b u=>simp [RVc,R] at h
  | ow sz xs=>simpa [wk] using h
  | om es g=>simpa [wk] using h
  | ep v=>simpa [wk] using h
  | own sz xs g o c=>
    have:=R_wk (w:=w) (Pb:=Pb) (.own sz xs g o c) u h
    simp only [wk] at this ⊢
    split at this <;> simpa [RVc] using this
  | lit y=>
    have h:R w Pb (.lit y) [x] F1:=h
    have hh:=h
    obtain ⟨ho,e,hF⟩:=hh
    simp only [List.cons.injEq,and_true] at e
    subst e hF
    cases u with
    | ptr r' p' g' o'=>
      have:=R_wk (w:=w) (Pb:=Pb) (.lit x) (.ptr r' p' g' o') h
      simp only [wk] at this ⊢
      split at this
      · exact this
      · exact this
    | dead=>simp only [wk,ho,if_true]; rfl
    | _=>exact h
  | sl f xs=>
    have:=R_wk (w:=w) (Pb:=Pb) (.sl f xs) u h
    simp only [wk] at this ⊢
    split at this
    all_goals first | simpa [RVc] using this | (simp only [RVc]; exact this.1)
  | ptr r p g o=>
    have:=R_wk (w:=w) (Pb:=Pb) (.ptr r p g o) u h
    simp only [wk] at this ⊢
    split at this
    all_goals first | simpa [RVc] using this | (simp only [RVc]; exact this.1)
  | hd r p sz g o lo n c=>
    have:=R_wk (w:=w) (Pb:=Pb) (.hd r p sz g o lo n c) u h
    simp only [wk] at this ⊢
    split at this
    all_goals first | simpa [RVc] using this | (simp only [RVc]; exact this.1)
  | mp es=>
    have:=R_wk (w:=w) (Pb:=Pb) (.mp es) u h
    simp only [wk] at this ⊢
    split at this
    all_goals first | simpa [RVc] using this | (simp only [RVc]; exact this.1)
theorem RVs_c:∀ (vs:List V) {xs:List Value} {F1:List Nat},RVs w Pb vs xs F1↔match vs with | []=>xs=[]∧F1=[] | v :: vs=> ∃ x xs' Fa Fb,xs=x :: xs'∧F1=Fa++Fb∧RVc w Pb v x Fa∧RVs w Pb vs xs' Fb
  | [],_,_=>Iff.rfl
  | v :: vs,_,_=>Iff.rfl
theorem RVs_wk:∀ (vs us:List V) {xs F1},RVs w Pb vs xs F1→RVs w Pb (wkL vs us) xs F1
  | [],us,_,_,h=>by simpa [wkL] using h
  | v :: vs,[],_,_,h=>by simpa [wkL] using h
  | v :: vs,u :: us,xs,F1,h=>by
    obtain ⟨x,xs',Fa,Fb,rfl,rfl,h1,h2⟩:=(RVs_c (v :: vs)).1 h
    exact (RVs_c (wk v u :: wkL vs us)).2 ⟨x,xs',Fa,Fb,rfl,rfl,RVc_wk u h1,RVs_wk vs us h2⟩
theorem RV_wk {v:V} (u:V) {x:Value} {F1:List Nat} (h:RV w Pb v x F1):RV w Pb (wk v u) x F1:=by
  by_cases ht:∃ vs,v=.tup vs
  · obtain ⟨vs,rfl⟩:=ht
    obtain ⟨xs,rfl,h⟩:=h
    simp only [wk]; split
    · exact ⟨xs,rfl,RVs_wk _ _ h⟩
    · exact ⟨xs,rfl,h⟩
  by_cases hg:∃ b u',v=.gv b u'
  · obtain ⟨b,u',rfl⟩:=hg; simpa [wk] using h
  have h1:=RVc_of h ⟨fun us e=>ht ⟨us,e⟩,fun b u e=>hg ⟨b,u,e⟩⟩
  have h2:=RVc_wk u h1
  have back:∀ z:V,(∀ us,z≠.tup us)→(∀ b u,z≠.gv b u)→RVc w Pb z x F1→RV w Pb z x F1:=by
    intro z z1 z2 hz
    cases z with
    | tup us=>exact absurd rfl (z1 us)
    | gv b u=>exact absurd rfl (z2 b u)
    | _=>exact hz
  refine back _ (fun us e=>?_) (fun b u e=>?_) h2
  · cases v <;> simp only [wk] at e <;> (repeat' split at e) <;> simp_all
  · cases v <;> simp only [wk] at e <;> (repeat' split at e) <;> simp_all
theorem At_wk {v:V} (u:V) {g o:Nat} {F1:List Nat} (h:At w Pb v g o F1):At w Pb (wk v u) g o F1:=by
  obtain ⟨cs,cells,hb,hr,hc⟩:=h
  exact ⟨cs,cells,hb,R_wk v u hr,hc⟩
def leA (A:AS):List (Nat×V)→Prop
  | []=>True
  | (k,v) :: r=>wk (A.get k) v=v∧leA A r
def leR (A:AS):List (Nat×(Nat×V))→Prop
  | []=>True
  | (k,(g,v)) :: r=>(match lk k A.h with | some (g',v')=>(g',wk v' v)=(g,v) | none=>False)∧leR A r
theorem leA_lk:∀ (l:List (Nat×V)) {i:Nat} {v:V},leA A l→lk i l=some v→wk (A.get i) v=v
  | [],_,_,_,h=>by simp [lk] at h
  | (k,u) :: r,i,v,h,e=>by
    simp only [lk] at e
    split at e
    · rename_i e'; subst e'; cases e; exact h.1
    · exact leA_lk r h.2 e
theorem leR_lk:∀ (l:List (Nat×(Nat×V))) {i g:Nat} {v:V},leR A l→lk i l=some (g,v)→∃ v',lk i A.h=some (g,v')∧wk v' v=v
  | [],_,_,_,_,h=>by simp [lk] at h
  | (k, (g0,u)) :: r,i,g,v,h,e=>by
    simp only [lk] at e
    split at e
    · rename_i e'; subst e'; cases e
      have h1:=h.1
      split at h1
      · rename_i g' v' hk
        simp only [Prod.mk.injEq] at h1
        exact ⟨v',by rw [hk,h1.1],h1.2⟩
      · exact h1.elim
    · exact leR_lk r h.2 e
open Classical in
theorem SIM.leW (hs:SIM N Pb Kb A a w F) (h:leA A B.t) (k:leR A B.h):∃ F',SIM N Pb Kb B a w F':=by
  refine ⟨fun r=>match r with | .slot i=>if lk i B.t=none then [] else F (.slot i) | .key k=>if lk k B.h=none then [] else F (.key k),?_⟩
  have key:∀ r g,g∈(match r with | .slot i=>if lk i B.t=none then [] else F (.slot i) | .key k=>if lk k B.h=none then [] else F (.key k):List Nat)→g∈F r:=by
    intro r g hg
    cases r <;> simp only at hg <;> split at hg <;> simp_all
  refine ⟨hs.size,hs.defers,fun i=>?_,fun k0 g v hk=>?_,fun r r' hne g hg=>?_,fun r=>?_,fun r g hg=>hs.free r g (key r g hg),hs.sub,hs.bound⟩
  · simp only
    cases e:lk i B.t with
    | none=>simp only [if_true,AS.get,e]; rfl
    | some v=>
      rw [if_neg (by simp)]
      have:=RV_wk v (hs.slot i)
      rw [leA_lk _ h e] at this
      simpa [AS.get,e] using this
  · simp only
    rw [if_neg (by rw [hk]; simp)]
    obtain ⟨v',e1,e2⟩:=leR_lk _ k hk
    obtain ⟨F',hF,hA⟩:=hs.root k0 g v' e1
    exact ⟨F',hF,by have:=At_wk v hA; rw [e2] at this; exact this⟩
  · exact fun hg'=>hs.disj r r' hne g (key r g hg) (key r' g hg')
  · cases r <;> simp only <;> split <;> first | exact List.nodup_nil | exact hs.nodup _
def Hx (N:Nat) (A:AS) (K:AS→Prop):Prop:=
  ∀ Pb Kb a w F,SIM N Pb Kb A a w F→∃ B Pb' Kb' F',K B∧SIM N Pb' Kb' B a w F'∧(∀ g,Pb g→Pb' g)∧(∀ g,Kb g→Kb' g)∧(∀ g,Pb' g→Pb g∨¬ Kb g)
theorem Hx.of {K:AS→Prop} (h:K A):Hx N A K:=fun Pb Kb _ _ F hs=>⟨A,Pb,Kb,F,h,hs,fun _ h=>h,fun _ h=>h,fun _ h=>.inl h⟩
theorem Hx.mono {K K':AS→Prop} (h:Hx N A K) (hK:∀ B,K B→K' B):Hx N A K':=fun Pb Kb a w F hs=>by
  obtain ⟨B,Pb',Kb',F',h1,h2⟩:=h Pb Kb a w F hs
  exact ⟨B,Pb',Kb',F',hK B h1,h2⟩
theorem Hx.bind {K K':AS→Prop} (h:Hx N A K) (hK:∀ B,K B→Hx N B K'):Hx N A K':=fun Pb Kb a w F hs=>by
  obtain ⟨B,Pb',Kb',F',h1,h2,h3,h4,h5⟩:=h Pb Kb a w F hs
  obtain ⟨C,Pb2,Kb2,F2,k1,k2,k3,k4,k5⟩:=hK B h1 Pb' Kb' a w F' h2
  exact ⟨C,Pb2,Kb2,F2,k1,k2,fun g hg=>k3 g (h3 g hg),fun g hg=>k4 g (h4 g hg),fun g hg=>by
    rcases k5 g hg with h | h
    · exact h5 g h
    · exact .inr fun c=>h (h4 g c)⟩
theorem Hx.simple {K:AS→Prop} (hK:K B) (h:∀ Pb Kb a w F,SIM N Pb Kb A a w F→∃ F',SIM N Pb Kb B a w F'):Hx N A K:=fun Pb Kb a w F hs=>by
  obtain ⟨F',hs'⟩:=h Pb Kb a w F hs
  exact ⟨B,Pb,Kb,F',hK,hs',fun _ h=>h,fun _ h=>h,fun _ h=>.inl h⟩
theorem Nx.hint {K:AS→Prop} {a':Act} (h:Nx N Pb Kb w (fun B=>Hx N B K) a' w'):Nx N Pb Kb w K a' w':=by
  obtain ⟨A',Pb',Kb',F',h1,h2,h3,h4,h5,h6⟩:=h
  obtain ⟨B,Pb2,Kb2,F2,k1,k2,k3,k4,k5⟩:=h1 Pb' Kb' a' w' F' h2
  exact ⟨B,Pb2,Kb2,F2,k1,k2,fun g hg=>k3 g (h3 g hg),fun g hg=>k4 g (h4 g hg),fun g hg=>by
    rcases k5 g hg with h | h
    · exact h5 g h
    · exact .inr fun c=>h (h4 g c),h6⟩
theorem T_hint {c:Code} {Q:Exit→AS→Prop} (h:Hx N A fun B=>T P N c B Q):T P N c A Q:=by
  intro Pb Kb a w F hs
  obtain ⟨B,Pb',Kb',F',h1,h2,h3,h4,h5⟩:=h Pb Kb a w F hs
  exact wp_mono (h1 Pb' Kb' a w F' h2) fun e a' w' hn=>Nx.step h3 h4 h5 (Keep.refl _ _) hn
theorem T_hintPost {c:Code} {Q:Exit→AS→Prop} (h:T P N c A fun e B=>Hx N B (Q e)):T P N c A Q:=
  fun Pb Kb a w F hs=>wp_mono (h Pb Kb a w F hs) fun _ _ _ hn=>hn.hint
theorem WL_hint {o:Oper} {l:List Oper} {K:AS→Prop} (hg:o.guard=none) (h:Hx N A fun B=>WL P N ops (o :: l) B K):WL P N ops (o :: l) A K:=by
  simp only [WL,gd,hg] at h ⊢
  intro Pb Kb a w F Q hs
  obtain ⟨B,Pb',Kb',F',h1,h2,h3,h4,h5⟩:=h Pb Kb a w F hs
  refine Oper.wp_mono (fun a' w' hn=>?_) (h1 Pb' Kb' a w F' Q h2)
  exact Nx.step h3 h4 h5 (Keep.refl _ _) hn
theorem T_leW {c:Code} {Q:Exit→AS→Prop} (h:leA A B.t) (k:leR A B.h) (hT:T P N c B Q):T P N c A Q:=
  T_hint (Hx.simple hT fun _ _ _ _ _ hs=>hs.leW h k)
end
end Go.Abs
namespace Go.Abs
open Go Go.RowKit
section
variable {w w':World} {Pb Kb Pb':Nat→Prop} {N:Nat} {A A' B:AS} {a:Act} {F:Root→List Nat} {P:Program} {ops:Array Oper}
structure Ini (w:World) (Pb Kb:Nat→Prop) (args:List V) (cargs:List Value) (H:List (Nat×(Nat×V))) (F:Root→List Nat):Prop where
  len:cargs.length=args.length
  slot:∀ i v x,args[i]? =some v→cargs[i]? =some x→RV w Pb v x (F (.slot i))
  root:∀ k g v,lk k H=some (g,v)→∃ F',F (.key k)=g :: F'∧At w Pb v g 0 F'
  rest:∀ i,args.length≤i→F (.slot i)=[]
  disj:∀ r r',r≠r'→∀ g,g∈F r→g ∉ F r'
  nodup:∀ r,(F r).Nodup
  free:∀ r g,g∈F r→¬ Kb g∧g < w.heap.size
  sub:∀ g,Pb g→Kb g
  bound:∀ g,Kb g→g < w.heap.size
structure Fin (w w':World) (Pb Kb:Nat→Prop) (r:V) (x:Value) (H:List (Nat×(Nat×V))) (Pb' Kb':Nat→Prop) (F:Root→List Nat):Prop where
  val:RV w' Pb' r x (F (.slot 0))
  root:∀ k g v,lk k H=some (g,v)→∃ F',F (.key k)=g :: F'∧At w' Pb' v g 0 F'
  disj:∀ r r',r≠r'→∀ g,g∈F r→g ∉ F r'
  nodup:∀ r,(F r).Nodup
  free:∀ r g,g∈F r→¬ Kb' g∧g < w'.heap.size
  sub:∀ g,Pb' g→Kb' g
  bound:∀ g,Kb' g→g < w'.heap.size
  mP:∀ g,Pb g→Pb' g
  mK:∀ g,Kb g→Kb' g
  newP:∀ g,Pb' g→Pb g∨¬ Kb g
  keep:Keep Kb w w'
def PF (P:Program) (f:FuncId) (args:List V) (H:List (Nat×(Nat×V))) (Q:V→List (Nat×(Nat×V))→Prop):Prop:=
  entersFn P f∧∀ (w:World) (Pb Kb:Nat→Prop) (cargs:List Value) (F:Root→List Nat),Ini w Pb Kb args cargs H F→
    Calls P f cargs.toArray w fun e w'=> ∃ r x H' Pb' Kb' F',e=.returned x∧Q r H'∧Fin w w' Pb Kb r x H' Pb' Kb' F'
theorem PF.mono {f:FuncId} {args:List V} {H:List (Nat×(Nat×V))} {Q Q':V→List (Nat×(Nat×V))→Prop} (h:PF P f args H Q) (hQ:∀ r H,Q r H→Q' r H):PF P f args H Q':=
  ⟨h.1,fun w Pb Kb cargs F hi=>(h.2 w Pb Kb cargs F hi).mono fun _ _ ⟨r,x,H',Pb',Kb',F',e,q,rest⟩=>⟨r,x,H',Pb',Kb',F',e,hQ r H' q,rest⟩⟩
def retF (P:Program) (rs:List ResultVar) (Q:V→List (Nat×(Nat×V))→Prop):Exit→AS→Prop:=fun e A=>
  (e=.normal∨e=.ret)∧∃ xs H,resL A rs=some xs∧okRes P rs xs∧(xs.map (·.1)).Nodup∧leR A H∧(∀ k,lk k H≠none→Root.key k ∉ xs.map (·.1))∧Q (one (xs.map (·.2))) H
open Classical in
theorem PF_of_T {f : FuncId} {fn:Func} {c:Code} {args:List V} {H:List (Nat×(Nat×V))} {Q:V→List (Nat×(Nat×V))→Prop} (hf:P.funcs[f]? =some fn) (hb:fn.body=some c) (he:entersFn P f) (hN:args.length≤fn.ntmps)
    (h:T P fn.ntmps c ⟨enum 0 args,H⟩ (retF P fn.results.toList Q)):PF P f args H Q:=by
  refine ⟨he,fun w Pb Kb cargs F hi=>?_⟩
  have hlen:=hi.len
  refine calls_of_wp hf hb ?_
  have hs:SIM fn.ntmps Pb Kb ⟨enum 0 args,H⟩ { tmps:=cargs.toArray++Array.replicate (fn.ntmps - cargs.toArray.size) undef,defers:=[] } w F:=by
    refine ⟨by simp; omega,rfl,fun i=>?_,hi.root,hi.disj,hi.nodup,hi.free,hi.sub,hi.bound⟩
    simp only [AS.get,lk_enum,Nat.zero_le,if_true,Nat.sub_zero]
    cases hii:args[i]? with
    | none=>
      have:args.length≤i:=by simpa using hii
      rw [hi.rest i this]; rfl
    | some v=>
      have hlt:i < args.length:=(List.getElem?_eq_some_iff.1 hii).1
      have hx:cargs[i]? =some (cargs[i]'(by omega)):=List.getElem?_eq_getElem (by omega)
      have hr:=hi.slot i v _ hii hx
      have e:(cargs.toArray++Array.replicate (fn.ntmps - cargs.toArray.size) undef).getD i undef=cargs[i]'(by omega):=by
        rw [Array.getD_eq_getD_getElem?,Array.getElem?_append_left (by simp; omega)]
        simp [hx]
      simp only [Option.getD_some]
      rw [e]; exact hr
  refine wp_mono (h _ _ _ _ _ hs) ?_
  rintro e a' w' ⟨A',Pb',Kb',F',⟨he',xs,H',hxs,hok,hnd,hH,hkey,hQ⟩,hs',k1,k2,k3,k4⟩
  obtain ⟨x,Fr,hrun,hr,hnd',hin⟩:=results_run hs' hxs hok hnd
  have hfin:a'.defers=[]∧∃ v,(results fn a'.tmps).run P w'=.ok v w'∧(∃ r x H' Pb' Kb' F',Ending.returned v=.returned x∧Q r H'∧Fin w w' Pb Kb r x H' Pb' Kb' F'):=by
    refine ⟨hs'.defers,x,hrun,_,x,H',Pb',Kb',(fun r=>match r with | .slot i=>if i=0 then Fr else [] | .key k=>if lk k H'=none then [] else F' (.key k)),rfl,hQ,?_⟩
    have hk:∀ k g,lk k H'≠none→g∈Fr→g ∉ F' (.key k):=fun k g hk hg c=>by
      obtain ⟨r,hr1,hr2⟩:=hin g hg
      have hne:r≠.key k:=fun c=>hkey k hk (by rw [← c]; exact hr1)
      exact hs'.disj r _ hne g hr2 c
    refine ⟨by simpa using hr,fun k g v hkv=>?_,fun r r' hne g hg=>?_,fun r=>?_,fun r g hg=>?_,hs'.sub,hs'.bound,k1,k2,k3,k4⟩
    · obtain ⟨v',e1,e2⟩:=leR_lk _ hH hkv
      obtain ⟨F1,hF,hA⟩:=hs'.root k g v' e1
      refine ⟨F1,?_,by have:=At_wk v hA; rw [e2] at this; exact this⟩
      simp only; rw [if_neg (by rw [hkv]; simp)]; exact hF
    · cases r with
      | slot i=>
        simp only at hg
        split at hg
        · rename_i hi0
          cases r' with
          | slot j=>simp only; rw [if_neg (fun c=>hne (by rw [hi0,c]))]; simp
          | key k => simp only; split
                     · simp
                     · rename_i hkk; exact hk k g hkk hg
        · simp at hg
      | key k=>
        simp only at hg
        split at hg
        · simp at hg
        · rename_i hkk
          cases r' with
          | slot j => simp only; split
                      · exact fun c=>hk k g hkk c hg
                      · simp
          | key k' => simp only; split
                      · simp
                      · exact hs'.disj _ _ hne g hg
    · cases r <;> simp only <;> split <;> first | exact hnd' | exact List.nodup_nil | exact hs'.nodup _
    · cases r with
      | slot i=>
        simp only at hg; split at hg
        · obtain ⟨r,_,h⟩:=hin g hg; exact hs'.free r g h
        · simp at hg
      | key k=>
        simp only at hg; split at hg
        · simp at hg
        · exact hs'.free _ g hg
  rcases he' with rfl | rfl
  · exact hfin
  · exact hfin
theorem PF.toPC {f:FuncId} {args:List V} {Q:V→List (Nat×(Nat×V))→Prop} (h:PF P f args [] Q):PC P f args (fun r=> ∃ H,Q r H):=by
  refine ⟨h.1,fun w Pb cargs hP hargs=>?_⟩
  have hi:Ini w Pb (fun g=>g < w.heap.size) args cargs [] (fun _=>[]):=by
    refine ⟨RVs_len _ hargs,fun i v x hv hx=>?_,fun k g v hk=>by simp [lk] at hk,fun _ _=>rfl,fun _ _ _ _ hg=>by simp at hg,fun _=>List.nodup_nil,fun _ _ hg=>by simp at hg,hP,fun _ h=>h⟩
    obtain ⟨y,hy,hr⟩:=RVs_at args hargs hv
    rw [hx] at hy; cases hy; exact hr
  refine (h.2 w Pb _ cargs _ hi).mono ?_
  rintro e w' ⟨r,x,H',Pb',Kb',F',rfl,hq,hf⟩
  refine ⟨r,x,F' (.slot 0),Pb',rfl,⟨H',hq⟩,hf.val,hf.nodup _,fun g hg=>?_,hf.mP,fun g hg=>?_,⟨hf.keep.os,hf.keep.tape,hf.keep.output,hf.keep.size,fun k hk=>hf.keep.block k hk⟩⟩
  · have:=hf.free _ g hg
    refine ⟨Nat.le_of_not_lt fun c=>this.1 (hf.mK g c),this.2,fun c=>this.1 (hf.sub g c)⟩
  · rcases hf.newP g hg with h | h
    · exact .inl h
    · exact .inr ⟨Nat.le_of_not_lt h,hf.bound g (hf.sub g hg)⟩
end
end Go.Abs
namespace Go.Abs
open Go Go.RowKit
mutual
def V.ren (ρ:Root→Root):V→V
  | .hd r p sz g o lo n c=>.hd (ρ r) p sz g o lo n c
  | .ptr r p g o=>.ptr (ρ r) p g o
  | .agg vs=>.agg (V.renL ρ vs)
  | .tup vs=>.tup (V.renL ρ vs)
  | v=>v
def V.renL (ρ:Root→Root):List V→List V
  | []=>[]
  | v :: vs=>v.ren ρ :: V.renL ρ vs
end
def unT:V→V
  | .tup _=>.dead
  | .gv _ _=>.dead
  | v=>v
def AS.tk (A:AS):List Operand→List V×AS
  | []=>([],A)
  | x :: xs=>match (A.drop x).tk xs with
    | (vs,B)=>(unT (A.ev x) :: vs,B)
section
variable {w w':World} {Pb Kb Pb':Nat→Prop} {N:Nat} {A A' B:AS} {a:Act} {F:Root→List Nat} {P:Program} {ops:Array Oper}
mutual
theorem R_ren (ρ:Root→Root):∀ (v:V) {cs F},R w Pb v cs F→R w Pb (v.ren ρ) cs F
  | .agg vs,_,_,h=>by simp only [R,V.ren] at h ⊢; exact RL_ren ρ vs h
  | .tup _,_,_,h=>by simp [R] at h
  | .hd ..,_,_,h=>h
  | .ptr ..,_,_,h=>h
  | .gv _ _,_,_,h=>h
  | .lit _,_,_,h=>h
  | .sl ..,_,_,h=>h
  | .own ..,_,_,h=>h
  | .ow ..,_,_,h=>h
  | .om ..,_,_,h=>h
  | .mp _,_,_,h=>h
  | .ep _,_,_,h=>h
  | .dead,_,_,h=>h
theorem RL_ren (ρ:Root→Root):∀ (vs:List V) {cs F},RL w Pb vs cs F→RL w Pb (V.renL ρ vs) cs F
  | [],_,_,h=>h
  | v :: vs,_,_,h=>by
    obtain ⟨c1,c2,F1,F2,rfl,rfl,h1,h2⟩:=h
    exact ⟨c1,c2,F1,F2,rfl,rfl,R_ren ρ v h1,RL_ren ρ vs h2⟩
end
theorem RVc_ren (ρ:Root→Root) {v:V} {x:Value} {F1:List Nat} (h:RVc w Pb v x F1):RVc w Pb (v.ren ρ) x F1:=by
  cases v with
  | agg us=>obtain ⟨cs,rfl,h⟩:=h; exact ⟨cs,rfl,RL_ren ρ us h⟩
  | tup vs=>simp [RVc,R] at h
  | _=>exact h
theorem RVs_ren (ρ:Root→Root):∀ (vs:List V) {xs F1},RVs w Pb vs xs F1→RVs w Pb (V.renL ρ vs) xs F1
  | [],_,_,h=>h
  | v :: vs,xs,F1,h=>by
    obtain ⟨x,xs',Fa,Fb,rfl,rfl,h1,h2⟩:=(RVs_c (v :: vs)).1 h
    exact (RVs_c (v.ren ρ :: V.renL ρ vs)).2 ⟨x,xs',Fa,Fb,rfl,rfl,RVc_ren ρ h1,RVs_ren ρ vs h2⟩
theorem RV_ren (ρ:Root→Root) {v:V} {x:Value} {F1:List Nat} (h:RV w Pb v x F1):RV w Pb (v.ren ρ) x F1:=by
  cases v with
  | agg us=>obtain ⟨cs,rfl,h⟩:=h; exact ⟨cs,rfl,RL_ren ρ us h⟩
  | tup us=>obtain ⟨cs,rfl,h⟩:=h; exact ⟨cs,rfl,RVs_ren ρ us h⟩
  | _=>exact h
def RVl (w:World) (Pb:Nat→Prop):List V→List Value→List (List Nat)→Prop
  | [],[],[]=>True
  | v :: vs,x :: xs,F :: Fs=>RV w Pb v x F∧RVl w Pb vs xs Fs
  | _,_,_=>False
theorem RVl_append:∀ {vs us:List V} {xs ys:List Value} {Fs Gs:List (List Nat)},RVl w Pb vs xs Fs→RVl w Pb us ys Gs→RVl w Pb (vs++us) (xs++ys) (Fs++Gs)
  | [],_,[],_,[],_,_,h=>h
  | _ :: _,_,_ :: _,_,_ :: _,_,h,k=>⟨h.1,RVl_append h.2 k⟩
  | [],_,_ :: _,_,_,_,h,_=>h.elim
  | [],_,[],_,_ :: _,_,h,_=>h.elim
  | _ :: _,_,[],_,_,_,h,_=>h.elim
  | _ :: _,_,_ :: _,_,[],_,h,_=>h.elim
theorem RVl_len:∀ {vs:List V} {xs:List Value} {Fs:List (List Nat)},RVl w Pb vs xs Fs→xs.length=vs.length∧Fs.length=vs.length
  | [],[],[],_=>⟨rfl,rfl⟩
  | _ :: _,_ :: _,_ :: _,h=>by have:=RVl_len h.2; simp [this.1,this.2]
  | [],_ :: _,_,h=>h.elim
  | [],[],_ :: _,h=>h.elim
  | _ :: _,[],_,h=>h.elim
  | _ :: _,_ :: _,[],h=>h.elim
theorem RVl_get:∀ {vs:List V} {xs:List Value} {Fs:List (List Nat)} {i:Nat} {v:V} {x:Value},RVl w Pb vs xs Fs→vs[i]? =some v→xs[i]? =some x→RV w Pb v x (Fs.getD i [])
  | v :: vs,x :: xs,F :: Fs,0,_,_,h,h1,h2=>by simp at h1 h2; subst h1 h2; exact h.1
  | v :: vs,x :: xs,F :: Fs,i+1,_,_,h,h1,h2=>by simpa using RVl_get (i:=i) h.2 (by simpa using h1) (by simpa using h2)
  | [],_,_,_,_,_,_,h1,_=>by simp at h1
  | _ :: _,[],_,_,_,_,h,_,_=>h.elim
  | _ :: _,_ :: _,[],_,_,_,h,_,_=>h.elim
theorem RVl_wk:∀ {vs us:List V} {xs:List Value} {Fs:List (List Nat)},RVl w Pb vs xs Fs→RVl w Pb (wkL vs us) xs Fs
  | [],us,[],[],_=>by simp only [wkL]; trivial
  | v :: vs,[],_,_,h=>by simpa only [wkL] using h
  | v :: vs,u :: us,x :: xs,F :: Fs,h=>⟨RV_wk u h.1,RVl_wk h.2⟩
  | [],_,_ :: _,_,h=>h.elim
  | [],_,[],_ :: _,h=>h.elim
  | _ :: _,_ :: _,[],_,h=>h.elim
  | _ :: _,_ :: _,_ :: _,[],h=>h.elim
theorem RVl_consts:∀ (l:List Value),RVl w Pb (l.map cV) l (l.map fun _=>[])
  | []=>trivial
  | x :: l=>⟨RV_cV x,RVl_consts l⟩
theorem unT_RV {v:V} {x:Value} {Fx:List Nat} (h:RV w Pb v x Fx):∃ Fy,RV w Pb (unT v) x Fy∧(Fy=Fx∨Fy=[]):=by
  cases v with
  | tup _=>exact ⟨[],rfl,.inr rfl⟩
  | gv _ _=>exact ⟨[],rfl,.inr rfl⟩
  | _=>exact ⟨Fx,h,.inl rfl⟩
theorem SIM.tk:∀ (xs:List Operand) {A:AS} {F:Root→List Nat},SIM N Pb Kb A a w F→∃ Fl F',RVl w Pb (A.tk xs).1 (xs.map a.eval) Fl∧SIM N Pb Kb (A.tk xs).2 a w F'∧
    (∀ i,(Fl.getD i []).Nodup)∧(∀ i j,i≠j→∀ g,g∈Fl.getD i []→g ∉ Fl.getD j [])∧(∀ i r g,g∈Fl.getD i []→g ∉ F' r)∧(∀ i g,g∈Fl.getD i []→¬ Kb g∧g < w.heap.size)∧
    (∀ r g,g∈F' r→g∈F r)∧(∀ i g,g∈Fl.getD i []→∃ r,g∈F r)
  | [],A,F,hs=>⟨[],F,trivial,hs,by simp,by simp,by simp,by simp,fun _ _ h=>h,by simp⟩
  | x :: xs,A,F,hs=>by
    obtain ⟨Fx,F1,h1,h2,h3,h4,h5,h6,h7⟩:=hs.take x
    obtain ⟨Fl,F2,k1,k2,k3,k4,k5,k6,k7,k8⟩:=SIM.tk xs h2
    obtain ⟨Fy,hy1,hy2⟩:=unT_RV h1
    have hyx:∀ g,g∈Fy→g∈Fx:=fun g hg=>by rcases hy2 with rfl | rfl <;> simp_all
    have hyn:Fy.Nodup:=by rcases hy2 with rfl | rfl <;> simp_all
    have hx:∀ i g,g∈Fy→g ∉ Fl.getD i []:=fun i g hg c=>by
      obtain ⟨r,hr⟩:=k8 i g c
      exact h4 r g (hyx g hg) hr
    refine ⟨Fy :: Fl,F2,⟨hy1,k1⟩,k2,fun i=>?_,fun i j hne g hg=>?_,fun i r g hg=>?_,fun i g hg=>?_,fun r g hg=>h6 r g (k7 r g hg),fun i g hg=>?_⟩
    · cases i with
      | zero=>exact hyn
      | succ i=>simpa using k3 i
    · cases i with
      | zero=>
        cases j with
        | zero=>exact absurd rfl hne
        | succ j=>simpa using hx j g (by simpa using hg)
      | succ i=>
        cases j with
        | zero=>exact fun c=>hx i g (by simpa using c) (by simpa using hg)
        | succ j=>simpa using k4 i j (by omega) g (by simpa using hg)
    · cases i with
      | zero=>exact fun c=>h4 r g (hyx g (by simpa using hg)) (k7 r g c)
      | succ i=>exact k5 i r g (by simpa using hg)
    · cases i with
      | zero=>exact h5 g (hyx g (by simpa using hg))
      | succ i=>exact k6 i g (by simpa using hg)
    · cases i with
      | zero=>exact h7 g (hyx g (by simpa using hg))
      | succ i=>
        obtain ⟨r,hr⟩:=k8 i g (by simpa using hg)
        exact ⟨r,h6 r g hr⟩
def swp (ks:List (Nat×Nat)):List (Nat×Nat):=ks.map fun p=>(p.2,p.1)
def renOf (ks:List (Nat×Nat)):Root→Root
  | .key k=>match lk k ks with | some q=>.key q | none=>.key k
  | r=>r
def news (ρ:Root→Root) (H:List (Nat×(Nat×V))):List (Nat×Nat)→List (Nat×(Nat×V))
  | []=>[]
  | (k,q) :: r=>match lk k H with
    | some (g,v)=>(q,(g,v.ren ρ)) :: news ρ H r
    | none=>news ρ H r
def delR (ks:List (Nat×Nat)) (h:List (Nat×(Nat×V))):List (Nat×(Nat×V)):=h.filter fun p=>(lk p.1 (swp ks)).isNone
theorem lk_delR (ks:List (Nat×Nat)):∀ (h:List (Nat×(Nat×V))) (q:Nat),lk q (delR ks h)=if (lk q (swp ks)).isNone then lk q h else none
  | [],q=>by simp [delR,lk]
  | (k,v) :: h,q=>by
    have ih:=lk_delR ks h q
    simp only [delR,List.filter_cons] at ih ⊢
    by_cases hk:(lk k (swp ks)).isNone=true
    · rw [if_pos hk]
      simp only [lk]
      by_cases e:q=k
      · subst e; rw [if_pos rfl,if_pos rfl,if_pos hk]
      · rw [if_neg e,if_neg e]; exact ih
    · rw [if_neg hk,ih]
      simp only [lk]
      by_cases e:q=k
      · subst e; rw [if_neg hk,if_neg hk]
      · rw [if_neg e]
theorem lk_none_of {α:Type}:∀ {l:List (Nat×α)} {q:Nat},q ∉ l.map (·.1)→lk q l=none
  | [],_,_=>rfl
  | (k,v) :: l,q,h=>by
    simp only [List.map_cons,List.mem_cons,not_or] at h
    simp only [lk]; rw [if_neg h.1]; exact lk_none_of h.2
theorem lk_news {ρ:Root→Root} {H:List (Nat×(Nat×V))}:∀ {ks:List (Nat×Nat)} {q:Nat},ndk (ks.map (·.2))=true→
    lk q (news ρ H ks)=(lk q (swp ks)).bind fun k=>(lk k H).map fun gv=>(gv.1,gv.2.ren ρ)
  | [],q,_=>rfl
  | (k, q0) :: ks,q,h=>by
    simp only [List.map_cons,ndk,Bool.and_eq_true,Bool.not_eq_true',List.contains_eq_mem,decide_eq_false_iff_not] at h
    have ih:=lk_news (ρ:=ρ) (H:=H) (ks:=ks) (q:=q) h.2
    simp only [news,swp,List.map_cons,lk]
    by_cases e:q=q0
    · subst e
      rw [if_pos rfl]
      simp only [Option.bind_some]
      cases hk:lk k H with
      | some gv=>simp only [lk,if_true,Option.map_some]
      | none=>
        simp only [Option.map_none]
        rw [ih,lk_none_of]; rfl
        simp only [swp,List.map_map,Function.comp_def]; exact h.1
    · rw [if_neg e]
      cases hk:lk k H with
      | some gv=>simp only [lk]; rw [if_neg e]; exact ih
      | none=>exact ih
def AS.back (A:AS) (ks:List (Nat×Nat)) (H:List (Nat×(Nat×V))):AS:=⟨A.t,news (renOf ks) H ks++delR ks A.h⟩
theorem lk_app' {α:Type} (t:Nat) (l1 l2:List (Nat×α)):lk t (l1++l2)=match lk t l1 with | some v=>some v | none=>lk t l2:=lk_app t l1 l2
def rootsOk (B:AS) (ks:List (Nat×Nat)):List (Nat×(Nat×V))→Prop
  | []=>True
  | (k,(g,v)) :: r=>(match lk k ks with | some q=>(match lk q B.h with | some (g',v')=>(g',wk v' v)=(g,v) | none=>False) | none=>False)∧rootsOk B ks r
theorem rootsOk_lk {B:AS} {ks:List (Nat×Nat)}:∀ {H:List (Nat×(Nat×V))} {k g:Nat} {v:V},rootsOk B ks H→lk k H=some (g,v)→∃ q v',lk k ks=some q∧lk q B.h=some (g,v')∧wk v' v=v
  | [],_,_,_,_,h=>by simp [lk] at h
  | (k0,(g0,v0)) :: H,k,g,v,h,e=>by
    simp only [lk] at e
    split at e
    · rename_i e'; subst e'; cases e
      have h1:=h.1
      split at h1
      · rename_i q hq
        split at h1
        · rename_i g' v' hq'
          simp only [Prod.mk.injEq] at h1
          exact ⟨q,v',hq,by rw [hq',h1.1],h1.2⟩
        · exact h1.elim
      · exact h1.elim
    · exact rootsOk_lk h.2 e
theorem lk_mem {α:Type}:∀ {l:List (Nat×α)} {k:Nat} {v:α},lk k l=some v→(k,v)∈l
  | [],_,_,h=>by simp [lk] at h
  | (k0,v0) :: l,k,v,h=>by
    simp only [lk] at h
    split at h
    · rename_i e; subst e; cases h; simp
    · exact List.mem_cons_of_mem _ (lk_mem h)
theorem lk_of_mem {α:Type}:∀ {l:List (Nat×α)} {k:Nat} {v:α},ndk (l.map (·.1))=true→(k,v)∈l→lk k l=some v
  | (k0,v0) :: l,k,v,h,hm=>by
    simp only [List.map_cons,ndk,Bool.and_eq_true,Bool.not_eq_true',List.contains_eq_mem,decide_eq_false_iff_not] at h
    simp only [lk]
    rcases List.mem_cons.1 hm with e | hm
    · cases e; rw [if_pos rfl]
    · have hne:k≠k0:=fun c=>h.1 (by rw [← c]; exact List.mem_map.2 ⟨_,hm,rfl⟩)
      rw [if_neg hne]; exact lk_of_mem h.2 hm
theorem lk_swp {ks:List (Nat×Nat)} {k q:Nat} (h1:ndk (ks.map (·.1))=true) (h2:ndk (ks.map (·.2))=true):lk k ks=some q↔lk q (swp ks)=some k:=by
  have e:(swp ks).map (·.1)=ks.map (·.2):=by simp [swp,List.map_map,Function.comp_def]
  constructor
  · intro h
    refine lk_of_mem (by rw [e]; exact h2) ?_
    exact List.mem_map.2 ⟨(k,q),lk_mem h,rfl⟩
  · intro h
    have hm:=lk_mem h
    simp only [swp,List.mem_map,Prod.mk.injEq] at hm
    obtain ⟨⟨x,y⟩,hm,e1,e2⟩:=hm
    simp only at e1 e2
    subst e1 e2
    exact lk_of_mem h1 hm
open Classical in
theorem opT_callF {o:Oper} {K:AS→Prop} {f:FuncId} {fx:Operand} {xs:Array Operand} {tys:Array TypeId} {first caps:Array Value} {args:List V} {H:List (Nat×(Nat×V))}
    {Q:V→List (Nat×(Nat×V))→Prop} (ks:List (Nat×Nat)) (ho:o.op=.call { callee:=.value fx,args:=xs,argTypes:=tys }) (hfx:A.ev fx=.lit (.func (.func f) first caps))
    (hd:dstOk N o.dst) (hk1:ndk (ks.map (·.1))=true) (hk2:ndk (ks.map (·.2))=true) (hc:PF P f args H Q)
    (hargs:wkL (first.toList.map cV++(A.tk xs.toList).1++caps.toList.map cV) args=args) (hlen:args.length=(first.toList.map cV++(A.tk xs.toList).1++caps.toList.map cV).length)
    (hroots:rootsOk (A.tk xs.toList).2 ks H)
    (hK:∀ r H',Q r H'→K (((A.tk xs.toList).2.back ks H').put o.dst (r.ren (renOf ks)))):opT P N o A K:=by
  intro Pb Kb a w F Q' hs
  have hfv:=ev_lit hs hfx
  unfold Oper.wp
  have hrun:(execOp a.eval o).run P w=.ok (.enter f (first++xs.map a.eval++caps)) w:=by
    simp only [execOp,ho,resolve,hfv,Deferred.ofValue,Sem.run_bind,Sem.run_pure,Result.andThen_ok,invoke]
    exact hc.1 _ w
  rw [hrun,Oper.upon_enter]
  obtain ⟨Fl,F2,k1,k2,k3,k4,k5,k6,k7,k8⟩:=hs.tk xs.toList
  let B:=(A.tk xs.toList).2
  have hle:(⟨B.t,delR ks B.h⟩:AS).le B:=⟨fun _=>.inr rfl,fun q=>by
    simp only [lk_delR]; split
    · exact .inr rfl
    · exact .inl rfl⟩
  let F3:Root→List Nat:=fun r=>match r with
    | .slot i=>F2 (.slot i)
    | .key q=>if (lk q (swp ks)).isNone then F2 (.key q) else []
  have hF32:∀ r g,g∈F3 r→g∈F2 r:=fun r g hg=>by
    cases r with
    | slot i=>exact hg
    | key q => simp only [F3] at hg; split at hg
               · exact hg
               · simp at hg
  have hs3 : SIM N Pb Kb ⟨B.t,delR ks B.h⟩ a w F3:=by
    refine ⟨k2.size,k2.defers,k2.slot,fun q g v hq=>?_,fun r r' hne g hg c=>k2.disj r r' hne g (hF32 r g hg) (hF32 r' g c),fun r=>?_,fun r g hg=>k2.free r g (hF32 r g hg),k2.sub,k2.bound⟩
    · simp only [lk_delR] at hq
      split at hq
      · rename_i hn
        obtain ⟨F',e,hA⟩:=k2.root q g v hq
        exact ⟨F',by simp only [F3]; rw [if_pos hn]; exact e,hA⟩
      · simp at hq
    · cases r with
      | slot i=>exact k2.nodup _
      | key q => simp only [F3]; split
                 · exact k2.nodup _
                 · exact List.nodup_nil
  let Kc:Nat→Prop:=fun g=>Kb g∨∃ r,g∈F3 r
  let FL:=first.toList.map (fun _=>([]:List Nat))++Fl++caps.toList.map (fun _=>([]:List Nat))
  have hFl:RVl w Pb (first.toList.map cV++(A.tk xs.toList).1++caps.toList.map cV) (first.toList++xs.toList.map a.eval++caps.toList) FL:=
    RVl_append (RVl_append (RVl_consts _) k1) (RVl_consts _)
  have hFLg:∀ i g,g∈FL.getD i []→∃ j,FL.getD i []=Fl.getD j []∧i=first.toList.length+j:=by
    intro i g hg
    simp only [FL,List.getD_eq_getElem?_getD,List.append_assoc] at hg ⊢
    by_cases h1:i < first.toList.length
    · rw [List.getElem?_append_left (by simpa using h1),List.getElem?_map] at hg
      cases he:first.toList[i]? <;> rw [he] at hg <;> simp at hg
    · have hij:i=first.toList.length+(i - first.toList.length):=by omega
      rw [List.getElem?_append_right (by simpa using h1)] at hg ⊢
      simp only [List.length_map] at hg ⊢
      by_cases h2:i - first.toList.length < Fl.length
      · rw [List.getElem?_append_left h2]
        exact ⟨_,rfl,hij⟩
      · rw [List.getElem?_append_right (by omega),List.getElem?_map] at hg
        cases he:caps.toList[i - first.toList.length - Fl.length]? <;> rw [he] at hg <;> simp at hg
  let FC:Root→List Nat:=fun r=>match r with
    | .slot i=>FL.getD i []
    | .key k=>match lk k ks with
      | some q=>if lk k H=none then [] else F2 (.key q)
      | none=>[]
  have hFC:∀ r g,g∈FC r→(∃ i j,r=.slot i∧g∈Fl.getD j []∧i=first.toList.length+j)∨(∃ k q,r=.key k∧lk k ks=some q∧g∈F2 (.key q)):=by
    intro r g hg
    cases r with
    | slot i=>
      obtain ⟨j,e,hj⟩:=hFLg i g hg
      exact .inl ⟨i,j,rfl,by rw [← e]; exact hg,hj⟩
    | key k=>
      simp only [FC] at hg
      split at hg
      · rename_i q hq
        split at hg
        · simp at hg
        · exact .inr ⟨k,q,rfl,hq,hg⟩
      · simp at hg
  have hF3q:∀ k q,lk k ks=some q→∀ r g,g∈F2 (.key q)→g ∉ F3 r:=by
    intro k q hq r g hg c
    cases r with
    | slot i=>exact k2.disj (.key q) (.slot i) (by simp) g hg c
    | key q'=>
      simp only [F3] at c
      split at c
      · rename_i hn
        have hne:(Root.key q)≠.key q':=fun e=>by
          cases e
          rw [(lk_swp hk1 hk2).1 hq] at hn; simp at hn
        exact k2.disj _ _ hne g hg c
      · simp at c
  have hFCfree:∀ r g,g∈FC r→¬ Kc g∧g < w.heap.size:=by
    intro r g hg
    rcases hFC r g hg with ⟨i,j,_,h,_⟩ | ⟨k,q,_,hq,h⟩
    · refine ⟨fun c=>?_,(k6 j g h).2⟩
      rcases c with c | ⟨r',c⟩
      · exact (k6 j g h).1 c
      · exact k5 j r' g h (hF32 r' g c)
    · refine ⟨fun c=>?_,(k2.free _ g h).2⟩
      rcases c with c | ⟨r',c⟩
      · exact (k2.free _ g h).1 c
      · exact hF3q k q hq r' g h c
  have hi :Ini w Pb Kc args (first.toList++xs.toList.map a.eval++caps.toList) H FC:=by
    have hl:=RVl_len hFl
    have hFw:=RVl_wk (us:=args) hFl
    rw [hargs] at hFw
    refine ⟨by rw [hl.1,hlen],fun i v x hv hx=>RVl_get hFw hv hx,fun k g v hkv=>?_,fun i hii=>?_,fun r r' hne g hg c=>?_,fun r=>?_,hFCfree,fun g hg=>.inl (k2.sub g hg),fun g hg=>?_⟩
    · obtain ⟨q,v',h1,h2,h3⟩:=rootsOk_lk hroots hkv
      obtain ⟨F',e,hA⟩:=k2.root q g v' h2
      refine ⟨F',?_,by have:=At_wk v hA; rw [h3] at this; exact this⟩
      simp only [FC,h1]; rw [if_neg (by rw [hkv]; simp)]; exact e
    · simp only [FC]
      rw [List.getD_eq_getElem?_getD,List.getElem?_eq_none (by rw [hl.2,← hlen]; exact hii)]; rfl
    · rcases hFC r g hg with ⟨i,j,e1,h,e1'⟩ | ⟨k,q,e1,hq,h⟩ <;> rcases hFC r' g c with ⟨i',j',e2,h',e2'⟩ | ⟨k',q',e2,hq',h'⟩
      · refine k4 j j' (fun e=>hne ?_) g h h'
        rw [e1,e2,e1',e2',e]
      · exact k5 j (.key q') g h h'
      · exact k5 j' (.key q) g h' h
      · have hqq:q=q':=Classical.byContradiction fun hqq=>k2.disj (.key q) (.key q') (fun e=>hqq (by cases e; rfl)) g h h'
        subst hqq
        have:=(lk_swp hk1 hk2).1 hq
        rw [(lk_swp hk1 hk2).1 hq'] at this
        cases this
        exact hne (by rw [e1,e2])
    · cases r with
      | slot i=>
        by_cases he:FL.getD i []=[]
        · simp only [FC]; rw [he]; exact List.nodup_nil
        · obtain ⟨g,hg⟩:=List.exists_mem_of_ne_nil _ he
          obtain ⟨j,e,_⟩:=hFLg i g hg
          simp only [FC]; rw [e]; exact k3 j
      | key k=>
        simp only [FC]
        split
        · split
          · exact List.nodup_nil
          · exact k2.nodup _
        · exact List.nodup_nil
    · rcases hg with h | ⟨r,h⟩
      · exact k2.bound g h
      · exact (hs3.free r g h).2
  have hcall:=hc.2 w Pb Kc _ FC hi
  have e:(first.toList++xs.toList.map a.eval++caps.toList).toArray=first++xs.map a.eval++caps:=by
    apply Array.ext'; simp
  rw [e] at hcall
  refine hcall.mono ?_
  rintro e w' ⟨r,x,H',Pb',Kb',F',rfl,hq,hf⟩
  have hkeep:Keep Kb w w':=⟨hf.keep.os,hf.keep.tape,hf.keep.output,hf.keep.size,fun g hg=>hf.keep.block g (.inl hg)⟩
  let K2:Nat→Prop:=fun g=>Kb g∨(Kb' g∧¬ ∃ r,g∈F3 r)
  have hP3:∀ r g,g∈F3 r→¬ Pb' g:=fun r g hg c=>by
    rcases hf.newP g c with h | h
    · exact (hs3.free r g hg).1 (hs3.sub g h)
    · exact h (.inr ⟨r,hg⟩)
  have hsubK:∀ g,Pb' g→K2 g:=fun g hg=>by
    rcases hf.newP g hg with h | h
    · exact .inl (hs3.sub g h)
    · exact .inr ⟨hf.sub g hg,fun ⟨r,c⟩=>h (.inr ⟨r,c⟩)⟩
  have hF':∀ r g,g∈F' r→(¬ K2 g∧g < w'.heap.size)∧∀ r',g ∉ F3 r':=fun r g hg=>by
    have h:=hf.free r g hg
    refine ⟨⟨fun c=>?_,h.2⟩,fun r' c=>h.1 (hf.mK g (.inr ⟨r',c⟩))⟩
    rcases c with c | c
    · exact h.1 (hf.mK g (.inl c))
    · exact h.1 c.1
  let F4:Root→List Nat:=fun r=>match r with
    | .slot i=>F3 (.slot i)
    | .key q=>match lk q (swp ks) with
      | some k=>if lk k H'=none then [] else F' (.key k)
      | none=>F3 (.key q)
  have hF4:∀ r g,g∈F4 r→g∈F3 r∨∃ q k,r=.key q∧lk q (swp ks)=some k∧g∈F' (.key k):=fun r g hg=>by
    cases r with
    | slot i=>exact .inl hg
    | key q=>
      simp only [F4] at hg
      split at hg
      · rename_i k hk
        split at hg
        · simp at hg
        · exact .inr ⟨q,k,rfl,hk,hg⟩
      · exact .inl hg
  have hs4:SIM N Pb' K2 (B.back ks H') a w' F4:=by
    refine ⟨hs3.size,hs3.defers,fun i=>?_,fun q g v hq=>?_,fun r r' hne g hg c=>?_,fun r=>?_,fun r g hg=>?_,hsubK,fun g hg=>?_⟩
    · exact RV_keep _ (hs3.slot i) (fun g hg=>hf.keep.block g (.inl (hs3.sub g hg))) (fun g hg=>hf.keep.block g (.inr ⟨.slot i,hg⟩)) hf.mP (fun g hg=>hP3 (.slot i) g hg)
    · simp only [AS.back,lk_app',lk_news hk2] at hq
      cases hsw:lk q (swp ks) with
      | some k=>
        rw [hsw] at hq
        simp only [Option.bind_some] at hq
        cases hkH:lk k H' with
        | some gv=>
          rw [hkH] at hq
          simp only [Option.map_some,Option.some.injEq,Prod.mk.injEq] at hq
          obtain ⟨g0,v0⟩:=gv
          obtain ⟨rfl,rfl⟩:=hq
          obtain ⟨F1,e1,cs,cells,hb,hr,hc'⟩:=hf.root k g0 v0 hkH
          exact ⟨F1,by simp only [F4,hsw]; rw [if_neg (by rw [hkH]; simp)]; exact e1,cs,cells,hb,R_ren _ _ hr,hc'⟩
        | none=>
          rw [hkH] at hq
          simp only [Option.map_none] at hq
          rw [lk_delR,hsw] at hq
          simp at hq
      | none=>
        rw [hsw] at hq
        simp only [Option.bind_none] at hq
        obtain ⟨F1,e1,hA⟩:=hs3.root q g v hq
        refine ⟨F1,by simp only [F4,hsw]; exact e1,?_⟩
        obtain ⟨cs,cells,⟨el,fr,hb,hfr⟩,hr,hc'⟩:=hA
        have hin:∀ y,y∈g :: F1→w'.heap[y]? =w.heap[y]? :=fun y hy=>hf.keep.block y (.inr ⟨.key q,by rw [e1]; exact hy⟩)
        exact ⟨cs,cells,⟨el,fr,(hin g (by simp)).trans hb,hfr⟩,R_keep _ hr (fun y hy=>hf.keep.block y (.inl (hs3.sub y hy))) (fun y hy=>hin y (by simp [hy])) hf.mP (fun y hy=>hP3 (.key q) y (by rw [e1]; simp [hy])),hc'⟩
    · rcases hF4 r g hg with h | ⟨q,k,e1,h1,h2⟩ <;> rcases hF4 r' g c with h' | ⟨q',k',e2,h1',h2'⟩
      · exact hs3.disj r r' hne g h h'
      · exact (hF' _ g h2').2 r h
      · exact (hF' _ g h2).2 r' h'
      · have hkk:k=k':=Classical.byContradiction fun hkk=>hf.disj (.key k) (.key k') (fun e=>hkk (by cases e; rfl)) g h2 h2'
        subst hkk
        have e3:=(lk_swp hk1 hk2).2 h1
        rw [(lk_swp hk1 hk2).2 h1'] at e3
        cases e3
        exact hne (by rw [e1,e2])
    · cases r with
      | slot i=>exact hs3.nodup (.slot i)
      | key q=>
        simp only [F4]
        split
        · split
          · exact List.nodup_nil
          · exact hf.nodup _
        · exact hs3.nodup (.key q)
    · rcases hF4 r g hg with h | ⟨q,k,_,_,h2⟩
      · have h3:=hs3.free r g h
        refine ⟨fun c=>?_,Nat.lt_of_lt_of_le h3.2 hf.keep.size⟩
        rcases c with c | c
        · exact h3.1 c
        · exact c.2 ⟨r,h⟩
      · exact (hF' _ g h2).1
    · rcases hg with h | h
      · exact Nat.lt_of_lt_of_le (hs3.bound g h) hf.keep.size
      · exact hf.bound g h.1
  have hfin:∀ A' a' F5,K A'→SIM N Pb' K2 A' a' w' F5→Nx N Pb Kb w K a' w':=fun A' a' F5 hk hs''=>
    ⟨A',Pb',K2,F5,hk,hs'',hf.mP,fun g hg=>.inl hg,fun g hg=>by
      rcases hf.newP g hg with h | h
      · exact .inl h
      · exact .inr fun c=>h (.inl c),hkeep⟩
  cases hdst:o.dst with
  | none=>exact hfin _ _ F4 (hK r H' hq) (by rw [hdst]; exact hs4)
  | some d=>
    rw [hdst] at hd
    refine hfin _ _ (updF F4 (.slot d) (F' (.slot 0))) (hK r H' hq) ?_
    rw [hdst]
    refine hs4.put hd (RV_ren _ hf.val) (fun rt _ g hg c=>?_) (hf.nodup _) (fun g hg=>(hF' _ g hg).1)
    rcases hF4 rt g c with h | ⟨q,k,_,_,h2⟩
    · exact (hF' _ g hg).2 rt h
    · exact hf.disj (.slot 0) (.key k) (by simp) g hg h2
end
end Go.Abs
namespace Go.Abs
open Go Go.RowKit
section
variable {w w':World} {Pb Kb Pb':Nat→Prop} {N:Nat} {A A' A1 B:AS} {a:Act} {F:Root→List Nat} {P:Program} {ops:Array Oper}
theorem RL_focus:∀ (vs:List V) {cs F} {j:Nat} {x:V},RL w Pb vs cs F→vs[j]? =some x→∃ cj Fj,R w Pb x cj Fj∧(∀ i u,cj[i]? =some u→cs[V.ns (vs.take j)+i]? =some u)∧
    ∀ x',R w Pb x' cj Fj→RL w Pb (vs.set j x') cs F
  | [],_,_,_,_,_,h=>by simp at h
  | v :: vs,cs,F,0,x,h,hj=>by
    obtain ⟨c1,c2,F1,F2,rfl,rfl,h1,h2⟩:=h
    simp at hj; subst hj
    exact ⟨c1,F1,h1,fun i u hu=>by simp only [List.take_zero,V.ns,Nat.zero_add]; rw [List.getElem?_append_left (List.getElem?_eq_some_iff.1 hu).1]; exact hu,fun x' hx=>⟨c1,c2,F1,F2,rfl,rfl,hx,h2⟩⟩
  | v :: vs,cs,F,j+1,x,h,hj=>by
    obtain ⟨c1,c2,F1,F2,rfl,rfl,h1,h2⟩:=h
    obtain ⟨cj,Fj,k1,k2,k3⟩:=RL_focus vs h2 (by simpa using hj)
    refine ⟨cj,Fj,k1,fun i u hu=>?_,fun x' hx=>⟨c1,c2,F1,F2,rfl,rfl,h1,k3 x' hx⟩⟩
    have:=k2 i u hu
    simp only [List.take_succ_cons,V.ns]
    rw [← R_len v h1,Nat.add_assoc,List.getElem?_append_right (by omega)]
    rw [show c1.length+(V.ns (vs.take j)+i) - c1.length=V.ns (vs.take j)+i from by omega]; exact this
theorem R_focus:∀ (p:List Nat) {v u:V} {g o g' o':Nat} {cs:List Value} {F:List Nat},R w Pb v cs F→V.at g o v p=some (g',o',u)→
    ∃ cu Fu,R w Pb u cu Fu∧∀ u',u'.n=u.n→R w Pb u' cu Fu→R w Pb (v.set p u') cs F∧(v.set p u').n=v.n
  | [],v,u,g,o,g',o',cs,F,h,e=>by
    simp only [V.at,Option.some.injEq,Prod.mk.injEq] at e
    obtain ⟨rfl,rfl,rfl⟩:=e
    exact ⟨cs,F,h,fun u' hn hu=>⟨hu,hn⟩⟩
  | j :: p,v,u,g,o,g',o',cs,F,h,e=>by
    simp only [V.at] at e
    split at e
    · rename_i vs
      split at e
      · rename_i x hx
        simp only [R] at h
        obtain ⟨cj,Fj,k1,k2,k3⟩:=RL_focus vs h hx
        obtain ⟨cu,Fu,m1,m2⟩:=R_focus p k1 e
        refine ⟨cu,Fu,m1,fun u' hn hu=>?_⟩
        obtain ⟨q1,q2⟩:=m2 u' hn hu
        have h3:=k3 _ q1
        refine ⟨by simp only [V.set,hx,R]; exact h3,?_⟩
        simp only [V.set,hx,V.n]
        rw [← RL_len _ h3,← RL_len _ h]
      · simp at e
    · rename_i sz xs g1 o1 c1
      split at e
      · rename_i x hx
        rcases h with ⟨_,rfl,_⟩ | ⟨h1,h2,h3,h4,h5,h6,flat,F',cells,h7,hr,hb,hsz,hc⟩
        · simp at hx
        · obtain ⟨cj,Fj,k1,k2,k3⟩:=RL_focus xs hr hx
          obtain ⟨cu,Fu,m1,m2⟩:=R_focus p k1 e
          refine ⟨cu,Fu,m1,fun u' hn hu=>?_⟩
          obtain ⟨q1,q2⟩:=m2 u' hn hu
          refine ⟨?_,by simp only [V.set,hx]; rfl⟩
          simp only [V.set,hx]
          refine .inr ⟨h1,h2,by simpa using h3,by simpa using h4,fun y hy=>?_,h6,flat,F',cells,h7,k3 _ q1,hb,hsz,hc⟩
          rcases List.mem_or_eq_of_mem_set hy with h | h
          · exact h5 y h
          · rw [h,q2]; exact h5 x (List.mem_of_getElem? hx)
      · simp at e
    · simp at e
theorem SIM.refocus (hs:SIM N Pb Kb A a w F) {r:Root} {p:List Nat} {g o:Nat} {u:V} (hat:A.at r p=some (g,o,u)):
    ∃ cu Fu,R w Pb u cu Fu∧∀ u',u'.n=u.n→R w Pb u' cu Fu→SIM N Pb Kb (A.setAt r p u') a w F:=by
  cases r with
  | key k =>
    simp only [AS.at] at hat
    split at hat
    · rename_i g0 t hk
      obtain ⟨F0,hF,cs,cells,hb,hr,hc⟩:=hs.root k g0 t hk
      obtain ⟨cu,Fu,h1,h2⟩:=R_focus p hr hat
      refine ⟨cu,Fu,h1,fun u' hn hu=>⟨hs.size,hs.defers,fun i=>?_,fun k' g1 v1 hk'=>?_,hs.disj,hs.nodup,hs.free,hs.sub,hs.bound⟩⟩
      · have:(A.setAt (.key k) p u').get i=A.get i:=by simp only [AS.setAt,hk]; rfl
        rw [this]; exact hs.slot i
      · simp only [AS.setAt,hk,lk] at hk'
        split at hk'
        · rename_i e; subst e
          simp only [Option.some.injEq,Prod.mk.injEq] at hk'
          obtain ⟨rfl,rfl⟩:=hk'
          exact ⟨F0,hF,cs,cells,hb,(h2 u' hn hu).1,hc⟩
        · exact hs.root k' g1 v1 hk'
    · simp at hat
  | slot i=>
    simp only [AS.at] at hat
    split at hat
    · rename_i sz xs g0 o0 c0 j p' hg
      have hr:=hs.slot i
      rw [hg] at hr
      have hr:R w Pb (.own sz xs g0 o0 c0) [a.tmps.getD i undef] (F (.slot i)):=hr
      obtain ⟨cu,Fu,h1,h2⟩:=R_focus (j :: p') hr hat
      refine ⟨cu,Fu,h1,fun u' hn hu=>⟨hs.size,hs.defers,fun t=>?_,hs.root,hs.disj,hs.nodup,hs.free,hs.sub,hs.bound⟩⟩
      by_cases e:t=i
      · subst e
        simp only [AS.setAt,AS.get,lk,if_true,Option.getD_some]
        have h3:=(h2 u' hn hu).1
        have e2:(A.get t).set (j :: p') u'=(V.own sz xs g0 o0 c0).set (j :: p') u':=by rw [hg]
        have e3:∃ ys,(V.own sz xs g0 o0 c0).set (j :: p') u'=.own sz ys g0 o0 c0:=by
          simp only [V.set]; split
          · exact ⟨_,rfl⟩
          · exact ⟨_,rfl⟩
        obtain ⟨ys,e3⟩:=e3
        show RV w Pb ((A.get t).set (j :: p') u') _ _
        rw [e2,e3]; rw [e3] at h3
        exact h3
      · simp only [AS.setAt,AS.get,lk]; rw [if_neg e]; exact hs.slot t
    · simp at hat
theorem hx_own0 {K:AS→Prop} (t sz:Nat) (ht:t < N) (hg:A.get t=.sl true []) (h:K (A.put (some t) (.own sz [] 0 0 0))):Hx N A K:=
  Hx.simple h fun Pb Kb a w F hs=>by
    have hr:=hs.slot t
    rw [hg] at hr
    obtain ⟨hF,B,cc,hv,_,hfull,_⟩:=hr
    have hc0:cc=0:=hfull rfl
    subst hc0
    exact ⟨_,hs.reread ht (.inl ⟨rfl,rfl,hF,B,hv⟩)⟩
theorem hx_own0R {K:AS→Prop} {r:Root} {p:List Nat} {g o sz:Nat} (hat:A.at r p=some (g,o,.sl true [])) (h:K (A.setAt r p (.own sz [] 0 0 0))):Hx N A K:=
  Hx.simple h fun Pb Kb a w F hs=>by
    obtain ⟨cu,Fu,hr,hk⟩:=hs.refocus hat
    obtain ⟨hF,B,cc,hv,_,hfull,_⟩:=hr
    have hc0:cc=0:=hfull rfl
    subst hc0
    exact ⟨_,hk (.own sz [] 0 0 0) rfl (.inl ⟨rfl,rfl,hF,B,hv⟩)⟩
theorem hx_open {K:AS→Prop} {t sz:Nat} {xs:List V} (ht:t < N) (hg:A.get t=.ow sz xs) (h:∀ g o c,K (A.put (some t) (.own sz xs g o c))):Hx N A K:=fun Pb Kb a w F hs=>by
  have hr:=hs.slot t
  rw [hg] at hr
  have hr:R w Pb (.ow sz xs) [a.tmps.getD t undef] (F (.slot t)):=hr
  obtain ⟨g,o,c,hr⟩:=R_ow.1 hr
  exact ⟨_,Pb,Kb,_,h g o c,hs.reread ht hr,fun _ h=>h,fun _ h=>h,fun _ h=>.inl h⟩
theorem hx_openR {K:AS→Prop} {r:Root} {p:List Nat} {g o sz:Nat} {xs:List V} (hat:A.at r p=some (g,o,.ow sz xs)) (h:∀ g o c,K (A.setAt r p (.own sz xs g o c))):Hx N A K:=fun Pb Kb a w F hs=>by
  obtain ⟨cu,Fu,h1,h2⟩:=hs.refocus hat
  obtain ⟨g,o,c,hr⟩:=R_ow.1 h1
  exact ⟨_,Pb,Kb,_,h g o c,h2 _ rfl hr,fun _ h=>h,fun _ h=>h,fun _ h=>.inl h⟩
theorem hx_wkR {K:AS→Prop} {r:Root} {p:List Nat} {g o:Nat} {u:V} (u':V) (hat:A.at r p=some (g,o,u)) (hn:(wk u u').n=u.n) (h:K (A.setAt r p (wk u u'))):Hx N A K:=fun Pb Kb a w F hs=>by
  obtain ⟨cu,Fu,h1,h2⟩:=hs.refocus hat
  exact ⟨_,Pb,Kb,_,h,h2 _ hn (R_wk u u' h1),fun _ h=>h,fun _ h=>h,fun _ h=>.inl h⟩
theorem hx_wk {K:AS→Prop} {t:Nat} (u:V) (ht:t < N) (h:K (A.put (some t) (wk (A.get t) u))):Hx N A K:=
  Hx.simple h fun _ _ _ _ _ hs=>⟨_,hs.reread ht (RV_wk u (hs.slot t))⟩
theorem hx_claim {K:AS→Prop} {t i sz n g o c:Nat} {xs:List V} (ht:t < N) (hi:i < N) (hti:t≠i) (h1:A.get t=.hd (.slot i) [] sz g o 0 n c) (h2:A.get i=.own sz xs g o c) (hn:n=xs.length)
    (h:K ((A.put (some i) .dead).put (some t) (.own sz xs g o c))):Hx N A K:=
  Hx.simple h fun _ _ _ _ _ hs=>hs.claim ht hi hti h1 h2 hn
theorem hx_freeze {K:AS→Prop} {t:Nat} (ht:t < N) (ho:(A.get t).owns=true) (h:K (A.put (some t) (A.get t).er)):Hx N A K:=fun Pb Kb a w F hs=>by
  obtain ⟨Pb',Kb',F',h1,h2,h3,h4⟩:=hs.freeze ho ht
  exact ⟨_,Pb',Kb',F',h,h1,h2,h3,h4⟩
theorem SIM.eqv (hs:SIM N Pb Kb A a w F) (h:AEq A B):SIM N Pb Kb B a w F:=
  ⟨hs.size,hs.defers,fun i=>by rw [← h.1 i]; exact hs.slot i,fun k g v hk=>hs.root k g v (by rw [h.2 k]; exact hk),hs.disj,hs.nodup,hs.free,hs.sub,hs.bound⟩
theorem hx_eqt {K:AS→Prop} {t:Nat} (v:V) (e:A.get t=v) (h:K (A.put (some t) v)):Hx N A K:=
  Hx.simple h fun _ _ _ _ _ hs=>⟨_,hs.eqv ⟨fun i=>by
    rw [AS.get_put]; split
    · rename_i h; rw [h,e]
    · rfl,fun _=>rfl⟩⟩
theorem hx_eqh {K:AS→Prop} {k g:Nat} (v:V) (e:lk k A.h=some (g,v)) (h:K ⟨A.t,(k,(g,v)) :: A.h⟩):Hx N A K:=
  Hx.simple h fun _ _ _ _ _ hs=>⟨_,hs.eqv ⟨fun _=>rfl,fun i=>by
    simp only [lk]; split
    · rename_i h; rw [h,e]
    · rfl⟩⟩
theorem hx_rk {K:AS→Prop} {k k' g:Nat} {v:V} (e:lk k A.h=some (g,v)) (hn:lk k' A.h=none) (h:K ⟨A.t,(k',(g,v)) :: A.h.filter fun p=>p.1 != k⟩):Hx N A K:=
  Hx.simple h fun Pb Kb a w F hs=>by
    have hne:k'≠k:=fun c=>by rw [c,e] at hn; cases hn
    have hf:∀ (l:List (Nat×(Nat×V))) q,lk q (l.filter fun p=>p.1 != k)=if q=k then none else lk q l:=by
      intro l
      induction l with
      | nil=>intro q; simp [lk]
      | cons x l ih=>
        intro q
        obtain ⟨i,u⟩:=x
        simp only [List.filter_cons]
        by_cases hi:i=k
        · subst hi
          simp only [bne_self_eq_false,Bool.false_eq_true,if_false,ih q,lk]
          by_cases c:q=i
          · rw [if_pos c,if_pos c]
          · rw [if_neg c,if_neg c,if_neg c]
        · rw [if_pos (by simpa using hi)]
          simp only [lk,ih q]
          by_cases c:q=i
          · subst c; rw [if_pos rfl,if_pos rfl,if_neg hi]
          · rw [if_neg c,if_neg c]
    let σ:Root→Root:=fun r=>if r=.key k' then .key k else if r=.key k then .key k' else r
    have hσ:∀ r r',σ r=σ r'→r=r':=fun r r' h=>by
      simp only [σ] at h
      repeat' split at h
      all_goals simp_all
    refine ⟨fun r=>if r=.key k then [] else F (σ r),hs.size,hs.defers,fun i=>?_,fun q g0 v0 hq=>?_,fun r r' hne' y hy=>?_,fun r=>?_,fun r y hy=>?_,hs.sub,hs.bound⟩
    · have:F (σ (.slot i))=F (.slot i):=by simp [σ]
      simp only [reduceCtorEq,if_false,this]; exact hs.slot i
    · simp only [lk,hf] at hq
      split at hq
      · rename_i c; subst c
        simp only [Option.some.injEq,Prod.mk.injEq] at hq
        obtain ⟨rfl,rfl⟩:=hq
        obtain ⟨F',h1,h2⟩:=hs.root k g v e
        refine ⟨F',?_,h2⟩
        rw [if_neg (by simpa using hne)]
        simp only [σ,if_true]; exact h1
      · rename_i c
        split at hq
        · simp at hq
        · rename_i c2
          obtain ⟨F',h1,h2⟩:=hs.root q g0 v0 hq
          refine ⟨F',?_,h2⟩
          rw [if_neg (by simpa using c2)]
          have:σ (.key q)=.key q:=by simp only [σ]; rw [if_neg (by simpa using c),if_neg (by simpa using c2)]
          rw [this]; exact h1
    · split at hy
      · simp at hy
      · split
        · simp
        · exact hs.disj _ _ (fun c=>hne' (hσ _ _ c)) y hy
    · split
      · exact List.nodup_nil
      · exact hs.nodup _
    · split at hy
      · simp at hy
      · exact hs.free _ y hy
theorem hx_to {K:AS→Prop} (h1:leA A B.t) (h2:leR A B.h) (h:K B):Hx N A K:=Hx.simple h fun _ _ _ _ _ hs=>hs.leW h1 h2
theorem opT_moveMv {o:Oper} {K:AS→Prop} {x:Operand} (ho:o.op=.move x) (hd:dstOk N o.dst) (hK:K ((A.drop x).put o.dst (A.ev x))):opT P N o A K:=by
  intro Pb Kb a w F Q hs
  obtain ⟨Fx,F',hr,hs',hnd,hdis,hfr,_⟩:=hs.take x
  unfold Oper.wp
  have:(execOp a.eval o).run P w=.ok (.value (a.eval x)) w:=by simp only [execOp,ho]; rfl
  rw [this,Oper.upon_value]
  cases hdst:o.dst with
  | none=>exact ⟨_,Pb,Kb,F',hK,by rw [hdst]; exact hs',fun _ h=>h,fun _ h=>h,fun _ h=>.inl h,Keep.refl _ _⟩
  | some d=>
    rw [hdst] at hd hK
    exact ⟨_,Pb,Kb,_,hK,hs'.put hd hr (fun r _ g hg=>hdis r g hg) hnd hfr,fun _ h=>h,fun _ h=>h,fun _ h=>.inl h,Keep.refl _ _⟩
theorem opT_loadMv {o:Oper} {K:AS→Prop} {d T:Nat} {x:Operand} {r:Root} {p:List Nat} {g g':Nat} {i:TI} {u:V} (ho:o.op=.load T x) (hd:o.dst=some d) (hN:d < N) (hi:ti P T=some i)
    (hx:A.ev x=.ptr r p g g') (hat:A.at r p=some (g,g',u)) (hn:u.n=i.sz) (ha:i.d.agg=u.isAgg) (hK:K ((A.setAt r p u.kill).put (some d) u)):opT P N o A K:=by
  intro Pb Kb a w F Q hs
  obtain ⟨_,hpt⟩:=ev_RV hs x
  rw [hx] at hpt
  have hp:a.eval x=.pointer (some ⟨g,g',none⟩):=by have:=hpt.2; simpa using this
  obtain ⟨Fr,Fu,hs',⟨cs,cells,hb,hru,hc⟩,hnd,hdis,hfr⟩:=hs.split hat
  obtain ⟨y,hy,hr'⟩:=load_cells (w:=w) hi hru hn ha (g:=g) (o:=g') (fun j u hu=>by rw [cell_of_blk hb]; exact hc j u hu)
  unfold Oper.wp
  have:(execOp a.eval o).run P w=.ok (.value y) w:=by
    simp only [execOp,ho,Instr.loadAt,hp,Instr.sureAddr,Sem.run_bind,Sem.run_pure,Result.andThen_ok,hy]
  rw [this,Oper.upon_value,hd]
  exact ⟨_,Pb,Kb,_,hK,hs'.put hN hr' (fun r _ g hg=>hdis r g hg) hnd hfr,fun _ h=>h,fun _ h=>h,fun _ h=>.inl h,Keep.refl _ _⟩
def apB (A:AS) (s:Operand) (sz:Nat):Option (Prop×AS×List V):=
  match s with
  | .const (.slice none 0 0)=>some (True,A,[])
  | .tmp t=>match A.get t with
    | .sl true []=>some (True,A,[])
    | .own sz' xs _ _ _=>some (sz'=sz,A.put (some t) .dead,xs)
    | .hd (.slot i) [] sz' g o 0 n c=>match A.get i with
      | .own sz2 xs g2 o2 c2=>some ((sz',sz2,g2,o2,c2,n)=(sz,sz,g,o,c,xs.length),A.put (some i) .dead,xs)
      | _=>none
    | .hd (.key k) p sz' g o 0 n c=>match A.at (.key k) p with
      | some (_,_,.own sz2 xs g2 o2 c2)=>some ((sz',sz2,g2,o2,c2,n)=(sz,sz,g,o,c,xs.length),A.setAt (.key k) p .dead,xs)
      | _=>none
    | _=>none
  | _=>none
theorem apB_sound {s:Operand} {sz:Nat} {C:Prop} {xs:List V} (h:apB A s sz=some (C,A1,xs)) (hC:C) (hs:SIM N Pb Kb A a w F):
    ∃ Fx F' g o c,SIM N Pb Kb A1 a w F'∧R w Pb (.own sz xs g o c) [a.eval s] Fx∧Fx.Nodup∧(∀ r g,g∈Fx→g ∉ F' r)∧(∀ g,g∈Fx→¬ Kb g∧g < w.heap.size):=by
  have stale:∀ {t:Nat} {r:Root} {p:List Nat} {sz g o n c:Nat} {xs:List V} {cs:List Value} {Fx:List Nat},A.get t=.hd r p sz g o 0 n c→n=xs.length→R w Pb (.own sz xs g o c) cs Fx→R w Pb (.own sz xs g o c) [a.eval (.tmp t)] Fx:=by
    intro t r p sz g o n c xs cs Fx hg hn hr
    subst hn
    have hh:=hs.slot t
    rw [hg] at hh
    obtain ⟨_,hle,B,hv,hB⟩:=hh
    have hv:a.eval (.tmp t)=.slice B xs.length c:=(List.cons.inj hv).1
    rw [hv]
    rcases hr with ⟨rfl,rfl,rfl,A0,_⟩ | ⟨h1,h2,h3,h4,h5⟩
    · exact .inl ⟨rfl,rfl,rfl,B,rfl⟩
    · have:=hB h1
      rw [Nat.zero_mul,Nat.add_zero] at this
      subst this
      exact .inr ⟨h1,h2,h3,rfl,h5⟩
  unfold apB at h
  split at h
  · simp only [Option.some.injEq,Prod.mk.injEq] at h
    obtain ⟨_,rfl,rfl⟩:=h
    exact ⟨[],F,0,0,0,hs,.inl ⟨rfl,rfl,rfl,none,rfl⟩,List.nodup_nil,by simp,by simp⟩
  · rename_i t
    split at h
    · rename_i hg
      simp only [Option.some.injEq,Prod.mk.injEq] at h
      obtain ⟨_,rfl,rfl⟩:=h
      have hsl:=hs.slot t
      rw [hg] at hsl
      obtain ⟨_,B,c,hv,_,hfull,_⟩:=hsl
      have hc0:c=0:=hfull rfl
      subst hc0
      exact ⟨[],F,0,0,0,hs,.inl ⟨rfl,rfl,rfl,B,hv⟩,List.nodup_nil,by simp,by simp⟩
    · rename_i sz' xs' g o c hg
      simp only [Option.some.injEq,Prod.mk.injEq] at h
      obtain ⟨rfl,rfl,rfl⟩:=h
      subst hC
      obtain ⟨Fx,F',hr,hs',hnd,hdis,hfr,_⟩:=hs.take (.tmp t)
      rw [drop_own hg] at hs'
      have hr:RV w Pb (A.get t) (a.eval (.tmp t)) Fx:=hr
      rw [hg] at hr
      exact ⟨Fx,F',g,o,c,hs',hr,hnd,hdis,hfr⟩
    · rename_i i sz' g o n c hg
      split at h
      case h_2=>simp at h
      rename_i sz2 xs' g2 o2 c2 hi
      simp only [Option.some.injEq,Prod.mk.injEq] at h
      obtain ⟨rfl,rfl,rfl⟩:=h
      obtain ⟨rfl,rfl,rfl,rfl,rfl,hn⟩:=hC
      obtain ⟨Fx,F',hr,hs',hnd,hdis,hfr,_⟩:=hs.take (.tmp i)
      rw [drop_own hi] at hs'
      have hr:RV w Pb (A.get i) (a.eval (.tmp i)) Fx:=hr
      rw [hi] at hr
      exact ⟨Fx,F',_,_,_,hs',stale hg hn (cs:=[a.eval (.tmp i)]) hr,hnd,hdis,hfr⟩
    · rename_i k p sz' g o n c hg
      split at h
      case h_2=>simp at h
      rename_i g0 o0 sz2 xs' g2 o2 c2 hat
      simp only [Option.some.injEq,Prod.mk.injEq] at h
      obtain ⟨rfl,rfl,rfl⟩:=h
      obtain ⟨rfl,rfl,rfl,rfl,rfl,hn⟩:=hC
      obtain ⟨Fr,Fu,hs',⟨cs,cells,hb,hru,hc⟩,hnd,hdis,hfr⟩:=hs.split hat
      exact ⟨Fu,_,_,_,_,hs',stale hg hn hru,hnd,hdis,hfr⟩
    · simp at h
  · simp at h
theorem opT_app {o:Oper} {K:AS→Prop} {d T T2 e e2:Nat} {s x:Operand} {t:TI} {C Cx:Prop} {xs ys:List V} (ho:o.op=.call { callee:=.builtin .append,args:= #[s,x],argTypes:= #[T,T2] }) (hty:o.type=T)
    (hd:o.dst=some d) (hN:d < N) (hT:tD P T=some (.sl e)) (hT2:tD P T2=some (.sl e2)) (ht:ti P e=some t) (hz:∃ inf z,P.info? e=some inf∧inf.zero=some z∧z.cells.size=t.sz) (hsz:0 < t.sz) (hby:0 < t.by_)
    (hb:apB A s t.sz=some (C,A1,xs)) (hC:C) (hx:rdL A x=some (Cx,ys)) (hCx:Cx) (hoy:V.ownsL ys=false) (hNy:AllN t.sz ys)
    (hbig:(xs.length+ys.length) * t.by_≤140737488355328)
    (hK:∀ g o c,K (A1.put (some d) (.own t.sz (xs++ys) g o c))):opT P N o A K:=by
  intro Pb Kb a w F Q hs
  obtain ⟨B2,c2,flat2,hx2,hr2,hf2,hl2⟩:=rd_sound (P:=P) hs hx hCx hNy hoy
  obtain ⟨Fx,F',g0,o0,c0,hs',hr,hnd,hdis,hfr⟩:=apB_sound hb hC hs
  obtain ⟨v,w',F2,g',o',c',hrun,hs2,hr2,hnd2,hdis2,hfr2,hk2⟩:=append_core hT hT2 ht hz hsz hby hs' hr hdis hfr (Fy:=[]) (by simpa using hnd) (by simp) (by simp) hx2 hr2 hf2 hl2 hNy hbig
  have hx':(execOp a.eval o).run P w=.ok (.value v) w':=by
    simp only [execOp,ho,resolve,invoke,builtin,Sem.run_bind,Sem.run_pure,Result.andThen_ok,hty]
    have e:(#[s,x].map a.eval)= #[a.eval s,a.eval x]:=by simp
    rw [e,hrun]; rfl
  unfold Oper.wp
  rw [hx',Oper.upon_value,hd]
  exact ⟨_,Pb,Kb,_,hK g' o' c',hs2.put hN hr2 (fun r _ g hg=>hdis2 r g hg) hnd2 hfr2,fun _ h=>h,fun _ h=>h,fun _ h=>.inl h,hk2⟩
def apF (A:AS) (s:Operand) (sz:Nat):Option (Prop×List V):=
  match s with
  | .tmp t=>match A.get t with
    | .sl true (x :: xs)=>some (AllN sz (x :: xs),x :: xs)
    | _=>none
  | _=>none
theorem opT_appF {o:Oper} {K:AS→Prop} {d T T2 e e2:Nat} {s x:Operand} {t:TI} {C Cx:Prop} {xs ys:List V} (ho:o.op=.call { callee:=.builtin .append,args:= #[s,x],argTypes:= #[T,T2] }) (hty:o.type=T)
    (hd:o.dst=some d) (hN:d < N) (hT:tD P T=some (.sl e)) (hT2:tD P T2=some (.sl e2)) (ht:ti P e=some t) (hz:∃ inf z,P.info? e=some inf∧inf.zero=some z∧z.cells.size=t.sz) (hsz:0 < t.sz) (hby:0 < t.by_)
    (hb:apF A s t.sz=some (C,xs)) (hC:C) (hy0:0 < ys.length) (hx:rdL A x=some (Cx,ys)) (hCx:Cx) (hoy:V.ownsL ys=false) (hNy:AllN t.sz ys)
    (hbig:(xs.length+ys.length) * t.by_≤140737488355328)
    (hK:∀ g o c,K (A.put (some d) (.own t.sz (xs++ys) g o c))):opT P N o A K:=by
  intro Pb Kb a w F Q hs
  obtain ⟨B2,c2,flat2,hx2,hr2,hf2,hl2⟩:=rd_sound (P:=P) hs hx hCx hNy hoy
  have hr:R w Pb (.sl true xs) [a.eval s] []∧AllN t.sz xs:=by
    unfold apF at hb
    split at hb
    · rename_i q
      split at hb
      · rename_i x' xs' hg
        simp only [Option.some.injEq,Prod.mk.injEq] at hb
        obtain ⟨rfl,rfl⟩:=hb
        have hsl:=hs.slot q
        rw [hg] at hsl
        have hF:F (.slot q)=[]:=hsl.1
        rw [hF] at hsl
        exact ⟨hsl,hC⟩
      · simp at hb
    · simp at hb
  obtain ⟨v,w',F2,g',o',c',hrun,hs2,hr2,hnd2,hdis2,hfr2,hk2⟩:=append_full hT hT2 ht hz hsz hby hs hr.1 hr.2 hy0 hx2 hr2 hf2 hl2 hNy hbig
  have hx':(execOp a.eval o).run P w=.ok (.value v) w':=by
    simp only [execOp,ho,resolve,invoke,builtin,Sem.run_bind,Sem.run_pure,Result.andThen_ok,hty]
    have e:(#[s,x].map a.eval)= #[a.eval s,a.eval x]:=by simp
    rw [e,hrun]; rfl
  unfold Oper.wp
  rw [hx',Oper.upon_value,hd]
  exact ⟨_,Pb,Kb,_,hK g' o' c',hs2.put hN hr2 (fun r _ g hg=>hdis2 r g hg) hnd2 hfr2,fun _ h=>h,fun _ h=>h,fun _ h=>.inl h,hk2⟩
end
end Go.Abs
namespace Go.Abs
open Go Go.RowKit
mutual
def V.plain:V→Bool
  | .lit _=>true
  | .agg vs=>V.plainL vs
  | .tup vs=>V.plainL vs
  | _=>false
def V.plainL:List V→Bool
  | []=>true
  | v :: vs=>v.plain&&V.plainL vs
end
def lendL (A:AS):List Operand→Prop×List V
  | []=>(True,[])
  | x :: xs=>match lendL A xs with
    | (C,vs)=>match A.ev x with
      | .hd .. =>match rdL A x with
        | some (Cx,ys)=>(Cx∧C,.sl false ys :: vs)
        | none=>(C,A.cp x :: vs)
      | _=>(C,A.cp x :: vs)
section
variable {w w':World} {Pb Kb Pb':Nat→Prop} {N:Nat} {A A' B:AS} {a:Act} {F:Root→List Nat} {P:Program} {ops:Array Oper}
mutual
theorem R_plain:∀ (v:V) {cs F},v.plain=true→R w Pb v cs F→R w' Pb' v cs []∧F=[]
  | .lit x,cs,F,_,h=>⟨⟨h.1,h.2.1,rfl⟩,h.2.2⟩
  | .agg vs,cs,F,hp,h=>by simp only [R] at h ⊢; simp only [V.plain] at hp; exact RL_plain vs hp h
  | .tup _,_,_,_,h=>by simp [R] at h
  | .gv _ _,_,_,hp,_=>by simp [V.plain] at hp
  | .sl ..,_,_,hp,_=>by simp [V.plain] at hp
  | .own ..,_,_,hp,_=>by simp [V.plain] at hp
  | .ow ..,_,_,hp,_=>by simp [V.plain] at hp
  | .om ..,_,_,hp,_=>by simp [V.plain] at hp
  | .mp ..,_,_,hp,_=>by simp [V.plain] at hp
  | .hd ..,_,_,hp,_=>by simp [V.plain] at hp
  | .ptr ..,_,_,hp,_=>by simp [V.plain] at hp
  | .ep _,_,_,hp,_=>by simp [V.plain] at hp
  | .dead,_,_,hp,_=>by simp [V.plain] at hp
theorem RL_plain:∀ (vs:List V) {cs F},V.plainL vs=true→RL w Pb vs cs F→RL w' Pb' vs cs []∧F=[]
  | [],cs,F,_,h=>⟨⟨h.1,rfl⟩,h.2⟩
  | v :: vs,cs,F,hp,h=>by
    simp only [V.plainL,Bool.and_eq_true] at hp
    obtain ⟨c1,c2,F1,F2,h1,h2,h3,h4⟩:=h
    have k1:=R_plain v hp.1 h3
    have k2:=RL_plain vs hp.2 h4
    exact ⟨⟨c1,c2,[],[],h1,rfl,k1.1,k2.1⟩,by rw [h2,k1.2,k2.2]; rfl⟩
end
theorem RVs_plain:∀ (vs:List V) {xs F},V.plainL vs=true→RVs w Pb vs xs F→RVs w' Pb' vs xs []∧F=[]
  | [],xs,F,_,h=>⟨⟨h.1,rfl⟩,h.2⟩
  | v :: vs,xs,F,hp,h=>by
    simp only [V.plainL,Bool.and_eq_true] at hp
    obtain ⟨x,xs',F1,F2,h1,h2,h3,h4⟩:=h
    have k2:=RVs_plain vs hp.2 h4
    subst h1 h2
    cases v with
    | agg us=>
      obtain ⟨cs,e,h3⟩:=h3
      have k1:=RL_plain (w':=w') (Pb':=Pb') us (by simpa [V.plain] using hp.1) h3
      exact ⟨⟨x,xs',[],[],rfl,rfl,⟨cs,e,k1.1⟩,k2.1⟩,by rw [k1.2,k2.2]; rfl⟩
    | lit y=>have k1:=R_plain (w':=w') (Pb':=Pb') (.lit y) hp.1 h3; exact ⟨⟨x,xs',[],[],rfl,rfl,k1.1,k2.1⟩,by rw [k1.2,k2.2]; rfl⟩
    | tup us=>exact absurd h3 (by simp [R])
    | _=>simp [V.plain] at hp
theorem RV_plain (v:V) {x F} (hp:v.plain=true) (h:RV w Pb v x F):RV w' Pb' v x []∧F=[]:=by
  cases v with
  | tup vs=>obtain ⟨xs,e,h⟩:=h; have:=RVs_plain (w':=w') (Pb':=Pb') vs (by simpa [V.plain] using hp) h; exact ⟨⟨xs,e,this.1⟩,this.2⟩
  | agg us=>obtain ⟨cs,e,h⟩:=h; have:=RL_plain (w':=w') (Pb':=Pb') us (by simpa [V.plain] using hp) h; exact ⟨⟨cs,e,this.1⟩,this.2⟩
  | lit y=>exact R_plain (w:=w) (Pb:=Pb) (w':=w') (Pb':=Pb') (.lit y) hp h
  | _=>simp [V.plain] at hp
theorem hd_sl {Fo:List Nat} {sz2 g2 o2 c2 lo n c:Nat} {xs:List V} {cso:List Value} (hr:R w Pb (.own sz2 xs g2 o2 c2) cso Fo) (hle:n≤c) {B:Option Addr} (hB:0 < c→B=some ⟨g2,o2+lo * sz2,none⟩) (hn:lo+n≤xs.length) (ho:V.ownsL xs=false)
    (k1:∀ g,Pb g→Pb' g) (k2:∀ g,g < w.heap.size→Pb' g):R w Pb' (.sl false ((xs.drop lo).take n)) [.slice B n c] []:=by
  have hlen:((xs.drop lo).take n).length=n:=by simp; omega
  refine ⟨rfl,B,c,by rw [hlen],by rw [hlen]; exact hle,by simp,?_⟩
  by_cases hn0:n=0
  · subst hn0; exact .inl (by simp)
  · right
    rcases hr with ⟨_,rfl,_⟩ | ⟨h1,h2,h3,hx,hN,_,flat,F',cells,rfl,hr,hb,hsz,hc⟩
    · simp at hn; omega
    · have hF:=RL_owns xs ho hr
      subst hF
      obtain ⟨c1,hr1,hc1⟩:=RL_drop xs lo hr
      obtain ⟨c3,hr3,hc3⟩:=RL_take _ n hr1
      refine ⟨g2,o2+lo * sz2,sz2,c3,hB (by omega),k2 g2 (by obtain ⟨e,fr,hb,_⟩:=hb; exact (Array.getElem?_eq_some_iff.1 hb).1),h2,fun x hx=>hN x (List.mem_of_mem_drop (List.mem_of_mem_take hx)),RL_keep _ hr3 (fun _ _=>rfl) (by simp) k1 (by simp),fun j u hu=>?_⟩
      rw [cell_of_blk hb]
      have:=hc1 j u (hc3 j u hu)
      rw [ns_take xs lo hN (by omega)] at this
      have:=hc _ _ this
      simpa [Nat.add_assoc] using this
theorem lend_hd (hs:SIM N Pb Kb A a w F) {x:Operand} {C:Prop} {ys:List V} {r:Root} {p:List Nat} {sz g o lo n c:Nat} (he:A.ev x=.hd r p sz g o lo n c) (h:rdL A x=some (C,ys)) (hC:C):R w (fun g=>g < w.heap.size) (.sl false ys) [a.eval x] []:=by
  obtain ⟨Fx,hr⟩:=ev_RV hs x
  rw [he] at hr
  obtain ⟨_,hle,B,hv,hB⟩:=hr
  have hv:a.eval x=.slice B n c:=(List.cons.inj hv).1
  have key:∀ u Fo cso,R w Pb u cso Fo→ownRd lo n sz g o u=some (C,ys)→R w (fun g=>g < w.heap.size) (.sl false ys) [a.eval x] []:=by
    intro u Fo cso hru hu
    unfold ownRd at hu
    split at hu
    · rename_i sz2 xs g2 o2 c2
      simp only [Option.some.injEq,Prod.mk.injEq] at hu
      obtain ⟨rfl,rfl⟩:=hu
      obtain ⟨⟨rfl,rfl,rfl⟩,hln,hol,_⟩:=hC
      rw [hv]
      exact hd_sl hru hle hB hln hol (fun k h=>hs.bound k (hs.sub k h)) fun g hg=>hg
    · simp at hu
  unfold rdL at h
  rw [he] at h
  simp only at h
  split at h
  · rename_i i
    have hsl:=hs.slot i
    unfold ownRd at h
    split at h
    · rename_i sz2 xs g2 o2 c2 hg
      rw [hg] at hsl
      exact key (.own sz2 xs g2 o2 c2) _ _ hsl (by unfold ownRd; exact h)
    · simp at h
  · rename_i k p'
    split at h
    · rename_i a0 b0 u hat
      obtain ⟨F',cs,cells,hb,hru,hcell⟩:=A_at_sound hs hat
      exact key u F' cs hru h
    · simp at h
  · simp at h
theorem lend_RVs (hs:SIM N Pb Kb A a w F):∀ (xs:List Operand) {C:Prop} {vs:List V},lendL A xs=(C,vs)→C→RVs w (fun g=>g < w.heap.size) vs (xs.map a.eval) []
  | [],C,vs,h,_=>by simp only [lendL,Prod.mk.injEq] at h; obtain ⟨_,rfl⟩:=h; exact ⟨rfl,rfl⟩
  | x :: xs,C,vs,h,hC=>by
    have plain:∀ vs',RVs w (fun g=>g < w.heap.size) vs' (xs.map a.eval) []→RVs w (fun g=>g < w.heap.size) (A.cp x :: vs') ((x :: xs).map a.eval) []:=fun vs' h'=>by
      have h1:=RVs_args hs [x]
      have h1:=RVs_keep (w':=w) (Pb':=fun g=>g < w.heap.size) _ h1 (fun _ _=>rfl) (fun _ _=>rfl) (fun k h=>hs.bound k (hs.sub k h)) (by simp)
      obtain ⟨y,ys,F1,F2,e1,e2,h2,_⟩:=h1
      simp only [List.map_cons,List.map_nil,List.cons.injEq] at e1
      obtain ⟨rfl,_⟩:=e1
      have e2:=e2.symm
      simp only [List.append_eq_nil_iff] at e2
      obtain ⟨rfl,_⟩:=e2
      exact ⟨a.eval x,xs.map a.eval,[],[],rfl,rfl,h2,h'⟩
    cases hl:lendL A xs with
    | mk C0 vs0=>
      simp only [lendL,hl] at h
      split at h
      · rename_i r p sz g o lo n c he
        split at h
        · rename_i Cx ys e
          simp only [Prod.mk.injEq] at h
          obtain ⟨rfl,rfl⟩:=h
          exact ⟨a.eval x,xs.map a.eval,[],[],rfl,rfl,lend_hd hs he e hC.1,lend_RVs hs xs hl hC.2⟩
        · simp only [Prod.mk.injEq] at h
          obtain ⟨rfl,rfl⟩:=h
          exact plain _ (lend_RVs hs xs hl hC)
      · simp only [Prod.mk.injEq] at h
        obtain ⟨rfl,rfl⟩:=h
        exact plain _ (lend_RVs hs xs hl hC)
theorem opT_lend {o:Oper} {K:AS→Prop} {f:FuncId} {xs:Array Operand} {tys:Array TypeId} {args:List V} {Q:V→Prop} {C:Prop} {vs:List V} (ho:o.op=.call { callee:=.value (.func f),args:=xs,argTypes:=tys })
    (hd:dstOk N o.dst) (hc:PC P f args Q) (hl:lendL A xs.toList=(C,vs)) (hC:C) (hargs:wkL vs args=args) (hp:∀ r,Q r→r.plain=true) (hK:∀ r,Q r→K (A.put o.dst r)):opT P N o A K:=by
  intro Pb Kb a w F Q' hs
  unfold Oper.wp
  have hrun:(execOp a.eval o).run P w=.ok (.enter f (xs.map a.eval)) w:=by
    simp only [execOp,ho,resolve,Act.eval,Deferred.ofValue,Sem.run_bind,Sem.run_pure,Result.andThen_ok,invoke]
    have:=hc.1 (xs.map a.eval) w
    simpa using this
  rw [hrun,Oper.upon_enter]
  have h0:=lend_RVs hs xs.toList hl hC
  have h0:=RVs_wk _ args h0
  rw [hargs] at h0
  have hcall:=hc.2 w (fun g=>g < w.heap.size) (xs.toList.map a.eval) (fun g hg=>hg) h0
  have e:(xs.toList.map a.eval).toArray=xs.map a.eval:=by rw [← Array.toList_map,Array.toArray_toList]
  rw [e] at hcall
  refine hcall.mono ?_
  rintro e w' ⟨r,x,Fr,Pb',rfl,hq,hr,hnd,hfr,h1,h2,hb⟩
  have hs':SIM N Pb Kb A a w' F:=hs.grow hb.block hb.size (fun _ h=>h) (fun g hg=>.inl hg) hs.sub
  obtain ⟨F',hs2⟩:=hs'.put0 (d:=o.dst) hd (RV_plain (w':=w') (Pb':=Pb) r (hp r hq) hr).1
  exact ⟨_,Pb,Kb,F',hK r hq,hs2,fun _ h=>h,fun _ h=>h,fun g h=>.inl h,Keep.of_below hb hs.bound⟩
end
end Go.Abs
namespace Go.Abs
open Go Go.RowKit
section
variable {w w':World} {Pb Kb Pb':Nat→Prop} {N:Nat} {A A' B:AS} {a:Act} {F:Root→List Nat} {P:Program} {ops:Array Oper}
theorem opT_bsO {o:Oper} {K:AS→Prop} {d T e len:Nat} {parts:Array (Nat×Operand)} {i:TI} {vs:List V} (ho:o.op=.buildSlice T len parts) (hd:o.dst=some d) (hN:d < N) (hT:tD P T=some (.sl e)) (hi:ti P e=some i)
    (hvs:partsV A 0 parts.toList=some vs) (hB:bsB P T e len i vs=true) (h0:0 < len) (hK:∀ g,K (A.put (some d) (.own i.sz vs g 0 len))):opT P N o A K:=by
  simp only [bsB,Bool.and_eq_true,beq_iff_eq] at hB
  obtain ⟨⟨⟨⟨b1,hlen⟩,hsmall⟩,hpos⟩,hv⟩:=hB
  obtain ⟨inf,z,hinf,hzero,_⟩:=zOk_of b1
  have hsmall:=Nat.le_of_ble_eq_true hsmall
  have hpos:=Nat.lt_of_succ_le (Nat.le_of_ble_eq_true hpos)
  have hv:=allB_of hv
  intro Pb Kb a w F Q hs
  obtain ⟨xs,h1,h2,h3,h4⟩:=partsV_sound hs parts.toList 0 hvs hv
  have hu:=sl_of hT
  obtain ⟨inf',_,hinf',_,hsz,_,_⟩:=ti_some hi
  rw [hinf] at hinf'
  obtain rfl:=Option.some.inj hinf'
  have hfl:=Great.fill_whole hpos xs ((Array.range (len * i.sz)).map (z.cells[· % z.cells.size]!)) h2 (by simp [h4,hlen])
  have hmul: ¬ len * inf.size=0:=by rw [hsz]; exact Nat.mul_ne_zero (by omega) (by omega)
  have hb:=run_buildSlice (P:=P) w T e len (parts.map fun (i,x)=>(i,a.eval x)) _ inf z hu hinf hzero (by rw [hsz]; omega) hmul (by rw [Array.toList_map,h1,hsz]; exact hfl)
  have hx:(execOp a.eval o).run P w=.ok (.value (.slice (some ⟨w.heap.size,0,none⟩) len len)) (w.alloc (.cells (xs.flatMap fun v=>v.cells.toList).toArray e)):=by
    simp only [execOp,ho,Sem.run_bind,hb,Result.andThen_ok,Sem.run_pure]
  unfold Oper.wp
  rw [hx,Oper.upon_value,hd]
  have hs1:=hs.grow0 (.cells (xs.flatMap fun v=>v.cells.toList).toArray e)
  have hrl:=RL_keep (w':=w.alloc (.cells (xs.flatMap fun v=>v.cells.toList).toArray e)) (Pb':=Pb) vs h3 (fun g hg=>alloc_old w _ g (hs.bound g (hs.sub g hg))) (by simp) (fun g hg=>hg) (by simp)
  have hcs:(xs.flatMap fun v=>v.cells.toList).length=len * i.sz:=by
    rw [RL_len _ h3,ns_all vs (fun v hv'=>(hv v hv').2),hlen]
  have hKn: ¬ Kb w.heap.size:=fun h=>by have:=hs.bound _ h; omega
  have hR:R (w.alloc (.cells (xs.flatMap fun v=>v.cells.toList).toArray e)) Pb (.own i.sz vs w.heap.size 0 len) [.slice (some ⟨w.heap.size,0,none⟩) len len] [w.heap.size]:=
    .inr ⟨h0,hpos,by omega,by rw [hlen],fun v hv'=>(hv v hv').2,fun c=>hKn (hs.sub _ c),_,[],_,rfl,hrl,⟨e,(0,0),alloc_new w _,fun i _ h=>by omega⟩,by simp only [List.size_toArray]; rw [hcs]; omega,fun j u hu=>by simpa using hu⟩
  exact ⟨_,Pb,Kb,_,hK _,hs1.put hN hR (fun r _ g hg=>by
      obtain rfl:=List.mem_singleton.1 hg
      intro c; have:=(hs.free r _ c).2; omega) (by simp) (fun g hg=>by
      obtain rfl:=List.mem_singleton.1 hg
      exact ⟨hKn,by rw [alloc_size]; omega⟩),fun _ h=>h,fun _ h=>h,fun _ h=>.inl h,Keep.alloc hs.bound _⟩
theorem hx_claimR {K:AS→Prop} {t sz n g o c g0 o0:Nat} {xs:List V} {r:Root} {p:List Nat} (h2:A.get t=.own sz xs g o c) (hat:(A.put (some t) .dead).at r p=some (g0,o0,.hd (.slot t) [] sz g o 0 n c)) (hn:n=xs.length)
    (h:K ((A.put (some t) .dead).setAt r p (.own sz xs g o c))):Hx N A K:=Hx.simple h fun Pb Kb a w F hs=>by
  subst hn
  obtain ⟨Fx,F1,hr,hs1,hnd,hdis,hfr,_⟩:=hs.take (.tmp t)
  rw [drop_own h2] at hs1
  have hr:RV w Pb (A.get t) (a.tmps.getD t undef) Fx:=hr
  rw [h2] at hr
  obtain ⟨Fp,cs,cells,hb,hp,hc⟩:=A_at_sound hs1 hat
  obtain ⟨_,hle,B,rfl,hB⟩:=hp
  have hr':R w Pb (.own sz xs g o c) [.slice B xs.length c] Fx:=by
    rcases hr with ⟨rfl,rfl,rfl,A0,_⟩ | ⟨k1,k2,k3,k4,k5⟩
    · exact .inl ⟨rfl,rfl,rfl,B,rfl⟩
    · have:=hB k1
      rw [Nat.zero_mul,Nat.add_zero] at this
      subst this
      exact .inr ⟨k1,k2,k3,rfl,k5⟩
  obtain ⟨F2,hs2,_⟩:=hs1.store (w':=w) (v:=.own sz xs g o c) hat hr' rfl hnd hdis hfr ⟨rfl,rfl,rfl,rfl,fun _ _=>rfl,fun cells' hb'=>⟨cells',hb',rfl,fun _ _=>rfl,fun j u hu=>by
    have e:cells'=cells:=by
      obtain ⟨e1,f1,q1,_⟩:=hb
      obtain ⟨e2,f2,q2,_⟩:=hb'
      rw [q1] at q2
      simp only [Option.some.injEq,Obj.cells.injEq] at q2
      exact q2.1.symm
    rw [e]; exact hc j u hu⟩⟩
  exact ⟨F2,hs2⟩
theorem opT_appX {o:Oper} {K:AS→Prop} {d T T2 e e2 t0:Nat} {x:Operand} {t:TI} {Cx:Prop} {xs ys:List V} {r:Root} {p:List Nat} {sz g o1 n c g0 o0:Nat} (ho:o.op=.call { callee:=.builtin .append,args:= #[.tmp t0,x],argTypes:= #[T,T2] }) (hty:o.type=T)
    (hd:o.dst=some d) (hN:d < N) (hT:tD P T=some (.sl e)) (hT2:tD P T2=some (.sl e2)) (ht:ti P e=some t) (hz:∃ inf z,P.info? e=some inf∧inf.zero=some z∧z.cells.size=t.sz) (hsz:0 < t.sz) (hby:0 < t.by_)
    (hg:A.get t0=.hd r p sz g o1 0 n c) (hat:A.at r p=some (g0,o0,.own sz xs g o1 c)) (hs0:sz=t.sz) (hn:n=xs.length) (hx:rdL A x=some (Cx,ys)) (hCx:Cx) (hoy:V.ownsL ys=false) (hNy:AllN t.sz ys)
    (hbig:(xs.length+ys.length) * t.by_≤140737488355328)
    (hK:∀ g o c,K ((A.setAt r p .dead).put (some d) (.own t.sz (xs++ys) g o c))):opT P N o A K:=by
  subst hs0 hn
  intro Pb Kb a w F Q hs
  obtain ⟨B2,c2,flat2,hx2,hr2,hf2,hl2⟩:=rd_sound (P:=P) hs hx hCx hNy hoy
  obtain ⟨Fr,Fu,hs',⟨cs,cells,hb,hru,hc⟩,hnd,hdis,hfr⟩:=hs.split hat
  have hr:R w Pb (.own t.sz xs g o1 c) [a.eval (.tmp t0)] Fu:=by
    have hh:=hs.slot t0
    rw [hg] at hh
    obtain ⟨_,hle,B,hv,hB⟩:=hh
    have hv:a.eval (.tmp t0)=.slice B xs.length c:=(List.cons.inj hv).1
    rw [hv]
    rcases hru with ⟨rfl,rfl,rfl,A0,_⟩ | ⟨h1,h2,h3,h4,h5⟩
    · exact .inl ⟨rfl,rfl,rfl,B,rfl⟩
    · have:=hB h1
      rw [Nat.zero_mul,Nat.add_zero] at this
      subst this
      exact .inr ⟨h1,h2,h3,rfl,h5⟩
  obtain ⟨v,w',F2,g',o',c',hrun,hs2,hr2,hnd2,hdis2,hfr2,hk2⟩:=append_core hT hT2 ht hz hsz hby hs' hr hdis hfr (Fy:=[]) (by simpa using hnd) (by simp) (by simp) hx2 hr2 hf2 hl2 hNy hbig
  have hx':(execOp a.eval o).run P w=.ok (.value v) w':=by
    simp only [execOp,ho,resolve,invoke,builtin,Sem.run_bind,Sem.run_pure,Result.andThen_ok,hty]
    have e:(#[.tmp t0,x].map a.eval)= #[a.eval (.tmp t0),a.eval x]:=by simp
    rw [e,hrun]; rfl
  unfold Oper.wp
  rw [hx',Oper.upon_value,hd]
  exact ⟨_,Pb,Kb,_,hK g' o' c',hs2.put hN hr2 (fun r _ g hg=>hdis2 r g hg) hnd2 hfr2,fun _ h=>h,fun _ h=>h,fun _ h=>.inl h,hk2⟩
end
end Go.Abs
namespace Go.Abs
open Go Go.RowKit
section
variable {w w':World} {Pb Kb Pb':Nat→Prop} {N:Nat} {A A' B:AS} {a:Act} {F:Root→List Nat} {P:Program} {ops:Array Oper}
theorem RVs_takeAt:∀ (vs:List V) {xs:List Value} {F:List Nat} {i:Nat} {v:V},RVs w Pb vs xs F→vs[i]? =some v→v.isVal=true→
    ∃ x Fa Fi Fb,xs[i]? =some x∧F=Fa++Fi++Fb∧RV w Pb v x Fi∧RVs w Pb (vs.set i .dead) xs (Fa++Fb)
  | [],_,_,_,_,_,h,_=>by simp at h
  | u :: vs,xs,F,0,v,h,hi,hv=>by
    obtain ⟨x,xs',F1,F2,rfl,rfl,h1,h2⟩:=h
    simp at hi; subst hi
    refine ⟨x,[],F1,F2,rfl,by simp,?_,⟨x,xs',[],F2,rfl,rfl,rfl,h2⟩⟩
    cases u <;> first | exact h1 | simp [V.isVal] at hv
  | u :: vs,xs,F,i+1,v,h,hi,hv=>by
    obtain ⟨x,xs',F1,F2,rfl,rfl,h1,h2⟩:=h
    obtain ⟨y,Fa,Fi,Fb,k1,rfl,k3,k4⟩:=RVs_takeAt vs h2 (by simpa using hi) hv
    exact ⟨y,F1++Fa,Fi,Fb,by simpa using k1,by simp,k3,⟨x,xs',F1,Fa++Fb,rfl,by simp,h1,k4⟩⟩
theorem opT_extractMv {o:Oper} {K:AS→Prop} {t i d:Nat} {vs:List V} {v:V} (ho:o.op=.extract (.tmp t) i) (hd:o.dst=some d) (hN:d < N) (ht:t < N) (htd:d≠t) (hg:A.get t=.tup vs) (hi:vs[i]? =some v) (hv:v.isVal=true)
    (hK:K ((A.put (some t) (.tup (vs.set i .dead))).put (some d) v)):opT P N o A K:=by
  intro Pb Kb a w F Q hs
  have hsl:=hs.slot t
  rw [hg] at hsl
  obtain ⟨xs,hx,hr⟩:=hsl
  obtain ⟨x,Fa,Fi,Fb,k1,k2,k3,k4⟩:=RVs_takeAt vs hr hi hv
  have hnd:=hs.nodup (.slot t)
  rw [k2] at hnd
  have hsub:∀ g,g∈Fa++Fb→g∈F (.slot t):=fun g hg=>by rw [k2]; simp only [List.mem_append] at hg ⊢; rcases hg with h | h <;> simp [h]
  have hsub2:∀ g,g∈Fi→g∈F (.slot t):=fun g hg=>by rw [k2]; simp [hg]
  have hnd2:(Fa++Fb).Nodup∧Fi.Nodup∧∀ g,g∈Fi→g ∉ Fa++Fb:=by
    simp only [List.nodup_append,List.mem_append] at hnd ⊢
    grind
  have hs1:=hs.put (d:=t) (v:=.tup (vs.set i .dead)) (x:=a.tmps.getD t undef) (F':=Fa++Fb) ht ⟨xs,hx,k4⟩ (fun r hr g hg c=>hs.disj (.slot t) r (Ne.symm hr) g (hsub g hg) c) hnd2.1 (fun g hg=>hs.free _ g (hsub g hg))
  rw [put_self] at hs1
  unfold Oper.wp
  have hrun:(execOp a.eval o).run P w=.ok (.value x) w:=by
    have hev:a.eval (.tmp t)=.tuple xs:=hx
    have hxi:xs[i]? =some x:=by simpa using k1
    simp only [execOp,ho,hev,Instr.extract,hxi,Sem.run_bind,Sem.run_pure,Result.andThen_ok]
  rw [hrun,Oper.upon_value,hd]
  refine ⟨_,Pb,Kb,_,hK,hs1.put (d:=d) (F':=Fi) hN k3 (fun r hr g hg c=>?_) hnd2.2.1 (fun g hg=>hs.free _ g (hsub2 g hg)),fun _ h=>h,fun _ h=>h,fun _ h=>.inl h,Keep.refl _ _⟩
  simp only [updF] at c
  split at c
  · exact hnd2.2.2 g hg c
  · rename_i hne; exact hs.disj (.slot t) r (Ne.symm hne) g (hsub2 g hg) c
end
end Go.Abs
namespace Go.Abs
open Go Go.RowKit
structure Con (P:Program) where
  f:FuncId
  args:List V
  H:List (Nat×(Nat×V)):=[]
  pre:Prop:=True
  res:V
  H':List (Nat×(Nat×V)):=[]
  ok:pre→PF P f args H (fun r h=>r=res∧h=H')
structure ConX (P:Program) where
  X:Type
  f:FuncId
  args:List V
  H:List (Nat×(Nat×V)):=[]
  pre:Prop:=True
  post:X→Prop
  res:X→V
  H':X→List (Nat×(Nat×V)):=fun _=>[]
  ok:pre→PF P f args H (fun r h=> ∃ x,post x∧r=res x∧h=H' x)
structure Cu (P:Program) where
  X:Type
  pre:Nat→Oper→AS→Prop
  post:X→Oper→AS→AS
  ok:∀ {N:Nat} {o:Oper} {A:AS} {K:AS→Prop},o.guard=none→pre N o A→(∀ x,K (post x o A))→opT P N o A K
structure Eu (P:Program) where
  X:Type
  pre:Nat→Oper→AS→List Nat→List Nat→Prop
  U:Oper→AS→X→AS→AS
  uok:∀ {N:Nat} {o:Oper} {A:AS} {Sl Hl:List Nat},pre N o A Sl Hl→∀ fs,UOkX (U o A) fs Sl Hl
  ok:∀ {N:Nat} {o:Oper} {A A':AS} {Sl Hl:List Nat},o.guard=none→pre N o A Sl Hl→(∀ t,Operand.tmp t∈o.op.operands.toList→A'.get t=A.get t)→(∀ k,lk k A'.h=lk k A.h)→opT P N o A' fun B=> ∃ x,B=U o A x A'
def Con.sm {P:Program} (c:Con P):Prop:=c.args=c.args
def ConX.sm {P:Program} (c:ConX P):Prop:=c.args=c.args
inductive Hint where
  | own0 (t sz:Nat)
  | wkt (t:Nat) (u:V)
  | wkR (r:Root) (p:List Nat) (u:V)
  | claim (t:Nat)
  | fz (t:Nat)
  | eqt (t:Nat) (v:V)
  | eqh (k:Nat) (v:V)
  | to (B:AS)
  | rk (k k':Nat)
  | own0R (r:Root) (p:List Nat) (sz:Nat)
  | own0X (r:Root) (p:List Nat) (g o sz:Nat)
  | claimX (r:Root) (p:List Nat) (g o t:Nat)
  | wkX (r:Root) (p:List Nat) (g o:Nat) (v u:V)
inductive Sc (P:Program):Type 1
  | nil
  | h (x:Hint) (k:Sc P)
  | ot (t:Nat) (k:Nat→Nat→Nat→Sc P)
  | oR (r:Root) (p:List Nat) (k:Nat→Nat→Nat→Sc P)
  | r (n:Nat) (orc:List V) (k:Sc P)
  | mv (k:Sc P)
  | c (c:Con P) (ks:List (Nat×Nat)) (k:Sc P)
  | cx (c:ConX P) (ks:List (Nat×Nat)) (k:c.X→Sc P)
  | cg (c:Con P) (k:Sc P)
  | al (z:ZT P) (k:Nat→Sc P)
  | bx (k:Nat→Sc P)
  | st (old:Option V) (k:Sc P)
  | ap (k:Nat→Nat→Nat→Sc P)
  | bd (z:ZT P) (k:Sc P)
  | bs (k:Sc P)
  | by_ (bs:List UInt8) (k:Sc P)
  | sb (l:List UInt8) (k:Nat→Nat→Sc P)
  | mm (k:Sc P)
  | rs (k:Sc P)
  | br (a b:Sc P)
  | join (X:Type) (B:X→AS) (ok:X→Prop) (a b:Sc P) (k:X→Sc P)
  | loop (X:Type) (inv:X→AS) (ok:X→Prop) (m:X→Nat) (k:X→Sc P)
  | d (m:Nat) (k:Sc P)
  | du (m sp:Nat) (Sl El Hl:List Nat) (k:Sc P)
  | ue (z:Option (ZT P)) (k:Sc P)
  | ub (k:Nat→Nat→Nat→Sc P)
  | dx (m:Nat) (pl:List Nat) (tb:List (Nat×Ent)) (zs:List (Nat×ZT P)) (k:Sc P)
  | ua (k:Nat→Sc P)
  | ux (z:Option (ZT P)) (k:Nat→Nat→Nat→Sc P)
  | cl (c:Con P) (k:Sc P)
  | sp (b:Bool) (a1 a2:Sc P)
  | gt (k:Sc P)
  | gf (v:V) (k:Sc P)
  | ex (X:Type) (post:X→Prop) (k:X→Sc P)
  | oRx (r:Root) (p:List Nat) (g o sz:Nat) (xs:List V) (k:Nat→Nat→Nat→Sc P)
  | apx (xs:List V) (g o:Nat) (k:Nat→Nat→Nat→Sc P)
  | bo (k:Nat→Sc P)
  | cu (c:Cu P) (k:c.X→Sc P)
  | eu (c:Eu P) (k:c.X→Sc P)
def dOk (N:Nat):Option Nat→Bool
  | none=>true
  | some d=>Nat.blt d N
theorem dOk_of {N:Nat} {d:Option Nat} (h:dOk N d=true):dstOk N d:=by
  cases d with
  | none=>trivial
  | some d=>exact Nat.lt_of_succ_le (Nat.le_of_ble_eq_true h)
theorem blt_of {a b:Nat} (h:Nat.blt a b=true):a < b:=Nat.lt_of_succ_le (Nat.le_of_ble_eq_true h)
def hintP (N:Nat) (x:Hint) (A:AS) (K:AS→Prop):Prop:=
  match x with
  | .own0 t sz=>match Nat.blt t N,A.get t with
    | true,.sl true []=>K (A.put (some t) (.own sz [] 0 0 0))
    | _,_=>False
  | .wkt t u=>match Nat.blt t N with
    | true=>K (A.put (some t) (wk (A.get t) u))
    | false=>False
  | .wkR r p u=>match A.at r p with
    | some (_,_,v)=>match (wk v u).n==v.n with
      | true=>K (A.setAt r p (wk v u))
      | false=>False
    | none=>False
  | .claim t=>match A.get t with
    | .hd (.slot i) [] sz g o 0 n c=>match A.get i with
      | .own sz' xs g' o' c'=>match Nat.blt t N&&Nat.blt i N&&!(t==i) with
        | true=>(sz,g,o,c,n)=(sz',g',o',c',xs.length)∧K ((A.put (some i) .dead).put (some t) (.own sz' xs g' o' c'))
        | false=>False
      | _=>False
    | _=>False
  | .fz t=>match Nat.blt t N&&(A.get t).owns with
    | true=>K (A.put (some t) (A.get t).er)
    | false=>False
  | .eqt t v=>A.get t=v∧K (A.put (some t) v)
  | .eqh k v=>match lk k A.h with
    | some (g,u)=>u=v∧K ⟨A.t,(k,(g,v)) :: A.h⟩
    | none=>False
  | .to B=>leA A B.t∧leR A B.h∧K B
  | .rk k k'=>match lk k A.h,lk k' A.h with
    | some gv,none=>K ⟨A.t,(k',gv) :: A.h.filter fun p=>p.1 != k⟩
    | _,_=>False
  | .own0R r p sz=>match A.at r p with
    | some (_,_,.sl true [])=>K (A.setAt r p (.own sz [] 0 0 0))
    | _=>False
  | .own0X r p g o sz=>A.at r p=some (g,o,.sl true [])∧K (A.setAt r p (.own sz [] 0 0 0))
  | .claimX r p g o t=>match A.get t with
    | .own sz xs g1 o1 c=>(A.put (some t) .dead).at r p=some (g,o,.hd (.slot t) [] sz g1 o1 0 xs.length c)∧K ((A.put (some t) .dead).setAt r p (.own sz xs g1 o1 c))
    | _=>False
  | .wkX r p g o v u=>A.at r p=some (g,o,v)∧match (wk v u).n==v.n with
    | true=>K (A.setAt r p (wk v u))
    | false=>False
def hsP {P:Program} (N:Nat):Sc P→AS→(AS→Sc P→Prop)→Prop
  | .h x k,A,K=>hintP N x A fun B=>hsP N k B K
  | .ot t k,A,K=>match Nat.blt t N,A.get t with
    | true,.ow sz xs=> ∀ g o c,hsP N (k g o c) (A.put (some t) (.own sz xs g o c)) K
    | _,_=>False
  | .oR r p k,A,K=>match A.at r p with
    | some (_,_,.ow sz xs)=> ∀ g o c,hsP N (k g o c) (A.setAt r p (.own sz xs g o c)) K
    | _=>False
  | .ex X post k,A,K=>(∃ x,post x)∧∀ x,post x→hsP N (k x) A K
  | .oRx r p g0 o0 sz xs k,A,K=>A.at r p=some (g0,o0,.ow sz xs)∧∀ g o1 c,hsP N (k g o1 c) (A.setAt r p (.own sz xs g o1 c)) K
  | s,A,K=>K A s
def tysApp (P:Program) (T T2:Nat):Option TI:=
  match tD P T,tD P T2 with
  | some (.sl e),some (.sl _)=>match ti P e with
    | some t=>match zOk P e t.sz&&Nat.blt 0 t.sz&&Nat.blt 0 t.by_ with
      | true=>some t
      | false=>none
    | none=>none
  | _,_=>none
def isU8 (P:Program) (T:Nat):Bool:=match tD P T with
  | some (.sl e)=>match tD P e with
    | some (.int .u8)=>true
    | _=>false
  | _=>false
def isStr (P:Program) (T:Nat):Bool:=match tD P T with
  | some .str=>true
  | _=>false
def goL {P:Program} (N:Nat) (ops:Array Oper):Sc P→List Oper→AS→(AS→Sc P→Prop)→Prop
  | s,[],A,K=>K A s
  | .r n orc k,l,A,K=>match runG P N ops n l orc A with
    | some (C,A')=>C∧goL N ops k (l.drop n) A' K
    | none=>False
  | .cg c k,o :: l,A,K=>match o.op,o.guard with
    | .call ⟨.value (.func f),xs,_⟩,some (j,b)=>match f==c.f&&dOk N o.dst&&okT N xs.toList&&!c.res.er.isGv&&!c.res.er.owns,c.H,gdV A ops j b with
      | true,[],some G=>match AS.un G xs.toList A with
        | (C,B)=>(G=true→C∧c.pre∧wkL (xs.toList.map B.cp) c.args=c.args)∧goL N ops k l (A.put o.dst (.gv G c.res.er)) K
      | _,_,_=>False
    | _,_=>False
  | .ex X post k,o :: l,A,K=>(∃ x,post x)∧∀ x,post x→goL N ops (k x) (o :: l) A K
  | .sp b a1 a2,o :: l,A,K=>(b=true→goL N ops a1 (o :: l) A K)∧(b=false→goL N ops a2 (o :: l) A K)
  | .gt k,o :: l,A,K=>match o.guard with
    | some (j,b)=>match gdV A ops j b with
      | some G=>G=true∧goL N ops k (⟨o.dst,o.op,o.type,o.pos,o.after,none⟩ :: l) A K
      | none=>False
    | none=>False
  | .gf v k,o :: l,A,K=>match o.guard with
    | some (j,b)=>match gdV A ops j b,dOk N o.dst with
      | some G,true=>G=false∧goL N ops k l (A.put o.dst (.gv false v)) K
      | _,_=>False
    | none=>False
  | s, o :: l,A,K=>match o.guard with
    | some _=>False
    | none => match s with
      | .h x k=>hintP N x A fun B=>goL N ops k (o :: l) B K
      | .oRx r p g0 o0 sz xs k=>A.at r p=some (g0,o0,.ow sz xs)∧∀ g o1 c,goL N ops (k g o1 c) (o :: l) (A.setAt r p (.own sz xs g o1 c)) K
      | .cu c k=>c.pre N o A∧∀ x,goL N ops (k x) l (c.post x o A) K
      | .bo k =>match o.op,o.dst with
        | .buildSlice T len parts,some d=>match tD P T with
          | some (.sl e)=>match ti P e,partsV A 0 parts.toList with
            | some i,some vs=>match bsB P T e len i vs&&Nat.blt d N&&Nat.blt 0 len with
              | true=> ∀ g,goL N ops (k g) l (A.put (some d) (.own i.sz vs g 0 len)) K
              | false=>False
            | _,_=>False
          | _=>False
        | _,_=>False
      | .apx xs g0 o0 k=>match o.op,o.dst with
        | .call ⟨.builtin .append,⟨[.tmp t0,x]⟩,⟨[T,T2]⟩⟩,some d=>match o.type==T&&Nat.blt d N,tysApp P T T2 with
          | true,some t=>match A.get t0,rdL A x with
            | .hd r p sz g o1 0 n c,some (Cx,ys)=>(A.at r p=some (g0,o0,.own sz xs g o1 c)∧sz=t.sz∧n=xs.length)∧Cx∧V.ownsL ys=false∧AllN t.sz ys∧(xs.length+ys.length) * t.by_≤140737488355328∧
                ∀ g2 o2 c2,goL N ops (k g2 o2 c2) l ((A.setAt r p .dead).put (some d) (.own t.sz (xs++ys) g2 o2 c2)) K
            | _,_=>False
          | _,_=>False
        | _,_=>False
      | .cl c k=>match o.op with
        | .call ⟨.value (.func f),xs,_⟩=>match f==c.f&&dOk N o.dst&&c.res.plain,c.H,lendL A xs.toList with
          | true,[],(C,vs)=>C∧wkL vs c.args=c.args∧c.pre∧goL N ops k l (A.put o.dst c.res) K
          | _,_,_=>False
        | _=>False
      | .ot t k=>match Nat.blt t N,A.get t with
        | true,.ow sz xs=> ∀ g o1 c,goL N ops (k g o1 c) (o :: l) (A.put (some t) (.own sz xs g o1 c)) K
        | _,_=>False
      | .oR r p k=>match A.at r p with
        | some (_,_,.ow sz xs)=> ∀ g o1 c,goL N ops (k g o1 c) (o :: l) (A.setAt r p (.own sz xs g o1 c)) K
        | _=>False
      | .mv k =>match o.op with
        | .move x=>match dOk N o.dst with
          | true=>goL N ops k l ((A.drop x).put o.dst (A.ev x)) K
          | false=>False
        | .extract (.tmp t) i=>match o.dst,A.get t with
          | some d,.tup vs=>match vs[i]? with
            | some v=>match Nat.blt d N&&Nat.blt t N&&!(d==t)&&v.isVal with
              | true=>goL N ops k l ((A.put (some t) (.tup (vs.set i .dead))).put (some d) v) K
              | false=>False
            | none=>False
          | _,_=>False
        | .load T x=>match o.dst,ti P T,A.ev x with
          | some d,some i,.ptr r p g g'=>match A.at r p with
            | some (g2,g2',u)=>match Nat.blt d N&&u.n==i.sz&&i.d.agg==u.isAgg with
              | true=>(g2,g2')=(g,g')∧goL N ops k l ((A.setAt r p u.kill).put (some d) u) K
              | false=>False
            | none=>False
          | _,_,_=>False
        | _=>False
      | .c c ks k=>match o.op with
        | .call ⟨.value fx,xs,_⟩=>match A.ev fx,A.tk xs.toList with
          | .lit (.func (.func f) first caps),(vs,B)=>match f==c.f&&dOk N o.dst&&ndk (ks.map (·.1))&&ndk (ks.map (·.2))&&c.args.length==(first.toList.map cV++vs++caps.toList.map cV).length with
            | true=>wkL (first.toList.map cV++vs++caps.toList.map cV) c.args=c.args∧rootsOk B ks c.H∧c.pre∧goL N ops k l ((B.back ks c.H').put o.dst (c.res.ren (renOf ks))) K
            | false=>False
          | _,_=>False
        | _=>False
      | .cx c ks k=>match o.op with
        | .call ⟨.value fx,xs,_⟩=>match A.ev fx,A.tk xs.toList with
          | .lit (.func (.func f) first caps),(vs,B)=>match f==c.f&&dOk N o.dst&&ndk (ks.map (·.1))&&ndk (ks.map (·.2))&&c.args.length==(first.toList.map cV++vs++caps.toList.map cV).length with
            | true=>wkL (first.toList.map cV++vs++caps.toList.map cV) c.args=c.args∧rootsOk B ks c.H∧c.pre∧∀ x,c.post x→goL N ops (k x) l ((B.back ks (c.H' x)).put o.dst ((c.res x).ren (renOf ks))) K
            | false=>False
          | _,_=>False
        | _=>False
      | .al z k=>match o.op,o.dst with
        | .alloc T,some d=>match T==z.T&&Nat.blt d N with
          | true=> ∀ g,goL N ops (k g) l ⟨(d,.ptr (.key d) [] g 0) :: A.t,(d,(g,z.v)) :: A.h⟩ K
          | false=>False
        | _,_=>False
      | .bx k=>match o.op,o.dst with
        | .box _ x,some d=>match Nat.blt d N&&(A.cp x).isVal with
          | true=> ∀ g,goL N ops (k g) l ⟨(d,.ptr (.key d) [] g 0) :: A.t,(d,(g,A.cp x)) :: A.h⟩ K
          | false=>False
        | _,_=>False
      | .st old k=>match o.op,o.dst with
        | .store T x y,none=>match ti P T,A.ev x with
          | some i,.ptr r p g g'=>match old with
            | none=>match (A.drop y).at r p with
              | some (g2,g2',u)=>match (A.ev y).isVal&&(A.ev y).n==u.n&&(A.ev y).n==i.sz with
                | true=>(g2,g2')=(g,g')∧goL N ops k l ((A.drop y).setAt r p (A.ev y)) K
                | false=>False
              | none=>False
            | some u=>match (A.ev y).isVal&&(A.ev y).n==u.n&&(A.ev y).n==i.sz with
              | true=>(A.drop y).at r p=some (g,g',u)∧goL N ops k l ((A.drop y).setAt r p (A.ev y)) K
              | false=>False
          | _,_=>False
        | _,_=>False
      | .ap k =>match o.op,o.dst with
        | .call ⟨.builtin .append,⟨[s,x]⟩,⟨[T,T2]⟩⟩,some d=>match o.type==T&&Nat.blt d N,tysApp P T T2 with
          | true,some t=>match apB A s t.sz,rdL A x with
            | some (C,A1,xs),some (Cx,ys)=>C∧Cx∧V.ownsL ys=false∧AllN t.sz ys∧(xs.length+ys.length) * t.by_≤140737488355328∧
                ∀ g o1 c,goL N ops (k g o1 c) l (A1.put (some d) (.own t.sz (xs++ys) g o1 c)) K
            | none,some (Cx,ys)=>match apF A s t.sz with
              | some (C,xs)=>(C∧0 < ys.length)∧Cx∧V.ownsL ys=false∧AllN t.sz ys∧(xs.length+ys.length) * t.by_≤140737488355328∧
                ∀ g o1 c,goL N ops (k g o1 c) l (A.put (some d) (.own t.sz (xs++ys) g o1 c)) K
              | none=>False
            | _,_=>False
          | _,_=>False
        | _,_=>False
      | .bd z k=>match o.op with
        | .build T parts=>match T==z.T&&dOk N o.dst,z.v with
          | true,.agg zs=>match buildB P A T zs parts.toList with
            | some v=>goL N ops k l (A.put o.dst v) K
            | none=>False
          | _,_=>False
        | _=>False
      | .bs k =>match o.op with
        | .buildSlice T len parts=>match tD P T with
          | some (.sl e)=>match ti P e,partsV A 0 parts.toList with
            | some i,some vs=>match bsB P T e len i vs&&dOk N o.dst with
              | true=>goL N ops k l (A.put o.dst (.sl true vs)) K
              | false=>False
            | _,_=>False
          | _=>False
        | _=>False
      | .by_ bs k=>match o.op with
        | .convert src dst x=>match isU8 P src&&isStr P dst&&dOk N o.dst,rdL A x with
          | true,some (C,ys)=>C∧ys=bs.map u8V∧goL N ops k l (A.put o.dst (sV bs)) K
          | _,_=>False
        | _=>False
      | .sb bs k=>match o.op,o.dst with
        | .convert src dst x,some d=>match isStr P src&&isU8 P dst&&Nat.blt d N with
          | true=>A.ev x=sV bs∧∀ g c,goL N ops (k g c) l (A.put (some d) (.own 1 (bs.map u8V) g 0 c)) K
          | false=>False
        | _,_=>False
      | .mm k=>match o.op with
        | .call ⟨.builtin b,⟨[x,y]⟩,_⟩=>match A.ev x,A.ev y,dOk N o.dst,b with
          | .lit (.int kd p),.lit (.int kd' q),true,.max=>kd'=kd∧goL N ops k l (A.put o.dst (.lit (.int kd (max p q)))) K
          | .lit (.int kd p),.lit (.int kd' q),true,.min=>kd'=kd∧goL N ops k l (A.put o.dst (.lit (.int kd (min p q)))) K
          | _,_,_,_=>False
        | _=>False
      | .rs k =>match o.op,o.dst with
        | .assign x,some i=>match A.ev x,A.get i,Nat.blt i N with
          | .hd (.slot i') [] sz' g' o' lo n c',.own sz xs g o1 c,true=>(i',sz',g',o')=(i,sz,g,o1)∧(lo+n≤xs.length∧lo+c'≤c∧V.ownsL xs=false)∧
              goL N ops k l (A.put (some i) (.own sz ((xs.drop lo).take n) g (o1+lo * sz) c')) K
          | _,_,_=>False
        | _,_=>False
      | _=>False
section
variable {P:Program} {N:Nat} {ops:Array Oper} {A A' A1 B:AS}
variable {w:World} {Pb Kb:Nat→Prop} {a:Act} {F:Root→List Nat}
theorem hintP_ok {x:Hint} {A:AS} {K:AS→Prop} (h:hintP N x A K):Hx N A K:=by
  unfold hintP at h
  split at h
  · split at h
    · rename_i e1 e2; exact hx_own0 _ _ (blt_of e1) e2 h
    · exact h.elim
  · split at h
    · rename_i e1; exact hx_wk _ (blt_of e1) h
    · exact h.elim
  · split at h
    · rename_i e1
      split at h
      · rename_i e2; exact hx_wkR _ e1 (by simpa using e2) h
      · exact h.elim
    · exact h.elim
  · split at h
    · rename_i e1
      split at h
      · rename_i e2
        split at h
        · rename_i e3
          simp only [Bool.and_eq_true,Bool.not_eq_true',beq_eq_false_iff_ne] at e3
          obtain ⟨hq,h⟩:=h
          simp only [Prod.mk.injEq] at hq
          obtain ⟨rfl,rfl,rfl,rfl,hn⟩:=hq
          exact hx_claim (blt_of e3.1.1) (blt_of e3.1.2) e3.2 e1 e2 hn h
        · exact h.elim
      · exact h.elim
    · exact h.elim
  · split at h
    · rename_i e1
      simp only [Bool.and_eq_true] at e1
      exact hx_freeze (blt_of e1.1) e1.2 h
    · exact h.elim
  · exact hx_eqt _ h.1 h.2
  · split at h
    · rename_i e1
      obtain ⟨rfl,h⟩:=h
      exact hx_eqh _ e1 h
    · exact h.elim
  · exact hx_to h.1 h.2.1 h.2.2
  · split at h
    · rename_i e1 e2; exact hx_rk e1 e2 h
    · exact h.elim
  · split at h
    · rename_i e1; exact hx_own0R e1 h
    · exact h.elim
  · exact hx_own0R h.1 h.2
  · split at h
    · rename_i e1; exact hx_claimR e1 h.1 rfl h.2
    · exact h.elim
  · obtain ⟨h1,h⟩:=h
    split at h
    · rename_i e2; exact hx_wkR _ h1 (by simpa using e2) h
    · exact h.elim
theorem hsP_ok:∀ (s:Sc P) {A:AS} {K:AS→Sc P→Prop},hsP N s A K→Hx N A fun B=> ∃ s',K B s':=by
  intro s
  induction s with
  | h x k ih=>intro A K h; exact (hintP_ok h).bind fun B hB=>ih hB
  | ot t k ih=>
    intro A K h
    simp only [hsP] at h
    split at h
    · rename_i e1 e2
      exact (hx_open (blt_of e1) e2 (K:=fun B=>Hx N B fun B=> ∃ s',K B s') fun g o c=>ih g o c (h g o c)).bind fun _ hB=>hB
    · exact h.elim
  | oR r p k ih=>
    intro A K h
    simp only [hsP] at h
    split at h
    · rename_i e1
      exact (hx_openR e1 (K:=fun B=>Hx N B fun B=> ∃ s',K B s') fun g o c=>ih g o c (h g o c)).bind fun _ hB=>hB
    · exact h.elim
  | ex X post k ih=>
    intro A K h
    obtain ⟨⟨x,hx⟩,h⟩:=h
    exact ih x (h x hx)
  | oRx r p g0 o0 sz xs k ih=>
    intro A K h
    exact (hx_openR h.1 (K:=fun B=>Hx N B fun B=> ∃ s',K B s') fun g o c=>ih g o c (h.2 g o c)).bind fun _ hB=>hB
  | _=>intro A K h; exact Hx.of ⟨_,h⟩
theorem tysApp_of {T T2:Nat} {t:TI} (h:tysApp P T T2=some t):∃ e e2,tD P T=some (.sl e)∧tD P T2=some (.sl e2)∧ti P e=some t∧zOk P e t.sz=true∧0 < t.sz∧0 < t.by_:=by
  unfold tysApp at h
  split at h
  · rename_i e e2 h1 h2
    split at h
    · rename_i t' h3
      split at h
      · rename_i h4
        simp only [Option.some.injEq] at h; subst h
        simp only [Bool.and_eq_true] at h4
        exact ⟨e,e2,h1,h2,h3,h4.1.1,blt_of h4.1.2,blt_of h4.2⟩
      · simp at h
    · simp at h
  · simp at h
theorem isU8_of {T:Nat} (h:isU8 P T=true):∃ e,tD P T=some (.sl e)∧tD P e=some (.int .u8):=by
  unfold isU8 at h
  split at h
  · rename_i e h1
    split at h
    · rename_i h2; exact ⟨e,h1,h2⟩
    · simp at h
  · simp at h
theorem isStr_of {T:Nat} (h:isStr P T=true):tD P T=some .str:=by
  unfold isStr at h
  split at h
  · rename_i h1; exact h1
  · simp at h
theorem goL_ok:∀ (s:Sc P) {l:List Oper} {A:AS} {K:AS→Sc P→Prop},goL N ops s l A K→WL P N ops l A fun B=> ∃ s',K B s':=by
  intro s
  induction s with
  | nil=>
    intro l A K h
    cases l with
    | nil=>exact ⟨_,h⟩
    | cons o l=>simp only [goL] at h; split at h <;> exact h.elim
  | r n orc k ih=>
    intro l A K h
    cases l with
    | nil=>exact ⟨_,h⟩
    | cons o l=>
      simp only [goL] at h
      split at h
      · rename_i C A' e; exact WL_run n e h.1 (ih h.2)
      · exact h.elim
  | cg c k ih=>
    intro l A K h
    cases l with
    | nil=>exact ⟨_,h⟩
    | cons o l=>
      obtain ⟨dst,op,ty,pos,after,gd0⟩:=o
      simp only [goL] at h
      split at h
      · rename_i _ _ f xs tys j b
        split at h
        · rename_i G h1 h2 h3
          simp only [Bool.and_eq_true,beq_iff_eq,Bool.not_eq_true'] at h1
          obtain ⟨⟨⟨⟨h1,h4⟩,h5⟩,h6⟩,h7⟩:=h1
          subst h1
          refine WL_callG (dOk_of h4) h3 (C:=(AS.un G xs.toList A).1) (B:=(AS.un G xs.toList A).2) rfl h5 rfl (fun hG=>⟨(h.1 hG).1,?_,h6,h7⟩) (ih h.2)
          obtain ⟨_,hpre,hw⟩:=h.1 hG
          have hc:=c.ok hpre
          rw [h2] at hc
          have hp:=hc.toPC
          refine ⟨hp.1,fun w Pb cargs k1 k2=>?_⟩
          refine (hp.2 w Pb cargs k1 (by have:=RVs_wk _ c.args k2; rw [hw] at this; exact this)).mono ?_
          rintro e w' ⟨r,x,F,Pb',rfl,⟨H,q1,_⟩,rest⟩
          exact ⟨r,x,F,Pb',rfl,by rw [q1],rest⟩
        · exact h.elim
      · exact h.elim
  | ex X post k ih=>
    intro l A K h
    cases l with
    | nil=>exact ⟨_,h⟩
    | cons o l=>
      simp only [goL] at h
      obtain ⟨⟨x,hx⟩,h⟩:=h
      exact ih x (h x hx)
  | oRx r p g0 o0 sz xs k ih=>
    intro l A K h
    cases l with
    | nil=>exact ⟨_,h⟩
    | cons o l=>
      simp only [goL] at h
      split at h
      · exact h.elim
      · rename_i hg
        exact WL_hint hg (hx_openR h.1 fun g o1 c=>ih g o1 c (h.2 g o1 c))
  | cu c k ih=>
    intro l A K h
    cases l with
    | nil=>exact ⟨_,h⟩
    | cons o l=>
      obtain ⟨dst,op,ty,pos,after,gd0⟩:=o
      simp only [goL] at h
      split at h
      · exact h.elim
      · rename_i hg
        show opT P N _ A _
        exact c.ok rfl h.1 fun x=>ih x (h.2 x)
  | bo k ih =>
    intro l A K h
    cases l with
    | nil=>exact ⟨_,h⟩
    | cons o l=>
      obtain ⟨dst,op,ty,pos,after,gd0⟩:=o
      simp only [goL] at h
      split at h
      · exact h.elim
      · show opT P N _ A _
        split at h
        · split at h
          · rename_i e e1
            split at h
            · rename_i i vs e2 e3
              split at h
              · rename_i e4
                simp only [Bool.and_eq_true] at e4
                exact opT_bsO rfl rfl (blt_of e4.1.2) e1 e2 e3 e4.1.1 (blt_of e4.2) fun g=>ih g (h g)
              · exact h.elim
            · exact h.elim
          · exact h.elim
        · exact h.elim
  | apx xs g0 o0 k ih=>
    intro l A K h
    cases l with
    | nil=>exact ⟨_,h⟩
    | cons o l=>
      obtain ⟨dst,op,ty,pos,after,gd0⟩:=o
      simp only [goL] at h
      split at h
      · exact h.elim
      · show opT P N _ A _
        split at h
        · split at h
          · rename_i t e1 e2
            split at h
            · rename_i e3 e4
              simp only [Bool.and_eq_true,beq_iff_eq] at e1
              obtain ⟨⟨k1,k2,k3⟩,k4,k5,k6,k7,k8⟩:=h
              obtain ⟨e,e',q1,q2,q3,q4,q5,q6⟩:=tysApp_of e2
              exact opT_appX rfl e1.1 rfl (blt_of e1.2) q1 q2 q3 (zOk_of q4) q5 q6 e3 k1 k2 k3 e4 k4 k5 k6 k7 fun g o1 c=>ih g o1 c (k8 g o1 c)
            · exact h.elim
          · exact h.elim
        · exact h.elim
  | sp b a1 a2 ih1 ih2=>
    intro l A K h
    cases l with
    | nil=>exact ⟨_,h⟩
    | cons o l=>
      simp only [goL] at h
      cases b with
      | true=>exact ih1 (h.1 rfl)
      | false=>exact ih2 (h.2 rfl)
  | gt k ih=>
    intro l A K h
    cases l with
    | nil=>exact ⟨_,h⟩
    | cons o l=>
      obtain ⟨dst,op,ty,pos,after,gd0⟩:=o
      simp only [goL] at h
      split at h
      · rename_i j b
        split at h
        · rename_i G hG
          exact gd_of rfl hG (fun _=>ih h.2) (fun hf=>by rw [h.1] at hf; cases hf)
        · exact h.elim
      · exact h.elim
  | gf v k ih=>
    intro l A K h
    cases l with
    | nil=>exact ⟨_,h⟩
    | cons o l=>
      obtain ⟨dst,op,ty,pos,after,gd0⟩:=o
      simp only [goL] at h
      split at h
      · rename_i j b
        split at h
        · rename_i G hG hd
          exact gd_of rfl hG (fun ht=>by rw [h.1] at ht; cases ht) (fun _=>⟨dOk_of hd,.gv false v,fun _ _=>⟨rfl,⟨(fun hh=>Bool.noConfusion hh),fun _=>rfl⟩⟩,ih h.2⟩)
        · exact h.elim
      · exact h.elim
  | cl c k ih=>
    intro l A K h
    cases l with
    | nil=>exact ⟨_,h⟩
    | cons o l=>
      obtain ⟨dst,op,ty,pos,after,gd0⟩:=o
      simp only [goL] at h
      split at h
      · exact h.elim
      · show opT P N _ A _
        split at h
        · split at h
          · rename_i C vs e1 e2 e3
            simp only [Bool.and_eq_true,beq_iff_eq] at e1
            obtain ⟨⟨rfl,e1⟩,e4⟩:=e1
            obtain ⟨k1,k2,k3,k4⟩:=h
            have hc:=c.ok k3
            rw [e2] at hc
            have hp:=hc.toPC
            refine opT_lend (Q:=fun r=>r=c.res) rfl (dOk_of e1) ⟨hp.1,fun w Pb cargs q1 q2=>?_⟩ e3 k1 k2 (fun r hr=>by rw [hr]; exact e4) (fun r hr=>by rw [hr]; exact ih k4)
            refine (hp.2 w Pb cargs q1 q2).mono ?_
            rintro e w' ⟨r,x,F,Pb',rfl,⟨H,q,_⟩,rest⟩
            exact ⟨r,x,F,Pb',rfl,q,rest⟩
          · exact h.elim
        · exact h.elim
  | h x k ih=>
    intro l A K h
    cases l with
    | nil=>exact ⟨_,h⟩
    | cons o l=>
      simp only [goL] at h
      split at h
      · exact h.elim
      · rename_i hg; exact WL_hint hg ((hintP_ok h).mono fun B hB=>ih hB)
  | ot t k ih=>
    intro l A K h
    cases l with
    | nil=>exact ⟨_,h⟩
    | cons o l=>
      simp only [goL] at h
      split at h
      · exact h.elim
      · rename_i hg
        split at h
        · rename_i e1 e2; exact WL_hint hg (hx_open (blt_of e1) e2 fun g o1 c=>ih g o1 c (h g o1 c))
        · exact h.elim
  | oR r p k ih=>
    intro l A K h
    cases l with
    | nil=>exact ⟨_,h⟩
    | cons o l=>
      simp only [goL] at h
      split at h
      · exact h.elim
      · rename_i hg
        split at h
        · rename_i e1; exact WL_hint hg (hx_openR e1 fun g o1 c=>ih g o1 c (h g o1 c))
        · exact h.elim
  | mv k ih =>
    intro l A K h
    cases l with
    | nil=>exact ⟨_,h⟩
    | cons o l=>
      obtain ⟨dst,op,ty,pos,after,gd0⟩:=o
      simp only [goL] at h
      split at h
      · exact h.elim
      · show opT P N _ A _
        split at h
        · split at h
          · rename_i e; exact opT_moveMv rfl (dOk_of e) (ih h)
          · exact h.elim
        · split at h
          · rename_i d vs e1
            split at h
            · rename_i v e2
              split at h
              · rename_i e3
                simp only [Bool.and_eq_true,Bool.not_eq_true',beq_eq_false_iff_ne] at e3
                exact opT_extractMv rfl rfl (blt_of e3.1.1.1) (blt_of e3.1.1.2) e3.1.2 e1 e2 e3.2 (ih h)
              · exact h.elim
            · exact h.elim
          · exact h.elim
        · split at h
          · rename_i d i r p g g' e1 e2
            split at h
            · rename_i g2 g2' u e3
              split at h
              · rename_i e4
                simp only [Bool.and_eq_true,beq_iff_eq] at e4
                obtain ⟨hq,h⟩:=h
                simp only [Prod.mk.injEq] at hq
                obtain ⟨rfl,rfl⟩:=hq
                exact opT_loadMv rfl rfl (blt_of e4.1.1) e1 e2 e3 e4.1.2 e4.2 (ih h)
              · exact h.elim
            · exact h.elim
          · exact h.elim
        · exact h.elim
  | c c ks k ih=>
    intro l A K h
    cases l with
    | nil=>exact ⟨_,h⟩
    | cons o l=>
      obtain ⟨dst,op,ty,pos,after,gd0⟩:=o
      simp only [goL] at h
      split at h
      · exact h.elim
      · show opT P N _ A _
        split at h
        · split at h
          · rename_i vs B e1 e2
            split at h
            · rename_i e3
              simp only [Bool.and_eq_true,beq_iff_eq] at e3
              obtain ⟨⟨⟨⟨h1,h2⟩,h3⟩,h4⟩,h5⟩:=e3
              subst h1
              obtain ⟨k1,k2,k3,k4⟩:=h
              refine opT_callF ks rfl e1 (dOk_of h2) h3 h4 (c.ok k3) (by rw [e2]; exact k1) (by rw [e2]; exact h5) (by rw [e2]; exact k2) ?_
              rintro r H' ⟨rfl,rfl⟩
              rw [e2]; exact ih k4
            · exact h.elim
          · exact h.elim
        · exact h.elim
  | cx c ks k ih=>
    intro l A K h
    cases l with
    | nil=>exact ⟨_,h⟩
    | cons o l=>
      obtain ⟨dst,op,ty,pos,after,gd0⟩:=o
      simp only [goL] at h
      split at h
      · exact h.elim
      · show opT P N _ A _
        split at h
        · split at h
          · rename_i vs B e1 e2
            split at h
            · rename_i e3
              simp only [Bool.and_eq_true,beq_iff_eq] at e3
              obtain ⟨⟨⟨⟨h1,h2⟩,h3⟩,h4⟩,h5⟩:=e3
              subst h1
              obtain ⟨k1,k2,k3,k4⟩:=h
              refine opT_callF ks rfl e1 (dOk_of h2) h3 h4 (c.ok k3) (by rw [e2]; exact k1) (by rw [e2]; exact h5) (by rw [e2]; exact k2) ?_
              rintro r H' ⟨x,hx,rfl,rfl⟩
              rw [e2]; exact ih x (k4 x hx)
            · exact h.elim
          · exact h.elim
        · exact h.elim
  | al z k ih=>
    intro l A K h
    cases l with
    | nil=>exact ⟨_,h⟩
    | cons o l=>
      obtain ⟨dst,op,ty,pos,after,gd0⟩:=o
      simp only [goL] at h
      split at h
      · exact h.elim
      · show opT P N _ A _
        split at h
        · split at h
          · rename_i e
            simp only [Bool.and_eq_true,beq_iff_eq] at e
            obtain ⟨rfl,e⟩:=e
            exact opT_alloc rfl rfl (blt_of e) z.ok fun g=>ih g (h g)
          · exact h.elim
        · exact h.elim
  | bx k ih =>
    intro l A K h
    cases l with
    | nil=>exact ⟨_,h⟩
    | cons o l=>
      obtain ⟨dst,op,ty,pos,after,gd0⟩:=o
      simp only [goL] at h
      split at h
      · exact h.elim
      · show opT P N _ A _
        split at h
        · split at h
          · rename_i e
            simp only [Bool.and_eq_true] at e
            exact opT_box rfl rfl (blt_of e.1) e.2 fun g=>ih g (h g)
          · exact h.elim
        · exact h.elim
  | st old k ih =>
    intro l A K h
    cases l with
    | nil=>exact ⟨_,h⟩
    | cons o l=>
      obtain ⟨dst,op,ty,pos,after,gd0⟩:=o
      simp only [goL] at h
      split at h
      · exact h.elim
      · show opT P N _ A _
        split at h
        · split at h
          · rename_i i r p g g' e1 e2
            split at h
            · split at h
              · rename_i g2 g2' u e3
                split at h
                · rename_i e4
                  simp only [Bool.and_eq_true,beq_iff_eq] at e4
                  obtain ⟨hq,h⟩:=h
                  simp only [Prod.mk.injEq] at hq
                  obtain ⟨rfl,rfl⟩:=hq
                  exact opT_store rfl rfl e1 e2 e3 e4.1.1 e4.1.2 e4.2 (ih h)
                · exact h.elim
              · exact h.elim
            · split at h
              · rename_i u e4
                simp only [Bool.and_eq_true,beq_iff_eq] at e4
                exact opT_store rfl rfl e1 e2 h.1 e4.1.1 e4.1.2 e4.2 (ih h.2)
              · exact h.elim
          · exact h.elim
        · exact h.elim
  | ap k ih =>
    intro l A K h
    cases l with
    | nil=>exact ⟨_,h⟩
    | cons o l=>
      obtain ⟨dst,op,ty,pos,after,gd0⟩:=o
      simp only [goL] at h
      split at h
      · exact h.elim
      · show opT P N _ A _
        split at h
        · split at h
          · rename_i t e1 e2
            split at h
            · rename_i e3 e4
              simp only [Bool.and_eq_true,beq_iff_eq] at e1
              obtain ⟨k1,k2,k3,k4,k5,k6⟩:=h
              obtain ⟨e,e',q1,q2,q3,q4,q5,q6⟩:=tysApp_of e2
              exact opT_app rfl e1.1 rfl (blt_of e1.2) q1 q2 q3 (zOk_of q4) q5 q6 e3 k1 e4 k2 k3 k4 k5 fun g o1 c=>ih g o1 c (k6 g o1 c)
            · rename_i e3 e4
              split at h
              · rename_i e5
                simp only [Bool.and_eq_true,beq_iff_eq] at e1
                obtain ⟨k1,k2,k3,k4,k5,k6⟩:=h
                obtain ⟨e,e',q1,q2,q3,q4,q5,q6⟩:=tysApp_of e2
                exact opT_appF rfl e1.1 rfl (blt_of e1.2) q1 q2 q3 (zOk_of q4) q5 q6 e5 k1.1 k1.2 e4 k2 k3 k4 k5 fun g o1 c=>ih g o1 c (k6 g o1 c)
              · exact h.elim
            · exact h.elim
          · exact h.elim
        · exact h.elim
  | bd z k ih =>
    intro l A K h
    cases l with
    | nil=>exact ⟨_,h⟩
    | cons o l=>
      obtain ⟨dst,op,ty,pos,after,gd0⟩:=o
      simp only [goL] at h
      split at h
      · exact h.elim
      · split at h
        · split at h
          · rename_i zs e1 e2
            split at h
            · rename_i v e3
              simp only [Bool.and_eq_true,beq_iff_eq] at e1
              obtain ⟨rfl,e1⟩:=e1
              have hz:=z.ok
              rw [e2] at hz
              exact WL_build zs v hz (dOk_of e1) e3 (ih h)
            · exact h.elim
          · exact h.elim
        · exact h.elim
  | bs k ih =>
    intro l A K h
    cases l with
    | nil=>exact ⟨_,h⟩
    | cons o l=>
      obtain ⟨dst,op,ty,pos,after,gd0⟩:=o
      simp only [goL] at h
      split at h
      · exact h.elim
      · split at h
        · split at h
          · rename_i e e1
            split at h
            · rename_i i vs e2 e3
              split at h
              · rename_i e4
                simp only [Bool.and_eq_true] at e4
                exact WL_buildSlice e i vs ⟨e1,e2⟩ (dOk_of e4.2) e3 e4.1 (ih h)
              · exact h.elim
            · exact h.elim
          · exact h.elim
        · exact h.elim
  | by_ bs k ih=>
    intro l A K h
    cases l with
    | nil=>exact ⟨_,h⟩
    | cons o l=>
      obtain ⟨dst,op,ty,pos,after,gd0⟩:=o
      simp only [goL] at h
      split at h
      · exact h.elim
      · split at h
        · split at h
          · rename_i C ys e1 e2
            simp only [Bool.and_eq_true] at e1
            obtain ⟨hC,rfl,h⟩:=h
            obtain ⟨e,q1,q2⟩:=isU8_of e1.1.1
            exact WL_bytesStr e C bs ⟨q1,q2,isStr_of e1.1.2⟩ (dOk_of e1.2) e2 hC (ih h)
          · exact h.elim
        · exact h.elim
  | sb bs k ih=>
    intro l A K h
    cases l with
    | nil=>exact ⟨_,h⟩
    | cons o l=>
      obtain ⟨dst,op,ty,pos,after,gd0⟩:=o
      simp only [goL] at h
      split at h
      · exact h.elim
      · split at h
        · split at h
          · rename_i e1
            simp only [Bool.and_eq_true] at e1
            obtain ⟨e,q1,q2⟩:=isU8_of e1.1.2
            exact WL_strBytes e bs ⟨isStr_of e1.1.1,q1,q2⟩ (blt_of e1.2) h.1 fun g c=>ih g c (h.2 g c)
          · exact h.elim
        · exact h.elim
  | mm k ih =>
    intro l A K h
    cases l with
    | nil=>exact ⟨_,h⟩
    | cons o l=>
      obtain ⟨dst,op,ty,pos,after,gd0⟩:=o
      simp only [goL] at h
      split at h
      · exact h.elim
      · split at h
        · split at h
          · rename_i kd p kd' q e1 e2 e3
            obtain ⟨rfl,h⟩:=h
            exact WL_max _ p q (dOk_of e3) e1 e2 (ih h)
          · rename_i kd p kd' q e1 e2 e3
            obtain ⟨rfl,h⟩:=h
            exact WL_min _ p q (dOk_of e3) e1 e2 (ih h)
          · exact h.elim
        · exact h.elim
  | rs k ih =>
    intro l A K h
    cases l with
    | nil=>exact ⟨_,h⟩
    | cons o l=>
      obtain ⟨dst,op,ty,pos,after,gd0⟩:=o
      simp only [goL] at h
      split at h
      · exact h.elim
      · split at h
        · split at h
          · rename_i e1 e2 e3
            obtain ⟨hq,⟨h1,h2,h3⟩,h⟩:=h
            simp only [Prod.mk.injEq] at hq
            obtain ⟨rfl,rfl,rfl,rfl⟩:=hq
            exact WL_reslice _ _ _ _ (blt_of e3) e1 e2 h1 h2 h3 (ih h)
          · exact h.elim
        · exact h.elim
  | _=>
    intro l A K h
    cases l with
    | nil=>exact ⟨_,h⟩
    | cons o l=>simp only [goL] at h; split at h <;> exact h.elim
end
end Go.Abs
namespace Go.Abs
open Go Go.RowKit
section
variable {P:Program} {N:Nat} {ops:Array Oper} {A A' A1 B:AS}
def OpLoc (P:Program) (N:Nat) (ops:Array Oper) (o:Oper) (A:AS) (v:V):Prop:=
  ∀ A':AS,(∀ t,t∈o.looksAt ops→A'.get t=A.get t)→gd ops o A' (opT P N o A' (fun B=>AEq B (A'.put o.dst v))) (dstOk N o.dst∧∀ w Pb,RV w Pb v undef [])
theorem OpLoc.det {o:Oper} {v:V} (h:OpLoc P N ops o A v):OpDet P N ops o A v:=fun A' h1 _=>h A' fun t ht=>h1 t (.inl ht)
theorem sOk_of {Sl:List Nat} {o:Oper} (h:sOk ops Sl o=true):∀ t,t∈Sl→t ∉ o.looksAt ops∧o.dst≠some t:=fun t ht=>by
  unfold sOk at h
  rw [List.all_eq_true] at h
  have:=h t ht
  simp only [Bool.and_eq_true,Bool.not_eq_true',bne_iff_ne] at this
  exact ⟨by simpa using this.1,this.2⟩
theorem OpLoc.detS {Sl Hl:List Nat} {o:Oper} {v:V} (h:OpLoc P N ops o A v) (hs:sOk ops Sl o=true):OpDetS P N ops Sl Hl o A v:=
  fun A' h1 _=>h A' fun t ht=>h1 t (fun c=>(sOk_of hs t c).1 ht) (.inl ht)
def rootFreeS (ops:Array Oper) (Sl Hl:List Nat) (A:AS):Op→Bool
  | .load _ x=>match A.ev x with
    | .ptr (.slot i) _ _ _=>ops.toList.all (fun o=>o.dst != some i)&&!Sl.contains i
    | .ptr (.key k) _ _ _=>!Hl.contains k
    | _=>true
  | _=>true
theorem stX_congrS {Sl Hl:List Nat} {op:Op} (h:∀ t,Operand.tmp t∈op.operands.toList→A'.get t=A.get t) (hk:∀ k,k ∉ Hl→lk k A'.h=lk k A.h) (hr:∀ i,i ∉ Sl→(∀ o∈ops.toList,o.dst≠some i)→A'.get i=A.get i)
    (hf:rootFreeS ops Sl Hl A op=true):stX P A' op=stX P A op:=by
  cases op with
  | move x=>simp only [stX,stV,moveV,cp_congr (x:=x) fun t e=>h t (by simp [Op.operands,e]),ev_congr (x:=x) fun t e=>h t (by simp [Op.operands,e])]
  | pick c a b=>
    have h1:=ev_congr (x:=c) fun t e=>h t (by simp [Op.operands,e])
    have h2:=ev_congr (x:=a) fun t e=>h t (by simp [Op.operands,e])
    have h3:=ev_congr (x:=b) fun t e=>h t (by simp [Op.operands,e])
    simp only [stX,stV,pickV,h1,h2,h3]
  | binOp op T x y T'=>simp only [stX,stV,ev_congr (x:=x) fun t e=>h t (by simp [Op.operands,e]),ev_congr (x:=y) fun t e=>h t (by simp [Op.operands,e])]
  | unOp op T x=>simp only [stX,stV,ev_congr (x:=x) fun t e=>h t (by simp [Op.operands,e])]
  | convert s d x=>simp only [stX,stV,ev_congr (x:=x) fun t e=>h t (by simp [Op.operands,e])]
  | index T x y=>simp only [stX,stV,ev_congr (x:=x) fun t e=>h t (by simp [Op.operands,e]),ev_congr (x:=y) fun t e=>h t (by simp [Op.operands,e])]
  | slice T x lo hi m=>
    have h1:=ev_congr (x:=x) fun t e=>h t (by simp [Op.operands,e])
    have h2:=lmap_congr (x:=lo) fun t e=>h t (by simp [Op.operands,e])
    have h3:=lmap_congr (x:=hi) fun t e=>h t (by simp [Op.operands,e])
    cases m with
    | none=>simp only [stX,h1,h2,h3]
    | some m=>rfl
  | extract x i=>simp only [stX,stV,ev_congr (x:=x) fun t e=>h t (by simp [Op.operands,e])]
  | call c=>
    simp only [stX,stV,callV]
    split
    · split
      · rename_i x T hx _
        rw [ev_congr (x:=x) fun t e=>h t (by simp [Op.operands,Call.operands,hx,e])]
      · rfl
    · rfl
  | fieldAddr T x j=>simp only [stX,ev_congr (x:=x) fun t e=>h t (by simp [Op.operands,e])]
  | field T x j=>simp only [stX,cp_congr (x:=x) fun t e=>h t (by simp [Op.operands,e])]
  | indexAddr T x y=>simp only [stX,ev_congr (x:=x) fun t e=>h t (by simp [Op.operands,e]),ev_congr (x:=y) fun t e=>h t (by simp [Op.operands,e])]
  | load T x=>
    have h1:=ev_congr (x:=x) fun t e=>h t (by simp [Op.operands,e])
    simp only [stX,h1,loadV]
    split
    · split
      · rename_i r p g o e
        have:A'.at r p=A.at r p:=by
          unfold AS.at
          cases r with
          | key k=>
            simp only [rootFreeS,e,Bool.not_eq_true',List.contains_eq_mem,decide_eq_false_iff_not] at hf
            simp only [hk k hf]
          | slot i=>
            simp only [rootFreeS,e,Bool.and_eq_true,List.all_eq_true,bne_iff_ne,Bool.not_eq_true',List.contains_eq_mem,decide_eq_false_iff_not] at hf
            simp only [hr i hf.2 hf.1]
        rw [this]
      · rfl
      · rfl
    · rfl
  | nilCheck x=>simp only [stX,ev_congr (x:=x) fun t e=>h t (by simp [Op.operands,e])]
  | makeInterface T x=>simp only [stX,cp_congr (x:=x) fun t e=>h t (by simp [Op.operands,e])]
  | typeAssert x xT T b=>
    cases b with
    | true=>simp only [stX,ev_congr (x:=x) fun t e=>h t (by simp [Op.operands,e])]
    | false=>rfl
  | makeFunc fn p q=>
    have e1:p.toList.map A'.ev=p.toList.map A.ev:=List.map_congr_left fun x hx=>ev_congr fun t e=>h t (by subst e; simp only [Op.operands,Array.toList_append,List.mem_append]; exact .inl hx)
    have e2:q.toList.map A'.ev=q.toList.map A.ev:=List.map_congr_left fun x hx=>ev_congr fun t e=>h t (by subst e; simp only [Op.operands,Array.toList_append,List.mem_append]; exact .inr hx)
    simp only [stX,e1,e2]
  | _=>rfl
theorem OpDetS_stX {Sl Hl:List Nat} {o:Oper} {C:Prop} {v:V} (hg:o.guard=none) (h:stX P A o.op=some (C,v)) (hC:C) (hd:dstOk N o.dst) (hf:rootFreeS ops Sl Hl A o.op=true) (hs:sOk ops Sl o=true):OpDetS P N ops Sl Hl o A v:=by
  intro A' h1 hk
  unfold gd
  rw [hg]
  simp only
  refine opT_stX (C:=C) (v:=v) ?_ hC hd ⟨fun _=>rfl,fun _=>rfl⟩
  rw [stX_congrS (A:=A) (fun t ht=>h1 t (fun c=>(sOk_of hs t c).1 (looks_op ht)) (.inl (looks_op ht))) hk (fun i hi hw=>h1 i hi (.inr hw)) hf]
  exact h
theorem OpLoc_assign {o:Oper} {x:Operand} (hg:o.guard=none) (ho:o.op=.assign x) (hd:dstOk N o.dst) (hn:(A.ev x).owns=false):OpLoc P N ops o A (A.ev x):=by
  intro A' h1
  unfold gd
  rw [hg]
  simp only
  have e1:A'.ev x=A.ev x:=ev_congr fun t ht=>h1 t (looks_op (by rw [ho,ht]; simp [Op.operands]))
  have e2:A'.drop x=A':=by
    cases x with
    | tmp t=>
      have e3:A'.get t=A.get t:=e1
      have hn':(A.get t).owns=false:=hn
      simp [AS.drop,e3,hn']
    | _=>rfl
  rw [← e1]
  refine opT_assign ho hd ?_
  rw [e2]
  exact ⟨fun _=>rfl,fun _=>rfl⟩
theorem OpLoc_call {d:Option Nat} {f:FuncId} {xs:Array Operand} {tys:Array TypeId} {ty:TypeId} {pos:String} {after:Array Edge}
    {Q:V→Prop} {E:V} (hd:dstOk N d) (hc:PC P f (xs.toList.map A.cp) Q) (hE:∀ r,Q r→r.er=E):
    OpLoc P N ops ⟨d,.call { callee:=.value (.func f),args:=xs,argTypes:=tys },ty,pos,after,none⟩ A E:=fun A' h1=>by
  unfold gd
  refine opT_call_er rfl hd ?_ hE ⟨fun _=>rfl,fun _=>rfl⟩
  rw [map_cp_congr fun t ht=>h1 t (looks_op (by simp [Op.operands,Call.operands]; simpa using ht))]
  exact hc
theorem OpLoc_buildSlice {d:Option Nat} {T len ty:Nat} {parts:Array (Nat×Operand)} {pos:String} {after:Array Edge} (e:Nat) (i:TI) (vs:List V)
    (hty:tD P T=some (.sl e)∧ti P e=some i) (hd:dstOk N d) (hvs:partsV A 0 parts.toList=some vs) (hB:bsB P T e len i vs=true):
    OpLoc P N ops ⟨d,.buildSlice T len parts,ty,pos,after,none⟩ A (.sl true vs):=fun A' h1=>by
  show opT P N _ A' _
  refine opT_bs rfl hd hty.1 hty.2 ?_ hB ⟨fun _=>rfl,fun _=>rfl⟩
  rw [parts_congr (A:=A) _ _ (fun t ht=>h1 t (looks_op (by simpa [Op.operands] using ht)))]
  exact hvs
theorem OpLoc_build {d:Option Nat} {T ty:Nat} {parts:Array (Nat×Operand)} {pos:String} {after:Array Edge} (zs:List V) (v:V)
    (hz:ZeroOk P T (.agg zs)) (hd:dstOk N d) (hb:buildB P A T zs parts.toList=some v):OpLoc P N ops ⟨d,.build T parts,ty,pos,after,none⟩ A v:=fun A' h1=>by
  show opT P N _ A' _
  have e:buildB P A' T zs parts.toList=some v:=by
    rw [← hb]
    unfold buildB
    have:(parts.toList.map fun (i,x)=>(i,A'.cp x))=parts.toList.map fun (i,x)=>(i,A.cp x):=by
      apply List.map_congr_left
      rintro ⟨i,x⟩ hx
      simp only
      rw [cp_congr (x:=x) fun t ht=>h1 t (looks_op (by
        subst ht
        simp only [Op.operands,List.mem_map]
        exact ⟨(i,.tmp t),hx,rfl⟩))]
    rw [this]
  obtain ⟨C,k1,k2⟩:=buildB_ok e
  exact opT_build rfl hd hz k1 k2 ⟨fun _=>rfl,fun _=>rfl⟩
theorem OpLoc_bytesStr {d:Option Nat} {src dst ty:Nat} {x:Operand} {pos:String} {after:Array Edge} (e:Nat) (full:Bool) (bs:List UInt8)
    (ht:tD P src=some (.sl e)∧tD P e=some (.int .u8)∧tD P dst=some .str) (hd:dstOk N d) (hx:A.ev x=.sl full (bs.map u8V)):
    OpLoc P N ops ⟨d,.convert src dst x,ty,pos,after,none⟩ A (sV bs):=fun A' h1=>by
  show opT P N _ A' _
  have e1:A'.ev x=.sl full (bs.map u8V):=by rw [← hx]; exact ev_congr fun t ht=>h1 t (looks_op (by rw [ht]; simp [Op.operands]))
  exact opT_bytesStr rfl hd ht.1 ht.2.1 ht.2.2 (C:=True) (by simp only [rdL,e1]) trivial ⟨fun _=>rfl,fun _=>rfl⟩
def takeB (b:Option (Sum Nat (Nat×List Nat))) (B:AS):AS:=match b with
  | none=>B
  | some (.inl t)=>B.put (some t) .dead
  | some (.inr (k,p))=>B.setAt (.key k) p .dead
def apU (A:AS) (s:Operand) (sz:Nat):Option (Prop×Option (Sum Nat (Nat×List Nat))×List V):=
  match s with
  | .const (.slice none 0 0)=>some (True,none,[])
  | .tmp t=>match A.get t with
    | .sl true []=>some (True,none,[])
    | .own sz' xs _ _ _=>some (sz'=sz,some (.inl t),xs)
    | .hd (.slot i) [] sz' g o 0 n c=>match A.get i with
      | .own sz2 xs g2 o2 c2=>some ((sz',sz2,g2,o2,c2,n)=(sz,sz,g,o,c,xs.length),some (.inl i),xs)
      | _=>none
    | .hd (.key k) p sz' g o 0 n c=>match A.at (.key k) p with
      | some (_,_,.own sz2 xs g2 o2 c2)=>some ((sz',sz2,g2,o2,c2,n)=(sz,sz,g,o,c,xs.length),some (.inr (k,p)),xs)
      | _=>none
    | _=>none
  | _=>none
theorem apU_apB {s:Operand} {sz:Nat} {C:Prop} {b:Option (Sum Nat (Nat×List Nat))} {xs:List V} (h:apU A s sz=some (C,b,xs)):apB A s sz=some (C,takeB b A,xs):=by
  have fin:∀ {C':Prop} {b':Option (Sum Nat (Nat×List Nat))} {xs':List V},some (C',b',xs')=some (C,b,xs)→some (C',takeB b' A,xs')=some (C,takeB b A,xs):=fun h=>by
    have h:=Option.some.inj h; have h1:=(Prod.mk.inj h).1; have h2:=(Prod.mk.inj (Prod.mk.inj h).2).1; have h3:=(Prod.mk.inj (Prod.mk.inj h).2).2; rw [h1,h2,h3]
  unfold apU at h
  unfold apB
  split at h
  · exact fin h
  · split at h
    · rename_i e; (try simp only [e]); exact fin h
    · rename_i e; (try simp only [e]); exact fin h
    · rename_i e; (try simp only [e])
      split at h
      · rename_i e2; (try simp only [e2]); exact fin h
      · simp at h
    · rename_i e; (try simp only [e])
      split at h
      · rename_i e2; (try simp only [e2]); exact fin h
      · simp at h
    · simp at h
  · simp at h
def baseOk (s:Operand) (Sl El Hl:List Nat):Option (Sum Nat (Nat×List Nat))→Bool
  | none=>true
  | some (.inl t)=>Sl.contains t&&(match s with | .tmp q=>q==t||El.contains t | _=>false)
  | some (.inr (k,_))=>Hl.contains k
theorem apU_congr {s:Operand} {sz:Nat} {C:Prop} {b:Option (Sum Nat (Nat×List Nat))} {xs:List V} {Sl El Hl:List Nat} (h:apU A s sz=some (C,b,xs)) (hb:baseOk s Sl El Hl b=true)
    (h1:∀ t,s=.tmp t→A'.get t=A.get t) (h2:∀ t,t∈El→A'.get t=A.get t) (h3:∀ k,lk k A'.h=lk k A.h):apU A' s sz=some (C,b,xs):=by
  unfold apU at h ⊢
  split at h
  · exact h
  · rename_i t
    have hg:=h1 t rfl
    have hk:∀ k p,A'.at (.key k) p=A.at (.key k) p:=fun k p=>by simp only [AS.at,h3]
    simp only [hg,hk]
    split at h
    · exact h
    · exact h
    · rename_i i sz' g o n c e
      split at h
      · rename_i sz2 xs2 g2 o2 c2 e2
        have:A'.get i=A.get i:=by
          simp only [Option.some.injEq] at h
          obtain ⟨_,h⟩:=Prod.mk.inj h; obtain ⟨rfl,_⟩:=Prod.mk.inj h
          simp only [baseOk,Bool.and_eq_true,Bool.or_eq_true,beq_iff_eq] at hb
          rcases hb.2 with q | q
          · rw [← q]; exact hg
          · exact h2 i (by simpa using q)
        simp only [this,e2]; exact h
      · simp at h
    · exact h
    · simp at h
  · simp at h
def effU (P:Program) (N:Nat) (Sl El Hl:List Nat) (o:Oper) (A:AS) (z:Option (ZT P)):Option (Prop×(Nat×Nat×Nat→AS→AS)):=
  match o.op,o.dst with
  | .alloc T,some d=>match z with
    | some z=>match T==z.T&&Nat.blt d N&&Sl.contains d&&Hl.contains d with
      | true=>some (True,fun gh B=>⟨(d,.ptr (.key d) [] gh.1 0) :: B.t,(d,(gh.1,z.v)) :: B.h⟩)
      | false=>none
    | none=>none
  | .call ⟨.builtin .append,⟨[s,x]⟩,⟨[T,T2]⟩⟩,some d=>match o.type==T&&Nat.blt d N&&Sl.contains d,tysApp P T T2 with
    | true,some t=>match apU A s t.sz,A.ev x with
      | some (C,b,xs),.sl _ ys=>match baseOk s Sl El Hl b with
        | true=>some (C∧V.ownsL ys=false∧AllN t.sz ys∧(xs.length+ys.length) * t.by_≤140737488355328,fun gh B=>(takeB b B).put (some d) (.own t.sz (xs++ys) gh.1 gh.2.1 gh.2.2))
        | false=>none
      | none,.sl _ ys=>match apF A s t.sz with
        | some (C,xs)=>some ((C∧0 < ys.length)∧V.ownsL ys=false∧AllN t.sz ys∧(xs.length+ys.length) * t.by_≤140737488355328,fun gh B=>B.put (some d) (.own t.sz (xs++ys) gh.1 gh.2.1 gh.2.2))
        | none=>none
      | _,_=>none
    | _,_=>none
  | .load T x,some d=>match ti P T,A.ev x with
    | some i,.ptr (.key k) p g g'=>match A.at (.key k) p with
      | some (g2,g2',u)=>match Nat.blt d N&&u.n==i.sz&&i.d.agg==u.isAgg&&Sl.contains d&&Hl.contains k with
        | true=>some ((g2,g2')=(g,g'),fun _ B=>(B.setAt (.key k) p u.kill).put (some d) u)
        | false=>none
      | none=>none
    | _,_=>none
  | _,_=>none
theorem setAt_get_key {k:Nat} {p:List Nat} {v:V} {t:Nat}:(B.setAt (.key k) p v).get t=B.get t:=by
  simp only [AS.setAt]; split <;> rfl
theorem setAt_lk {k q:Nat} {p:List Nat} {v:V} (h:q≠k):lk q (B.setAt (.key k) p v).h=lk q B.h:=by
  simp only [AS.setAt]; split
  · simp only [lk]; rw [if_neg h]
  · rfl
theorem setAt_lk_eq {k q:Nat} {p:List Nat} {v:V} {B':AS} (h:∀ k,lk k B.h=lk k B'.h):lk q (B.setAt (.key k) p v).h=lk q (B'.setAt (.key k) p v).h:=by
  simp only [AS.setAt]
  rw [← h k]
  split
  · simp only [lk]; split
    · rfl
    · exact h q
  · exact h q
theorem put_AEq {B C:AS} {d:Option Nat} {v:V} (h:AEq B C):AEq (B.put d v) (C.put d v):=by
  cases d with
  | none=>exact h
  | some d' => exact ⟨fun t => by rw [AS.get_put,AS.get_put]; split
                                  · rfl
                                  · exact h.1 t,h.2⟩
theorem setAt_cons {k k0:Nat} {p:List Nat} {v:V} {gv:Nat×V} (h:k≠k0):AEq (AS.setAt ⟨B.t,(k,gv) :: B.h⟩ (.key k0) p v) ⟨(B.setAt (.key k0) p v).t,(k,gv) :: (B.setAt (.key k0) p v).h⟩:=by
  have e:lk k0 ((k,gv) :: B.h)=lk k0 B.h:=by simp only [lk]; rw [if_neg (Ne.symm h)]
  simp only [AS.setAt,e]
  split
  · refine ⟨fun _=>rfl,fun x=>?_⟩
    simp only [lk]
    by_cases c:x=k
    · rw [if_pos c,if_neg (fun c2=>h (c.symm.trans c2)),if_pos c]
    · rw [if_neg c,if_neg c]
  · exact ⟨fun _=>rfl,fun _=>rfl⟩
theorem cons_put {A B:AS} {k:Nat} {gv:Nat×V} {d:Nat} {v:V} (h:AEq A ⟨B.t,(k,gv) :: B.h⟩):AEq (A.put (some d) v) ⟨(B.put (some d) v).t,(k,gv) :: (B.put (some d) v).h⟩:=put_AEq h
theorem effU_ok {Sl El Hl:List Nat} {o:Oper} {z:Option (ZT P)} {C:Prop} {U:Nat×Nat×Nat→AS→AS} (h:effU P N Sl El Hl o A z=some (C,U)) (hC:C) (d:Nat) (hd:o.dst=some d):
    UOk U Sl Hl d∧EffOk P N ops El U o A:=by
  obtain ⟨dst,op,ty,pos,after,gd0⟩:=o
  simp only at hd; subst hd
  unfold effU at h
  simp only at h
  split at h
  · rename_i T d' e
    simp only [Option.some.injEq] at e; subst e
    split at h
    · rename_i z
      split at h
      · rename_i e
        simp only [Option.some.injEq,Prod.mk.injEq] at h
        obtain ⟨_,rfl⟩:=h
        simp only [Bool.and_eq_true,beq_iff_eq,List.contains_eq_mem,decide_eq_true_eq] at e
        obtain ⟨⟨⟨rfl,e1⟩,e2⟩,e3⟩:=e
        refine ⟨⟨fun gh B t ht=>?_,fun gh B k hk=>?_,fun gh B B' hB=>⟨fun t=>?_,fun k=>?_⟩,fun gh B t v ht=>⟨fun q=>?_,fun k=>rfl⟩,fun gh B v=>⟨fun q=>?_,fun k=>rfl⟩,fun gh B k gv hq=>?_⟩,fun A' _ _ K hK=>?_⟩
        · simp only [AS.get,lk]; rw [if_neg (fun c=>ht (by rw [c]; exact e2))]
        · simp only [lk]; rw [if_neg (fun c=>hk (by rw [c]; exact e3))]
        · simp only [AS.get,lk]; split
          · rfl
          · exact hB.1 t
        · simp only [lk]; split
          · rfl
          · exact hB.2 k
        · simp only [AS.put,AS.get,lk]
          by_cases c:q=d
          · subst c; rw [if_pos rfl,if_neg (fun c=>ht (by rw [← c]; exact e2)),if_pos rfl]
          · rw [if_neg c,if_neg c]
        · simp only [AS.put,AS.get,lk]
          by_cases c:q=d
          · subst c; simp
          · rw [if_neg c,if_neg c,if_neg c]
        · refine ⟨fun _=>rfl,fun x=>?_⟩
          simp only [lk]
          by_cases c:x=d
          · rw [if_pos c,if_neg (fun c2=>hq (by rw [← c2,c]; exact e3)),if_pos c]
          · rw [if_neg c,if_neg c]
        · exact opT_alloc rfl rfl (blt_of e1) z.ok fun g=>hK (g,0,0)
      · simp at h
    · simp at h
  · rename_i s x T T2 d' e
    simp only [Option.some.injEq] at e; subst e
    split at h
    · rename_i t e1 e2
      split at h
      · rename_i Cb b xs fl ys e3 e4
        split at h
        · rename_i e5
          simp only [Option.some.injEq,Prod.mk.injEq] at h
          obtain ⟨rfl,rfl⟩:=h
          simp only [Bool.and_eq_true,beq_iff_eq,List.contains_eq_mem,decide_eq_true_eq] at e1
          obtain ⟨⟨rfl,e1⟩,e6⟩:=e1
          obtain ⟨k1,k3,k4,k5⟩:=hC
          have tg:∀ (B:AS) t,t ∉ Sl→(takeB b B).get t=B.get t:=fun B t ht=>by
            cases b with
            | none=>rfl
            | some b=>cases b with
              | inl q=>
                simp only [baseOk,Bool.and_eq_true,List.contains_eq_mem,decide_eq_true_eq] at e5
                simp only [takeB]; rw [AS.get_put,if_neg (fun c=>ht (by rw [c]; exact e5.1))]
              | inr kp=>simp only [takeB]; exact setAt_get_key
          have tg2:∀ (B B':AS) t,B.get t=B'.get t→(takeB b B).get t=(takeB b B').get t:=fun B B' t ht=>by
            cases b with
            | none=>exact ht
            | some b=>cases b with
              | inl q=>simp only [takeB]; rw [AS.get_put,AS.get_put,ht]
              | inr kp=>simp only [takeB]; rw [setAt_get_key,setAt_get_key]; exact ht
          have th:∀ (B B':AS) k,(∀ k,lk k B.h=lk k B'.h)→lk k (takeB b B).h=lk k (takeB b B').h:=fun B B' k hk=>by
            cases b with
            | none=>exact hk k
            | some b=>cases b with
              | inl q=>exact hk k
              | inr kp=>exact setAt_lk_eq hk
          refine ⟨⟨fun gh B q hq=>?_,fun gh B k hk=>?_,fun gh B B' hB=>?_,fun gh B q v hq=>⟨fun q2=>?_,fun k=>th _ _ k fun _=>rfl⟩,fun gh B v=>⟨fun q=>?_,fun k=>th _ _ k fun _=>rfl⟩,fun gh B k gv hq=>?_⟩,fun A' h1 h2 K hK=>?_⟩
          · rw [AS.get_put,if_neg (fun c=>hq (by rw [c]; exact e6))]; exact tg B q hq
          · show lk k (takeB b B).h=_
            cases b with
            | none=>rfl
            | some b=>cases b with
              | inl q=>rfl
              | inr kp=>
                obtain ⟨k0,p0⟩:=kp
                simp only [baseOk,List.contains_eq_mem,decide_eq_true_eq] at e5
                exact setAt_lk (fun c=>hk (by rw [c]; exact e5))
          · exact put_AEq ⟨fun q=>tg2 _ _ q (hB.1 q),fun k=>th _ _ k hB.2⟩
          · rw [AS.get_put,AS.get_put,AS.get_put]
            by_cases c:q2=d
            · subst c; rw [if_pos rfl,if_neg (fun c=>hq (by rw [← c]; exact e6)),if_pos rfl]
            · rw [if_neg c]
              by_cases c2:q2=q
              · subst c2; rw [if_pos rfl,tg _ _ hq,AS.get_put,if_pos rfl]
              · rw [if_neg c2,if_neg c]; exact tg2 _ _ _ (by rw [AS.get_put,if_neg c2])
          · rw [AS.get_put,AS.get_put]
            by_cases c:q=d
            · rw [if_pos c,if_pos c]
            · rw [if_neg c,if_neg c]; exact tg2 _ _ _ (by rw [AS.get_put,if_neg c])
          · refine cons_put ?_
            cases b with
            | none=>exact ⟨fun _=>rfl,fun _=>rfl⟩
            | some b=>cases b with
              | inl q=>exact ⟨fun _=>rfl,fun _=>rfl⟩
              | inr kp=>
                obtain ⟨k0,p0⟩:=kp
                simp only [baseOk,List.contains_eq_mem,decide_eq_true_eq] at e5
                exact setAt_cons (fun c=>hq (by rw [c]; exact e5))
          · obtain ⟨e,e',q1,q2,q3,q4,q5,q6⟩:=tysApp_of e2
            have hs:∀ t,s=.tmp t→A'.get t=A.get t:=fun t ht=>h1 t (.inl (looks_op (by subst ht; simp [Op.operands,Call.operands])))
            have hx:A'.ev x=A.ev x:=ev_congr fun t ht=>h1 t (.inl (looks_op (by subst ht; simp [Op.operands,Call.operands])))
            have hap:=apU_apB (apU_congr e3 e5 hs (fun t ht=>h1 t (.inr ht)) h2)
            exact opT_app rfl rfl rfl (blt_of e1) q1 q2 q3 (zOk_of q4) q5 q6 hap k1 (by unfold rdL; rw [hx,e4]) trivial k3 k4 k5 fun g o1 c=>hK (g,o1,c)
        · simp at h
      · rename_i fl ys e3 e4
        split at h
        · rename_i C0 xs e5
          simp only [Option.some.injEq,Prod.mk.injEq] at h
          obtain ⟨rfl,rfl⟩:=h
          simp only [Bool.and_eq_true,beq_iff_eq,List.contains_eq_mem,decide_eq_true_eq] at e1
          obtain ⟨⟨rfl,e1⟩,e6⟩:=e1
          obtain ⟨⟨k1,k2⟩,k3,k4,k5⟩:=hC
          refine ⟨⟨fun gh B q hq=>?_,fun gh B k hk=>rfl,fun gh B B' hB=>put_AEq hB,fun gh B q v hq=>⟨fun q2=>?_,fun k=>rfl⟩,fun gh B v=>⟨fun q=>?_,fun k=>rfl⟩,fun gh B k gv hq=>⟨fun _=>rfl,fun _=>rfl⟩⟩,fun A' h1 h2 K hK=>?_⟩
          · rw [AS.get_put,if_neg (fun c=>hq (by rw [c]; exact e6))]
          · rw [AS.get_put,AS.get_put,AS.get_put,AS.get_put]
            by_cases c:q2=d
            · subst c; rw [if_pos rfl,if_neg (fun c=>hq (by rw [← c]; exact e6)),if_pos rfl]
            · rw [if_neg c,if_neg c]
          · rw [AS.get_put,AS.get_put,AS.get_put]
            split <;> rfl
          · obtain ⟨e,e',q1,q2,q3,q4,q5,q6⟩:=tysApp_of e2
            have hs:apF A' s t.sz=apF A s t.sz:=by
              cases s with
              | tmp q=>simp only [apF,h1 q (.inl (looks_op (by simp [Op.operands,Call.operands])))]
              | _=>rfl
            have hx:A'.ev x=A.ev x:=ev_congr fun t ht=>h1 t (.inl (looks_op (by subst ht; simp [Op.operands,Call.operands])))
            exact opT_appF rfl rfl rfl (blt_of e1) q1 q2 q3 (zOk_of q4) q5 q6 (by rw [hs]; exact e5) k1 k2 (by unfold rdL; rw [hx,e4]) trivial k3 k4 k5 fun g o1 c=>hK (g,o1,c)
        · simp at h
      · simp at h
    · simp at h
  · rename_i T x d' e
    simp only [Option.some.injEq] at e; subst e
    split at h
    · rename_i i k p g g' e1 e2
      split at h
      · rename_i g2 g2' u e3
        split at h
        · rename_i e4
          simp only [Option.some.injEq] at h
          obtain ⟨hq,rfl⟩:=Prod.mk.inj h
          subst hq
          obtain ⟨rfl,rfl⟩:=Prod.mk.inj hC
          simp only [Bool.and_eq_true,beq_iff_eq,List.contains_eq_mem,decide_eq_true_eq] at e4
          obtain ⟨⟨⟨⟨e4,e5⟩,e6⟩,e7⟩,e8⟩:=e4
          refine ⟨⟨fun gh B q hq=>?_,fun gh B q hq=>?_,fun gh B B' hB=>?_,fun gh B q v hq=>⟨fun q2=>?_,fun k=>setAt_lk_eq fun _=>rfl⟩,fun gh B v=>⟨fun q=>?_,fun k=>setAt_lk_eq fun _=>rfl⟩,fun gh B k gv hq=>cons_put (setAt_cons (fun c=>hq (by rw [c]; exact e8)))⟩,fun A' h1 h2 K hK=>?_⟩
          · rw [AS.get_put,if_neg (fun c=>hq (by rw [c]; exact e7))]; exact setAt_get_key
          · exact setAt_lk (fun c=>hq (by rw [c]; exact e8))
          · exact put_AEq ⟨fun q=>by rw [setAt_get_key,setAt_get_key]; exact hB.1 q,fun k=>setAt_lk_eq hB.2⟩
          · rw [AS.get_put,AS.get_put,AS.get_put]
            by_cases c:q2=d
            · subst c; rw [if_pos rfl,if_neg (fun c=>hq (by rw [← c]; exact e7)),if_pos rfl]
            · rw [if_neg c]
              by_cases c2:q2=q
              · subst c2; rw [if_pos rfl,setAt_get_key,AS.get_put,if_pos rfl]
              · rw [if_neg c2,if_neg c,setAt_get_key,setAt_get_key,AS.get_put,if_neg c2]
          · rw [AS.get_put,AS.get_put]
            by_cases c:q=d
            · rw [if_pos c,if_pos c]
            · rw [if_neg c,if_neg c,setAt_get_key,setAt_get_key,AS.get_put,if_neg c]
          · have hx:A'.ev x=A.ev x:=ev_congr fun t ht=>h1 t (.inl (looks_op (by subst ht; simp [Op.operands])))
            exact opT_loadMv rfl rfl (blt_of e4) e1 (by rw [hx]; exact e2) (by simp only [AS.at,h2]; simpa only [AS.at] using e3) e5 e6 (hK (0,0,0))
        · simp at h
      · simp at h
    · simp at h
  · simp at h
end
end Go.Abs
namespace Go.Abs
open Go Go.RowKit
def runU (P : Program) (N:Nat) (ops:Array Oper) (sp:Nat) (Sl Hl:List Nat):Nat→Nat→List Oper→List V→AS→Option (Prop×AS)
  | 0,_,_,_,A=>some (True,A)
  | _+1,_,[],_,A=>some (True,A)
  | n + 1, i, o :: rest,orc,A=>
    match i==sp with
    | true=>none
    | false=>match o.dst with
    | none=>none
    | some d=>if d < N then
      match o.guard with
      | some (j,b)=>match gdV A ops j b with
        | some G=>match AS.un G (unOps o.op) A with
          | (C0,B)=>match sY P B o.op orc with
            | some (C,v,orc)=>if (okT N (unOps o.op)&&!v.isGv&&rootFree ops B o.op&&ancOf ops sp i)=true then match runU P N ops sp Sl Hl n (i+1) rest orc (A.put (some d) (.gv G v)) with
              | some (C',A')=>some ((G=true→C0∧C)∧C',A')
              | none=>none else none
            | none=>none
        | none=>none
      | none=>match o.op with
        | .assign x=>if (!(A.ev x).owns&&(ancOf ops sp i||sOk ops Sl o))=true then runU P N ops sp Sl Hl n (i+1) rest orc (A.put (some d) (A.ev x)) else none
        | op=>if (ancOf ops sp i&&rootFree ops A op||sOk ops Sl o&&rootFreeS ops Sl Hl A op)=true then match sY P A op orc with
          | some (C,v,orc)=>match runU P N ops sp Sl Hl n (i+1) rest orc (A.put (some d) v) with
            | some (C',A')=>if triv op=true then some (C',A') else some (C∧C',A')
            | none=>none
          | none=>none else none
      else none
section
variable {P:Program} {N:Nat} {ops:Array Oper} {A A' A1 B:AS} {sp:Nat} {Sl El Hl:List Nat} {U:Nat×Nat×Nat→AS→AS}
theorem DWU_cons {i:Nat} {o:Oper} {l:List Oper} {v:V} {K:AS→Prop} (hi:i≠sp) (h:(ancOf ops sp i=true∧OpDet P N ops o A v)∨(sOk ops Sl o=true∧OpDetS P N ops Sl Hl o A v))
    (hK:DWU P N ops sp Sl El Hl U (i+1) l (A.put o.dst v) K):DWU P N ops sp Sl El Hl U i (o :: l) A K:=by
  obtain ⟨vs,h1,h2⟩:=hK
  exact ⟨v :: vs,⟨v,vs,rfl,by rw [if_neg hi]; exact h,h1⟩,h2⟩
theorem DWU_eff {o:Oper} {l:List Oper} {K:AS→Prop} (h:EffOk P N ops El U o A) (hK:DWU P N ops sp Sl El Hl U (sp+1) l (A.put o.dst .dead) K):DWU P N ops sp Sl El Hl U sp (o :: l) A K:=by
  obtain ⟨vs,h1,h2⟩:=hK
  exact ⟨.dead :: vs,⟨.dead,vs,rfl,by rw [if_pos rfl]; exact ⟨rfl,h⟩,h1⟩,h2⟩
theorem DWU_nil {i:Nat} {K:AS→Prop} (h:K A):DWU P N ops sp Sl El Hl U i [] A K:=⟨[],rfl,h⟩
theorem loc_or {o:Oper} {i:Nat} {v:V} (h:OpLoc P N ops o A v) (ha:(ancOf ops sp i||sOk ops Sl o)=true):(ancOf ops sp i=true∧OpDet P N ops o A v)∨(sOk ops Sl o=true∧OpDetS P N ops Sl Hl o A v):=by
  rcases Bool.or_eq_true .. ▸ ha with h1 | h1
  · exact .inl ⟨h1,h.det⟩
  · exact .inr ⟨h1,h.detS h1⟩
theorem DWU_run {K:AS→Prop}:∀ (n:Nat) {i:Nat} {l:List Oper} (orc:List V) {A:AS} (C:Prop) (A':AS),
    runU P N ops sp Sl Hl n i l orc A=some (C,A')→C→DWU P N ops sp Sl El Hl U (i+min n l.length) (l.drop n) A' K→DWU P N ops sp Sl El Hl U i l A K
  | 0,i,l,orc,A,C,A',h,hC,hK=>by
    simp only [runU,Option.some.injEq,Prod.mk.injEq] at h; obtain ⟨_,rfl⟩:=h; simpa using hK
  | n+1,i,[],orc,A,C,A',h,hC,hK=>by
    simp only [runU,Option.some.injEq,Prod.mk.injEq] at h; obtain ⟨_,rfl⟩:=h; simpa using hK
  | n + 1,i,o :: l,orc,A,C,A',h,hC,hK=>by
    have hdrop:(o :: l).drop (n+1)=l.drop n:=rfl
    rw [hdrop,show i+min (n+1) (o :: l).length=(i+1)+min n l.length from by rw [List.length_cons,Nat.succ_min_succ]; omega] at hK
    unfold runU at h
    split at h
    · simp at h
    rename_i hisp
    have hisp:i≠sp:=by simpa using hisp
    split at h
    · simp at h
    rename_i d hd
    split at h
    case isFalse=>simp at h
    rename_i hdN
    have hdok:dstOk N o.dst:=by rw [hd]; exact hdN
    cases hg:o.guard with
    | some jb=>
      obtain ⟨j,b⟩:=jb
      rw [hg] at h
      simp only at h
      split at h
      case h_2=>simp at h
      rename_i G hG
      cases hu:AS.un G (unOps o.op) A with
      | mk C0 B=>
        rw [hu] at h
        simp only at h
        split at h
        case h_2=>simp at h
        rename_i C1 v orc2 hst
        split at h
        case isFalse=>simp at h
        rename_i hok
        simp only [Bool.and_eq_true,Bool.not_eq_true'] at hok
        split at h
        case h_2=>simp at h
        rename_i C2 A2 hr
        simp only [Option.some.injEq,Prod.mk.injEq] at h
        obtain ⟨rfl,rfl⟩:=h
        refine DWU_cons (v:=.gv G v) hisp (.inl ⟨hok.2,OpDet_guard hg hG hu (unOps_sub _) hok.1.1.1 hdok hok.1.2 (fun hGt=>⟨(hC.1 hGt).1,hok.1.1.2,sY_ok hst (hC.1 hGt).2⟩)⟩) (by rw [hd]; exact DWU_run n orc2 C2 A2 hr hC.2 hK)
    | none=>
      rw [hg] at h
      simp only at h
      split at h
      · rename_i x hop
        split at h
        case isFalse=>simp at h
        rename_i hown
        rw [Bool.and_eq_true,Bool.not_eq_true'] at hown
        exact DWU_cons hisp (loc_or (OpLoc_assign hg hop hdok hown.1) hown.2) (by rw [hd]; exact DWU_run n orc C A' h hC hK)
      · split at h
        case isFalse=>simp at h
        rename_i hrf
        split at h
        case h_2=>simp at h
        rename_i C1 v orc2 hst
        split at h
        case h_2=>simp at h
        rename_i C2 A2 hr
        have one:∀ {C':Prop},stX P A o.op=some (C',v)→C'→(ancOf ops sp i=true∧OpDet P N ops o A v)∨(sOk ops Sl o=true∧OpDetS P N ops Sl Hl o A v):=fun h1 h2=>by
          simp only [Bool.or_eq_true,Bool.and_eq_true] at hrf
          rcases hrf with q | q
          · exact .inl ⟨q.1,OpDet_stX hg h1 h2 hdok q.2⟩
          · exact .inr ⟨q.1,OpDetS_stX hg h1 h2 hdok q.2 q.1⟩
        split at h
        · rename_i ht
          simp only [Option.some.injEq,Prod.mk.injEq] at h
          obtain ⟨rfl,rfl⟩:=h
          obtain ⟨C',h1,h2⟩:=sY_ok hst (triv_ok ht hst)
          exact DWU_cons hisp (one h1 h2) (by rw [hd]; exact DWU_run n orc2 C2 A2 hr hC hK)
        simp only [Option.some.injEq,Prod.mk.injEq] at h
        obtain ⟨rfl,rfl⟩:=h
        obtain ⟨C',h1,h2⟩:=sY_ok hst hC.1
        exact DWU_cons hisp (one h1 h2) (by rw [hd]; exact DWU_run n orc2 C2 A2 hr hC.2 hK)
end
def goU {P:Program} (N:Nat) (ops:Array Oper) (sp:Nat) (Sl El Hl:List Nat):Sc P→Option (Nat×Nat×Nat→AS→AS)→Nat→List Oper→AS→(AS→Sc P→Option (Nat×Nat×Nat→AS→AS)→Prop)→Prop
  | s,u,_,[],A,K=>K A s u
  | .r n orc k,u,i,l,A,K=>match runU P N ops sp Sl Hl n i l orc A with
    | some (C,A')=>C∧goU N ops sp Sl El Hl k u (i+min n l.length) (l.drop n) A' K
    | none=>False
  | .ue z k,u,i,o :: l,A,K=>match i==sp,u,effU P N Sl El Hl o A z with
    | true,none,some (C,U)=>C∧goU N ops sp Sl El Hl k (some U) (i+1) l (A.put o.dst .dead) K
    | _,_,_=>False
  | s, u, i,o :: l,A,K=>match i==sp,ancOf ops sp i||sOk ops Sl o with
    | false,true=>match s with
      | .c c _ k=>match o.op,o.guard with
        | .call ⟨.value (.func f),xs,_⟩,none=>match f==c.f&&dOk N o.dst,c.H with
          | true,[]=>wkL (xs.toList.map A.cp) c.args=c.args∧c.pre∧goU N ops sp Sl El Hl k u (i+1) l (A.put o.dst c.res.er) K
          | _,_=>False
        | _,_=>False
      | .bd z k=>match o.op,o.guard with
        | .build T parts,none=>match T==z.T&&dOk N o.dst,z.v with
          | true,.agg zs=>match buildB P A T zs parts.toList with
            | some v=>goU N ops sp Sl El Hl k u (i+1) l (A.put o.dst v) K
            | none=>False
          | _,_=>False
        | _,_=>False
      | .bs k =>match o.op,o.guard with
        | .buildSlice T len parts,none=>match tD P T with
          | some (.sl e)=>match ti P e,partsV A 0 parts.toList with
            | some t,some vs=>match bsB P T e len t vs&&dOk N o.dst with
              | true=>goU N ops sp Sl El Hl k u (i+1) l (A.put o.dst (.sl true vs)) K
              | false=>False
            | _,_=>False
          | _=>False
        | _,_=>False
      | _=>False
    | _,_=>False
section
variable {P:Program} {N:Nat} {ops:Array Oper} {A A' A1 B:AS} {sp:Nat} {Sl El Hl:List Nat}
theorem callLoc {d:Option Nat} {xs:Array Operand} {tys:Array TypeId} {ty:TypeId} {pos:String} {after:Array Edge} (c:Con P) (hd:dstOk N d) (hH:c.H=[]) (k1:wkL (xs.toList.map A.cp) c.args=c.args) (k2:c.pre):
    OpLoc P N ops ⟨d,.call { callee:=.value (.func c.f),args:=xs,argTypes:=tys },ty,pos,after,none⟩ A c.res.er:=by
  have hc:=c.ok k2
  rw [hH] at hc
  have hp:=hc.toPC
  refine OpLoc_call (Q:=fun r=>r=c.res) hd ?_ (fun r hr=>by rw [hr])
  refine ⟨hp.1,fun w Pb cargs q1 q2=>?_⟩
  refine (hp.2 w Pb cargs q1 (by have:=RVs_wk _ c.args q2; rw [k1] at this; exact this)).mono ?_
  rintro e w' ⟨r,x,F,Pb',rfl,⟨H,q,_⟩,rest⟩
  exact ⟨r,x,F,Pb',rfl,q,rest⟩
theorem goU_ok:∀ (s:Sc P) {u:Option (Nat×Nat×Nat→AS→AS)} {i:Nat} {l:List Oper} {A:AS} {K:AS→Sc P→Option (Nat×Nat×Nat→AS→AS)→Prop} {d:Nat},
    goU N ops sp Sl El Hl s u i l A K→(∀ o,l[sp - i]? =some o→i≤sp→o.dst=some d)→(u=none→i≤sp∧sp < i+l.length)→(∀ U,u=some U→sp < i∧UOk U Sl Hl d)→
    ∃ U,UOk U Sl Hl d∧(∀ U',u=some U'→U'=U)∧DWU P N ops sp Sl El Hl U i l A fun B=> ∃ s',K B s' (some U):=by
  intro s
  have emp:∀ {s:Sc P} {u:Option (Nat×Nat×Nat→AS→AS)} {i:Nat} {A:AS} {K:AS→Sc P→Option (Nat×Nat×Nat→AS→AS)→Prop} {d:Nat},K A s u→(u=none→i≤sp∧sp < i+([]:List Oper).length)→(∀ U,u=some U→sp < i∧UOk U Sl Hl d)→
      ∃ U,UOk U Sl Hl d∧(∀ U',u=some U'→U'=U)∧DWU P N ops sp Sl El Hl U i [] A fun B=> ∃ s',K B s' (some U):=by
    intro s u i A K d h h1 h2
    cases u with
    | none=>have:=h1 rfl; simp at this; omega
    | some U=>exact ⟨U,(h2 U rfl).2,fun U' e=>by simpa using e.symm,DWU_nil ⟨s,h⟩⟩
  have step:∀ {u:Option (Nat×Nat×Nat→AS→AS)} {i:Nat} {o:Oper} {l:List Oper} {A:AS} {v:V} {K:AS→Sc P→Option (Nat×Nat×Nat→AS→AS)→Prop} {d:Nat},i≠sp→(ancOf ops sp i||sOk ops Sl o)=true→OpLoc P N ops o A v→
      (∃ U,UOk U Sl Hl d∧(∀ U',u=some U'→U'=U)∧DWU P N ops sp Sl El Hl U (i+1) l (A.put o.dst v) fun B=> ∃ s',K B s' (some U))→
      ∃ U,UOk U Sl Hl d∧(∀ U',u=some U'→U'=U)∧DWU P N ops sp Sl El Hl U i (o :: l) A fun B=> ∃ s',K B s' (some U):=by
    rintro u i o l A v K d hi ha hl ⟨U,h1,h2,h3⟩
    exact ⟨U,h1,h2,DWU_cons hi (loc_or hl ha) h3⟩
  have sh:∀ {u:Option (Nat×Nat×Nat→AS→AS)} {i:Nat} {o:Oper} {l:List Oper} {d:Nat},i≠sp→(∀ o',(o :: l)[sp - i]? =some o'→i≤sp→o'.dst=some d)→(u=none→i≤sp∧sp < i+(o :: l).length)→(∀ U,u=some U→sp < i∧UOk U Sl Hl d)→
      (∀ o',l[sp - (i+1)]? =some o'→i+1≤sp→o'.dst=some d)∧(u=none→i+1≤sp∧sp < i+1+l.length)∧(∀ U,u=some U→sp < i+1∧UOk U Sl Hl d):=by
    intro u i o l d hi h1 h2 h3
    refine ⟨fun o' ho' hle=>h1 o' ?_ (by omega),fun hu=>?_,fun U hU=>⟨by have:=(h3 U hU).1; omega,(h3 U hU).2⟩⟩
    · rw [show sp - i=(sp - (i+1))+1 from by omega]; simpa using ho'
    · have:=h2 hu; simp only [List.length_cons] at this; omega
  induction s with
  | r n orc k ih=>
    intro u i l A K d h h1 h2 h3
    cases l with
    | nil=>exact emp h h2 h3
    | cons o l=>
      simp only [goU] at h
      split at h
      · rename_i C A' e
        have hrun:∀ (n:Nat) (i:Nat) (l:List Oper) (orc:List V) (A:AS) (C:Prop) (A':AS),runU P N ops sp Sl Hl n i l orc A=some (C,A')→i≤sp→sp < i+l.length→i+min n l.length≤sp:=by
          intro n
          induction n with
          | zero=>intro i l orc A C A' _ h _; simpa using h
          | succ n ihn=>
            intro i l orc A C A' e hle hlt
            cases l with
            | nil=>simp at hlt; omega
            | cons o l=>
              rw [List.length_cons,Nat.succ_min_succ]
              have hne:i≠sp:=by
                rintro rfl
                unfold runU at e
                simp at e
              unfold runU at e
              have hgo:∃ orc2 A2 C2 A3,runU P N ops sp Sl Hl n (i+1) l orc2 A2=some (C2,A3):=by
                (repeat' split at e) <;> first | (simp at e; done) | exact ⟨_,_,_,_,by assumption⟩
              obtain ⟨orc2,A2,C2,A3,e2⟩:=hgo
              have:=ihn (i+1) l orc2 A2 C2 A3 e2 (by omega) (by simp only [List.length_cons] at hlt; omega)
              omega
        have a1:∀ o',((o :: l).drop n)[sp - (i+min n (o :: l).length)]? =some o'→i+min n (o :: l).length≤sp→o'.dst=some d:=fun o' ho' hle=>by
          rcases Nat.le_total n (o :: l).length with hn | hn
          · rw [Nat.min_eq_left hn] at ho' hle
            rw [List.getElem?_drop] at ho'
            exact h1 o' (by rw [show sp - i=n+(sp - (i+n)) from by omega]; exact ho') (by omega)
          · rw [List.drop_eq_nil_of_le hn] at ho'; simp at ho'
        have a2:u=none→i+min n (o :: l).length≤sp∧sp < i+min n (o :: l).length+((o :: l).drop n).length:=fun hu=>by
          have hb:=h2 hu
          have:=hrun n i (o :: l) orc A C A' e hb.1 hb.2
          refine ⟨this,?_⟩
          rw [List.length_drop]; omega
        obtain ⟨U,q1,q2,q3⟩:=ih (d:=d) h.2 a1 a2 (fun U hU=>⟨by have:=(h3 U hU).1; omega,(h3 U hU).2⟩)
        exact ⟨U,q1,q2,DWU_run n orc C A' e h.1 q3⟩
      · exact h.elim
  | ue z k ih=>
    intro u i l A K d h h1 h2 h3
    cases l with
    | nil=>exact emp h h2 h3
    | cons o l=>
      simp only [goU] at h
      split at h
      · rename_i C U e1 e2
        have hi:i=sp:=by simpa using e1
        subst hi
        have hdst:o.dst=some d:=h1 o (by simp) (Nat.le_refl _)
        obtain ⟨hU,hE⟩:=effU_ok (ops:=ops) e2 h.1 d hdst
        obtain ⟨U',q1,q2,q3⟩:=ih (d:=d) h.2 (fun o' _ hle=>by omega) (fun hu=>by simp at hu) (fun U0 hU0=>by simp only [Option.some.injEq] at hU0; subst hU0; exact ⟨by omega,hU⟩)
        have:=q2 U rfl
        subst this
        exact ⟨U,q1,fun _ hu=>by simp at hu,DWU_eff hE q3⟩
      · exact h.elim
  | c c ks k ih=>
    intro u i l A K d h h1 h2 h3
    cases l with
    | nil=>exact emp h h2 h3
    | cons o l=>
      obtain ⟨dst,op,ty,pos,after,gd0⟩:=o
      simp only [goU] at h
      split at h
      · rename_i e1 e2
        have hi:i≠sp:=by simpa using e1
        obtain ⟨s1,s2,s3⟩:=sh hi h1 h2 h3
        split at h
        · split at h
          · rename_i e3 e4
            rw [Bool.and_eq_true,beq_iff_eq] at e3
            obtain ⟨rfl,e3⟩:=e3
            exact step hi e2 (callLoc c (dOk_of e3) e4 h.1 h.2.1) (ih h.2.2 s1 s2 s3)
          · exact h.elim
        · exact h.elim
      · exact h.elim
  | bd z k ih =>
    intro u i l A K d h h1 h2 h3
    cases l with
    | nil=>exact emp h h2 h3
    | cons o l=>
      obtain ⟨dst,op,ty,pos,after,gd0⟩:=o
      simp only [goU] at h
      split at h
      · rename_i e1 e2
        have hi:i≠sp:=by simpa using e1
        obtain ⟨s1,s2,s3⟩:=sh hi h1 h2 h3
        split at h
        · split at h
          · rename_i zs e3 e4
            split at h
            · rename_i v e5
              rw [Bool.and_eq_true,beq_iff_eq] at e3
              obtain ⟨rfl,e3⟩:=e3
              have hz:=z.ok
              rw [e4] at hz
              exact step hi e2 (OpLoc_build zs v hz (dOk_of e3) e5) (ih h s1 s2 s3)
            · exact h.elim
          · exact h.elim
        · exact h.elim
      · exact h.elim
  | bs k ih =>
    intro u i l A K d h h1 h2 h3
    cases l with
    | nil=>exact emp h h2 h3
    | cons o l=>
      obtain ⟨dst,op,ty,pos,after,gd0⟩:=o
      simp only [goU] at h
      split at h
      · rename_i e1 e2
        have hi:i≠sp:=by simpa using e1
        obtain ⟨s1,s2,s3⟩:=sh hi h1 h2 h3
        split at h
        · split at h
          · rename_i e e3
            split at h
            · rename_i t vs e4 e5
              split at h
              · rename_i e6
                rw [Bool.and_eq_true] at e6
                exact step hi e2 (OpLoc_buildSlice e t vs ⟨e3,e4⟩ (dOk_of e6.2) e5 e6.1) (ih h s1 s2 s3)
              · exact h.elim
            · exact h.elim
          · exact h.elim
        · exact h.elim
      · exact h.elim
  | _=>
    intro u i l A K d h h1 h2 h3
    cases l with
    | nil=>exact emp h h2 h3
    | cons o l=>simp only [goU] at h; split at h <;> exact h.elim
end
end Go.Abs
namespace Go.Abs
open Go Go.RowKit
def rootX (El:List Nat) (fr:Option (List Nat)) (A:AS):Op→Bool
  | .load _ x=>match A.ev x with
    | .ptr (.slot i) _ _ _=>El.contains i
    | .ptr (.key k) _ _ _=>match fr with
      | none=>true
      | some l=>l.contains k
    | _=>true
  | _=>true
def ownsT (A:AS):List Operand→List Nat
  | []=>[]
  | x :: xs=>match x with
    | .tmp t=>match (A.get t).owns with
      | true=>t :: ownsT (A.drop x) xs
      | false=>ownsT (A.drop x) xs
    | _=>ownsT (A.drop x) xs
def killL (ts:List Nat) (A:AS):AS:=⟨ts.map (fun t=>(t,V.dead))++A.t,A.h⟩
def sub (a b:List Nat):Bool:=a.all fun x=>b.contains x
def valE (ops:Array Oper) (tb:List (Nat×Ent)) {P:Program} (zs:List (Nat×ZT P)) (i:Nat) (o:Oper):Bool:=
  (lk i zs).isNone&&!(entOf ops tb i).eff&&(entOf ops tb i).Sl==o.dst.toList&&(entOf ops tb i).Hl==[]
def runX (P : Program) (N:Nat) (ops:Array Oper) (tb:List (Nat×Ent)) (zs:List (Nat×ZT P)):Nat→List Nat→List V→AS→Option (Prop×AS)
  | 0,_,_,A=>some (True,A)
  | _+1,[],_,A=>some (True,A)
  | n + 1, i :: rest,orc,A=>
    match ops[i]? with
    | none=>none
    | some o => match valE ops tb zs i o with
      | false=>none
      | true => match o.dst with
        | none=>none
        | some d=>if d < N then
          match o.guard with
          | some (j,b)=>match gdV A ops j b with
            | some G=>match AS.un G (unOps o.op) A with
              | (C0,B)=>match sY P B o.op orc with
                | some (C,v,orc)=>if (okT N (unOps o.op)&&!v.isGv&&rootX (entOf ops tb i).El (entOf ops tb i).fr B o.op)=true then match runX P N ops tb zs n rest orc (A.put (some d) (.gv G v)) with
                  | some (C',A')=>some ((G=true→C0∧C)∧C',A')
                  | none=>none else none
                | none=>none
            | none=>none
          | none=>match o.op with
            | .assign x=>if (A.ev x).owns=false then runX P N ops tb zs n rest orc (A.put (some d) (A.ev x)) else none
            | op=>if rootX (entOf ops tb i).El (entOf ops tb i).fr A op=true then match sY P A op orc with
              | some (C,v,orc)=>match runX P N ops tb zs n rest orc (A.put (some d) v) with
                | some (C',A')=>if triv op=true then some (C',A') else some (C∧C',A')
                | none=>none
              | none=>none else none
          else none
def callU (d:Option Nat) (ts:List Nat) (ks:List (Nat×Nat)) (r:V) (H:List (Nat×(Nat×V))) (A:AS):AS:=((killL ts A).back ks H).put d r
def goX {P:Program} (N:Nat) (ops:Array Oper) (tb:List (Nat×Ent)) (zs:List (Nat×ZT P)):Sc P→List Nat→AS→(AS→Sc P→Prop)→Prop
  | s,[],A,K=>K A s
  | .r n orc k,l,A,K=>match runX P N ops tb zs n l orc A with
    | some (C,A')=>C∧goX N ops tb zs k (l.drop n) A' K
    | none=>False
  | .h x k,i :: l,A,K=>match x with
    | .eqt t v=>A.get t=v∧goX N ops tb zs k (i :: l) (A.put (some t) v) K
    | .eqh q v=>match lk q A.h with
      | some (g,u)=>u=v∧goX N ops tb zs k (i :: l) ⟨A.t,(q,(g,v)) :: A.h⟩ K
      | none=>False
    | _=>False
  | .ua k,i :: l,A,K=>match ops[i]?,lk i zs with
    | some o,some z=> ∀ g,goX N ops tb zs (k g) l (alU (o.dst.getD 0) z.v g A) K
    | _,_=>False
  | s, i :: l, A, K =>match ops[i]?,lk i zs with
    | none,_=>False
    | _,some _=>False
    | some o, none=>match o.guard with
      | some _=>False
      | none => match (entOf ops tb i).eff with
        | false =>match valE ops tb zs i o with
          | true => match s with
            | .c c _ k=>match o.op with
              | .call ⟨.value (.func f),xs,_⟩=>match f==c.f&&dOk N o.dst,c.H with
                | true,[]=>wkL (xs.toList.map A.cp) c.args=c.args∧c.pre∧goX N ops tb zs k l (A.put o.dst c.res.er) K
                | _,_=>False
              | _=>False
            | .bd z k=>match o.op with
              | .build T parts=>match T==z.T&&dOk N o.dst,z.v with
                | true,.agg us=>match buildB P A T us parts.toList with
                  | some v=>goX N ops tb zs k l (A.put o.dst v) K
                  | none=>False
                | _,_=>False
              | _=>False
            | .bs k =>match o.op with
              | .buildSlice T len parts=>match tD P T with
                | some (.sl e)=>match ti P e,partsV A 0 parts.toList with
                  | some t,some vs=>match bsB P T e len t vs&&dOk N o.dst with
                    | true=>goX N ops tb zs k l (A.put o.dst (.sl true vs)) K
                    | false=>False
                  | _,_=>False
                | _=>False
              | _=>False
            | .mm k=>match o.op with
              | .call ⟨.builtin b,⟨[x,y]⟩,_⟩=>match A.ev x,A.ev y,dOk N o.dst,b with
                | .lit (.int kd p),.lit (.int kd' q),true,.max=>kd'=kd∧goX N ops tb zs k l (A.put o.dst (.lit (.int kd (max p q)))) K
                | .lit (.int kd p),.lit (.int kd' q),true,.min=>kd'=kd∧goX N ops tb zs k l (A.put o.dst (.lit (.int kd (min p q)))) K
                | _,_,_,_=>False
              | _=>False
            | .by_ bs k=>match o.op with
              | .convert src dst x=>match isU8 P src&&isStr P dst&&dOk N o.dst,A.ev x with
                | true,.sl _ ys=>ys=bs.map u8V∧goX N ops tb zs k l (A.put o.dst (sV bs)) K
                | _,_=>False
              | _=>False
            | _=>False
          | false=>False
        | true => match s with
          | .ux z k=>match effU P N (entOf ops tb i).Sl (entOf ops tb i).El (entOf ops tb i).Hl o A z,(entOf ops tb i).fr with
            | some (C,U),none=>C∧∀ g o1 c,goX N ops tb zs (k g o1 c) l (U (g,o1,c) A) K
            | _,_=>False
          | .eu c k=>match (entOf ops tb i).fr with
            | none=>c.pre N o A (entOf ops tb i).Sl (entOf ops tb i).Hl∧∀ x,goX N ops tb zs (k x) l (c.U o A x A) K
            | some _=>False
          | .c c ks k=>match o.op with
            | .call ⟨.value fx,xs,_⟩=>match A.ev fx,A.tk xs.toList,(entOf ops tb i).fr with
              | .lit (.func (.func f) first caps),(vs,_),some fl=>
                match f==c.f&&dOk N o.dst&&ndk (ks.map (·.1))&&ndk (ks.map (·.2))&&c.args.length==(first.toList.map cV++vs++caps.toList.map cV).length&&
                  sub (ownsT A xs.toList) (entOf ops tb i).Sl&&sub o.dst.toList (entOf ops tb i).Sl&&sub (ks.map (·.2)) (entOf ops tb i).Hl&&sub (ks.map (·.2)) fl with
                | true=>wkL (first.toList.map cV++vs++caps.toList.map cV) c.args=c.args∧rootsOk A ks c.H∧c.pre∧goX N ops tb zs k l (callU o.dst (ownsT A xs.toList) ks (c.res.ren (renOf ks)) c.H' A) K
                | false=>False
              | _,_,_=>False
            | _=>False
          | .cx c ks k=>match o.op with
            | .call ⟨.value fx,xs,_⟩=>match A.ev fx,A.tk xs.toList,(entOf ops tb i).fr with
              | .lit (.func (.func f) first caps),(vs,_),some fl=>
                match f==c.f&&dOk N o.dst&&ndk (ks.map (·.1))&&ndk (ks.map (·.2))&&c.args.length==(first.toList.map cV++vs++caps.toList.map cV).length&&
                  sub (ownsT A xs.toList) (entOf ops tb i).Sl&&sub o.dst.toList (entOf ops tb i).Sl&&sub (ks.map (·.2)) (entOf ops tb i).Hl&&sub (ks.map (·.2)) fl with
                | true=>wkL (first.toList.map cV++vs++caps.toList.map cV) c.args=c.args∧rootsOk A ks c.H∧c.pre∧∀ x,c.post x→goX N ops tb zs (k x) l (callU o.dst (ownsT A xs.toList) ks ((c.res x).ren (renOf ks)) (c.H' x) A) K
                | false=>False
              | _,_,_=>False
            | _=>False
          | _=>False
section
variable {P:Program} {N:Nat} {ops:Array Oper} {A A' A1 B:AS} {tb:List (Nat×Ent)} {zs:List (Nat×ZT P)}
theorem get_killL {ts:List Nat} {t:Nat}:(killL ts A).get t=if t∈ts then .dead else A.get t:=by
  induction ts with
  | nil=>simp [killL]
  | cons a ts ih=>
    simp only [killL,AS.get,List.map_cons,List.cons_append,lk] at ih ⊢
    by_cases e:t=a
    · rw [if_pos e,if_pos (by simp [e])]; rfl
    · rw [if_neg e,ih]
      by_cases e2:t∈ts
      · rw [if_pos e2,if_pos (by simp [e2])]
      · rw [if_neg e2,if_neg (by simp [e,e2])]
theorem tk_killL:∀ (xs:List Operand) {A:AS},AEq (A.tk xs).2 (killL (ownsT A xs) A)
  | [],A=>⟨fun _=>rfl,fun _=>rfl⟩
  | x :: xs,A=>by
    have ih:=tk_killL xs (A:=A.drop x)
    simp only [AS.tk]
    have e:(match (A.drop x).tk xs with | (vs,B)=>((unT (A.ev x) :: vs,B):List V×AS)).2=((A.drop x).tk xs).2:=rfl
    rw [e]
    have hh:(A.drop x).h=A.h:=by
      cases x with
      | tmp t=>simp only [AS.drop]; split <;> rfl
      | _=>rfl
    refine ⟨fun q=>?_,fun k=>by rw [ih.2 k]; simp only [killL,hh]⟩
    rw [ih.1 q,get_killL,get_killL]
    cases x with
    | tmp t=>
      cases ho:(A.get t).owns with
      | true=>
        have ed:A.drop (.tmp t)=A.put (some t) .dead:=by simp [AS.drop,ho]
        have eo:ownsT A (.tmp t :: xs)=t :: ownsT (A.drop (.tmp t)) xs:=by simp only [ownsT,ho]
        simp only [eo,ed,List.mem_cons]
        by_cases c:q=t
        · subst c
          simp only [true_or,if_true]
          split
          · rfl
          · rw [AS.get_put,if_pos rfl]
        · by_cases c2:q∈ownsT (A.put (some t) .dead) xs
          · rw [if_pos c2,if_pos (.inr c2)]
          · rw [if_neg c2,if_neg (by simp [c,c2]),AS.get_put,if_neg c]
      | false=>
        have ed:A.drop (.tmp t)=A:=by simp [AS.drop,ho]
        have eo:ownsT A (.tmp t :: xs)=ownsT (A.drop (.tmp t)) xs:=by simp only [ownsT,ho]
        simp only [eo,ed]
    | _=>rfl
theorem drop_congr {x:Operand} (h:∀ t,x=.tmp t→A'.get t=A.get t) {q:Nat} (hq:A'.get q=A.get q):(A'.drop x).get q=(A.drop x).get q:=by
  cases x with
  | tmp t=>
    simp only [AS.drop,h t rfl]
    split
    · rw [AS.get_put,AS.get_put]; split
      · rfl
      · exact hq
    · exact hq
  | _=>exact hq
theorem tk_congr:∀ (xs:List Operand) {A A':AS},(∀ t,Operand.tmp t∈xs→A'.get t=A.get t)→(A'.tk xs).1=(A.tk xs).1∧ownsT A' xs=ownsT A xs
  | [],A,A',_=>⟨rfl,rfl⟩
  | x :: xs,A,A',h=>by
    have hx:∀ t,x=.tmp t→A'.get t=A.get t:=fun t e=>h t (by simp [e])
    have ih:=tk_congr xs (A:=A.drop x) (A':=A'.drop x) fun t ht=>drop_congr hx (h t (by simp [ht]))
    refine ⟨?_,?_⟩
    · show unT (A'.ev x) :: ((A'.drop x).tk xs).1=unT (A.ev x) :: ((A.drop x).tk xs).1
      rw [ih.1,ev_congr (x:=x) hx]
    · cases x with
      | tmp t=>simp only [ownsT,hx t rfl,ih.2]
      | _=>simp only [ownsT]; exact ih.2
theorem back_get {ks:List (Nat×Nat)} {H:List (Nat×(Nat×V))} {t:Nat}:(A.back ks H).get t=A.get t:=rfl
theorem back_lk {ks:List (Nat×Nat)} {H:List (Nat×(Nat×V))} {k:Nat} (hn:ndk (ks.map (·.2))=true) (hk:k ∉ ks.map (·.2)):lk k (A.back ks H).h=lk k A.h:=by
  have hs:lk k (swp ks)=none:=lk_none_of (by simpa [swp,List.map_map,Function.comp_def] using hk)
  simp only [AS.back]
  rw [lk_app',lk_news hn,hs]
  simp only [Option.bind_none]
  rw [lk_delR,hs]; rfl
theorem back_congr {ks:List (Nat×Nat)} {H:List (Nat×(Nat×V))} (h:∀ k,lk k A.h=lk k B.h) (k:Nat):lk k (A.back ks H).h=lk k (B.back ks H).h:=by
  simp only [AS.back]
  rw [lk_app',lk_app',lk_delR,lk_delR,h]
theorem lk_snd {ks:List (Nat×Nat)} {k q:Nat} (h:lk k ks=some q):q∈ks.map (·.2):=List.mem_map.2 ⟨_,lk_mem h,rfl⟩
theorem sub_of {a b:List Nat} (h:sub a b=true):∀ x,x∈a→x∈b:=fun x hx=>by
  unfold sub at h; rw [List.all_eq_true] at h; simpa using h x hx
theorem rootsOk_congr {ks:List (Nat×Nat)} (h:∀ k,k∈ks.map (·.2)→lk k B.h=lk k A.h):∀ {H:List (Nat×(Nat×V))},rootsOk A ks H→rootsOk B ks H
  | [],_=>trivial
  | (k,(g,v)) :: H,hr=>by
    refine ⟨?_,rootsOk_congr h hr.2⟩
    have:=hr.1
    split at this
    · rename_i q e
      rw [h q (lk_snd e)]; exact this
    · exact this.elim
theorem get_callU {d:Option Nat} {ts:List Nat} {ks:List (Nat×Nat)} {r:V} {H:List (Nat×(Nat×V))} {t:Nat}:(callU d ts ks r H A).get t=if d=some t then r else if t∈ts then .dead else A.get t:=by
  unfold callU
  cases d with
  | none=>rw [if_neg (by simp)]; exact get_killL
  | some d=>
    rw [AS.get_put,back_get,get_killL]
    by_cases e:t=d
    · subst e; rw [if_pos rfl,if_pos rfl]
    · have e2: ¬ (some d=some t):=fun c=>e (by simpa using c.symm)
      rw [if_neg e,if_neg e2]
theorem lk_callU {d:Option Nat} {ts:List Nat} {ks:List (Nat×Nat)} {r:V} {H:List (Nat×(Nat×V))}:(callU d ts ks r H A).h=(A.back ks H).h:=by
  unfold callU; rw [put_h]; rfl
theorem callU_ok {G:Type} {d:Option Nat} {ts:List Nat} {ks:List (Nat×Nat)} {r:G→V} {H:G→List (Nat×(Nat×V))} {fs Sl Hl:List Nat} (hn:ndk (ks.map (·.2))=true)
    (h1:sub ts Sl=true) (h2:sub d.toList Sl=true) (h3:sub (ks.map (·.2)) Hl=true):UOkX (fun g B=>callU d ts ks (r g) (H g) B) fs Sl Hl:=by
  have sb:∀ {a b:List Nat},sub a b=true→∀ x,x∈a→x∈b:=fun h x hx=>by
    unfold sub at h; rw [List.all_eq_true] at h; simpa using h x hx
  have h1:=sb h1; have h2:=sb h2; have h3:=sb h3
  refine ⟨fun g B t ht=>?_,fun g B k hk=>?_,fun g B B' hB=>⟨fun t=>?_,fun k=>?_⟩,fun g B t v ht _=>⟨fun q=>?_,fun k=>?_⟩,fun g B k gv hk=>⟨fun t=>?_,fun x=>?_⟩⟩
  · rw [get_callU,if_neg (fun c=>ht (h2 t (by rw [c]; simp))),if_neg (fun c=>ht (h1 t c))]
  · rw [lk_callU]; exact back_lk hn (fun c=>hk (h3 k c))
  · rw [get_callU,get_callU,hB.1 t]
  · rw [lk_callU,lk_callU]; exact back_congr hB.2 k
  · rw [get_callU,AS.get_put,AS.get_put,get_callU]
    by_cases c:q=t
    · subst c; rw [if_pos rfl,if_pos rfl,if_neg (fun c=>ht (h2 q (by rw [c]; simp))),if_neg (fun c=>ht (h1 q c))]
    · rw [if_neg c,if_neg c]
  · rw [lk_callU]; show _=lk k (callU d ts ks (r g) (H g) B).h; rw [lk_callU]; rfl
  · show (callU d ts ks (r g) (H g) _).get t=(callU d ts ks (r g) (H g) B).get t
    rw [get_callU,get_callU]; rfl
  · rw [lk_callU,lk_callU]
    have hs:lk k (swp ks)=none:=lk_none_of (by simpa [swp,List.map_map,Function.comp_def] using fun c=>hk (h3 k c))
    simp only [AS.back]
    rw [lk_app',lk_delR]
    simp only [lk]
    by_cases c:x=k
    · subst c
      rw [if_pos rfl,if_pos rfl,lk_news hn,hs]; rfl
    · rw [if_neg c,if_neg c,lk_app',lk_delR]
theorem fs_op {i:Nat} {o:Oper} {t:Nat} (ho:ops[i]? =some o) (h:Operand.tmp t∈o.op.operands.toList):t∈fsOf ops tb i:=by
  unfold fsOf; rw [ho,List.mem_append]; exact .inl (looks_op h)
theorem fs_lk {i:Nat} {o:Oper} {t:Nat} (ho:ops[i]? =some o) (h:t∈o.looksAt ops):t∈fsOf ops tb i:=by
  unfold fsOf; rw [ho,List.mem_append]; exact .inl h
theorem fs_El {i:Nat} {t:Nat} (h:t∈(entOf ops tb i).El):t∈fsOf ops tb i:=by
  unfold fsOf; rw [List.mem_append]; exact .inr h
theorem EOk_call {i:Nat} {d:Option Nat} {fx:Operand} {xs:Array Operand} {tys:Array TypeId} {ty:TypeId} {pos:String} {after:Array Edge} {f:FuncId} {first caps:Array Value} {args:List V} {H:List (Nat×(Nat×V))} {ks:List (Nat×Nat)}
    {G:Type} {res:G→V} {H':G→List (Nat×(Nat×V))}
    (ho:ops[i]? =some ⟨d,.call ⟨.value fx,xs,tys⟩,ty,pos,after,none⟩) (hfx:A.ev fx=.lit (.func (.func f) first caps)) (hd:dstOk N d) (hk1:ndk (ks.map (·.1))=true) (hk2:ndk (ks.map (·.2))=true)
    (hc:PF P f args H (fun r h=> ∃ g,r=res g∧h=H' g)) (hargs:wkL (first.toList.map cV++(A.tk xs.toList).1++caps.toList.map cV) args=args) (hlen:args.length=(first.toList.map cV++(A.tk xs.toList).1++caps.toList.map cV).length)
    (hr:rootsOk A ks H) {fl:List Nat} (hfl:sub (ks.map (·.2)) fl=true):EOk P N ⟨d,.call ⟨.value fx,xs,tys⟩,ty,pos,after,none⟩ A (fun g B=>callU d (ownsT A xs.toList) ks ((res g).ren (renOf ks)) (H' g) B) (fsOf ops tb i) (some fl):=by
  refine ⟨rfl,fun A' h1 h2=>?_⟩
  have hev:A'.ev fx=A.ev fx:=ev_congr fun t ht=>h1 t (fs_op ho (by subst ht; simp [Op.operands,Call.operands]))
  obtain ⟨t1,t2⟩:=tk_congr xs.toList (A:=A) (A':=A') fun t ht=>h1 t (fs_op ho (by simp only [Op.operands,Call.operands]; simp; right; simpa using ht))
  have hte:=tk_killL xs.toList (A:=A')
  refine opT_callF (A:=A') ks rfl (by rw [hev]; exact hfx) hd hk1 hk2 hc (by rw [t1]; exact hargs) (by rw [t1]; exact hlen) (rootsOk_congr (fun k hk=>(hte.2 k).trans (h2 k (sub_of hfl k hk))) hr) ?_
  rintro r H0 ⟨g,rfl,rfl⟩
  refine ⟨g,?_⟩
  unfold callU
  rw [← t2]
  exact putO ⟨fun t=>hte.1 t,fun k=>back_congr hte.2 k⟩
theorem stX_congrX {El:List Nat} {fr:Option (List Nat)} {op:Op} (h:∀ t,Operand.tmp t∈op.operands.toList→A'.get t=A.get t) (hk:agR A' A fr) (hr:∀ i,i∈El→A'.get i=A.get i)
    (hf:rootX El fr A op=true):stX P A' op=stX P A op:=by
  cases op with
  | move x=>simp only [stX,stV,moveV,cp_congr (x:=x) fun t e=>h t (by simp [Op.operands,e]),ev_congr (x:=x) fun t e=>h t (by simp [Op.operands,e])]
  | pick c a b=>
    have h1:=ev_congr (x:=c) fun t e=>h t (by simp [Op.operands,e])
    have h2:=ev_congr (x:=a) fun t e=>h t (by simp [Op.operands,e])
    have h3:=ev_congr (x:=b) fun t e=>h t (by simp [Op.operands,e])
    simp only [stX,stV,pickV,h1,h2,h3]
  | binOp op T x y T'=>simp only [stX,stV,ev_congr (x:=x) fun t e=>h t (by simp [Op.operands,e]),ev_congr (x:=y) fun t e=>h t (by simp [Op.operands,e])]
  | unOp op T x=>simp only [stX,stV,ev_congr (x:=x) fun t e=>h t (by simp [Op.operands,e])]
  | convert s d x=>simp only [stX,stV,ev_congr (x:=x) fun t e=>h t (by simp [Op.operands,e])]
  | index T x y=>simp only [stX,stV,ev_congr (x:=x) fun t e=>h t (by simp [Op.operands,e]),ev_congr (x:=y) fun t e=>h t (by simp [Op.operands,e])]
  | slice T x lo hi m=>
    have h1:=ev_congr (x:=x) fun t e=>h t (by simp [Op.operands,e])
    have h2:=lmap_congr (x:=lo) fun t e=>h t (by simp [Op.operands,e])
    have h3:=lmap_congr (x:=hi) fun t e=>h t (by simp [Op.operands,e])
    cases m with
    | none=>simp only [stX,h1,h2,h3]
    | some m=>rfl
  | extract x i=>simp only [stX,stV,ev_congr (x:=x) fun t e=>h t (by simp [Op.operands,e])]
  | call c=>
    simp only [stX,stV,callV]
    split
    · split
      · rename_i x T hx _
        rw [ev_congr (x:=x) fun t e=>h t (by simp [Op.operands,Call.operands,hx,e])]
      · rfl
    · rfl
  | fieldAddr T x j=>simp only [stX,ev_congr (x:=x) fun t e=>h t (by simp [Op.operands,e])]
  | field T x j=>simp only [stX,cp_congr (x:=x) fun t e=>h t (by simp [Op.operands,e])]
  | indexAddr T x y=>simp only [stX,ev_congr (x:=x) fun t e=>h t (by simp [Op.operands,e]),ev_congr (x:=y) fun t e=>h t (by simp [Op.operands,e])]
  | load T x=>
    have h1:=ev_congr (x:=x) fun t e=>h t (by simp [Op.operands,e])
    simp only [stX,h1,loadV]
    split
    · split
      · rename_i r p g o e
        have:A'.at r p=A.at r p:=by
          unfold AS.at
          cases r with
          | key k=>
            have e2:lk k A'.h=lk k A.h:=by
              cases fr with
              | none=>exact hk k
              | some l=>
                simp only [rootX,e,List.contains_eq_mem,decide_eq_true_eq] at hf
                exact hk k hf
            simp only [e2]
          | slot i=>
            simp only [rootX,e,List.contains_eq_mem,decide_eq_true_eq] at hf
            simp only [hr i hf]
        rw [this]
      · rfl
      · rfl
    · rfl
  | nilCheck x=>simp only [stX,ev_congr (x:=x) fun t e=>h t (by simp [Op.operands,e])]
  | makeInterface T x=>simp only [stX,cp_congr (x:=x) fun t e=>h t (by simp [Op.operands,e])]
  | typeAssert x xT T b=>
    cases b with
    | true=>simp only [stX,ev_congr (x:=x) fun t e=>h t (by simp [Op.operands,e])]
    | false=>rfl
  | makeFunc fn p q=>
    have e1:p.toList.map A'.ev=p.toList.map A.ev:=List.map_congr_left fun x hx=>ev_congr fun t e=>h t (by subst e; simp only [Op.operands,Array.toList_append,List.mem_append]; exact .inl hx)
    have e2:q.toList.map A'.ev=q.toList.map A.ev:=List.map_congr_left fun x hx=>ev_congr fun t e=>h t (by subst e; simp only [Op.operands,Array.toList_append,List.mem_append]; exact .inr hx)
    simp only [stX,e1,e2]
  | _=>rfl
theorem VOk_loc {i:Nat} {o:Oper} {v:V} {fr:Option (List Nat)} (ho:ops[i]? =some o) (h:OpLoc P N ops o A v):VOk P N ops o A v (fsOf ops tb i) fr:=fun A' h1 _=>h A' fun t ht=>h1 t (fs_lk ho ht)
theorem VOk_stX {i:Nat} {o:Oper} {C:Prop} {v:V} {fr:Option (List Nat)} (ho:ops[i]? =some o) (hg:o.guard=none) (h:stX P A o.op=some (C,v)) (hC:C) (hd:dstOk N o.dst) (hf:rootX (entOf ops tb i).El fr A o.op=true):VOk P N ops o A v (fsOf ops tb i) fr:=by
  intro A' h1 hk
  unfold gd
  rw [hg]
  simp only
  refine opT_stX (C:=C) (v:=v) ?_ hC hd ⟨fun _=>rfl,fun _=>rfl⟩
  rw [stX_congrX (A:=A) (fun t ht=>h1 t (fs_op ho ht)) hk (fun i hi=>h1 i (fs_El hi)) hf]
  exact h
theorem VOk_guard {i:Nat} {o:Oper} {xs:List Operand} {j:Nat} {b G:Bool} {C:Prop} {B:AS} {v:V} {fr:Option (List Nat)} (ho:ops[i]? =some o) (hg:o.guard=some (j,b)) (hG:gdV A ops j b=some G) (hu:AS.un G xs A=(C,B))
    (hxs:∀ t,Operand.tmp t∈xs→Operand.tmp t∈o.op.operands.toList) (hok:okT N xs=true) (hd:dstOk N o.dst) (hf:rootX (entOf ops tb i).El fr B o.op=true) (hC:G=true→C∧v.isGv=false∧∃ C',stX P B o.op=some (C',v)∧C'):VOk P N ops o A (.gv G v) (fsOf ops tb i) fr:=by
  intro A' h1 hk
  have hG':gdV A' ops j b=some G:=by
    rw [← hG]
    unfold gdV
    cases hj:(ops[j]?).bind (·.dst) with
    | none=>rfl
    | some d=>
      simp only [Option.map_some]
      rw [h1 d (fs_lk ho (by unfold Oper.looksAt; rw [List.mem_append]; right; rw [hg]; simp [hj]))]
  obtain ⟨B',k1,k2,k3,k4⟩:=un_congr xs (A':=A') hu (fun t ht=>h1 t (fs_op ho (hxs t ht)))
  have hst':stX P B' o.op=stX P B o.op:=by
    refine stX_congrX (A:=B) (fun t ht=>k2 t (h1 t (fs_op ho ht))) ?_ (fun i hi=>k2 i (h1 i (fs_El hi))) hf
    cases fr with
    | none=>exact fun k=>by rw [k3,k4]; exact hk k
    | some l=>exact fun k hl=>by rw [k3,k4]; exact hk k hl
  refine gd_of hg hG' (fun hGt=>?_) (fun hGf=>⟨hd,fun _ _=>⟨rfl,(fun h=>by rw [hGf] at h; cases h),fun _=>rfl⟩⟩)
  obtain ⟨c1,c3,C',hst,c2⟩:=hC hGt
  rw [← hst'] at hst
  refine opT_value (v:=.gv G v) hd ⟨fun _=>rfl,fun _=>rfl⟩ fun Pb Kb a w F hs=>?_
  obtain ⟨F',hs'⟩:=un_sound hGt _ k1 c1 hs (okT_of hok)
  obtain ⟨x,hx,hr⟩:=stX_run hst c2 hs' rfl
  exact ⟨x,hx,rfl,fun _=>RV0_of hr c3,fun h=>by rw [hGt] at h; cases h⟩
theorem DWx_val {i:Nat} {o:Oper} {l:List Nat} {v:V} {K:AS→Prop} (ho:ops[i]? =some o) (hv:valE ops tb zs i o=true) (h:VOk P N ops o A v (fsOf ops tb i) (entOf ops tb i).fr) (hK:DWx P N ops tb zs l (A.put o.dst v) K):DWx P N ops tb zs (i :: l) A K:=by
  unfold valE at hv
  simp only [Bool.and_eq_true,Bool.not_eq_true',beq_iff_eq] at hv
  refine ⟨o,ho,?_⟩
  rw [show lk i zs=none from by simpa using hv.1.1.1]
  simp only
  rw [hv.1.1.2]
  exact ⟨hv.1.2,hv.2,v,h,hK⟩
theorem DWx_run {K:AS→Prop}:∀ (n:Nat) {l:List Nat} (orc:List V) {A:AS} (C:Prop) (A':AS),
    runX P N ops tb zs n l orc A=some (C,A')→C→DWx P N ops tb zs (l.drop n) A' K→DWx P N ops tb zs l A K
  | 0,l,orc,A,C,A',h,hC,hK=>by
    simp only [runX,Option.some.injEq,Prod.mk.injEq] at h; obtain ⟨_,rfl⟩:=h; simpa using hK
  | n+1,[],orc,A,C,A',h,hC,hK=>by
    simp only [runX,Option.some.injEq,Prod.mk.injEq] at h; obtain ⟨_,rfl⟩:=h; simpa using hK
  | n + 1,i :: l,orc,A,C,A',h,hC,hK=>by
    have hdrop:(i :: l).drop (n+1)=l.drop n:=rfl
    rw [hdrop] at hK
    unfold runX at h
    split at h
    · simp at h
    rename_i o ho
    split at h
    · simp at h
    rename_i hval
    split at h
    · simp at h
    rename_i d hd
    split at h
    case isFalse=>simp at h
    rename_i hdN
    have hdok:dstOk N o.dst:=by rw [hd]; exact hdN
    cases hg:o.guard with
    | some jb=>
      obtain ⟨j,b⟩:=jb
      rw [hg] at h
      simp only at h
      split at h
      case h_2=>simp at h
      rename_i G hG
      cases hu:AS.un G (unOps o.op) A with
      | mk C0 B=>
        rw [hu] at h
        simp only at h
        split at h
        case h_2=>simp at h
        rename_i C1 v orc2 hst
        split at h
        case isFalse=>simp at h
        rename_i hok
        simp only [Bool.and_eq_true,Bool.not_eq_true'] at hok
        split at h
        case h_2=>simp at h
        rename_i C2 A2 hr
        simp only [Option.some.injEq,Prod.mk.injEq] at h
        obtain ⟨rfl,rfl⟩:=h
        exact DWx_val ho hval (VOk_guard (v:=v) ho hg hG hu (unOps_sub _) hok.1.1 hdok hok.2 (fun hGt=>⟨(hC.1 hGt).1,hok.1.2,sY_ok hst (hC.1 hGt).2⟩)) (by rw [hd]; exact DWx_run n orc2 C2 A2 hr hC.2 hK)
    | none=>
      rw [hg] at h
      simp only at h
      split at h
      · rename_i x hop
        split at h
        case isFalse=>simp at h
        rename_i hown
        exact DWx_val ho hval (VOk_loc ho (OpLoc_assign hg hop hdok hown)) (by rw [hd]; exact DWx_run n orc C A' h hC hK)
      · split at h
        case isFalse=>simp at h
        rename_i hrf
        split at h
        case h_2=>simp at h
        rename_i C1 v orc2 hst
        split at h
        case h_2=>simp at h
        rename_i C2 A2 hr
        split at h
        · rename_i ht
          simp only [Option.some.injEq,Prod.mk.injEq] at h
          obtain ⟨rfl,rfl⟩:=h
          obtain ⟨C',h1,h2⟩:=sY_ok hst (triv_ok ht hst)
          exact DWx_val ho hval (VOk_stX ho hg h1 h2 hdok hrf) (by rw [hd]; exact DWx_run n orc2 C2 A2 hr hC hK)
        simp only [Option.some.injEq,Prod.mk.injEq] at h
        obtain ⟨rfl,rfl⟩:=h
        obtain ⟨C',h1,h2⟩:=sY_ok hst hC.1
        exact DWx_val ho hval (VOk_stX ho hg h1 h2 hdok hrf) (by rw [hd]; exact DWx_run n orc2 C2 A2 hr hC.2 hK)
theorem DWx_eff {i:Nat} {o:Oper} {l:List Nat} {K:AS→Prop} {G:Type} {U:G→AS→AS} (ho:ops[i]? =some o) (hz:lk i zs=none) (he:(entOf ops tb i).eff=true) (h1:EOk P N o A U (fsOf ops tb i) (entOf ops tb i).fr)
    (h2:UOkX U (fsOf ops tb i) (entOf ops tb i).Sl (entOf ops tb i).Hl) (hK:∀ g,DWx P N ops tb zs l (U g A) K):DWx P N ops tb zs (i :: l) A K:=by
  refine ⟨o,ho,?_⟩
  rw [hz]
  simp only
  rw [he]
  exact ⟨G,U,h1,h2,hK⟩
theorem OpLoc_mm {d:Option Nat} {x y:Operand} {tys:Array TypeId} {ty:TypeId} {pos:String} {after:Array Edge} {kd:IntKind} {p q r:Int} {b:Builtin} (hd:dstOk N d) (hx:A.ev x=.lit (.int kd p)) (hy:A.ev y=.lit (.int kd q)) (hb:(b=.max∧r=max p q)∨(b=.min∧r=min p q)):
    OpLoc P N ops ⟨d,.call ⟨.builtin b,⟨[x,y]⟩,tys⟩,ty,pos,after,none⟩ A (.lit (.int kd r)):=fun A' h1=>by
  show opT P N _ A' _
  have e1:A'.ev x=A.ev x:=ev_congr fun t ht=>h1 t (looks_op (by subst ht; simp [Op.operands,Call.operands]))
  have e2:A'.ev y=A.ev y:=ev_congr fun t ht=>h1 t (looks_op (by subst ht; simp [Op.operands,Call.operands]))
  exact opT_mm rfl hd (by rw [e1]; exact hx) (by rw [e2]; exact hy) hb ⟨fun _=>rfl,fun _=>rfl⟩
theorem goX_ok:∀ (s:Sc P) {l:List Nat} {A:AS} {K:AS→Sc P→Prop},goX N ops tb zs s l A K→DWx P N ops tb zs l A fun B=> ∃ B',AEq B B'∧∃ s',K B' s':=by
  intro s
  have cl:∀ {K:AS→Sc P→Prop} (A B:AS),AEq A B→(∃ B',AEq A B'∧∃ s',K B' s')→∃ B',AEq B B'∧∃ s',K B' s':=fun A B h ⟨B',h1,h2⟩=>⟨B',h.symm.trans h1,h2⟩
  induction s with
  | r n orc k ih=>
    intro l A K h
    cases l with
    | nil=>exact ⟨_,AEq.rfl',_,h⟩
    | cons i l=>
      simp only [goX] at h
      split at h
      · rename_i C A' e; exact DWx_run n orc C A' e h.1 (ih h.2)
      · exact h.elim
  | h x k ih=>
    intro l A K h
    cases l with
    | nil=>exact ⟨_,AEq.rfl',_,h⟩
    | cons i l=>
      simp only [goX] at h
      split at h
      · rename_i t v
        refine DWx_congr cl _ ?_ (ih h.2)
        refine ⟨fun q=>?_,fun _=>rfl⟩
        rw [AS.get_put]; split
        · rename_i e; subst e; exact h.1.symm
        · rfl
      · rename_i q v
        split at h
        · rename_i g u e
          obtain ⟨rfl,h⟩:=h
          refine DWx_congr cl _ ?_ (ih h)
          refine ⟨fun _=>rfl,fun k=>?_⟩
          simp only [lk]; split
          · rename_i e2; subst e2; exact e.symm
          · rfl
        · exact h.elim
      · exact h.elim
  | ux z k ih=>
    intro l A K h
    cases l with
    | nil=>exact ⟨_,AEq.rfl',_,h⟩
    | cons i l=>
      simp only [goX] at h
      split at h
      · exact h.elim
      · exact h.elim
      rename_i o ho hz
      split at h
      · exact h.elim
      rename_i hg
      split at h
      · split at h <;> exact h.elim
      rename_i he
      split at h
      · rename_i C U e1 e2
        obtain ⟨d,hd⟩:∃ d,o.dst=some d:=by
          unfold effU at e1
          split at e1 <;> first | exact ⟨_,by assumption⟩ | simp at e1
        obtain ⟨hU,hE⟩:=effU_ok (ops:=ops) e1 h.1 d hd
        refine DWx_eff ho hz he ⟨hg,fun A' h1 h2=>?_⟩ ⟨hU.g,hU.h,hU.c,fun g B t v ht _=>hU.p g B t v ht,hU.q⟩ fun g=>ih _ _ _ (h.2 g.1 g.2.1 g.2.2)
        rw [e2] at h2
        exact hE A' (fun t ht=>by
          rcases ht with ht | ht
          · exact h1 t (fs_lk ho ht)
          · exact h1 t (fs_El ht)) h2 _ fun g=>⟨g,⟨fun _=>rfl,fun _=>rfl⟩⟩
      · exact h.elim
  | eu c k ih=>
    intro l A K h
    cases l with
    | nil=>exact ⟨_,AEq.rfl',_,h⟩
    | cons i l=>
      simp only [goX] at h
      split at h
      · exact h.elim
      · exact h.elim
      rename_i o ho hz
      split at h
      · exact h.elim
      rename_i hg
      split at h
      · split at h <;> exact h.elim
      rename_i he
      split at h
      · rename_i e2
        refine DWx_eff ho hz he ⟨hg,fun A' h1 h2=>?_⟩ (c.uok h.1 _) fun g=>ih g (h.2 g)
        rw [e2] at h2
        exact opT_mono (c.ok hg h.1 (fun t ht=>h1 t (fs_lk ho (looks_op ht))) h2) fun B ⟨x,hB⟩=>⟨x,by subst hB; exact ⟨fun _=>rfl,fun _=>rfl⟩⟩
      · exact h.elim
  | ua k ih=>
    intro l A K h
    cases l with
    | nil=>exact ⟨_,AEq.rfl',_,h⟩
    | cons i l=>
      simp only [goX] at h
      split at h
      · rename_i o z ho hz
        refine ⟨o,ho,?_⟩
        rw [hz]
        exact fun g=>ih g (h g)
      · exact h.elim
  | c c ks k ih =>
    intro l A K h
    cases l with
    | nil=>exact ⟨_,AEq.rfl',_,h⟩
    | cons i l=>
      simp only [goX] at h
      split at h
      · exact h.elim
      · exact h.elim
      rename_i o ho hz
      obtain ⟨dst,op,ty,pos,after,gd0⟩:=o
      split at h
      · exact h.elim
      rename_i hg
      simp only at hg; subst hg
      split at h
      · split at h
        · rename_i hv
          split at h
          · rename_i heq
            simp only at heq; subst heq
            split at h
            · rename_i e3 e4
              rw [Bool.and_eq_true,beq_iff_eq] at e3
              obtain ⟨rfl,e3⟩:=e3
              exact DWx_val ho hv (VOk_loc ho (callLoc c (dOk_of e3) e4 h.1 h.2.1)) (ih h.2.2)
            · exact h.elim
          · exact h.elim
        · exact h.elim
      · rename_i he
        split at h
        · rename_i fx xs tys heq
          simp only at heq; subst heq
          split at h
          · rename_i f first caps vs B fl e1 e2 e3
            split at h
            · rename_i e4
              simp only [Bool.and_eq_true,beq_iff_eq] at e4
              obtain ⟨⟨⟨⟨⟨⟨⟨⟨rfl,q1⟩,q2⟩,q3⟩,q4⟩,q5⟩,q6⟩,q7⟩,q8⟩:=e4
              have htk:(A.tk xs.toList).1=vs:=by rw [e2]
              have he1:=EOk_call (P:=P) (N:=N) (A:=A) (tb:=tb) (i:=i) (G:=Unit) (res:=fun _=>c.res) (H':=fun _=>c.H') (ks:=ks) (H:=c.H) (args:=c.args) ho e1 (dOk_of q1) q2 q3
                ((c.ok h.2.2.1).mono fun r H ⟨a,b⟩=>⟨(),a,b⟩) (by rw [htk]; exact h.1) (by rw [htk]; exact q4) h.2.1 q8
              rw [← e3] at he1
              exact DWx_eff ho hz he he1 (callU_ok q3 q5 q6 q7) fun _=>ih h.2.2.2
            · exact h.elim
          · exact h.elim
        · exact h.elim
  | cx c ks k ih=>
    intro l A K h
    cases l with
    | nil=>exact ⟨_,AEq.rfl',_,h⟩
    | cons i l=>
      simp only [goX] at h
      split at h
      · exact h.elim
      · exact h.elim
      rename_i o ho hz
      obtain ⟨dst,op,ty,pos,after,gd0⟩:=o
      split at h
      · exact h.elim
      rename_i hg
      simp only at hg; subst hg
      split at h
      · split at h <;> exact h.elim
      · rename_i he
        split at h
        · rename_i fx xs tys heq
          simp only at heq; subst heq
          split at h
          · rename_i f first caps vs B fl e1 e2 e3
            split at h
            · rename_i e4
              simp only [Bool.and_eq_true,beq_iff_eq] at e4
              obtain ⟨⟨⟨⟨⟨⟨⟨⟨rfl,q1⟩,q2⟩,q3⟩,q4⟩,q5⟩,q6⟩,q7⟩,q8⟩:=e4
              have htk:(A.tk xs.toList).1=vs:=by rw [e2]
              have he1:=EOk_call (P:=P) (N:=N) (A:=A) (tb:=tb) (i:=i) (G:={ x:c.X // c.post x }) (res:=fun x=>c.res x.1) (H':=fun x=>c.H' x.1) (ks:=ks) (H:=c.H) (args:=c.args) ho e1 (dOk_of q1) q2 q3
                ((c.ok h.2.2.1).mono fun r H ⟨x,hx,a,b⟩=>⟨⟨x,hx⟩,a,b⟩) (by rw [htk]; exact h.1) (by rw [htk]; exact q4) h.2.1 q8
              rw [← e3] at he1
              exact DWx_eff ho hz he he1 (callU_ok q3 q5 q6 q7) fun x=>ih _ (h.2.2.2 x.1 x.2)
            · exact h.elim
          · exact h.elim
        · exact h.elim
  | bd z k ih =>
    intro l A K h
    cases l with
    | nil=>exact ⟨_,AEq.rfl',_,h⟩
    | cons i l=>
      simp only [goX] at h
      split at h
      · exact h.elim
      · exact h.elim
      rename_i o ho hz
      obtain ⟨dst,op,ty,pos,after,gd0⟩:=o
      split at h
      · exact h.elim
      rename_i hg
      simp only at hg; subst hg
      split at h
      · split at h
        · rename_i hv
          split at h
          · rename_i heq
            simp only at heq; subst heq
            split at h
            · rename_i us e3 e4
              split at h
              · rename_i v e5
                rw [Bool.and_eq_true,beq_iff_eq] at e3
                obtain ⟨rfl,e3⟩:=e3
                have hz:=z.ok
                rw [e4] at hz
                exact DWx_val ho hv (VOk_loc ho (OpLoc_build us v hz (dOk_of e3) e5)) (ih h)
              · exact h.elim
            · exact h.elim
          · exact h.elim
        · exact h.elim
      · exact h.elim
  | bs k ih =>
    intro l A K h
    cases l with
    | nil=>exact ⟨_,AEq.rfl',_,h⟩
    | cons i l=>
      simp only [goX] at h
      split at h
      · exact h.elim
      · exact h.elim
      rename_i o ho hz
      obtain ⟨dst,op,ty,pos,after,gd0⟩:=o
      split at h
      · exact h.elim
      rename_i hg
      simp only at hg; subst hg
      split at h
      · split at h
        · rename_i hv
          split at h
          · rename_i heq
            simp only at heq; subst heq
            split at h
            · rename_i e e3
              split at h
              · rename_i t vs e4 e5
                split at h
                · rename_i e6
                  rw [Bool.and_eq_true] at e6
                  exact DWx_val ho hv (VOk_loc ho (OpLoc_buildSlice e t vs ⟨e3,e4⟩ (dOk_of e6.2) e5 e6.1)) (ih h)
                · exact h.elim
              · exact h.elim
            · exact h.elim
          · exact h.elim
        · exact h.elim
      · exact h.elim
  | mm k ih =>
    intro l A K h
    cases l with
    | nil=>exact ⟨_,AEq.rfl',_,h⟩
    | cons i l=>
      simp only [goX] at h
      split at h
      · exact h.elim
      · exact h.elim
      rename_i o ho hz
      obtain ⟨dst,op,ty,pos,after,gd0⟩:=o
      split at h
      · exact h.elim
      rename_i hg
      simp only at hg; subst hg
      split at h
      · split at h
        · rename_i hv
          split at h
          · rename_i heq
            simp only at heq; subst heq
            split at h
            · rename_i kd p kd' q e1 e2 e3
              obtain ⟨rfl,h⟩:=h
              exact DWx_val ho hv (VOk_loc ho (OpLoc_mm (dOk_of e3) e1 e2 (.inl ⟨rfl,rfl⟩))) (ih h)
            · rename_i kd p kd' q e1 e2 e3
              obtain ⟨rfl,h⟩:=h
              exact DWx_val ho hv (VOk_loc ho (OpLoc_mm (dOk_of e3) e1 e2 (.inr ⟨rfl,rfl⟩))) (ih h)
            · exact h.elim
          · exact h.elim
        · exact h.elim
      · exact h.elim
  | by_ bs k ih=>
    intro l A K h
    cases l with
    | nil=>exact ⟨_,AEq.rfl',_,h⟩
    | cons i l=>
      simp only [goX] at h
      split at h
      · exact h.elim
      · exact h.elim
      rename_i o ho hz
      obtain ⟨dst,op,ty,pos,after,gd0⟩:=o
      split at h
      · exact h.elim
      rename_i hg
      simp only at hg; subst hg
      split at h
      · split at h
        · rename_i hv
          split at h
          · rename_i heq
            simp only at heq; subst heq
            split at h
            · rename_i fl ys e1 e2
              simp only [Bool.and_eq_true] at e1
              obtain ⟨rfl,h⟩:=h
              obtain ⟨e,q1,q2⟩:=isU8_of e1.1.1
              exact DWx_val ho hv (VOk_loc ho (OpLoc_bytesStr e fl bs ⟨q1,q2,isStr_of e1.1.2⟩ (dOk_of e1.2) e2)) (ih h)
            · exact h.elim
          · exact h.elim
        · exact h.elim
      · exact h.elim
  | _ =>
    intro l A K h
    cases l with
    | nil=>exact ⟨_,AEq.rfl',_,h⟩
    | cons i l=>
      simp only [goX] at h
      (repeat' split at h) <;> exact h.elim
theorem DWx_mono {K K':AS→Prop} (hK:∀ B,K B→K' B):∀ (l:List Nat) {A:AS},DWx P N ops tb zs l A K→DWx P N ops tb zs l A K'
  | [],A,h=>hK A h
  | i :: l,A,h=>by
    obtain ⟨o,ho,h⟩:=h
    refine ⟨o,ho,?_⟩
    split at h
    · exact fun g=>DWx_mono hK l (h g)
    split at h
    · obtain ⟨e1,e2,v,h1,h2⟩:=h; exact ⟨e1,e2,v,h1,DWx_mono hK l h2⟩
    · obtain ⟨G,U,h1,h2,h3⟩:=h; exact ⟨G,U,h1,h2,fun g=>DWx_mono hK l (h3 g)⟩
end
end Go.Abs
namespace Go.Abs
open Go Go.RowKit
def goD {P:Program} (N:Nat) (ops:Array Oper) (_:Unit):Sc P→List Oper→AS→(AS→Sc P→Prop)→Prop
  | s,[],A,K=>K A s
  | .r n orc k,l,A,K=>match runD P N ops n l orc A with
    | some (C,A')=>C∧goD N ops () k (l.drop n) A' K
    | none=>False
  | .c c _ k,o :: l,A,K=>match o.op,o.guard with
    | .call ⟨.value (.func f),xs,_⟩,none=>match f==c.f&&dOk N o.dst,c.H with
      | true,[]=>wkL (xs.toList.map A.cp) c.args=c.args∧c.pre∧goD N ops () k l (A.put o.dst c.res.er) K
      | _,_=>False
    | _,_=>False
  | .bd z k,o :: l,A,K=>match o.op,o.guard with
    | .build T parts,none=>match T==z.T&&dOk N o.dst,z.v with
      | true,.agg zs=>match buildB P A T zs parts.toList with
        | some v=>goD N ops () k l (A.put o.dst v) K
        | none=>False
      | _,_=>False
    | _,_=>False
  | .bs k,o :: l,A,K=>match o.op,o.guard with
    | .buildSlice T len parts,none=>match tD P T with
      | some (.sl e)=>match ti P e,partsV A 0 parts.toList with
        | some i,some vs=>match bsB P T e len i vs&&dOk N o.dst with
          | true=>goD N ops () k l (A.put o.dst (.sl true vs)) K
          | false=>False
        | _,_=>False
      | _=>False
    | _,_=>False
  | .by_ bs k,o :: l,A,K=>match o.op,o.guard with
    | .convert src dst x,none=>match isU8 P src&&isStr P dst&&dOk N o.dst,A.ev x with
      | true,.sl _ ys=>ys=bs.map u8V∧goD N ops () k l (A.put o.dst (sV bs)) K
      | _,_=>False
    | _,_=>False
  | _,_ :: _,_,_=>False
def go {P :Program} (N:Nat):Code→AS→Sc P→(Exit→AS→Sc P→Prop)→Prop
  | .skip,A,s,K=>K .normal A s
  | .label _,A,s,K=>K .normal A s
  | .exit i,A,s,K=>K (.exit i) A s
  | .goto i,A,s,K=>K (.goto i) A s
  | .ret,A,s,K=>hsP N s A fun A s=>K .ret A s
  | .seq x y,A,s,K=>go N x A s fun e A s=>match e with
    | .normal=>go N y A s K
    | e=>K e A s
  | .block id c,A,s,K=>go N c A s fun e A s=>match e with
    | .exit j=>match j==id with
      | true=>K .normal A s
      | false=>K (.exit j) A s
    | e=>K e A s
  | .cond c x y,A,s,K=>hsP N s A fun A s=>match A.ev c,s with
    | .lit (.bool b),.br s1 s2=>(b=true→go N x A s1 K)∧(b=false→go N y A s2 K)
    | .lit (.bool b),.join X B ok s1 s2 k=>
      (b=true→go N x A s1 fun e A' s'=>match e with
        | .normal=>hsP N s' A' fun A' _=> ∃ x,ok x∧leA A' (B x).t∧leR A' (B x).h
        | e=>K e A' s')∧
      (b=false→go N y A s2 fun e A' s'=>match e with
        | .normal=>hsP N s' A' fun A' _=> ∃ x,ok x∧leA A' (B x).t∧leR A' (B x).h
        | e=>K e A' s')∧
      ∀ x,ok x→K .normal (B x) (k x)
    | _,_=>False
  | .scope c,A,s,K=>go N c A s fun e A s=>match e with
    | .goto _=>False
    | e=>K e A s
  | .loop c,A,s,K=>hsP N s A fun A s=>match s with
    | .loop X inv ok m k=>(∃ x,ok x∧leA A (inv x).t∧leR A (inv x).h)∧∀ x,ok x→go N c (inv x) (k x) fun e A' s'=>match e with
      | .normal=>hsP N s' A' fun A' _=> ∃ y,ok y∧m y < m x∧leA A' (inv y).t∧leR A' (inv y).h
      | e=>K e A' s'
    | _=>False
  | .region _ ops false,A,s,K=>hsP N s A fun A s=>goL N ops s ops.toList A fun A s=>K .normal A s
  | .region _ ops true,A,s,K=>hsP N s A fun A s=>match s with
    | .d m k=>match P.follows .mixedOrders&&chkDraw ops m&&Nat.ble m ops.size with
      | true=>goD N ops () k (ops.toList.take m) A fun A s=>goL N ops s (ops.toList.drop m) A fun A s=>K .normal A s
      | false=>False
    | .du m sp Sl El Hl k=>match (ops[sp]?).bind (·.dst) with
      | some d=>match P.follows .mixedOrders&&chkDraw ops m&&Nat.ble m ops.size&&chkU ops m sp d El with
        | true=>goU N ops sp Sl El Hl k none 0 (ops.toList.take m) A fun A s u=>match s,u with
          | .ub k,some U=> ∀ g o c,goL N ops (k g o c) (ops.toList.drop m) (U (g,o,c) A) fun A s=>K .normal A s
          | _,_=>False
        | false=>False
      | none=>False
    | .dx m pl tb zs k=>match P.follows .mixedOrders&&chkX ops m tb zs pl&&chkPl ops m pl&&chkAl N ops zs with
      | true=>goX N ops tb zs k pl A fun A s=>goL N ops s (ops.toList.drop m) A fun A s=>K .normal A s
      | false=>False
    | _=>False
  | _,_,_,_=>False
section
variable {P:Program} {N:Nat} {ops:Array Oper} {A A' A1 B:AS}
variable {w:World} {Pb Kb:Nat→Prop} {a:Act} {F:Root→List Nat}
theorem DW_mono {K K':AS→Prop} {l:List Oper} (h:DW P N ops l A K) (hK:∀ B,K B→K' B):DW P N ops l A K':=by
  obtain ⟨vs,h1,h2⟩:=h; exact ⟨vs,h1,hK _ h2⟩
theorem goD_ok0:∀ (s:Sc P) {l:List Oper} {A:AS} {K:AS→Sc P→Prop},goD N ops () s l A K→DW P N ops l A fun B=> ∃ s',K B s':=by
  intro s
  induction s with
  | r n orc k ih=>
    intro l A K h
    cases l with
    | nil=>exact DW_nil ⟨_,h⟩
    | cons o l=>
      simp only [goD] at h
      split at h
      · rename_i C A' e; exact DW_run n orc C A' e h.1 (ih h.2)
      · exact h.elim
  | c c ks k ih=>
    intro l A K h
    cases l with
    | nil=>exact DW_nil ⟨_,h⟩
    | cons o l=>
      obtain ⟨dst,op,ty,pos,after,gd0⟩:=o
      simp only [goD] at h
      split at h
      · split at h
        · rename_i h1 h2
          rw [Bool.and_eq_true,beq_iff_eq] at h1
          obtain ⟨rfl,h1⟩:=h1
          obtain ⟨k1,k2,k3⟩:=h
          have hc:=c.ok k2
          rw [h2] at hc
          have hp:=hc.toPC
          refine DW_callE _ (dOk_of h1) rfl (E0:=c.res) ?_ rfl (ih k3)
          refine ⟨hp.1,fun w Pb cargs q1 q2=>?_⟩
          refine (hp.2 w Pb cargs q1 (by have:=RVs_wk _ c.args q2; rw [k1] at this; exact this)).mono ?_
          rintro e w' ⟨r,x,F,Pb',rfl,⟨H,q,_⟩,rest⟩
          exact ⟨r,x,F,Pb',rfl,q,rest⟩
        · exact h.elim
      · exact h.elim
  | bd z k ih=>
    intro l A K h
    cases l with
    | nil=>exact DW_nil ⟨_,h⟩
    | cons o l=>
      obtain ⟨dst,op,ty,pos,after,gd0⟩:=o
      simp only [goD] at h
      split at h
      · split at h
        · rename_i zs e1 e2
          split at h
          · rename_i v e3
            simp only [Bool.and_eq_true,beq_iff_eq] at e1
            obtain ⟨rfl,e1⟩:=e1
            have hz:=z.ok
            rw [e2] at hz
            exact DW_build zs v hz (dOk_of e1) e3 (ih h)
          · exact h.elim
        · exact h.elim
      · exact h.elim
  | bs k ih =>
    intro l A K h
    cases l with
    | nil=>exact DW_nil ⟨_,h⟩
    | cons o l=>
      obtain ⟨dst,op,ty,pos,after,gd0⟩:=o
      simp only [goD] at h
      split at h
      · split at h
        · rename_i e e1
          split at h
          · rename_i i vs e2 e3
            split at h
            · rename_i e4
              simp only [Bool.and_eq_true] at e4
              exact DW_buildSlice e i vs ⟨e1,e2⟩ (dOk_of e4.2) e3 e4.1 (ih h)
            · exact h.elim
          · exact h.elim
        · exact h.elim
      · exact h.elim
  | by_ bs k ih=>
    intro l A K h
    cases l with
    | nil=>exact DW_nil ⟨_,h⟩
    | cons o l=>
      obtain ⟨dst,op,ty,pos,after,gd0⟩:=o
      simp only [goD] at h
      split at h
      · split at h
        · rename_i fl ys e1 e2
          simp only [Bool.and_eq_true] at e1
          obtain ⟨rfl,h⟩:=h
          obtain ⟨e,q1,q2⟩:=isU8_of e1.1.1
          exact DW_bytesStr e fl bs ⟨q1,q2,isStr_of e1.1.2⟩ (dOk_of e1.2) e2 (ih h)
        · exact h.elim
      · exact h.elim
  | _=>
    intro l A K h
    cases l with
    | nil=>exact DW_nil ⟨_,h⟩
    | cons o l=>simp only [goD] at h
theorem T_loopW {X:Type} {c:Code} {Q:Exit→AS→Prop} (inv:X→AS) (ok:X→Prop) (m:X→Nat) (h0:∃ x,ok x∧leA A (inv x).t∧leR A (inv x).h)
    (round:∀ x,ok x→T P N c (inv x) fun e A'=>match e with
      | .normal=>Hx N A' fun A'=> ∃ y,ok y∧m y < m x∧leA A' (inv y).t∧leR A' (inv y).h
      | e=>Q e A'):T P N (.loop c) A Q:=by
  obtain ⟨x0,hx0,l0,r0⟩:=h0
  refine T_loop (fun n A=> ∃ x,m x=n∧ok x∧leA A (inv x).t∧leR A (inv x).h) (m x0) ⟨x0,rfl,hx0,l0,r0⟩ ?_
  rintro n A ⟨x,rfl,hx,h1,h2⟩
  refine T_leW h1 h2 (T_hintPost (T_mono (round x hx) fun e A' hq=>?_))
  cases e with
  | normal=>exact Hx.mono hq fun B ⟨y,k1,k2,k3,k4⟩=>⟨m y,k2,y,rfl,k1,k3,k4⟩
  | _=>exact Hx.of hq
def ngo (Q:Exit→AS→Prop):Exit→AS→Prop
  | .goto _,_=>False
  | e,A=>Q e A
theorem T_scope {c:Code} {Q:Exit→AS→Prop} (h:T P N c A (ngo Q)):T P N (.scope c) A Q:=by
  intro Pb Kb a w F hs
  refine wp_scope_straight (wp_mono (h Pb Kb a w F hs) fun e a' w' hn=>?_)
  cases e with
  | goto l=>obtain ⟨_,_,_,_,h,_⟩:=hn; exact h
  | _=>exact hn
theorem go_ok :∀ (c:Code) {A:AS} {s:Sc P} {K:Exit→AS→Sc P→Prop},go N c A s K→T P N c A fun e B=> ∃ s',K e B s':=by
  intro c
  induction c with
  | skip=>intro A s K h; exact T_skip ⟨_,h⟩
  | label l=>intro A s K h; exact T_label ⟨_,h⟩
  | exit i=>intro A s K h; exact T_exit ⟨_,h⟩
  | goto i=>intro A s K h; exact T_goto ⟨_,h⟩
  | ret=>intro A s K h; exact T_hint ((hsP_ok s h).mono fun B hB=>T_ret hB)
  | seq x y ih1 ih2=>
    intro A s K h
    refine T_seq (T_mono (ih1 h) fun e B hB=>?_)
    obtain ⟨s',hB⟩:=hB
    cases e with
    | normal=>exact ih2 hB
    | _=>exact ⟨_,hB⟩
  | scope c ih=>
    intro A s K h
    refine T_scope (T_mono (ih h) fun e B hB=>?_)
    obtain ⟨s',hB⟩:=hB
    cases e with
    | goto l=>exact hB
    | _=>exact ⟨_,hB⟩
  | block id c ih=>
    intro A s K h
    refine T_block (T_mono (ih h) fun e B hB=>?_)
    obtain ⟨s',hB⟩:=hB
    cases e with
    | exit j=>
      simp only [blk]
      simp only at hB
      split at hB
      · rename_i e; rw [if_pos (by simpa using e)]; exact ⟨_,hB⟩
      · rename_i e; rw [if_neg (by simpa using e)]; exact ⟨_,hB⟩
    | _=>exact ⟨_,hB⟩
  | cond c x y ih1 ih2=>
    intro A s K h
    refine T_hint ((hsP_ok s h).mono fun B hB=>?_)
    obtain ⟨s',hB⟩:=hB
    split at hB
    · rename_i e
      exact T_cond e (fun hb=>ih1 (hB.1 hb)) (fun hb=>ih2 (hB.2 hb))
    · rename_i b X I ok s1 s2 k e
      obtain ⟨h1,h2,h3⟩:=hB
      have step:∀ (z:Code) (K':Exit→AS→Sc P→Prop),(∀ A' s',K' .normal A' s'→hsP N s' A' fun A' _=> ∃ x,ok x∧leA A' (I x).t∧leR A' (I x).h)→(∀ e,e≠.normal→∀ A' s',K' e A' s'→K e A' s')→
          (T P N z B fun e A'=> ∃ s',K' e A' s')→T P N z B fun e A'=> ∃ s',K e A' s':=fun z K' hn ho hz=>by
        refine T_hintPost (T_mono hz fun e A' hq=>?_)
        obtain ⟨s',hq⟩:=hq
        by_cases he:e=.normal
        · subst he
          refine (hsP_ok s' (hn _ _ hq)).bind fun B' hB'=>?_
          obtain ⟨_,x,k1,k2,k3⟩:=hB'
          exact hx_to k2 k3 ⟨_,h3 x k1⟩
        · exact Hx.of ⟨_,ho e he _ _ hq⟩
      refine T_cond e (fun hb=>step _ _ ?_ ?_ (ih1 (h1 hb))) (fun hb=>step _ _ ?_ ?_ (ih2 (h2 hb)))
      · exact fun _ _ h=>h
      · intro e he A' s' h; cases e <;> first | exact h | exact absurd rfl he
      · exact fun _ _ h=>h
      · intro e he A' s' h; cases e <;> first | exact h | exact absurd rfl he
    · exact hB.elim
  | loop c ih=>
    intro A s K h
    refine T_hint ((hsP_ok s h).mono fun B hB=>?_)
    obtain ⟨s',hB⟩:=hB
    split at hB
    · rename_i X inv ok m k
      refine T_loopW inv ok m hB.1 fun x hx=>T_mono (ih (hB.2 x hx)) fun e A' hq=>?_
      obtain ⟨s',hq⟩:=hq
      cases e with
      | normal=>exact (hsP_ok s' hq).mono fun B ⟨_,hB⟩=>hB
      | _=>exact ⟨_,hq⟩
    · exact hB.elim
  | region id ops draw=>
    intro A s K h
    cases draw with
    | false=>exact T_hint ((hsP_ok s h).mono fun B ⟨s',hB⟩=>T_region (goL_ok s' hB))
    | true=>
      refine T_hint ((hsP_ok s h).mono fun B hB=>?_)
      obtain ⟨s',hB⟩:=hB
      split at hB
      · split at hB
        · rename_i e
          simp only [Bool.and_eq_true] at e
          exact T_region_draw e.1.1 e.1.2 (Nat.le_of_ble_eq_true e.2) (DW_mono (goD_ok0 _ hB) fun B ⟨s',hB⟩=>goL_ok s' hB)
        · exact hB.elim
      · rename_i m sp Sl El Hl k
        split at hB
        · rename_i d hd
          split at hB
          · rename_i e
            simp only [Bool.and_eq_true] at e
            have hml:=Nat.le_of_ble_eq_true e.1.2
            have hsm:sp < m:=by
              have:=e.2
              unfold chkU at this
              simp only [Bool.and_eq_true] at this
              exact blt_of this.1.1
            obtain ⟨U,hU,_,hW⟩:=goU_ok (d:=d) _ hB (fun o ho _=>by
              rw [Nat.sub_zero,List.getElem?_take_of_lt hsm] at ho
              have:ops[sp]? =some o:=by simpa using ho
              rw [this] at hd; simpa using hd) (fun _=>⟨Nat.zero_le _,by simp; omega⟩) (fun U hu=>by simp at hu)
            refine T_region_drawU e.1.1.1 e.1.1.2 hml e.2 hU ?_
            obtain ⟨vs,w1,w2⟩:=hW
            refine ⟨vs,w1,fun gh=>?_⟩
            obtain ⟨s',w2⟩:=w2
            split at w2
            · rename_i k' U' e2
              simp only [Option.some.injEq] at e2; subst e2
              exact goL_ok _ (w2 gh.1 gh.2.1 gh.2.2)
            · exact w2.elim
          · exact hB.elim
        · exact hB.elim
      · split at hB
        · rename_i e
          simp only [Bool.and_eq_true] at e
          exact T_region_drawX e.1.1.1 e.1.1.2 e.2 e.1.2 (DWx_mono (fun B ⟨B',hA,s',hB⟩=>⟨B',hA,goL_ok s' hB⟩) _ (goX_ok _ hB))
        · exact hB.elim
      · exact hB.elim
  | _=>intro A s K h; exact h.elim
def rootsApart (H:List (Nat×(Nat×V))) (xs:List Root):Bool:=xs.all fun r=>match r with
  | .key k=>(lk k H).isNone
  | .slot _=>true
def retB (rs:List ResultVar) (Q:V→AS→Prop) (H:List (Nat×(Nat×V))) (A:AS):Prop:=match resY A rs with
    | some (C,xs)=>match okResB P rs xs&&nodupB (xs.map (·.1))&&rootsApart H (xs.map (·.1)) with
      | true=>C∧Q (one (xs.map (·.2))) A
      | false=>False
    | none=>False
def retP (N:Nat) (rs:List ResultVar) (Q:V→AS→Prop) (H:List (Nat×(Nat×V))):Exit→AS→Sc P→Prop:=fun e A s=>match e with
  | .normal=>hsP N s A fun A _=>retB (P:=P) rs Q H A
  | .ret=>retB (P:=P) rs Q H A
  | _=>False
theorem rootsApart_of {H:List (Nat×(Nat×V))} {xs:List Root} (h:rootsApart H xs=true) (k:Nat) (hk:lk k H≠none):Root.key k ∉ xs:=fun c=>by
  unfold rootsApart at h
  rw [List.all_eq_true] at h
  have:=h _ c
  simp only [Option.isNone_iff_eq_none] at this
  exact hk this
theorem PF.wkr {f:FuncId} {args:List V} {H:List (Nat×(Nat×V))} {X:Type} {post:X→Prop} {E:X→V} {H':X→List (Nat×(Nat×V))}
    (h:PF P f args H (fun r h=> ∃ x,post x∧wk r (E x)=E x∧h=H' x)):PF P f args H (fun r h=> ∃ x,post x∧r=E x∧h=H' x):=
  ⟨h.1,fun w Pb Kb cargs F hi=>(h.2 w Pb Kb cargs F hi).mono fun e w'=>by
    rintro ⟨r,x,H1,Pb',Kb',F',rfl,⟨z,q1,q2,rfl⟩,hf⟩
    exact ⟨E z,x,H' z,Pb',Kb',F',rfl,⟨z,q1,rfl,rfl⟩,by have:=RV_wk (E z) hf.val; rw [q2] at this; exact ⟨this,hf.root,hf.disj,hf.nodup,hf.free,hf.sub,hf.bound,hf.mP,hf.mK,hf.newP,hf.keep⟩⟩⟩
theorem PF_go {f:FuncId} {fn:Func} {c:Code} {args:List V} {H:List (Nat×(Nat×V))} {N:Nat} {rs:List ResultVar} {X:Type} {post:X→Prop} {E:X→V} {H':X→List (Nat×(Nat×V))}
    (hf:P.funcs[f]? =some fn) (hnm:(fn.name== "runtime.NumGoroutine")=false) (hb:fn.body=some c) (hN:fn.ntmps=N) (hrs:fn.results.toList=rs) (hlen:Nat.ble args.length N=true)
    (HK:List (Nat×(Nat×V))) (hHK:∀ x k,lk k (H' x)≠none→lk k HK≠none)
    (sc:Sc P) (VC:Prop) (he:VC=go N c ⟨enum 0 args,H⟩ sc (retP N rs (fun v A=> ∃ x,post x∧wk v (E x)=E x∧leR A (H' x)) HK)) (h:VC):
    PF P f args H (fun r h=> ∃ x,post x∧r=E x∧h=H' x):=by
  subst hN hrs
  rw [he] at h
  refine PF.wkr (PF_of_T hf hb (entersFn_of hf hnm (by rw [hb]; rfl)) (Nat.le_of_ble_eq_true hlen) (T_hintPost (T_mono (go_ok _ h) ?_)))
  rintro e A0 ⟨s0,hq⟩
  have fin:∀ A,(e=.normal∨e=.ret)→retB (P:=P) fn.results.toList (fun v A=> ∃ x,post x∧wk v (E x)=E x∧leR A (H' x)) HK A→retF P fn.results.toList (fun r h=> ∃ x,post x∧wk r (E x)=E x∧h=H' x) e A:=fun A he hq=>by
    unfold retB at hq
    split at hq
    · rename_i C xs e1
      split at hq
      · rename_i e2
        simp only [Bool.and_eq_true] at e2
        obtain ⟨hC,x,q1,q2,q3⟩:=hq
        exact ⟨he,xs,H' x,resY_ok e1 hC,okRes_of e2.1.1,nodup_of e2.1.2,q3,fun k hk=>rootsApart_of e2.2 k (hHK x k hk),x,q1,q2,rfl⟩
      · exact hq.elim
    · exact hq.elim
  cases e with
  | normal=>exact (hsP_ok s0 hq).mono fun B ⟨_,hB⟩=>fin B (.inl rfl) hB
  | ret=>exact Hx.of (fin A0 (.inr rfl) hq)
  | _=>exact hq.elim
theorem PF_go1 {f:FuncId} {fn:Func} {c:Code} {args:List V} {H:List (Nat×(Nat×V))} {N:Nat} {rs:List ResultVar} {E:V} {H':List (Nat×(Nat×V))}
    (hf:P.funcs[f]? =some fn) (hnm:(fn.name== "runtime.NumGoroutine")=false) (hb:fn.body=some c) (hN:fn.ntmps=N) (hrs:fn.results.toList=rs) (hlen:Nat.ble args.length N=true)
    (sc:Sc P) (VC:Prop) (he:VC=go N c ⟨enum 0 args,H⟩ sc (retP N rs (fun v A=>wk v E=E∧leR A H') H')) (h:VC):
    PF P f args H (fun r h=>r=E∧h=H'):=by
  subst hN hrs
  rw [he] at h
  have:=PF.wkr (X:=Unit) (post:=fun _=>True) (E:=fun _=>E) (H':=fun _=>H') (PF_of_T (P:=P) (f:=f) (args:=args) (H:=H) (Q:=fun r h=> ∃ _:Unit,True∧wk r E=E∧h=H') hf hb (entersFn_of hf hnm (by rw [hb]; rfl)) (Nat.le_of_ble_eq_true hlen) (T_hintPost (T_mono (go_ok _ h) ?_)))
  · exact this.mono fun r H ⟨_,_,h1,h2⟩=>⟨h1,h2⟩
  rintro e A0 ⟨s0,hq⟩
  have fin:∀ A,(e=.normal∨e=.ret)→retB (P:=P) fn.results.toList (fun v A=>wk v E=E∧leR A H') H' A→retF P fn.results.toList (fun r h=> ∃ _:Unit,True∧wk r E=E∧h=H') e A:=fun A he hq=>by
    unfold retB at hq
    split at hq
    · rename_i C xs e1
      split at hq
      · rename_i e2
        simp only [Bool.and_eq_true] at e2
        obtain ⟨hC,q2,q3⟩:=hq
        exact ⟨he,xs,H',resY_ok e1 hC,okRes_of e2.1.1,nodup_of e2.1.2,q3,fun k hk=>rootsApart_of e2.2 k hk,(),trivial,q2,rfl⟩
      · exact hq.elim
    · exact hq.elim
  cases e with
  | normal=>exact (hsP_ok s0 hq).mono fun B ⟨_,hB⟩=>fin B (.inl rfl) hB
  | ret=>exact Hx.of (fin A0 (.inr rfl) hq)
  | _=>exact hq.elim
end
end Go.Abs
namespace Go.Abs
theorem at_el {xs:List V} {j sz g0 o0 g o c:Nat} {v:V} (h:xs[j]? =some v):V.at g0 o0 (.own sz xs g o c) [j]=some (g,o+j * sz,v):=by simp only [V.at,h]
theorem set_el {xs ys:List V} {j sz g o c:Nat} {x v:V} (h:xs[j]? =some x) (e:xs.set j v=ys):V.set (.own sz xs g o c) [j] v=.own sz ys g o c:=by simp only [V.set,h,e]
end Go.Abs
