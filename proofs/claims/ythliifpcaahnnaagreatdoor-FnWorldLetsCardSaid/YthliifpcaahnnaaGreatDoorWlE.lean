/-
  laws.FnWorldLets returns true for every slice of bytes and leaves it as it was; conditions: the listed tables lie as the program's text lays them.
-/
import Derived.Test.YthliifpcaahnnaaGreatDoorWlC
import Derived.Test.YthliifpcaahnnaaGreatDoorWlD
import Derived.Test.YthliifpcaahnnaaGreatDoorTie
import Derived.Test.YthliifpcaahnnaaGreatDoorCards
import Derived.ProofKit
import Derived.OpenShut
import Derived.ChangeOld
import Derived.Below
import Derived.LaidMore
import Derived.Lay
import Derived.SevenTiedAt
import Derived.Stop.Joined
set_option linter.unusedVariables false
set_option linter.unusedSimpArgs false
set_option linter.unnecessarySimpa false
set_option linter.unusedSectionVars false
namespace Go.Pd
def mate (e:Bool):List UInt8→List UInt8→Prop
  | [],t=>e=false∨t=[]
  | c :: b,t=>if c=42 then ∃ k,mate e b (t.drop k) else ∃ t',t=c :: t'∧mate e b t'
def semP (e:Bool):List (List UInt8)→List UInt8→Prop
  | [],t=>e=false∨t=[]
  | q :: r,t=> ∃ k,q <+: t.drop k∧semP e r ((t.drop k).drop q.length)
def SP (e:Bool):List (List UInt8)→List UInt8→Prop
  | [],_=>False
  | q :: r,t=>q <+: t∧semP e r (t.drop q.length)
theorem splitL_ne (c:UInt8):∀ l,splitL c l≠[]
  | []=>by simp [splitL]
  | b :: l=>by unfold splitL; split <;> simp
theorem mate_SP (e:Bool):∀ (b t:List UInt8),mate e b t↔SP e (splitL 42 b) t
  | [],t=>by simp [mate,splitL,SP,semP]
  | c :: b, t=>by
    unfold mate splitL
    by_cases h:c=42
    · simp only [h,if_true,SP,List.nil_prefix,true_and,List.length_nil,List.drop_zero]
      cases hs:splitL 42 b with
      | nil=>exact absurd hs (splitL_ne 42 b)
      | cons q r=>
        simp only [semP]
        constructor
        · rintro ⟨k,hk⟩; have:=(mate_SP e b _).1 hk; rw [hs] at this; exact ⟨k,this⟩
        · rintro ⟨k,hk⟩; exact ⟨k,(mate_SP e b _).2 (by rw [hs]; exact hk)⟩
    · simp only [h,if_false]
      cases hs:splitL 42 b with
      | nil=>exact absurd hs (splitL_ne 42 b)
      | cons q r=>
        simp only [List.headD_cons,List.tail_cons,SP]
        constructor
        · rintro ⟨t',rfl,hk⟩
          have:=(mate_SP e b _).1 hk; rw [hs] at this
          exact ⟨List.cons_prefix_cons.2 ⟨rfl,this.1⟩,by simpa using this.2⟩
        · rintro ⟨h1,h2⟩
          cases t with
          | nil=>simp at h1
          | cons x t'=>
            obtain ⟨rfl,h3⟩:=List.cons_prefix_cons.1 h1
            exact ⟨t',rfl,(mate_SP e b _).2 (by rw [hs]; exact ⟨h3,by simpa using h2⟩)⟩
theorem sem_mono {e:Bool} {ps:List (List UInt8)} {t:List UInt8} {m:Nat} (h:semP e ps (t.drop m)) (hn:e=false∨ps≠[]):semP e ps t:=by
  cases ps with
  | nil=>exact hn.elim .inl (fun h=>absurd rfl h)
  | cons q r=>
    obtain ⟨k,h1,h2⟩:=h
    have he:(t.drop m).drop k=t.drop (m+k):=List.drop_drop ..
    rw [he] at h1 h2
    exact ⟨m+k,h1,h2⟩
def occ (s p:List UInt8) (k:Nat):Prop:=k+p.length≤s.length∧(s.drop k).take p.length=p
theorem findL_spec (s p:List UInt8):∀ (n f:Nat),s.length+1 - f≤n→(findL s p f < 0→∀ k,f≤k→¬ occ s p k)∧(0≤findL s p f→occ s p (findL s p f).toNat∧f≤(findL s p f).toNat∧∀ k,f≤k→occ s p k→(findL s p f).toNat≤k)
  | 0,f,hn=>by
    rw [findL,dif_neg (by omega)]
    exact ⟨fun _ k hk h=>by have:=h.1; omega,fun h=>by omega⟩
  | n + 1,f,hn=>by
    rw [findL]
    by_cases h1:f+p.length≤s.length
    · rw [dif_pos h1]
      by_cases h2:(s.drop f).take p.length=p
      · rw [if_pos h2]
        exact ⟨fun h=>by omega,fun _=>⟨⟨h1,h2⟩,by simp,fun k hk _=>by simpa using hk⟩⟩
      · rw [if_neg h2]
        obtain ⟨i1,i2⟩:=findL_spec s p n (f+1) (by omega)
        refine ⟨fun h k hk ho=>?_,fun h=>?_⟩
        · by_cases e:k=f
          · subst e; exact h2 ho.2
          · exact i1 h k (by omega) ho
        · obtain ⟨j1,j2,j3⟩:=i2 h
          refine ⟨j1,by omega,fun k hk ho=>?_⟩
          by_cases e:k=f
          · subst e; exact absurd ho.2 h2
          · exact j3 k (by omega) ho
    · rw [dif_neg h1]
      exact ⟨fun _ k hk h=>by have:=h.1; omega,fun h=>by omega⟩
theorem pre_take {p t:List UInt8}:p <+: t↔p.length≤t.length∧t.take p.length=p:=by
  constructor
  · intro h; exact ⟨h.length_le,List.prefix_iff_eq_take.1 h |>.symm⟩
  · rintro ⟨_,h⟩; rw [← h]; exact List.take_prefix _ _
theorem go_sem (e:Bool) (s:List UInt8):∀ (ps:List (List UInt8)) (f:Nat),f≤s.length→(hasGo e s f ps=true↔semP e ps (s.drop f))
  | [],f,hf=>by
    simp only [hasGo,semP,Bool.or_eq_true,Bool.not_eq_true',decide_eq_true_eq,List.drop_eq_nil_iff]
    constructor
    · rintro (h | h)
      · exact .inl h
      · exact .inr (by omega)
    · rintro (h | h)
      · exact .inl h
      · exact .inr (by omega)
  | p :: r, f,hf=>by
    unfold hasGo
    by_cases hc:(e&&r.isEmpty)=true
    · rw [if_pos hc]
      simp only [Bool.and_eq_true,List.isEmpty_iff] at hc
      obtain ⟨rfl,rfl⟩:=hc
      simp only [Bool.and_eq_true,decide_eq_true_eq,beq_iff_eq,semP,Bool.true_eq_false,false_or,List.drop_drop]
      constructor
      · rintro ⟨h1,h2⟩
        refine ⟨s.length - p.length - f,?_,?_⟩
        · rw [show f+(s.length - p.length - f)=s.length - p.length from by omega,h2]; exact List.prefix_refl _
        · rw [List.drop_eq_nil_of_le (by omega)]
      · rintro ⟨k,h1,h2⟩
        have hp:=pre_take.1 h1
        rw [List.length_drop] at hp
        have h2:=List.drop_eq_nil_iff.1 h2
        by_cases hk:f+k≤s.length
        · refine ⟨by omega,?_⟩
          rw [show s.length - p.length=f+k from by omega]
          rw [List.take_of_length_le (by rw [List.length_drop]; omega)] at hp
          exact hp.2
        · have:p=[]:=List.eq_nil_of_length_eq_zero (by omega)
          subst this
          simp; omega
    · rw [if_neg hc]
      have hn:e=false∨r≠[]:=by
        cases e with
        | false=>exact .inl rfl
        | true=>exact .inr fun c=>hc (by rw [c]; rfl)
      obtain ⟨i1,i2⟩:=findL_spec s p _ f (Nat.le_refl _)
      have hocc:∀ k,p <+: (s.drop f).drop k→∃ m,f≤m∧occ s p m∧(s.drop f).drop k=s.drop m:=fun k h=>by
        have hp:=pre_take.1 h
        rw [List.drop_drop,List.length_drop] at hp
        by_cases hk:f+k≤s.length
        · exact ⟨f+k,by omega,⟨by omega,hp.2⟩,by rw [List.drop_drop]⟩
        · have:p=[]:=List.eq_nil_of_length_eq_zero (by omega)
          subst this
          refine ⟨s.length,hf,⟨by simp,by simp⟩,?_⟩
          rw [List.drop_drop,List.drop_eq_nil_of_le (by omega),List.drop_eq_nil_of_le (by omega)]
      by_cases hf0:findL s p f < 0
      · rw [if_pos hf0]
        simp only [Bool.false_eq_true,false_iff]
        rintro ⟨k,h1,h2⟩
        obtain ⟨m,m1,m2,m3⟩:=hocc k h1
        exact i1 hf0 m m1 m2
      · rw [if_neg hf0]
        obtain ⟨j1,j2,j3⟩:=i2 (by omega)
        rw [go_sem e s r _ j1.1]
        constructor
        · intro h
          refine ⟨(findL s p f).toNat - f,?_,?_⟩
          · rw [List.drop_drop,show f+((findL s p f).toNat - f)=(findL s p f).toNat from by omega]
            exact pre_take.2 ⟨by rw [List.length_drop]; have:=j1.1; omega,j1.2⟩
          · rw [List.drop_drop,List.drop_drop,show f+((findL s p f).toNat - f+p.length)=(findL s p f).toNat+p.length from by omega]; exact h
        · rintro ⟨k,h1,h2⟩
          obtain ⟨m,m1,m2,m3⟩:=hocc k h1
          have:=j3 m m1 m2
          rw [m3,List.drop_drop] at h2
          refine sem_mono (m:=m - (findL s p f).toNat) ?_ hn
          rw [List.drop_drop,show (findL s p f).toNat+p.length+(m - (findL s p f).toNat)=m+p.length from by omega]
          exact h2
theorem has_mate (p s:List UInt8):hasL p s=true↔mate (endL p) (bodyL p) s:=by
  rw [mate_SP]
  unfold hasL
  cases hs:splitL 42 (bodyL p) with
  | nil=>exact absurd hs (splitL_ne 42 _)
  | cons q r=>
    simp only [List.headD_cons,List.tail_cons,Bool.and_eq_true,List.isPrefixOf_iff_prefix,SP]
    constructor
    · rintro ⟨h1,h2⟩; exact ⟨h1,(go_sem _ s r _ h1.length_le).1 h2⟩
    · rintro ⟨h1,h2⟩; exact ⟨h1,(go_sem _ s r _ h1.length_le).2 h2⟩
def nxt (c:UInt8) (s:List UInt8) (come:List Bool) (j:Nat):Bool:=if c=42 then (come.take (j+1)).any id else decide (0 < j)&&(come.getD (j - 1) false&&(s.getD (j - 1) 0==c))
def stepC (s:List UInt8) (come:List Bool) (c:UInt8):List Bool:=(List.range (s.length+1)).map (nxt c s come)
def come0 (s:List UInt8):List Bool:=(List.replicate (s.length+1) false).set 0 true
def comeL (s b:List UInt8):List Bool:=b.foldl (stepC s) (come0 s)
theorem stepC_len (s:List UInt8) (come:List Bool) (c:UInt8):(stepC s come c).length=s.length+1:=by simp [stepC]
theorem come_len (s b:List UInt8):(comeL s b).length=s.length+1:=by
  have:∀ (b:List UInt8) (come:List Bool),come.length=s.length+1→(b.foldl (stepC s) come).length=s.length+1:=by
    intro b; induction b with
    | nil=>intro come h; exact h
    | cons c b ih=>intro come _; exact ih _ (stepC_len s come c)
  exact this b _ (by simp [come0])
theorem stepC_get {s:List UInt8} {come:List Bool} {c:UInt8} {j:Nat} (h:j≤s.length):(stepC s come c).getD j false=nxt c s come j:=by
  simp [stepC,List.getD_eq_getElem?_getD,List.getElem?_map,List.getElem?_range,Nat.lt_succ_of_le h]
def Rch (e:Bool) (s:List UInt8) (come:List Bool) (b:List UInt8):Prop:= ∃ j,j≤s.length∧come.getD j false=true∧mate e b (s.drop j)
theorem any_take {l:List Bool} {n:Nat}:(l.take n).any id=true↔∃ j,j < n∧l.getD j false=true:=by
  rw [List.any_eq_true]
  constructor
  · rintro ⟨x,hx,h⟩
    obtain ⟨j,hj⟩:=List.mem_iff_getElem?.1 hx
    rw [List.getElem?_take] at hj
    split at hj
    · rename_i hlt
      exact ⟨j,hlt,by rw [List.getD_eq_getElem?_getD,hj]; simpa using h⟩
    · simp at hj
  · rintro ⟨j,hj,h⟩
    refine ⟨true,?_,rfl⟩
    rw [List.mem_iff_getElem?]
    refine ⟨j,?_⟩
    rw [List.getElem?_take,if_pos hj]
    rw [List.getD_eq_getElem?_getD] at h
    cases hl:l[j]? with
    | none=>rw [hl] at h; simp at h
    | some x=>rw [hl] at h; simp at h; rw [h]
theorem Rch_step {e:Bool} {s:List UInt8} {come:List Bool} {c:UInt8} {b:List UInt8}:Rch e s come (c :: b)↔Rch e s (stepC s come c) b:=by
  unfold Rch
  constructor
  · rintro ⟨j,h1,h2,h3⟩
    unfold mate at h3
    by_cases hc:c=42
    · rw [if_pos hc] at h3
      obtain ⟨k,h3⟩:=h3
      by_cases hk:j+k≤s.length
      · refine ⟨j+k,hk,?_,by rw [List.drop_drop] at h3; exact h3⟩
        rw [stepC_get hk,nxt,if_pos hc,any_take]
        exact ⟨j,by omega,h2⟩
      · refine ⟨s.length,Nat.le_refl _,?_,?_⟩
        · rw [stepC_get (Nat.le_refl _),nxt,if_pos hc,any_take]
          exact ⟨j,by omega,h2⟩
        · rw [List.drop_drop,List.drop_eq_nil_of_le (by omega)] at h3
          rw [List.drop_eq_nil_of_le (Nat.le_refl _)]; exact h3
    · rw [if_neg hc] at h3
      obtain ⟨t',h3,h4⟩:=h3
      have hj:j < s.length:=by
        by_cases hj:j < s.length
        · exact hj
        · rw [List.drop_eq_nil_of_le (by omega)] at h3; cases h3
      rw [drop_cons hj 0,List.cons.injEq] at h3
      refine ⟨j+1,by omega,?_,by rw [h3.2]; exact h4⟩
      rw [stepC_get (by omega),nxt,if_neg hc]
      simp only [Nat.add_sub_cancel,h2,h3.1]; simp
  · rintro ⟨j,h1,h2,h3⟩
    rw [stepC_get h1,nxt] at h2
    by_cases hc:c=42
    · rw [if_pos hc,any_take] at h2
      obtain ⟨i,hi,h2⟩:=h2
      refine ⟨i,by omega,h2,?_⟩
      unfold mate; rw [if_pos hc]
      exact ⟨j - i,by rw [List.drop_drop,show i+(j - i)=j from by omega]; exact h3⟩
    · rw [if_neg hc] at h2
      simp only [Bool.and_eq_true,decide_eq_true_eq,beq_iff_eq] at h2
      obtain ⟨h4,h5,h6⟩:=h2
      refine ⟨j - 1,by omega,h5,?_⟩
      unfold mate; rw [if_neg hc]
      refine ⟨s.drop j,?_,h3⟩
      rw [drop_cons (by omega:j - 1 < s.length) 0,h6,show j - 1+1=j from by omega]
theorem Rch_fold {e:Bool} {s:List UInt8}:∀ (b:List UInt8) {come:List Bool},Rch e s come b↔Rch e s (b.foldl (stepC s) come) []
  | [],come=>Iff.rfl
  | c :: b,come=>by rw [Rch_step,List.foldl_cons]; exact Rch_fold b
theorem Rch_0 {e:Bool} {s b:List UInt8}:Rch e s (come0 s) b↔mate e b s:=by
  unfold Rch come0
  constructor
  · rintro ⟨j,h1,h2,h3⟩
    rw [List.getD_eq_getElem?_getD,List.getElem?_set] at h2
    split at h2
    · rename_i h; rw [← h] at h3; simpa using h3
    · rw [List.getElem?_replicate] at h2; split at h2 <;> simp at h2
  · intro h; exact ⟨0,Nat.zero_le _,by simp [List.getD_eq_getElem?_getD],by simpa using h⟩
def hasI (p s:List UInt8):Bool:=if endL p=true then (comeL s (bodyL p)).getD s.length false else (comeL s (bodyL p)).contains true
theorem hasI_L (p s:List UInt8):hasI p s=hasL p s:=by
  rw [Bool.eq_iff_iff,has_mate,← Rch_0,Rch_fold]
  show _↔Rch (endL p) s (comeL s (bodyL p)) []
  unfold hasI Rch mate
  cases endL p with
  | true=>
    simp only [if_true,Bool.true_eq_false,false_or,List.drop_eq_nil_iff]
    constructor
    · intro h; exact ⟨s.length,Nat.le_refl _,h,Nat.le_refl _⟩
    · rintro ⟨j,h1,h2,h3⟩; rw [show s.length=j from by omega]; exact h2
  | false=>
    simp only [Bool.false_eq_true,if_false,true_or,and_true,List.contains_iff_mem]
    have hl:=come_len s (bodyL p)
    constructor
    · intro h
      obtain ⟨j,hj⟩:=List.mem_iff_getElem?.1 h
      have:=(List.getElem?_eq_some_iff.1 hj).1
      exact ⟨j,by omega,by rw [List.getD_eq_getElem?_getD,hj]; rfl⟩
    · rintro ⟨j,h1,h2⟩
      rw [List.getD_eq_getElem?_getD] at h2
      cases hq:(comeL s (bodyL p))[j]? with
      | none=>rw [hq] at h2; simp at h2
      | some x=>rw [hq] at h2; simp at h2; rw [h2] at hq; exact List.mem_of_getElem? hq
theorem suf_end {p:List UInt8} (h:1≤p.length):sufL p [36]=endL p:=by
  unfold sufL endL
  rw [List.length_singleton,decide_eq_true h,Bool.true_and,drop_cons (by omega:p.length - 1 < p.length) 0,List.drop_eq_nil_of_le (by omega),Bool.eq_iff_iff]
  simp only [beq_iff_eq,decide_eq_true_eq,List.cons.injEq,and_true]
  rw [← UInt8.toNat_inj]; rfl
theorem trim_body {p:List UInt8} (h:1≤p.length):trimL p [36]=bodyL p:=by
  unfold trimL bodyL
  rw [suf_end h]; rfl
theorem rule_eq (p:List UInt8):iRuleOk p=ruleOkL p:=by
  by_cases h:1≤p.length
  · have hp36 :patB 36=false:=by decide
    unfold iRuleOk ruleOkL
    rw [trim_body h,Bool.eq_iff_iff]
    simp only [Bool.and_eq_true,decide_eq_true_eq]
    have key:(bodyL p).all patB=true↔∀ j,j < p.length→okAt p j=true:=by
      rw [List.all_eq_true]
      unfold bodyL
      by_cases he:endL p=true
      · rw [if_pos he]
        have he:(p.getD (p.length - 1) 0).toNat=36:=by unfold endL at he; simpa using he
        constructor
        · intro hx j hj
          unfold okAt
          by_cases e:j=p.length - 1
          · rw [e,he,show decide (p.length - 1+1=p.length)=true from decide_eq_true (by omega)]; simp
          · have:p.getD j 0∈p.take (p.length - 1):=by
              rw [List.mem_iff_getElem?]
              exact ⟨j,by rw [List.getElem?_take,if_pos (by omega),List.getD_eq_getElem?_getD,List.getElem?_eq_getElem hj]; rfl⟩
            rw [hx _ this]; rfl
        · intro hx x hm
          obtain ⟨j,hj⟩:=List.mem_iff_getElem?.1 hm
          rw [List.getElem?_take] at hj
          split at hj
          · rename_i hlt
            have hj2:=(List.getElem?_eq_some_iff.1 hj).1
            have:=hx j hj2
            unfold okAt at this
            rw [show decide (j+1=p.length)=false from decide_eq_false (by omega),Bool.and_false,Bool.or_false,List.getD_eq_getElem?_getD,hj] at this
            exact this
          · simp at hj
      · rw [if_neg he]
        have he: ¬ (p.getD (p.length - 1) 0).toNat=36:=by unfold endL at he; simpa using he
        constructor
        · intro hx j hj
          unfold okAt
          have:p.getD j 0∈p:=by
            rw [List.mem_iff_getElem?]
            exact ⟨j,by rw [List.getD_eq_getElem?_getD,List.getElem?_eq_getElem hj]; rfl⟩
          rw [hx _ this]; rfl
        · intro hx x hm
          obtain ⟨j,hj⟩:=List.mem_iff_getElem?.1 hm
          have hj2:=(List.getElem?_eq_some_iff.1 hj).1
          have:=hx j hj2
          unfold okAt at this
          have hg:p.getD j 0=x:=by rw [List.getD_eq_getElem?_getD,hj]; rfl
          rw [hg] at this
          simp only [Bool.or_eq_true,Bool.and_eq_true,decide_eq_true_eq] at this
          rcases this with h1 | ⟨h1,h2⟩
          · exact h1
          · exact absurd (by rw [show p.length - 1=j from by omega,hg]; exact h1) he
    rw [key]
    constructor
    · rintro ⟨⟨h1,h2,h3⟩,h4⟩; exact ⟨h1,h2,h3,h4⟩
    · rintro ⟨h1,h2,h3,h4⟩; exact ⟨⟨h1,h2,h3⟩,h4⟩
  · unfold iRuleOk ruleOkL
    rw [decide_eq_false (fun c=>h c.1),decide_eq_false (fun c=>h c.1)]; rfl
end Go.Pd
namespace Go.Pd
def firstB:List Bool→Bool→Int
  | [],_=> -1
  | x :: r,b=>if x=b then 0 else if firstB r b < 0 then -1 else firstB r b+1
theorem firstB_hit:∀ {l:List Bool} {b:Bool} {i:Nat},i < l.length→l.getD i false=b→(∀ j,j < i→l.getD j false≠b)→firstB l b=i
  | [],_,_,h,_,_=>by simp at h
  | x :: r,b,0,_,h,_=>by simp at h; simp [firstB,h]
  | x :: r,b,i+1,hl,h,hn=>by
    have h0:x≠b:=by have:=hn 0 (by omega); simpa using this
    have:=firstB_hit (l:=r) (i:=i) (by simpa using hl) (by simpa using h) (fun j hj=>by have:=hn (j+1) (by omega); simpa using this)
    unfold firstB
    rw [if_neg h0,this,if_neg (by omega)]; simp
theorem firstB_miss:∀ {l:List Bool} {b:Bool},(∀ j,j < l.length→l.getD j false≠b)→firstB l b= -1
  | [],_,_=>rfl
  | x :: r,b,hn=>by
    have h0:x≠b:=by have:=hn 0 (by simp); simpa using this
    have:=firstB_miss (l:=r) (b:=b) (fun j hj=>by have:=hn (j+1) (by simpa using hj); simpa using this)
    unfold firstB
    rw [if_neg h0,this]; rfl
theorem firstB_has:∀ (l:List Bool) (b:Bool),decide (0≤firstB l b)=l.contains b
  | [],_=>rfl
  | x :: r,b=>by
    have ih:=firstB_has r b
    unfold firstB
    by_cases h:x=b
    · subst h; simp
    · rw [if_neg h,List.contains_cons,show (b==x)=false from by simp; exact fun c=>h c.symm,Bool.false_or,← ih]
      congr 1
      apply propext
      split <;> omega
theorem nxt_star {s:List UInt8} {come:List Bool} {j:Nat} (h:j < come.length):nxt 42 s come j=(come.getD j false||(decide (0 < j)&&nxt 42 s come (j - 1))):=by
  unfold nxt
  simp only [if_true]
  rw [take_succ_getD h false,List.any_append]
  simp only [List.any_cons,List.any_nil,id,Bool.or_false]
  rw [Bool.or_comm]
  congr 1
  by_cases hj:0 < j
  · rw [show j - 1+1=j from by omega,decide_eq_true hj]; rfl
  · rw [show j=0 from by omega]; rfl
theorem bset_eq {l:List Bool} {i:Nat} {x:Bool} (h:i < l.length):(l.set i x).getD i false=x:=by
  simp [List.getD_eq_getElem?_getD,h]
theorem bset_ne {l:List Bool} {i j:Nat} {x:Bool} (h:j≠i):(l.set i x).getD j false=l.getD j false:=by
  simp only [List.getD_eq_getElem?_getD,List.getElem?_set_ne (Ne.symm h)]
theorem stepC_of {s:List UInt8} {come nx:List Bool} {c:UInt8} (h1:nx.length=s.length+1) (h2:∀ j,j < s.length+1→nx.getD j false=nxt c s come j):nx=stepC s come c:=by
  apply List.ext_getElem?
  intro j
  by_cases hj:j < s.length+1
  · have h3:=h2 j hj
    rw [← stepC_get (by omega:j≤s.length) (come:=come) (c:=c)] at h3
    have hl:=stepC_len s come c
    rw [List.getD_eq_getElem?_getD,List.getD_eq_getElem?_getD,List.getElem?_eq_getElem (by omega),List.getElem?_eq_getElem (by omega)] at h3
    rw [List.getElem?_eq_getElem (by omega),List.getElem?_eq_getElem (by omega)]
    simpa using h3
  · have hl:=stepC_len s come c
    rw [List.getElem?_eq_none (by omega),List.getElem?_eq_none (by omega)]
theorem come_succ {s b:List UInt8} {i:Nat} (h:i < b.length):comeL s (b.take (i+1))=stepC s (comeL s (b.take i)) (b.getD i 0):=by
  unfold comeL; rw [take_succ_getD h 0,List.foldl_append]; rfl
theorem iRule_len {p:List UInt8} (h:iRuleOk p=true):1≤p.length:=by
  unfold iRuleOk at h
  simp only [Bool.and_eq_true,decide_eq_true_eq] at h; exact h.1.1
theorem ruleHas_f {p s:List UInt8} (h:iRuleOk p=false∨60 < (s.length:Int)):ruleHasL p s=false:=by
  unfold ruleHasL
  rw [← rule_eq]
  rcases h with h | h
  · rw [h]; rfl
  · rw [decide_eq_false (by omega)]; simp
theorem ruleHas_t {p s:List UInt8} (h:iRuleOk p=true∧(s.length:Int)≤60):ruleHasL p s=hasI p s:=by
  unfold ruleHasL
  rw [← rule_eq,h.1,decide_eq_true (by omega),hasI_L]; rfl
end Go.Pd
namespace Go.Pd
open Go.Abs
inductive Ln where
  | none
  | caller (n:List UInt8)
  | rule (l:Bool) (p:List UInt8)
  | wait (v:Nat)
def lnVal:Ln→Value
  | .none=>.nilIface
  | .caller n=>.iface 163 (.agg #[.string (Str n)])
  | .rule l p=>.iface 165 (.agg #[.bool l,.string (Str p)])
  | .wait v=>.iface 168 (.agg #[.int .i64 (v:Int)])
def takeC (gs:List Grp) (b:Bool) (n:List UInt8):List Grp×Bool:=if gs=[]∨b=true then (gs++[⟨[n],[],0⟩],false) else (setLast gs fun z=>⟨z.na++[n],z.ru,z.wa⟩,b)
def takeR (gs:List Grp) (b:Bool) (l:Bool) (p:List UInt8):List Grp×Bool:=if gs=[] then (gs,b) else if lastRu gs < 6 then (setLast gs fun z=>⟨z.na,z.ru++[⟨l,p⟩],z.wa⟩,true) else (gs,true)
def takeW (gs:List Grp) (b:Bool) (v:Nat):List Grp×Bool:=if gs=[] then (gs,b) else (setLast gs fun z=>⟨z.na,z.ru,v⟩,true)
def takeL (gs:List Grp) (b:Bool):Ln→List Grp×Bool
  | .none=>(gs,b)
  | .caller n=>takeC gs b n
  | .rule l p=>takeR gs b l p
  | .wait v=>takeW gs b v
def rdLn (w r:List UInt8):Ln:=if w=[99,97,108,108,101,114] then .caller r else if w=[108,101,116]∨w=[98,97,114] then .rule (w==[108,101,116]) r else if w=[119,97,105,116] then .wait (numL r 20).toNat else .none
def rdOk (w r:List UInt8):Bool:=if w=[99,97,108,108,101,114] then (r==[42])||nameL r else if w=[108,101,116]∨w=[98,97,114] then ruleOkL r else if w=[119,97,105,116] then true else false
def Jn (x:List Grp×Bool):Prop:=0 < lastRu x.1→x.2=true
def stepI (x:List Grp×Bool) (l:List UInt8):List Grp×Bool:=if rdOk (cutL 32 l).1 (cutL 32 l).2.1=true then takeL x.1 x.2 (rdLn (cutL 32 l).1 (cutL 32 l).2.1) else x
theorem setLast_ru {gs:List Grp} {f:Grp→Grp} (h:gs≠[]):lastRu (setLast gs f)=(f (gs.getLast h)).ru.length:=by
  obtain ⟨z,hz⟩:=ex_last h
  subst hz
  rw [setLast_app,lastRu_app]; simp
theorem step_eq {x:List Grp×Bool} (hJ:Jn x) (l:List UInt8):stepI x l=noteStep x l∧Jn (noteStep x l):=by
  obtain ⟨gs,b⟩:=x
  unfold stepI noteStep
  generalize (cutL 32 l).1=w
  generalize (cutL 32 l).2.1=r
  unfold lineL
  simp only
  by_cases h1:w=[99,97,108,108,101,114]
  · subst h1
    have e1:rdOk [99,97,108,108,101,114] r=((r==[42])||nameL r):=if_pos rfl
    have e2:rdLn [99,97,108,108,101,114] r=.caller r:=if_pos rfl
    rw [e1,e2]
    by_cases h2:r=[42]∨nameL r=true
    · have h3:((r==[42])||nameL r)=true:=by simpa using h2
      rw [if_pos h3,if_pos ⟨rfl,h2⟩]
      simp only [takeL,takeC]
      by_cases h4:gs=[]∨b=true
      · rw [if_pos h4,if_pos h4.symm]
        refine ⟨rfl,?_⟩
        intro hc; simp [lastRu_app] at hc
      · rw [if_neg h4,if_neg (fun c=>h4 c.symm)]
        have h5:gs≠[]∧b=false:=by simpa using h4
        refine ⟨by rw [h5.2],?_⟩
        intro hc
        rw [setLast_ru h5.1] at hc
        have:0 < lastRu gs:=by
          unfold lastRu
          rw [List.getLast?_eq_some_getLast h5.1]; exact hc
        have:=hJ this
        simp only at this
        rw [h5.2] at this; cases this
    · have h3: ¬ ((r==[42])||nameL r)=true:=by simpa using h2
      rw [if_neg h3,if_neg (fun c=>h2 c.2)]
      have e3: ¬ (([99,97,108,108,101,114]:List UInt8)=[108,101,116]∨([99,97,108,108,101,114]:List UInt8)=[98,97,114]):=by decide
      by_cases h4:gs=[]
      · rw [if_pos h4]; exact ⟨rfl,hJ⟩
      · rw [if_neg h4,if_neg (fun c=>e3 c.1),if_neg (by decide)]; exact ⟨rfl,hJ⟩
  · rw [if_neg (show ¬ (w=[99,97,108,108,101,114]∧(r=[42]∨nameL r=true)) from fun c=>h1 c.1)]
    by_cases h2:w=[108,101,116]∨w=[98,97,114]
    · have e1:rdOk w r=ruleOkL r:=by unfold rdOk; rw [if_neg h1,if_pos h2]
      have e2:rdLn w r=.rule (w==[108,101,116]) r:=by unfold rdLn; rw [if_neg h1,if_pos h2]
      have e3: ¬ w=[119,97,105,116]:=by rcases h2 with rfl | rfl <;> decide
      rw [e1,e2,if_neg e3]
      by_cases h4:gs=[]
      · rw [if_pos h4]
        refine ⟨?_,hJ⟩
        split
        · simp only [takeL,takeR]; rw [if_pos h4]
        · rfl
      · rw [if_neg h4]
        by_cases h5:ruleOkL r=true
        · rw [if_pos h5]
          simp only [takeL,takeR]
          rw [if_neg h4]
          by_cases h6:lastRu gs < 6
          · rw [if_pos h6,if_pos ⟨h2,h5,h6⟩]; exact ⟨rfl,fun _=>rfl⟩
          · rw [if_neg h6,if_neg (fun c=>h6 c.2.2)]
            have:=hJ (by simp only; omega)
            simp only at this
            rw [this]; exact ⟨rfl,fun _=>rfl⟩
        · rw [if_neg h5,if_neg (fun c=>h5 c.2.1)]; exact ⟨rfl,hJ⟩
    · by_cases h3:w=[119,97,105,116]
      · have e1:rdOk w r=true:=by unfold rdOk; rw [if_neg h1,if_neg h2,if_pos h3]
        have e2:rdLn w r=.wait (numL r 20).toNat:=by unfold rdLn; rw [if_neg h1,if_neg h2,if_pos h3]
        rw [e1,e2,if_pos rfl]
        simp only [takeL,takeW]
        by_cases h4:gs=[]
        · rw [if_pos h4,if_pos h4]; exact ⟨rfl,hJ⟩
        · rw [if_neg h4,if_neg h4,if_neg (fun c=>h2 c.1),if_pos h3]; exact ⟨rfl,fun _=>rfl⟩
      · have e1:rdOk w r=false:=by unfold rdOk; rw [if_neg h1,if_neg h2,if_neg h3]
        rw [e1,if_neg (by decide)]
        refine ⟨?_,?_⟩
        · split
          · rfl
          · first | rfl | (rw [if_neg (fun c=>h2 c.1)])
        · split
          · exact hJ
          · first | exact hJ | (rw [if_neg (fun c=>h2 c.1)]; exact hJ)
theorem fold_eq:∀ (ls:List (List UInt8)) {x:List Grp×Bool},Jn x→ls.foldl stepI x=ls.foldl noteStep x
  | [],_,_=>rfl
  | l :: ls,x,h=>by
    obtain ⟨h1,h2⟩:=step_eq h l
    rw [List.foldl_cons,List.foldl_cons,h1]; exact fold_eq ls h2
theorem notice_eq (t:List UInt8):(((splitL 10 t).take 40).foldl stepI ([],false)).1=noticeL t:=by
  unfold noticeL
  rw [fold_eq _ (x:=([],false)) (by intro h; simp [lastRu] at h)]
end Go.Pd
namespace Go.Pd
theorem any_has {l:List (List UInt8)} {n:List UInt8}:(l.any fun y=>y==n)=l.contains n:=by
  induction l with
  | nil=>rfl
  | cons a r ih=>rw [List.any_cons,List.contains_cons,ih,Bool.beq_comm]
theorem of_flag (n:List UInt8):∀ (gs:List Grp) {x:(List Rul×Nat)×Bool},(gs.foldl (ofStep n) x).2=(x.2||gs.any fun y=>y.na.contains n)
  | [],x=>by simp
  | g :: gs,x=>by
    rw [List.foldl_cons,of_flag n gs,List.any_cons]
    unfold ofStep
    rw [any_has]
    split
    · rename_i h; rw [h]; simp
    · rename_i h; simp only [Bool.not_eq_true] at h; rw [h]; simp
theorem ofL_flag (gs:List Grp) (n:List UInt8):(ofL gs n).2=gs.any fun y=>y.na.contains n:=by
  unfold ofL; simp only; rw [of_flag]; simp
def askedL (gs:List Grp) (n:List UInt8):List UInt8:=if (gs.any fun y=>y.na.contains n)=true then n else [42]
theorem forL_asked (gs:List Grp) (n:List UInt8):(forL gs n).ru=(gs.foldl (ofStep (askedL gs n)) (([],0),false)).1.1∧(forL gs n).wa=(gs.foldl (ofStep (askedL gs n)) (([],0),false)).1.2:=by
  unfold forL askedL
  rw [ofL_flag]
  split <;> exact ⟨rfl,rfl⟩
theorem ofStep_1 {n:List UInt8} {x:(List Rul×Nat)×Bool} {g:Grp}:(ofStep n x g).1=if g.na.contains n=true then (x.1.1++g.ru,max x.1.2 g.wa) else x.1:=by
  unfold ofStep
  rw [any_has]
  split <;> rfl
theorem getD_all {α:Type} {l:List α} {d:α} {p:α→Prop} (h:∀ x,x∈l→p x) (hd:p d) (i:Nat):p (l.getD i d):=by
  rw [List.getD_eq_getElem?_getD]
  cases e:l[i]? with
  | none=>exact hd
  | some x=>exact h x (List.mem_of_getElem? e)
end Go.Pd
namespace Go.Abs
open Go Go.RowKit
section
variable {w w':World} {Pb Kb Pb':Nat→Prop} {N:Nat} {A A' B:AS} {a:Act} {F:Root→List Nat} {P:Program} {ops:Array Oper}
theorem at_agg0 {g o:Nat} {v:V} {vs:List V} {p:List Nat}:V.at g o (.agg (v :: vs)) (0 :: p)=V.at g (o+0) v p:=rfl
theorem set_agg0 {v u:V} {vs:List V} {p:List Nat}:V.set (.agg (v :: vs)) (0 :: p) u=.agg (V.set v p u :: vs):=rfl
theorem uok_put {X:Type} {v:X→V} {d:Nat} {Sl Hl:List Nat} (h:d∈Sl) (fs:List Nat):UOkX (fun x B=>AS.put B (some d) (v x)) fs Sl Hl where
  g:=fun g B t ht=>by rw [AS.get_put,if_neg (fun c=>ht (by rw [c]; exact h))]
  h:=fun g B k hk=>rfl
  c:=fun g B B' hB=>put_AEq hB
  p :=fun g B q v' hq _=>⟨fun q2=>by
    rw [AS.get_put,AS.get_put,AS.get_put,AS.get_put]
    by_cases c:q2=d
    · subst c; rw [if_pos rfl,if_neg (fun c=>hq (by rw [← c]; exact h)),if_pos rfl]
    · rw [if_neg c,if_neg c],fun k=>rfl⟩
  q:=fun g B k gv hq=>⟨fun _=>rfl,fun _=>rfl⟩
def boE : Eu P where
  X:=Nat
  pre N o A Sl _:=match o.op,o.dst with
    | .buildSlice T len parts,some d=>match tD P T with
      | some (.sl e)=>match ti P e,partsV A 0 parts.toList with
        | some i,some vs=>match bsB P T e len i vs&&Nat.blt d N&&Nat.blt 0 len&&Sl.contains d with
          | true=>True
          | false=>False
        | _,_=>False
      | _=>False
    | _,_=>False
  U o A g B:=match o.op,o.dst with
    | .buildSlice T len parts,some d=>match tD P T with
      | some (.sl e)=>match ti P e,partsV A 0 parts.toList with
        | some i,some vs=>B.put (some d) (.own i.sz vs g 0 len)
        | _,_=>B
      | _=>B
    | _,_=>B
  uok :=by
    rintro N ⟨dst,op,ty,pos,after,gd0⟩ A Sl Hl hp fs
    simp only at hp
    split at hp
    · rename_i T len parts d
      split at hp
      · rename_i e e1
        split at hp
        · rename_i i vs e2 e3
          split at hp
          · rename_i e4
            simp only [Bool.and_eq_true,List.contains_eq_mem,decide_eq_true_eq] at e4
            exact uok_put (v:=fun g:Nat=>.own i.sz vs g 0 len) e4.2 fs
          · exact hp.elim
        · exact hp.elim
      · exact hp.elim
    · exact hp.elim
  ok := by
    rintro N ⟨dst,op,ty,pos,after,gd0⟩ A A' Sl Hl - hp hA hR
    simp only at hp
    split at hp
    · rename_i T len parts d
      split at hp
      · rename_i e e1
        split at hp
        · rename_i i vs e2 e3
          split at hp
          · rename_i e4
            simp only [Bool.and_eq_true] at e4
            have hvs:partsV A' 0 parts.toList=some vs:=by
              rw [parts_congr parts.toList 0 fun t ht=>hA t (by simpa [Op.operands] using ht)]; exact e3
            exact opT_bsO rfl rfl (blt_of e4.1.1.2) e1 e2 hvs e4.1.1.1 (blt_of e4.1.2) fun g=>⟨g,by simp only [e1,e2,e3]⟩
          · exact hp.elim
        · exact hp.elim
      · exact hp.elim
    · exact hp.elim
theorem uok_setput {X:Type} {v:X→V} {d k:Nat} {p:List Nat} {Sl Hl:List Nat} (h:d∈Sl) (hk:k∈Hl) (fs:List Nat):UOkX (fun x B=>AS.put (AS.setAt B (.key k) p .dead) (some d) (v x)) fs Sl Hl where
  g:=fun g B t ht=>by rw [AS.get_put,if_neg (fun c=>ht (by rw [c]; exact h))]; exact setAt_get_key
  h:=fun g B q hq=>setAt_lk (fun c=>hq (by rw [c]; exact hk))
  c:=fun g B B' hB=>put_AEq ⟨fun q=>by rw [setAt_get_key,setAt_get_key]; exact hB.1 q,fun k=>setAt_lk_eq hB.2⟩
  p :=fun g B q v' hq _=>⟨fun q2=>by
    rw [AS.get_put,AS.get_put,AS.get_put]
    by_cases c:q2=d
    · subst c; rw [if_pos rfl,if_neg (fun c=>hq (by rw [← c]; exact h)),if_pos rfl]
    · rw [if_neg c]
      by_cases c2:q2=q
      · subst c2; rw [if_pos rfl,setAt_get_key,AS.get_put,if_pos rfl]
      · rw [if_neg c2,if_neg c,setAt_get_key,setAt_get_key,AS.get_put,if_neg c2],fun k=>setAt_lk_eq fun _=>rfl⟩
  q:=fun g B q gv hq=>cons_put (setAt_cons (fun c=>hq (by rw [c]; exact hk)))
def axE (k:Nat) (p:List Nat) (xs ys:List V) (g0 o0 sz g o1 c:Nat):Eu P where
  X:=Nat×Nat×Nat
  pre N o A Sl Hl:=match o.op,o.dst with
    | .call ⟨.builtin .append,⟨[.tmp t0,x]⟩,⟨[T,T2]⟩⟩,some d=>match o.type==T&&Nat.blt d N&&Sl.contains d&&Hl.contains k,tysApp P T T2 with
      | true,some t=>match A.ev x with
        | .sl _ ys'=>ys'=ys∧A.get t0=.hd (.key k) p sz g o1 0 xs.length c∧A.at (.key k) p=some (g0,o0,.own sz xs g o1 c)∧sz=t.sz∧V.ownsL ys=false∧AllN t.sz ys∧(xs.length+ys.length) * t.by_≤140737488355328
        | _=>False
      | _,_=>False
    | _,_=>False
  U o A gh B:=match o.dst with
    | some d=>(B.setAt (.key k) p .dead).put (some d) (.own sz (xs++ys) gh.1 gh.2.1 gh.2.2)
    | none=>B
  uok :=by
    rintro N ⟨dst,op,ty,pos,after,gd0⟩ A Sl Hl hp fs
    simp only at hp
    split at hp
    · rename_i t0 x T T2 d
      split at hp
      · rename_i t e1 e2
        simp only [Bool.and_eq_true,List.contains_eq_mem,decide_eq_true_eq] at e1
        exact uok_setput (v:=fun gh:Nat×Nat×Nat=>.own sz (xs++ys) gh.1 gh.2.1 gh.2.2) e1.1.2 e1.2 fs
      · exact hp.elim
    · exact hp.elim
  ok := by
    rintro N ⟨dst,op,ty,pos,after,gd0⟩ A A' Sl Hl - hp hA hR
    simp only at hp
    split at hp
    · rename_i t0 x T T2 d
      split at hp
      · rename_i t e1 e2
        split at hp
        · rename_i fl ys' e3
          obtain ⟨rfl,k1,k2,k3,k4,k5,k6⟩:=hp
          simp only [Bool.and_eq_true,beq_iff_eq] at e1
          obtain ⟨e,e',q1,q2,q3,q4,q5,q6⟩:=tysApp_of e2
          subst k3
          obtain ⟨⟨⟨rfl,e5⟩,_⟩,_⟩:=e1
          have hx:A'.ev x=A.ev x:=ev_congr fun t ht=>hA t (by subst ht; simp [Op.operands,Call.operands])
          have h0:A'.get t0=A.get t0:=hA t0 (by simp [Op.operands,Call.operands])
          refine opT_appX rfl rfl rfl (blt_of e5) q1 q2 q3 (zOk_of q4) q5 q6 (by rw [h0]; exact k1) (by simp only [AS.at,hR]; simpa only [AS.at] using k2) rfl rfl (by unfold rdL; rw [hx,e3]) trivial k4 k5 k6 fun g o c=>⟨(g,o,c),rfl⟩
        · exact hp.elim
      · exact hp.elim
    · exact hp.elim
end
end Go.Abs
namespace Go.Proofs.YthliifpcaahnnaaGreatDoor
open Go Go.Abs Go.RowKit Go.Pd
set_option maxRecDepth 20000
def idx1_c (s:List UInt8) (c:UInt8):Con Tryz.prog:={ f:=94,args:=[sV s,sV [c]],pre:=True,res:=iV (Lib.indexByte s c),ok:=fun _=>idx1_ok s c }
def any_c (s:List UInt8):Con Tryz.prog:={ f:=63,args:=[sV s,sV [47,63]],pre:=(s.length≤1000000)∧(∀ c,c∈s→c.toNat < 128),res:=iV (Lib.indexAny s [47,63]),ok:=fun h=>any_ok s h.1 h.2 }
def join_c (l:List (List UInt8)) (sep:List UInt8):Con Tryz.prog:={ f:=83,args:=[.sl false (l.map sV),sV sep],pre:=(l.length≤1000000)∧((Lib.join l sep).length≤1000000),res:=sV (Lib.join l sep),ok:=fun h=>join_ok false l sep h.1 h.2 }
def has_c (l:List (List UInt8)) (x:List UInt8):Con Tryz.prog:={ f:=118,args:=[.sl false (l.map sV),sV x],pre:=(l.length≤1000000),res:=bV (l.contains x),ok:=fun h=>has_ok false l x h }
def split_c (s:List UInt8) (c:UInt8):Con Tryz.prog:={ f:=139,args:=[sV s,sV [c],iV 0,iV (-1)],pre:=(s.length≤1000000),res:=.sl true ((splitC c s).map sV),ok:=fun h=>split_ok s c h }
def clone_c (l:List (List UInt8)):Con Tryz.prog:={ f:=49,args:=[.sl false (l.map sV)],pre:=(l.length≤1000000),res:=.ow 1 (l.map sV),ok:=fun h=>clone_ok false l h }
def fig_c (b:UInt8):Con Tryz.prog:={ f:=166,args:=[uN b.toNat],pre:=True,res:=.tup [iV (max (hexL b) 0),bV (decide (0≤hexL b))],ok:=fun _=>fig_ok b }
abbrev slCut_r (s:List UInt8) (c:UInt8):V:=.tup [sV ((cutL c s).1),sV ((cutL c s).2.1),bV ((cutL c s).2.2)]
theorem slCut_ok (s:List UInt8) (c:UInt8) (hs:s.length≤1000000):PF Tryz.prog 61 [sV s,sV [c]] [] (fun r h=>r=(slCut_r s c)∧h=[]):=by
 have hc1:([c]:List UInt8).length=1:=rfl
 refine PF_go1 (N:=23) (rs:=[.tmp 4,.tmp 5,.tmp 6]) Tryz.func61 (by kernel_rfl) rfl rfl rfl (by kernel_rfl)
  (.r 3 [] <| .r 2 [] <| .c (idx1_c s c) [] <| .r 1 [] <| .r 2 [] <| .br (.d 10 <| .r 10 [] <| .r 2 [] <| .nil) (.r 4 [] <| .nil))
  ((fun v1:Int=>(True∧True∧(idx1_c s c).sm∧(True)∧(True)∧True∧True∧Br (geB (Lib.indexByte s c) 0) ((Sx (0:Int) (Lib.indexByte s c) s∧I64 ((Lib.indexByte s c)+v1)∧Sx ((Lib.indexByte s c)+v1) (s.length:Int) s∧True)∧True∧True∧Q (.tup [sV ((s.take (Int.toNat (Lib.indexByte s c))).drop ((0:Int).toNat)),sV ((s.take s.length).drop (Int.toNat ((Lib.indexByte s c)+v1))),bV true]) (slCut_r s c)∧(True)) (True∧True∧Q (.tup [sV s,sV [],bV false]) (slCut_r s c)∧(True)))) ((([c]:List UInt8).length:Nat):Int))
  (by kernel_rfl) ?_
 refine ⟨trivial,trivial,rfl,trivial,trivial,trivial,trivial,?_⟩
 refine ⟨fun hb1=>?_,fun hb1=>?_⟩
 · try simp only [nb] at hb1
   have hlt:=idx_lt s c hb1
   refine ⟨⟨by omega,by omega,by omega,trivial⟩,trivial,?_⟩
   refine ⟨trivial,?_,trivial⟩
   unfold Q slCut_r
   rw [cutL_yes hb1,hc1,show (Lib.indexByte s c+((1:Nat):Int)).toNat=(Lib.indexByte s c).toNat+1 from by omega,List.take_length]; rfl
 · try simp only [nb] at hb1
   refine ⟨trivial,?_⟩
   refine ⟨trivial,?_,trivial⟩
   unfold Q slCut_r
   rw [cutL_no (by omega)]
def slCut_c (s:List UInt8) (c:UInt8):Con Tryz.prog:={ f:=61,args:=[sV s,sV [c]],H:=[],pre:=(s.length≤1000000),res:=slCut_r s c,H':=[],ok:=fun h=>slCut_ok s c h }
abbrev cut_r (s:List UInt8) (c:UInt8):V:=.tup [sV ((cutL c s).1),sV ((cutL c s).2.1),bV ((cutL c s).2.2)]
theorem cut_ok (s:List UInt8) (c:UInt8) (hs:s.length≤1000000):PF Tryz.prog 31 [sV s,sV [c]] [] (fun r h=>r=(cut_r s c)∧h=[]):=by
 refine PF_go1 (N:=13) (rs:=[.tmp 4,.tmp 5,.tmp 6]) Tryz.func31 (by kernel_rfl) rfl rfl rfl (by kernel_rfl)
  (.r 3 [] <| .r 2 [] <| .c (slCut_c s c) [] <| .r 6 [] <| .nil)
  (True∧True∧(slCut_c s c).sm∧(True)∧((s.length≤1000000))∧True∧True∧Q (.tup [sV ((cutL c s).1),sV ((cutL c s).2.1),bV ((cutL c s).2.2)]) (cut_r s c)∧(True))
  (by kernel_rfl) ?_
 refine ⟨trivial,trivial,rfl,trivial,by first | assumption | omega | (simp; omega),trivial,?_⟩
 refine ⟨trivial,?_,trivial⟩
 unfold Q cut_r
 rfl
def cut_c (s:List UInt8) (c:UInt8):Con Tryz.prog:={ f:=31,args:=[sV s,sV [c]],H:=[],pre:=(s.length≤1000000),res:=cut_r s c,H':=[],ok:=fun h=>cut_ok s c h }
theorem sSplit_ok (s:List UInt8) (c:UInt8) (hs:s.length≤1000000):PF Tryz.prog 101 [sV s,sV [c]] [] (fun r h=>r=(.sl true ((splitL c s).map sV))∧h=[]):=by
 refine PF_go1 (N:=8) (rs:=[.tmp 4]) Tryz.func101 (by kernel_rfl) rfl rfl rfl (by kernel_rfl)
  (.r 1 [] <| .r 2 [] <| .c (split_c s c) [] <| .r 1 [] <| .nil)
  (True∧True∧(split_c s c).sm∧(True)∧((s.length≤1000000))∧True∧True∧Q (.sl true ((splitC c s).map sV)) (.sl true ((splitL c s).map sV))∧(True))
  (by kernel_rfl) ?_
 refine ⟨trivial,trivial,rfl,trivial,by first | assumption | omega | (simp; omega),trivial,?_⟩
 refine ⟨trivial,?_,trivial⟩
 unfold Q
 rw [splitC_L]
def sSplit_c (s:List UInt8) (c:UInt8):Con Tryz.prog:={ f:=101,args:=[sV s,sV [c]],H:=[],pre:=(s.length≤1000000),res:=.sl true ((splitL c s).map sV),H':=[],ok:=fun h=>sSplit_ok s c h }
end Go.Proofs.YthliifpcaahnnaaGreatDoor
namespace Go.Proofs.YthliifpcaahnnaaGreatDoor
open Go Go.Abs Go.RowKit Go.Pd
set_option maxRecDepth 20000
theorem shr4 (n:Nat):(.lit (.int .u8 (Int.fdiv (n:Int) (2 ^ 4))):V)=.lit (.int .u8 ((n / 16:Nat):Int)):=by
  congr 2; rw [Int.fdiv_eq_ediv_of_nonneg _ (by decide)]; omega
theorem and15 (n:Nat):(.lit (.int .u8 ((n &&& 15:Nat):Int)):V)=.lit (.int .u8 ((n % 16:Nat):Int)):=by
  congr 3; exact Nat.and_two_pow_sub_one_eq_mod n 4
abbrev smallLetters_k0 (s:List UInt8) (i:Nat) (l:List UInt8) (g:Nat) (k:Nat):Prop:=i≤s.length∧l.length=s.length∧l=lowerL (s.take i)++s.drop i
theorem smallLetters_ok (s:List UInt8) (hs:s.length≤1099511627776):PF Tryz.prog 65 [sV s] [] (fun r h=>r=(sV (lowerL s))∧h=[]):=by
 refine PF_go1 (N:=29) (rs:=[.tmp 2]) Tryz.func65 (by kernel_rfl) rfl rfl rfl (by kernel_rfl)
  (.r 1 [] <| .r 1 [] <| .sb s (fun g7 c7=>.r 1 [] <| .r 3 [] <| .loop (Nat×(List UInt8)×Nat×Nat) (fun (i,l,g,k)=>⟨[(3,.own 1 (l.map u8V) g 0 k),(8,.hd (.slot 3) [] 1 g 0 0 ((l.map u8V).length) k),(9,iN s.length),(10,iN i)],[]⟩) (fun (i,l,g,k)=>smallLetters_k0 s i l g k) (fun (i,l,g,k)=>s.length - i) (fun (i,l,g,k)=>.r 1 [] <| .br (.r 5 [uN ((l.getD i 0).toNat)] <| .r 6 [] <| .br (.r 4 [] <| .h (.eqt 24 (uN ((smallB (l.getD i 0)).toNat))) <| .r 1 [] <| .st (some (uN ((l.getD i 0).toNat))) <| .h (.eqt 3 (.own 1 ((l.set i (smallB (l.getD i 0))).map u8V) g 0 k)) <| .r 2 [] <| .nil) (.r 2 [] <| .nil)) (.r 1 [] <| .by_ l <| .r 1 [] <| .nil))))
  (True∧True∧((sV s:V)=sV s)∧∀ g7 c7:Nat,True∧True∧(∃ x:Nat×(List UInt8)×Nat×Nat,match x with | (i₀,l₀,g₀,k₀)=>(smallLetters_k0 s i₀ l₀ g₀ k₀)∧(Q (.own 1 (s.map u8V) g7 0 c7) (.own 1 (l₀.map u8V) g₀ 0 k₀)∧Q (.hd (.slot 3) [] 1 g7 0 0 ((s.map u8V).length) c7) (.hd (.slot 3) [] 1 g₀ 0 0 ((l₀.map u8V).length) k₀)∧Q (iN ((s.map u8V).length)) (iN s.length)∧Q (iN 0) (iN i₀)∧True)∧True)∧∀ x:Nat×(List UInt8)×Nat×Nat,match x with | (i,l,g,k)=>(smallLetters_k0 s i l g k)→(fun v1:Int=>(fun v2:V=>True∧Br (ltB (i:Int) (s.length:Int)) ((In (i:Int) ((l.map u8V).length)∧(V.at g 0 v2 [0+i]=some (g,(0+(0+i) * 1),uN ((l.getD i 0).toNat)))∧True)∧(Gd ((geB v1 65)==true) (True∧True)∧Gd ((geB v1 65)==true) ((Gd ((geB v1 65)==true) (((geB v1 65)==true)=true)∧True)∧True)∧Pk (geB v1 65) ((geB v1 65)==true) true∧True)∧Br ((geB v1 65)&&(leB v1 90)) ((U8r (v1+32)∧True)∧((uN (((l.getD i 0).toNat)+32):V)=uN ((smallB (l.getD i 0)).toNat))∧(In (i:Int) ((l.map u8V).length)∧True)∧(V.at g 0 v2 [0+i]=some (g,(0+(0+i) * 1),uN ((l.getD i 0).toNat)))∧(V.set v2 [0+i] (uN ((smallB (l.getD i 0)).toNat))=.own 1 ((l.set i (smallB (l.getD i 0))).map u8V) g 0 k)∧(I64 ((i:Int)+1)∧True)∧∃ x:Nat×(List UInt8)×Nat×Nat,match x with | (i₂,l₂,g₂,k₂)=>(smallLetters_k0 s i₂ l₂ g₂ k₂)∧(s.length - i₂ < s.length - i)∧(Q (.own 1 ((l.set i (smallB (l.getD i 0))).map u8V) g 0 k) (.own 1 (l₂.map u8V) g₂ 0 k₂)∧Q (.hd (.slot 3) [] 1 g 0 0 ((l.map u8V).length) k) (.hd (.slot 3) [] 1 g₂ 0 0 ((l₂.map u8V).length) k₂)∧E (iN s.length)∧Q (iN (i+1)) (iN i₂)∧True)∧True) ((I64 ((i:Int)+1)∧True)∧∃ x:Nat×(List UInt8)×Nat×Nat,match x with | (i₂,l₂,g₂,k₂)=>(smallLetters_k0 s i₂ l₂ g₂ k₂)∧(s.length - i₂ < s.length - i)∧(Q v2 (.own 1 (l₂.map u8V) g₂ 0 k₂)∧Q (.hd (.slot 3) [] 1 g 0 0 ((l.map u8V).length) k) (.hd (.slot 3) [] 1 g₂ 0 0 ((l₂.map u8V).length) k₂)∧E (iN s.length)∧Q (iN (i+1)) (iN i₂)∧True)∧True)) (True∧((1=1∧g=g∧0=0)∧0+((l.map u8V).length)≤(l.map u8V).length∧V.ownsL (l.map u8V)=false∧AllN 1 (l.map u8V))∧(((l.map u8V).drop 0).take ((l.map u8V).length)=l.map u8V)∧True∧True∧Q (sV l) (sV (lowerL s))∧(True))) (.own 1 (l.map u8V) g 0 k)) (((l.getD i 0).toNat:Nat):Int))
  (by kernel_rfl) ?_
 refine ⟨trivial,trivial,rfl,?_⟩
 intro g7 c7
 refine ⟨trivial,trivial,?_⟩
 refine ⟨⟨(0,s,g7,c7),?_,⟨rfl,rfl,by first | rfl | simp | (simp; omega),rfl,trivial⟩,trivial⟩,?_⟩
 · unfold smallLetters_k0
   simp [lowerL]
 rintro ⟨i,l,g,k⟩ ⟨h1,h2,h3⟩
 have hbi:=(l.getD i 0).toNat_lt
 refine ⟨trivial,?_⟩
 refine ⟨fun hb1=>?_,fun hb1=>?_⟩
 · try simp only [nb] at hb1
   refine ⟨⟨by (try simp only [List.length_map] at *); omega,at_el (by rw [Nat.zero_add]; exact getE_map (d:=0) (by omega)),trivial⟩,⟨fun hG=>⟨trivial,trivial⟩,fun hG=>⟨⟨fun h=>h,trivial⟩,trivial⟩,⟨fun h=>by first | (rw [h]; done) | (rw [h]; rfl),fun _=>rfl⟩,trivial⟩,?_⟩
   refine ⟨fun hb2=>?_,fun hb2=>?_⟩
   · try simp only [nb] at hb2
     refine ⟨⟨by have:=UInt8.toNat_lt (l.getD i 0); omega,trivial⟩,(congrArg uN (small_nat (by omega)).symm),⟨by (try simp only [List.length_map] at *); omega,trivial⟩,at_el (by rw [Nat.zero_add]; exact getE_map (d:=0) (by omega)),set_el (by rw [Nat.zero_add]; exact getE_map (d:=0) (by omega)) (by rw [Nat.zero_add]; exact (List.map_set ..).symm),⟨by omega,trivial⟩,?_⟩
     refine ⟨(i+1,l.set i (smallB (l.getD i 0)),g,k),?_,?_,⟨rfl,by first | rfl | simp | (simp; omega),rfl,rfl,trivial⟩,trivial⟩
     · unfold smallLetters_k0
       refine ⟨by omega,by simp [h2],?_⟩
       exact lower_set (by omega) h3
     · first | (simp; done) | omega | (simp; omega)
   · try simp only [nb] at hb2
     refine ⟨⟨by omega,trivial⟩,?_⟩
     refine ⟨(i+1,l,g,k),?_,?_,⟨rfl,rfl,rfl,rfl,trivial⟩,trivial⟩
     · unfold smallLetters_k0
       refine ⟨by omega,h2,?_⟩
       exact lower_keep (by omega) h3 (by omega)
     · first | (simp; done) | omega | (simp; omega)
 · try simp only [nb] at hb1
   refine ⟨trivial,⟨⟨rfl,rfl,rfl⟩,by simp,owns_u8 _,all_u8 _⟩,by simp [List.take_of_length_le],trivial,?_⟩
   refine ⟨trivial,?_,trivial⟩
   unfold Q
   rw [h3,List.drop_eq_nil_of_le (by omega),List.take_of_length_le (by omega),List.append_nil]
def smallLetters_c (s:List UInt8):Con Tryz.prog:={ f:=65,args:=[sV s],H:=[],pre:=(s.length≤1099511627776),res:=sV (lowerL s),H':=[],ok:=fun h=>smallLetters_ok s h }
abbrev signByte_r (s:List UInt8) (i:Nat):V:=.tup [uN ((signF s i).toNat),bV (signOk s i)]
theorem signByte_ok (s:List UInt8) (i:Nat) (hs:s.length≤1000000) (hi:i < s.length):PF Tryz.prog 137 [sV s,iN i] [] (fun r h=>r=(signByte_r s i)∧h=[]):=by
 have q1:=hexL_lt (s.getD (i+1) 0)
 have q2:=hexL_lt (s.getD (i+2) 0)
 have q3:=hexL_ge (s.getD (i+1) 0)
 have q4:=hexL_ge (s.getD (i+2) 0)
 refine PF_go1 (N:=42) (rs:=[.tmp 4,.tmp 5]) Tryz.func137 (by kernel_rfl) rfl rfl rfl (by kernel_rfl)
  (.r 2 [] <| .r 5 [] <| .br (.r 2 [] <| .nil) (.r 4 [] <| .c (fig_c (s.getD (i+1) 0)) [] <| .r 5 [] <| .r 4 [] <| .c (fig_c (s.getD (i+2) 0)) [] <| .r 5 [] <| .r 6 [] <| .br (.r 2 [] <| .nil) (.r 7 [] <| .nil)))
  ((fun v1:Bool=>(True∧(I64 ((s.length:Int) - (i:Int))∧True)∧Br (ltB ((s.length:Int) - (i:Int)) 3) (True∧True∧Q (.tup [uN 0,bV false]) (signByte_r s i)∧(True)) ((I64 ((i:Int)+1)∧Ix ((i+1:Nat):Int) s∧True)∧(fig_c (s.getD (i+1) 0)).sm∧(True)∧(True)∧True∧(I64 ((i:Int)+2)∧Ix ((i+2:Nat):Int) s∧True)∧(fig_c (s.getD (i+2) 0)).sm∧(True)∧(True)∧True∧(Gd (v1==false) (True∧True)∧Gd (v1==false) ((Gd (v1==false) ((v1==false)=true)∧True)∧True)∧Pk v1 true (v1==false)∧True)∧Br (v1||(!(decide (0≤hexL (s.getD (i+2) 0))))) (True∧True∧Q (.tup [uN 0,bV false]) (signByte_r s i)∧(True)) ((I64 ((max (hexL (s.getD (i+1) 0)) 0) * 16)∧I64 (((max (hexL (s.getD (i+1) 0)) 0) * 16)+(max (hexL (s.getD (i+2) 0)) 0))∧U8r (((max (hexL (s.getD (i+1) 0)) 0) * 16)+(max (hexL (s.getD (i+2) 0)) 0))∧True)∧True∧Q (.tup [.lit (.int .u8 (((max (hexL (s.getD (i+1) 0)) 0) * 16)+(max (hexL (s.getD (i+2) 0)) 0))),bV true]) (signByte_r s i)∧(True))))) (!(decide (0≤hexL (s.getD (i+1) 0)))))
  (by kernel_rfl) ?_
 refine ⟨trivial,⟨by omega,trivial⟩,?_⟩
 refine ⟨fun hb1=>?_,fun hb1=>?_⟩
 · try simp only [nb] at hb1
   refine ⟨trivial,?_⟩
   refine ⟨trivial,?_,trivial⟩
   unfold Q signByte_r
   have h:signOk s i=false:=by rw [← Bool.not_eq_true,signOk_iff]; omega
   rw [signF_no h,h]; rfl
 · try simp only [nb] at hb1
   refine ⟨⟨by omega,by omega,trivial⟩,rfl,trivial,trivial,trivial,⟨by omega,by omega,trivial⟩,rfl,trivial,trivial,trivial,⟨fun hG=>⟨trivial,trivial⟩,fun hG=>⟨⟨fun h=>h,trivial⟩,trivial⟩,⟨fun _=>rfl,fun h=>by first | (rw [h]; done) | (rw [h]; rfl)⟩,trivial⟩,?_⟩
   refine ⟨fun hb2=>?_,fun hb2=>?_⟩
   · try simp only [nb] at hb2
     refine ⟨trivial,?_⟩
     refine ⟨trivial,?_,trivial⟩
     unfold Q signByte_r
     have h:signOk s i=false:=by
       rw [← Bool.not_eq_true,signOk_iff]; grind
     rw [signF_no h,h]; rfl
   · try simp only [nb] at hb2
     refine ⟨⟨by have:=hexL_lt (s.getD (i+1) 0); have:=hexL_ge (s.getD (i+1) 0); omega,by have:=hexL_lt (s.getD (i+1) 0); have:=hexL_ge (s.getD (i+1) 0); have:=hexL_lt (s.getD (i+2) 0); have:=hexL_ge (s.getD (i+2) 0); omega,by have:=hexL_lt (s.getD (i+1) 0); have:=hexL_ge (s.getD (i+1) 0); have:=hexL_lt (s.getD (i+2) 0); have:=hexL_ge (s.getD (i+2) 0); omega,trivial⟩,?_⟩
     refine ⟨trivial,?_,trivial⟩
     unfold Q signByte_r
     have h:signOk s i=true:=by
       rw [signOk_iff]; grind
     have h1:=signOk_iff.1 h
     have h2:=hexB_nat h1.2.1 h1.2.2
     rw [signF_yes h,h]
     show V.tup [.lit (.int .u8 _),_]=V.tup [.lit (.int .u8 _),_]
     rw [h2,Int.max_eq_left h1.2.1,Int.max_eq_left h1.2.2]
def signByte_c (s:List UInt8) (i:Nat):Con Tryz.prog:={ f:=137,args:=[sV s,iN i],H:=[],pre:=(s.length≤1000000)∧(i < s.length),res:=signByte_r s i,H':=[],ok:=fun h=>signByte_ok s i h.1 h.2 }
abbrev iEscNorm_k0 (s:List UInt8) (i:Nat) (o:List UInt8) (g:Nat) (f:Nat) (k:Nat):Prop:=i≤s.length∧o.length≤3 * i∧escL s=(escL (s.drop i)).map (o++ ·)
theorem iEscNorm_ok (s:List UInt8) (hs:s.length≤1000000):PF Tryz.prog 100 [sV s] [] (fun r h=>r=(.tup [sV ((escN s).1),bV ((escN s).2)])∧h=[]):=by
 have hf16:([48,49,50,51,52,53,54,55,56,57,65,66,67,68,69,70]:List UInt8).length=16:=rfl
 refine PF_go1 (N:=51) (rs:=[.tmp 2,.tmp 3]) Tryz.func100 (by kernel_rfl) rfl rfl rfl (by kernel_rfl)
  (.r 2 [] <| .r 3 [] <| .br (.r 2 [] <| .nil) (.r 1 [] <| .r 1 [] <| .h (.own0 4 1) <| .loop (Nat×(List UInt8)×Nat×Nat×Nat) (fun (i,o,g,f,k)=>⟨[(0,sV s),(4,.own 1 (o.map u8V) g f k),(5,iN i)],[]⟩) (fun (i,o,g,f,k)=>iEscNorm_k0 s i o g f k) (fun (i,o,g,f,k)=>s.length - i) (fun (i,o,g,f,k)=>.r 4 [] <| .br (.r 4 [] <| .r 2 [] <| .br (.r 2 [] <| .c (signByte_c s i) [] <| .r 5 [] <| .r 2 [] <| .br (.r 2 [] <| .nil) (.r 2 [] <| .r 3 [] <| .r 1 [] <| .c (stands_c (signF s i)) [] <| .br (.r 2 [] <| .bs <| .ap (fun g39 o39 c39=>.h (.eqt 39 (.own 1 ((o++[(signF s i)]).map u8V) g39 o39 c39)) <| .r 1 [] <| .r 3 [] <| .nil)) (.dx 8 [0,1,2,3,4,5,6,7] [] [] <| .r 1 [] <| .r 1 [] <| .r 1 [] <| .h (.eqt 42 (uN ((signF s i).toNat / 16))) <| .r 1 [] <| .r 1 [] <| .r 1 [] <| .h (.eqt 45 (uN ((signF s i).toNat % 16))) <| .r 1 [] <| .bs <| .ap (fun g48 o48 c48=>.h (.eqt 48 (.own 1 ((o++[37,(([48,49,50,51,52,53,54,55,56,57,65,66,67,68,69,70]:List UInt8).getD ((signF s i).toNat / 16) 0),(([48,49,50,51,52,53,54,55,56,57,65,66,67,68,69,70]:List UInt8).getD ((signF s i).toNat % 16) 0)]).map u8V) g48 o48 c48)) <| .r 1 [] <| .r 3 [] <| .nil)))) (.r 1 [] <| .c (stands_c (s.getD i 0)) [] <| .br (.r 2 [] <| .bs <| .ap (fun g39 o39 c39=>.h (.eqt 39 (.own 1 ((o++[(s.getD i 0)]).map u8V) g39 o39 c39)) <| .r 1 [] <| .r 3 [] <| .nil)) (.dx 8 [0,1,2,3,4,5,6,7] [] [] <| .r 1 [] <| .r 1 [] <| .r 1 [] <| .h (.eqt 42 (uN ((s.getD i 0).toNat / 16))) <| .r 1 [] <| .r 1 [] <| .r 1 [] <| .h (.eqt 45 (uN ((s.getD i 0).toNat % 16))) <| .r 1 [] <| .bs <| .ap (fun g48 o48 c48=>.h (.eqt 48 (.own 1 ((o++[37,(([48,49,50,51,52,53,54,55,56,57,65,66,67,68,69,70]:List UInt8).getD ((s.getD i 0).toNat / 16) 0),(([48,49,50,51,52,53,54,55,56,57,65,66,67,68,69,70]:List UInt8).getD ((s.getD i 0).toNat % 16) 0)]).map u8V) g48 o48 c48)) <| .r 1 [] <| .r 3 [] <| .nil)))) (.r 1 [] <| .by_ o <| .r 2 [] <| .nil))))
  ((fun v1:List UInt8=>(fun v2:V=>(True∧True∧Br (gtB (s.length:Int) 60) (True∧True∧Q (.tup [sV [],bV false]) v2∧(True)) (True∧True∧(∃ x:Nat×(List UInt8)×Nat×Nat×Nat,match x with | (i₀,o₀,g₀,f₀,k₀)=>(iEscNorm_k0 s i₀ o₀ g₀ f₀ k₀)∧(E (sV s)∧Q (.own 1 ([].map u8V) 0 0 0) (.own 1 (o₀.map u8V) g₀ f₀ k₀)∧Q (iN 0) (iN i₀)∧True)∧True)∧∀ x:Nat×(List UInt8)×Nat×Nat×Nat,match x with | (i,o,g,f,k)=>(iEscNorm_k0 s i o g f k)→(fun v3:List V=>(fun v4:List V=>(fun v5:List V=>(fun v6:List V=>(fun v7:Int=>(fun v8:Int=>True∧Br (ltB (i:Int) (s.length:Int)) ((Ix (i:Int) s∧True)∧True∧Br (eqB v7 37) (True∧(signByte_c s i).sm∧(True)∧((s.length≤1000000)∧(i < s.length))∧True∧True∧Br (!(signOk s i)) (True∧True∧Q (.tup [sV [],bV false]) v2∧(True)) (True∧(I64 ((i:Int)+2)∧True)∧True∧(stands_c (signF s i)).sm∧(True)∧(True)∧Br (plainB (signF s i)) (True∧((1,1,g,f,k,(o.map u8V).length)=(1,1,g,f,k,(o.map u8V).length))∧(True)∧(V.ownsL v6=false)∧(AllN 1 v6)∧(((o.map u8V).length+v6.length) * 1≤140737488355328)∧∀ g39 o39 c39:Nat,((.own 1 ((o.map u8V)++v6) g39 o39 c39:V)=.own 1 ((o++[(signF s i)]).map u8V) g39 o39 c39)∧True∧(I64 (((i+2:Nat):Int)+1)∧True)∧∃ x:Nat×(List UInt8)×Nat×Nat×Nat,match x with | (i₂,o₂,g₂,f₂,k₂)=>(iEscNorm_k0 s i₂ o₂ g₂ f₂ k₂)∧(s.length - i₂ < s.length - i)∧(E (sV s)∧Q (.own 1 ((o++[(signF s i)]).map u8V) g39 o39 c39) (.own 1 (o₂.map u8V) g₂ f₂ k₂)∧Q (iN ((i+2)+1)) (iN i₂)∧True)∧True) (True∧True∧(((0:Int)≤4∧(4:Int) < ((8:Nat):Int))∧True)∧Q (.lit (.int .u8 (Int.fdiv v8 (2 ^ 4)))) (uN ((signF s i).toNat / 16))∧(Ix (((signF s i).toNat / 16:Nat):Int) v1∧True)∧True∧(((0:Int)≤v8∧(0:Int)≤15∧U8r v8∧U8r 15)∧True)∧Q (uN (((signF s i).toNat) &&& 15)) (uN ((signF s i).toNat % 16))∧(Ix (((signF s i).toNat % 16:Nat):Int) v1∧True)∧((1,1,g,f,k,(o.map u8V).length)=(1,1,g,f,k,(o.map u8V).length))∧(True)∧(V.ownsL v4=false)∧(AllN 1 v4)∧(((o.map u8V).length+v4.length) * 1≤140737488355328)∧∀ g48 o48 c48:Nat,((.own 1 ((o.map u8V)++v4) g48 o48 c48:V)=.own 1 ((o++[37,(v1.getD ((signF s i).toNat / 16) 0),(v1.getD ((signF s i).toNat % 16) 0)]).map u8V) g48 o48 c48)∧True∧(I64 (((i+2:Nat):Int)+1)∧True)∧∃ x:Nat×(List UInt8)×Nat×Nat×Nat,match x with | (i₂,o₂,g₂,f₂,k₂)=>(iEscNorm_k0 s i₂ o₂ g₂ f₂ k₂)∧(s.length - i₂ < s.length - i)∧(E (sV s)∧Q (.own 1 ((o++[37,(v1.getD ((signF s i).toNat / 16) 0),(v1.getD ((signF s i).toNat % 16) 0)]).map u8V) g48 o48 c48) (.own 1 (o₂.map u8V) g₂ f₂ k₂)∧Q (iN ((i+2)+1)) (iN i₂)∧True)∧True))) (True∧(stands_c (s.getD i 0)).sm∧(True)∧(True)∧Br (plainB (s.getD i 0)) (True∧((1,1,g,f,k,(o.map u8V).length)=(1,1,g,f,k,(o.map u8V).length))∧(True)∧(V.ownsL v5=false)∧(AllN 1 v5)∧(((o.map u8V).length+v5.length) * 1≤140737488355328)∧∀ g39 o39 c39:Nat,((.own 1 ((o.map u8V)++v5) g39 o39 c39:V)=.own 1 ((o++[(s.getD i 0)]).map u8V) g39 o39 c39)∧True∧(I64 ((i:Int)+1)∧True)∧∃ x:Nat×(List UInt8)×Nat×Nat×Nat,match x with | (i₂,o₂,g₂,f₂,k₂)=>(iEscNorm_k0 s i₂ o₂ g₂ f₂ k₂)∧(s.length - i₂ < s.length - i)∧(E (sV s)∧Q (.own 1 ((o++[(s.getD i 0)]).map u8V) g39 o39 c39) (.own 1 (o₂.map u8V) g₂ f₂ k₂)∧Q (iN (i+1)) (iN i₂)∧True)∧True) (True∧True∧(((0:Int)≤4∧(4:Int) < ((8:Nat):Int))∧True)∧Q (.lit (.int .u8 (Int.fdiv v7 (2 ^ 4)))) (uN ((s.getD i 0).toNat / 16))∧(Ix (((s.getD i 0).toNat / 16:Nat):Int) v1∧True)∧True∧(((0:Int)≤v7∧(0:Int)≤15∧U8r v7∧U8r 15)∧True)∧Q (uN (((s.getD i 0).toNat) &&& 15)) (uN ((s.getD i 0).toNat % 16))∧(Ix (((s.getD i 0).toNat % 16:Nat):Int) v1∧True)∧((1,1,g,f,k,(o.map u8V).length)=(1,1,g,f,k,(o.map u8V).length))∧(True)∧(V.ownsL v3=false)∧(AllN 1 v3)∧(((o.map u8V).length+v3.length) * 1≤140737488355328)∧∀ g48 o48 c48:Nat,((.own 1 ((o.map u8V)++v3) g48 o48 c48:V)=.own 1 ((o++[37,(v1.getD ((s.getD i 0).toNat / 16) 0),(v1.getD ((s.getD i 0).toNat % 16) 0)]).map u8V) g48 o48 c48)∧True∧(I64 ((i:Int)+1)∧True)∧∃ x:Nat×(List UInt8)×Nat×Nat×Nat,match x with | (i₂,o₂,g₂,f₂,k₂)=>(iEscNorm_k0 s i₂ o₂ g₂ f₂ k₂)∧(s.length - i₂ < s.length - i)∧(E (sV s)∧Q (.own 1 ((o++[37,(v1.getD ((s.getD i 0).toNat / 16) 0),(v1.getD ((s.getD i 0).toNat % 16) 0)]).map u8V) g48 o48 c48) (.own 1 (o₂.map u8V) g₂ f₂ k₂)∧Q (iN (i+1)) (iN i₂)∧True)∧True))) (True∧((1=1∧g=g∧f=f)∧0+((o.map u8V).length)≤(o.map u8V).length∧V.ownsL (o.map u8V)=false∧AllN 1 (o.map u8V))∧(((o.map u8V).drop 0).take ((o.map u8V).length)=o.map u8V)∧True∧True∧Q (.tup [sV o,bV true]) v2∧(True))) (((signF s i).toNat:Nat):Int)) (((s.getD i 0).toNat:Nat):Int)) ([uN ((signF s i).toNat)]:List V)) ([uN ((s.getD i 0).toNat)]:List V)) ([uN 37,uN ((v1.getD ((signF s i).toNat / 16) 0).toNat),uN ((v1.getD ((signF s i).toNat % 16) 0).toNat)]:List V)) ([uN 37,uN ((v1.getD ((s.getD i 0).toNat / 16) 0).toNat),uN ((v1.getD ((s.getD i 0).toNat % 16) 0).toNat)]:List V)))) (.tup [sV ((escN s).1),bV ((escN s).2)])) ([48,49,50,51,52,53,54,55,56,57,65,66,67,68,69,70]:List UInt8))
  (by kernel_rfl) ?_
 refine ⟨trivial,trivial,?_⟩
 refine ⟨fun hb1=>?_,fun hb1=>?_⟩
 · try simp only [nb] at hb1
   refine ⟨trivial,?_⟩
   refine ⟨trivial,?_,trivial⟩
   unfold Q
   rw [show escN s=([],false) from if_neg (by omega)]
 · try simp only [nb] at hb1
   refine ⟨trivial,trivial,?_⟩
   refine ⟨⟨(0,[],0,0,0),?_,⟨rfl,rfl,rfl,trivial⟩,trivial⟩,?_⟩
   · unfold iEscNorm_k0
     refine ⟨by omega,by simp,?_⟩
     cases h:escL s <;> simp [h]
   rintro ⟨i,o,g,f,k⟩ ⟨hi,ho,hesc⟩
   refine ⟨trivial,?_⟩
   refine ⟨fun hb2=>?_,fun hb2=>?_⟩
   · try simp only [nb] at hb2
     refine ⟨⟨by omega,trivial⟩,trivial,?_⟩
     refine ⟨fun hb3=>?_,fun hb3=>?_⟩
     · try simp only [nb] at hb3
       refine ⟨trivial,rfl,trivial,⟨by first | assumption | omega | (simp; omega),by first | assumption | omega | (simp; omega)⟩,trivial,trivial,?_⟩
       refine ⟨fun hb4=>?_,fun hb4=>?_⟩
       · try simp only [nb] at hb4
         refine ⟨trivial,?_⟩
         refine ⟨trivial,?_,trivial⟩
         unfold Q
         rw [show escN s=([],false) from by unfold escN; rw [hesc,esc_none (by omega) (by omega) (by have:=signOk_iff (s:=s) (i:=i); grind)]; simp]
       · try simp only [nb] at hb4
         refine ⟨trivial,⟨by omega,trivial⟩,trivial,rfl,trivial,trivial,?_⟩
         refine ⟨fun hb5=>?_,fun hb5=>?_⟩
         · try simp only [nb] at hb5
           refine ⟨trivial,rfl,trivial,rfl,by simp [AllN,V.n,V.ns],by simp; omega,?_⟩
           intro g39 o39 c39
           refine ⟨congrArg (V.own 1 · g39 o39 c39) (by rw [List.map_append]; rfl),trivial,⟨by omega,trivial⟩,?_⟩
           refine ⟨((i+2)+1,o++[(signF s i)],g39,o39,c39),?_,?_,⟨rfl,rfl,rfl,trivial⟩,trivial⟩
           · unfold iEscNorm_k0
             have sg:=signOk_iff.1 hb4
             rw [signF_yes hb4] at *
             have he:escB (hexB (s.getD (i+1) 0) (s.getD (i+2) 0))=[(hexB (s.getD (i+1) 0) (s.getD (i+2) 0))]:=by unfold escB; rw [if_pos hb5]
             have hl:=escB_len (hexB (s.getD (i+1) 0) (s.getD (i+2) 0))
             rw [he] at hl
             refine ⟨by omega,by simp; omega,?_⟩
             rw [hesc,esc_sign (by omega) (by omega) (by omega) (by omega),he]
             cases escL (s.drop (i+3)) <;> simp [signL,figs]
           · first | (simp; done) | omega | (simp; omega)
         · try simp only [nb] at hb5
           refine ⟨trivial,trivial,⟨by omega,trivial⟩,by unfold Q; exact shr4 _,⟨by have:=UInt8.toNat_lt (signF s i); omega,trivial⟩,trivial,⟨by have:=UInt8.toNat_lt (signF s i); omega,trivial⟩,by unfold Q; exact and15 _,⟨by have:=UInt8.toNat_lt (signF s i); omega,trivial⟩,rfl,trivial,rfl,by simp [AllN,V.n,V.ns],by simp; omega,?_⟩
           intro g48 o48 c48
           refine ⟨congrArg (V.own 1 · g48 o48 c48) (by rw [List.map_append]; rfl),trivial,⟨by omega,trivial⟩,?_⟩
           refine ⟨((i+2)+1,o++[37,(([48,49,50,51,52,53,54,55,56,57,65,66,67,68,69,70]:List UInt8).getD ((signF s i).toNat / 16) 0),(([48,49,50,51,52,53,54,55,56,57,65,66,67,68,69,70]:List UInt8).getD ((signF s i).toNat % 16) 0)],g48,o48,c48),?_,?_,⟨rfl,rfl,rfl,trivial⟩,trivial⟩
           · unfold iEscNorm_k0
             have sg:=signOk_iff.1 hb4
             rw [signF_yes hb4] at *
             have he:escB (hexB (s.getD (i+1) 0) (s.getD (i+2) 0))=signL (hexB (s.getD (i+1) 0) (s.getD (i+2) 0)):=by unfold escB; rw [if_neg (by rw [hb5]; decide)]
             have hl:=escB_len (hexB (s.getD (i+1) 0) (s.getD (i+2) 0))
             rw [he] at hl
             refine ⟨by omega,by simp; omega,?_⟩
             rw [hesc,esc_sign (by omega) (by omega) (by omega) (by omega),he]
             cases escL (s.drop (i+3)) <;> simp [signL,figs]
           · first | (simp; done) | omega | (simp; omega)
     · try simp only [nb] at hb3
       refine ⟨trivial,rfl,trivial,trivial,?_⟩
       refine ⟨fun hb6=>?_,fun hb6=>?_⟩
       · try simp only [nb] at hb6
         refine ⟨trivial,rfl,trivial,rfl,by simp [AllN,V.n,V.ns],by simp; omega,?_⟩
         intro g39 o39 c39
         refine ⟨congrArg (V.own 1 · g39 o39 c39) (by rw [List.map_append]; rfl),trivial,⟨by omega,trivial⟩,?_⟩
         refine ⟨(i+1,o++[(s.getD i 0)],g39,o39,c39),?_,?_,⟨rfl,rfl,rfl,trivial⟩,trivial⟩
         · unfold iEscNorm_k0
           have he:escB (s.getD i 0)=[(s.getD i 0)]:=by unfold escB; rw [if_pos hb6]
           have hl:=escB_len (s.getD i 0)
           rw [he] at hl
           refine ⟨by omega,by simp; omega,?_⟩
           rw [hesc,esc_plain (by omega) (by omega),he]
           cases escL (s.drop (i+1)) <;> simp [signL,figs]
         · first | (simp; done) | omega | (simp; omega)
       · try simp only [nb] at hb6
         refine ⟨trivial,trivial,⟨by omega,trivial⟩,by unfold Q; exact shr4 _,⟨by have:=UInt8.toNat_lt (s.getD i 0); omega,trivial⟩,trivial,⟨by have:=UInt8.toNat_lt (s.getD i 0); omega,trivial⟩,by unfold Q; exact and15 _,⟨by have:=UInt8.toNat_lt (s.getD i 0); omega,trivial⟩,rfl,trivial,rfl,by simp [AllN,V.n,V.ns],by simp; omega,?_⟩
         intro g48 o48 c48
         refine ⟨congrArg (V.own 1 · g48 o48 c48) (by rw [List.map_append]; rfl),trivial,⟨by omega,trivial⟩,?_⟩
         refine ⟨(i+1,o++[37,(([48,49,50,51,52,53,54,55,56,57,65,66,67,68,69,70]:List UInt8).getD ((s.getD i 0).toNat / 16) 0),(([48,49,50,51,52,53,54,55,56,57,65,66,67,68,69,70]:List UInt8).getD ((s.getD i 0).toNat % 16) 0)],g48,o48,c48),?_,?_,⟨rfl,rfl,rfl,trivial⟩,trivial⟩
         · unfold iEscNorm_k0
           have he:escB (s.getD i 0)=signL (s.getD i 0):=by unfold escB; rw [if_neg (by rw [hb6]; decide)]
           have hl:=escB_len (s.getD i 0)
           rw [he] at hl
           refine ⟨by omega,by simp; omega,?_⟩
           rw [hesc,esc_plain (by omega) (by omega),he]
           cases escL (s.drop (i+1)) <;> simp [signL,figs]
         · first | (simp; done) | omega | (simp; omega)
   · try simp only [nb] at hb2
     refine ⟨trivial,⟨⟨rfl,rfl,rfl⟩,by simp,owns_u8 _,all_u8 _⟩,by simp [List.take_of_length_le],trivial,?_⟩
     refine ⟨trivial,?_,trivial⟩
     unfold Q
     rw [List.drop_eq_nil_of_le (by omega)] at hesc
     rw [show escN s=(o,true) from by unfold escN; rw [hesc,if_pos (by omega)]; simp [escL]]
def iEscNorm_c (s:List UInt8):Con Tryz.prog:={ f:=100,args:=[sV s],H:=[],pre:=(s.length≤1000000),res:=.tup [sV ((escN s).1),bV ((escN s).2)],H':=[],ok:=fun h=>iEscNorm_ok s h }
end Go.Proofs.YthliifpcaahnnaaGreatDoor
namespace Go.Proofs.YthliifpcaahnnaaGreatDoor
open Go Go.Abs Go.RowKit Go.Pd
set_option maxRecDepth 20000
abbrev iPathClean_k0 (ps:List (List UInt8)) (i:Nat) (o:List (List UInt8)) (g:Nat) (f:Nat) (k:Nat):Prop:=i≤ps.length∧o=cleanL (ps.take i)∧o.length≤i
theorem iPathClean_ok (ps:List (List UInt8)) (hs:ps.length≤1099511627776):PF Tryz.prog 102 [.sl false (ps.map sV)] [] (fun r h=>r=(.sl false ((cleanL ps).map sV))∧h=[]):=by
 refine PF_go1 (N:=32) (rs:=[.tmp 2]) Tryz.func102 (by kernel_rfl) rfl rfl rfl (by kernel_rfl)
  (.r 1 [] <| .r 1 [] <| .r 3 [] <| .h (.own0 3 1) <| .loop (Nat×(List (List UInt8))×Nat×Nat×Nat) (fun (i,o,g,f,k)=>⟨[(6,.sl false (ps.map sV)),(7,iN ps.length),(8,iN i),(3,.own 1 (o.map sV) g f k)],[]⟩) (fun (i,o,g,f,k)=>iPathClean_k0 ps i o g f k) (fun (i,o,g,f,k)=>ps.length - i) (fun (i,o,g,f,k)=>.r 1 [] <| .br (.r 3 [sV (ps.getD i [])] <| .r 1 [] <| .r 2 [] <| .join (Bool) (fun c=>⟨[(6,.sl false (ps.map sV)),(7,iN ps.length),(8,iN i),(3,.own 1 (o.map sV) g f k),(9,bV (ltB (i:Int) (ps.length:Int))),(10,.ep (sV (ps.getD i []))),(11,sV (ps.getD i [])),(5,sV (ps.getD i [])),(12,sV (ps.getD i [])),(14,bV ((ps.getD i [])==[])),(13,bV c)],[]⟩) (fun c=>c=decide (ps.getD i []=[]∨ps.getD i []=[46])) (.nil) (.r 2 [] <| .nil) (fun c=>.br (.r 2 [] <| .nil) (.r 2 [] <| .br (.r 3 [] <| .br (.r 5 [] <| .rs <| .h (.eqt 3 (.own 1 (o.dropLast.map sV) g (f+(0+((0:Int).toNat)) * 1) (k - ((0:Int).toNat)))) <| .r 2 [] <| .nil) (.r 2 [] <| .nil)) (.r 2 [] <| .bs <| .ap (fun g29 o29 c29=>.h (.eqt 29 (.own 1 ((o++[(ps.getD i [])]).map sV) g29 o29 c29)) <| .r 1 [] <| .r 2 [] <| .nil))))) (.h (.fz 3) <| .h (.eqt 3 (.sl false (o.map sV))) <| .r 2 [] <| .nil)))
  ((fun v1:V=>(True∧True∧True∧(∃ x:Nat×(List (List UInt8))×Nat×Nat×Nat,match x with | (i₀,o₀,g₀,f₀,k₀)=>(iPathClean_k0 ps i₀ o₀ g₀ f₀ k₀)∧(E v1∧Q (iN ((ps.map sV).length)) (iN ps.length)∧Q (iN 0) (iN i₀)∧Q (.own 1 ([].map sV) 0 0 0) (.own 1 (o₀.map sV) g₀ f₀ k₀)∧True)∧True)∧∀ x:Nat×(List (List UInt8))×Nat×Nat×Nat,match x with | (i,o,g,f,k)=>(iPathClean_k0 ps i o g f k)→(fun v2:Int=>(fun v3:V=>(fun v4:List V=>(fun v5:V=>(fun v6:Bool=>True∧Br v6 ((Ex (i:Int) (ps.map sV) v3∧True∧True)∧True∧True∧(((ps.getD i [])==[])=true→∃ c:Bool,(c=decide (ps.getD i []=[]∨ps.getD i []=[46]))∧(E v1∧E (iN ps.length)∧E (iN i)∧E v5∧E (bV v6)∧E (.ep v3)∧E v3∧E v3∧E v3∧E (bV ((ps.getD i [])==[]))∧Q (bV ((ps.getD i [])==[])) (bV c)∧True)∧True)∧(((ps.getD i [])==[])=false→True∧∃ c:Bool,(c=decide (ps.getD i []=[]∨ps.getD i []=[46]))∧(E v1∧E (iN ps.length)∧E (iN i)∧E v5∧E (bV v6)∧E (.ep v3)∧E v3∧E v3∧E v3∧E (bV ((ps.getD i [])==[]))∧Q (bV ((ps.getD i [])==([46]:List UInt8))) (bV c)∧True)∧True)∧(∀ c:Bool,(c=decide (ps.getD i []=[]∨ps.getD i []=[46]))→Br c ((I64 ((i:Int)+1)∧True)∧∃ x:Nat×(List (List UInt8))×Nat×Nat×Nat,match x with | (i₂,o₂,g₂,f₂,k₂)=>(iPathClean_k0 ps i₂ o₂ g₂ f₂ k₂)∧(ps.length - i₂ < ps.length - i)∧(E v1∧E (iN ps.length)∧Q (iN (i+1)) (iN i₂)∧Q v5 (.own 1 (o₂.map sV) g₂ f₂ k₂)∧True)∧True) (True∧Br ((ps.getD i [])==([46,46]:List UInt8)) (True∧Br (gtB v2 0) ((I64 (v2 - 1)∧((0:Int)≤(0:Int)∧(0:Int)≤(v2 - 1)∧(v2 - 1)≤((o.map sV).length)∧1=1)∧True)∧((3,1,g,f)=(3,1,g,f))∧((0+((0:Int).toNat))+((Int.toNat (v2 - 1)) - ((0:Int).toNat))≤(o.map sV).length∧(0+((0:Int).toNat))+(k - ((0:Int).toNat))≤k∧V.ownsL (o.map sV)=false)∧((.own 1 (((o.map sV).drop (0+((0:Int).toNat))).take ((Int.toNat (v2 - 1)) - ((0:Int).toNat))) g (f+(0+((0:Int).toNat)) * 1) (k - ((0:Int).toNat)):V)=.own 1 (o.dropLast.map sV) g (f+(0+((0:Int).toNat)) * 1) (k - ((0:Int).toNat)))∧(I64 ((i:Int)+1)∧True)∧∃ x:Nat×(List (List UInt8))×Nat×Nat×Nat,match x with | (i₂,o₂,g₂,f₂,k₂)=>(iPathClean_k0 ps i₂ o₂ g₂ f₂ k₂)∧(ps.length - i₂ < ps.length - i)∧(E v1∧E (iN ps.length)∧Q (iN (i+1)) (iN i₂)∧Q (.own 1 (o.dropLast.map sV) g (f+(0+((0:Int).toNat)) * 1) (k - ((0:Int).toNat))) (.own 1 (o₂.map sV) g₂ f₂ k₂)∧True)∧True) ((I64 ((i:Int)+1)∧True)∧∃ x:Nat×(List (List UInt8))×Nat×Nat×Nat,match x with | (i₂,o₂,g₂,f₂,k₂)=>(iPathClean_k0 ps i₂ o₂ g₂ f₂ k₂)∧(ps.length - i₂ < ps.length - i)∧(E v1∧E (iN ps.length)∧Q (iN (i+1)) (iN i₂)∧Q v5 (.own 1 (o₂.map sV) g₂ f₂ k₂)∧True)∧True)) (True∧((1,1,g,f,k,(o.map sV).length)=(1,1,g,f,k,(o.map sV).length))∧(True)∧(V.ownsL v4=false)∧(AllN 1 v4)∧(((o.map sV).length+v4.length) * 16≤140737488355328)∧∀ g29 o29 c29:Nat,((.own 1 ((o.map sV)++v4) g29 o29 c29:V)=.own 1 ((o++[(ps.getD i [])]).map sV) g29 o29 c29)∧True∧(I64 ((i:Int)+1)∧True)∧∃ x:Nat×(List (List UInt8))×Nat×Nat×Nat,match x with | (i₂,o₂,g₂,f₂,k₂)=>(iPathClean_k0 ps i₂ o₂ g₂ f₂ k₂)∧(ps.length - i₂ < ps.length - i)∧(E v1∧E (iN ps.length)∧Q (iN (i+1)) (iN i₂)∧Q (.own 1 ((o++[(ps.getD i [])]).map sV) g29 o29 c29) (.own 1 (o₂.map sV) g₂ f₂ k₂)∧True)∧True)))) (((.sl false (V.erL (o.map sV)):V)=.sl false (o.map sV))∧True∧True∧Q (.sl false (o.map sV)) (.sl false ((cleanL ps).map sV))∧(True))) (ltB (i:Int) (ps.length:Int))) (.own 1 (o.map sV) g f k)) ([sV (ps.getD i [])]:List V)) (sV (ps.getD i []))) (((o.map sV).length:Nat):Int))) (.sl false (ps.map sV)))
  (by kernel_rfl) ?_
 refine ⟨trivial,trivial,trivial,?_⟩
 refine ⟨⟨(0,[],0,0,0),?_,⟨rfl,by first | rfl | simp | (simp; omega),rfl,rfl,trivial⟩,trivial⟩,?_⟩
 · unfold iPathClean_k0
   simp [cleanL]
 rintro ⟨i,o,g,f,k⟩ ⟨h1,h2,h3⟩
 refine ⟨trivial,?_⟩
 refine ⟨fun hb1=>?_,fun hb1=>?_⟩
 · try simp only [nb] at hb1
   refine ⟨⟨⟨by omega,getE_map (d:=[]) (by omega)⟩,trivial,trivial⟩,trivial,trivial,?_⟩
   refine ⟨fun hb2=>?_,fun hb2=>?_,fun c hc=>?_⟩
   · try simp only [nb] at hb2
     exact ⟨(ps.getD i [])==[],by first | (rw [Bool.eq_iff_iff]; simp_all; done) | grind,⟨rfl,rfl,rfl,rfl,rfl,rfl,rfl,rfl,rfl,rfl,rfl,trivial⟩,trivial⟩
   · try simp only [nb] at hb2
     refine ⟨trivial,?_⟩
     exact ⟨(ps.getD i [])==([46]:List UInt8),by first | (rw [Bool.eq_iff_iff]; simp_all; done) | grind,⟨rfl,rfl,rfl,rfl,rfl,rfl,rfl,rfl,rfl,rfl,rfl,trivial⟩,trivial⟩
   refine ⟨fun hb3=>?_,fun hb3=>?_⟩
   · try simp only [nb] at hb3
     refine ⟨⟨by omega,trivial⟩,?_⟩
     refine ⟨(i+1,o,g,f,k),?_,?_,⟨rfl,rfl,rfl,rfl,trivial⟩,trivial⟩
     · unfold iPathClean_k0
       refine ⟨by omega,?_,by omega⟩
       rw [clean_succ (by omega),← h2,cleanStep,if_pos (by grind)]
     · first | (simp; done) | omega | (simp; omega)
   · try simp only [nb] at hb3
     refine ⟨trivial,?_⟩
     refine ⟨fun hb4=>?_,fun hb4=>?_⟩
     · try simp only [nb] at hb4
       refine ⟨trivial,?_⟩
       refine ⟨fun hb5=>?_,fun hb5=>?_⟩
       · try simp only [nb,List.length_map] at hb5
         refine ⟨⟨by (try simp only [List.length_map] at *); omega,⟨by simp,by simp; omega,by simp; omega,rfl⟩,trivial⟩,rfl,⟨by simp <;> omega,by simp,ownsL_map (fun _=>rfl) _⟩,congrArg (V.own 1 · g (f+(0+((0:Int).toNat)) * 1) (k - ((0:Int).toNat))) (by rw [show (0+Int.toNat 0)=0 from rfl,List.drop_zero,← List.map_take,List.dropLast_eq_take]; congr 2; first | (simp; done) | (simp; omega)),⟨by omega,trivial⟩,?_⟩
         refine ⟨(i+1,o.dropLast,g,f+(0+((0:Int).toNat)) * 1,k - ((0:Int).toNat)),?_,?_,⟨rfl,rfl,rfl,rfl,trivial⟩,trivial⟩
         · unfold iPathClean_k0
           refine ⟨by omega,?_,by simp; omega⟩
           rw [clean_succ (by omega),← h2,cleanStep,if_neg (by grind),if_pos (by grind)]
         · first | (simp; done) | omega | (simp; omega)
       · try simp only [nb,List.length_map] at hb5
         refine ⟨⟨by omega,trivial⟩,?_⟩
         refine ⟨(i+1,o,g,f,k),?_,?_,⟨rfl,rfl,rfl,rfl,trivial⟩,trivial⟩
         · unfold iPathClean_k0
           refine ⟨by omega,?_,by omega⟩
           rw [clean_succ (by omega),← h2,cleanStep,if_neg (by grind),if_pos (by grind)]
           have:o=[]:=List.eq_nil_of_length_eq_zero (by simp at *; omega)
           rw [this]; rfl
         · first | (simp; done) | omega | (simp; omega)
     · try simp only [nb] at hb4
       refine ⟨trivial,rfl,trivial,rfl,by simp [AllN,V.n,V.ns],by simp; omega,?_⟩
       intro g29 o29 c29
       refine ⟨congrArg (V.own 1 · g29 o29 c29) (by simp),trivial,⟨by omega,trivial⟩,?_⟩
       refine ⟨(i+1,o++[(ps.getD i [])],g29,o29,c29),?_,?_,⟨rfl,rfl,rfl,rfl,trivial⟩,trivial⟩
       · unfold iPathClean_k0
         refine ⟨by omega,?_,by simp; omega⟩
         rw [clean_succ (by omega),← h2,cleanStep,if_neg (by grind),if_neg (by grind)]
       · first | (simp; done) | omega | (simp; omega)
 · try simp only [nb] at hb1
   refine ⟨congrArg (V.sl false) (erL_map_id (fun _=>rfl) _),trivial,?_⟩
   refine ⟨trivial,?_,trivial⟩
   unfold Q
   rw [h2,List.take_of_length_le (by omega)]
def iPathClean_c (ps:List (List UInt8)):Con Tryz.prog:={ f:=102,args:=[.sl false (ps.map sV)],H:=[],pre:=(ps.length≤1099511627776),res:=.sl false ((cleanL ps).map sV),H':=[],ok:=fun h=>iPathClean_ok ps h }
end Go.Proofs.YthliifpcaahnnaaGreatDoor
namespace Go.Proofs.YthliifpcaahnnaaGreatDoor
open Go Go.Abs Go.RowKit Go.Pd
set_option maxRecDepth 20000
theorem isNormal_ok (s:List UInt8) (hs:s.length≤1000000):PF Tryz.prog 81 [sV s] [] (fun r h=>r=(bV (normB s))∧h=[]):=by
 refine PF_go1 (N:=16) (rs:=[.tmp 2]) Tryz.func81 (by kernel_rfl) rfl rfl rfl (by kernel_rfl)
  (.r 1 [] <| .r 1 [] <| .c (iEscNorm_c s) [] <| .r 5 [] <| .r 7 [] <| .nil)
  (True∧True∧(iEscNorm_c s).sm∧(True)∧((s.length≤1000000))∧True∧(Gd (((escN s).2)==true) (True∧True)∧Gd (((escN s).2)==true) (True∧True)∧Gd (((escN s).2)==true) ((Gd (((escN s).2)==true) ((((escN s).2)==true)=true)∧(Gd (((escN s).2)==true) ((((escN s).2)==true)=true)∧True))∧True)∧Pk ((escN s).2) (((escN s).2)==true) true∧True)∧True∧Q (bV (((escN s).2)&&(((escN s).1)==s))) (bV (normB s))∧(True))
  (by kernel_rfl) ?_
 refine ⟨trivial,trivial,rfl,trivial,by first | assumption | omega | (simp; omega),trivial,⟨fun hG=>⟨trivial,trivial⟩,fun hG=>⟨trivial,trivial⟩,fun hG=>⟨⟨fun h=>h,⟨fun h=>h,trivial⟩⟩,trivial⟩,⟨fun h=>by first | (rw [h]; done) | (rw [h]; rfl),fun _=>rfl⟩,trivial⟩,?_⟩
 refine ⟨trivial,?_,trivial⟩
 unfold Q
 rfl
def isNormal_c (s:List UInt8):Con Tryz.prog:={ f:=81,args:=[sV s],H:=[],pre:=(s.length≤1000000),res:=bV (normB s),H':=[],ok:=fun h=>isNormal_ok s h }
theorem writePath_ok (a:Adr) (ha:AdrS a):PF Tryz.prog 43 [.agg [sV a.house,.sl false (a.parts.map sV),bV a.asks,sV a.ask]] [] (fun r h=>r=(sV (pathL a))∧h=[]):=by
 have hj:=ha.join
 obtain ⟨z1,z2,z3,z4⟩:=ha
 rw [← join_L] at hj
 refine PF_go1 (N:=16) (rs:=[.tmp 2]) Tryz.func43 (by kernel_rfl) rfl rfl rfl (by kernel_rfl)
  (.bx (fun g1=>.r 1 [] <| .r 2 [.dead] <| .c (join_c a.parts ([47]:List UInt8)) [] <| .r 2 [] <| .r 2 [.dead] <| .br (.r 6 [.dead] <| .r 2 [] <| .nil) (.r 2 [] <| .nil)))
  ((fun v1:List UInt8=>(∀ g1:Nat,True∧(Z g1 1∧True)∧(join_c a.parts v1).sm∧(True)∧((a.parts.length≤1000000)∧((Lib.join a.parts v1).length≤1000000))∧((v1.length+(Lib.join a.parts v1).length≤4611686018427387904)∧True)∧(Z g1 2∧True)∧Br a.asks ((Z g1 3∧(([63]:List UInt8).length+a.ask.length≤4611686018427387904)∧((v1++(Lib.join a.parts v1)).length+(([63]:List UInt8)++a.ask).length≤4611686018427387904)∧True)∧True∧True∧Q (sV ((v1++(Lib.join a.parts v1))++(([63]:List UInt8)++a.ask))) (sV (pathL a))∧(True)) (True∧True∧Q (sV (v1++(Lib.join a.parts v1))) (sV (pathL a))∧(True)))) ([47]:List UInt8))
  (by kernel_rfl) ?_
 intro g1
 refine ⟨trivial,⟨rfl,trivial⟩,rfl,trivial,⟨by first | assumption | omega | (simp; omega),by first | assumption | omega | (simp; omega)⟩,⟨by (try simp only [List.length_append,List.length_cons,List.length_nil]); omega,trivial⟩,⟨rfl,trivial⟩,?_⟩
 refine ⟨fun hb1=>?_,fun hb1=>?_⟩
 · try simp only [nb] at hb1
   refine ⟨⟨rfl,by (try simp only [List.length_append,List.length_cons,List.length_nil]); omega,by (try simp only [List.length_append,List.length_cons,List.length_nil]); omega,trivial⟩,trivial,?_⟩
   refine ⟨trivial,?_,trivial⟩
   unfold Q
   rw [join_L]
   unfold pathL; rw [if_pos (by simpa using hb1)] <;> simp [List.append_assoc]
 · try simp only [nb] at hb1
   refine ⟨trivial,?_⟩
   refine ⟨trivial,?_,trivial⟩
   unfold Q
   rw [join_L]
   unfold pathL; rw [if_neg (by simpa using hb1)]; simp
def writePath_c (a:Adr):Con Tryz.prog:={ f:=43,args:=[.agg [sV a.house,.sl false (a.parts.map sV),bV a.asks,sV a.ask]],H:=[],pre:=(AdrS a),res:=sV (pathL a),H':=[],ok:=fun h=>writePath_ok a h }
theorem writeAddr_ok (a:Adr) (ha:AdrS a):PF Tryz.prog 82 [.agg [sV a.house,.sl false (a.parts.map sV),bV a.asks,sV a.ask]] [] (fun r h=>r=(sV (textL a))∧h=[]):=by
 have hp:=ha.path
 have h1:=ha.1
 refine PF_go1 (N:=9) (rs:=[.tmp 2]) Tryz.func82 (by kernel_rfl) rfl rfl rfl (by kernel_rfl)
  (.bx (fun g1=>.r 1 [] <| .d 6 <| .r 4 [.dead,.dead] <| .c (writePath_c a) [] <| .r 1 [] <| .r 1 [] <| .nil))
  (∀ g1:Nat,True∧(Z g1 0∧(([47,47]:List UInt8).length+a.house.length≤4611686018427387904)∧Z g1 0∧True)∧(writePath_c a).sm∧((AdrS a))∧(((([47,47]:List UInt8)++a.house).length+(pathL a).length≤4611686018427387904)∧True)∧True∧True∧Q (sV ((([47,47]:List UInt8)++a.house)++(pathL a))) (sV (textL a))∧(True))
  (by kernel_rfl) ?_
 intro g1
 refine ⟨trivial,⟨rfl,by (try simp only [List.length_append,List.length_cons,List.length_nil]); omega,rfl,trivial⟩,rfl,by first | assumption | omega | (simp; omega),⟨by (try simp only [List.length_append,List.length_cons,List.length_nil]); omega,trivial⟩,trivial,?_⟩
 refine ⟨trivial,?_,trivial⟩
 unfold Q
 rfl
def writeAddr_c (a:Adr):Con Tryz.prog:={ f:=82,args:=[.agg [sV a.house,.sl false (a.parts.map sV),bV a.asks,sV a.ask]],H:=[],pre:=(AdrS a),res:=sV (textL a),H':=[],ok:=fun h=>writeAddr_ok a h }
abbrev iAddrOk_k0 (a:Adr) (i:Nat):Prop:=i≤a.parts.length∧∀ j,j < i→partOk (a.parts.getD j [])=true
theorem iAddrOk_ok (a:Adr) (ha:AdrS a):PF Tryz.prog 42 [.agg [sV a.house,.sl false (a.parts.map sV),bV a.asks,sV a.ask]] [] (fun r h=>r=(bV (addrOkL a))∧h=[]):=by
 have ht:=ha.text
 obtain ⟨z1,z2,z3,z4⟩:=id ha
 refine PF_go1 (N:=56) (rs:=[.tmp 2]) Tryz.func42 (by kernel_rfl) rfl rfl rfl (by kernel_rfl)
  (.bx (fun g1=>.r 1 [] <| .r 2 [.dead] <| .c (isHouse_c a.house) [] <| .r 7 [.dead] <| .br (.r 1 [] <| .nil) (.r 4 [.dead] <| .loop (Nat) (fun (i:Nat)=>⟨[(1,.ptr (.key 1) [] g1 0),(16,.sl false (a.parts.map sV)),(17,iN a.parts.length),(18,iN i)],[(1,(g1,.agg [sV a.house,.sl false (a.parts.map sV),bV a.asks,sV a.ask]))]⟩) (fun (i:Nat)=>iAddrOk_k0 a i) (fun (i:Nat)=>a.parts.length - i) (fun (i:Nat)=>.r 1 [] <| .br (.r 3 [sV (a.parts.getD i [])] <| .r 12 [] <| .cg (isNormal_c (a.parts.getD i [])) <| .r 2 [] <| .br (.r 1 [] <| .nil) (.r 2 [] <| .nil)) (.r 2 [.dead] <| .c (isNormal_c a.ask) [] <| .r 11 [.dead,.dead] <| .br (.r 1 [] <| .nil) (.r 1 [.dead] <| .c (writeAddr_c a) [] <| .r 3 [] <| .nil))))))
  ((fun v1:Bool=>(fun v2:Bool=>(fun v3:List UInt8=>(fun v4:List UInt8=>(fun v5:V=>(∀ g1:Nat,True∧(Z g1 0∧True)∧(isHouse_c a.house).sm∧(True)∧((a.house.length≤4611686018427387904))∧(Gd v2 (True∧True)∧Gd v2 ((Gd v2 (v2=true)∧True)∧Z g1 1)∧Gd v2 ((Gd v2 (v2=true)∧True)∧True)∧Gd v2 ((Gd v2 (v2=true)∧True)∧True)∧Pk (!(houseL a.house)) true v2∧True)∧Br ((!(houseL a.house))||(gtB (((a.parts.map sV).length:Nat):Int) 5)) (True∧True∧Q (bV false) (bV (addrOkL a))∧(True)) ((Z g1 1∧True)∧(∃ i₀:Nat,(iAddrOk_k0 a i₀)∧(E (.ptr (.key 1) [] g1 0)∧E (.sl false (a.parts.map sV))∧Q (iN ((a.parts.map sV).length)) (iN a.parts.length)∧Q (iN 0) (iN i₀)∧True)∧(Er g1 v5∧True))∧∀ i:Nat,(iAddrOk_k0 a i)→(fun v6:Bool=>(fun v7:Bool=>(fun v8:Bool=>True∧Br (ltB (i:Int) (a.parts.length:Int)) ((Ex (i:Int) (a.parts.map sV) (sV (a.parts.getD i []))∧True∧True)∧(Gd v8 (True∧True)∧Gd v8 ((Gd v8 (v8=true)∧True)∧True)∧Pk ((a.parts.getD i [])==[]) true v8∧Gd v7 (True∧True)∧Gd v7 ((Gd v7 (v7=true)∧True)∧True)∧Pk (((a.parts.getD i [])==[])||((a.parts.getD i [])==v3)) true v7∧Gd v6 (True∧True)∧True)∧Gd v6 ((Gd v6 (v6=true)∧True)∧(((a.parts.getD i []).length≤1000000))∧(isNormal_c (a.parts.getD i [])).sm)∧(Gd v6 ((Gd v6 (v6=true)∧True)∧True)∧Pk ((((a.parts.getD i [])==[])||((a.parts.getD i [])==v3))||((a.parts.getD i [])==v4)) true v6∧True)∧Br (((((a.parts.getD i [])==[])||((a.parts.getD i [])==v3))||((a.parts.getD i [])==v4))||(!(normB (a.parts.getD i [])))) (True∧True∧Q (bV false) (bV (addrOkL a))∧(True)) ((I64 ((i:Int)+1)∧True)∧∃ i₂:Nat,(iAddrOk_k0 a i₂)∧(a.parts.length - i₂ < a.parts.length - i)∧(E (.ptr (.key 1) [] g1 0)∧E (.sl false (a.parts.map sV))∧E (iN a.parts.length)∧Q (iN (i+1)) (iN i₂)∧True)∧(Er g1 v5∧True))) ((Z g1 3∧True)∧(isNormal_c a.ask).sm∧(True)∧((a.ask.length≤1000000))∧(Gd v1 (True∧True)∧Gd v1 ((Gd v1 (v1=true)∧True)∧Z g1 2)∧Gd v1 ((Gd v1 (v1=true)∧True)∧True)∧Gd v1 ((Gd v1 (v1=true)∧True)∧True)∧Gd (v1&&((!a.asks)==true)) (True∧True)∧Gd (v1&&((!a.asks)==true)) ((Gd (v1&&((!a.asks)==true)) ((v1&&((!a.asks)==true))=true)∧True)∧Z g1 3)∧Gd (v1&&((!a.asks)==true)) ((Gd (v1&&((!a.asks)==true)) ((v1&&((!a.asks)==true))=true)∧True)∧True)∧Gd v1 ((Gd v1 (v1=true)∧True)∧Pk (!a.asks) (v1&&((!a.asks)==true)) true)∧Pk (!(normB a.ask)) true v1∧True)∧Br ((!(normB a.ask))||((!a.asks)&&(!(a.ask==[])))) (True∧True∧Q (bV false) (bV (addrOkL a))∧(True)) ((Z g1 0∧True)∧(writeAddr_c a).sm∧(True)∧((AdrS a))∧True∧True∧Q (bV (leB (((textL a).length:Nat):Int) 60)) (bV (addrOkL a))∧(True)))) (((a.parts.getD i [])==[])==false)) ((((a.parts.getD i [])==[])||((a.parts.getD i [])==v3))==false)) (((((a.parts.getD i [])==[])||((a.parts.getD i [])==v3))||((a.parts.getD i [])==v4))==false)))) (.agg [sV a.house,.sl false (a.parts.map sV),bV a.asks,sV a.ask])) ([46,46]:List UInt8)) ([46]:List UInt8)) ((!(houseL a.house))==false)) ((!(normB a.ask))==false))
  (by kernel_rfl) ?_
 intro g1
 refine ⟨trivial,⟨rfl,trivial⟩,rfl,trivial,by first | assumption | omega | (simp; omega),⟨fun hG=>⟨trivial,trivial⟩,fun hG=>⟨⟨fun h=>h,trivial⟩,rfl⟩,fun hG=>⟨⟨fun h=>h,trivial⟩,trivial⟩,fun hG=>⟨⟨fun h=>h,trivial⟩,trivial⟩,⟨fun _=>rfl,fun h=>by first | (rw [h]; done) | (rw [h]; rfl)⟩,trivial⟩,?_⟩
 refine ⟨fun hb1=>?_,fun hb1=>?_⟩
 · try simp only [nb,List.length_map] at hb1
   refine ⟨trivial,?_⟩
   refine ⟨trivial,?_,trivial⟩
   unfold Q
   refine congrArg bV ?_
   unfold addrOkL
   grind
 · try simp only [nb,List.length_map] at hb1
   refine ⟨⟨rfl,trivial⟩,?_⟩
   refine ⟨⟨0,?_,⟨rfl,rfl,by first | rfl | simp | (simp; omega),rfl,trivial⟩,⟨rfl,trivial⟩⟩,?_⟩
   · unfold iAddrOk_k0
     simp
   rintro i ⟨h1,h2⟩
   have z4i:=z4 i
   refine ⟨trivial,?_⟩
   refine ⟨fun hb2=>?_,fun hb2=>?_⟩
   · try simp only [nb] at hb2
     refine ⟨⟨⟨by omega,getE_map (d:=[]) (by omega)⟩,trivial,trivial⟩,⟨fun hG=>⟨trivial,trivial⟩,fun hG=>⟨⟨fun h=>h,trivial⟩,trivial⟩,⟨fun _=>rfl,fun h=>by first | (rw [h]; done) | (rw [h]; rfl)⟩,fun hG=>⟨trivial,trivial⟩,fun hG=>⟨⟨fun h=>h,trivial⟩,trivial⟩,⟨fun _=>rfl,fun h=>by first | (rw [h]; done) | (rw [h]; rfl)⟩,fun hG=>⟨trivial,trivial⟩,trivial⟩,fun hG=>⟨⟨fun h=>h,trivial⟩,by (try simp only [nb] at hG); first | assumption | omega | (simp; omega),rfl⟩,⟨fun hG=>⟨⟨fun h=>h,trivial⟩,trivial⟩,⟨fun _=>rfl,fun h=>by first | (rw [h]; done) | (rw [h]; rfl)⟩,trivial⟩,?_⟩
     refine ⟨fun hb3=>?_,fun hb3=>?_⟩
     · try simp only [nb] at hb3
       refine ⟨trivial,?_⟩
       refine ⟨trivial,?_,trivial⟩
       unfold Q
       refine congrArg bV ?_
       unfold addrOkL
       rw [all_false (i:=i) (d:=[]) (by omega) (by simp only [partOk]; grind)]; simp
     · try simp only [nb] at hb3
       refine ⟨⟨by omega,trivial⟩,?_⟩
       refine ⟨i+1,?_,?_,⟨rfl,rfl,rfl,rfl,trivial⟩,⟨rfl,trivial⟩⟩
       · unfold iAddrOk_k0
         refine ⟨by omega,lt_succ_of h2 ?_⟩
         simp only [partOk]; grind
       · first | (simp; done) | omega | (simp; omega)
   · try simp only [nb] at hb2
     refine ⟨⟨rfl,trivial⟩,rfl,trivial,by first | assumption | omega | (simp; omega),⟨fun hG=>⟨trivial,trivial⟩,fun hG=>⟨⟨fun h=>h,trivial⟩,rfl⟩,fun hG=>⟨⟨fun h=>h,trivial⟩,trivial⟩,fun hG=>⟨⟨fun h=>h,trivial⟩,trivial⟩,fun hG=>⟨trivial,trivial⟩,fun hG=>⟨⟨fun h=>h,trivial⟩,rfl⟩,fun hG=>⟨⟨fun h=>h,trivial⟩,trivial⟩,fun hG=>⟨⟨fun h=>h,trivial⟩,⟨fun h=>by rw [h]; exact (Bool.and_eq_true _ _).mpr ⟨hG,rfl⟩,fun _=>rfl⟩⟩,⟨fun _=>rfl,fun h=>by first | (rw [h]; done) | (rw [h]; rfl)⟩,trivial⟩,?_⟩
     refine ⟨fun hb4=>?_,fun hb4=>?_⟩
     · try simp only [nb] at hb4
       refine ⟨trivial,?_⟩
       refine ⟨trivial,?_,trivial⟩
       unfold Q
       refine congrArg bV ?_
       unfold addrOkL
       rw [all_true (d:=[]) (fun j hj=>h2 j (by omega))]
       grind
     · try simp only [nb] at hb4
       refine ⟨⟨rfl,trivial⟩,rfl,trivial,by first | assumption | exact read_S _,trivial,?_⟩
       refine ⟨trivial,?_,trivial⟩
       unfold Q
       refine congrArg bV ?_
       unfold addrOkL
       rw [all_true (d:=[]) (fun j hj=>h2 j (by omega))]
       grind
def iAddrOk_c (a:Adr):Con Tryz.prog:={ f:=42,args:=[.agg [sV a.house,.sl false (a.parts.map sV),bV a.asks,sV a.ask]],H:=[],pre:=(AdrS a),res:=bV (addrOkL a),H':=[],ok:=fun h=>iAddrOk_ok a h }
abbrev readWay_r (d:List UInt8) (fr:List (List UInt8)) (way:List UInt8):V:=.tup [.agg [sV ((oA (wayL d fr way)).house),.sl false (((oA (wayL d fr way)).parts).map sV),bV ((oA (wayL d fr way)).asks),sV ((oA (wayL d fr way)).ask)],bV ((wayL d fr way).isSome)]
abbrev readWay_k0 (d:List UInt8) (fr:List (List UInt8)) (way:List UInt8) (i:Nat) (o:List (List UInt8)) (g:Nat) (f:Nat) (k:Nat):Prop:=i≤(splitL 47 (cutL 63 way).1).length∧o=fr++((splitL 47 (cutL 63 way).1).take i).map escF∧((splitL 47 (cutL 63 way).1).take i).all escOk=true
theorem readWay_ok (d:List UInt8) (fr:List (List UInt8)) (way:List UInt8) (hh:d.length≤1000) (hf:∀ i,(fr.getD i []).length≤1000) (hl:fr.length≤100) (hw:way.length≤300):PF Tryz.prog 64 [sV d,.sl false (fr.map sV),sV way] [] (fun r h=>r=(readWay_r d fr way)∧h=[]):=by
 have hcut:=cut_le 63 way
 have hsp:=split_len 47 (cutL 63 way).1
 refine PF_go1 (N:=65) (rs:=[.cell 6 29,.tmp 7]) Tryz.func64 (by kernel_rfl) rfl rfl rfl (by kernel_rfl)
  (.al zt29 (fun g6=>.r 1 [] <| .r 1 [] <| .c (cut_c way 63) [] <| .r 7 [] <| .r 1 [] <| .c (iEscNorm_c ((cutL 63 way).2.1)) [] <| .r 5 [] <| .r 2 [] <| .br (.bd zt29 <| .st none <| .r 1 [] <| .nil) (.r 1 [] <| .c (clone_c fr) [] <| .ot 33 (fun g33 o33 c33=>.r 1 [] <| .r 1 [] <| .c (sSplit_c ((cutL 63 way).1) 47) [] <| .r 2 [] <| .loop (Nat×(List (List UInt8))×Nat×Nat×Nat) (fun (i,o,g,f,k)=>⟨[(0,sV d),(6,.ptr (.key 6) [] g6 0),(9,sV ((escN (cutL 63 way).2.1).1)),(10,bV ((cutL 63 way).2.2)),(12,.own 1 (o.map sV) g f k),(35,.sl true ((splitL 47 (cutL 63 way).1).map sV)),(36,iN ((splitL 47 (cutL 63 way).1).length)),(37,iN i)],[(6,(g6,.agg [sV [],.sl true [],bV false,sV []]))]⟩) (fun (i,o,g,f,k)=>readWay_k0 d fr way i o g f k) (fun (i,o,g,f,k)=>(splitL 47 (cutL 63 way).1).length - i) (fun (i,o,g,f,k)=>.r 1 [] <| .br (.r 3 [sV ((splitL 47 (cutL 63 way).1).getD i [])] <| .r 1 [] <| .c (iEscNorm_c ((splitL 47 (cutL 63 way).1).getD i [])) [] <| .r 5 [] <| .r 2 [] <| .br (.bd zt29 <| .st none <| .r 1 [] <| .nil) (.r 2 [] <| .bs <| .ap (fun g52 o52 c52=>.h (.eqt 52 (.own 1 ((o++[(escN ((splitL 47 (cutL 63 way).1).getD i [])).1]).map sV) g52 o52 c52)) <| .r 1 [] <| .r 2 [] <| .nil))) (.h (.fz 12) <| .h (.eqt 12 (.sl false (o.map sV))) <| .r 2 [] <| .c (iPathClean_c o) [] <| .r 2 [] <| .bd zt29 <| .al zt29 (fun g17=>.st none <| .r 1 [.dead] <| .c (iAddrOk_c (⟨d,cleanL o,(cutL 63 way).2.2,(escN (cutL 63 way).2.1).1⟩:Adr)) [] <| .r 1 [] <| .br (.bd zt29 <| .st none <| .r 1 [] <| .nil) (.r 1 [.dead] <| .st none <| .r 1 [] <| .nil))))))))
  ((fun v1:V=>(∀ g6:Nat,True∧True∧(cut_c way 63).sm∧(True)∧((way.length≤1000000))∧True∧True∧(iEscNorm_c ((cutL 63 way).2.1)).sm∧(True)∧((((cutL 63 way).2.1).length≤1000000))∧True∧True∧Br (!((escN ((cutL 63 way).2.1)).2)) (Z g6 0∧True∧(g6=g6∧True)∧Q v1 (readWay_r d fr way)∧(True)) (True∧(clone_c fr).sm∧(True)∧((fr.length≤1000000))∧∀ g33 o33 c33:Nat,True∧True∧(sSplit_c ((cutL 63 way).1) 47).sm∧(True)∧((((cutL 63 way).1).length≤1000000))∧True∧(∃ x:Nat×(List (List UInt8))×Nat×Nat×Nat,match x with | (i₀,o₀,g₀,f₀,k₀)=>(readWay_k0 d fr way i₀ o₀ g₀ f₀ k₀)∧(E (sV d)∧E (.ptr (.key 6) [] g6 0)∧Q (sV ((escN ((cutL 63 way).2.1)).1)) (sV ((escN (cutL 63 way).2.1).1))∧E (bV ((cutL 63 way).2.2))∧Q (.own 1 (fr.map sV) g33 o33 c33) (.own 1 (o₀.map sV) g₀ f₀ k₀)∧Q (.sl true ((splitL 47 ((cutL 63 way).1)).map sV)) (.sl true ((splitL 47 (cutL 63 way).1).map sV))∧Q (iN (((splitL 47 ((cutL 63 way).1)).map sV).length)) (iN ((splitL 47 (cutL 63 way).1).length))∧Q (iN 0) (iN i₀)∧True)∧(Er g6 (.agg [sV [],.sl true [],bV false,sV []])∧True))∧∀ x:Nat×(List (List UInt8))×Nat×Nat×Nat,match x with | (i,o,g,f,k)=>(readWay_k0 d fr way i o g f k)→(fun v2:List V=>True∧Br (ltB (i:Int) (((splitL 47 (cutL 63 way).1).length:Nat):Int)) ((Ex (i:Int) ((splitL 47 (cutL 63 way).1).map sV) (sV ((splitL 47 (cutL 63 way).1).getD i []))∧True∧True)∧True∧(iEscNorm_c ((splitL 47 (cutL 63 way).1).getD i [])).sm∧(True)∧((((splitL 47 (cutL 63 way).1).getD i []).length≤1000000))∧True∧True∧Br (!((escN ((splitL 47 (cutL 63 way).1).getD i [])).2)) (Z g6 0∧True∧(g6=g6∧True)∧Q v1 (readWay_r d fr way)∧(True)) (True∧((1,1,g,f,k,(o.map sV).length)=(1,1,g,f,k,(o.map sV).length))∧(True)∧(V.ownsL v2=false)∧(AllN 1 v2)∧(((o.map sV).length+v2.length) * 16≤140737488355328)∧∀ g52 o52 c52:Nat,((.own 1 ((o.map sV)++v2) g52 o52 c52:V)=.own 1 ((o++[(escN ((splitL 47 (cutL 63 way).1).getD i [])).1]).map sV) g52 o52 c52)∧True∧(I64 ((i:Int)+1)∧True)∧∃ x:Nat×(List (List UInt8))×Nat×Nat×Nat,match x with | (i₂,o₂,g₂,f₂,k₂)=>(readWay_k0 d fr way i₂ o₂ g₂ f₂ k₂)∧((splitL 47 (cutL 63 way).1).length - i₂ < (splitL 47 (cutL 63 way).1).length - i)∧(E (sV d)∧E (.ptr (.key 6) [] g6 0)∧E (sV ((escN (cutL 63 way).2.1).1))∧E (bV ((cutL 63 way).2.2))∧Q (.own 1 ((o++[(escN ((splitL 47 (cutL 63 way).1).getD i [])).1]).map sV) g52 o52 c52) (.own 1 (o₂.map sV) g₂ f₂ k₂)∧E (.sl true ((splitL 47 (cutL 63 way).1).map sV))∧E (iN ((splitL 47 (cutL 63 way).1).length))∧Q (iN (i+1)) (iN i₂)∧True)∧(Er g6 (.agg [sV [],.sl true [],bV false,sV []])∧True))) (((.sl false (V.erL (o.map sV)):V)=.sl false (o.map sV))∧True∧(iPathClean_c o).sm∧(True)∧((o.length≤1099511627776))∧True∧∀ g17:Nat,Z g17 0∧(Z g17 0∧True)∧(iAddrOk_c (⟨d,cleanL o,(cutL 63 way).2.2,(escN (cutL 63 way).2.1).1⟩:Adr)).sm∧(True)∧((AdrS (⟨d,cleanL o,(cutL 63 way).2.2,(escN (cutL 63 way).2.1).1⟩:Adr)))∧True∧Br (!(addrOkL (⟨d,cleanL o,(cutL 63 way).2.2,(escN (cutL 63 way).2.1).1⟩:Adr))) (Z g6 0∧True∧(g6=g6∧True)∧Q v1 (readWay_r d fr way)∧(True)) ((Z g17 0∧True)∧Z g6 0∧True∧(g6=g6∧True)∧Q (.tup [.agg [sV d,.sl false ((cleanL o).map sV),bV ((cutL 63 way).2.2),sV ((escN (cutL 63 way).2.1).1)],bV true]) (readWay_r d fr way)∧(True)))) ([sV ((escN ((splitL 47 (cutL 63 way).1).getD i [])).1)]:List V)))) (.tup [.agg [sV [],.sl false [],bV false,sV []],bV false]))
  (by kernel_rfl) ?_
 intro g6
 refine ⟨trivial,trivial,rfl,trivial,by omega,trivial,trivial,rfl,trivial,by omega,trivial,trivial,?_⟩
 refine ⟨fun hb1=>?_,fun hb1=>?_⟩
 · try simp only [nb] at hb1
   refine ⟨rfl,trivial,?_⟩
   refine ⟨⟨rfl,trivial⟩,?_,trivial⟩
   unfold Q readWay_r
   rw [show wayL d fr way=none from by unfold wayL; rw [show escOk (cutL 63 way).2.1=false from hb1,Bool.and_false]; rfl]; rfl
 · try simp only [nb] at hb1
   refine ⟨trivial,rfl,trivial,by first | assumption | omega | (simp; omega),?_⟩
   intro g33 o33 c33
   refine ⟨trivial,trivial,rfl,trivial,by omega,trivial,?_⟩
   refine ⟨⟨(0,fr,g33,o33,c33),?_,⟨rfl,rfl,by first | rfl | simp | (simp; omega),rfl,rfl,by first | rfl | simp | (simp; omega),by first | rfl | simp | (simp; omega),rfl,trivial⟩,⟨rfl,trivial⟩⟩,?_⟩
   · unfold readWay_k0
     simp
   rintro ⟨i,o,g,f,k⟩ ⟨h1,h2,h3⟩
   have hpl:=split_get 47 (cutL 63 way).1 i
   have hol:o.length≤100+i:=by rw [h2]; simp; omega
   refine ⟨trivial,?_⟩
   refine ⟨fun hb2=>?_,fun hb2=>?_⟩
   · try simp only [nb] at hb2
     refine ⟨⟨⟨by omega,getE_map (d:=[]) (by omega)⟩,trivial,trivial⟩,trivial,rfl,trivial,by omega,trivial,trivial,?_⟩
     refine ⟨fun hb3=>?_,fun hb3=>?_⟩
     · try simp only [nb] at hb3
       refine ⟨rfl,trivial,?_⟩
       refine ⟨⟨rfl,trivial⟩,?_,trivial⟩
       unfold Q readWay_r
       rw [show wayL d fr way=none from by unfold wayL; rw [all_false (i:=i) (d:=[]) (by omega) hb3]; rfl]; rfl
     · try simp only [nb] at hb3
       refine ⟨trivial,rfl,trivial,rfl,by simp [AllN,V.n,V.ns],by simp; omega,?_⟩
       intro g52 o52 c52
       refine ⟨congrArg (V.own 1 · g52 o52 c52) (by simp),trivial,⟨by omega,trivial⟩,?_⟩
       refine ⟨(i+1,o++[(escN ((splitL 47 (cutL 63 way).1).getD i [])).1],g52,o52,c52),?_,?_,⟨rfl,rfl,rfl,rfl,rfl,rfl,rfl,rfl,trivial⟩,⟨rfl,trivial⟩⟩
       · unfold readWay_k0
         refine ⟨by omega,?_,?_⟩
         · rw [h2,take_succ_getD (by omega:i < (splitL 47 (cutL 63 way).1).length) []]; simp [escF]
         · rw [take_succ_getD (by omega:i < (splitL 47 (cutL 63 way).1).length) []]; simp only [List.all_append,h3,List.all_cons,List.all_nil,escOk,Bool.and_true,Bool.true_and]; exact hb3
       · first | (simp; done) | omega | (simp; omega)
   · try simp only [nb] at hb2
     refine ⟨congrArg (V.sl false) (erL_map_id (fun _=>rfl) _),trivial,rfl,trivial,by omega,trivial,?_⟩
     intro g17
     refine ⟨rfl,?_⟩
     have hz:AdrS ⟨d,cleanL o,(cutL 63 way).2.2,(escN (cutL 63 way).2.1).1⟩:=by
       rw [h2,List.take_of_length_le (by omega)]; exact wayS hh hf (by omega)
     refine ⟨⟨rfl,trivial⟩,rfl,trivial,hz,trivial,?_⟩
     refine ⟨fun hb4=>?_,fun hb4=>?_⟩
     · try simp only [nb] at hb4
       refine ⟨rfl,trivial,?_⟩
       refine ⟨⟨rfl,trivial⟩,?_,trivial⟩
       unfold Q readWay_r
       have hall:(splitL 47 (cutL 63 way).1).all escOk=true:=by rw [List.take_of_length_le (by omega)] at h3; exact h3
       rw [List.take_of_length_le (by omega)] at h2
       subst h2
       rw [show wayL d fr way=none from by unfold wayL; rw [hall]; grind [escOk,escF]]; rfl
     · try simp only [nb] at hb4
       refine ⟨⟨rfl,trivial⟩,rfl,trivial,?_⟩
       refine ⟨⟨rfl,trivial⟩,?_,trivial⟩
       unfold Q readWay_r
       have hall:(splitL 47 (cutL 63 way).1).all escOk=true:=by rw [List.take_of_length_le (by omega)] at h3; exact h3
       rw [List.take_of_length_le (by omega)] at h2
       subst h2
       rw [show wayL d fr way=some _ from by unfold wayL; rw [hall,if_pos (by grind [escOk,escF]),if_pos (by grind [escOk,escF])]] <;> rfl
def readWay_c (d:List UInt8) (fr:List (List UInt8)) (way:List UInt8):Con Tryz.prog:={ f:=64,args:=[sV d,.sl false (fr.map sV),sV way],H:=[],pre:=(d.length≤1000)∧(∀ i,(fr.getD i []).length≤1000)∧(fr.length≤100)∧(way.length≤300),res:=readWay_r d fr way,H':=[],ok:=fun h=>readWay_ok d fr way h.1 h.2.1 h.2.2.1 h.2.2.2 }
abbrev readWhole_r (s:List UInt8):V:=.tup [.agg [sV ((oA (readWholeL s)).house),.sl false (((oA (readWholeL s)).parts).map sV),bV ((oA (readWholeL s)).asks),sV ((oA (readWholeL s)).ask)],bV ((readWholeL s).isSome)]
theorem readWhole_ok (s:List UInt8) (hs:s.length≤300) (ha:Asc s):PF Tryz.prog 32 [sV s] [] (fun r h=>r=(readWhole_r s)∧h=[]):=by
 refine PF_go1 (N:=31) (rs:=[.cell 2 29,.tmp 3]) Tryz.func32 (by kernel_rfl) rfl rfl rfl (by kernel_rfl)
  (.al zt29 (fun g2=>.r 1 [] <| .r 1 [] <| .c (cutPrefix_c s ([47,47]:List UInt8)) [] <| .r 5 [] <| .r 2 [] <| .br (.bd zt29 <| .st none <| .r 1 [] <| .nil) (.h (.eqt 10 (sV (s.drop 2))) <| .h (.eqt 4 (sV (s.drop 2))) <| .r 1 [] <| .c (any_c (s.drop 2)) [] <| .r 1 [] <| .r 2 [] <| .br (.r 3 [] <| .d 10 <| .r 3 [] <| .c (smallLetters_c (((s.drop 2).take ((s.drop 2).length)).drop ((0:Int).toNat))) [] <| .r 3 [] <| .c (readWay_c (lowerL (((s.drop 2).take ((s.drop 2).length)).drop ((0:Int).toNat))) ([]:List (List UInt8)) (((s.drop 2).take (s.drop 2).length).drop ((s.drop 2).length))) [] <| .r 2 [] <| .st none <| .r 1 [] <| .nil) (.d 10 <| .r 3 [] <| .c (smallLetters_c (((s.drop 2).take (Int.toNat (Lib.indexAny (s.drop 2) [47,63]))).drop ((0:Int).toNat))) [] <| .r 3 [] <| .c (readWay_c (lowerL (((s.drop 2).take (Int.toNat (Lib.indexAny (s.drop 2) [47,63]))).drop ((0:Int).toNat))) ([]:List (List UInt8)) (((s.drop 2).take (s.drop 2).length).drop (Int.toNat (Lib.indexAny (s.drop 2) [47,63])))) [] <| .r 2 [] <| .st none <| .r 1 [] <| .nil))))
  ((fun v1:List UInt8=>(fun v2:V=>(∀ g2:Nat,True∧True∧(cutPrefix_c s v1).sm∧(True)∧((s.length≤4611686018427387904)∧(v1.length≤4611686018427387904))∧True∧True∧Br (!(preL s v1)) (Z g2 0∧True∧(g2=g2∧True)∧Q (.tup [.agg [sV [],.sl false [],bV false,sV []],bV false]) (readWhole_r s)∧(True)) ((v2=sV (s.drop 2))∧(v2=sV (s.drop 2))∧True∧(any_c (s.drop 2)).sm∧(True)∧(((s.drop 2).length≤1000000)∧(∀ c,c∈(s.drop 2)→c.toNat < 128))∧True∧True∧Br (ltB (Lib.indexAny (s.drop 2) [47,63]) 0) (True∧(Sx (0:Int) (((s.drop 2).length:Nat):Int) (s.drop 2)∧True)∧(smallLetters_c (((s.drop 2).take ((s.drop 2).length)).drop ((0:Int).toNat))).sm∧(((((s.drop 2).take ((s.drop 2).length)).drop ((0:Int).toNat)).length≤1099511627776))∧(Sx (((s.drop 2).length:Nat):Int) ((s.drop 2).length:Int) (s.drop 2)∧True)∧(readWay_c (lowerL (((s.drop 2).take ((s.drop 2).length)).drop ((0:Int).toNat))) ([]:List (List UInt8)) (((s.drop 2).take (s.drop 2).length).drop ((s.drop 2).length))).sm∧(((lowerL (((s.drop 2).take ((s.drop 2).length)).drop ((0:Int).toNat))).length≤1000)∧(∀ i,(([]:List (List UInt8)).getD i []).length≤1000)∧(([]:List (List UInt8)).length≤100)∧((((s.drop 2).take (s.drop 2).length).drop ((s.drop 2).length)).length≤300))∧True∧Z g2 0∧True∧(g2=g2∧True)∧Q (.tup [.agg [sV ((oA (wayL (lowerL (((s.drop 2).take ((s.drop 2).length)).drop ((0:Int).toNat))) ([]:List (List UInt8)) (((s.drop 2).take (s.drop 2).length).drop ((s.drop 2).length)))).house),.sl false (((oA (wayL (lowerL (((s.drop 2).take ((s.drop 2).length)).drop ((0:Int).toNat))) ([]:List (List UInt8)) (((s.drop 2).take (s.drop 2).length).drop ((s.drop 2).length)))).parts).map sV),bV ((oA (wayL (lowerL (((s.drop 2).take ((s.drop 2).length)).drop ((0:Int).toNat))) ([]:List (List UInt8)) (((s.drop 2).take (s.drop 2).length).drop ((s.drop 2).length)))).asks),sV ((oA (wayL (lowerL (((s.drop 2).take ((s.drop 2).length)).drop ((0:Int).toNat))) ([]:List (List UInt8)) (((s.drop 2).take (s.drop 2).length).drop ((s.drop 2).length)))).ask)],bV ((wayL (lowerL (((s.drop 2).take ((s.drop 2).length)).drop ((0:Int).toNat))) ([]:List (List UInt8)) (((s.drop 2).take (s.drop 2).length).drop ((s.drop 2).length))).isSome)]) (readWhole_r s)∧(True)) ((Sx (0:Int) (Lib.indexAny (s.drop 2) [47,63]) (s.drop 2)∧True)∧(smallLetters_c (((s.drop 2).take (Int.toNat (Lib.indexAny (s.drop 2) [47,63]))).drop ((0:Int).toNat))).sm∧(((((s.drop 2).take (Int.toNat (Lib.indexAny (s.drop 2) [47,63]))).drop ((0:Int).toNat)).length≤1099511627776))∧(Sx (Lib.indexAny (s.drop 2) [47,63]) ((s.drop 2).length:Int) (s.drop 2)∧True)∧(readWay_c (lowerL (((s.drop 2).take (Int.toNat (Lib.indexAny (s.drop 2) [47,63]))).drop ((0:Int).toNat))) ([]:List (List UInt8)) (((s.drop 2).take (s.drop 2).length).drop (Int.toNat (Lib.indexAny (s.drop 2) [47,63])))).sm∧(((lowerL (((s.drop 2).take (Int.toNat (Lib.indexAny (s.drop 2) [47,63]))).drop ((0:Int).toNat))).length≤1000)∧(∀ i,(([]:List (List UInt8)).getD i []).length≤1000)∧(([]:List (List UInt8)).length≤100)∧((((s.drop 2).take (s.drop 2).length).drop (Int.toNat (Lib.indexAny (s.drop 2) [47,63]))).length≤300))∧True∧Z g2 0∧True∧(g2=g2∧True)∧Q (.tup [.agg [sV ((oA (wayL (lowerL (((s.drop 2).take (Int.toNat (Lib.indexAny (s.drop 2) [47,63]))).drop ((0:Int).toNat))) ([]:List (List UInt8)) (((s.drop 2).take (s.drop 2).length).drop (Int.toNat (Lib.indexAny (s.drop 2) [47,63]))))).house),.sl false (((oA (wayL (lowerL (((s.drop 2).take (Int.toNat (Lib.indexAny (s.drop 2) [47,63]))).drop ((0:Int).toNat))) ([]:List (List UInt8)) (((s.drop 2).take (s.drop 2).length).drop (Int.toNat (Lib.indexAny (s.drop 2) [47,63]))))).parts).map sV),bV ((oA (wayL (lowerL (((s.drop 2).take (Int.toNat (Lib.indexAny (s.drop 2) [47,63]))).drop ((0:Int).toNat))) ([]:List (List UInt8)) (((s.drop 2).take (s.drop 2).length).drop (Int.toNat (Lib.indexAny (s.drop 2) [47,63]))))).asks),sV ((oA (wayL (lowerL (((s.drop 2).take (Int.toNat (Lib.indexAny (s.drop 2) [47,63]))).drop ((0:Int).toNat))) ([]:List (List UInt8)) (((s.drop 2).take (s.drop 2).length).drop (Int.toNat (Lib.indexAny (s.drop 2) [47,63]))))).ask)],bV ((wayL (lowerL (((s.drop 2).take (Int.toNat (Lib.indexAny (s.drop 2) [47,63]))).drop ((0:Int).toNat))) ([]:List (List UInt8)) (((s.drop 2).take (s.drop 2).length).drop (Int.toNat (Lib.indexAny (s.drop 2) [47,63])))).isSome)]) (readWhole_r s)∧(True))))) (sV (if preL s v1=true then s.drop v1.length else s):V)) ([47,47]:List UInt8))
  (by kernel_rfl) ?_
 intro g2
 refine ⟨trivial,trivial,rfl,trivial,⟨by omega,by simp⟩,trivial,trivial,?_⟩
 refine ⟨fun hb1=>?_,fun hb1=>?_⟩
 · try simp only [nb] at hb1
   refine ⟨rfl,trivial,?_⟩
   refine ⟨⟨rfl,trivial⟩,?_,trivial⟩
   unfold Q readWhole_r
   rw [show readWholeL s=none from if_neg (by rw [hb1]; decide)] <;> rfl
 · try simp only [nb] at hb1
   refine ⟨(by rw [if_pos hb1]; rfl),(by rw [if_pos hb1]; rfl),trivial,rfl,trivial,⟨by simp; omega,ha.drop 2⟩,trivial,trivial,?_⟩
   refine ⟨fun hb2=>?_,fun hb2=>?_⟩
   · try simp only [nb] at hb2
     have hq:=(any_spec (s.drop 2)).1 (by omega)
     refine ⟨trivial,⟨by omega,trivial⟩,rfl,by simp; omega,⟨by omega,trivial⟩,rfl,⟨by simp [lowerL]; omega,by simp,by simp,by first | (simp; done) | (simp; omega)⟩,trivial,rfl,trivial,?_⟩
     refine ⟨⟨rfl,trivial⟩,?_,trivial⟩
     unfold Q readWhole_r
     rw [show readWholeL s=wholeL (s.drop 2) from if_pos hb1]
     unfold wholeL; rw [hq.1,hq.2]; simp [show (s.drop 2).take (s.length - 2)=s.drop 2 from List.take_of_length_le (by simp),show s.drop (2+(s.length - 2))=[] from List.drop_eq_nil_of_le (by omega)]
   · try simp only [nb] at hb2
     have hq:=(any_spec (s.drop 2)).2 (by omega)
     have hq3:=hq.2.2
     refine ⟨⟨by omega,trivial⟩,rfl,by simp; omega,⟨by omega,trivial⟩,rfl,⟨by simp [lowerL]; omega,by simp,by simp,by first | (simp; done) | (simp; omega)⟩,trivial,rfl,trivial,?_⟩
     refine ⟨⟨rfl,trivial⟩,?_,trivial⟩
     unfold Q readWhole_r
     rw [show readWholeL s=wholeL (s.drop 2) from if_pos hb1]
     unfold wholeL; rw [hq.1,hq.2.1]; simp [show (s.drop 2).take (s.length - 2)=s.drop 2 from List.take_of_length_le (by simp)]
def readWhole_c (s:List UInt8):Con Tryz.prog:={ f:=32,args:=[sV s],H:=[],pre:=(s.length≤300)∧(Asc s),res:=readWhole_r s,H':=[],ok:=fun h=>readWhole_ok s h.1 h.2 }
abbrev iAddrRead_r (raw:List UInt8):V:=.tup [.agg [sV ((oA (readL raw)).house),.sl false (((oA (readL raw)).parts).map sV),bV ((oA (readL raw)).asks),sV ((oA (readL raw)).ask)],bV ((readL raw).isSome)]
theorem iAddrRead_ok (raw:List UInt8) (hs:raw.length≤1000000) (ha:Asc raw):PF Tryz.prog 7 [sV raw] [] (fun r h=>r=(iAddrRead_r raw)∧h=[]):=by
 have hcut:=cut_le 35 raw
 refine PF_go1 (N:=21) (rs:=[.cell 2 29,.tmp 3]) Tryz.func7 (by kernel_rfl) rfl rfl rfl (by kernel_rfl)
  (.al zt29 (fun g2=>.r 1 [] <| .r 3 [] <| .br (.bd zt29 <| .st none <| .r 1 [] <| .nil) (.r 1 [] <| .c (cut_c raw 35) [] <| .r 7 [] <| .r 1 [] <| .c (readWhole_c ((cutL 35 raw).1)) [] <| .r 2 [] <| .st none <| .r 1 [] <| .nil)))
  (∀ g2:Nat,True∧True∧Br (gtB (raw.length:Int) 60) (Z g2 0∧True∧(g2=g2∧True)∧Q (.tup [.agg [sV [],.sl false [],bV false,sV []],bV false]) (iAddrRead_r raw)∧(True)) (True∧(cut_c raw 35).sm∧(True)∧((raw.length≤1000000))∧True∧True∧(readWhole_c ((cutL 35 raw).1)).sm∧(True)∧((((cutL 35 raw).1).length≤300)∧(Asc ((cutL 35 raw).1)))∧True∧Z g2 0∧True∧(g2=g2∧True)∧Q (.tup [.agg [sV ((oA (readWholeL ((cutL 35 raw).1))).house),.sl false (((oA (readWholeL ((cutL 35 raw).1))).parts).map sV),bV ((oA (readWholeL ((cutL 35 raw).1))).asks),sV ((oA (readWholeL ((cutL 35 raw).1))).ask)],bV ((readWholeL ((cutL 35 raw).1)).isSome)]) (iAddrRead_r raw)∧(True)))
  (by kernel_rfl) ?_
 intro g2
 refine ⟨trivial,trivial,?_⟩
 refine ⟨fun hb1=>?_,fun hb1=>?_⟩
 · try simp only [nb] at hb1
   refine ⟨rfl,trivial,?_⟩
   refine ⟨⟨rfl,trivial⟩,?_,trivial⟩
   unfold Q iAddrRead_r
   rw [readL_long (by omega)]; rfl
 · try simp only [nb] at hb1
   refine ⟨trivial,rfl,trivial,by omega,trivial,trivial,rfl,trivial,⟨by omega,ha.cut 35⟩,trivial,rfl,trivial,?_⟩
   refine ⟨⟨rfl,trivial⟩,?_,trivial⟩
   unfold Q iAddrRead_r
   rw [readL_whole (by omega)]
def iAddrRead_c (raw:List UInt8):Con Tryz.prog:={ f:=7,args:=[sV raw],H:=[],pre:=(raw.length≤1000000)∧(Asc raw),res:=iAddrRead_r raw,H':=[],ok:=fun h=>iAddrRead_ok raw h.1 h.2 }
abbrev readAddress_r (s:List UInt8):V:=.tup [.agg [sV ((oA (isAd s)).house),.sl false (((oA (isAd s)).parts).map sV),bV ((oA (isAd s)).asks),sV ((oA (isAd s)).ask)],bV ((isAd s).isSome)]
theorem readAddress_ok (s:List UInt8) (hs:s.length≤1000000) (ha:Asc s):PF Tryz.prog 86 [sV s] [] (fun r h=>r=(readAddress_r s)∧h=[]):=by
 refine PF_go1 (N:=21) (rs:=[.cell 2 29,.tmp 3]) Tryz.func86 (by kernel_rfl) rfl rfl rfl (by kernel_rfl)
  (.al zt29 (fun g2=>.r 1 [] <| .r 1 [] <| .c (iAddrRead_c s) [] <| .r 3 [] <| .al zt29 (fun g4=>.st none <| .r 1 [] <| .r 4 [.dead] <| .cg (writeAddr_c (oA (readL s))) <| .r 3 [] <| .br (.bd zt29 <| .st none <| .r 1 [] <| .nil) (.r 1 [.dead] <| .st none <| .r 1 [] <| .nil))))
  ((fun v1:Bool=>(∀ g2:Nat,True∧True∧(iAddrRead_c s).sm∧(True)∧((s.length≤1000000)∧(Asc s))∧True∧∀ g4:Nat,Z g4 0∧True∧(Gd v1 (True∧Z g4 0)∧True)∧Gd v1 ((Gd v1 (v1=true)∧True)∧((AdrS (oA (readL s))))∧(writeAddr_c (oA (readL s))).sm)∧(Gd v1 (True∧True)∧Gd v1 ((Gd v1 (v1=true)∧(Gd v1 (v1=true)∧True))∧True)∧Pk (!((readL s).isSome)) true v1∧True)∧Br ((!((readL s).isSome))||(!((textL (oA (readL s)))==s))) (Z g2 0∧True∧(g2=g2∧True)∧Q (.tup [.agg [sV [],.sl false [],bV false,sV []],bV false]) (readAddress_r s)∧(True)) ((Z g4 0∧True)∧Z g2 0∧True∧(g2=g2∧True)∧Q (.tup [.agg [sV ((oA (readL s)).house),.sl false (((oA (readL s)).parts).map sV),bV ((oA (readL s)).asks),sV ((oA (readL s)).ask)],bV true]) (readAddress_r s)∧(True)))) ((!((readL s).isSome))==false))
  (by kernel_rfl) ?_
 intro g2
 refine ⟨trivial,trivial,rfl,trivial,⟨hs,ha⟩,trivial,?_⟩
 intro g4
 refine ⟨rfl,trivial,⟨fun hG=>⟨trivial,rfl⟩,trivial⟩,fun hG=>⟨⟨fun h=>h,trivial⟩,by (try simp only [nb] at hG); exact read_S _,rfl⟩,⟨fun hG=>⟨trivial,trivial⟩,fun hG=>⟨⟨fun h=>h,⟨fun h=>h,trivial⟩⟩,trivial⟩,⟨fun _=>rfl,fun h=>by first | (rw [h]; done) | (rw [h]; rfl)⟩,trivial⟩,?_⟩
 refine ⟨fun hb1=>?_,fun hb1=>?_⟩
 · try simp only [nb] at hb1
   refine ⟨rfl,trivial,?_⟩
   refine ⟨⟨rfl,trivial⟩,?_,trivial⟩
   unfold Q readAddress_r
   rw [show isAd s=none from if_neg (by rw [isAdr_f (by simpa using hb1)]; decide)] <;> rfl
 · try simp only [nb] at hb1
   refine ⟨⟨rfl,trivial⟩,rfl,trivial,?_⟩
   refine ⟨⟨rfl,trivial⟩,?_,trivial⟩
   unfold Q readAddress_r
   rw [show isAd s=readL s from if_pos (isAdr_t hb1.1 hb1.2),hb1.1]
def readAddress_c (s:List UInt8):Con Tryz.prog:={ f:=86,args:=[sV s],H:=[],pre:=(s.length≤1000000)∧(Asc s),res:=readAddress_r s,H':=[],ok:=fun h=>readAddress_ok s h.1 h.2 }
theorem isAddress_ok (s:List UInt8) (hs:s.length≤1000000) (ha:Asc s):PF Tryz.prog 93 [sV s] [] (fun r h=>r=(bV (isAdrL s))∧h=[]):=by
 refine PF_go1 (N:=11) (rs:=[.tmp 2]) Tryz.func93 (by kernel_rfl) rfl rfl rfl (by kernel_rfl)
  (.r 1 [] <| .r 1 [] <| .c (readAddress_c s) [] <| .r 3 [] <| .al zt29 (fun g3=>.st none <| .r 1 [] <| .r 2 [] <| .nil))
  (True∧True∧(readAddress_c s).sm∧(True)∧((s.length≤1000000)∧(Asc s))∧True∧∀ g3:Nat,Z g3 0∧True∧True∧True∧Q (bV ((isAd s).isSome)) (bV (isAdrL s))∧(True))
  (by kernel_rfl) ?_
 refine ⟨trivial,trivial,rfl,trivial,⟨hs,ha⟩,trivial,?_⟩
 intro g3
 refine ⟨rfl,trivial,trivial,?_⟩
 refine ⟨trivial,?_,trivial⟩
 unfold Q
 rw [isAd_some]
def isAddress_c (s:List UInt8):Con Tryz.prog:={ f:=93,args:=[sV s],H:=[],pre:=(s.length≤1000000)∧(Asc s),res:=bV (isAdrL s),H':=[],ok:=fun h=>isAddress_ok s h.1 h.2 }
end Go.Proofs.YthliifpcaahnnaaGreatDoor
namespace Go.Proofs.YthliifpcaahnnaaGreatDoor
open Go Go.Abs Go.RowKit Go.Pd
set_option maxRecDepth 20000
theorem lk_pg (w:List Pg) (a:List UInt8):((atL w a).2=true∧∃ y,lookL (w.map pgE) a=some y∧(pgV (atL w a).1).val? =some y)∨((atL w a).2=false∧lookL (w.map pgE) a=none∧∃ y,(pgV (atL w a).1).val? =some y∧∀ w,(zeroValue 65).run Tryz.prog w=.ok y w):=by
  rcases look_at a w with ⟨q1,q2,q3⟩ | ⟨q1,q2⟩
  · exact .inr ⟨q2,q1,_,rfl,by rw [q3]; exact Tryz.zeroValue65⟩
  · exact .inl ⟨q2,_,q1,rfl⟩
theorem pageOk_ok (y:Pg) (hy:PgSz y):PF Tryz.prog 59 [.agg [sV y.addr,sV y.text,sV y.lead,iV y.fails]] [] (fun r h=>r=(bV (pgOkL y))∧h=[]):=by
 obtain ⟨y1,y2,y3,y4,y5,y6⟩:=id hy
 refine PF_go1 (N:=36) (rs:=[.tmp 2]) Tryz.func59 (by kernel_rfl) rfl rfl rfl (by kernel_rfl)
  (.bx (fun g1=>.r 1 [] <| .r 2 [.dead] <| .c (isAddress_c y.addr) [] <| .r 17 [.dead,.dead,.dead] <| .br (.r 1 [] <| .nil) (.r 6 [.dead,.dead] <| .cg (isAddress_c y.lead) <| .r 7 [.dead] <| .nil)))
  ((fun v5:Bool=>(fun v6:Bool=>(fun v1:Bool=>(fun v2:Bool=>(fun v3:Bool=>(fun v4:Bool=>(∀ g1:Nat,True∧(Z g1 0∧True)∧(isAddress_c y.addr).sm∧(True)∧((y.addr.length≤1000000)∧(Asc y.addr))∧(Gd v4 (True∧True)∧Gd v4 ((Gd v4 (v4=true)∧True)∧Z g1 1)∧Gd v4 ((Gd v4 (v4=true)∧True)∧True)∧Gd v4 ((Gd v4 (v4=true)∧True)∧True)∧Pk v6 true v4∧Gd v3 (True∧True)∧Gd v3 ((Gd v3 (v3=true)∧True)∧Z g1 3)∧Gd v3 ((Gd v3 (v3=true)∧True)∧True)∧Pk (v6||v5) true v3∧Gd v1 (True∧True)∧Gd v1 ((Gd v1 (v1=true)∧True)∧Z g1 3)∧Gd v1 ((Gd v1 (v1=true)∧True)∧True)∧Pk ((v6||v5)||(ltB y.fails 0)) true v1∧True)∧Br (((v6||v5)||(ltB y.fails 0))||(gtB y.fails 9)) (True∧True∧Q (bV false) (bV (pgOkL y))∧(True)) ((Z g1 2∧Gd v2 (True∧True)∧Gd v2 ((Gd v2 (v2=true)∧True)∧Z g1 2)∧True)∧Gd v2 ((Gd v2 (v2=true)∧True)∧((y.lead.length≤1000000)∧(Asc y.lead))∧(isAddress_c y.lead).sm)∧(Gd v2 ((Gd v2 (v2=true)∧True)∧True)∧Gd (v2&&((isAdrL y.lead)==true)) (True∧True)∧Gd (v2&&((isAdrL y.lead)==true)) ((Gd (v2&&((isAdrL y.lead)==true)) ((v2&&((isAdrL y.lead)==true))=true)∧True)∧Z g1 1)∧Gd (v2&&((isAdrL y.lead)==true)) ((Gd (v2&&((isAdrL y.lead)==true)) ((v2&&((isAdrL y.lead)==true))=true)∧True)∧True)∧Gd v2 ((Gd v2 (v2=true)∧True)∧Pk (isAdrL y.lead) (v2&&((isAdrL y.lead)==true)) true)∧Pk (y.lead==[]) true v2∧True)∧True∧Q (bV ((y.lead==[])||((isAdrL y.lead)&&(y.text==[])))) (bV (pgOkL y))∧(True)))) (v6==false)) ((v6||v5)==false)) ((y.lead==[])==false)) (((v6||v5)||(ltB y.fails 0))==false)) (!(isAdrL y.addr))) (gtB (y.text.length:Int) 300))
  (by kernel_rfl) ?_
 intro g1
 refine ⟨trivial,⟨rfl,trivial⟩,rfl,trivial,⟨by omega,hy.aa⟩,⟨fun hG=>⟨trivial,trivial⟩,fun hG=>⟨⟨fun h=>h,trivial⟩,rfl⟩,fun hG=>⟨⟨fun h=>h,trivial⟩,trivial⟩,fun hG=>⟨⟨fun h=>h,trivial⟩,trivial⟩,⟨fun _=>rfl,fun h=>by first | (rw [h]; done) | (rw [h]; rfl)⟩,fun hG=>⟨trivial,trivial⟩,fun hG=>⟨⟨fun h=>h,trivial⟩,rfl⟩,fun hG=>⟨⟨fun h=>h,trivial⟩,trivial⟩,⟨fun _=>rfl,fun h=>by first | (rw [h]; done) | (rw [h]; rfl)⟩,fun hG=>⟨trivial,trivial⟩,fun hG=>⟨⟨fun h=>h,trivial⟩,rfl⟩,fun hG=>⟨⟨fun h=>h,trivial⟩,trivial⟩,⟨fun _=>rfl,fun h=>by first | (rw [h]; done) | (rw [h]; rfl)⟩,trivial⟩,?_⟩
 refine ⟨fun hb1=>?_,fun hb1=>?_⟩
 · try simp only [nb] at hb1
   refine ⟨trivial,?_⟩
   refine ⟨trivial,?_,trivial⟩
   unfold Q
   refine congrArg bV ?_
   unfold pgOkL inL
   grind
 · try simp only [nb] at hb1
   refine ⟨⟨rfl,fun hG=>⟨trivial,trivial⟩,fun hG=>⟨⟨fun h=>h,trivial⟩,rfl⟩,trivial⟩,fun hG=>⟨⟨fun h=>h,trivial⟩,⟨by (try simp only [nb] at hG); omega,hy.la⟩,rfl⟩,⟨fun hG=>⟨⟨fun h=>h,trivial⟩,trivial⟩,fun hG=>⟨trivial,trivial⟩,fun hG=>⟨⟨fun h=>h,trivial⟩,rfl⟩,fun hG=>⟨⟨fun h=>h,trivial⟩,trivial⟩,fun hG=>⟨⟨fun h=>h,trivial⟩,⟨fun h=>by rw [h]; exact (Bool.and_eq_true _ _).mpr ⟨hG,rfl⟩,fun _=>rfl⟩⟩,⟨fun _=>rfl,fun h=>by first | (rw [h]; done) | (rw [h]; rfl)⟩,trivial⟩,?_⟩
   refine ⟨trivial,?_,trivial⟩
   unfold Q
   refine congrArg bV ?_
   unfold pgOkL inL
   grind
def pageOk_c (y:Pg):Con Tryz.prog:={ f:=59,args:=[.agg [sV y.addr,sV y.text,sV y.lead,iV y.fails]],H:=[],pre:=(PgSz y),res:=bV (pgOkL y),H':=[],ok:=fun h=>pageOk_ok y h }
abbrev addrPath_r (a:Adr):V:=sV (if addrOkL a=true then pathL a else [])
theorem addrPath_ok (a:Adr) (ha:AdrS a):PF Tryz.prog 12 [.agg [sV a.house,.sl false (a.parts.map sV),bV a.asks,sV a.ask]] [] (fun r h=>r=(addrPath_r a)∧h=[]):=by
 refine PF_go1 (N:=8) (rs:=[.tmp 2]) Tryz.func12 (by kernel_rfl) rfl rfl rfl (by kernel_rfl)
  (.bx (fun g1=>.r 1 [] <| .r 1 [.dead] <| .c (iAddrOk_c a) [] <| .r 1 [] <| .br (.r 1 [] <| .nil) (.r 1 [.dead] <| .c (writePath_c a) [] <| .r 1 [] <| .nil)))
  (∀ g1:Nat,True∧(Z g1 0∧True)∧(iAddrOk_c a).sm∧(True)∧((AdrS a))∧True∧Br (!(addrOkL a)) (True∧True∧Q (sV []) (addrPath_r a)∧(True)) ((Z g1 0∧True)∧(writePath_c a).sm∧(True)∧((AdrS a))∧True∧True∧Q (sV (pathL a)) (addrPath_r a)∧(True)))
  (by kernel_rfl) ?_
 intro g1
 refine ⟨trivial,⟨rfl,trivial⟩,rfl,trivial,by first | assumption | exact read_S _ | exact hz,trivial,?_⟩
 refine ⟨fun hb1=>?_,fun hb1=>?_⟩
 · try simp only [nb] at hb1
   refine ⟨trivial,?_⟩
   refine ⟨trivial,?_,trivial⟩
   unfold Q addrPath_r
   rw [if_neg (by rw [hb1]; decide)]
 · try simp only [nb] at hb1
   refine ⟨⟨rfl,trivial⟩,rfl,trivial,by first | assumption | omega | (simp; omega),trivial,?_⟩
   refine ⟨trivial,?_,trivial⟩
   unfold Q addrPath_r
   rw [if_pos hb1]
def addrPath_c (a:Adr):Con Tryz.prog:={ f:=12,args:=[.agg [sV a.house,.sl false (a.parts.map sV),bV a.asks,sV a.ask]],H:=[],pre:=(AdrS a),res:=addrPath_r a,H':=[],ok:=fun h=>addrPath_ok a h }
abbrev worldOf_k0 (w:List Pg) (i:Nat) (g:Nat):Prop:=i≤w.length∧∀ j,j < i→pgOkL (w.getD j pg0)=true
theorem worldOf_ok (w:List Pg) (hw:w.length≤30) (hz:∀ i,PgSz (w.getD i pg0)) (hk:worldOkL w=true):PF Tryz.prog 28 [.sl false (w.map pgV)] [] (fun r h=>r=(.tup [.mp (w.map pgE),bV true])∧h=[]):=by
 obtain ⟨k1,k2,k3⟩:=world_pg hk
 have hwm:∀ i,(i:Nat)≤w.length∧w.length≤i→wE (w.take i)=w.map pgE:=fun i hi=>by
   have:=wE_map i hi.1 (fun j hj k hk=>k3 j (by omega) k hk)
   rw [this,List.take_of_length_le (by omega)]
 refine PF_go1 (N:=31) (rs:=[.tmp 2,.tmp 3]) Tryz.func28 (by kernel_rfl) rfl rfl rfl (by kernel_rfl)
  (.r 2 [] <| .r 3 [] <| .br (.r 2 [] <| .nil) (.cu mmC (fun g10=>.r 1 [] <| .r 3 [] <| .loop (Nat×Nat) (fun (i,g)=>⟨[(0,.sl false (w.map pgV)),(4,.om (wE (w.take i)) g),(11,.sl false (w.map pgV)),(12,iN w.length),(13,iN i)],[]⟩) (fun (i,g)=>worldOf_k0 w i g) (fun (i,g)=>w.length - i) (fun (i,g)=>.r 1 [] <| .br (.r 2 [.agg [sV ((w.getD i pg0).addr),sV ((w.getD i pg0).text),sV ((w.getD i pg0).lead),iV ((w.getD i pg0).fails)]] <| .al zt65 (fun g6=>.st none <| .r 1 [.dead] <| .c (pageOk_c (w.getD i pg0)) [] <| .r 1 [] <| .br (.r 2 [] <| .nil) (.r 4 [.dead,.dead] <| .cu (muC 4 (wE (w.take i)) ((w.getD i pg0).addr) (pgVal (w.getD i pg0))) (fun _=>.h (.eqt 4 (.om (wE (w.take (i+1))) g)) <| .r 2 [] <| .nil)))) (.h (.fz 4) <| .h (.eqt 4 (.mp (w.map pgE))) <| .r 2 [] <| .cu mnC (fun _=>.r 5 [] <| .nil))))))
  ((fun v1:V=>(fun v2:V=>(True∧True∧Br (gtB (((w.map pgV).length:Nat):Int) 12) (True∧True∧Q (.tup [.lit (.map none),bV false]) v1∧(True)) (True∧∀ g10:Nat,True∧True∧(∃ x:Nat×Nat,match x with | (i₀,g₀)=>(worldOf_k0 w i₀ g₀)∧(E v2∧Q (.om [] g10) (.om (wE (w.take i₀)) g₀)∧E v2∧Q (iN ((w.map pgV).length)) (iN w.length)∧Q (iN 0) (iN i₀)∧True)∧True)∧∀ x:Nat×Nat,match x with | (i,g)=>(worldOf_k0 w i g)→True∧Br (ltB (i:Int) (w.length:Int)) ((Ex (i:Int) (w.map pgV) (.agg [sV ((w.getD i pg0).addr),sV ((w.getD i pg0).text),sV ((w.getD i pg0).lead),iV ((w.getD i pg0).fails)])∧True∧True)∧∀ g6:Nat,Z g6 0∧(Z g6 0∧True)∧(pageOk_c (w.getD i pg0)).sm∧(True)∧((PgSz (w.getD i pg0)))∧True∧Br (!(pgOkL (w.getD i pg0))) (True∧True∧Q (.tup [.lit (.map none),bV false]) v1∧(True)) ((Z g6 0∧Z g6 0∧True)∧(((g:Nat)=g∧(wE (w.take i):List (List UInt8×Value))=wE (w.take i))∧((sV ((w.getD i pg0).addr):V)=sV ((w.getD i pg0).addr))∧(.agg [sV ((w.getD i pg0).addr),sV ((w.getD i pg0).text),sV ((w.getD i pg0).lead),iV ((w.getD i pg0).fails)]:V).val? =some (pgVal (w.getD i pg0)))∧∀ _:Unit,((.om (updL (wE (w.take i)) ((w.getD i pg0).addr) (pgVal (w.getD i pg0))) g:V)=.om (wE (w.take (i+1))) g)∧(I64 ((i:Int)+1)∧True)∧∃ x:Nat×Nat,match x with | (i₂,g₂)=>(worldOf_k0 w i₂ g₂)∧(w.length - i₂ < w.length - i)∧(E v2∧Q (.om (wE (w.take (i+1))) g) (.om (wE (w.take i₂)) g₂)∧E v2∧E (iN w.length)∧Q (iN (i+1)) (iN i₂)∧True)∧True)) (((.mp (wE (w.take i)):V)=.mp (w.map pgE))∧True∧True∧∀ _:Unit,True∧True∧Q (.tup [.mp (w.map pgE),bV (eqB (((w.map pgE).length:Nat):Int) (((w.map pgV).length:Nat):Int))]) v1∧(True))))) (.sl false (w.map pgV))) (.tup [.mp (w.map pgE),bV true]))
  (by kernel_rfl) ?_
 refine ⟨trivial,trivial,?_⟩
 refine ⟨fun hb1=>?_,fun hb1=>?_⟩
 · try simp only [nb,List.length_map] at hb1
   omega
 · try simp only [nb,List.length_map] at hb1
   refine ⟨trivial,?_⟩
   intro g10
   refine ⟨trivial,trivial,?_⟩
   refine ⟨⟨(0,g10),?_,⟨rfl,by first | rfl | simp | (simp; omega),rfl,by first | rfl | simp | (simp; omega),rfl,trivial⟩,trivial⟩,?_⟩
   · unfold worldOf_k0
     simp
   rintro ⟨i,g⟩ ⟨h1,h2⟩
   have hzi:=hz i
   refine ⟨trivial,?_⟩
   refine ⟨fun hb2=>?_,fun hb2=>?_⟩
   · try simp only [nb] at hb2
     refine ⟨⟨⟨by omega,getE_map (d:=pg0) (by omega)⟩,trivial,trivial⟩,?_⟩
     intro g6
     refine ⟨rfl,⟨rfl,trivial⟩,rfl,trivial,hz i,trivial,?_⟩
     refine ⟨fun hb3=>?_,fun hb3=>?_⟩
     · try simp only [nb] at hb3
       have:=k2 i (by omega); simp_all
     · try simp only [nb] at hb3
       refine ⟨⟨rfl,rfl,trivial⟩,⟨⟨rfl,rfl⟩,rfl,rfl⟩,?_⟩
       intro _
       refine ⟨congrArg (V.om · g) ((wE_succ (by omega)).symm),⟨by omega,trivial⟩,?_⟩
       refine ⟨(i+1,g),?_,?_,⟨rfl,rfl,rfl,rfl,rfl,trivial⟩,trivial⟩
       · unfold worldOf_k0
         exact ⟨by omega,lt_succ_of h2 (by simpa using hb3)⟩
       · first | (simp; done) | omega | (simp; omega)
   · try simp only [nb] at hb2
     refine ⟨congrArg V.mp (hwm i (by omega)),trivial,trivial,?_⟩
     intro _
     refine ⟨trivial,?_⟩
     refine ⟨trivial,?_,trivial⟩
     unfold Q
     rw [show eqB ((w.map pgE).length:Int) ((w.map pgV).length:Int)=true from by unfold eqB; simp]
def worldOf_c (w:List Pg):Con Tryz.prog:={ f:=28,args:=[.sl false (w.map pgV)],H:=[],pre:=(w.length≤30)∧(∀ i,PgSz (w.getD i pg0))∧(worldOkL w=true),res:=.tup [.mp (w.map pgE),bV true],H':=[],ok:=fun h=>worldOf_ok w h.1 h.2.1 h.2.2 }
abbrev worldOfN_k0 (w:List Pg) (i:Nat) (g:Nat):Prop:=i≤w.length∧∀ j,j < i→pgOkL (w.getD j pg0)=true
theorem worldOfN_ok (w:List Pg) (hw:w.length≤30) (hz:∀ i,PgSz (w.getD i pg0)) (hk:worldOkL w=false):PF Tryz.prog 28 [.sl false (w.map pgV)] [] (fun r h=>r=(.tup [.dead,bV false])∧h=[]):=by
 refine PF_go1 (N:=31) (rs:=[.tmp 2,.tmp 3]) Tryz.func28 (by kernel_rfl) rfl rfl rfl (by kernel_rfl)
  (.r 2 [] <| .r 3 [] <| .br (.r 2 [] <| .nil) (.cu mmC (fun g10=>.r 1 [] <| .r 3 [] <| .loop (Nat×Nat) (fun (i,g)=>⟨[(0,.sl false (w.map pgV)),(4,.om (wE (w.take i)) g),(11,.sl false (w.map pgV)),(12,iN w.length),(13,iN i)],[]⟩) (fun (i,g)=>worldOfN_k0 w i g) (fun (i,g)=>w.length - i) (fun (i,g)=>.r 1 [] <| .br (.r 2 [.agg [sV ((w.getD i pg0).addr),sV ((w.getD i pg0).text),sV ((w.getD i pg0).lead),iV ((w.getD i pg0).fails)]] <| .al zt65 (fun g6=>.st none <| .r 1 [.dead] <| .c (pageOk_c (w.getD i pg0)) [] <| .r 1 [] <| .br (.r 2 [] <| .nil) (.r 4 [.dead,.dead] <| .cu (muC 4 (wE (w.take i)) ((w.getD i pg0).addr) (pgVal (w.getD i pg0))) (fun _=>.h (.eqt 4 (.om (wE (w.take (i+1))) g)) <| .r 2 [] <| .nil)))) (.h (.fz 4) <| .r 2 [] <| .cu mnC (fun _=>.r 5 [] <| .nil))))))
  ((fun v1:V=>(fun v2:V=>(True∧True∧Br (gtB (((w.map pgV).length:Nat):Int) 12) (True∧True∧Q v1 v1∧(True)) (True∧∀ g10:Nat,True∧True∧(∃ x:Nat×Nat,match x with | (i₀,g₀)=>(worldOfN_k0 w i₀ g₀)∧(E v2∧Q (.om [] g10) (.om (wE (w.take i₀)) g₀)∧E v2∧Q (iN ((w.map pgV).length)) (iN w.length)∧Q (iN 0) (iN i₀)∧True)∧True)∧∀ x:Nat×Nat,match x with | (i,g)=>(worldOfN_k0 w i g)→True∧Br (ltB (i:Int) (w.length:Int)) ((Ex (i:Int) (w.map pgV) (.agg [sV ((w.getD i pg0).addr),sV ((w.getD i pg0).text),sV ((w.getD i pg0).lead),iV ((w.getD i pg0).fails)])∧True∧True)∧∀ g6:Nat,Z g6 0∧(Z g6 0∧True)∧(pageOk_c (w.getD i pg0)).sm∧(True)∧((PgSz (w.getD i pg0)))∧True∧Br (!(pgOkL (w.getD i pg0))) (True∧True∧Q v1 v1∧(True)) ((Z g6 0∧Z g6 0∧True)∧(((g:Nat)=g∧(wE (w.take i):List (List UInt8×Value))=wE (w.take i))∧((sV ((w.getD i pg0).addr):V)=sV ((w.getD i pg0).addr))∧(.agg [sV ((w.getD i pg0).addr),sV ((w.getD i pg0).text),sV ((w.getD i pg0).lead),iV ((w.getD i pg0).fails)]:V).val? =some (pgVal (w.getD i pg0)))∧∀ _:Unit,((.om (updL (wE (w.take i)) ((w.getD i pg0).addr) (pgVal (w.getD i pg0))) g:V)=.om (wE (w.take (i+1))) g)∧(I64 ((i:Int)+1)∧True)∧∃ x:Nat×Nat,match x with | (i₂,g₂)=>(worldOfN_k0 w i₂ g₂)∧(w.length - i₂ < w.length - i)∧(E v2∧Q (.om (wE (w.take (i+1))) g) (.om (wE (w.take i₂)) g₂)∧E v2∧E (iN w.length)∧Q (iN (i+1)) (iN i₂)∧True)∧True)) (True∧True∧∀ _:Unit,True∧True∧Q (.tup [.dead,bV (eqB (((wE (w.take i)).length:Nat):Int) (((w.map pgV).length:Nat):Int))]) v1∧(True))))) (.sl false (w.map pgV))) (.tup [.dead,bV false]))
  (by kernel_rfl) ?_
 refine ⟨trivial,trivial,?_⟩
 refine ⟨fun hb1=>?_,fun hb1=>?_⟩
 · try simp only [nb,List.length_map] at hb1
   refine ⟨trivial,?_⟩
   refine ⟨trivial,?_,trivial⟩
   unfold Q
   rfl
 · try simp only [nb,List.length_map] at hb1
   refine ⟨trivial,?_⟩
   intro g10
   refine ⟨trivial,trivial,?_⟩
   refine ⟨⟨(0,g10),?_,⟨rfl,by first | rfl | simp | (simp; omega),rfl,by first | rfl | simp | (simp; omega),rfl,trivial⟩,trivial⟩,?_⟩
   · unfold worldOfN_k0
     simp
   rintro ⟨i,g⟩ ⟨h1,h2⟩
   have hzi:=hz i
   refine ⟨trivial,?_⟩
   refine ⟨fun hb2=>?_,fun hb2=>?_⟩
   · try simp only [nb] at hb2
     refine ⟨⟨⟨by omega,getE_map (d:=pg0) (by omega)⟩,trivial,trivial⟩,?_⟩
     intro g6
     refine ⟨rfl,⟨rfl,trivial⟩,rfl,trivial,hz i,trivial,?_⟩
     refine ⟨fun hb3=>?_,fun hb3=>?_⟩
     · try simp only [nb] at hb3
       refine ⟨trivial,?_⟩
       refine ⟨trivial,?_,trivial⟩
       unfold Q
       rfl
     · try simp only [nb] at hb3
       refine ⟨⟨rfl,rfl,trivial⟩,⟨⟨rfl,rfl⟩,rfl,rfl⟩,?_⟩
       intro _
       refine ⟨congrArg (V.om · g) ((wE_succ (by omega)).symm),⟨by omega,trivial⟩,?_⟩
       refine ⟨(i+1,g),?_,?_,⟨rfl,rfl,rfl,rfl,rfl,trivial⟩,trivial⟩
       · unfold worldOfN_k0
         exact ⟨by omega,lt_succ_of h2 (by simpa using hb3)⟩
       · first | (simp; done) | omega | (simp; omega)
   · try simp only [nb] at hb2
     refine ⟨trivial,trivial,?_⟩
     intro _
     refine ⟨trivial,?_⟩
     refine ⟨trivial,?_,trivial⟩
     unfold Q
     have q1:=wE_len w w.length (Nat.le_refl _)
     have q2:=world_no hk (by omega) (fun j hj=>h2 j (by omega))
     rw [show i=w.length from by omega]
     have q3:(wE (w.take w.length)).length≠w.length:=fun c=>q2 (q1.2.1 c)
     rw [show eqB ((wE (w.take w.length)).length:Int) ((w.map pgV).length:Int)=false from by unfold eqB; exact beq_eq_false_iff_ne.2 (by rw [List.length_map]; omega)]
def worldOfN_c (w:List Pg):Con Tryz.prog:={ f:=28,args:=[.sl false (w.map pgV)],H:=[],pre:=(w.length≤30)∧(∀ i,PgSz (w.getD i pg0))∧(worldOkL w=false),res:=.tup [.dead,bV false],H':=[],ok:=fun h=>worldOfN_ok w h.1 h.2.1 h.2.2 }
abbrev get_r (w:List Pg) (a:List UInt8) (n:Int):V:=.tup [iV ((getL w a n).1),sV ((getL w a n).2)]
theorem get_ok (w:List Pg) (a:List UInt8) (n:Int) (hn:0≤n) (hn2:n≤1000):PF Tryz.prog 115 [.mp (w.map pgE),sV a,iV n] [] (fun r h=>r=(get_r w a n)∧h=[]):=by
 refine PF_go1 (N:=36) (rs:=[.tmp 6,.tmp 7]) Tryz.func115 (by kernel_rfl) rfl rfl rfl (by kernel_rfl)
  (.r 2 [] <| .r 2 [] <| .cu (lkC (w.map pgE) a (.agg [sV ((atL w a).1.addr),sV ((atL w a).1.text),sV ((atL w a).1.lead),iV ((atL w a).1.fails)]) ((atL w a).2)) (fun _=>.r 3 [] <| .al zt65 (fun g8=>.st none <| .r 1 [] <| .r 7 [] <| .br (.r 2 [] <| .nil) (.r 5 [.dead] <| .br (.r 2 [] <| .nil) (.r 4 [.dead] <| .br (.d 3 <| .r 3 [.dead] <| .r 1 [] <| .nil) (.d 3 <| .r 3 [.dead] <| .r 1 [] <| .nil))))))
  (True∧True∧((w.map pgE=w.map pgE)∧((sV a:V)=sV a)∧((((atL w a).2)=true∧∃ y,lookL (w.map pgE) a=some y∧(.agg [sV ((atL w a).1.addr),sV ((atL w a).1.text),sV ((atL w a).1.lead),iV ((atL w a).1.fails)]:V).val? =some y)∨(((atL w a).2)=false∧lookL (w.map pgE) a=none∧∃ y,(.agg [sV ((atL w a).1.addr),sV ((atL w a).1.text),sV ((atL w a).1.lead),iV ((atL w a).1.fails)]:V).val? =some y∧∀ w,(zeroValue 65).run Tryz.prog w=.ok y w)))∧∀ _:Unit,(fun v1:Bool=>True∧∀ g8:Nat,Z g8 0∧True∧(Gd v1 (True∧True)∧Gd v1 ((Gd v1 (v1=true)∧True)∧True)∧Pk (!((atL w a).2)) true v1∧True)∧Br ((!((atL w a).2))||(ltB n 0)) (True∧True∧Q (.tup [iN 0,sV []]) (get_r w a n)∧(True)) ((Z g8 3∧True)∧Br (ltB n ((atL w a).1.fails)) (True∧True∧Q (.tup [iN 3,sV []]) (get_r w a n)∧(True)) ((Z g8 2∧True)∧Br (!(((atL w a).1.lead)==[])) ((Z g8 2∧True)∧True∧True∧Q (.tup [iN 2,sV ((atL w a).1.lead)]) (get_r w a n)∧(True)) ((Z g8 1∧True)∧True∧True∧Q (.tup [iN 1,sV ((atL w a).1.text)]) (get_r w a n)∧(True))))) ((!((atL w a).2))==false))
  (by kernel_rfl) ?_
 refine ⟨trivial,trivial,⟨rfl,rfl,lk_pg w a⟩,?_⟩
 intro _
 refine ⟨trivial,?_⟩
 intro g8
 refine ⟨rfl,trivial,⟨fun hG=>⟨trivial,trivial⟩,fun hG=>⟨⟨fun h=>h,trivial⟩,trivial⟩,⟨fun _=>rfl,fun h=>by first | (rw [h]; done) | (rw [h]; rfl)⟩,trivial⟩,?_⟩
 refine ⟨fun hb1=>?_,fun hb1=>?_⟩
 · try simp only [nb] at hb1
   refine ⟨trivial,?_⟩
   refine ⟨trivial,?_,trivial⟩
   unfold Q get_r
   have hx:(atL w a).2=false:=by grind
   unfold getL
   rw [if_pos hx]
   rfl
 · try simp only [nb] at hb1
   refine ⟨⟨rfl,trivial⟩,?_⟩
   refine ⟨fun hb2=>?_,fun hb2=>?_⟩
   · try simp only [nb] at hb2
     refine ⟨trivial,?_⟩
     refine ⟨trivial,?_,trivial⟩
     unfold Q get_r
     have hx:(atL w a).2=true:=by grind
     unfold getL
     rw [if_neg (by rw [hx]; decide),if_pos (by omega)]
     rfl
   · try simp only [nb] at hb2
     refine ⟨⟨rfl,trivial⟩,?_⟩
     refine ⟨fun hb3=>?_,fun hb3=>?_⟩
     · try simp only [nb] at hb3
       refine ⟨⟨rfl,trivial⟩,trivial,?_⟩
       refine ⟨trivial,?_,trivial⟩
       unfold Q get_r
       have hx:(atL w a).2=true:=by grind
       unfold getL
       rw [if_neg (by rw [hx]; decide),if_neg (by omega),if_neg (by grind)]
       rfl
     · try simp only [nb] at hb3
       refine ⟨⟨rfl,trivial⟩,trivial,?_⟩
       refine ⟨trivial,?_,trivial⟩
       unfold Q get_r
       have hx:(atL w a).2=true:=by grind
       unfold getL
       rw [if_neg (by rw [hx]; decide),if_neg (by omega),if_pos (by grind)]
       rfl
def get_c (w:List Pg) (a:List UInt8) (n:Int):Con Tryz.prog:={ f:=115,args:=[.mp (w.map pgE),sV a,iV n],H:=[],pre:=(0≤n)∧(n≤1000),res:=get_r w a n,H':=[],ok:=fun h=>get_ok w a n h.1 h.2 }
abbrev getAtLast_r (w:List Pg) (a:List UInt8):V:=.tup [iV ((getL w a 2).1),sV ((getL w a 2).2)]
theorem getAtLast_ok (w:List Pg) (a:List UInt8):PF Tryz.prog 77 [.mp (w.map pgE),sV a] [] (fun r h=>r=(getAtLast_r w a)∧h=[]):=by
 refine PF_go1 (N:=11) (rs:=[.tmp 4,.tmp 5]) Tryz.func77 (by kernel_rfl) rfl rfl rfl (by kernel_rfl)
  (.r 2 [] <| .r 2 [] <| .c (get_c w a (2:Int)) [] <| .r 4 [] <| .nil)
  (True∧True∧(get_c w a (2:Int)).sm∧(True)∧((0≤(2:Int))∧((2:Int)≤1000))∧True∧True∧Q (.tup [iV ((getL w a (2:Int)).1),sV ((getL w a (2:Int)).2)]) (getAtLast_r w a)∧(True))
  (by kernel_rfl) ?_
 refine ⟨trivial,trivial,rfl,trivial,⟨by first | assumption | omega | (simp; omega),by first | assumption | omega | (simp; omega)⟩,trivial,?_⟩
 refine ⟨trivial,?_,trivial⟩
 unfold Q getAtLast_r
 rfl
def getAtLast_c (w:List Pg) (a:List UInt8):Con Tryz.prog:={ f:=77,args:=[.mp (w.map pgE),sV a],H:=[],pre:=True,res:=getAtLast_r w a,H':=[],ok:=fun _=>getAtLast_ok w a }
end Go.Proofs.YthliifpcaahnnaaGreatDoor
namespace Go.Proofs.YthliifpcaahnnaaGreatDoor
open Go Go.Abs Go.RowKit Go.Pd
set_option maxRecDepth 20000
theorem cell_star {s:List UInt8} {e nx:List Bool} {c:UInt8} {m:Nat} (hc:(c.toNat:Int)=42) (hm:m < e.length) (hq:∀ k,k < m→nx.getD k false=nxt c s e k):(e.getD m false||gtB (m:Int) 0&&nx.getD ((m:Int) - 1).toNat false)=nxt c s e m:=by
  have hc:c=42:=by rw [← UInt8.toNat_inj]; show c.toNat=42; omega
  subst hc
  rw [nxt_star hm]
  congr 1
  unfold gtB
  by_cases h:0 < m
  · rw [show ((m:Int) - 1).toNat=m - 1 from by omega,hq (m - 1) (by omega),decide_eq_true (by omega),decide_eq_true h]
  · rw [decide_eq_false (by omega),decide_eq_false h]; rfl
theorem cell_other {s:List UInt8} {e:List Bool} {c:UInt8} {m:Nat} (hc: ¬ (c.toNat:Int)=42):(gtB (m:Int) 0&&e.getD ((m:Int) - 1).toNat false&&eqB (((s.getD ((m:Int) - 1).toNat 0).toNat:Nat):Int) ((c.toNat:Nat):Int))=nxt c s e m:=by
  have hc: ¬ c=42:=by rintro rfl; exact hc rfl
  unfold nxt gtB eqB
  rw [if_neg hc]
  by_cases h:0 < m
  · rw [show ((m:Int) - 1).toNat=m - 1 from by omega,decide_eq_true (by omega),decide_eq_true h,Bool.and_assoc]
    congr 2
    rw [Bool.eq_iff_iff,beq_iff_eq,beq_iff_eq,← UInt8.toNat_inj]
    omega
  · rw [decide_eq_false (by omega),decide_eq_false h]; rfl
abbrev idxBool_k0 (l:List Bool) (b:Bool) (i:Nat):Prop:=i≤l.length∧∀ j,j < i→l.getD j false≠b
theorem idxBool_ok (l:List Bool) (b:Bool) (hl:l.length≤1000000):PF Tryz.prog 114 [.sl false (l.map bV),bV b] [] (fun r h=>r=(iV (firstB l b))∧h=[]):=by
 refine PF_go1 (N:=19) (rs:=[.tmp 4]) Tryz.func114 (by kernel_rfl) rfl rfl rfl (by kernel_rfl)
  (.r 1 [] <| .r 3 [] <| .loop (Nat) (fun (i:Nat)=>⟨[(0,.sl false (l.map bV)),(1,bV b),(6,.sl false (l.map bV)),(7,iN l.length),(8,iN i)],[]⟩) (fun (i:Nat)=>idxBool_k0 l b i) (fun (i:Nat)=>l.length - i) (fun (i:Nat)=>.r 1 [] <| .br (.r 2 [] <| .r 6 [bV (l.getD i false)] <| .br (.r 2 [] <| .nil) (.r 2 [] <| .nil)) (.r 1 [] <| .nil)))
  ((fun v1:V=>(True∧True∧(∃ i₀:Nat,(idxBool_k0 l b i₀)∧(E v1∧E (bV b)∧E v1∧Q (iN ((l.map bV).length)) (iN l.length)∧Q (iN 0) (iN i₀)∧True)∧True)∧∀ i:Nat,(idxBool_k0 l b i)→True∧Br (ltB (i:Int) (l.length:Int)) (True∧(Ex (i:Int) (l.map bV) (bV (l.getD i false))∧True∧True)∧Br (b==(l.getD i false)) (True∧True∧Q (iN i) (iV (firstB l b))∧(True)) ((I64 ((i:Int)+1)∧True)∧∃ i₂:Nat,(idxBool_k0 l b i₂)∧(l.length - i₂ < l.length - i)∧(E v1∧E (bV b)∧E v1∧E (iN l.length)∧Q (iN (i+1)) (iN i₂)∧True)∧True)) (True∧True∧Q (iV (-1)) (iV (firstB l b))∧(True)))) (.sl false (l.map bV)))
  (by kernel_rfl) ?_
 refine ⟨trivial,trivial,?_⟩
 refine ⟨⟨0,?_,⟨rfl,rfl,rfl,by first | rfl | simp | (simp; omega),rfl,trivial⟩,trivial⟩,?_⟩
 · unfold idxBool_k0
   simp
 rintro i ⟨h1,h2⟩
 refine ⟨trivial,?_⟩
 refine ⟨fun hb1=>?_,fun hb1=>?_⟩
 · try simp only [nb] at hb1
   refine ⟨trivial,⟨⟨by omega,getE_map (d:=false) (by omega)⟩,trivial,trivial⟩,?_⟩
   refine ⟨fun hb2=>?_,fun hb2=>?_⟩
   · try simp only [nb] at hb2
     refine ⟨trivial,?_⟩
     refine ⟨trivial,?_,trivial⟩
     unfold Q
     rw [firstB_hit (i:=i) (by omega) (by grind) h2]
   · try simp only [nb] at hb2
     refine ⟨⟨by omega,trivial⟩,?_⟩
     refine ⟨i+1,?_,?_,⟨rfl,rfl,rfl,rfl,rfl,trivial⟩,trivial⟩
     · unfold idxBool_k0
       exact ⟨by omega,lt_succ_of h2 (by grind)⟩
     · first | (simp; done) | omega | (simp; omega)
 · try simp only [nb] at hb1
   refine ⟨trivial,?_⟩
   refine ⟨trivial,?_,trivial⟩
   unfold Q
   rw [firstB_miss (fun j hj=>h2 j (by omega))]
def idxBool_c (l:List Bool) (b:Bool):Con Tryz.prog:={ f:=114,args:=[.sl false (l.map bV),bV b],H:=[],pre:=(l.length≤1000000),res:=iV (firstB l b),H':=[],ok:=fun h=>idxBool_ok l b h }
theorem hasBool_ok (l:List Bool) (b:Bool) (hl:l.length≤1000000):PF Tryz.prog 76 [.sl false (l.map bV),bV b] [] (fun r h=>r=(bV (l.contains b))∧h=[]):=by
 refine PF_go1 (N:=9) (rs:=[.tmp 4]) Tryz.func76 (by kernel_rfl) rfl rfl rfl (by kernel_rfl)
  (.r 1 [] <| .r 2 [] <| .c (idxBool_c l b) [] <| .r 2 [] <| .nil)
  (True∧True∧(idxBool_c l b).sm∧(True)∧((l.length≤1000000))∧True∧True∧Q (bV (geB (firstB l b) 0)) (bV (l.contains b))∧(True))
  (by kernel_rfl) ?_
 refine ⟨trivial,trivial,rfl,trivial,by first | assumption | omega | (simp; omega),trivial,?_⟩
 refine ⟨trivial,?_,trivial⟩
 unfold Q
 refine congrArg bV ?_
 rw [← firstB_has]
def hasBool_c (l:List Bool) (b:Bool):Con Tryz.prog:={ f:=76,args:=[.sl false (l.map bV),bV b],H:=[],pre:=(l.length≤1000000),res:=bV (l.contains b),H':=[],ok:=fun h=>hasBool_ok l b h }
abbrev iRuleHas_k0 (p:List UInt8) (s:List UInt8) (i:Nat) (e:List Bool) (g:Nat) (f:Nat) (k:Nat):Prop:=i≤(bodyL p).length∧e=comeL s ((bodyL p).take i)
theorem iRuleHas_ok (p s:List UInt8) (hp:p.length≤1000000) (hs:s.length≤1000000):PF Tryz.prog 39 [sV p,sV s] [] (fun r h=>r=(bV (ruleHasL p s))∧h=[]):=by
 refine PF_go1 (N:=99) (rs:=[.tmp 4]) Tryz.func39 (by kernel_rfl) rfl rfl rfl (by kernel_rfl)
  (.r 1 [] <| .r 1 [] <| .c (iRuleOk_c p) [] <| .r 6 [] <| .br (.r 1 [] <| .nil) (.r 1 [] <| .c (cutSuffix_c p ([36]:List UInt8)) [] <| .r 5 [] <| .h (.eqt 22 (sV (bodyL p))) <| .h (.eqt 5 (sV (bodyL p))) <| .h (.eqt 23 (bV (endL p))) <| .h (.eqt 6 (bV (endL p))) <| .r 3 [] <| .cu (msC zt4 (s.length+1)) (fun g27=>.h (.eqt 27 (.own 1 ((List.replicate (s.length+1) false).map bV) g27 0 (s.length+1))) <| .r 1 [] <| .r 2 [] <| .st (some (bV ((List.replicate (s.length+1) false).getD 0 false))) <| .h (.eqt 7 (.own 1 (((List.replicate (s.length+1) false).set 0 true).map bV) g27 0 (s.length+1))) <| .r 1 [] <| .loop (Nat×(List Bool)×Nat×Nat×Nat) (fun (i,e,g,f,k)=>⟨[(1,sV s),(5,sV (bodyL p)),(6,bV (endL p)),(7,.own 1 (e.map bV) g f k),(8,iN i)],[]⟩) (fun (i,e,g,f,k)=>iRuleHas_k0 p s i e g f k) (fun (i,e,g,f,k)=>(bodyL p).length - i) (fun (i,e,g,f,k)=>.r 4 [] <| .br (.r 3 [] <| .cu (msC zt4 (s.length+1)) (fun g39=>.h (.eqt 39 (.own 1 ((List.replicate (s.length+1) false).map bV) g39 0 (s.length+1))) <| .r 1 [] <| .r 3 [] <| .loop (Nat×(List Bool)×Nat×Nat×Nat) (fun (j,nx,u,v,z)=>⟨[(1,sV s),(5,sV (bodyL p)),(6,bV (endL p)),(7,.own 1 (e.map bV) g f k),(8,iN i),(9,.own 1 (nx.map bV) u v z),(40,.hd (.slot 9) [] 1 u v 0 ((nx.map bV).length) z),(41,iN (s.length+1)),(42,iN j)],[]⟩) (fun (j,nx,u,v,z)=>j≤s.length+1∧nx.length=s.length+1∧∀ m,m < j→nx.getD m false=nxt ((bodyL p).getD i 0) s e m) (fun (j,nx,u,v,z)=>s.length+1 - j) (fun (j,nx,u,v,z)=>.r 1 [] <| .br (.r 2 [] <| .r 4 [] <| .br (.r 18 [bV (e.getD j false),bV (nx.getD (Int.toNat ((j:Int) - 1)) false)] <| .st (some (bV (nx.getD j false))) <| .h (.eqt 9 (.own 1 ((nx.set j ((e.getD j false)||((gtB (j:Int) 0)&&(nx.getD (Int.toNat ((j:Int) - 1)) false)))).map bV) u v z)) <| .r 2 [] <| .nil) (.d 21 <| .r 21 [bV (e.getD (Int.toNat ((j:Int) - 1)) false)] <| .r 1 [] <| .st (some (bV (nx.getD j false))) <| .h (.eqt 9 (.own 1 ((nx.set j (((gtB (j:Int) 0)&&(e.getD (Int.toNat ((j:Int) - 1)) false))&&(eqB (((s.getD (Int.toNat ((j:Int) - 1)) 0).toNat:Nat):Int) ((((bodyL p).getD i 0).toNat:Nat):Int)))).map bV) u v z)) <| .r 2 [] <| .nil)) (.r 1 [] <| .h (.claim 90) <| .r 1 [] <| .r 3 [] <| .nil)))) (.r 1 [] <| .br (.r 6 [bV (e.getD s.length false)] <| .nil) (.r 1 [] <| .cl (hasBool_c e true) <| .r 1 [] <| .nil))))))
  ((fun v1:Bool=>(fun v2:V=>(True∧True∧(iRuleOk_c p).sm∧(True)∧((p.length≤4611686018427387904))∧(Gd (v1==false) (True∧True)∧Gd (v1==false) ((Gd (v1==false) ((v1==false)=true)∧True)∧True)∧Gd (v1==false) ((Gd (v1==false) ((v1==false)=true)∧True)∧True)∧Pk v1 true (v1==false)∧True)∧Br (v1||(gtB (s.length:Int) 60)) (True∧True∧Q (bV false) (bV (ruleHasL p s))∧(True)) (True∧(cutSuffix_c p ([36]:List UInt8)).sm∧(True)∧((p.length≤4611686018427387904)∧(([36]:List UInt8).length≤4611686018427387904))∧True∧((sV (trimL p ([36]:List UInt8)):V)=sV (bodyL p))∧((sV (trimL p ([36]:List UInt8)):V)=sV (bodyL p))∧((bV (sufL p ([36]:List UInt8)):V)=bV (endL p))∧((bV (sufL p ([36]:List UInt8)):V)=bV (endL p))∧(I64 ((s.length:Int)+1)∧True)∧((((4:Nat)=4)∧((1:Nat)=1)∧(∃ x,(bV false:V).lits=some [x])∧(bV false:V).n=1)∧(v2=.lit (.int .i64 ((s.length+1:Nat):Int)))∧(v2=.lit (.int .i64 ((s.length+1:Nat):Int)))∧1≤(s.length+1:Nat)∧(s.length+1:Nat) * 1≤140737488355328∧(s.length+1:Nat)≤9223372036854775807)∧∀ g27:Nat,((.own 1 (List.replicate (s.length+1) (bV false)) g27 0 (s.length+1):V)=.own 1 ((List.replicate (s.length+1) false).map bV) g27 0 (s.length+1))∧True∧(In 0 (((List.replicate (s.length+1) false).map bV).length)∧True)∧(V.at g27 0 (.own 1 ((List.replicate (s.length+1) false).map bV) g27 0 (s.length+1)) [0+0]=some (g27,(0+(0+0) * 1),bV ((List.replicate (s.length+1) false).getD 0 false)))∧(V.set (.own 1 ((List.replicate (s.length+1) false).map bV) g27 0 (s.length+1)) [0+0] (bV true)=.own 1 (((List.replicate (s.length+1) false).set 0 true).map bV) g27 0 (s.length+1))∧True∧(∃ x:Nat×(List Bool)×Nat×Nat×Nat,match x with | (i₀,e₀,g₀,f₀,k₀)=>(iRuleHas_k0 p s i₀ e₀ g₀ f₀ k₀)∧(E (sV s)∧E (sV (bodyL p))∧E (bV (endL p))∧Q (.own 1 (((List.replicate (s.length+1) false).set 0 true).map bV) g27 0 (s.length+1)) (.own 1 (e₀.map bV) g₀ f₀ k₀)∧Q (iN 0) (iN i₀)∧True)∧True)∧∀ x:Nat×(List Bool)×Nat×Nat×Nat,match x with | (i,e,g,f,k)=>(iRuleHas_k0 p s i e g f k)→True∧Br (ltB (i:Int) (((bodyL p).length:Nat):Int)) ((I64 ((s.length:Int)+1)∧True)∧((((4:Nat)=4)∧((1:Nat)=1)∧(∃ x,(bV false:V).lits=some [x])∧(bV false:V).n=1)∧(v2=.lit (.int .i64 ((s.length+1:Nat):Int)))∧(v2=.lit (.int .i64 ((s.length+1:Nat):Int)))∧1≤(s.length+1:Nat)∧(s.length+1:Nat) * 1≤140737488355328∧(s.length+1:Nat)≤9223372036854775807)∧∀ g39:Nat,((.own 1 (List.replicate (s.length+1) (bV false)) g39 0 (s.length+1):V)=.own 1 ((List.replicate (s.length+1) false).map bV) g39 0 (s.length+1))∧True∧True∧(∃ x:Nat×(List Bool)×Nat×Nat×Nat,match x with | (j₀,nx₀,u₀,v₀,z₀)=>(j₀≤s.length+1∧nx₀.length=s.length+1∧∀ m,m < j₀→nx₀.getD m false=nxt ((bodyL p).getD i 0) s e m)∧(E (sV s)∧E (sV (bodyL p))∧E (bV (endL p))∧E (.own 1 (e.map bV) g f k)∧E (iN i)∧Q (.own 1 ((List.replicate (s.length+1) false).map bV) g39 0 (s.length+1)) (.own 1 (nx₀.map bV) u₀ v₀ z₀)∧Q (.hd (.slot 9) [] 1 g39 0 0 (((List.replicate (s.length+1) false).map bV).length) (s.length+1)) (.hd (.slot 9) [] 1 u₀ v₀ 0 ((nx₀.map bV).length) z₀)∧Q (iN (((List.replicate (s.length+1) false).map bV).length)) (iN (s.length+1))∧Q (iN 0) (iN j₀)∧True)∧True)∧∀ x:Nat×(List Bool)×Nat×Nat×Nat,match x with | (j,nx,u,v,z)=>(j≤s.length+1∧nx.length=s.length+1∧∀ m,m < j→nx.getD m false=nxt ((bodyL p).getD i 0) s e m)→True∧Br (ltB (j:Int) ((s.length+1:Nat):Int)) (True∧(Ix (i:Int) (bodyL p)∧True)∧Br (eqB ((((bodyL p).getD i 0).toNat:Nat):Int) 42) ((In (j:Int) ((e.map bV).length)∧(V.at g f (.own 1 (e.map bV) g f k) [0+j]=some (g,(f+(0+j) * 1),bV (e.getD j false)))∧Gd ((e.getD j false)==false) (True∧True)∧Gd ((e.getD j false)==false) ((Gd ((e.getD j false)==false) (((e.getD j false)==false)=true)∧True)∧True)∧Gd ((e.getD j false)==false) ((Gd ((e.getD j false)==false) (((e.getD j false)==false)=true)∧True)∧True)∧Gd (((e.getD j false)==false)&&((gtB (j:Int) 0)==true)) (True∧True)∧Gd (((e.getD j false)==false)&&((gtB (j:Int) 0)==true)) (True∧True)∧Gd (((e.getD j false)==false)&&((gtB (j:Int) 0)==true)) ((Gd (((e.getD j false)==false)&&((gtB (j:Int) 0)==true)) ((((e.getD j false)==false)&&((gtB (j:Int) 0)==true))=true)∧True)∧I64 ((j:Int) - 1))∧Gd (((e.getD j false)==false)&&((gtB (j:Int) 0)==true)) ((Gd (((e.getD j false)==false)&&((gtB (j:Int) 0)==true)) ((((e.getD j false)==false)&&((gtB (j:Int) 0)==true))=true)∧(Gd (((e.getD j false)==false)&&((gtB (j:Int) 0)==true)) ((((e.getD j false)==false)&&((gtB (j:Int) 0)==true))=true)∧True))∧In ((j:Int) - 1) ((nx.map bV).length))∧Gd (((e.getD j false)==false)&&((gtB (j:Int) 0)==true)) ((Gd (((e.getD j false)==false)&&((gtB (j:Int) 0)==true)) ((((e.getD j false)==false)&&((gtB (j:Int) 0)==true))=true)∧True)∧(V.at u v (.own 1 (nx.map bV) u v z) [0+(Int.toNat ((j:Int) - 1))]=some (u,(v+(0+(Int.toNat ((j:Int) - 1))) * 1),bV (nx.getD (Int.toNat ((j:Int) - 1)) false))))∧Gd ((e.getD j false)==false) ((Gd ((e.getD j false)==false) (((e.getD j false)==false)=true)∧True)∧Pk (gtB (j:Int) 0) (((e.getD j false)==false)&&((gtB (j:Int) 0)==true)) true)∧Pk (e.getD j false) true ((e.getD j false)==false)∧In (j:Int) ((nx.map bV).length)∧True)∧(V.at u v (.own 1 (nx.map bV) u v z) [0+j]=some (u,(v+(0+j) * 1),bV (nx.getD j false)))∧(V.set (.own 1 (nx.map bV) u v z) [0+j] (bV ((e.getD j false)||((gtB (j:Int) 0)&&(nx.getD (Int.toNat ((j:Int) - 1)) false))))=.own 1 ((nx.set j ((e.getD j false)||((gtB (j:Int) 0)&&(nx.getD (Int.toNat ((j:Int) - 1)) false)))).map bV) u v z)∧(I64 ((j:Int)+1)∧True)∧∃ x:Nat×(List Bool)×Nat×Nat×Nat,match x with | (j₂,nx₂,u₂,v₂,z₂)=>(j₂≤s.length+1∧nx₂.length=s.length+1∧∀ m,m < j₂→nx₂.getD m false=nxt ((bodyL p).getD i 0) s e m)∧(s.length+1 - j₂ < s.length+1 - j)∧(E (sV s)∧E (sV (bodyL p))∧E (bV (endL p))∧E (.own 1 (e.map bV) g f k)∧E (iN i)∧Q (.own 1 ((nx.set j ((e.getD j false)||((gtB (j:Int) 0)&&(nx.getD (Int.toNat ((j:Int) - 1)) false)))).map bV) u v z) (.own 1 (nx₂.map bV) u₂ v₂ z₂)∧Q (.hd (.slot 9) [] 1 u v 0 ((nx.map bV).length) z) (.hd (.slot 9) [] 1 u₂ v₂ 0 ((nx₂.map bV).length) z₂)∧E (iN (s.length+1))∧Q (iN (j+1)) (iN j₂)∧True)∧True) ((Gd ((gtB (j:Int) 0)==true) (True∧True)∧Gd ((gtB (j:Int) 0)==true) (True∧True)∧Gd ((gtB (j:Int) 0)==true) ((Gd ((gtB (j:Int) 0)==true) (((gtB (j:Int) 0)==true)=true)∧True)∧I64 ((j:Int) - 1))∧Gd ((gtB (j:Int) 0)==true) ((Gd ((gtB (j:Int) 0)==true) (((gtB (j:Int) 0)==true)=true)∧(Gd ((gtB (j:Int) 0)==true) (((gtB (j:Int) 0)==true)=true)∧True))∧In ((j:Int) - 1) ((e.map bV).length))∧Gd ((gtB (j:Int) 0)==true) ((Gd ((gtB (j:Int) 0)==true) (((gtB (j:Int) 0)==true)=true)∧True)∧(V.at g f (.own 1 (e.map bV) g f k) [0+(Int.toNat ((j:Int) - 1))]=some (g,(f+(0+(Int.toNat ((j:Int) - 1))) * 1),bV (e.getD (Int.toNat ((j:Int) - 1)) false))))∧Pk (gtB (j:Int) 0) ((gtB (j:Int) 0)==true) true∧Gd (((gtB (j:Int) 0)&&(e.getD (Int.toNat ((j:Int) - 1)) false))==true) (True∧True)∧Gd (((gtB (j:Int) 0)&&(e.getD (Int.toNat ((j:Int) - 1)) false))==true) (True∧True)∧Gd (((gtB (j:Int) 0)&&(e.getD (Int.toNat ((j:Int) - 1)) false))==true) ((Gd (((gtB (j:Int) 0)&&(e.getD (Int.toNat ((j:Int) - 1)) false))==true) ((((gtB (j:Int) 0)&&(e.getD (Int.toNat ((j:Int) - 1)) false))==true)=true)∧True)∧I64 ((j:Int) - 1))∧Gd (((gtB (j:Int) 0)&&(e.getD (Int.toNat ((j:Int) - 1)) false))==true) ((Gd (((gtB (j:Int) 0)&&(e.getD (Int.toNat ((j:Int) - 1)) false))==true) ((((gtB (j:Int) 0)&&(e.getD (Int.toNat ((j:Int) - 1)) false))==true)=true)∧(Gd (((gtB (j:Int) 0)&&(e.getD (Int.toNat ((j:Int) - 1)) false))==true) ((((gtB (j:Int) 0)&&(e.getD (Int.toNat ((j:Int) - 1)) false))==true)=true)∧True))∧Ix ((j:Int) - 1) s)∧Gd (((gtB (j:Int) 0)&&(e.getD (Int.toNat ((j:Int) - 1)) false))==true) (True∧True)∧Gd (((gtB (j:Int) 0)&&(e.getD (Int.toNat ((j:Int) - 1)) false))==true) (True∧True)∧Gd (((gtB (j:Int) 0)&&(e.getD (Int.toNat ((j:Int) - 1)) false))==true) ((Gd (((gtB (j:Int) 0)&&(e.getD (Int.toNat ((j:Int) - 1)) false))==true) ((((gtB (j:Int) 0)&&(e.getD (Int.toNat ((j:Int) - 1)) false))==true)=true)∧(Gd (((gtB (j:Int) 0)&&(e.getD (Int.toNat ((j:Int) - 1)) false))==true) ((((gtB (j:Int) 0)&&(e.getD (Int.toNat ((j:Int) - 1)) false))==true)=true)∧True))∧Ix (i:Int) (bodyL p))∧Gd (((gtB (j:Int) 0)&&(e.getD (Int.toNat ((j:Int) - 1)) false))==true) ((Gd (((gtB (j:Int) 0)&&(e.getD (Int.toNat ((j:Int) - 1)) false))==true) ((((gtB (j:Int) 0)&&(e.getD (Int.toNat ((j:Int) - 1)) false))==true)=true)∧(Gd (((gtB (j:Int) 0)&&(e.getD (Int.toNat ((j:Int) - 1)) false))==true) ((((gtB (j:Int) 0)&&(e.getD (Int.toNat ((j:Int) - 1)) false))==true)=true)∧True))∧True)∧Pk ((gtB (j:Int) 0)&&(e.getD (Int.toNat ((j:Int) - 1)) false)) (((gtB (j:Int) 0)&&(e.getD (Int.toNat ((j:Int) - 1)) false))==true) true∧True)∧(In (j:Int) ((nx.map bV).length)∧True)∧(V.at u v (.own 1 (nx.map bV) u v z) [0+j]=some (u,(v+(0+j) * 1),bV (nx.getD j false)))∧(V.set (.own 1 (nx.map bV) u v z) [0+j] (bV (((gtB (j:Int) 0)&&(e.getD (Int.toNat ((j:Int) - 1)) false))&&(eqB (((s.getD (Int.toNat ((j:Int) - 1)) 0).toNat:Nat):Int) ((((bodyL p).getD i 0).toNat:Nat):Int))))=.own 1 ((nx.set j (((gtB (j:Int) 0)&&(e.getD (Int.toNat ((j:Int) - 1)) false))&&(eqB (((s.getD (Int.toNat ((j:Int) - 1)) 0).toNat:Nat):Int) ((((bodyL p).getD i 0).toNat:Nat):Int)))).map bV) u v z)∧(I64 ((j:Int)+1)∧True)∧∃ x:Nat×(List Bool)×Nat×Nat×Nat,match x with | (j₂,nx₂,u₂,v₂,z₂)=>(j₂≤s.length+1∧nx₂.length=s.length+1∧∀ m,m < j₂→nx₂.getD m false=nxt ((bodyL p).getD i 0) s e m)∧(s.length+1 - j₂ < s.length+1 - j)∧(E (sV s)∧E (sV (bodyL p))∧E (bV (endL p))∧E (.own 1 (e.map bV) g f k)∧E (iN i)∧Q (.own 1 ((nx.set j (((gtB (j:Int) 0)&&(e.getD (Int.toNat ((j:Int) - 1)) false))&&(eqB (((s.getD (Int.toNat ((j:Int) - 1)) 0).toNat:Nat):Int) ((((bodyL p).getD i 0).toNat:Nat):Int)))).map bV) u v z) (.own 1 (nx₂.map bV) u₂ v₂ z₂)∧Q (.hd (.slot 9) [] 1 u v 0 ((nx.map bV).length) z) (.hd (.slot 9) [] 1 u₂ v₂ 0 ((nx₂.map bV).length) z₂)∧E (iN (s.length+1))∧Q (iN (j+1)) (iN j₂)∧True)∧True)) (True∧((1,u,v,z,(nx.map bV).length)=(1,u,v,z,(nx.map bV).length))∧True∧(I64 ((i:Int)+1)∧True)∧∃ x:Nat×(List Bool)×Nat×Nat×Nat,match x with | (i₂,e₂,g₂,f₂,k₂)=>(iRuleHas_k0 p s i₂ e₂ g₂ f₂ k₂)∧((bodyL p).length - i₂ < (bodyL p).length - i)∧(E (sV s)∧E (sV (bodyL p))∧E (bV (endL p))∧Q (.own 1 (nx.map bV) u v z) (.own 1 (e₂.map bV) g₂ f₂ k₂)∧Q (iN (i+1)) (iN i₂)∧True)∧True)) (True∧Br (endL p) ((In (s.length:Int) ((e.map bV).length)∧(V.at g f (.own 1 (e.map bV) g f k) [0+s.length]=some (g,(f+(0+s.length) * 1),bV (e.getD s.length false)))∧True)∧True∧Q (bV (e.getD s.length false)) (bV (ruleHasL p s))∧(True)) (True∧(((1=1∧g=g∧f=f)∧0+((e.map bV).length)≤(e.map bV).length∧V.ownsL (e.map bV)=false∧AllN 1 (e.map bV))∧True)∧(([.sl false (((e.map bV).drop 0).take ((e.map bV).length)),bV true]:List V)=[.sl false (e.map bV),bV true])∧((e.length≤1000000))∧True∧True∧Q (bV (e.contains true)) (bV (ruleHasL p s))∧(True)))))) (iN (s.length+1):V)) (!(iRuleOk p)))
  (by kernel_rfl) ?_
 refine ⟨trivial,trivial,rfl,trivial,by first | assumption | omega | (simp; omega),⟨fun hG=>⟨trivial,trivial⟩,fun hG=>⟨⟨fun h=>h,trivial⟩,trivial⟩,fun hG=>⟨⟨fun h=>h,trivial⟩,trivial⟩,⟨fun _=>rfl,fun h=>by first | (rw [h]; done) | (rw [h]; rfl)⟩,trivial⟩,?_⟩
 refine ⟨fun hb1=>?_,fun hb1=>?_⟩
 · try simp only [nb] at hb1
   refine ⟨trivial,?_⟩
   refine ⟨trivial,?_,trivial⟩
   unfold Q
   rw [ruleHas_f hb1]
 · try simp only [nb] at hb1
   have hpl:=iRule_len hb1.1
   have hbl:(bodyL p).length≤p.length:=by unfold bodyL; split <;> simp
   refine ⟨trivial,rfl,trivial,⟨by omega,by simp⟩,trivial,(by rw [trim_body (by omega)]),(by rw [trim_body (by omega)]),(by rw [suf_end (by omega)]),(by rw [suf_end (by omega)]),⟨by omega,trivial⟩,⟨⟨rfl,rfl,⟨_,rfl⟩,rfl⟩,by first | (refine congrArg iV ?_; simp; done) | (refine congrArg iV ?_; omega),by first | (refine congrArg iV ?_; simp; done) | (refine congrArg iV ?_; omega),by omega,by omega,by omega⟩,?_⟩
   intro g27
   refine ⟨congrArg (V.own 1 · _ _ _) List.map_replicate.symm,trivial,?_⟩
   have hrl:(List.replicate (s.length+1) false).length=s.length+1:=List.length_replicate
   refine ⟨⟨by (try simp only [List.length_map] at *); omega,trivial⟩,at_el (by rw [Nat.zero_add]; exact getE_map (d:=false) (by omega)),set_el (by rw [Nat.zero_add]; exact getE_map (d:=false) (by omega)) (by rw [Nat.zero_add]; exact (List.map_set ..).symm),trivial,?_⟩
   refine ⟨⟨(0,come0 s,g27,0,s.length+1),?_,⟨rfl,rfl,rfl,by first | rfl | simp | (simp; omega),rfl,trivial⟩,trivial⟩,?_⟩
   · unfold iRuleHas_k0
     simp [comeL]
   rintro ⟨i,e,g,f,k⟩ ⟨h1,h2⟩
   have hel:e.length=s.length+1:=by rw [h2]; exact come_len _ _
   refine ⟨trivial,?_⟩
   refine ⟨fun hb2=>?_,fun hb2=>?_⟩
   · try simp only [nb] at hb2
     refine ⟨⟨by omega,trivial⟩,⟨⟨rfl,rfl,⟨_,rfl⟩,rfl⟩,by first | (refine congrArg iV ?_; simp; done) | (refine congrArg iV ?_; omega),by first | (refine congrArg iV ?_; simp; done) | (refine congrArg iV ?_; omega),by omega,by omega,by omega⟩,?_⟩
     intro g39
     refine ⟨congrArg (V.own 1 · _ _ _) List.map_replicate.symm,trivial,trivial,?_⟩
     refine ⟨⟨(0,List.replicate (s.length+1) false,g39,0,s.length+1),?_,⟨rfl,rfl,rfl,rfl,rfl,rfl,rfl,by first | rfl | simp | (simp; omega),rfl,trivial⟩,trivial⟩,?_⟩
     · simp
     rintro ⟨j,nx,u,v,z⟩ ⟨q1,q2,q3⟩
     refine ⟨trivial,?_⟩
     refine ⟨fun hb3=>?_,fun hb3=>?_⟩
     · try simp only [nb] at hb3
       refine ⟨trivial,⟨by omega,trivial⟩,?_⟩
       refine ⟨fun hb4=>?_,fun hb4=>?_⟩
       · try simp only [nb] at hb4
         refine ⟨⟨by (try simp only [List.length_map] at *); omega,at_el (by rw [Nat.zero_add]; exact getE_map (d:=false) (by omega)),fun hG=>⟨trivial,trivial⟩,fun hG=>⟨⟨fun h=>h,trivial⟩,trivial⟩,fun hG=>⟨⟨fun h=>h,trivial⟩,trivial⟩,fun hG=>⟨trivial,trivial⟩,fun hG=>⟨trivial,trivial⟩,fun hG=>⟨⟨fun h=>h,trivial⟩,by (try simp only [nb] at hG); omega⟩,fun hG=>⟨⟨fun h=>h,⟨fun h=>h,trivial⟩⟩,by (try simp only [nb] at hG); (try simp only [List.length_map] at *); omega⟩,fun hG=>⟨⟨fun h=>h,trivial⟩,at_el (by rw [Nat.zero_add]; exact getE_map (d:=false) (by omega))⟩,fun hG=>⟨⟨fun h=>h,trivial⟩,⟨fun h=>by rw [h]; exact (Bool.and_eq_true _ _).mpr ⟨hG,rfl⟩,fun _=>rfl⟩⟩,⟨fun _=>rfl,fun h=>by first | (rw [h]; done) | (rw [h]; rfl)⟩,by (try simp only [List.length_map] at *); omega,trivial⟩,at_el (by rw [Nat.zero_add]; exact getE_map (d:=false) (by omega)),set_el (by rw [Nat.zero_add]; exact getE_map (d:=false) (by omega)) (by rw [Nat.zero_add]; exact (List.map_set ..).symm),⟨by omega,trivial⟩,?_⟩
         refine ⟨(j+1,nx.set j ((e.getD j false)||((gtB (j:Int) 0)&&(nx.getD (Int.toNat ((j:Int) - 1)) false))),u,v,z),?_,?_,⟨rfl,rfl,rfl,rfl,rfl,rfl,by first | rfl | simp | (simp; omega),rfl,rfl,trivial⟩,trivial⟩
         · refine ⟨by omega,by simp [q2],fun m hm=>?_⟩
           by_cases e:m=j
           · subst e
             rw [bset_eq (by omega)]
             exact cell_star hb4 (by omega) q3
           · rw [bset_ne e]; exact q3 m (by omega)
         · first | (simp; done) | omega | (simp; omega)
       · try simp only [nb] at hb4
         refine ⟨⟨fun hG=>⟨trivial,trivial⟩,fun hG=>⟨trivial,trivial⟩,fun hG=>⟨⟨fun h=>h,trivial⟩,by (try simp only [nb] at hG); omega⟩,fun hG=>⟨⟨fun h=>h,⟨fun h=>h,trivial⟩⟩,by (try simp only [nb] at hG); (try simp only [List.length_map] at *); omega⟩,fun hG=>⟨⟨fun h=>h,trivial⟩,at_el (by rw [Nat.zero_add]; exact getE_map (d:=false) (by omega))⟩,⟨fun h=>by first | (rw [h]; done) | (rw [h]; rfl),fun _=>rfl⟩,fun hG=>⟨trivial,trivial⟩,fun hG=>⟨trivial,trivial⟩,fun hG=>⟨⟨fun h=>h,trivial⟩,by (try simp only [nb] at hG); omega⟩,fun hG=>⟨⟨fun h=>h,⟨fun h=>h,trivial⟩⟩,by (try simp only [nb] at hG); omega⟩,fun hG=>⟨trivial,trivial⟩,fun hG=>⟨trivial,trivial⟩,fun hG=>⟨⟨fun h=>h,⟨fun h=>h,trivial⟩⟩,by (try simp only [nb] at hG); omega⟩,fun hG=>⟨⟨fun h=>h,⟨fun h=>h,trivial⟩⟩,trivial⟩,⟨fun h=>by first | (rw [h]; done) | (rw [h]; rfl),fun _=>rfl⟩,trivial⟩,⟨by (try simp only [List.length_map] at *); omega,trivial⟩,at_el (by rw [Nat.zero_add]; exact getE_map (d:=false) (by omega)),set_el (by rw [Nat.zero_add]; exact getE_map (d:=false) (by omega)) (by rw [Nat.zero_add]; exact (List.map_set ..).symm),⟨by omega,trivial⟩,?_⟩
         refine ⟨(j+1,nx.set j (((gtB (j:Int) 0)&&(e.getD (Int.toNat ((j:Int) - 1)) false))&&(eqB (((s.getD (Int.toNat ((j:Int) - 1)) 0).toNat:Nat):Int) ((((bodyL p).getD i 0).toNat:Nat):Int))),u,v,z),?_,?_,⟨rfl,rfl,rfl,rfl,rfl,rfl,by first | rfl | simp | (simp; omega),rfl,rfl,trivial⟩,trivial⟩
         · refine ⟨by omega,by simp [q2],fun m hm=>?_⟩
           by_cases e:m=j
           · subst e
             rw [bset_eq (by omega)]
             exact cell_other hb4
           · rw [bset_ne e]; exact q3 m (by omega)
         · first | (simp; done) | omega | (simp; omega)
     · try simp only [nb] at hb3
       refine ⟨trivial,rfl,trivial,⟨by omega,trivial⟩,?_⟩
       refine ⟨(i+1,nx,u,v,z),?_,?_,⟨rfl,rfl,rfl,rfl,rfl,trivial⟩,trivial⟩
       · unfold iRuleHas_k0
         refine ⟨by omega,?_⟩
         rw [come_succ (by omega),← h2]
         exact stepC_of q2 (fun m hm=>q3 m (by omega))
       · first | (simp; done) | omega | (simp; omega)
   · try simp only [nb] at hb2
     refine ⟨trivial,?_⟩
     refine ⟨fun hb5=>?_,fun hb5=>?_⟩
     · try simp only [nb] at hb5
       refine ⟨⟨by (try simp only [List.length_map] at *); omega,at_el (by rw [Nat.zero_add]; exact getE_map (d:=false) (by omega)),trivial⟩,?_⟩
       refine ⟨trivial,?_,trivial⟩
       unfold Q
       rw [ruleHas_t hb1,h2,List.take_of_length_le (by omega)]
       unfold hasI
       rw [if_pos hb5]
     · try simp only [nb] at hb5
       refine ⟨trivial,⟨⟨⟨rfl,rfl,rfl⟩,by simp,ownsL_map (f:=bV) (fun _=>rfl) _,allN_map (f:=bV) (fun _=>rfl) _⟩,trivial⟩,by simp [List.take_of_length_le],by first | assumption | omega | (simp; omega),trivial,?_⟩
       refine ⟨trivial,?_,trivial⟩
       unfold Q
       rw [ruleHas_t hb1,h2,List.take_of_length_le (by omega)]
       unfold hasI
       rw [if_neg (by rw [hb5]; decide)]
def iRuleHas_c (p:List UInt8) (s:List UInt8):Con Tryz.prog:={ f:=39,args:=[sV p,sV s],H:=[],pre:=(p.length≤1000000)∧(s.length≤1000000),res:=bV (ruleHasL p s),H':=[],ok:=fun h=>iRuleHas_ok p s h.1 h.2 }
end Go.Proofs.YthliifpcaahnnaaGreatDoor
namespace Go.Proofs.YthliifpcaahnnaaGreatDoor
open Go Go.Abs Go.RowKit Go.Pd
set_option maxRecDepth 20000
theorem ruleHas_len {p s:List UInt8} (h:ruleHasL p s=true):1≤p.length:=by
  unfold ruleHasL at h
  simp only [Bool.and_eq_true] at h
  exact (ruleOk_len h.1.1).1
theorem lets_next {X:Int×Bool} {r:Rul} {s:List UInt8} {m m':Int} {b b':Bool} (h2: -1≤X.1∧X.1≠0) (h3:m=max X.1 0) (h4:b=X.2)
    (h:(ruleHasL r.path s=false∧m'=m∧b'=b)∨(ruleHasL r.path s=true∧m < (r.path.length:Int)∧m'=(r.path.length:Int)∧b'=r.let_)∨(ruleHasL r.path s=true∧(r.path.length:Int)=m∧m'=m∧b'=(b||r.let_))∨(ruleHasL r.path s=true∧(r.path.length:Int) < m∧m'=m∧b'=b)):
    (-1≤(letsStep s X r).1∧(letsStep s X r).1≠0)∧m'=max (letsStep s X r).1 0∧b'=(letsStep s X r).2:=by
  subst h3 h4
  rcases h with ⟨h,rfl,rfl⟩ | ⟨h,h1,rfl,rfl⟩ | ⟨h,h1,rfl,rfl⟩ | ⟨h,h1,rfl,rfl⟩
  · rw [show letsStep s X r=X from if_pos (.inl h)]; exact ⟨h2,rfl,rfl⟩
  · have hl:=ruleHas_len h
    unfold letsStep
    rw [if_neg (by rw [h]; simp; omega),decide_eq_false (by omega)]
    exact ⟨⟨by simp only; omega,by simp only; omega⟩,by simp only; omega,by simp⟩
  · have hl:=ruleHas_len h
    unfold letsStep
    rw [if_neg (by rw [h]; simp; omega),decide_eq_true (by omega)]
    exact ⟨⟨by simp only; omega,by simp only; omega⟩,by simp only; omega,by simp [Bool.or_comm]⟩
  · have hl:=ruleHas_len h
    rw [show letsStep s X r=X from if_pos (.inr (by omega))]; exact ⟨h2,rfl,rfl⟩
abbrev iRuleLets_k0 (rs:List Rul) (s:List UInt8) (i:Nat) (m:Int) (b:Bool):Prop:=i≤rs.length∧(-1≤((rs.take i).foldl (letsStep s) (-1,true)).1∧((rs.take i).foldl (letsStep s) (-1,true)).1≠0)∧m=max ((rs.take i).foldl (letsStep s) (-1,true)).1 0∧b=((rs.take i).foldl (letsStep s) (-1,true)).2
theorem iRuleLets_ok (rs:List Rul) (s:List UInt8) (hl:rs.length≤1000000) (hr:∀ i,(rs.getD i ⟨false,[]⟩).path.length≤1000000) (hs:s.length≤1000000):PF Tryz.prog 10 [.sl false (rs.map ruleV),sV s] [] (fun r h=>r=(bV (ruleLetsL rs s))∧h=[]):=by
 refine PF_go1 (N:=42) (rs:=[.tmp 4]) Tryz.func10 (by kernel_rfl) rfl rfl rfl (by kernel_rfl)
  (.r 1 [] <| .r 2 [] <| .r 3 [] <| .loop (Nat×Int×Bool) (fun (i,m,b)=>⟨[(1,sV s),(5,iV m),(6,bV b),(10,.sl false (rs.map ruleV)),(11,iN rs.length),(12,iN i)],[]⟩) (fun (i,m,b)=>iRuleLets_k0 rs s i m b) (fun (i,m,b)=>rs.length - i) (fun (i,m,b)=>.r 1 [] <| .br (.r 2 [.agg [bV ((rs.getD i (⟨false,[]⟩:Rul)).let_),sV ((rs.getD i (⟨false,[]⟩:Rul)).path)]] <| .al zt68 (fun g8=>.st none <| .r 3 [.dead] <| .c (iRuleHas_c ((rs.getD i (⟨false,[]⟩:Rul)).path) s) [] <| .r 1 [] <| .br (.r 2 [] <| .nil) (.r 4 [.dead] <| .r 4 [] <| .br (.d 4 <| .r 4 [.dead] <| .r 1 [] <| .r 2 [] <| .nil) (.r 4 [] <| .br (.r 6 [.dead] <| .r 2 [] <| .nil) (.r 2 [] <| .nil))))) (.r 2 [] <| .nil)))
  (True∧True∧True∧(∃ x:Nat×Int×Bool,match x with | (i₀,m₀,b₀)=>(iRuleLets_k0 rs s i₀ m₀ b₀)∧(E (sV s)∧Q (iN 0) (iV m₀)∧Q (bV true) (bV b₀)∧E (.sl false (rs.map ruleV))∧Q (iN ((rs.map ruleV).length)) (iN rs.length)∧Q (iN 0) (iN i₀)∧True)∧True)∧∀ x:Nat×Int×Bool,match x with | (i,m,b)=>(iRuleLets_k0 rs s i m b)→True∧Br (ltB (i:Int) (rs.length:Int)) ((Ex (i:Int) (rs.map ruleV) (.agg [bV ((rs.getD i (⟨false,[]⟩:Rul)).let_),sV ((rs.getD i (⟨false,[]⟩:Rul)).path)])∧True∧True)∧∀ g8:Nat,Z g8 0∧(Z g8 1∧True)∧(iRuleHas_c ((rs.getD i (⟨false,[]⟩:Rul)).path) s).sm∧(True)∧((((rs.getD i (⟨false,[]⟩:Rul)).path).length≤1000000)∧(s.length≤1000000))∧True∧Br (!(ruleHasL ((rs.getD i (⟨false,[]⟩:Rul)).path) s)) ((I64 ((i:Int)+1)∧True)∧∃ x:Nat×Int×Bool,match x with | (i₂,m₂,b₂)=>(iRuleLets_k0 rs s i₂ m₂ b₂)∧(rs.length - i₂ < rs.length - i)∧(E (sV s)∧Q (iV m) (iV m₂)∧Q (bV b) (bV b₂)∧E (.sl false (rs.map ruleV))∧E (iN rs.length)∧Q (iN (i+1)) (iN i₂)∧True)∧True) ((Z g8 1∧True)∧True∧Br (gtB ((((rs.getD i (⟨false,[]⟩:Rul)).path).length:Nat):Int) m) ((Z g8 0∧True)∧True∧(I64 ((i:Int)+1)∧True)∧∃ x:Nat×Int×Bool,match x with | (i₂,m₂,b₂)=>(iRuleLets_k0 rs s i₂ m₂ b₂)∧(rs.length - i₂ < rs.length - i)∧(E (sV s)∧Q (iN (((rs.getD i (⟨false,[]⟩:Rul)).path).length)) (iV m₂)∧Q (bV ((rs.getD i (⟨false,[]⟩:Rul)).let_)) (bV b₂)∧E (.sl false (rs.map ruleV))∧E (iN rs.length)∧Q (iN (i+1)) (iN i₂)∧True)∧True) (True∧Br (eqB ((((rs.getD i (⟨false,[]⟩:Rul)).path).length:Nat):Int) m) ((Gd (b==false) (True∧True)∧Gd (b==false) ((Gd (b==false) ((b==false)=true)∧True)∧Z g8 0)∧Pk b true (b==false)∧True)∧(I64 ((i:Int)+1)∧True)∧∃ x:Nat×Int×Bool,match x with | (i₂,m₂,b₂)=>(iRuleLets_k0 rs s i₂ m₂ b₂)∧(rs.length - i₂ < rs.length - i)∧(E (sV s)∧Q (iV m) (iV m₂)∧Q (bV (b||((rs.getD i (⟨false,[]⟩:Rul)).let_))) (bV b₂)∧E (.sl false (rs.map ruleV))∧E (iN rs.length)∧Q (iN (i+1)) (iN i₂)∧True)∧True) ((I64 ((i:Int)+1)∧True)∧∃ x:Nat×Int×Bool,match x with | (i₂,m₂,b₂)=>(iRuleLets_k0 rs s i₂ m₂ b₂)∧(rs.length - i₂ < rs.length - i)∧(E (sV s)∧Q (iV m) (iV m₂)∧Q (bV b) (bV b₂)∧E (.sl false (rs.map ruleV))∧E (iN rs.length)∧Q (iN (i+1)) (iN i₂)∧True)∧True)))) (True∧True∧Q (bV b) (bV (ruleLetsL rs s))∧(True)))
  (by kernel_rfl) ?_
 refine ⟨trivial,trivial,trivial,?_⟩
 refine ⟨⟨(0,0,true),?_,⟨rfl,by first | rfl | simp | (simp; omega),rfl,rfl,by first | rfl | simp | (simp; omega),rfl,trivial⟩,trivial⟩,?_⟩
 · unfold iRuleLets_k0
   simp; omega
 rintro ⟨i,m,b⟩ ⟨h1,h2,h3,h4⟩
 have hri:=hr i
 refine ⟨trivial,?_⟩
 refine ⟨fun hb1=>?_,fun hb1=>?_⟩
 · try simp only [nb] at hb1
   refine ⟨⟨⟨by omega,getE_map (d:=(⟨false,[]⟩:Rul)) (by omega)⟩,trivial,trivial⟩,?_⟩
   intro g8
   refine ⟨rfl,⟨rfl,trivial⟩,rfl,trivial,⟨by omega,by omega⟩,trivial,?_⟩
   refine ⟨fun hb2=>?_,fun hb2=>?_⟩
   · try simp only [nb] at hb2
     refine ⟨⟨by omega,trivial⟩,?_⟩
     refine ⟨(i+1,m,b),?_,?_,⟨rfl,rfl,rfl,rfl,rfl,rfl,trivial⟩,trivial⟩
     · unfold iRuleLets_k0
       refine ⟨by omega,?_⟩
       rw [foldl_succ (by omega:i < rs.length) (d:=⟨false,[]⟩)]
       exact lets_next h2 h3 h4 (.inl ⟨hb2,rfl,rfl⟩)
     · first | (simp; done) | omega | (simp; omega)
   · try simp only [nb] at hb2
     refine ⟨⟨rfl,trivial⟩,trivial,?_⟩
     refine ⟨fun hb3=>?_,fun hb3=>?_⟩
     · try simp only [nb] at hb3
       refine ⟨⟨rfl,trivial⟩,trivial,⟨by omega,trivial⟩,?_⟩
       refine ⟨(i+1,((((rs.getD i (⟨false,[]⟩:Rul)).path).length:Nat):Int),(rs.getD i (⟨false,[]⟩:Rul)).let_),?_,?_,⟨rfl,by first | rfl | simp | (simp; omega),rfl,rfl,rfl,rfl,trivial⟩,trivial⟩
       · unfold iRuleLets_k0
         refine ⟨by omega,?_⟩
         rw [foldl_succ (by omega:i < rs.length) (d:=⟨false,[]⟩)]
         exact lets_next h2 h3 h4 (.inr (.inl ⟨hb2,hb3,rfl,rfl⟩))
       · first | (simp; done) | omega | (simp; omega)
     · try simp only [nb] at hb3
       refine ⟨trivial,?_⟩
       refine ⟨fun hb4=>?_,fun hb4=>?_⟩
       · try simp only [nb] at hb4
         refine ⟨⟨fun hG=>⟨trivial,trivial⟩,fun hG=>⟨⟨fun h=>h,trivial⟩,rfl⟩,⟨fun _=>rfl,fun h=>by first | (rw [h]; done) | (rw [h]; rfl)⟩,trivial⟩,⟨by omega,trivial⟩,?_⟩
         refine ⟨(i+1,m,(b||((rs.getD i (⟨false,[]⟩:Rul)).let_))),?_,?_,⟨rfl,rfl,rfl,rfl,rfl,rfl,trivial⟩,trivial⟩
         · unfold iRuleLets_k0
           refine ⟨by omega,?_⟩
           rw [foldl_succ (by omega:i < rs.length) (d:=⟨false,[]⟩)]
           exact lets_next h2 h3 h4 (.inr (.inr (.inl ⟨hb2,hb4,rfl,by first | rfl | (cases b <;> rfl)⟩)))
         · first | (simp; done) | omega | (simp; omega)
       · try simp only [nb] at hb4
         refine ⟨⟨by omega,trivial⟩,?_⟩
         refine ⟨(i+1,m,b),?_,?_,⟨rfl,rfl,rfl,rfl,rfl,rfl,trivial⟩,trivial⟩
         · unfold iRuleLets_k0
           refine ⟨by omega,?_⟩
           rw [foldl_succ (by omega:i < rs.length) (d:=⟨false,[]⟩)]
           exact lets_next h2 h3 h4 (.inr (.inr (.inr ⟨hb2,by omega,rfl,rfl⟩)))
         · first | (simp; done) | omega | (simp; omega)
 · try simp only [nb] at hb1
   refine ⟨trivial,?_⟩
   refine ⟨trivial,?_,trivial⟩
   unfold Q
   refine congrArg bV ?_
   unfold ruleLetsL
   rw [h4,List.take_of_length_le (by omega)]
def iRuleLets_c (rs:List Rul) (s:List UInt8):Con Tryz.prog:={ f:=10,args:=[.sl false (rs.map ruleV),sV s],H:=[],pre:=(rs.length≤1000000)∧(∀ i,(rs.getD i ⟨false,[]⟩).path.length≤1000000)∧(s.length≤1000000),res:=bV (ruleLetsL rs s),H':=[],ok:=fun h=>iRuleLets_ok rs s h.1 h.2.1 h.2.2 }
end Go.Proofs.YthliifpcaahnnaaGreatDoor
namespace Go.Proofs.YthliifpcaahnnaaGreatDoor
open Go Go.Abs Go.RowKit Go.Pd
set_option maxRecDepth 20000
theorem takeC_ok (gs:List Grp) (b:Bool) (g:Nat) (n:List UInt8) (hg:gs.length≤1000) (hn:∀ y,y∈gs→y.na.length≤1000∧y.ru.length≤6):PF Tryz.prog 121 [.ptr (.key 1000) [] g 0,.lit (.iface 163 (.agg #[.string (Str n)]))] [(1000,(g,.agg [.ow 3 (gs.map grpO),bV b]))] (fun r h=>r=(.tup [])∧h=[(1000,(g,.agg [.ow 3 (((takeC gs b n).1).map grpO),bV ((takeC gs b n).2)]))]):=by
 refine PF_go1 (N:=112) (rs:=[]) Tryz.func121 (by kernel_rfl) rfl rfl rfl (by kernel_rfl)
  (.oR (.key 1000) [0] (fun gr fr cr=>.r 1 [] <| .cu (taC (.agg [sV n])) (fun _=>.r 3 [] <| .al zt163 (fun g4=>.st none <| .r 1 [] <| .r 2 [] <| .gt <| .r 1 [] <| .gt <| .r 1 [] <| .gt <| .r 1 [] <| .gt <| .r 1 [.dead] <| .gt <| .r 1 [] <| .gt <| .r 1 [] <| .gt <| .r 5 [.dead] <| .gt <| .r 2 [] <| .br (.dx 11 [0,1,2,3,4,5,6,7,8,9,10] [(4,⟨false,[],some [1000],[34],[]⟩),(6,⟨false,[],some [4],[36],[]⟩),(7,⟨true,[],none,[37],[]⟩),(10,⟨true,[],none,[40],[1000]⟩)] [] <| .r 1 [] <| .r 1 [] <| .r 1 [] <| .r 1 [] <| .r 1 [.dead] <| .r 1 [] <| .r 1 [.dead] <| .eu boE (fun g37=>.bd zt36 <| .bs <| .ux none (fun g40 o40 c40=>.h (.eqt 40 (.own 3 (gs.map grpO++[(.agg [.hd (.slot 37) [] 1 g37 0 0 (([n].map sV).length) 1,.sl true [],iN 0]:V)]) g40 o40 c40)) <| .r 2 [] <| .h (.claimX (.slot 40) [gs.length,0] g40 (o40+(gs.length) * 3+0) 37) <| .h (.eqt 40 (.own 3 (gs.map grpO++[(.agg [.own 1 ([n].map sV) g37 0 1,.sl true [],iN 0]:V)]) g40 o40 c40)) <| .h (.own0X (.slot 40) [gs.length,1] g40 (o40+(gs.length) * 3+1) 2) <| .h (.eqt 40 (.own 3 (gs.map grpO++[(.agg [.own 1 ([n].map sV) g37 0 1,.own 2 ([].map ruleV) 0 0 0,iN 0]:V)]) g40 o40 c40)) <| .h (.wkX (.slot 40) [gs.length,0] g40 (o40+(gs.length) * 3+0) (.own 1 ([n].map sV) g37 0 1) (.ow 1 ([n].map sV))) <| .h (.eqt 40 (.own 3 (gs.map grpO++[(.agg [.ow 1 ([n].map sV),.own 2 ([].map ruleV) 0 0 0,iN 0]:V)]) g40 o40 c40)) <| .h (.wkX (.slot 40) [gs.length,1] g40 (o40+(gs.length) * 3+1) (.own 2 ([].map ruleV) 0 0 0) (.ow 2 ([].map ruleV))) <| .h (.eqt 40 (.own 3 (gs.map grpO++[(.agg [.ow 1 ([n].map sV),.ow 2 ([].map ruleV),iN 0]:V)]) g40 o40 c40)) <| .h (.eqt 40 (.own 3 ((gs++[(⟨[n],[],0⟩:Grp)]).map grpO) g40 o40 c40)) <| .st none <| .r 3 [] <| .st none <| .nil))) (.r 6 [.dead] <| .br (.nil) (.ex (List Grp×Grp) (fun z=>gs=z.1++[z.2]) (fun (z:List Grp×Grp)=>.h (.eqh 1000 (.agg [.own 3 (z.1.map grpO++[(.agg [.ow 1 (z.2.na.map sV),.ow 2 (z.2.ru.map ruleV),iN z.2.wa]:V)]) gr fr cr,bV b])) <| .dx 10 [0,1,2,3,4,5,6,7,8,9] [(3,⟨false,[],some [1000],[55],[]⟩),(7,⟨false,[],some [1000],[59],[]⟩)] [] <| .r 1 [] <| .r 1 [] <| .r 1 [] <| .r 1 [.dead] <| .r 1 [] <| .r 1 [] <| .r 1 [] <| .r 1 [.dead] <| .r 1 [] <| .r 1 [] <| .h (.eqt 61 (iN z.1.length)) <| .r 2 [] <| .r 1 [] <| .cu (taC (.agg [sV n])) (fun _=>.r 2 [] <| .br (.al zt163 (fun g7=>.st none <| .oRx (.key 1000) [0,0+z.1.length,0] gr (fr+(0+z.1.length) * 3+0) 1 (z.2.na.map sV) (fun gA oA cA=>.h (.eqh 1000 (.agg [.own 3 (z.1.map grpO++[(.agg [.own 1 (z.2.na.map sV) gA oA cA,.ow 2 (z.2.ru.map ruleV),iN z.2.wa]:V)]) gr fr cr,bV b])) <| .dx 9 [0,1,2,3,4,5,6,7,8] [(4,⟨false,[],some [1000],[71],[]⟩),(6,⟨false,[],some [7],[73],[]⟩),(8,⟨true,[],none,[75],[1000]⟩)] [] <| .r 1 [] <| .r 1 [] <| .r 1 [] <| .r 1 [] <| .r 1 [.own 1 (z.2.na.map sV) gA oA cA] <| .r 1 [] <| .r 1 [.dead] <| .bs <| .eu (axE 1000 [0,0+z.1.length,0] (z.2.na.map sV) ([sV n]:List V) gr (fr+(0+z.1.length) * 3+0) 1 gA oA cA) (fun x75=>.h (.eqh 1000 (.agg [.own 3 (z.1.map grpO++[(.agg [.dead,.ow 2 (z.2.ru.map ruleV),iN z.2.wa]:V)]) gr fr cr,bV b])) <| .h (.eqt 75 (.own 1 ((z.2.na++[n]).map sV) x75.1 x75.2.1 x75.2.2)) <| .r 2 [] <| .st (some (.dead)) <| .h (.eqh 1000 (.agg [.own 3 (z.1.map grpO++[(.agg [.own 1 ((z.2.na++[n]).map sV) x75.1 x75.2.1 x75.2.2,.ow 2 (z.2.ru.map ruleV),iN z.2.wa]:V)]) gr fr cr,bV b])) <| .h (.wkX (.key 1000) [0,0+z.1.length,0] gr (fr+(0+z.1.length) * 3+0) (.own 1 ((z.2.na++[n]).map sV) x75.1 x75.2.1 x75.2.2) (.ow 1 ((z.2.na++[n]).map sV))) <| .h (.eqh 1000 (.agg [.own 3 (z.1.map grpO++[(.agg [.ow 1 ((z.2.na++[n]).map sV),.ow 2 (z.2.ru.map ruleV),iN z.2.wa]:V)]) gr fr cr,bV b])) <| .h (.eqh 1000 (.agg [.own 3 ((z.1++[(⟨z.2.na++[n],z.2.ru,z.2.wa⟩:Grp)]).map grpO) gr fr cr,bV b])) <| .nil)))) (.nil)))))))))
  ((fun v1:Bool=>(fun v2:V=>(fun v3:V=>(fun v4:List V=>(fun v5:V=>(∀ gr fr cr:Nat,True∧((∃ td,Tryz.prog.underlying 163=some td∧∀ i,td≠.interface i)∧((163:Nat)=163)∧((.agg #[.string (Str n)]:Value)=.agg #[.string (Str n)]))∧∀ _:Unit,True∧∀ g4:Nat,Z g4 0∧True∧True∧(true=true)∧True∧(true=true)∧(True∧True)∧(true=true)∧True∧(true=true)∧(Z g 0∧True)∧(true=true)∧True∧(true=true)∧True∧(true=true)∧(Gd (v1==false) (True∧True)∧Gd (v1==false) ((Gd (v1==false) ((v1==false)=true)∧True)∧True)∧Gd (v1==false) ((Gd (v1==false) ((v1==false)=true)∧True)∧True)∧Gd (v1==false) ((Gd (v1==false) ((v1==false)=true)∧True)∧Z g 1)∧True)∧(true=true)∧(Pk v1 true (v1==false)∧Pk true true true∧True)∧Br (true&&(v1||b)) (True∧True∧(True∧True)∧True∧(Z g 0∧True)∧True∧(Z g4 0∧True)∧True∧∀ g37:Nat,(fun v6:List V=>(fun v7:V=>(fun v8:V=>(fun v9:V=>(((3,3,gr,fr,cr,(gs.map grpO).length)=(3,3,gr,fr,cr,(gs.map grpO).length))∧(V.ownsL v6=false)∧(AllN 3 v6)∧(((gs.map grpO).length+v6.length) * 56≤140737488355328))∧∀ g40 o40 c40:Nat,((.own 3 ((gs.map grpO)++v6) g40 o40 c40:V)=.own 3 (gs.map grpO++[v7]) g40 o40 c40)∧(True∧True)∧(V.at g40 o40 (.own 3 (gs.map grpO++[v7]) g40 o40 c40) [gs.length,0]=some (g40,o40+(gs.length) * 3+0,.hd (.slot 37) [] 1 g37 0 0 (([n].map sV).length) 1))∧(V.set (.own 3 (gs.map grpO++[v7]) g40 o40 c40) [gs.length,0] (.own 1 ([n].map sV) g37 0 1)=.own 3 (gs.map grpO++[v9]) g40 o40 c40)∧(V.at g40 o40 (.own 3 (gs.map grpO++[v9]) g40 o40 c40) [gs.length,1]=some (g40,o40+(gs.length) * 3+1,.sl true []))∧(V.set (.own 3 (gs.map grpO++[v9]) g40 o40 c40) [gs.length,1] (.own 2 ([].map ruleV) 0 0 0)=.own 3 (gs.map grpO++[v8]) g40 o40 c40)∧(V.at g40 o40 (.own 3 (gs.map grpO++[v8]) g40 o40 c40) [gs.length,0]=some (g40,o40+(gs.length) * 3+0,.own 1 ([n].map sV) g37 0 1))∧(V.set (.own 3 (gs.map grpO++[v8]) g40 o40 c40) [gs.length,0] (.ow 1 ([n].map sV))=.own 3 (gs.map grpO++[v3]) g40 o40 c40)∧(V.at g40 o40 (.own 3 (gs.map grpO++[v3]) g40 o40 c40) [gs.length,1]=some (g40,o40+(gs.length) * 3+1,.own 2 ([].map ruleV) 0 0 0))∧(V.set (.own 3 (gs.map grpO++[v3]) g40 o40 c40) [gs.length,1] (.ow 2 ([].map ruleV))=.own 3 (gs.map grpO++[v5]) g40 o40 c40)∧((.own 3 (gs.map grpO++[v5]) g40 o40 c40:V)=.own 3 ((gs++[(⟨[n],[],0⟩:Grp)]).map grpO) g40 o40 c40)∧Z g 0∧(True∧True)∧Z g 1∧True∧Q (.tup []) (.tup [])∧(Qr g (.agg [.ow 3 ((gs++[(⟨[n],[],0⟩:Grp)]).map grpO),bV false]) g v2∧True)) (.agg [.own 1 ([n].map sV) g37 0 1,.sl true [],iN 0]:V)) (.agg [.own 1 ([n].map sV) g37 0 1,.own 2 ([].map ruleV) 0 0 0,iN 0]:V)) (.agg [.hd (.slot 37) [] 1 g37 0 0 (([n].map sV).length) 1,.sl true [],iN 0]:V)) ([.agg [.hd (.slot 37) [] 1 g37 0 0 (([n].map sV).length) 1,.sl true [],iN 0]]:List V)) ((True∧Z g 0∧True)∧Br v1 (True∧Q (.tup []) (.tup [])∧(Qr g (.agg [.ow 3 (gs.map grpO),bV b]) g v2∧True)) ((∃ z:List Grp×Grp,gs=z.1++[z.2])∧∀ z:List Grp×Grp,(gs=z.1++[z.2])→(fun v10:V=>(fun v11:V=>(fun v12:V=>(fun v13:V=>(fun v14:V=>((.agg [.own 3 (gs.map grpO) gr fr cr,bV b]:V)=.agg [.own 3 (z.1.map grpO++[v10]) gr fr cr,bV b])∧True∧(True∧True)∧True∧(Z g 0∧True)∧True∧(True∧True)∧True∧(Z g 0∧True)∧True∧(I64 ((((z.1.map grpO++[v10]).length:Nat):Int) - 1)∧True)∧Q (iV ((((z.1.map grpO++[v10]).length:Nat):Int) - 1)) (iN z.1.length)∧(In (z.1.length:Int) ((z.1.map grpO++[v10]).length)∧True)∧True∧((∃ td,Tryz.prog.underlying 163=some td∧∀ i,td≠.interface i)∧((163:Nat)=163)∧((.agg #[.string (Str n)]:Value)=.agg #[.string (Str n)]))∧∀ _:Unit,True∧Br true (∀ g7:Nat,Z g7 0∧(V.at g 0 v13 [0,0+z.1.length,0]=some (gr,fr+(0+z.1.length) * 3+0,.ow 1 (z.2.na.map sV)))∧∀ gA oA cA:Nat,(fun v15:V=>(V.set v13 [0,0+z.1.length,0] (.own 1 (z.2.na.map sV) gA oA cA)=.agg [.own 3 (z.1.map grpO++[(.agg [.own 1 (z.2.na.map sV) gA oA cA,.ow 2 (z.2.ru.map ruleV),iN z.2.wa]:V)]) gr fr cr,bV b])∧True∧True∧(True∧True)∧True∧((V.at g 0 v15 [0,0+z.1.length,0]=some (gr,(fr+(0+z.1.length) * 3+0),.own 1 (z.2.na.map sV) gA oA cA))∧True)∧True∧(Z g7 0∧True)∧(v4=v4∧((.hd (.key 1000) [0,0+z.1.length,0] 1 gA oA 0 ((z.2.na.map sV).length) cA:V)=.hd (.key 1000) [0,0+z.1.length,0] 1 gA oA 0 ((z.2.na.map sV).length) cA)∧(V.at g 0 v15 [0,0+z.1.length,0]=some (gr,fr+(0+z.1.length) * 3+0,.own 1 (z.2.na.map sV) gA oA cA))∧((1:Nat)=1)∧(V.ownsL v4=false)∧(AllN 1 v4)∧(((z.2.na.map sV).length+v4.length) * 16≤140737488355328))∧∀ x75:Nat×Nat×Nat,(fun v16:V=>(fun v17:V=>(V.set v15 [0,0+z.1.length,0] (.dead)=.agg [.own 3 (z.1.map grpO++[v11]) gr fr cr,bV b])∧((.own 1 ((z.2.na.map sV)++v4) x75.1 x75.2.1 x75.2.2:V)=.own 1 ((z.2.na++[n]).map sV) x75.1 x75.2.1 x75.2.2)∧(True∧True)∧(V.at g 0 v14 [0,0+z.1.length,0]=some (gr,(fr+(0+z.1.length) * 3+0),.dead))∧(V.set v14 [0,0+z.1.length,0] (.own 1 ((z.2.na++[n]).map sV) x75.1 x75.2.1 x75.2.2)=.agg [.own 3 (z.1.map grpO++[v16]) gr fr cr,bV b])∧(V.at g 0 v17 [0,0+z.1.length,0]=some (gr,fr+(0+z.1.length) * 3+0,.own 1 ((z.2.na++[n]).map sV) x75.1 x75.2.1 x75.2.2))∧(V.set v17 [0,0+z.1.length,0] (.ow 1 ((z.2.na++[n]).map sV))=.agg [.own 3 (z.1.map grpO++[v12]) gr fr cr,bV b])∧((.agg [.own 3 (z.1.map grpO++[v12]) gr fr cr,bV b]:V)=.agg [.own 3 ((z.1++[(⟨z.2.na++[n],z.2.ru,z.2.wa⟩:Grp)]).map grpO) gr fr cr,bV b])∧True∧Q (.tup []) (.tup [])∧(Qr g (.agg [.ow 3 ((z.1++[(⟨z.2.na++[n],z.2.ru,z.2.wa⟩:Grp)]).map grpO),bV b]) g v2∧True)) (.agg [.own 3 (z.1.map grpO++[v16]) gr fr cr,bV b])) (.agg [.own 1 ((z.2.na++[n]).map sV) x75.1 x75.2.1 x75.2.2,.ow 2 (z.2.ru.map ruleV),iN z.2.wa]:V)) (.agg [.own 3 (z.1.map grpO++[(.agg [.own 1 (z.2.na.map sV) gA oA cA,.ow 2 (z.2.ru.map ruleV),iN z.2.wa]:V)]) gr fr cr,bV b])) (False)) (.agg [.own 3 (z.1.map grpO++[v11]) gr fr cr,bV b])) (.agg [.own 3 (z.1.map grpO++[v10]) gr fr cr,bV b])) (.agg [.ow 1 ((z.2.na++[n]).map sV),.ow 2 (z.2.ru.map ruleV),iN z.2.wa]:V)) (.agg [.dead,.ow 2 (z.2.ru.map ruleV),iN z.2.wa]:V)) (.agg [.ow 1 (z.2.na.map sV),.ow 2 (z.2.ru.map ruleV),iN z.2.wa]:V))))) (.agg [.ow 1 ([n].map sV),.ow 2 ([].map ruleV),iN 0]:V)) ([sV n]:List V)) (.agg [.ow 1 ([n].map sV),.own 2 ([].map ruleV) 0 0 0,iN 0]:V)) (.agg [.ow 3 (((takeC gs b n).1).map grpO),bV ((takeC gs b n).2)])) (eqB (((gs.map grpO).length:Nat):Int) 0))
  (by kernel_rfl) ?_
 intro gr fr cr
 refine ⟨trivial,⟨⟨_,Tryz.underlying163,by intro i h; cases h⟩,rfl,rfl⟩,?_⟩
 intro _
 refine ⟨trivial,?_⟩
 intro g4
 refine ⟨rfl,trivial,trivial,rfl,trivial,rfl,⟨trivial,trivial⟩,rfl,trivial,rfl,⟨rfl,trivial⟩,rfl,trivial,rfl,trivial,rfl,⟨fun hG=>⟨trivial,trivial⟩,fun hG=>⟨⟨fun h=>h,trivial⟩,trivial⟩,fun hG=>⟨⟨fun h=>h,trivial⟩,trivial⟩,fun hG=>⟨⟨fun h=>h,trivial⟩,rfl⟩,trivial⟩,rfl,⟨⟨fun _=>rfl,fun h=>by first | (rw [h]; done) | (rw [h]; rfl)⟩,⟨fun _=>rfl,fun _=>rfl⟩,trivial⟩,?_⟩
 refine ⟨fun hb1=>?_,fun hb1=>?_⟩
 · try simp only [nb,List.length_map] at hb1
   refine ⟨trivial,trivial,⟨trivial,trivial⟩,trivial,⟨rfl,trivial⟩,trivial,⟨rfl,trivial⟩,trivial,?_⟩
   intro g37
   refine ⟨⟨rfl,rfl,by simp [AllN,V.n,V.ns],by (try simp only [List.length_map,List.length_cons,List.length_nil]); omega⟩,?_⟩
   intro g40 o40 c40
   refine ⟨congrArg (V.own 3 · g40 o40 c40) (rfl),⟨trivial,trivial⟩,at_el2 (getE_last) rfl,set_el2 (x:=.agg [.hd (.slot 37) [] 1 g37 0 0 (([n].map sV).length) 1,.sl true [],iN 0]) (getE_last) (set_last),at_el2 (getE_last) rfl,set_el2 (x:=.agg [.own 1 ([n].map sV) g37 0 1,.sl true [],iN 0]) (getE_last) (set_last),at_el2 (getE_last) rfl,set_el2 (x:=.agg [.own 1 ([n].map sV) g37 0 1,.own 2 ([].map ruleV) 0 0 0,iN 0]) (getE_last) (set_last),at_el2 (getE_last) rfl,set_el2 (x:=.agg [.ow 1 ([n].map sV),.own 2 ([].map ruleV) 0 0 0,iN 0]) (getE_last) (set_last),congrArg (V.own 3 · g40 o40 c40) (by rw [List.map_append (f:=grpO)]; rfl),rfl,⟨trivial,trivial⟩,rfl,?_⟩
   refine ⟨trivial,?_,⟨by rw [show takeC gs b n=(gs++[⟨[n],[],0⟩],false) from if_pos (hb1.imp (fun h=>List.eq_nil_of_length_eq_zero (by simpa using h)) id)],trivial⟩⟩
   unfold Q
   rfl
 · try simp only [nb,List.length_map] at hb1
   refine ⟨⟨trivial,rfl,trivial⟩,?_⟩
   refine ⟨fun hb2=>?_,fun hb2=>?_⟩
   · try simp only [nb,List.length_map] at hb2
     all_goals (simp_all)
   · try simp only [nb,List.length_map] at hb2
     refine ⟨ex_last (ne_of_len (by omega)),?_⟩
     intro z hz
     have hz2:=hn z.2 (by rw [hz]; simp)
     have hzl:gs.length=z.1.length+1:=by rw [hz]; simp
     refine ⟨congrArg (fun r:V=>V.agg [r,bV b]) (congrArg (V.own 3 · gr fr cr) (by rw [hz,List.map_append]; rfl)),trivial,⟨trivial,trivial⟩,trivial,⟨rfl,trivial⟩,trivial,⟨trivial,trivial⟩,trivial,⟨rfl,trivial⟩,trivial,⟨by (try simp only [List.length_map] at *); (try simp only [List.length_append,List.length_map,List.length_cons,List.length_nil]); omega,trivial⟩,by unfold Q; refine congrArg iV ?_; simp,⟨by (try simp only [List.length_map] at *); (try simp only [List.length_append,List.length_map,List.length_cons,List.length_nil]); omega,trivial⟩,trivial,⟨⟨_,Tryz.underlying163,by intro i h; cases h⟩,rfl,rfl⟩,?_⟩
     intro _
     refine ⟨trivial,?_⟩
     refine ⟨fun hb3=>?_,fun hb3=>?_⟩
     · try simp only [nb] at hb3
       intro g7
       refine ⟨rfl,at_agg0.trans (at_el2 (by rw [Nat.zero_add]; exact getE_last) rfl),?_⟩
       intro gA oA cA
       refine ⟨set_agg0.trans (congrArg (fun r:V=>V.agg [r,bV b]) (set_el2 (x:=.agg [.ow 1 (z.2.na.map sV),.ow 2 (z.2.ru.map ruleV),iN z.2.wa]) (by rw [Nat.zero_add]; exact getE_last) (by rw [Nat.zero_add]; exact set_last))),trivial,trivial,⟨trivial,trivial⟩,trivial,⟨at_agg0.trans (at_el2 (by rw [Nat.zero_add]; exact getE_last) rfl),trivial⟩,trivial,⟨rfl,trivial⟩,⟨rfl,rfl,at_agg0.trans (at_el2 (by rw [Nat.zero_add]; exact getE_last) rfl),rfl,rfl,by simp [AllN,V.n,V.ns],by (try simp only [List.length_map,List.length_cons,List.length_nil]); omega⟩,?_⟩
       intro x75
       refine ⟨set_agg0.trans (congrArg (fun r:V=>V.agg [r,bV b]) (set_el2 (x:=.agg [.own 1 (z.2.na.map sV) gA oA cA,.ow 2 (z.2.ru.map ruleV),iN z.2.wa]) (by rw [Nat.zero_add]; exact getE_last) (by rw [Nat.zero_add]; exact set_last))),congrArg (V.own 1 · x75.1 x75.2.1 x75.2.2) (by simp),⟨trivial,trivial⟩,at_agg0.trans (at_el2 (by rw [Nat.zero_add]; exact getE_last) rfl),set_agg0.trans (congrArg (fun r:V=>V.agg [r,bV b]) (set_el2 (x:=.agg [.dead,.ow 2 (z.2.ru.map ruleV),iN z.2.wa]) (by rw [Nat.zero_add]; exact getE_last) (by rw [Nat.zero_add]; exact set_last))),at_agg0.trans (at_el2 (by rw [Nat.zero_add]; exact getE_last) rfl),set_agg0.trans (congrArg (fun r:V=>V.agg [r,bV b]) (set_el2 (x:=.agg [.own 1 ((z.2.na++[n]).map sV) x75.1 x75.2.1 x75.2.2,.ow 2 (z.2.ru.map ruleV),iN z.2.wa]) (by rw [Nat.zero_add]; exact getE_last) (by rw [Nat.zero_add]; exact set_last))),congrArg (fun r:V=>V.agg [r,bV b]) (congrArg (V.own 3 · gr fr cr) (by rw [List.map_append (f:=grpO)]; rfl)),?_⟩
       refine ⟨trivial,?_,⟨by rw [show takeC gs b n=(z.1++[⟨z.2.na++[n],z.2.ru,z.2.wa⟩],b) from by rw [takeC,if_neg (by rintro (h | h) <;> simp_all),hz,setLast_app]],trivial⟩⟩
       unfold Q
       rfl
     · try simp only [nb] at hb3
       all_goals (first | exact absurd hb3 (by decide) | simp_all)
theorem takeR_ok (gs:List Grp) (b:Bool) (g:Nat) (l:Bool) (p:List UInt8) (hg:gs.length≤1000) (hn:∀ y,y∈gs→y.na.length≤1000∧y.ru.length≤6):PF Tryz.prog 121 [.ptr (.key 1000) [] g 0,.lit (.iface 165 (.agg #[.bool l,.string (Str p)]))] [(1000,(g,.agg [.ow 3 (gs.map grpO),bV b]))] (fun r h=>r=(.tup [])∧h=[(1000,(g,.agg [.ow 3 (((takeR gs b l p).1).map grpO),bV ((takeR gs b l p).2)]))]):=by
 refine PF_go1 (N:=112) (rs:=[]) Tryz.func121 (by kernel_rfl) rfl rfl rfl (by kernel_rfl)
  (.oR (.key 1000) [0] (fun gr fr cr=>.r 1 [] <| .cu (tfC zt163) (fun _=>.r 3 [] <| .al zt163 (fun g4=>.st none <| .r 1 [] <| .r 2 [] <| .gf (.dead) <| .gf (.dead) <| .gf (.dead) <| .gf (.dead) <| .gf (.dead) <| .gf (bV false) <| .gf (bV false) <| .gf (.dead) <| .gf (.dead) <| .gf (.dead) <| .gf (bV false) <| .gf (bV false) <| .r 1 [] <| .br (.nil) (.r 6 [.dead] <| .br (.nil) (.ex (List Grp×Grp) (fun z=>gs=z.1++[z.2]) (fun (z:List Grp×Grp)=>.h (.eqh 1000 (.agg [.own 3 (z.1.map grpO++[(.agg [.ow 1 (z.2.na.map sV),.ow 2 (z.2.ru.map ruleV),iN z.2.wa]:V)]) gr fr cr,bV b])) <| .dx 10 [0,1,2,3,4,5,6,7,8,9] [(3,⟨false,[],some [1000],[55],[]⟩),(7,⟨false,[],some [1000],[59],[]⟩)] [] <| .r 1 [] <| .r 1 [] <| .r 1 [] <| .r 1 [.dead] <| .r 1 [] <| .r 1 [] <| .r 1 [] <| .r 1 [.dead] <| .r 1 [] <| .r 1 [] <| .h (.eqt 61 (iN z.1.length)) <| .r 2 [] <| .r 1 [] <| .cu (tfC zt163) (fun _=>.r 2 [] <| .br (.nil) (.cu (taC (.agg [.agg [bV l,sV p]])) (fun _=>.r 2 [] <| .br (.al zt165 (fun g8=>.st none <| .r 3 [] <| .st none <| .oRx (.key 1000) [0,0+z.1.length,1] gr (fr+(0+z.1.length) * 3+1) 2 (z.2.ru.map ruleV) (fun gA oA cA=>.h (.eqh 1000 (.agg [.own 3 (z.1.map grpO++[(.agg [.ow 1 (z.2.na.map sV),.own 2 (z.2.ru.map ruleV) gA oA cA,iN z.2.wa]:V)]) gr fr cr,bV true])) <| .r 6 [.own 2 (z.2.ru.map ruleV) gA oA cA] <| .br (.dx 9 [0,1,2,3,4,5,6,7,8] [(4,⟨false,[],some [1000],[94],[]⟩),(6,⟨false,[],some [8],[96],[]⟩),(8,⟨true,[],none,[98],[1000]⟩)] [] <| .r 1 [] <| .r 1 [] <| .r 1 [] <| .r 1 [] <| .r 1 [.own 2 (z.2.ru.map ruleV) gA oA cA] <| .r 1 [] <| .r 1 [.dead] <| .bs <| .eu (axE 1000 [0,0+z.1.length,1] (z.2.ru.map ruleV) ([.agg [bV l,sV p]]:List V) gr (fr+(0+z.1.length) * 3+1) 2 gA oA cA) (fun x98=>.h (.eqh 1000 (.agg [.own 3 (z.1.map grpO++[(.agg [.ow 1 (z.2.na.map sV),.dead,iN z.2.wa]:V)]) gr fr cr,bV true])) <| .h (.eqt 98 (.own 2 ((z.2.ru++[(⟨l,p⟩:Rul)]).map ruleV) x98.1 x98.2.1 x98.2.2)) <| .r 2 [] <| .st (some (.dead)) <| .h (.eqh 1000 (.agg [.own 3 (z.1.map grpO++[(.agg [.ow 1 (z.2.na.map sV),.own 2 ((z.2.ru++[(⟨l,p⟩:Rul)]).map ruleV) x98.1 x98.2.1 x98.2.2,iN z.2.wa]:V)]) gr fr cr,bV true])) <| .h (.wkX (.key 1000) [0,0+z.1.length,1] gr (fr+(0+z.1.length) * 3+1) (.own 2 ((z.2.ru++[(⟨l,p⟩:Rul)]).map ruleV) x98.1 x98.2.1 x98.2.2) (.ow 2 ((z.2.ru++[(⟨l,p⟩:Rul)]).map ruleV))) <| .h (.eqh 1000 (.agg [.own 3 (z.1.map grpO++[(.agg [.ow 1 (z.2.na.map sV),.ow 2 ((z.2.ru++[(⟨l,p⟩:Rul)]).map ruleV),iN z.2.wa]:V)]) gr fr cr,bV true])) <| .h (.eqh 1000 (.agg [.own 3 ((z.1++[(⟨z.2.na,z.2.ru++[⟨l,p⟩],z.2.wa⟩:Grp)]).map grpO) gr fr cr,bV true])) <| .nil)) (.h (.wkX (.key 1000) [0,0+z.1.length,1] gr (fr+(0+z.1.length) * 3+1) (.own 2 (z.2.ru.map ruleV) gA oA cA) (.ow 2 (z.2.ru.map ruleV))) <| .h (.eqh 1000 (.agg [.own 3 (z.1.map grpO++[(.agg [.ow 1 (z.2.na.map sV),.ow 2 (z.2.ru.map ruleV),iN z.2.wa]:V)]) gr fr cr,bV true])) <| .h (.eqh 1000 (.agg [.own 3 ((z.1++[z.2]).map grpO) gr fr cr,bV true])) <| .nil)))) (.nil)))))))))))
  ((fun v1:V=>(fun v2:List V=>(∀ gr fr cr:Nat,True∧((∃ td,Tryz.prog.underlying 163=some td∧∀ i,td≠.interface i)∧((165:Nat)≠163)∧(∃ y,(.agg [sV []]:V).val? =some y∧∀ w,(zeroValue 163).run Tryz.prog w=.ok y w))∧∀ _:Unit,True∧∀ g4:Nat,Z g4 0∧True∧True∧(false=false)∧(false=false)∧(false=false)∧(false=false)∧(false=false)∧(false=false)∧(false=false)∧(false=false)∧(false=false)∧(false=false)∧(false=false)∧(false=false)∧(Pk false false true∧True)∧Br (false&&false) (False) ((True∧Z g 0∧True)∧Br (eqB (((gs.map grpO).length:Nat):Int) 0) (True∧Q (.tup []) (.tup [])∧(Qr g (.agg [.ow 3 (gs.map grpO),bV b]) g v1∧True)) ((∃ z:List Grp×Grp,gs=z.1++[z.2])∧∀ z:List Grp×Grp,(gs=z.1++[z.2])→(fun v3:V=>(fun v7:V=>(fun v4:V=>(fun v5:V=>(fun v6:V=>((.agg [.own 3 (gs.map grpO) gr fr cr,bV b]:V)=.agg [.own 3 (z.1.map grpO++[v3]) gr fr cr,bV b])∧True∧(True∧True)∧True∧(Z g 0∧True)∧True∧(True∧True)∧True∧(Z g 0∧True)∧True∧(I64 ((((z.1.map grpO++[v3]).length:Nat):Int) - 1)∧True)∧Q (iV ((((z.1.map grpO++[v3]).length:Nat):Int) - 1)) (iN z.1.length)∧(In (z.1.length:Int) ((z.1.map grpO++[v3]).length)∧True)∧True∧((∃ td,Tryz.prog.underlying 163=some td∧∀ i,td≠.interface i)∧((165:Nat)≠163)∧(∃ y,(.agg [sV []]:V).val? =some y∧∀ w,(zeroValue 163).run Tryz.prog w=.ok y w))∧∀ _:Unit,True∧Br false (False) (((∃ td,Tryz.prog.underlying 165=some td∧∀ i,td≠.interface i)∧((165:Nat)=165)∧((.agg #[.bool l,.string (Str p)]:Value)=.agg #[.bool l,.string (Str p)]))∧∀ _:Unit,True∧Br true (∀ g8:Nat,Z g8 0∧(True∧True)∧Z g 1∧(V.at g 0 v6 [0,0+z.1.length,1]=some (gr,fr+(0+z.1.length) * 3+1,.ow 2 (z.2.ru.map ruleV)))∧∀ gA oA cA:Nat,(fun v8:V=>(V.set v6 [0,0+z.1.length,1] (.own 2 (z.2.ru.map ruleV) gA oA cA)=.agg [.own 3 (z.1.map grpO++[(.agg [.ow 1 (z.2.na.map sV),.own 2 (z.2.ru.map ruleV) gA oA cA,iN z.2.wa]:V)]) gr fr cr,bV true])∧(True∧(V.at g 0 v8 [0,0+z.1.length,1]=some (gr,(fr+(0+z.1.length) * 3+1),.own 2 (z.2.ru.map ruleV) gA oA cA))∧True)∧Br (ltB (((z.2.ru.map ruleV).length:Nat):Int) 6) (True∧True∧(True∧True)∧True∧((V.at g 0 v8 [0,0+z.1.length,1]=some (gr,(fr+(0+z.1.length) * 3+1),.own 2 (z.2.ru.map ruleV) gA oA cA))∧True)∧True∧(Z g8 0∧True)∧(v2=v2∧((.hd (.key 1000) [0,0+z.1.length,1] 2 gA oA 0 ((z.2.ru.map ruleV).length) cA:V)=.hd (.key 1000) [0,0+z.1.length,1] 2 gA oA 0 ((z.2.ru.map ruleV).length) cA)∧(V.at g 0 v8 [0,0+z.1.length,1]=some (gr,fr+(0+z.1.length) * 3+1,.own 2 (z.2.ru.map ruleV) gA oA cA))∧((2:Nat)=2)∧(V.ownsL v2=false)∧(AllN 2 v2)∧(((z.2.ru.map ruleV).length+v2.length) * 24≤140737488355328))∧∀ x98:Nat×Nat×Nat,(fun v9:V=>(fun v10:V=>(V.set v8 [0,0+z.1.length,1] (.dead)=.agg [.own 3 (z.1.map grpO++[v7]) gr fr cr,bV true])∧((.own 2 ((z.2.ru.map ruleV)++v2) x98.1 x98.2.1 x98.2.2:V)=.own 2 ((z.2.ru++[(⟨l,p⟩:Rul)]).map ruleV) x98.1 x98.2.1 x98.2.2)∧(True∧True)∧(V.at g 0 v4 [0,0+z.1.length,1]=some (gr,(fr+(0+z.1.length) * 3+1),.dead))∧(V.set v4 [0,0+z.1.length,1] (.own 2 ((z.2.ru++[(⟨l,p⟩:Rul)]).map ruleV) x98.1 x98.2.1 x98.2.2)=.agg [.own 3 (z.1.map grpO++[v9]) gr fr cr,bV true])∧(V.at g 0 v10 [0,0+z.1.length,1]=some (gr,fr+(0+z.1.length) * 3+1,.own 2 ((z.2.ru++[(⟨l,p⟩:Rul)]).map ruleV) x98.1 x98.2.1 x98.2.2))∧(V.set v10 [0,0+z.1.length,1] (.ow 2 ((z.2.ru++[(⟨l,p⟩:Rul)]).map ruleV))=.agg [.own 3 (z.1.map grpO++[v5]) gr fr cr,bV true])∧((.agg [.own 3 (z.1.map grpO++[v5]) gr fr cr,bV true]:V)=.agg [.own 3 ((z.1++[(⟨z.2.na,z.2.ru++[⟨l,p⟩],z.2.wa⟩:Grp)]).map grpO) gr fr cr,bV true])∧True∧Q (.tup []) (.tup [])∧(Qr g (.agg [.ow 3 ((z.1++[(⟨z.2.na,z.2.ru++[⟨l,p⟩],z.2.wa⟩:Grp)]).map grpO),bV true]) g v1∧True)) (.agg [.own 3 (z.1.map grpO++[v9]) gr fr cr,bV true])) (.agg [.ow 1 (z.2.na.map sV),.own 2 ((z.2.ru++[(⟨l,p⟩:Rul)]).map ruleV) x98.1 x98.2.1 x98.2.2,iN z.2.wa]:V)) ((V.at g 0 v8 [0,0+z.1.length,1]=some (gr,fr+(0+z.1.length) * 3+1,.own 2 (z.2.ru.map ruleV) gA oA cA))∧(V.set v8 [0,0+z.1.length,1] (.ow 2 (z.2.ru.map ruleV))=.agg [.own 3 (z.1.map grpO++[v3]) gr fr cr,bV true])∧((.agg [.own 3 (z.1.map grpO++[v3]) gr fr cr,bV true]:V)=.agg [.own 3 ((z.1++[z.2]).map grpO) gr fr cr,bV true])∧True∧Q (.tup []) (.tup [])∧(Qr g (.agg [.ow 3 ((z.1++[z.2]).map grpO),bV true]) g v1∧True))) (.agg [.own 3 (z.1.map grpO++[(.agg [.ow 1 (z.2.na.map sV),.own 2 (z.2.ru.map ruleV) gA oA cA,iN z.2.wa]:V)]) gr fr cr,bV true])) (False))) (.agg [.own 3 (z.1.map grpO++[v3]) gr fr cr,bV true])) (.agg [.ow 1 (z.2.na.map sV),.ow 2 ((z.2.ru++[(⟨l,p⟩:Rul)]).map ruleV),iN z.2.wa]:V)) (.agg [.own 3 (z.1.map grpO++[v7]) gr fr cr,bV true])) (.agg [.ow 1 (z.2.na.map sV),.dead,iN z.2.wa]:V)) (.agg [.ow 1 (z.2.na.map sV),.ow 2 (z.2.ru.map ruleV),iN z.2.wa]:V))))) ([.agg [bV l,sV p]]:List V)) (.agg [.ow 3 (((takeR gs b l p).1).map grpO),bV ((takeR gs b l p).2)]))
  (by kernel_rfl) ?_
 intro gr fr cr
 refine ⟨trivial,⟨⟨_,Tryz.underlying163,by intro i h; cases h⟩,by decide,_,rfl,Tryz.zeroValue163⟩,?_⟩
 intro _
 refine ⟨trivial,?_⟩
 intro g4
 refine ⟨rfl,trivial,trivial,rfl,rfl,rfl,rfl,rfl,rfl,rfl,rfl,rfl,rfl,rfl,rfl,⟨⟨fun h=>by first | (rw [h]; done) | (rw [h]; rfl),fun _=>rfl⟩,trivial⟩,?_⟩
 refine ⟨fun hb1=>?_,fun hb1=>?_⟩
 · try simp only [nb] at hb1
   all_goals (first | exact absurd hb1 (by decide) | simp_all)
 · try simp only [nb] at hb1
   refine ⟨⟨trivial,rfl,trivial⟩,?_⟩
   refine ⟨fun hb2=>?_,fun hb2=>?_⟩
   · try simp only [nb,List.length_map] at hb2
     refine ⟨trivial,?_,⟨by rw [show takeR gs b l p=(gs,b) from if_pos (List.eq_nil_of_length_eq_zero (by omega))],trivial⟩⟩
     unfold Q
     rfl
   · try simp only [nb,List.length_map] at hb2
     refine ⟨ex_last (ne_of_len (by omega)),?_⟩
     intro z hz
     have hz2:=hn z.2 (by rw [hz]; simp)
     have hzl:gs.length=z.1.length+1:=by rw [hz]; simp
     refine ⟨congrArg (fun r:V=>V.agg [r,bV b]) (congrArg (V.own 3 · gr fr cr) (by rw [hz,List.map_append]; rfl)),trivial,⟨trivial,trivial⟩,trivial,⟨rfl,trivial⟩,trivial,⟨trivial,trivial⟩,trivial,⟨rfl,trivial⟩,trivial,⟨by (try simp only [List.length_map] at *); (try simp only [List.length_append,List.length_map,List.length_cons,List.length_nil]); omega,trivial⟩,by unfold Q; refine congrArg iV ?_; simp,⟨by (try simp only [List.length_map] at *); (try simp only [List.length_append,List.length_map,List.length_cons,List.length_nil]); omega,trivial⟩,trivial,⟨⟨_,Tryz.underlying163,by intro i h; cases h⟩,by decide,_,rfl,Tryz.zeroValue163⟩,?_⟩
     intro _
     refine ⟨trivial,?_⟩
     refine ⟨fun hb3=>?_,fun hb3=>?_⟩
     · try simp only [nb] at hb3
       all_goals (first | exact absurd hb3 (by decide) | simp_all)
     · try simp only [nb] at hb3
       refine ⟨⟨⟨_,Tryz.underlying165,by intro i h; cases h⟩,rfl,rfl⟩,?_⟩
       intro _
       refine ⟨trivial,?_⟩
       refine ⟨fun hb4=>?_,fun hb4=>?_⟩
       · try simp only [nb] at hb4
         intro g8
         refine ⟨rfl,⟨trivial,trivial⟩,rfl,at_agg0.trans (at_el2 (by rw [Nat.zero_add]; exact getE_last) rfl),?_⟩
         intro gA oA cA
         refine ⟨set_agg0.trans (congrArg (fun r:V=>V.agg [r,bV true]) (set_el2 (x:=.agg [.ow 1 (z.2.na.map sV),.ow 2 (z.2.ru.map ruleV),iN z.2.wa]) (by rw [Nat.zero_add]; exact getE_last) (by rw [Nat.zero_add]; exact set_last))),⟨trivial,at_agg0.trans (at_el2 (by rw [Nat.zero_add]; exact getE_last) rfl),trivial⟩,?_⟩
         refine ⟨fun hb5=>?_,fun hb5=>?_⟩
         · try simp only [nb,List.length_map] at hb5
           refine ⟨trivial,trivial,⟨trivial,trivial⟩,trivial,⟨at_agg0.trans (at_el2 (by rw [Nat.zero_add]; exact getE_last) rfl),trivial⟩,trivial,⟨rfl,trivial⟩,⟨rfl,rfl,at_agg0.trans (at_el2 (by rw [Nat.zero_add]; exact getE_last) rfl),rfl,rfl,by simp [AllN,V.n,V.ns],by (try simp only [List.length_map,List.length_cons,List.length_nil]); omega⟩,?_⟩
           intro x98
           refine ⟨set_agg0.trans (congrArg (fun r:V=>V.agg [r,bV true]) (set_el2 (x:=.agg [.ow 1 (z.2.na.map sV),.own 2 (z.2.ru.map ruleV) gA oA cA,iN z.2.wa]) (by rw [Nat.zero_add]; exact getE_last) (by rw [Nat.zero_add]; exact set_last))),congrArg (V.own 2 · x98.1 x98.2.1 x98.2.2) (by simp),⟨trivial,trivial⟩,at_agg0.trans (at_el2 (by rw [Nat.zero_add]; exact getE_last) rfl),set_agg0.trans (congrArg (fun r:V=>V.agg [r,bV true]) (set_el2 (x:=.agg [.ow 1 (z.2.na.map sV),.dead,iN z.2.wa]) (by rw [Nat.zero_add]; exact getE_last) (by rw [Nat.zero_add]; exact set_last))),at_agg0.trans (at_el2 (by rw [Nat.zero_add]; exact getE_last) rfl),set_agg0.trans (congrArg (fun r:V=>V.agg [r,bV true]) (set_el2 (x:=.agg [.ow 1 (z.2.na.map sV),.own 2 ((z.2.ru++[(⟨l,p⟩:Rul)]).map ruleV) x98.1 x98.2.1 x98.2.2,iN z.2.wa]) (by rw [Nat.zero_add]; exact getE_last) (by rw [Nat.zero_add]; exact set_last))),congrArg (fun r:V=>V.agg [r,bV true]) (congrArg (V.own 3 · gr fr cr) (by rw [List.map_append (f:=grpO)]; rfl)),?_⟩
           refine ⟨trivial,?_,⟨by rw [show takeR gs b l p=(z.1++[⟨z.2.na,z.2.ru++[⟨l,p⟩],z.2.wa⟩],true) from by rw [takeR,if_neg (by rintro h; simp_all),if_pos (by rw [hz,lastRu_app]; omega),hz,setLast_app]],trivial⟩⟩
           unfold Q
           rfl
         · try simp only [nb,List.length_map] at hb5
           refine ⟨at_agg0.trans (at_el2 (by rw [Nat.zero_add]; exact getE_last) rfl),set_agg0.trans (congrArg (fun r:V=>V.agg [r,bV true]) (set_el2 (x:=.agg [.ow 1 (z.2.na.map sV),.own 2 (z.2.ru.map ruleV) gA oA cA,iN z.2.wa]) (by rw [Nat.zero_add]; exact getE_last) (by rw [Nat.zero_add]; exact set_last))),congrArg (fun r:V=>V.agg [r,bV true]) (congrArg (V.own 3 · gr fr cr) (by rw [List.map_append (f:=grpO)]; rfl)),?_⟩
           refine ⟨trivial,?_,⟨by rw [show takeR gs b l p=(z.1++[z.2],true) from by rw [takeR,if_neg (by rintro h; simp_all),if_neg (by rw [hz,lastRu_app]; omega),hz]],trivial⟩⟩
           unfold Q
           rfl
       · try simp only [nb] at hb4
         all_goals (first | exact absurd hb4 (by decide) | simp_all)
theorem takeW_ok (gs:List Grp) (b:Bool) (g:Nat) (v:Nat) (hg:gs.length≤1000) (hn:∀ y,y∈gs→y.na.length≤1000∧y.ru.length≤6):PF Tryz.prog 121 [.ptr (.key 1000) [] g 0,.lit (.iface 168 (.agg #[.int .i64 (v:Int)]))] [(1000,(g,.agg [.ow 3 (gs.map grpO),bV b]))] (fun r h=>r=(.tup [])∧h=[(1000,(g,.agg [.ow 3 (((takeW gs b v).1).map grpO),bV ((takeW gs b v).2)]))]):=by
 refine PF_go1 (N:=112) (rs:=[]) Tryz.func121 (by kernel_rfl) rfl rfl rfl (by kernel_rfl)
  (.oR (.key 1000) [0] (fun gr fr cr=>.r 1 [] <| .cu (tfC zt163) (fun _=>.r 3 [] <| .al zt163 (fun g4=>.st none <| .r 1 [] <| .r 2 [] <| .gf (.dead) <| .gf (.dead) <| .gf (.dead) <| .gf (.dead) <| .gf (.dead) <| .gf (bV false) <| .gf (bV false) <| .gf (.dead) <| .gf (.dead) <| .gf (.dead) <| .gf (bV false) <| .gf (bV false) <| .r 1 [] <| .br (.nil) (.r 6 [.dead] <| .br (.nil) (.ex (List Grp×Grp) (fun z=>gs=z.1++[z.2]) (fun (z:List Grp×Grp)=>.h (.eqh 1000 (.agg [.own 3 (z.1.map grpO++[(.agg [.ow 1 (z.2.na.map sV),.ow 2 (z.2.ru.map ruleV),iN z.2.wa]:V)]) gr fr cr,bV b])) <| .dx 10 [0,1,2,3,4,5,6,7,8,9] [(3,⟨false,[],some [1000],[55],[]⟩),(7,⟨false,[],some [1000],[59],[]⟩)] [] <| .r 1 [] <| .r 1 [] <| .r 1 [] <| .r 1 [.dead] <| .r 1 [] <| .r 1 [] <| .r 1 [] <| .r 1 [.dead] <| .r 1 [] <| .r 1 [] <| .h (.eqt 61 (iN z.1.length)) <| .r 2 [] <| .r 1 [] <| .cu (tfC zt163) (fun _=>.r 2 [] <| .br (.nil) (.cu (tfC zt165) (fun _=>.r 2 [] <| .br (.nil) (.cu (taC (.agg [iN v])) (fun _=>.r 2 [] <| .br (.al zt168 (fun g9=>.st none <| .r 3 [] <| .st none <| .r 5 [.dead] <| .st (some (iN z.2.wa)) <| .h (.eqh 1000 (.agg [.own 3 (z.1.map grpO++[(.agg [.ow 1 (z.2.na.map sV),.ow 2 (z.2.ru.map ruleV),iN v]:V)]) gr fr cr,bV true])) <| .h (.eqh 1000 (.agg [.own 3 ((z.1++[(⟨z.2.na,z.2.ru,v⟩:Grp)]).map grpO) gr fr cr,bV true])) <| .nil)) (.nil)))))))))))))
  ((fun v1:V=>(∀ gr fr cr:Nat,True∧((∃ td,Tryz.prog.underlying 163=some td∧∀ i,td≠.interface i)∧((168:Nat)≠163)∧(∃ y,(.agg [sV []]:V).val? =some y∧∀ w,(zeroValue 163).run Tryz.prog w=.ok y w))∧∀ _:Unit,True∧∀ g4:Nat,Z g4 0∧True∧True∧(false=false)∧(false=false)∧(false=false)∧(false=false)∧(false=false)∧(false=false)∧(false=false)∧(false=false)∧(false=false)∧(false=false)∧(false=false)∧(false=false)∧(Pk false false true∧True)∧Br (false&&false) (False) ((True∧Z g 0∧True)∧Br (eqB (((gs.map grpO).length:Nat):Int) 0) (True∧Q (.tup []) (.tup [])∧(Qr g (.agg [.ow 3 (gs.map grpO),bV b]) g v1∧True)) ((∃ z:List Grp×Grp,gs=z.1++[z.2])∧∀ z:List Grp×Grp,(gs=z.1++[z.2])→(fun v2:V=>(fun v3:V=>(fun v4:V=>((.agg [.own 3 (gs.map grpO) gr fr cr,bV b]:V)=.agg [.own 3 (z.1.map grpO++[v2]) gr fr cr,bV b])∧True∧(True∧True)∧True∧(Z g 0∧True)∧True∧(True∧True)∧True∧(Z g 0∧True)∧True∧(I64 ((((z.1.map grpO++[v2]).length:Nat):Int) - 1)∧True)∧Q (iV ((((z.1.map grpO++[v2]).length:Nat):Int) - 1)) (iN z.1.length)∧(In (z.1.length:Int) ((z.1.map grpO++[v2]).length)∧True)∧True∧((∃ td,Tryz.prog.underlying 163=some td∧∀ i,td≠.interface i)∧((168:Nat)≠163)∧(∃ y,(.agg [sV []]:V).val? =some y∧∀ w,(zeroValue 163).run Tryz.prog w=.ok y w))∧∀ _:Unit,True∧Br false (False) (((∃ td,Tryz.prog.underlying 165=some td∧∀ i,td≠.interface i)∧((168:Nat)≠165)∧(∃ y,(.agg [.agg [bV false,sV []]]:V).val? =some y∧∀ w,(zeroValue 165).run Tryz.prog w=.ok y w))∧∀ _:Unit,True∧Br false (False) (((∃ td,Tryz.prog.underlying 168=some td∧∀ i,td≠.interface i)∧((168:Nat)=168)∧((.agg #[.int .i64 (v:Int)]:Value)=.agg #[.int .i64 (v:Int)]))∧∀ _:Unit,True∧Br true (∀ g9:Nat,Z g9 0∧(True∧True)∧Z g 1∧(Z g9 0∧True∧True)∧(V.at g 0 v4 [0,0+z.1.length,2]=some (gr,(fr+(0+z.1.length) * 3+2),iN z.2.wa))∧(V.set v4 [0,0+z.1.length,2] (iN v)=.agg [.own 3 (z.1.map grpO++[v3]) gr fr cr,bV true])∧((.agg [.own 3 (z.1.map grpO++[v3]) gr fr cr,bV true]:V)=.agg [.own 3 ((z.1++[(⟨z.2.na,z.2.ru,v⟩:Grp)]).map grpO) gr fr cr,bV true])∧True∧Q (.tup []) (.tup [])∧(Qr g (.agg [.ow 3 ((z.1++[(⟨z.2.na,z.2.ru,v⟩:Grp)]).map grpO),bV true]) g v1∧True)) (True∧Q (.tup []) (.tup [])∧(Qr g (.agg [.ow 3 (z.1.map grpO++[v2]),bV b]) g v1∧True))))) (.agg [.own 3 (z.1.map grpO++[v2]) gr fr cr,bV true])) (.agg [.ow 1 (z.2.na.map sV),.ow 2 (z.2.ru.map ruleV),iN v]:V)) (.agg [.ow 1 (z.2.na.map sV),.ow 2 (z.2.ru.map ruleV),iN z.2.wa]:V))))) (.agg [.ow 3 (((takeW gs b v).1).map grpO),bV ((takeW gs b v).2)]))
  (by kernel_rfl) ?_
 intro gr fr cr
 refine ⟨trivial,⟨⟨_,Tryz.underlying163,by intro i h; cases h⟩,by decide,_,rfl,Tryz.zeroValue163⟩,?_⟩
 intro _
 refine ⟨trivial,?_⟩
 intro g4
 refine ⟨rfl,trivial,trivial,rfl,rfl,rfl,rfl,rfl,rfl,rfl,rfl,rfl,rfl,rfl,rfl,⟨⟨fun h=>by first | (rw [h]; done) | (rw [h]; rfl),fun _=>rfl⟩,trivial⟩,?_⟩
 refine ⟨fun hb1=>?_,fun hb1=>?_⟩
 · try simp only [nb] at hb1
   all_goals (first | exact absurd hb1 (by decide) | simp_all)
 · try simp only [nb] at hb1
   refine ⟨⟨trivial,rfl,trivial⟩,?_⟩
   refine ⟨fun hb2=>?_,fun hb2=>?_⟩
   · try simp only [nb,List.length_map] at hb2
     refine ⟨trivial,?_,⟨by rw [show takeW gs b v=(gs,b) from if_pos (List.eq_nil_of_length_eq_zero (by omega))],trivial⟩⟩
     unfold Q
     rfl
   · try simp only [nb,List.length_map] at hb2
     refine ⟨ex_last (ne_of_len (by omega)),?_⟩
     intro z hz
     have hz2:=hn z.2 (by rw [hz]; simp)
     have hzl:gs.length=z.1.length+1:=by rw [hz]; simp
     refine ⟨congrArg (fun r:V=>V.agg [r,bV b]) (congrArg (V.own 3 · gr fr cr) (by rw [hz,List.map_append]; rfl)),trivial,⟨trivial,trivial⟩,trivial,⟨rfl,trivial⟩,trivial,⟨trivial,trivial⟩,trivial,⟨rfl,trivial⟩,trivial,⟨by (try simp only [List.length_map] at *); (try simp only [List.length_append,List.length_map,List.length_cons,List.length_nil]); omega,trivial⟩,by unfold Q; refine congrArg iV ?_; simp,⟨by (try simp only [List.length_map] at *); (try simp only [List.length_append,List.length_map,List.length_cons,List.length_nil]); omega,trivial⟩,trivial,⟨⟨_,Tryz.underlying163,by intro i h; cases h⟩,by decide,_,rfl,Tryz.zeroValue163⟩,?_⟩
     intro _
     refine ⟨trivial,?_⟩
     refine ⟨fun hb3=>?_,fun hb3=>?_⟩
     · try simp only [nb] at hb3
       all_goals (first | exact absurd hb3 (by decide) | simp_all)
     · try simp only [nb] at hb3
       refine ⟨⟨⟨_,Tryz.underlying165,by intro i h; cases h⟩,by decide,_,rfl,Tryz.zeroValue165⟩,?_⟩
       intro _
       refine ⟨trivial,?_⟩
       refine ⟨fun hb4=>?_,fun hb4=>?_⟩
       · try simp only [nb] at hb4
         all_goals (first | exact absurd hb4 (by decide) | simp_all)
       · try simp only [nb] at hb4
         refine ⟨⟨⟨_,Tryz.underlying168,by intro i h; cases h⟩,rfl,rfl⟩,?_⟩
         intro _
         refine ⟨trivial,?_⟩
         refine ⟨fun hb5=>?_,fun hb5=>?_⟩
         · try simp only [nb] at hb5
           intro g9
           refine ⟨rfl,⟨trivial,trivial⟩,rfl,⟨rfl,trivial,trivial⟩,at_agg0.trans (at_el2 (by rw [Nat.zero_add]; exact getE_last) rfl),set_agg0.trans (congrArg (fun r:V=>V.agg [r,bV true]) (set_el2 (x:=.agg [.ow 1 (z.2.na.map sV),.ow 2 (z.2.ru.map ruleV),iN z.2.wa]) (by rw [Nat.zero_add]; exact getE_last) (by rw [Nat.zero_add]; exact set_last))),congrArg (fun r:V=>V.agg [r,bV true]) (congrArg (V.own 3 · gr fr cr) (by rw [List.map_append (f:=grpO)]; rfl)),?_⟩
           refine ⟨trivial,?_,⟨by rw [show takeW gs b v=(z.1++[⟨z.2.na,z.2.ru,v⟩],true) from by rw [takeW,if_neg (by rintro h; simp_all),hz,setLast_app]],trivial⟩⟩
           unfold Q
           rfl
         · try simp only [nb] at hb5
           all_goals (first | exact absurd hb5 (by decide) | simp_all)
end Go.Proofs.YthliifpcaahnnaaGreatDoor
namespace Go.Proofs.YthliifpcaahnnaaGreatDoor
open Go Go.Abs Go.RowKit Go.Pd
set_option maxRecDepth 20000
def digB (c:UInt8):Bool:=decide (48≤c.toNat∧c.toNat≤57)
theorem all_dig (s:List UInt8):s.all (fun c=>decide (48≤c.toNat∧c.toNat≤57))=s.all digB:=rfl
abbrev readWait_k0 (s:List UInt8) (i:Nat) (q:Int):Prop:=i≤s.length∧q=((s.take i).foldl (numStep 20) 0)∧(0≤q∧q≤20)∧∀ j,j < i→digB (s.getD j 0)=true
theorem readWait_ok (s:List UInt8) (hs:s.length≤1000000):PF Tryz.prog 153 [sV s] [] (fun r h=>r=(iV (numL s 20))∧h=[]):=by
 refine PF_go1 (N:=31) (rs:=[.tmp 2]) Tryz.func153 (by kernel_rfl) rfl rfl rfl (by kernel_rfl)
  (.r 1 [] <| .r 1 [] <| .r 1 [] <| .loop (Nat×Int) (fun (i,q)=>⟨[(0,sV s),(3,iV q),(4,iN i)],[]⟩) (fun (i,q)=>readWait_k0 s i q) (fun (i,q)=>s.length - i) (fun (i,q)=>.r 4 [] <| .br (.r 10 [] <| .br (.r 1 [] <| .nil) (.r 8 [] <| .mm <| .r 1 [] <| .r 3 [] <| .nil)) (.r 2 [] <| .nil)))
  (True∧True∧True∧(∃ x:Nat×Int,match x with | (i₀,q₀)=>(readWait_k0 s i₀ q₀)∧(E (sV s)∧Q (iN 0) (iV q₀)∧Q (iN 0) (iN i₀)∧True)∧True)∧∀ x:Nat×Int,match x with | (i,q)=>(readWait_k0 s i q)→(fun v1:Int=>(fun v2:Bool=>True∧Br (ltB (i:Int) (s.length:Int)) ((Ix (i:Int) s∧Gd v2 (True∧True)∧Gd v2 (True∧True)∧Gd v2 ((Gd v2 (v2=true)∧(Gd v2 (v2=true)∧True))∧Ix (i:Int) s)∧Gd v2 ((Gd v2 (v2=true)∧True)∧True)∧Pk (ltB v1 48) true v2∧True)∧Br ((ltB v1 48)||(gtB v1 57)) (True∧True∧Q (iN 0) (iV (numL s 20))∧(True)) ((I64 (q * 10)∧Ix (i:Int) s∧U8r (v1 - 48)∧I64 (v1 - 48)∧I64 ((q * 10)+(v1 - 48))∧True)∧(IntKind.i64=IntKind.i64)∧True∧(I64 ((i:Int)+1)∧True)∧∃ x:Nat×Int,match x with | (i₂,q₂)=>(readWait_k0 s i₂ q₂)∧(s.length - i₂ < s.length - i)∧(E (sV s)∧Q (iV (min ((q * 10)+(v1 - 48)) 20)) (iV q₂)∧Q (iN (i+1)) (iN i₂)∧True)∧True)) (True∧True∧Q (iV q) (iV (numL s 20))∧(True))) ((ltB v1 48)==false)) (((s.getD i 0).toNat:Nat):Int))
  (by kernel_rfl) ?_
 refine ⟨trivial,trivial,trivial,?_⟩
 refine ⟨⟨(0,0),?_,⟨rfl,by first | rfl | simp | (simp; omega),rfl,trivial⟩,trivial⟩,?_⟩
 · unfold readWait_k0
   simp
 rintro ⟨i,q⟩ ⟨h1,h2,h3,h4⟩
 have hci:=(s.getD i 0).toNat_lt
 refine ⟨trivial,?_⟩
 refine ⟨fun hb1=>?_,fun hb1=>?_⟩
 · try simp only [nb] at hb1
   refine ⟨⟨by omega,fun hG=>⟨trivial,trivial⟩,fun hG=>⟨trivial,trivial⟩,fun hG=>⟨⟨fun h=>h,⟨fun h=>h,trivial⟩⟩,by (try simp only [nb] at hG); omega⟩,fun hG=>⟨⟨fun h=>h,trivial⟩,trivial⟩,⟨fun _=>rfl,fun h=>by first | (rw [h]; done) | (rw [h]; rfl)⟩,trivial⟩,?_⟩
   refine ⟨fun hb2=>?_,fun hb2=>?_⟩
   · try simp only [nb] at hb2
     refine ⟨trivial,?_⟩
     refine ⟨trivial,?_,trivial⟩
     unfold Q
     rw [show numL s 20=0 from if_neg (by rw [all_dig,all_false (i:=i) (d:=0) (by omega) (by unfold digB; rw [decide_eq_false_iff_not]; omega)]; decide)]
     rfl
   · try simp only [nb] at hb2
     refine ⟨⟨by omega,by omega,by have:=UInt8.toNat_lt (s.getD i 0); omega,by have:=UInt8.toNat_lt (s.getD i 0); omega,by have:=UInt8.toNat_lt (s.getD i 0); omega,trivial⟩,rfl,trivial,⟨by omega,trivial⟩,?_⟩
     refine ⟨(i+1,min ((q * 10)+((((s.getD i 0).toNat:Nat):Int) - 48)) 20),?_,?_,⟨rfl,rfl,rfl,trivial⟩,trivial⟩
     · unfold readWait_k0
       refine ⟨by omega,?_,by omega,lt_succ_of h4 (by unfold digB; rw [decide_eq_true_eq]; omega)⟩
       rw [foldl_succ (d:=0) (by omega),← h2,numStep]
     · first | (simp; done) | omega | (simp; omega)
 · try simp only [nb] at hb1
   refine ⟨trivial,?_⟩
   refine ⟨trivial,?_,trivial⟩
   unfold Q
   rw [show numL s 20=s.foldl (numStep 20) 0 from if_pos (by rw [all_dig]; exact all_true (d:=0) (fun j hj=>h4 j (by omega))),h2,List.take_of_length_le (by omega)]
def readWait_c (s:List UInt8):Con Tryz.prog:={ f:=153,args:=[sV s],H:=[],pre:=(s.length≤1000000),res:=iV (numL s 20),H':=[],ok:=fun h=>readWait_ok s h }
abbrev readLine_r (t:List UInt8):V:=.tup [.lit (lnVal (rdLn (cutL 32 t).1 (cutL 32 t).2.1)),bV (rdOk (cutL 32 t).1 (cutL 32 t).2.1)]
theorem readLine_ok (t:List UInt8) (ht:t.length≤1000000):PF Tryz.prog 120 [sV t] [] (fun r h=>r=(readLine_r t)∧h=[]):=by
 have hcut:=cut_le 32 t
 refine PF_go1 (N:=38) (rs:=[.tmp 2,.tmp 3]) Tryz.func120 (by kernel_rfl) rfl rfl rfl (by kernel_rfl)
  (.r 2 [] <| .r 1 [] <| .c (cut_c t 32) [] <| .r 7 [] <| .r 1 [] <| .r 2 [] <| .br (.r 1 [] <| .bd zt163 <| .cu miC (fun _=>.r 1 [] <| .c (isGroupName_c ((cutL 32 t).2.1)) [] <| .r 2 [] <| .nil)) (.r 2 [] <| .join (Bool) (fun c=>⟨[(0,sV t),(2,.lit .nilIface),(3,bV false),(8,sV t),(9,.tup [sV ((cutL 32 t).1),sV ((cutL 32 t).2.1),bV ((cutL 32 t).2.2)]),(7,.tup [sV ((cutL 32 t).1),sV ((cutL 32 t).2.1),bV ((cutL 32 t).2.2)]),(10,sV ((cutL 32 t).1)),(11,sV ((cutL 32 t).2.1)),(12,bV ((cutL 32 t).2.2)),(4,sV ((cutL 32 t).1)),(5,sV ((cutL 32 t).2.1)),(6,bV ((cutL 32 t).2.2)),(13,sV ((cutL 32 t).1)),(15,bV (((cutL 32 t).1)==([99,97,108,108,101,114]:List UInt8))),(14,bV (((cutL 32 t).1)==([99,97,108,108,101,114]:List UInt8))),(22,bV (((cutL 32 t).1)==([108,101,116]:List UInt8))),(21,bV c)],[]⟩) (fun c=>c=decide ((cutL 32 t).1=[108,101,116]∨(cutL 32 t).1=[98,97,114])) (.nil) (.r 2 [] <| .nil) (fun c=>.br (.r 3 [] <| .bd zt68 <| .bd zt165 <| .cu miC (fun _=>.r 1 [] <| .c (iRuleOk_c ((cutL 32 t).2.1)) [] <| .r 2 [] <| .nil)) (.r 2 [] <| .br (.r 1 [] <| .c (readWait_c ((cutL 32 t).2.1)) [] <| .bd zt168 <| .cu miC (fun _=>.r 2 [] <| .nil)) (.r 2 [] <| .nil)))))
  ((fun v1:V=>(fun v2:List UInt8=>(fun v3:List UInt8=>(fun v4:V=>(fun v5:V=>(True∧True∧(cut_c t 32).sm∧(True)∧((t.length≤1000000))∧True∧True∧True∧Br (((cutL 32 t).1)==v3) (True∧((∃ td,Tryz.prog.underlying 163=some td∧∀ i,td≠.interface i)∧(Value.iface 163 (.agg #[.string (Str ((cutL 32 t).2.1))])).oneCell'=true)∧∀ _:Unit,True∧(isGroupName_c ((cutL 32 t).2.1)).sm∧(True)∧((((cutL 32 t).2.1).length≤4611686018427387904))∧True∧True∧Q (.tup [.lit (.iface 163 (.agg #[.string (Str ((cutL 32 t).2.1))])),bV ((((cutL 32 t).2.1)==[42])||nameL ((cutL 32 t).2.1))]) (readLine_r t)∧(True)) (True∧((((cutL 32 t).1)==v2)=true→∃ c:Bool,(c=decide ((cutL 32 t).1=[108,101,116]∨(cutL 32 t).1=[98,97,114]))∧(E (sV t)∧E (.lit .nilIface)∧E (bV false)∧E (sV t)∧E v1∧E v1∧E v4∧E v5∧E (bV ((cutL 32 t).2.2))∧E v4∧E v5∧E (bV ((cutL 32 t).2.2))∧E v4∧E (bV (((cutL 32 t).1)==v3))∧E (bV (((cutL 32 t).1)==v3))∧E (bV (((cutL 32 t).1)==v2))∧Q (bV (((cutL 32 t).1)==v2)) (bV c)∧True)∧True)∧((((cutL 32 t).1)==v2)=false→True∧∃ c:Bool,(c=decide ((cutL 32 t).1=[108,101,116]∨(cutL 32 t).1=[98,97,114]))∧(E (sV t)∧E (.lit .nilIface)∧E (bV false)∧E (sV t)∧E v1∧E v1∧E v4∧E v5∧E (bV ((cutL 32 t).2.2))∧E v4∧E v5∧E (bV ((cutL 32 t).2.2))∧E v4∧E (bV (((cutL 32 t).1)==v3))∧E (bV (((cutL 32 t).1)==v3))∧E (bV (((cutL 32 t).1)==v2))∧Q (bV (((cutL 32 t).1)==([98,97,114]:List UInt8))) (bV c)∧True)∧True)∧(∀ c:Bool,(c=decide ((cutL 32 t).1=[108,101,116]∨(cutL 32 t).1=[98,97,114]))→Br c (True∧((∃ td,Tryz.prog.underlying 165=some td∧∀ i,td≠.interface i)∧(Value.iface 165 (.agg #[.bool (((cutL 32 t).1)==v2),.string (Str ((cutL 32 t).2.1))])).oneCell'=true)∧∀ _:Unit,True∧(iRuleOk_c ((cutL 32 t).2.1)).sm∧(True)∧((((cutL 32 t).2.1).length≤4611686018427387904))∧True∧True∧Q (.tup [.lit (.iface 165 (.agg #[.bool (((cutL 32 t).1)==v2),.string (Str ((cutL 32 t).2.1))])),bV (iRuleOk ((cutL 32 t).2.1))]) (readLine_r t)∧(True)) (True∧Br (((cutL 32 t).1)==([119,97,105,116]:List UInt8)) (True∧(readWait_c ((cutL 32 t).2.1)).sm∧(True)∧((((cutL 32 t).2.1).length≤1000000))∧((∃ td,Tryz.prog.underlying 168=some td∧∀ i,td≠.interface i)∧(Value.iface 168 (.agg #[.int .i64 (numL ((cutL 32 t).2.1) 20)])).oneCell'=true)∧∀ _:Unit,True∧True∧Q (.tup [.lit (.iface 168 (.agg #[.int .i64 (numL ((cutL 32 t).2.1) 20)])),bV true]) (readLine_r t)∧(True)) (True∧True∧Q (.tup [.lit .nilIface,bV false]) (readLine_r t)∧(True))))))) (sV ((cutL 32 t).2.1))) (sV ((cutL 32 t).1))) ([99,97,108,108,101,114]:List UInt8)) ([108,101,116]:List UInt8)) (.tup [sV ((cutL 32 t).1),sV ((cutL 32 t).2.1),bV ((cutL 32 t).2.2)]))
  (by kernel_rfl) ?_
 refine ⟨trivial,trivial,rfl,trivial,by omega,trivial,trivial,trivial,?_⟩
 refine ⟨fun hb1=>?_,fun hb1=>?_⟩
 · try simp only [nb] at hb1
   refine ⟨trivial,⟨⟨_,Tryz.underlying163,by intro i h; cases h⟩,rfl⟩,?_⟩
   intro _
   refine ⟨trivial,rfl,trivial,by omega,trivial,?_⟩
   refine ⟨trivial,?_,trivial⟩
   unfold Q readLine_r
   rw [show rdLn (cutL 32 t).1 (cutL 32 t).2.1=.caller (cutL 32 t).2.1 from if_pos hb1,show rdOk (cutL 32 t).1 (cutL 32 t).2.1=_ from if_pos hb1]
   rfl
 · try simp only [nb] at hb1
   refine ⟨trivial,?_⟩
   refine ⟨fun hb2=>?_,fun hb2=>?_,fun c hc=>?_⟩
   · try simp only [nb] at hb2
     exact ⟨((cutL 32 t).1)==([108,101,116]:List UInt8),by first | (rw [Bool.eq_iff_iff]; simp_all; done) | grind,⟨rfl,rfl,rfl,rfl,rfl,rfl,rfl,rfl,rfl,rfl,rfl,rfl,rfl,rfl,rfl,rfl,rfl,trivial⟩,trivial⟩
   · try simp only [nb] at hb2
     refine ⟨trivial,?_⟩
     exact ⟨((cutL 32 t).1)==([98,97,114]:List UInt8),by first | (rw [Bool.eq_iff_iff]; simp_all; done) | grind,⟨rfl,rfl,rfl,rfl,rfl,rfl,rfl,rfl,rfl,rfl,rfl,rfl,rfl,rfl,rfl,rfl,rfl,trivial⟩,trivial⟩
   refine ⟨fun hb3=>?_,fun hb3=>?_⟩
   · try simp only [nb] at hb3
     refine ⟨trivial,⟨⟨_,Tryz.underlying165,by intro i h; cases h⟩,rfl⟩,?_⟩
     intro _
     refine ⟨trivial,rfl,trivial,by omega,trivial,?_⟩
     refine ⟨trivial,?_,trivial⟩
     unfold Q readLine_r
     have h2:(cutL 32 t).1=[108,101,116]∨(cutL 32 t).1=[98,97,114]:=by grind
     rw [show rdLn (cutL 32 t).1 (cutL 32 t).2.1=.rule ((cutL 32 t).1==[108,101,116]) (cutL 32 t).2.1 from by rw [rdLn,if_neg hb1,if_pos h2],show rdOk (cutL 32 t).1 (cutL 32 t).2.1=ruleOkL (cutL 32 t).2.1 from by rw [rdOk,if_neg hb1,if_pos h2],rule_eq]
     rfl
   · try simp only [nb] at hb3
     refine ⟨trivial,?_⟩
     refine ⟨fun hb4=>?_,fun hb4=>?_⟩
     · try simp only [nb] at hb4
       refine ⟨trivial,rfl,trivial,by omega,⟨⟨_,Tryz.underlying168,by intro i h; cases h⟩,rfl⟩,?_⟩
       intro _
       refine ⟨trivial,?_⟩
       refine ⟨trivial,?_,trivial⟩
       unfold Q readLine_r
       have h2: ¬ ((cutL 32 t).1=[108,101,116]∨(cutL 32 t).1=[98,97,114]):=by grind
       rw [show rdLn (cutL 32 t).1 (cutL 32 t).2.1=.wait (numL (cutL 32 t).2.1 20).toNat from by rw [rdLn,if_neg hb1,if_neg h2,if_pos hb4],show rdOk (cutL 32 t).1 (cutL 32 t).2.1=true from by rw [rdOk,if_neg hb1,if_neg h2,if_pos hb4]]
       show V.tup [.lit (.iface 168 (.agg #[.int .i64 (numL (cutL 32 t).2.1 20)])),_]=V.tup [.lit (.iface 168 (.agg #[.int .i64 (((numL (cutL 32 t).2.1 20).toNat:Nat):Int)])),_]
       rw [Int.toNat_of_nonneg (numL_ge (by omega))]
     · try simp only [nb] at hb4
       refine ⟨trivial,?_⟩
       refine ⟨trivial,?_,trivial⟩
       unfold Q readLine_r
       have h2: ¬ ((cutL 32 t).1=[108,101,116]∨(cutL 32 t).1=[98,97,114]):=by grind
       rw [show rdLn (cutL 32 t).1 (cutL 32 t).2.1=.none from by rw [rdLn,if_neg hb1,if_neg h2,if_neg hb4],show rdOk (cutL 32 t).1 (cutL 32 t).2.1=false from by rw [rdOk,if_neg hb1,if_neg h2,if_neg hb4]]
       rfl
def readLine_c (t:List UInt8):Con Tryz.prog:={ f:=120,args:=[sV t],H:=[],pre:=(t.length≤1000000),res:=readLine_r t,H':=[],ok:=fun h=>readLine_ok t h }
end Go.Proofs.YthliifpcaahnnaaGreatDoor
namespace Go.Proofs.YthliifpcaahnnaaGreatDoor
open Go Go.Abs Go.RowKit Go.Pd
set_option maxRecDepth 20000
theorem rdLn_ne {w r:List UInt8} (h:rdOk w r=true):rdLn w r≠.none:=by
  unfold rdOk at h
  unfold rdLn
  split at h
  · rename_i h1; rw [if_pos h1]; intro c; cases c
  · rename_i h1
    rw [if_neg h1]
    split at h
    · rename_i h2; rw [if_pos h2]; intro c; cases c
    · rename_i h2
      rw [if_neg h2]
      split at h
      · rename_i h3; rw [if_pos h3]; intro c; cases c
      · cases h
theorem takeL_ok (gs:List Grp) (b:Bool) (g:Nat) (l:Ln) (hg:gs.length≤1000) (hn:∀ y,y∈gs→y.na.length≤1000∧y.ru.length≤6) (hl:l≠.none):
    PF Tryz.prog 121 [.ptr (.key 1000) [] g 0,.lit (lnVal l)] [(1000,(g,.agg [.ow 3 (gs.map grpO),bV b]))] (fun r h=>r=.tup []∧h=[(1000,(g,.agg [.ow 3 ((takeL gs b l).1.map grpO),bV (takeL gs b l).2]))]):=by
  cases l with
  | none=>exact absurd rfl hl
  | caller n=>exact takeC_ok gs b g n hg hn
  | rule q p=>exact takeR_ok gs b g q p hg hn
  | wait v=>exact takeW_ok gs b g v hg hn
def takeL_c (gs:List Grp) (b:Bool) (g:Nat) (l:Ln):Con Tryz.prog:={ f:=121,args:=[.ptr (.key 1000) [] g 0,.lit (lnVal l)],H:=[(1000,(g,.agg [.ow 3 (gs.map grpO),bV b]))],pre:=(gs.length≤1000)∧(∀ y,y∈gs→y.na.length≤1000∧y.ru.length≤6)∧(l≠.none),res:=.tup [],H':=[(1000,(g,.agg [.ow 3 ((takeL gs b l).1.map grpO),bV (takeL gs b l).2]))],ok:=fun h=>takeL_ok gs b g l h.1 h.2.1 h.2.2 }
theorem takeL_gs {n:Nat} {gs:List Grp} {b:Bool} (h:GsOk n gs) (l:List UInt8):GsOk (n+1) (stepI (gs,b) l).1:=by
  unfold stepI
  split
  · have hl:∀ z,gs.getLast? =some z→z.na.length≤n∧z.ru.length≤6:=fun z hz=>h.each z (List.mem_of_getLast? hz)
    cases rdLn (cutL 32 l).1 (cutL 32 l).2.1 with
    | none=>exact h.mono (by omega)
    | caller q=>
      simp only [takeL,takeC]
      split
      · refine ⟨by have:=h.len; simp; omega,fun y hy=>?_⟩
        rcases List.mem_append.1 hy with hy | hy
        · have:=h.each y hy; exact ⟨by omega,this.2⟩
        · rw [List.mem_singleton.1 hy]; simp
      · exact h.set fun z hz=>⟨by have:=hl z hz; simp; omega,(hl z hz).2⟩
    | rule q p=>
      simp only [takeL,takeR]
      split
      · exact h.mono (by omega)
      · split
        · rename_i h6
          refine h.set fun z hz=>⟨by have:=hl z hz; simp only; omega,?_⟩
          unfold lastRu at h6
          rw [hz] at h6
          simp only at h6
          simp only [List.length_append,List.length_cons,List.length_nil]; omega
        · exact h.mono (by omega)
    | wait v=>
      simp only [takeL,takeW]
      split
      · exact h.mono (by omega)
      · exact h.set fun z hz=>⟨by have:=hl z hz; simp only; omega,(hl z hz).2⟩
  · exact h.mono (by omega)
abbrev iNoticeRead_k0 (t:List UInt8) (i:Nat) (gs:List Grp) (b:Bool):Prop:=i≤(splitL 10 t).length∧i≤40∧GsOk i gs∧((splitL 10 t).take i).foldl stepI ([],false)=(gs,b)
theorem iNoticeRead_ok (t:List UInt8) (ht:t.length≤1000000):PF Tryz.prog 80 [sV t] [] (fun r h=>r=(.ow 3 ((noticeL t).map grpO))∧h=[]):=by
 refine PF_go1 (N:=29) (rs:=[.tmp 2]) Tryz.func80 (by kernel_rfl) rfl rfl rfl (by kernel_rfl)
  (.r 1 [] <| .al zt130 (fun g3=>.r 1 [] <| .c (sSplit_c t 10) [] <| .r 2 [] <| .h (.own0R (.key 3) [0] 3) <| .loop (Nat×(List Grp)×Bool) (fun (i,gs,b)=>⟨[(0,sV t),(3,.ptr (.key 3) [] g3 0),(9,.sl true ((splitL 10 t).map sV)),(10,iN ((splitL 10 t).length)),(11,iN i)],[(3,(g3,.agg [.ow 3 (gs.map grpO),bV b]))]⟩) (fun (i,gs,b)=>iNoticeRead_k0 t i gs b) (fun (i,gs,b)=>(splitL 10 t).length - i) (fun (i,gs,b)=>.r 1 [] <| .br (.r 5 [sV ((splitL 10 t).getD i [])] <| .r 2 [] <| .br (.r 1 [] <| .mv <| .r 1 [] <| .nil) (.r 1 [] <| .c (readLine_c ((splitL 10 t).getD i [])) [] <| .r 5 [] <| .r 1 [] <| .br (.r 1 [] <| .c (takeL_c gs b g3 (rdLn (cutL 32 ((splitL 10 t).getD i [])).1 (cutL 32 ((splitL 10 t).getD i [])).2.1)) [(1000,3)] <| .r 2 [] <| .nil) (.r 2 [] <| .nil))) (.r 1 [] <| .mv <| .r 1 [] <| .nil))))
  ((fun v1:V=>(True∧∀ g3:Nat,True∧(sSplit_c t 10).sm∧(True)∧((t.length≤1000000))∧True∧(∃ x:Nat×(List Grp)×Bool,match x with | (i₀,gs₀,b₀)=>(iNoticeRead_k0 t i₀ gs₀ b₀)∧(E (sV t)∧E (.ptr (.key 3) [] g3 0)∧E v1∧Q (iN (((splitL 10 t).map sV).length)) (iN ((splitL 10 t).length))∧Q (iN 0) (iN i₀)∧True)∧(Qr g3 (.agg [.ow 3 ([].map grpO),bV false]) g3 (.agg [.ow 3 (gs₀.map grpO),bV b₀])∧True))∧∀ x:Nat×(List Grp)×Bool,match x with | (i,gs,b)=>(iNoticeRead_k0 t i gs b)→True∧Br (ltB (i:Int) (((splitL 10 t).length:Nat):Int)) ((Ex (i:Int) ((splitL 10 t).map sV) (sV ((splitL 10 t).getD i []))∧True∧True)∧True∧Br (eqB (i:Int) 40) (True∧Z g3 0∧True∧True∧Q (.ow 3 (gs.map grpO)) (.ow 3 ((noticeL t).map grpO))∧(True)) (True∧(readLine_c ((splitL 10 t).getD i [])).sm∧(True)∧((((splitL 10 t).getD i []).length≤1000000))∧True∧True∧Br (rdOk (cutL 32 ((splitL 10 t).getD i [])).1 (cutL 32 ((splitL 10 t).getD i [])).2.1) (True∧(takeL_c gs b g3 (rdLn (cutL 32 ((splitL 10 t).getD i [])).1 (cutL 32 ((splitL 10 t).getD i [])).2.1)).sm∧(((((g3,.agg [.ow 3 (gs.map grpO),bV b])):Nat×V)=(g3,.agg [.ow 3 (gs.map grpO),bV b]))∧True)∧((gs.length≤1000)∧(∀ y,y∈gs→y.na.length≤1000∧y.ru.length≤6)∧((rdLn (cutL 32 ((splitL 10 t).getD i [])).1 (cutL 32 ((splitL 10 t).getD i [])).2.1)≠.none))∧(I64 ((i:Int)+1)∧True)∧∃ x:Nat×(List Grp)×Bool,match x with | (i₂,gs₂,b₂)=>(iNoticeRead_k0 t i₂ gs₂ b₂)∧((splitL 10 t).length - i₂ < (splitL 10 t).length - i)∧(E (sV t)∧E (.ptr (.key 3) [] g3 0)∧E v1∧E (iN ((splitL 10 t).length))∧Q (iN (i+1)) (iN i₂)∧True)∧(Qr g3 (.agg [.ow 3 (((takeL gs b (rdLn (cutL 32 ((splitL 10 t).getD i [])).1 (cutL 32 ((splitL 10 t).getD i [])).2.1)).1).map grpO),bV ((takeL gs b (rdLn (cutL 32 ((splitL 10 t).getD i [])).1 (cutL 32 ((splitL 10 t).getD i [])).2.1)).2)]) g3 (.agg [.ow 3 (gs₂.map grpO),bV b₂])∧True)) ((I64 ((i:Int)+1)∧True)∧∃ x:Nat×(List Grp)×Bool,match x with | (i₂,gs₂,b₂)=>(iNoticeRead_k0 t i₂ gs₂ b₂)∧((splitL 10 t).length - i₂ < (splitL 10 t).length - i)∧(E (sV t)∧E (.ptr (.key 3) [] g3 0)∧E v1∧E (iN ((splitL 10 t).length))∧Q (iN (i+1)) (iN i₂)∧True)∧(Qr g3 (.agg [.ow 3 (gs.map grpO),bV b]) g3 (.agg [.ow 3 (gs₂.map grpO),bV b₂])∧True)))) (True∧Z g3 0∧True∧True∧Q (.ow 3 (gs.map grpO)) (.ow 3 ((noticeL t).map grpO))∧(True)))) (.sl true ((splitL 10 t).map sV)))
  (by kernel_rfl) ?_
 refine ⟨trivial,?_⟩
 intro g3
 refine ⟨trivial,rfl,trivial,by omega,trivial,?_⟩
 refine ⟨⟨(0,[],false),?_,⟨rfl,rfl,rfl,by first | rfl | simp | (simp; omega),rfl,trivial⟩,⟨rfl,trivial⟩⟩,?_⟩
 · unfold iNoticeRead_k0
   exact ⟨by omega,by omega,⟨by simp,by simp⟩,rfl⟩
 rintro ⟨i,gs,b⟩ ⟨h1,h2,h3,h4⟩
 refine ⟨trivial,?_⟩
 refine ⟨fun hb1=>?_,fun hb1=>?_⟩
 · try simp only [nb] at hb1
   refine ⟨⟨⟨by omega,getE_map (d:=[]) (by omega)⟩,trivial,trivial⟩,trivial,?_⟩
   refine ⟨fun hb2=>?_,fun hb2=>?_⟩
   · try simp only [nb] at hb2
     refine ⟨trivial,rfl,trivial,?_⟩
     refine ⟨trivial,?_,trivial⟩
     unfold Q
     rw [show noticeL t=gs from by rw [← notice_eq,take40 h1 h2 (fun _=>by omega),h4]]
   · try simp only [nb] at hb2
     refine ⟨trivial,rfl,trivial,by have:=split_get 10 t i; omega,trivial,trivial,?_⟩
     refine ⟨fun hb3=>?_,fun hb3=>?_⟩
     · try simp only [nb] at hb3
       refine ⟨trivial,rfl,⟨rfl,trivial⟩,⟨by have:=h3.len; omega,fun y hy=>by have:=h3.each y hy; omega,rdLn_ne hb3⟩,⟨by omega,trivial⟩,?_⟩
       refine ⟨(i+1,(takeL gs b (rdLn (cutL 32 ((splitL 10 t).getD i [])).1 (cutL 32 ((splitL 10 t).getD i [])).2.1)).1,(takeL gs b (rdLn (cutL 32 ((splitL 10 t).getD i [])).1 (cutL 32 ((splitL 10 t).getD i [])).2.1)).2),?_,?_,⟨rfl,rfl,rfl,rfl,rfl,trivial⟩,⟨rfl,trivial⟩⟩
       · unfold iNoticeRead_k0
         have hst:stepI (gs,b) ((splitL 10 t).getD i [])=takeL gs b (rdLn (cutL 32 ((splitL 10 t).getD i [])).1 (cutL 32 ((splitL 10 t).getD i [])).2.1):=if_pos hb3
         refine ⟨by omega,by omega,?_,?_⟩
         · rw [← hst]; exact takeL_gs h3 _
         · rw [foldl_succ (d:=[]) (by omega),h4,hst]
       · first | (simp; done) | omega | (simp; omega)
     · try simp only [nb] at hb3
       refine ⟨⟨by omega,trivial⟩,?_⟩
       refine ⟨(i+1,gs,b),?_,?_,⟨rfl,rfl,rfl,rfl,rfl,trivial⟩,⟨rfl,trivial⟩⟩
       · unfold iNoticeRead_k0
         have hst:stepI (gs,b) ((splitL 10 t).getD i [])=(gs,b):=if_neg (by rw [hb3]; decide)
         refine ⟨by omega,by omega,h3.mono (by omega),?_⟩
         rw [foldl_succ (d:=[]) (by omega),h4,hst]
       · first | (simp; done) | omega | (simp; omega)
 · try simp only [nb] at hb1
   refine ⟨trivial,rfl,trivial,?_⟩
   refine ⟨trivial,?_,trivial⟩
   unfold Q
   rw [show noticeL t=gs from by rw [← notice_eq,take40 h1 h2 (fun h=>by omega),h4]]
def iNoticeRead_c (t:List UInt8):Con Tryz.prog:={ f:=80,args:=[sV t],H:=[],pre:=(t.length≤1000000),res:=.ow 3 ((noticeL t).map grpO),H':=[],ok:=fun h=>iNoticeRead_ok t h }
end Go.Proofs.YthliifpcaahnnaaGreatDoor
namespace Go.Proofs.YthliifpcaahnnaaGreatDoor
open Go Go.Abs Go.RowKit Go.Pd
set_option maxRecDepth 20000
theorem gmap {gs:List Grp} {a:List UInt8} {i:Nat} (h:i < gs.length):(gs.map fun y=>y.na.contains a).getD i false=(gs.getD i ⟨[],[],0⟩).na.contains a:=by
  rw [List.getD_eq_getElem?_getD,List.getD_eq_getElem?_getD,List.getElem?_map,List.getElem?_eq_getElem h]; rfl
theorem cl2_ok (y:Grp) (a:List UInt8) (u:Nat) (hy:y.na.length≤1000000):PF Tryz.prog 117 [.agg [.sl false (y.na.map sV),.sl false (y.ru.map ruleV),iN y.wa],.ptr (.key 1000) [] u 0] [(1000,(u,sV a))] (fun r h=>r=(bV (y.na.contains a))∧h=[(1000,(u,sV a))]):=by
 refine PF_go1 (N:=8) (rs:=[.tmp 3]) Tryz.func117 (by kernel_rfl) rfl rfl rfl (by kernel_rfl)
  (.bx (fun g2=>.r 1 [] <| .r 3 [.dead,.dead] <| .c (has_c y.na a) [] <| .r 1 [] <| .nil))
  (∀ g2:Nat,True∧(Z g2 0∧Z u 0∧True)∧(has_c y.na a).sm∧(True)∧((y.na.length≤1000000))∧True∧True∧Q (bV (y.na.contains a)) (bV (y.na.contains a))∧(Er u (sV a)∧True))
  (by kernel_rfl) ?_
 intro g2
 refine ⟨trivial,⟨rfl,rfl,trivial⟩,rfl,trivial,by first | assumption | omega | (simp; omega),trivial,?_⟩
 refine ⟨trivial,?_,⟨rfl,trivial⟩⟩
 unfold Q
 rfl
def cl2_c (y:Grp) (a:List UInt8) (u:Nat):Con Tryz.prog:={ f:=117,args:=[.agg [.sl false (y.na.map sV),.sl false (y.ru.map ruleV),iN y.wa],.ptr (.key 1000) [] u 0],H:=[(1000,(u,sV a))],pre:=(y.na.length≤1000000),res:=bV (y.na.contains a),H':=[(1000,(u,sV a))],ok:=fun h=>cl2_ok y a u h }
abbrev idxFn_r (gs:List Grp) (a:List UInt8) (u:Nat):V:=iV (firstB (gs.map fun y=>y.na.contains a) true)
abbrev idxFn_k0 (gs:List Grp) (a:List UInt8) (u:Nat) (i:Nat):Prop:=i≤gs.length∧∀ j,j < i→((gs.getD j ⟨[],[],0⟩).na.contains a)=false
theorem idxFn_ok (gs:List Grp) (a:List UInt8) (u:Nat) (hg:gs.length≤1000000) (hn:∀ i,(gs.getD i ⟨[],[],0⟩).na.length≤1000000):PF Tryz.prog 151 [.sl false (gs.map grpV),.lit (.func (.func 117) #[] #[.pointer (some ⟨u,0,none⟩)])] [(1000,(u,sV a))] (fun r h=>r=(idxFn_r gs a u)∧h=[(1000,(u,sV a))]):=by
 refine PF_go1 (N:=19) (rs:=[.tmp 4]) Tryz.func151 (by kernel_rfl) rfl rfl rfl (by kernel_rfl)
  (.r 1 [] <| .r 3 [] <| .loop (Nat) (fun (i:Nat)=>⟨[(0,.sl false (gs.map grpV)),(1,.lit (.func (.func 117) #[] #[.pointer (some ⟨u,0,none⟩)])),(6,.sl false (gs.map grpV)),(7,iN gs.length),(8,iN i)],[(1000,(u,sV a))]⟩) (fun (i:Nat)=>idxFn_k0 gs a u i) (fun (i:Nat)=>gs.length - i) (fun (i:Nat)=>.r 1 [] <| .br (.r 2 [] <| .r 5 [.agg [.sl false (((gs.getD i (⟨[],[],0⟩:Grp)).na).map sV),.sl false (((gs.getD i (⟨[],[],0⟩:Grp)).ru).map ruleV),iN ((gs.getD i (⟨[],[],0⟩:Grp)).wa)]] <| .c (cl2_c (gs.getD i (⟨[],[],0⟩:Grp)) a u) [(1000,1000)] <| .br (.r 2 [] <| .nil) (.r 2 [] <| .nil)) (.r 1 [] <| .nil)))
  ((fun v1:V=>(fun v2:V=>(True∧True∧(∃ i₀:Nat,(idxFn_k0 gs a u i₀)∧(E v1∧E v2∧E v1∧Q (iN ((gs.map grpV).length)) (iN gs.length)∧Q (iN 0) (iN i₀)∧True)∧(Er u (sV a)∧True))∧∀ i:Nat,(idxFn_k0 gs a u i)→True∧Br (ltB (i:Int) (gs.length:Int)) (True∧(Ex (i:Int) (gs.map grpV) (.agg [.sl false (((gs.getD i (⟨[],[],0⟩:Grp)).na).map sV),.sl false (((gs.getD i (⟨[],[],0⟩:Grp)).ru).map ruleV),iN ((gs.getD i (⟨[],[],0⟩:Grp)).wa)])∧True∧True)∧(cl2_c (gs.getD i (⟨[],[],0⟩:Grp)) a u).sm∧(((((u,sV a)):Nat×V)=(u,sV a))∧True)∧(((gs.getD i (⟨[],[],0⟩:Grp)).na.length≤1000000))∧Br ((gs.getD i (⟨[],[],0⟩:Grp)).na.contains a) (True∧True∧Q (iN i) (idxFn_r gs a u)∧(Er u (sV a)∧True)) ((I64 ((i:Int)+1)∧True)∧∃ i₂:Nat,(idxFn_k0 gs a u i₂)∧(gs.length - i₂ < gs.length - i)∧(E v1∧E v2∧E v1∧E (iN gs.length)∧Q (iN (i+1)) (iN i₂)∧True)∧(Er u (sV a)∧True))) (True∧True∧Q (iV (-1)) (idxFn_r gs a u)∧(Er u (sV a)∧True)))) (.lit (.func (.func 117) #[] #[.pointer (some ⟨u,0,none⟩)]))) (.sl false (gs.map grpV)))
  (by kernel_rfl) ?_
 refine ⟨trivial,trivial,?_⟩
 refine ⟨⟨0,?_,⟨rfl,rfl,rfl,by first | rfl | simp | (simp; omega),rfl,trivial⟩,⟨rfl,trivial⟩⟩,?_⟩
 · unfold idxFn_k0
   simp
 rintro i ⟨h1,h2⟩
 have hni:=hn i
 refine ⟨trivial,?_⟩
 refine ⟨fun hb1=>?_,fun hb1=>?_⟩
 · try simp only [nb] at hb1
   refine ⟨trivial,⟨⟨by omega,getE_map (d:=(⟨[],[],0⟩:Grp)) (by omega)⟩,trivial,trivial⟩,rfl,⟨rfl,trivial⟩,hn i,?_⟩
   refine ⟨fun hb2=>?_,fun hb2=>?_⟩
   · try simp only [nb] at hb2
     refine ⟨trivial,?_⟩
     refine ⟨trivial,?_,⟨rfl,trivial⟩⟩
     unfold Q idxFn_r
     rw [firstB_hit (i:=i) (by rw [List.length_map]; omega) (by rw [gmap (by omega)]; exact hb2) (fun j hj=>by rw [gmap (by omega)]; rw [h2 j hj]; decide)]
   · try simp only [nb] at hb2
     refine ⟨⟨by omega,trivial⟩,?_⟩
     refine ⟨i+1,?_,?_,⟨rfl,rfl,rfl,rfl,rfl,trivial⟩,⟨rfl,trivial⟩⟩
     · unfold idxFn_k0
       exact ⟨by omega,lt_succ_of h2 hb2⟩
     · first | (simp; done) | omega | (simp; omega)
 · try simp only [nb] at hb1
   refine ⟨trivial,?_⟩
   refine ⟨trivial,?_,⟨rfl,trivial⟩⟩
   unfold Q idxFn_r
   rw [firstB_miss (fun j hj=>by rw [List.length_map] at hj; rw [gmap hj]; rw [h2 j (by omega)]; decide)]
def idxFn_c (gs:List Grp) (a:List UInt8) (u:Nat):Con Tryz.prog:={ f:=151,args:=[.sl false (gs.map grpV),.lit (.func (.func 117) #[] #[.pointer (some ⟨u,0,none⟩)])],H:=[(1000,(u,sV a))],pre:=(gs.length≤1000000)∧(∀ i,(gs.getD i ⟨[],[],0⟩).na.length≤1000000),res:=idxFn_r gs a u,H':=[(1000,(u,sV a))],ok:=fun h=>idxFn_ok gs a u h.1 h.2 }
theorem hasFn_ok (gs:List Grp) (a:List UInt8) (u:Nat) (hg:gs.length≤1000000) (hn:∀ i,(gs.getD i ⟨[],[],0⟩).na.length≤1000000):PF Tryz.prog 119 [.sl false (gs.map grpV),.lit (.func (.func 117) #[] #[.pointer (some ⟨u,0,none⟩)])] [(1000,(u,sV a))] (fun r h=>r=(bV (gs.any fun y=>y.na.contains a))∧h=[(1000,(u,sV a))]):=by
 refine PF_go1 (N:=9) (rs:=[.tmp 4]) Tryz.func119 (by kernel_rfl) rfl rfl rfl (by kernel_rfl)
  (.r 1 [] <| .r 2 [] <| .c (idxFn_c gs a u) [(1000,1000)] <| .r 2 [] <| .nil)
  (True∧True∧(idxFn_c gs a u).sm∧(((((u,sV a)):Nat×V)=(u,sV a))∧True)∧((gs.length≤1000000)∧(∀ i,(gs.getD i ⟨[],[],0⟩).na.length≤1000000))∧True∧True∧Q (bV (geB (firstB (gs.map fun y=>y.na.contains a) true) 0)) (bV (gs.any fun y=>y.na.contains a))∧(Er u (sV a)∧True))
  (by kernel_rfl) ?_
 refine ⟨trivial,trivial,rfl,⟨rfl,trivial⟩,⟨by first | assumption | omega | (simp; omega),by first | assumption | omega | (simp; omega)⟩,trivial,?_⟩
 refine ⟨trivial,?_,⟨rfl,trivial⟩⟩
 unfold Q
 refine congrArg bV ?_
 show decide (firstB (gs.map fun y=>y.na.contains a) true≥0)=_
 rw [show decide (firstB (gs.map fun y=>y.na.contains a) true≥0)=(gs.map fun y=>y.na.contains a).contains true from firstB_has _ _]
 rw [Bool.eq_iff_iff]; simp
def hasFn_c (gs:List Grp) (a:List UInt8) (u:Nat):Con Tryz.prog:={ f:=119,args:=[.sl false (gs.map grpV),.lit (.func (.func 117) #[] #[.pointer (some ⟨u,0,none⟩)])],H:=[(1000,(u,sV a))],pre:=(gs.length≤1000000)∧(∀ i,(gs.getD i ⟨[],[],0⟩).na.length≤1000000),res:=bV (gs.any fun y=>y.na.contains a),H':=[(1000,(u,sV a))],ok:=fun h=>hasFn_ok gs a u h.1 h.2 }
theorem cl1_ok (a:List UInt8):PF Tryz.prog 116 [sV a] [] (fun r h=> ∃ x:Nat,(True)∧r=(.lit (.func (.func 117) #[] #[.pointer (some ⟨x,0,none⟩)]))∧h=[(1000,(x,sV a))]):=by
 refine PF_go (N:=4) (rs:=[.tmp 2]) (X:=Nat) (post:=fun x=>True) (E:=fun x=>.lit (.func (.func 117) #[] #[.pointer (some ⟨x,0,none⟩)])) (H':=fun x=>[(1000,(x,sV a))]) Tryz.func116 (by kernel_rfl) rfl rfl rfl (by kernel_rfl) [(1000,(0,.dead))] (by intro _ k hk; simpa [lk] using hk)
  (.bx (fun g1=>.r 1 [] <| .cu mfC (fun _=>.r 1 [] <| .h (.rk 1 1000) <| .nil)))
  (∀ g1:Nat,True∧((Value.func (.func 117) #[] #[.pointer (some ⟨g1,0,none⟩)]).oneCell'=true)∧∀ _:Unit,True∧True∧∃ x:Nat,(True)∧Q (.lit (.func (.func 117) #[] #[.pointer (some ⟨g1,0,none⟩)])) (.lit (.func (.func 117) #[] #[.pointer (some ⟨x,0,none⟩)]))∧(Qr g1 (sV a) x (sV a)∧True))
  (by kernel_rfl) ?_
 intro g1
 refine ⟨trivial,rfl,?_⟩
 intro _
 refine ⟨trivial,?_⟩
 refine ⟨trivial,g1,?_,?_,?_⟩
 · try dsimp only
   all_goals trivial
 · first | rfl | simp_all
 · first | exact ⟨rfl,trivial⟩ | trivial | simp_all
def cl1_c (a:List UInt8):ConX Tryz.prog:={ X:=Nat,f:=116,args:=[sV a],H:=[],pre:=True,post:=fun x=>True,res:=fun x=>.lit (.func (.func 117) #[] #[.pointer (some ⟨x,0,none⟩)]),H':=fun x=>[(1000,(x,sV a))],ok:=fun _=>cl1_ok a }
end Go.Proofs.YthliifpcaahnnaaGreatDoor
namespace Go.Proofs.YthliifpcaahnnaaGreatDoor
open Go Go.Abs Go.RowKit Go.Pd
set_option maxRecDepth 20000
theorem lets_alt {w:List Pg} {n p:List UInt8} (h1:worldOkL w=true) (h2:nameL n=true):((readL p).isSome&&ruleLetsL (saidL (getL w (doorL (oA (readL p)).house) 2).1 (getL w (doorL (oA (readL p)).house) 2).2 n).ru (if addrOkL (oA (readL p))=true then pathL (oA (readL p)) else []))=worldLetsL w n p:=by
  unfold worldLetsL
  rw [h1,h2]
  cases h:(readL p).isSome with
  | false=>rfl
  | true=>
    have h3:=read_ok2 h
    rw [if_pos h3]
    have h4:houseL (oA (readL p)).house=true:=by
      unfold addrOkL at h3
      simp only [Bool.and_eq_true] at h3
      exact h3.1.1.1.1.1
    rw [show worldNotL w (oA (readL p)).house n=_ from if_pos ⟨h1,h4,h2⟩]
    simp
abbrev iNoticeFor_r (gs:List Grp) (n:List UInt8):V:=.agg [.sl false ([n].map sV),.sl false (((forL gs n).ru).map ruleV),iN ((forL gs n).wa)]
theorem iNoticeFor_ok (gs:List Grp) (n:List UInt8) (hg:gs.length≤1000) (hr:∀ i,(gs.getD i ⟨[],[],0⟩).ru.length≤100) (ha:∀ i,(gs.getD i ⟨[],[],0⟩).na.length≤1000000):PF Tryz.prog 79 [.sl false (gs.map grpV),sV n] [] (fun r h=>r=(iNoticeFor_r gs n)∧h=[]):=by
 refine PF_go1 (N:=45) (rs:=[.cell 4 36]) Tryz.func79 (by kernel_rfl) rfl rfl rfl (by kernel_rfl)
  (.al zt36 (fun g4=>.r 1 [] <| .r 2 [] <| .r 3 [] <| .cx (cl1_c n) [(1000,14)] (fun (x3_3:Nat)=>.c (hasFn_c gs n x3_3) [(1000,14)] <| .r 1 [] <| .join (List UInt8) (fun d=>⟨[(0,.sl false (gs.map grpV)),(1,sV n),(4,.ptr (.key 4) [] g4 0),(5,.lit (.func (.func 116) #[] #[])),(10,sV n),(11,.sl false (gs.map grpV)),(12,.lit (.func (.func 116) #[] #[])),(13,sV n),(14,.lit (.func (.func 117) #[] #[.pointer (some ⟨x3_3,0,none⟩)])),(15,bV (gs.any fun y=>y.na.contains n)),(16,bV (!(gs.any fun y=>y.na.contains n))),(6,sV d)],[(4,(g4,.agg [.sl true [],.sl true [],iN 0])),(14,(x3_3,sV n))]⟩) (fun d=>d=askedL gs n) (.r 1 [] <| .nil) (.nil) (fun d=>.r 1 [] <| .bs <| .bd zt36 <| .al zt36 (fun g7=>.st none <| .r 3 [] <| .h (.own0R (.key 7) [1] 2) <| .loop (Nat×(List Rul)×Nat×Nat×Nat×Nat) (fun (i,e,q,u,f,k)=>⟨[(4,.ptr (.key 4) [] g4 0),(5,.lit (.func (.func 116) #[] #[])),(6,sV d),(7,.ptr (.key 7) [] g7 0),(20,.sl false (gs.map grpV)),(21,iN gs.length),(22,iN i)],[(4,(g4,.agg [.sl true [],.sl true [],iN 0])),(7,(g7,.agg [.sl true [sV n],.own 2 (e.map ruleV) u f k,iN q]))]⟩) (fun (i,e,q,u,f,k)=>i≤gs.length∧((gs.take i).foldl (ofStep d) (([],0),false)).1=(e,q)∧e.length≤100 * i) (fun (i,e,q,u,f,k)=>gs.length - i) (fun (i,e,q,u,f,k)=>.r 1 [] <| .br (.r 2 [.agg [.sl false (((gs.getD i (⟨[],[],0⟩:Grp)).na).map sV),.sl false (((gs.getD i (⟨[],[],0⟩:Grp)).ru).map ruleV),iN ((gs.getD i (⟨[],[],0⟩:Grp)).wa)]] <| .al zt36 (fun g9=>.st none <| .dx 4 [0,1,3,2] [(3,⟨false,[],some [9],[29],[]⟩),(2,⟨true,[],some [28],[28],[28]⟩)] [] <| .r 1 [] <| .r 1 [] <| .r 1 [.dead] <| .cx (cl1_c d) [(1000,28)] (fun (x9_2:Nat)=>.c (cl2_c (gs.getD i (⟨[],[],0⟩:Grp)) d x9_2) [(1000,28)] <| .br (.r 4 [.dead,.dead] <| .ap (fun g35 o35 c35=>.h (.eqt 35 (.own 2 ((e++((gs.getD i (⟨[],[],0⟩:Grp)).ru)).map ruleV) g35 o35 c35)) <| .r 1 [] <| .st none <| .r 4 [.dead,.dead] <| .mm <| .r 1 [] <| .st none <| .h (.eqh 7 (.agg [.sl true [sV n],.own 2 ((e++((gs.getD i (⟨[],[],0⟩:Grp)).ru)).map ruleV) g35 o35 c35,iN (max q (gs.getD i ⟨[],[],0⟩).wa)])) <| .r 2 [] <| .nil)) (.r 2 [] <| .nil)))) (.mv <| .h (.fz 44) <| .h (.eqt 44 (.agg [.sl true [sV n],.sl false (e.map ruleV),iN q])) <| .st none <| .nil)))))))
  ((fun v1:V=>(fun v2:V=>(fun v3:V=>(∀ g4:Nat,(fun v4:V=>True∧True∧True∧(cl1_c n).sm∧(True)∧(True)∧∀ x3_3:Nat,(True)→(fun v5:V=>(hasFn_c gs n x3_3).sm∧(((((x3_3,sV n)):Nat×V)=(x3_3,sV n))∧True)∧((gs.length≤1000000)∧(∀ i,(gs.getD i ⟨[],[],0⟩).na.length≤1000000))∧True∧((!(gs.any fun y=>y.na.contains n))=true→True∧∃ d:List UInt8,(d=askedL gs n)∧(E v3∧E (sV n)∧E v4∧E v1∧E (sV n)∧E v3∧E v1∧E (sV n)∧E v5∧E (bV (gs.any fun y=>y.na.contains n))∧E (bV (!(gs.any fun y=>y.na.contains n)))∧Q (sV ([42]:List UInt8)) (sV d)∧True)∧(Er g4 v2∧Er x3_3 (sV n)∧True))∧((!(gs.any fun y=>y.na.contains n))=false→∃ d:List UInt8,(d=askedL gs n)∧(E v3∧E (sV n)∧E v4∧E v1∧E (sV n)∧E v3∧E v1∧E (sV n)∧E v5∧E (bV (gs.any fun y=>y.na.contains n))∧E (bV (!(gs.any fun y=>y.na.contains n)))∧Q (sV n) (sV d)∧True)∧(Er g4 v2∧Er x3_3 (sV n)∧True))∧(∀ d:List UInt8,(d=askedL gs n)→True∧∀ g7:Nat,Z g7 0∧True∧(∃ x:Nat×(List Rul)×Nat×Nat×Nat×Nat,match x with | (i₀,e₀,q₀,u₀,f₀,k₀)=>(i₀≤gs.length∧((gs.take i₀).foldl (ofStep d) (([],0),false)).1=(e₀,q₀)∧e₀.length≤100 * i₀)∧(E v4∧E v1∧E (sV d)∧E (.ptr (.key 7) [] g7 0)∧E v3∧Q (iN ((gs.map grpV).length)) (iN gs.length)∧Q (iN 0) (iN i₀)∧True)∧(Er g4 v2∧Qr g7 (.agg [.sl true [sV n],.own 2 ([].map ruleV) 0 0 0,iN 0]) g7 (.agg [.sl true [sV n],.own 2 (e₀.map ruleV) u₀ f₀ k₀,iN q₀])∧True))∧∀ x:Nat×(List Rul)×Nat×Nat×Nat×Nat,match x with | (i,e,q,u,f,k)=>(i≤gs.length∧((gs.take i).foldl (ofStep d) (([],0),false)).1=(e,q)∧e.length≤100 * i)→True∧Br (ltB (i:Int) (gs.length:Int)) ((Ex (i:Int) (gs.map grpV) (.agg [.sl false (((gs.getD i (⟨[],[],0⟩:Grp)).na).map sV),.sl false (((gs.getD i (⟨[],[],0⟩:Grp)).ru).map ruleV),iN ((gs.getD i (⟨[],[],0⟩:Grp)).wa)])∧True∧True)∧∀ g9:Nat,Z g9 0∧True∧True∧(Z g9 0∧True)∧(cl1_c d).sm∧(True)∧(True)∧∀ x9_2:Nat,(True)→(cl2_c (gs.getD i (⟨[],[],0⟩:Grp)) d x9_2).sm∧(((((x9_2,sV d)):Nat×V)=(x9_2,sV d))∧True)∧(((gs.getD i (⟨[],[],0⟩:Grp)).na.length≤1000000))∧Br ((gs.getD i (⟨[],[],0⟩:Grp)).na.contains d) ((Z g7 1∧Z g9 1∧True)∧((2,2,u,f,k,(e.map ruleV).length)=(2,2,u,f,k,(e.map ruleV).length))∧(True)∧(V.ownsL (((gs.getD i (⟨[],[],0⟩:Grp)).ru).map ruleV)=false)∧(AllN 2 (((gs.getD i (⟨[],[],0⟩:Grp)).ru).map ruleV))∧(((e.map ruleV).length+(((gs.getD i (⟨[],[],0⟩:Grp)).ru).map ruleV).length) * 24≤140737488355328)∧∀ g35 o35 c35:Nat,((.own 2 ((e.map ruleV)++(((gs.getD i (⟨[],[],0⟩:Grp)).ru).map ruleV)) g35 o35 c35:V)=.own 2 ((e++((gs.getD i (⟨[],[],0⟩:Grp)).ru)).map ruleV) g35 o35 c35)∧True∧Z g7 1∧(Z g7 2∧Z g9 2∧True)∧(IntKind.i64=IntKind.i64)∧True∧Z g7 2∧((.agg [.sl true [sV n],.own 2 ((e++((gs.getD i (⟨[],[],0⟩:Grp)).ru)).map ruleV) g35 o35 c35,iV (max (q:Int) (((gs.getD i (⟨[],[],0⟩:Grp)).wa:Nat):Int))]:V)=.agg [.sl true [sV n],.own 2 ((e++((gs.getD i (⟨[],[],0⟩:Grp)).ru)).map ruleV) g35 o35 c35,iN (max q (gs.getD i ⟨[],[],0⟩).wa)])∧(I64 ((i:Int)+1)∧True)∧∃ x:Nat×(List Rul)×Nat×Nat×Nat×Nat,match x with | (i₂,e₂,q₂,u₂,f₂,k₂)=>(i₂≤gs.length∧((gs.take i₂).foldl (ofStep d) (([],0),false)).1=(e₂,q₂)∧e₂.length≤100 * i₂)∧(gs.length - i₂ < gs.length - i)∧(E v4∧E v1∧E (sV d)∧E (.ptr (.key 7) [] g7 0)∧E v3∧E (iN gs.length)∧Q (iN (i+1)) (iN i₂)∧True)∧(Er g4 v2∧Qr g7 (.agg [.sl true [sV n],.own 2 ((e++((gs.getD i (⟨[],[],0⟩:Grp)).ru)).map ruleV) g35 o35 c35,iN (max q (gs.getD i ⟨[],[],0⟩).wa)]) g7 (.agg [.sl true [sV n],.own 2 (e₂.map ruleV) u₂ f₂ k₂,iN q₂])∧True)) ((I64 ((i:Int)+1)∧True)∧∃ x:Nat×(List Rul)×Nat×Nat×Nat×Nat,match x with | (i₂,e₂,q₂,u₂,f₂,k₂)=>(i₂≤gs.length∧((gs.take i₂).foldl (ofStep d) (([],0),false)).1=(e₂,q₂)∧e₂.length≤100 * i₂)∧(gs.length - i₂ < gs.length - i)∧(E v4∧E v1∧E (sV d)∧E (.ptr (.key 7) [] g7 0)∧E v3∧E (iN gs.length)∧Q (iN (i+1)) (iN i₂)∧True)∧(Er g4 v2∧Qr g7 (.agg [.sl true [sV n],.own 2 (e.map ruleV) u f k,iN q]) g7 (.agg [.sl true [sV n],.own 2 (e₂.map ruleV) u₂ f₂ k₂,iN q₂])∧True))) (Z g7 0∧((.agg [.sl true [sV n],.sl false (V.erL (e.map ruleV)),iN q]:V)=.agg [.sl true [sV n],.sl false (e.map ruleV),iN q])∧Z g4 0∧(g4=g4∧True)∧Q (.agg [.sl false [sV n],.sl false (e.map ruleV),iN q]) (iNoticeFor_r gs n)∧(True)))) (.lit (.func (.func 117) #[] #[.pointer (some ⟨x3_3,0,none⟩)]))) (.ptr (.key 4) [] g4 0))) (.sl false (gs.map grpV))) (.agg [.sl true [],.sl true [],iN 0])) (.lit (.func (.func 116) #[] #[])))
  (by kernel_rfl) ?_
 intro g4
 refine ⟨trivial,trivial,trivial,rfl,trivial,trivial,?_⟩
 intro x3_3 hx3_3
 refine ⟨rfl,⟨rfl,trivial⟩,⟨by omega,ha⟩,trivial,?_⟩
 refine ⟨fun hb1=>?_,fun hb1=>?_,fun d hd=>?_⟩
 · try simp only [nb] at hb1
   refine ⟨trivial,?_⟩
   exact ⟨([42]:List UInt8),by unfold askedL; rw [hb1]; rfl,⟨rfl,rfl,rfl,rfl,rfl,rfl,rfl,rfl,rfl,rfl,rfl,rfl,trivial⟩,⟨rfl,rfl,trivial⟩⟩
 · try simp only [nb] at hb1
   exact ⟨n,by unfold askedL; rw [hb1]; rfl,⟨rfl,rfl,rfl,rfl,rfl,rfl,rfl,rfl,rfl,rfl,rfl,rfl,trivial⟩,⟨rfl,rfl,trivial⟩⟩
 refine ⟨trivial,?_⟩
 intro g7
 refine ⟨rfl,trivial,?_⟩
 refine ⟨⟨(0,[],0,0,0,0),?_,⟨rfl,rfl,rfl,rfl,rfl,by first | rfl | simp | (simp; omega),rfl,trivial⟩,⟨rfl,rfl,trivial⟩⟩,?_⟩
 · simp
 rintro ⟨i,e,q,u,f,k⟩ ⟨h1,h2,h3⟩
 have hai:=ha i
 refine ⟨trivial,?_⟩
 refine ⟨fun hb2=>?_,fun hb2=>?_⟩
 · try simp only [nb] at hb2
   refine ⟨⟨⟨by omega,getE_map (d:=(⟨[],[],0⟩:Grp)) (by omega)⟩,trivial,trivial⟩,?_⟩
   intro g9
   refine ⟨rfl,trivial,trivial,⟨rfl,trivial⟩,rfl,trivial,trivial,?_⟩
   intro x9_2 hx9_2
   refine ⟨rfl,⟨rfl,trivial⟩,ha i,?_⟩
   refine ⟨fun hb3=>?_,fun hb3=>?_⟩
   · try simp only [nb] at hb3
     refine ⟨⟨rfl,rfl,trivial⟩,rfl,trivial,(ownsL_map (f:=ruleV) (fun _=>rfl) _),(allN_map (f:=ruleV) (fun _=>rfl) _),by (try simp only [List.length_map,List.length_cons,List.length_nil]); have:=hr i; omega,?_⟩
     intro g35 o35 c35
     refine ⟨congrArg (V.own 2 · g35 o35 c35) ((List.map_append ..).symm),trivial,rfl,⟨rfl,rfl,trivial⟩,rfl,trivial,rfl,congrArg (fun z:Int=>(.agg [.sl true [sV n],.own 2 ((e++((gs.getD i (⟨[],[],0⟩:Grp)).ru)).map ruleV) g35 o35 c35,iV z]:V)) (by omega),⟨by omega,trivial⟩,?_⟩
     refine ⟨(i+1,e++((gs.getD i (⟨[],[],0⟩:Grp)).ru),max q (gs.getD i ⟨[],[],0⟩).wa,g35,o35,c35),?_,?_,⟨rfl,rfl,rfl,rfl,rfl,rfl,rfl,trivial⟩,⟨rfl,rfl,trivial⟩⟩
     · have:=hr i
       refine ⟨by omega,?_,by simp only [List.length_append]; omega⟩
       rw [foldl_succ (d:=⟨[],[],0⟩) (by omega),ofStep_1,if_pos hb3,h2]
     · first | (simp; done) | omega | (simp; omega)
   · try simp only [nb] at hb3
     refine ⟨⟨by omega,trivial⟩,?_⟩
     refine ⟨(i+1,e,q,u,f,k),?_,?_,⟨rfl,rfl,rfl,rfl,rfl,rfl,rfl,trivial⟩,⟨rfl,rfl,trivial⟩⟩
     · refine ⟨by omega,?_,by omega⟩
       rw [foldl_succ (d:=⟨[],[],0⟩) (by omega),ofStep_1,if_neg (by rw [hb3]; decide),h2]
     · first | (simp; done) | omega | (simp; omega)
 · try simp only [nb] at hb2
   refine ⟨rfl,by simp only [erL_map_id (f:=ruleV) (fun _=>rfl)],rfl,?_⟩
   refine ⟨⟨rfl,trivial⟩,?_,trivial⟩
   unfold Q iNoticeFor_r
   rw [List.take_of_length_le (by omega)] at h2
   have hfa:=forL_asked gs n
   rw [hfa.1,hfa.2,← hd,h2]
   rfl
def iNoticeFor_c (gs:List Grp) (n:List UInt8):Con Tryz.prog:={ f:=79,args:=[.sl false (gs.map grpV),sV n],H:=[],pre:=(gs.length≤1000)∧(∀ i,(gs.getD i ⟨[],[],0⟩).ru.length≤100)∧(∀ i,(gs.getD i ⟨[],[],0⟩).na.length≤1000000),res:=iNoticeFor_r gs n,H':=[],ok:=fun h=>iNoticeFor_ok gs n h.1 h.2.1 h.2.2 }
abbrev iNotice_r (w:List Pg) (d:List UInt8) (n:List UInt8):V:=.agg [.sl false ([n].map sV),.sl false (((saidL (getL w (doorL d) 2).1 (getL w (doorL d) 2).2 n).ru).map ruleV),iN ((saidL (getL w (doorL d) 2).1 (getL w (doorL d) 2).2 n).wa)]
theorem iNotice_ok (w:List Pg) (d n:List UInt8) (hd:d.length≤1000) (ht:(getL w (doorL d) 2).2.length≤1000000):PF Tryz.prog 41 [.mp (w.map pgE),sV d,sV n] [] (fun r h=>r=(iNotice_r w d n)∧h=[]):=by
 refine PF_go1 (N:=32) (rs:=[.cell 6 36]) Tryz.func41 (by kernel_rfl) rfl rfl rfl (by kernel_rfl)
  (.al zt36 (fun g6=>.r 2 [] <| .c (noticeAddr_c d) [] <| .c (getAtLast_c w (doorL d)) [] <| .r 5 [] <| .r 1 [] <| .r 2 [] <| .br (.r 1 [] <| .c (iNoticeRead_c ((getL w (doorL d) 2).2)) [] <| .h (.fz 20) <| .h (.eqt 20 (.sl false ((noticeL ((getL w (doorL d) 2).2)).map grpV))) <| .r 1 [] <| .c (iNoticeFor_c (noticeL ((getL w (doorL d) 2).2)) n) [] <| .st none <| .nil) (.r 2 [] <| .br (.r 1 [] <| .bs <| .bd zt68 <| .bs <| .bd zt36 <| .st none <| .nil) (.r 1 [] <| .c (iNoticeFor_c ([]:List Grp) n) [] <| .st none <| .nil))))
  ((fun v1:List Grp=>(∀ g6:Nat,True∧(noticeAddr_c d).sm∧(True)∧((d.length≤4000000000000000000))∧(getAtLast_c w (doorL d)).sm∧(True)∧(True)∧True∧True∧True∧Br (eqB ((getL w (doorL d) 2).1) 1) (True∧(iNoticeRead_c ((getL w (doorL d) 2).2)).sm∧(True)∧((((getL w (doorL d) 2).2).length≤1000000))∧((.sl false (V.erL ((noticeL ((getL w (doorL d) 2).2)).map grpO)):V)=.sl false ((noticeL ((getL w (doorL d) 2).2)).map grpV))∧True∧(iNoticeFor_c (noticeL ((getL w (doorL d) 2).2)) n).sm∧(True)∧(((noticeL ((getL w (doorL d) 2).2)).length≤1000)∧(∀ i,((noticeL ((getL w (doorL d) 2).2)).getD i ⟨[],[],0⟩).ru.length≤100)∧(∀ i,((noticeL ((getL w (doorL d) 2).2)).getD i ⟨[],[],0⟩).na.length≤1000000))∧Z g6 0∧(g6=g6∧True)∧Q (.agg [.sl false ([n].map sV),.sl false (((forL (noticeL ((getL w (doorL d) 2).2)) n).ru).map ruleV),iN ((forL (noticeL ((getL w (doorL d) 2).2)) n).wa)]) (iNotice_r w d n)∧(True)) (True∧Br (eqB ((getL w (doorL d) 2).1) 3) (True∧Z g6 0∧(g6=g6∧True)∧Q (.agg [.sl false [sV n],.sl false [.agg [bV false,sV ([47]:List UInt8)]],iN 0]) (iNotice_r w d n)∧(True)) (True∧(iNoticeFor_c v1 n).sm∧(True)∧((v1.length≤1000)∧(∀ i,(v1.getD i ⟨[],[],0⟩).ru.length≤100)∧(∀ i,(v1.getD i ⟨[],[],0⟩).na.length≤1000000))∧Z g6 0∧(g6=g6∧True)∧Q (.agg [.sl false ([n].map sV),.sl false (((forL v1 n).ru).map ruleV),iN ((forL v1 n).wa)]) (iNotice_r w d n)∧(True))))) ([]:List Grp))
  (by kernel_rfl) ?_
 intro g6
 refine ⟨trivial,rfl,trivial,by omega,rfl,trivial,trivial,trivial,trivial,trivial,?_⟩
 refine ⟨fun hb1=>?_,fun hb1=>?_⟩
 · try simp only [nb] at hb1
   refine ⟨trivial,rfl,trivial,ht,congrArg (V.sl false) (erL_grpO _),trivial,rfl,trivial,⟨by have:=(notice_ok (getL w (doorL d) 2).2).len; omega,fun i=>((notice_ok (getL w (doorL d) 2).2).ru i).1,fun i=>by have:=((notice_ok (getL w (doorL d) 2).2).ru i).2; omega⟩,rfl,?_⟩
   refine ⟨⟨rfl,trivial⟩,?_,trivial⟩
   unfold Q iNotice_r
   rw [show saidL (getL w (doorL d) 2).1 (getL w (doorL d) 2).2 n=forL (noticeL (getL w (doorL d) 2).2) n from by rw [saidL,if_pos hb1]]
 · try simp only [nb] at hb1
   refine ⟨trivial,?_⟩
   refine ⟨fun hb2=>?_,fun hb2=>?_⟩
   · try simp only [nb] at hb2
     refine ⟨trivial,rfl,?_⟩
     refine ⟨⟨rfl,trivial⟩,?_,trivial⟩
     unfold Q iNotice_r
     rw [show saidL (getL w (doorL d) 2).1 (getL w (doorL d) 2).2 n=_ from by rw [saidL,if_neg hb1,if_pos hb2]]
     rfl
   · try simp only [nb] at hb2
     refine ⟨trivial,rfl,trivial,⟨by simp,by simp,by simp⟩,rfl,?_⟩
     refine ⟨⟨rfl,trivial⟩,?_,trivial⟩
     unfold Q iNotice_r
     rw [show saidL (getL w (doorL d) 2).1 (getL w (doorL d) 2).2 n=_ from by rw [saidL,if_neg hb1,if_neg hb2]]
def iNotice_c (w:List Pg) (d:List UInt8) (n:List UInt8):Con Tryz.prog:={ f:=41,args:=[.mp (w.map pgE),sV d,sV n],H:=[],pre:=(d.length≤1000)∧((getL w (doorL d) 2).2.length≤1000000),res:=iNotice_r w d n,H':=[],ok:=fun h=>iNotice_ok w d n h.1 h.2 }
abbrev lets_r (w:List Pg) (n:List UInt8) (a:Adr):V:=bV (ruleLetsL (saidL (getL w (doorL a.house) 2).1 (getL w (doorL a.house) 2).2 n).ru (if addrOkL a=true then pathL a else []))
theorem lets_ok (w:List Pg) (n:List UInt8) (a:Adr) (ha:AdrS a) (ht:(getL w (doorL a.house) 2).2.length≤1000000):PF Tryz.prog 30 [.mp (w.map pgE),sV n,.agg [sV a.house,.sl false (a.parts.map sV),bV a.asks,sV a.ask]] [] (fun r h=>r=(lets_r w n a)∧h=[]):=by
 have hpa:=ha.path
 refine PF_go1 (N:=16) (rs:=[.tmp 6]) Tryz.func30 (by kernel_rfl) rfl rfl rfl (by kernel_rfl)
  (.bx (fun g5=>.r 1 [] <| .d 9 <| .r 4 [.dead] <| .c (iNotice_c w a.house n) [] <| .r 2 [.dead] <| .c (addrPath_c a) [] <| .c (iRuleLets_c ((saidL (getL w (doorL a.house) 2).1 (getL w (doorL a.house) 2).2 n).ru) (if addrOkL a=true then pathL a else [])) [] <| .r 1 [] <| .nil))
  (∀ g5:Nat,True∧(Z g5 0∧True)∧(iNotice_c w a.house n).sm∧((a.house.length≤1000)∧((getL w (doorL a.house) 2).2.length≤1000000))∧(Z g5 0∧True)∧(addrPath_c a).sm∧((AdrS a))∧(iRuleLets_c ((saidL (getL w (doorL a.house) 2).1 (getL w (doorL a.house) 2).2 n).ru) (if addrOkL a=true then pathL a else [])).sm∧((((saidL (getL w (doorL a.house) 2).1 (getL w (doorL a.house) 2).2 n).ru).length≤1000000)∧(∀ i,(((saidL (getL w (doorL a.house) 2).1 (getL w (doorL a.house) 2).2 n).ru).getD i ⟨false,[]⟩).path.length≤1000000)∧((if addrOkL a=true then pathL a else []).length≤1000000))∧True∧True∧Q (bV (ruleLetsL ((saidL (getL w (doorL a.house) 2).1 (getL w (doorL a.house) 2).2 n).ru) (if addrOkL a=true then pathL a else []))) (lets_r w n a)∧(True))
  (by kernel_rfl) ?_
 intro g5
 refine ⟨trivial,⟨rfl,trivial⟩,rfl,⟨ha.1,ht⟩,⟨rfl,trivial⟩,rfl,ha,rfl,⟨by have:=(said_ok (getL w (doorL a.house) 2).1 (getL w (doorL a.house) 2).2 n).1; omega,fun i=>getD_all (p:=fun r:Rul=>r.path.length≤1000000) (fun r hr=>by have:=(said_ok (getL w (doorL a.house) 2).1 (getL w (doorL a.house) 2).2 n).2 r hr; omega) (by simp) i,by split <;> (try simp) <;> omega⟩,trivial,?_⟩
 refine ⟨trivial,?_,trivial⟩
 unfold Q lets_r
 rfl
def lets_c (w:List Pg) (n:List UInt8) (a:Adr):Con Tryz.prog:={ f:=30,args:=[.mp (w.map pgE),sV n,.agg [sV a.house,.sl false (a.parts.map sV),bV a.asks,sV a.ask]],H:=[],pre:=(AdrS a)∧((getL w (doorL a.house) 2).2.length≤1000000),res:=lets_r w n a,H':=[],ok:=fun h=>lets_ok w n a h.1 h.2 }
theorem iWorldLets_ok (w:List Pg) (n p:List UInt8) (hw:w.length≤30) (hz:∀ i,PgSz (w.getD i pg0)) (hn:n.length≤1000000) (hp:p.length≤1000000) (hc:Asc p):PF Tryz.prog 6 [.sl false (w.map pgV),sV n,sV p] [] (fun r h=>r=(bV (worldLetsL w n p))∧h=[]):=by
 refine PF_go1 (N:=34) (rs:=[.tmp 6]) Tryz.func6 (by kernel_rfl) rfl rfl rfl (by kernel_rfl)
  (.r 1 [] <| .r 1 [] <| .sp (worldOkL w) (.c (worldOf_c w) [] <| .r 5 [] <| .r 4 [] <| .cg (isName_c n) <| .r 2 [] <| .br (.r 1 [] <| .nil) (.r 1 [] <| .c (iAddrRead_c p) [] <| .r 3 [] <| .al zt29 (fun g9=>.st none <| .r 1 [] <| .r 5 [.dead] <| .cg (lets_c w n (oA (readL p))) <| .r 2 [] <| .nil))) (.c (worldOfN_c w) [] <| .r 5 [] <| .r 4 [] <| .cg (isName_c n) <| .r 2 [] <| .br (.r 1 [] <| .nil) (.nil)))
  ((fun v1:Bool=>(fun v2:Bool=>(True∧True∧((worldOkL w)=true→(worldOf_c w).sm∧(True)∧((w.length≤30)∧(∀ i,PgSz (w.getD i pg0))∧(worldOkL w=true))∧True∧(Gd v2 (True∧True)∧True)∧Gd v2 ((Gd v2 (v2=true)∧True)∧((n.length≤4611686018427387904))∧(isName_c n).sm)∧(Gd v2 ((Gd v2 (v2=true)∧True)∧True)∧Pk (!true) true v2∧True)∧Br ((!true)||(!(nameL n))) (True∧True∧Q (bV false) (bV (worldLetsL w n p))∧(True)) (True∧(iAddrRead_c p).sm∧(True)∧((p.length≤1000000)∧(Asc p))∧True∧∀ g9:Nat,Z g9 0∧True∧(Gd (((readL p).isSome)==true) (True∧True)∧Gd (((readL p).isSome)==true) (True∧True)∧Gd (((readL p).isSome)==true) (True∧Z g9 0)∧True)∧Gd (((readL p).isSome)==true) ((Gd (((readL p).isSome)==true) ((((readL p).isSome)==true)=true)∧(Gd (((readL p).isSome)==true) ((((readL p).isSome)==true)=true)∧(Gd (((readL p).isSome)==true) ((((readL p).isSome)==true)=true)∧True)))∧((AdrS (oA (readL p)))∧((getL w (doorL (oA (readL p)).house) 2).2.length≤1000000))∧(lets_c w n (oA (readL p))).sm)∧(Pk ((readL p).isSome) (((readL p).isSome)==true) true∧True)∧True∧Q (bV (((readL p).isSome)&&(ruleLetsL (saidL (getL w (doorL (oA (readL p)).house) 2).1 (getL w (doorL (oA (readL p)).house) 2).2 n).ru (if addrOkL (oA (readL p))=true then pathL (oA (readL p)) else [])))) (bV (worldLetsL w n p))∧(True)))∧((worldOkL w)=false→(worldOfN_c w).sm∧(True)∧((w.length≤30)∧(∀ i,PgSz (w.getD i pg0))∧(worldOkL w=false))∧True∧(Gd v1 (True∧True)∧True)∧Gd v1 ((Gd v1 (v1=true)∧True)∧((n.length≤4611686018427387904))∧(isName_c n).sm)∧(Gd v1 ((Gd v1 (v1=true)∧True)∧True)∧Pk (!false) true v1∧True)∧Br ((!false)||(!(nameL n))) (True∧True∧Q (bV false) (bV (worldLetsL w n p))∧(True)) (False)))) ((!true)==false)) ((!false)==false))
  (by kernel_rfl) ?_
 refine ⟨trivial,trivial,?_⟩
 refine ⟨fun hs1_1=>?_,fun hs1_1=>?_⟩
 · have hq1_1:=hs1_1
   try simp only [nb] at hq1_1
   refine ⟨rfl,trivial,⟨hw,hz,hs1_1⟩,trivial,⟨fun hG=>⟨trivial,trivial⟩,trivial⟩,fun hG=>⟨⟨fun h=>h,trivial⟩,by (try simp only [nb] at hG); omega,rfl⟩,⟨fun hG=>⟨⟨fun h=>h,trivial⟩,trivial⟩,⟨fun _=>rfl,fun h=>by first | (rw [h]; done) | (rw [h]; rfl)⟩,trivial⟩,?_⟩
   refine ⟨fun hb1=>?_,fun hb1=>?_⟩
   · try simp only [nb] at hb1
     refine ⟨trivial,?_⟩
     refine ⟨trivial,?_,trivial⟩
     unfold Q
     refine congrArg bV ?_
     unfold worldLetsL
     grind
   · try simp only [nb] at hb1
     refine ⟨trivial,rfl,trivial,⟨hp,hc⟩,trivial,?_⟩
     intro g9
     refine ⟨rfl,trivial,⟨fun hG=>⟨trivial,trivial⟩,fun hG=>⟨trivial,trivial⟩,fun hG=>⟨trivial,rfl⟩,trivial⟩,fun hG=>⟨⟨fun h=>h,⟨fun h=>h,⟨fun h=>h,trivial⟩⟩⟩,⟨by (try simp only [nb] at hG); exact read_S _,by (try simp only [nb] at hG); have:=getL_len (w:=w) (a:=doorL (oA (readL p)).house) (k:=2) (m:=300) (fun i=>⟨(hz i).t,by have:=(hz i).l; omega⟩); omega⟩,rfl⟩,⟨⟨fun h=>by first | (rw [h]; done) | (rw [h]; rfl),fun _=>rfl⟩,trivial⟩,?_⟩
     refine ⟨trivial,?_,trivial⟩
     unfold Q
     refine congrArg bV ?_
     exact lets_alt hs1_1 hb1.2
 · have hq1_1:=hs1_1
   try simp only [nb] at hq1_1
   refine ⟨rfl,trivial,⟨hw,hz,hs1_1⟩,trivial,⟨fun hG=>⟨trivial,trivial⟩,trivial⟩,fun hG=>⟨⟨fun h=>h,trivial⟩,by (try simp only [nb] at hG); omega,rfl⟩,⟨fun hG=>⟨⟨fun h=>h,trivial⟩,trivial⟩,⟨fun _=>rfl,fun h=>by first | (rw [h]; done) | (rw [h]; rfl)⟩,trivial⟩,?_⟩
   refine ⟨fun hb2=>?_,fun hb2=>?_⟩
   · try simp only [nb] at hb2
     refine ⟨trivial,?_⟩
     refine ⟨trivial,?_,trivial⟩
     unfold Q
     refine congrArg bV ?_
     unfold worldLetsL
     grind
   · try simp only [nb] at hb2
     all_goals (first | exact absurd hb2.1 (by decide) | simp_all)
def iWorldLets_c (w:List Pg) (n:List UInt8) (p:List UInt8):Con Tryz.prog:={ f:=6,args:=[.sl false (w.map pgV),sV n,sV p],H:=[],pre:=(w.length≤30)∧(∀ i,PgSz (w.getD i pg0))∧(n.length≤1000000)∧(p.length≤1000000)∧(Asc p),res:=bV (worldLetsL w n p),H':=[],ok:=fun h=>iWorldLets_ok w n p h.1 h.2.1 h.2.2.1 h.2.2.2.1 h.2.2.2.2 }
abbrev iWorldNotice_r (w:List Pg) (d:List UInt8) (n:List UInt8):V:=.agg [.sl false (((worldNotL w d n).na).map sV),.sl false (((worldNotL w d n).ru).map ruleV),iN ((worldNotL w d n).wa)]
theorem iWorldNotice_ok (w:List Pg) (d n:List UInt8) (hw:w.length≤30) (hz:∀ i,PgSz (w.getD i pg0)) (hn:n.length≤1000000) (hd:d.length≤1000):PF Tryz.prog 11 [.sl false (w.map pgV),sV d,sV n] [] (fun r h=>r=(iWorldNotice_r w d n)∧h=[]):=by
 refine PF_go1 (N:=31) (rs:=[.cell 6 36]) Tryz.func11 (by kernel_rfl) rfl rfl rfl (by kernel_rfl)
  (.al zt36 (fun g6=>.r 1 [] <| .sp (worldOkL w) (.c (worldOf_c w) [] <| .r 5 [] <| .r 4 [] <| .cg (isHouse_c d) <| .r 4 [] <| .cg (isName_c n) <| .r 2 [] <| .br (.bd zt36 <| .st none <| .nil) (.r 3 [] <| .c (iNotice_c w d n) [] <| .st none <| .nil)) (.c (worldOfN_c w) [] <| .r 5 [] <| .r 4 [] <| .cg (isHouse_c d) <| .r 4 [] <| .cg (isName_c n) <| .r 2 [] <| .br (.bd zt36 <| .st none <| .nil) (.nil))))
  ((fun v1:Bool=>(fun v2:Bool=>(fun v3:Bool=>(fun v4:Bool=>(∀ g6:Nat,True∧((worldOkL w)=true→(worldOf_c w).sm∧(True)∧((w.length≤30)∧(∀ i,PgSz (w.getD i pg0))∧(worldOkL w=true))∧True∧(Gd v4 (True∧True)∧True)∧Gd v4 ((Gd v4 (v4=true)∧True)∧((d.length≤4611686018427387904))∧(isHouse_c d).sm)∧(Gd v4 ((Gd v4 (v4=true)∧True)∧True)∧Pk (!true) true v4∧Gd v2 (True∧True)∧True)∧Gd v2 ((Gd v2 (v2=true)∧True)∧((n.length≤4611686018427387904))∧(isName_c n).sm)∧(Gd v2 ((Gd v2 (v2=true)∧True)∧True)∧Pk ((!true)||(!(houseL d))) true v2∧True)∧Br (((!true)||(!(houseL d)))||(!(nameL n))) (Z g6 0∧(g6=g6∧True)∧Q (.agg [.sl false [],.sl false [],iN 0]) (iWorldNotice_r w d n)∧(True)) (True∧(iNotice_c w d n).sm∧(True)∧((d.length≤1000)∧((getL w (doorL d) 2).2.length≤1000000))∧Z g6 0∧(g6=g6∧True)∧Q (.agg [.sl false ([n].map sV),.sl false (((saidL (getL w (doorL d) 2).1 (getL w (doorL d) 2).2 n).ru).map ruleV),iN ((saidL (getL w (doorL d) 2).1 (getL w (doorL d) 2).2 n).wa)]) (iWorldNotice_r w d n)∧(True)))∧((worldOkL w)=false→(worldOfN_c w).sm∧(True)∧((w.length≤30)∧(∀ i,PgSz (w.getD i pg0))∧(worldOkL w=false))∧True∧(Gd v3 (True∧True)∧True)∧Gd v3 ((Gd v3 (v3=true)∧True)∧((d.length≤4611686018427387904))∧(isHouse_c d).sm)∧(Gd v3 ((Gd v3 (v3=true)∧True)∧True)∧Pk (!false) true v3∧Gd v1 (True∧True)∧True)∧Gd v1 ((Gd v1 (v1=true)∧True)∧((n.length≤4611686018427387904))∧(isName_c n).sm)∧(Gd v1 ((Gd v1 (v1=true)∧True)∧True)∧Pk ((!false)||(!(houseL d))) true v1∧True)∧Br (((!false)||(!(houseL d)))||(!(nameL n))) (Z g6 0∧(g6=g6∧True)∧Q (.agg [.sl false [],.sl false [],iN 0]) (iWorldNotice_r w d n)∧(True)) (False)))) ((!true)==false)) ((!false)==false)) (((!true)||(!(houseL d)))==false)) (((!false)||(!(houseL d)))==false))
  (by kernel_rfl) ?_
 intro g6
 refine ⟨trivial,?_⟩
 refine ⟨fun hs1_1=>?_,fun hs1_1=>?_⟩
 · have hq1_1:=hs1_1
   try simp only [nb] at hq1_1
   refine ⟨rfl,trivial,⟨hw,hz,hs1_1⟩,trivial,⟨fun hG=>⟨trivial,trivial⟩,trivial⟩,fun hG=>⟨⟨fun h=>h,trivial⟩,by (try simp only [nb] at hG); omega,rfl⟩,⟨fun hG=>⟨⟨fun h=>h,trivial⟩,trivial⟩,⟨fun _=>rfl,fun h=>by first | (rw [h]; done) | (rw [h]; rfl)⟩,fun hG=>⟨trivial,trivial⟩,trivial⟩,fun hG=>⟨⟨fun h=>h,trivial⟩,by (try simp only [nb] at hG); omega,rfl⟩,⟨fun hG=>⟨⟨fun h=>h,trivial⟩,trivial⟩,⟨fun _=>rfl,fun h=>by first | (rw [h]; done) | (rw [h]; rfl)⟩,trivial⟩,?_⟩
   refine ⟨fun hb1=>?_,fun hb1=>?_⟩
   · try simp only [nb] at hb1
     refine ⟨rfl,?_⟩
     refine ⟨⟨rfl,trivial⟩,?_,trivial⟩
     unfold Q iWorldNotice_r
     rw [show worldNotL w d n=⟨[],[],0⟩ from if_neg (by rintro ⟨_,h2,h3⟩; simp_all)]
     rfl
   · try simp only [nb] at hb1
     refine ⟨trivial,rfl,trivial,⟨hd,by have:=getL_len (w:=w) (a:=doorL d) (k:=2) (m:=300) (fun i=>⟨(hz i).t,by have:=(hz i).l; omega⟩); omega⟩,rfl,?_⟩
     refine ⟨⟨rfl,trivial⟩,?_,trivial⟩
     unfold Q iWorldNotice_r
     simp_all [worldNotL]
 · have hq1_1:=hs1_1
   try simp only [nb] at hq1_1
   refine ⟨rfl,trivial,⟨hw,hz,hs1_1⟩,trivial,⟨fun hG=>⟨trivial,trivial⟩,trivial⟩,fun hG=>⟨⟨fun h=>h,trivial⟩,by (try simp only [nb] at hG); omega,rfl⟩,⟨fun hG=>⟨⟨fun h=>h,trivial⟩,trivial⟩,⟨fun _=>rfl,fun h=>by first | (rw [h]; done) | (rw [h]; rfl)⟩,fun hG=>⟨trivial,trivial⟩,trivial⟩,fun hG=>⟨⟨fun h=>h,trivial⟩,by (try simp only [nb] at hG); omega,rfl⟩,⟨fun hG=>⟨⟨fun h=>h,trivial⟩,trivial⟩,⟨fun _=>rfl,fun h=>by first | (rw [h]; done) | (rw [h]; rfl)⟩,trivial⟩,?_⟩
   refine ⟨fun hb2=>?_,fun hb2=>?_⟩
   · try simp only [nb] at hb2
     refine ⟨rfl,?_⟩
     refine ⟨⟨rfl,trivial⟩,?_,trivial⟩
     unfold Q iWorldNotice_r
     simp_all [worldNotL]
   · try simp only [nb] at hb2
     all_goals (first | exact absurd hb2.1 (by decide) | simp_all)
def iWorldNotice_c (w:List Pg) (d:List UInt8) (n:List UInt8):Con Tryz.prog:={ f:=11,args:=[.sl false (w.map pgV),sV d,sV n],H:=[],pre:=(w.length≤30)∧(∀ i,PgSz (w.getD i pg0))∧(n.length≤1000000)∧(d.length≤1000),res:=iWorldNotice_r w d n,H':=[],ok:=fun h=>iWorldNotice_ok w d n h.1 h.2.1 h.2.2.1 h.2.2.2 }
end Go.Proofs.YthliifpcaahnnaaGreatDoor
namespace Go.Proofs.YthliifpcaahnnaaGreatDoor
open Go Go.Abs Go.RowKit Go.Pd
set_option maxRecDepth 20000
theorem fnWorldLets_ok (b:List UInt8) (hb:b.length≤9223372036854775807):PF Tryz.prog 3 [.sl false (b.map u8V)] [] (fun r h=>r=(bV true)∧h=[]):=by
 refine PF_go1 (N:=59) (rs:=[.tmp 2]) Tryz.func3 (by kernel_rfl) rfl rfl rfl (by kernel_rfl)
  (.r 1 [] <| .r 3 [] <| .br (.r 1 [] <| .nil) (.r 1 [] <| .cx (drawWorldLets_c b) [] (fun (x3_1:List Pg×List UInt8×List UInt8)=>.r 7 [] <| .r 3 [] <| .c (iWorldLets_c x3_1.1 x3_1.2.1 x3_1.2.2) [] <| .r 1 [] <| .r 1 [] <| .c (iAddrRead_c x3_1.2.2) [] <| .r 3 [] <| .al zt29 (fun g7=>.st none <| .r 1 [] <| .r 4 [] <| .c (worldLets_c x3_1.1 x3_1.2.1 x3_1.2.2) [] <| .r 7 [] <| .cg (worldOk_c x3_1.1) <| .r 2 [] <| .br (.r 4 [] <| .c (worldLets_c x3_1.1 x3_1.2.1 x3_1.2.2) [] <| .r 2 [] <| .nil) (.d 11 <| .r 5 [.dead] <| .c (iWorldNotice_c x3_1.1 ((oA (readL x3_1.2.2)).house) x3_1.2.1) [] <| .r 2 [.dead] <| .c (addrPath_c (oA (readL x3_1.2.2))) [] <| .c (iRuleLets_c ((worldNotL x3_1.1 ((oA (readL x3_1.2.2)).house) x3_1.2.1).ru) (if addrOkL (oA (readL x3_1.2.2))=true then pathL (oA (readL x3_1.2.2)) else [])) [] <| .r 1 [] <| .r 1 [] <| .nil)))))
  (True∧True∧Br (gtB (((b.map u8V).length:Nat):Int) 1048576) (True∧True∧Q (bV true) (bV true)∧(True)) (True∧(drawWorldLets_c b).sm∧(True)∧((b.length≤9223372036854775807))∧∀ x3_1:List Pg×List UInt8×List UInt8,(1≤x3_1.1.length∧x3_1.1.length≤30∧(∀ y,y∈x3_1.1→PgSz y)∧x3_1.2.1.length≤5∧x3_1.2.2.length≤30∧nameL x3_1.2.1=true∧Asc x3_1.2.2)→(fun v1:Bool=>(fun v3:Bool=>(fun v2:Bool=>True∧True∧(iWorldLets_c x3_1.1 x3_1.2.1 x3_1.2.2).sm∧(True)∧((x3_1.1.length≤30)∧(∀ i,PgSz (x3_1.1.getD i pg0))∧(x3_1.2.1.length≤1000000)∧(x3_1.2.2.length≤1000000)∧(Asc x3_1.2.2))∧True∧True∧(iAddrRead_c x3_1.2.2).sm∧(True)∧((x3_1.2.2.length≤1000000)∧(Asc x3_1.2.2))∧True∧∀ g7:Nat,Z g7 0∧True∧True∧(worldLets_c x3_1.1 x3_1.2.1 x3_1.2.2).sm∧(True)∧((x3_1.1.length≤1000)∧(∀ i,(x3_1.1.getD i pg0).addr.length≤1000000∧(x3_1.1.getD i pg0).text.length≤1000000∧(x3_1.1.getD i pg0).lead.length≤1000000)∧(x3_1.2.1.length≤1000000)∧(x3_1.2.2.length≤1000000))∧(Gd (v1==false) (True∧True)∧Gd (v1==false) ((Gd (v1==false) ((v1==false)=true)∧True)∧True)∧Pk v1 true (v1==false)∧Gd v2 (True∧True)∧True)∧Gd v2 ((Gd v2 (v2=true)∧True)∧((x3_1.1.length≤1000)∧(∀ i,(x3_1.1.getD i pg0).addr.length≤1000000∧(x3_1.1.getD i pg0).lead.length≤1000000))∧(worldOk_c x3_1.1).sm)∧(Gd v2 ((Gd v2 (v2=true)∧True)∧True)∧Pk (v1||v3) true v2∧True)∧Br ((v1||v3)||(!(worldOkL x3_1.1))) (True∧(worldLets_c x3_1.1 x3_1.2.1 x3_1.2.2).sm∧(True)∧((x3_1.1.length≤1000)∧(∀ i,(x3_1.1.getD i pg0).addr.length≤1000000∧(x3_1.1.getD i pg0).text.length≤1000000∧(x3_1.1.getD i pg0).lead.length≤1000000)∧(x3_1.2.1.length≤1000000)∧(x3_1.2.2.length≤1000000))∧True∧True∧Q (bV ((worldLetsL x3_1.1 x3_1.2.1 x3_1.2.2)==(worldLetsL x3_1.1 x3_1.2.1 x3_1.2.2))) (bV true)∧(True)) ((Z g7 0∧True)∧(iWorldNotice_c x3_1.1 ((oA (readL x3_1.2.2)).house) x3_1.2.1).sm∧((x3_1.1.length≤30)∧(∀ i,PgSz (x3_1.1.getD i pg0))∧(x3_1.2.1.length≤1000000)∧(((oA (readL x3_1.2.2)).house).length≤1000))∧(Z g7 0∧True)∧(addrPath_c (oA (readL x3_1.2.2))).sm∧((AdrS (oA (readL x3_1.2.2))))∧(iRuleLets_c ((worldNotL x3_1.1 ((oA (readL x3_1.2.2)).house) x3_1.2.1).ru) (if addrOkL (oA (readL x3_1.2.2))=true then pathL (oA (readL x3_1.2.2)) else [])).sm∧((((worldNotL x3_1.1 ((oA (readL x3_1.2.2)).house) x3_1.2.1).ru).length≤1000000)∧(∀ i,(((worldNotL x3_1.1 ((oA (readL x3_1.2.2)).house) x3_1.2.1).ru).getD i ⟨false,[]⟩).path.length≤1000000)∧((if addrOkL (oA (readL x3_1.2.2))=true then pathL (oA (readL x3_1.2.2)) else []).length≤1000000))∧True∧True∧True∧Q (bV ((worldLetsL x3_1.1 x3_1.2.1 x3_1.2.2)==(ruleLetsL ((worldNotL x3_1.1 ((oA (readL x3_1.2.2)).house) x3_1.2.1).ru) (if addrOkL (oA (readL x3_1.2.2))=true then pathL (oA (readL x3_1.2.2)) else [])))) (bV true)∧(True))) ((v1||v3)==false)) (!((readL x3_1.2.2).isSome))) (!((worldLetsL x3_1.1 x3_1.2.1 x3_1.2.2)==(worldLetsL x3_1.1 x3_1.2.1 x3_1.2.2)))))
  (by kernel_rfl) ?_
 refine ⟨trivial,trivial,?_⟩
 refine ⟨fun hb1=>?_,fun hb1=>?_⟩
 · try simp only [nb,List.length_map] at hb1
   refine ⟨trivial,?_⟩
   refine ⟨trivial,?_,trivial⟩
   unfold Q
   rfl
 · try simp only [nb,List.length_map] at hb1
   refine ⟨trivial,rfl,trivial,by omega,?_⟩
   intro x3_1 hx3_1
   refine ⟨trivial,trivial,rfl,trivial,⟨by omega,fun i=>pg_i hx3_1.2.2.1 i,by omega,by omega,hx3_1.2.2.2.2.2.2⟩,trivial,trivial,rfl,trivial,⟨by omega,hx3_1.2.2.2.2.2.2⟩,trivial,?_⟩
   intro g7
   refine ⟨rfl,trivial,trivial,rfl,trivial,⟨by omega,fun i=>by have:=pg_i hx3_1.2.2.1 i; exact ⟨by have:=this.a; omega,by have:=this.t; omega,by have:=this.l; omega⟩,by omega,by omega⟩,⟨fun hG=>⟨trivial,trivial⟩,fun hG=>⟨⟨fun h=>h,trivial⟩,trivial⟩,⟨fun _=>rfl,fun h=>by first | (rw [h]; done) | (rw [h]; rfl)⟩,fun hG=>⟨trivial,trivial⟩,trivial⟩,fun hG=>⟨⟨fun h=>h,trivial⟩,⟨by (try simp only [nb] at hG); omega,fun i=>by have:=pg_i hx3_1.2.2.1 i; exact ⟨by have:=this.a; omega,by have:=this.l; omega⟩⟩,rfl⟩,⟨fun hG=>⟨⟨fun h=>h,trivial⟩,trivial⟩,⟨fun _=>rfl,fun h=>by first | (rw [h]; done) | (rw [h]; rfl)⟩,trivial⟩,?_⟩
   refine ⟨fun hb2=>?_,fun hb2=>?_⟩
   · try simp only [nb] at hb2
     refine ⟨trivial,rfl,trivial,⟨by omega,fun i=>by have:=pg_i hx3_1.2.2.1 i; exact ⟨by have:=this.a; omega,by have:=this.t; omega,by have:=this.l; omega⟩,by omega,by omega⟩,trivial,?_⟩
     refine ⟨trivial,?_,trivial⟩
     unfold Q
     simp
   · try simp only [nb] at hb2
     refine ⟨⟨rfl,trivial⟩,rfl,⟨by omega,fun i=>pg_i hx3_1.2.2.1 i,by omega,by have:=(read_S x3_1.2.2).1; omega⟩,⟨rfl,trivial⟩,rfl,by exact read_S _,rfl,⟨by have:=(worldNot_ok x3_1.1 (oA (readL x3_1.2.2)).house x3_1.2.1).1; omega,fun i=>by have:=(worldNot_ok x3_1.1 (oA (readL x3_1.2.2)).house x3_1.2.1).2 i; omega,by have:=(read_S x3_1.2.2).path; split <;> simp <;> omega⟩,trivial,trivial,?_⟩
     refine ⟨trivial,?_,trivial⟩
     unfold Q
     have hn:=hx3_1.2.2.2.2.2.1
     refine congrArg bV ?_
     have hok:=read_ok2 hb2.1.2
     rw [if_pos hok]
     unfold worldLetsL
     rw [hn,hb2.2,hb2.1.2]
     simp
end Go.Proofs.YthliifpcaahnnaaGreatDoor
namespace Go.Abs
open Go Go.ChangeShapes Go.RowKit
theorem bytes_in {H:Type} {enc:TypeId×Value→H} {P:Program} {t e:TypeId} (ht:P.underlying t=some (.slice e)) (he:P.underlying e=some (.int .u8)) (hc:P.cellsOf e=1) {W:World} {a0:Option Addr} {len cap:Nat} {d0:DataW H} {p:List MemPlace}
    (h0:DataW.Trod enc P W 0 (fun _=>true) true t (.slice a0 len cap) d0 p):∃ b:List UInt8,b.length=len∧len≤9223372036854775807∧RVs W (· < W.heap.size) [.sl false (b.map u8V)] [.slice a0 len cap] []:=by
  have mk:∀ (b:List UInt8),b.length=len→len≤cap→(b=[]∨∃ g o,a0=some ⟨g,o,none⟩∧g < W.heap.size∧∀ j u,(b.map fun c=>Value.int .u8 c.toNat)[j]? =some u→W.cell? ⟨g,o+j,none⟩=some u)→RVs W (· < W.heap.size) [.sl false (b.map u8V)] [.slice a0 len cap] []:=by
    intro b hb hl hx
    refine ⟨_,[],[],[],rfl,rfl,?_,rfl,rfl⟩
    refine ⟨rfl,a0,cap,by rw [List.length_map,hb],by rw [List.length_map,hb]; exact hl,(fun h=>by cases h),?_⟩
    rcases hx with rfl | ⟨g,o,rfl,hg,hcell⟩
    · exact .inl rfl
    · refine .inr ⟨g,o,1,b.map (fun c=>Value.int .u8 c.toNat),rfl,hg,by omega,?_,?_,hcell⟩
      · intro x hx
        obtain ⟨c,_,rfl⟩:=List.mem_map.1 hx
        rfl
      · clear hcell hb
        induction b with
        | nil=>exact ⟨rfl,rfl⟩
        | cons c r ih=>exact ⟨[.int .u8 c.toNat],r.map (fun c=>Value.int .u8 c.toNat),[],[],rfl,rfl,⟨rfl,rfl,rfl⟩,ih⟩
  obtain ⟨fuel,hf⟩:=h0
  rcases open_ints ht he hc hf with ⟨hcs,hx⟩ | ⟨a,len',cap',zs,hcs,_,hl,hm,hz,hx,hcell,hwz⟩
  · simp [Value.cells] at hcs
    obtain ⟨rfl,rfl,rfl⟩:=hcs
    exact ⟨[],rfl,by omega,mk [] rfl (Nat.le_refl _) (.inl rfl)⟩
  · simp [Value.cells] at hcs
    obtain ⟨rfl,rfl,rfl⟩:=hcs
    simp only [if_true] at hz
    have hmax:maxLen=9223372036854775807:=rfl
    have hb:((zs.take len).map fun z=>UInt8.ofNat z.toNat).length=len:=by simp; omega
    refine ⟨(zs.take len).map fun z=>UInt8.ofNat z.toNat,hb,by omega,mk _ hb hl ?_⟩
    by_cases h0:len=0
    · left; exact List.eq_nil_of_length_eq_zero (by omega)
    · right
      obtain ⟨g,o,s⟩:=a
      have hc0:=hcell 0 (by omega)
      obtain rfl:s=none:=by simpa [Addr.add] using World.cell?_spot hc0
      refine ⟨g,o,rfl,by have:=World.block_lt_of_cell? _ _ hc0; simpa [Addr.add] using this,fun j u hu=>?_⟩
      rw [List.getElem?_map,List.getElem?_map,List.getElem?_take] at hu
      split at hu
      · rename_i hj
        have hjz:j < zs.length:=by omega
        rw [List.getElem?_eq_getElem hjz] at hu
        simp only [Option.map_some,Option.some.injEq] at hu
        have hw:=hwz zs[j] (List.getElem_mem hjz)
        have hbd:0≤zs[j]∧zs[j] < 256:=by
          have h1:IntKind.u8.min=0:=rfl
          have h2:IntKind.u8.max=255:=rfl
          simp only [Lit.wf,Bool.and_eq_true,decide_eq_true_eq] at hw
          omega
        have hcj:=hcell j hjz
        have ea:(⟨g,o,none⟩:Addr).add j=⟨g,o+j,none⟩:=by unfold Addr.add; by_cases h0:j=0 <;> simp [h0]
        rw [ea] at hcj
        rw [hcj,← hu]
        simp only [List.getD_eq_getElem?_getD,List.getElem?_eq_getElem hjz,Option.getD_some,Option.some.injEq,Value.int.injEq,true_and]
        rw [UInt8.toNat_ofNat_of_lt' (by show zs[j].toNat < 256; omega)]
        omega
      · simp at hu
theorem law_bytes {P:Program} {f:FuncId} (h:∀ b:List UInt8,b.length≤9223372036854775807→PF P f [.sl false (b.map u8V)] [] (fun r h=>r=bV true∧h=[])) {W:World} {v:Value} {b:List UInt8} (hb:b.length≤9223372036854775807) (hv:RVs W (· < W.heap.size) [.sl false (b.map u8V)] [v] []):
    Calls P f #[v] W fun e W'=>e=.returned (.bool true)∧Below W.heap.size W W':=by
  refine ((h b hb).toPC.2 W (· < W.heap.size) [v] (fun _ h=>h) hv).mono ?_
  rintro e W' ⟨r,x,F,Pb',rfl,⟨_,rfl,_⟩,hr,_,_,_,_,hB⟩
  obtain ⟨_,e1,_⟩:=hr
  simp only [List.cons.injEq,and_true] at e1
  exact ⟨by rw [e1],hB⟩
end Go.Abs
namespace Go.Proofs.YthliifpcaahnnaaGreatDoor
open Go Go.ChangeShapes Go.WideShapes Go.ChangeAt Go.RowKit Go.Abs
theorem own:ownKnob Tryz.prog.godebug=none:=by kernel_rfl
theorem laidOut:laidOutB Tryz.prog=true:=by kernel_rfl
set_option maxRecDepth 100000 in
theorem fnWorldLets_lifted (os:Os) (started:os.Started) (H:Type) (enc:TypeId×Value→H):
    ReturnsInHanded {} Tryz.checked os 3 .any (fun w args=>(Rows.fnWorldLetsSpec.pre enc Tryz.prog Tryz.f3 [] false w args∧laidMetH Tryz.prog Rows.fnWorldLetsRow.laid w)∧sizedMet enc Tryz.prog Tryz.f3 (OpenSpec.ofChange Rows.fnWorldLetsSpec) false w args)
      (Rows.fnWorldLetsSpec.post enc Tryz.prog Tryz.f3 false true false false):=by
  refine returnsInHanded_of_change_and (C:=Tryz.checked) (X:=fun w _=>laidMetH Tryz.prog Rows.fnWorldLetsRow.laid w) (fun _ _ _ hh h=>h.of_heap hh) own started (by kernel_rfl) Tryz.func3
    (ChangeSpec.witness_shaped (enc:=enc) (C:=Tryz.checked) (os:=os) (X:=fun w _=>laidMetH Tryz.prog Rows.fnWorldLetsRow.laid w) false (World.laidAll Tryz.prog os Rows.fnWorldLetsRow.laid) #[.slice none 0 0] 8 (World.laidAll_os _ _ _)
      (World.shaped_of_ZipB (by kernel_rfl) (by kernel_rfl)) (by kernel_rfl) (by kernel_rfl) (by kernel_rfl)
      (by rw [MakeChecks.laidMetH_plain _ _ _ (by kernel_rfl)]; exact laidMet_laidAll _ (by kernel_rfl) (by kernel_rfl))) ?_
  intro W base args ds gs before hval0 hW _ _ _ _
  have hval:∀ (j:Nat) t v,Tryz.f3.params[j]? =some t→args[j]? =some v→Value.okWide Tryz.prog W .any base t v:=hval0
  have hW':=hW
  obtain ⟨p,q,hA0,hV,rfl,hfz,hnd⟩:=hW
  have hA:DataW.TrodAll enc Tryz.prog W 0 (fun _=>true) true Tryz.f3.params.toList args.toList ds p:=hA0
  rw [Tryz.params3] at hA hval
  obtain ⟨v0,d0,rfl,rfl,h0⟩:=trodAll_one hA
  obtain ⟨rfl,rfl⟩:=trodVars_none hV
  obtain ⟨a0,len0,cap0,rfl⟩:=okWide_slice Tryz.underlying22 (hval 0 22 v0 rfl rfl)
  have lt0:∀ x∈p,x.block < W.heap.size:=by obtain ⟨m,hm⟩:=h0; exact DataW.trod_lt m _ _ _ hm
  obtain ⟨b,rfl,hb,hv⟩:=bytes_in Tryz.underlying22 Tryz.underlying5 (by kernel_rfl) h0
  clear hA0 hval0
  refine (law_bytes fnWorldLets_ok hb hv).mono fun e W' ⟨he,bel⟩=>?_
  subst he
  exact ⟨_,rfl,_,_,_,[],p,[],hW',trodAll_mk1 (shut_bool Tryz.underlying4 _),trodAll_mk1 (Below.trod laidOut (by kernel_rfl) (of_decide_eq_true (by kernel_rfl)) h0 bel lt0),rfl,bel.frame _,fun h=>by cases h⟩
theorem fnWorldLets_row:Rows.FnWorldLetsSaid:=
  OpenClaim.holds_of_wide 3 Tryz.f3 rfl rfl rfl rfl rfl rfl rfl ⟨rfl,rfl,rfl,rfl,rfl⟩ rfl rfl rfl rfl rfl (by kernel_rfl) Tryz.func3 (by kernel_rfl)
    (of_decide_eq_true (by kernel_rfl)) (by unfold Func.isWrapper; first | (rw [if_pos (by decide +kernel)]; kernel_rfl) | (rw [if_neg (by decide +kernel)]; exact ⟨rfl,rfl⟩))
    (fun os started H enc _=>fnWorldLets_lifted os started H enc)
theorem fnWorldLets_holds:Rows.FnWorldLetsCardSaid:=
  Claim7.holds_tied_plain_at .later [] [.data,.pinned] true (true, "572384182733710ec3dd435b97d3e348ce2112ebbce3dcf5cd8f27c5b8feeec4") true fnWorldLets_row (fun _ h=>by cases h) (by kernel_rfl) (fun _ h=>by cases h) fnWorldLets_row_tie rfl ⟨rfl,rfl⟩ (by kernel_rfl) rfl
    (fun f fn hf hfn=>by
      obtain rfl:f=3:=Option.some.inj ((show Tryz.prog.funcNamed "loop.example/pedlar/laws.FnWorldLets" =some 3 by kernel_rfl).symm.trans hf) |>.symm
      obtain rfl:fn=Tryz.f3:=(Option.some.inj (Tryz.func3.symm.trans hfn)).symm
      exact ⟨by kernel_rfl,fun j t ht=>by
        rw [Tryz.params3] at ht
        have hm:t∈[22]:=by simpa using Array.mem_of_getElem? ht
        have hall:([22].all fun u=>!Tryz.prog.wantsStandIn u)=true:=by kernel_rfl
        exact (show Tryz.prog.wantsStandIn t=false by simpa using List.all_eq_true.1 hall t hm)⟩)
    (by kernel_rfl)
end Go.Proofs.YthliifpcaahnnaaGreatDoor
