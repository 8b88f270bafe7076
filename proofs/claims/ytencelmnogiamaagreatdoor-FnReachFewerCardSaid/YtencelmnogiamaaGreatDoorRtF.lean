/-
  Words and walks for the laws of pedlar's seat: what each function of the program computes, and that it does; no conditions beyond those that each statement names.
-/
import Derived.Test.YtencelmnogiamaaGreatDoorRtE
import Derived.Test.YtencelmnogiamaaGreatDoorRtB
import Derived.ProofKit
import Derived.OpenShut
import Derived.ChangeOld
import Derived.Below
import Derived.LaidMore
import Derived.Lay
import Derived.SevenTiedAt
import Derived.Stop.Joined
set_option linter.unusedVariables false
set_option linter.unusedSimpArgs false
set_option linter.unnecessarySimpa false
set_option linter.unusedSectionVars false
namespace Go.Pd
open Go.Abs
theorem avt {l r:List (List UInt8)} {i:Nat} (h:i < l.length):(l++r).take (i+1)=l.take i++[l.getD i []]:=by
 rw [List.take_append_of_le_length (by omega),aaH h []]
theorem apf (w:List Pg) (n:List UInt8) (seeds:List (List UInt8)):∀ i,(rN w n seeds i).2=((rN w n seeds i).1.take i).filter fun a=>decide (rOk w n a)
 | 0=>by simp [rN]
 | i+1=>by
   have ih:=apf w n seeds i
   show (abW w n (rN w n seeds i) i).2=((abW w n (rN w n seeds i) i).1.take (i+1)).filter _
   revert ih
   generalize rN w n seeds i=X
   intro ih
   by_cases hl:i < X.1.length
   unfold abW
   split
   rename_i h
   obtain ⟨r,hr⟩:=akw (aak w (X.1.getD i [])) (l:=X.1)
   simp only
   rw [hr,avt hl,List.filter_append,← ih,List.filter_cons_of_pos (by rw [decide_eq_true_eq]; exact h)]
   rfl
   rename_i h
   have:=avt (r:=[]) hl
   rw [List.append_nil] at this
   rw [this,List.filter_append,← ih,List.filter_cons_of_neg (by rw [decide_eq_true_eq]; exact h)]
   simp
   rw [aqH (by omega),ih,List.take_of_length_le (by omega),List.take_of_length_le (by omega)]
theorem amd (w:List Pg) (n:List UInt8) (seeds:List (List UInt8)) (i:Nat):∀ k,∃ r,(rN w n seeds (i+k)).1=(rN w n seeds i).1++r
 | 0=>⟨[],by simp⟩
 | k+1=>by
   obtain ⟨r,hr⟩:=amd w n seeds i k
   show ∃ r,(abW w n (rN w n seeds (i+k)) (i+k)).1=_
   unfold abW
   split
   obtain ⟨r2,hr2⟩:=akw (aak w ((rN w n seeds (i+k)).1.getD (i+k) [])) (l:=(rN w n seeds (i+k)).1)
   exact ⟨r++r2,by simp only; rw [hr2,hr,List.append_assoc]⟩
   exact ⟨r,hr⟩
def akH (w:List Pg) (n:List UInt8) (seeds:List (List UInt8)):List (List UInt8):=(rN w n seeds 5000).1
theorem axC {w:List Pg} {n:List UInt8} {seeds:List (List UInt8)} (hw:aai w=true) (hn:aaD n=true) (hs:seeds.length≤12):aaa w n seeds=(akH w n seeds).filter fun a=>decide (rOk w n a):=by
 rw [show aaa w n seeds=(rN w n seeds 5000).2 from if_pos ⟨hw,hn,hs⟩,apf,List.take_of_length_le (by have:=ake (n:=n) hw hs 5000; omega)]
 rfl
theorem afp {w:List Pg} {n:List UInt8} {seeds:List (List UInt8)} {a:List UInt8} (hw:aai w=true) (hn:aaD n=true) (hs:seeds.length≤12):a∈aaa w n seeds↔a∈akH w n seeds∧rOk w n a:=by
 rw [axC hw hn hs,List.mem_filter]; simp
theorem acV {w:List Pg} {n:List UInt8} {seeds:List (List UInt8)} {a:List UInt8} (h:a∈aaa w n seeds):aai w=true∧aaD n=true∧seeds.length≤12:=by
 unfold aaa at h
 split at h
 assumption
 simp at h
theorem aAo {w:List Pg} {n:List UInt8} {seeds:List (List UInt8)} {a:List UInt8} (h:a∈aaa w n seeds):rOk w n a:=by
 obtain ⟨h1,h2,h3⟩:=acV h
 exact ((afp h1 h2 h3).1 h).2
theorem atG (w:List Pg) (n:List UInt8) (seeds:List (List UInt8)):(aaa w n seeds).Nodup:=by
 unfold aaa
 split
 rename_i h
 rw [apf]
 exact ((akg w n seeds 5000).1.sublist (List.take_sublist ..)).filter _
 exact List.nodup_nil
theorem ayV {w:List Pg} {n:List UInt8} {seeds:List (List UInt8)} {s:List UInt8} (h:s∈seeds) (hn:aaA s=true):s∈akH w n seeds:=by
 obtain ⟨r,hr⟩:=amd w n seeds 0 5000
 unfold akH
 rw [show (5000:Nat)=0+5000 from rfl,hr]
 exact List.mem_append_left _ (ajd.2 ⟨h,hn⟩)
theorem aAj {w:List Pg} {n:List UInt8} {seeds:List (List UInt8)} {a x:List UInt8} (hw:aai w=true) (hs:seeds.length≤12) (h:a∈akH w n seeds) (ho:rOk w n a) (hx:x∈aak w a):x∈akH w n seeds:=by
 unfold akH at h
 obtain ⟨j,hj,e⟩:=List.mem_iff_getElem.1 h
 have hl:=ake (n:=n) hw hs 5000
 obtain ⟨r,hr⟩:=amd w n seeds j (5000 - j)
 rw [show j+(5000 - j)=5000 from by omega] at hr
 have hjl:j < (rN w n seeds j).1.length:=by
  rcases Nat.lt_or_ge j (rN w n seeds j).1.length with c | c
  exact c
  have:=amy (n:=n) (w:=w) (seeds:=seeds) (i:=j) c (5000 - j)
  rw [show j+(5000 - j)=5000 from by omega] at this
  rw [this] at hj; omega
 have hg:(rN w n seeds j).1.getD j []=a:=by
  have e2:(rN w n seeds 5000).1[j]? =some a:=by rw [List.getElem?_eq_getElem hj,e]
  rw [hr,List.getElem?_append_left hjl] at e2
  rw [List.getD_eq_getElem?_getD,e2]; rfl
 obtain ⟨r2,hr2⟩:=amd w n seeds (j+1) (5000 - (j+1))
 rw [show j+1+(5000 - (j+1))=5000 from by omega] at hr2
 unfold akH
 rw [hr2]
 refine List.mem_append_left _ ?_
 show x∈(abW w n (rN w n seeds j) j).1
 unfold abW
 rw [hg,if_pos ho]
 exact (aiU _).2 (.inr hx)
theorem ast {w:List Pg} {n:List UInt8} {seeds:List (List UInt8)} {a x:List UInt8} (h:a∈aaa w n seeds) (hx:x∈aak w a) (ho:rOk w n x):x∈aaa w n seeds:=by
 obtain ⟨h1,h2,h3⟩:=acV h
 have:=(afp h1 h2 h3).1 h
 exact (afp h1 h2 h3).2 ⟨aAj h1 h3 this.1 this.2 hx,ho⟩
theorem anW {w:List Pg} {n:List UInt8} {seeds:List (List UInt8)} {s:List UInt8} (hw:aai w=true) (hn:aaD n=true) (hl:seeds.length≤12) (h:s∈seeds) (ha:aaA s=true):s∈aaa w n seeds↔rOk w n s:=by
 rw [afp hw hn hl]
 exact ⟨fun h=>h.2,fun ho=>⟨ayV h ha,ho⟩⟩
theorem axG (w:List Pg) (n:List UInt8):aaa w n []=[]:=by
 unfold aaa
 split
 have:rN w n [] (0+5000)=rN w n [] 0:=amy (by simp [rN,acp]) 5000
 rw [Nat.zero_add] at this
 rw [this]; rfl
 rfl
def Le (w:List Pg) (seeds R:List (List UInt8)):Prop:= ∀ m,m < R.length→R.getD m []∈seeds∨∃ k,k < m∧R.getD m []∈aak w (R.getD k [])
theorem atz (w:List Pg) (n:List UInt8) (seeds:List (List UInt8)):∀ i,Le w seeds (rN w n seeds i).2∧∀ x,x∈(rN w n seeds i).1→x∈seeds∨∃ a,a∈(rN w n seeds i).2∧x∈aak w a
 | 0=>⟨fun m hm=>by simp [rN] at hm,fun x hx=>.inl (ajd.1 hx).1⟩
 | i+1=>by
   obtain ⟨h1,h2⟩:=atz w n seeds i
   show Le w seeds (abW w n (rN w n seeds i) i).2∧∀ x,x∈(abW w n (rN w n seeds i) i).1→x∈seeds∨∃ a,a∈(abW w n (rN w n seeds i) i).2∧x∈aak w a
   revert h1 h2
   generalize rN w n seeds i=X
   intro h1 h2
   unfold abW
   split
   rename_i ho
   have hin:X.1.getD i []∈X.1:=by
    rcases Nat.lt_or_ge i X.1.length with c | c
    rw [List.getD_eq_getElem?_getD,List.getElem?_eq_getElem c]; exact List.getElem_mem c
    rw [List.getD_eq_getElem?_getD,List.getElem?_eq_none c] at ho
    exact absurd (.inr aku) ho
   refine ⟨fun m hm=>?_,fun x hx=>?_⟩
   simp only [List.length_append,List.length_cons,List.length_nil] at hm
   have hg:∀ k,k < X.2.length→(X.2++[X.1.getD i []]).getD k []=X.2.getD k []:=fun k hk=>by
    simp only [List.getD_eq_getElem?_getD]
    rw [List.getElem?_append_left hk]
   rcases Nat.lt_or_ge m X.2.length with c | c
   rw [hg m c]
   rcases h1 m c with h | ⟨k,hk,h⟩
   exact .inl h
   exact .inr ⟨k,hk,by rw [hg k (by omega)]; exact h⟩
   obtain rfl:m=X.2.length:=by omega
   have hl:(X.2++[X.1.getD i []]).getD X.2.length []=X.1.getD i []:=by simp
   rw [hl]
   rcases h2 _ hin with h | ⟨a,ha,h⟩
   exact .inl h
   obtain ⟨k,hk,e⟩:=List.mem_iff_getElem.1 ha
   refine .inr ⟨k,hk,?_⟩
   rw [hg k hk,List.getD_eq_getElem?_getD,List.getElem?_eq_getElem hk]
   show _∈aak w X.2[k]
   rw [e]; exact h
   rcases (aiU _).1 hx with hx | hx
   rcases h2 x hx with h | ⟨a,ha,h⟩
   exact .inl h
   exact .inr ⟨a,List.mem_append_left _ ha,h⟩
   exact .inr ⟨_,List.mem_append_right _ (by simp),hx⟩
   exact ⟨h1,h2⟩
theorem atI (w:List Pg) (n:List UInt8) (seeds:List (List UInt8)):Le w seeds (aaa w n seeds):=by
 unfold aaa
 split
 exact (atz w n seeds 5000).1
 intro m hm; simp at hm
theorem aaJ {w:List Pg} {n:List UInt8} {seeds:List (List UInt8)}:(aaa w n seeds).length≤3700:=by
 unfold aaa
 split
 rename_i h
 rw [apf]
 refine Nat.le_trans (List.length_filter_le ..) ?_
 rw [List.length_take]
 have:=ake (n:=n) h.1 h.2.2 5000
 omega
 simp
theorem anv {w:List Pg} {n:List UInt8} {seeds:List (List UInt8)} (hw:aai w=true) (hz:∀ i,PgSz (w.getD i pg0)) (hs:∀ x,x∈seeds→x.length≤1000∧Asc x) {a:List UInt8} (h:a∈aaa w n seeds):a.length≤1000000∧Asc a:=by
 have hm:a∈apA w seeds:=by
  obtain ⟨h1,h2,h3⟩:=acV h
  exact (akg w n seeds 5000).2 a ((afp h1 h2 h3).1 h).1
 rcases List.mem_append.1 hm with h | h
 exact ⟨by have:=(hs a h).1; omega,(hs a h).2⟩
 obtain ⟨l,hl,hx⟩:=List.mem_flatten.1 h
 obtain ⟨p,_,rfl⟩:=List.mem_map.1 hl
 exact ⟨aoV (fun i=>⟨by have:=(hz i).t; omega,by have:=(hz i).l; omega⟩) hx,(akT hw hz a hx).2⟩
inductive Rc (w:List Pg) (n:List UInt8) (S:List UInt8→Prop):List UInt8→Prop
 | seed {x:List UInt8}:S x→aaA x=true→rOk w n x→Rc w n S x
 | step {a x:List UInt8}:Rc w n S a→x∈aak w a→rOk w n x→Rc w n S x
theorem age {w:List Pg} {n:List UInt8} {seeds:List (List UInt8)} (hw:aai w=true) (hn:aaD n=true) (hl:seeds.length≤12) (x:List UInt8):x∈aaa w n seeds↔Rc w n (· ∈seeds) x:=by
 constructor
 have key:∀ i,(∀ x,x∈(rN w n seeds i).1→(x∈seeds∧aaA x=true)∨∃ a,Rc w n (· ∈seeds) a∧x∈aak w a):=by
  intro i
  induction i with
  | zero=>exact fun x hx=>.inl (ajd.1 hx)
  | succ i ih=>
    show ∀ x,x∈(abW w n (rN w n seeds i) i).1→_
    revert ih
    generalize rN w n seeds i=X
    intro ih
    unfold abW
    split
    rename_i ho
    intro x hx
    rcases (aiU _).1 hx with hx | hx
    exact ih x hx
    have hin:X.1.getD i []∈X.1:=by
     rcases Nat.lt_or_ge i X.1.length with c | c
     rw [List.getD_eq_getElem?_getD,List.getElem?_eq_getElem c]; exact List.getElem_mem c
     rw [List.getD_eq_getElem?_getD,List.getElem?_eq_none c] at ho
     exact absurd (.inr aku) ho
    refine .inr ⟨_,?_,hx⟩
    rcases ih _ hin with h | ⟨a,ha,h⟩
    exact .seed h.1 h.2 ho
    exact .step ha h ho
    exact ih
 intro h
 have hm:=(afp hw hn hl).1 h
 rcases key 5000 x hm.1 with h | ⟨a,ha,h⟩
 exact .seed h.1 h.2 hm.2
 exact .step ha h hm.2
 intro h
 induction h with
 | seed h1 h2 h3=>exact (anW hw hn hl h1 h2).2 h3
 | step _ h2 h3 ih=>exact ast ih h2 h3
theorem apy {w:List Pg} {n:List UInt8} {S S':List UInt8→Prop} (h:∀ x,S x→S' x) {x:List UInt8} (hx:Rc w n S x):Rc w n S' x:=by
 induction hx with
 | seed h1 h2 h3=>exact .seed (h _ h1) h2 h3
 | step _ h2 h3 ih=>exact .step ih h2 h3
theorem aDx {w:List Pg} {n:List UInt8} {S S':List UInt8→Prop} {x:List UInt8} (hx:Rc w n (fun y=>S y∨S' y) x):Rc w n S x∨Rc w n S' x:=by
 induction hx with
 | seed h1 h2 h3=>exact h1.imp (fun h=>.seed h h2 h3) (fun h=>.seed h h2 h3)
 | step _ h2 h3 ih=>exact ih.imp (fun h=>.step h h2 h3) (fun h=>.step h h2 h3)
end Go.Pd
namespace Go.Proofs.YtencelmnogiamaaGreatDoor
open Go Go.Abs Go.RowKit Go.Pd
set_option maxRecDepth 20000
theorem aBt {l m:List (List UInt8)} (h:l.length=m.length) (e:∀ j,j < l.length→l.getD j []=m.getD j []):l=m:=by
 apply List.ext_getElem h
 intro j h1 h2
 have:=e j h1
 rw [List.getD_eq_getElem?_getD,List.getD_eq_getElem?_getD,List.getElem?_eq_getElem h1,List.getElem?_eq_getElem h2] at this
 exact this
theorem aAQ {l:List (List UInt8)} {i:Nat} (hn:l.Nodup) (hi:i < l.length):(l.take i).contains (l.getD i [])=false:=by
 rw [Bool.eq_false_iff]
 simp only [ne_eq,List.contains_iff_mem]
 intro hm
 obtain ⟨j,hj,e⟩:=List.mem_iff_getElem.1 hm
 rw [List.length_take] at hj
 rw [List.getElem_take,List.getD_eq_getElem?_getD,List.getElem?_eq_getElem hi] at e
 have:=(List.getElem_inj hn).1 (show l[j]=l[i] from e)
 omega
theorem ayv {l m:List (List UInt8)} {i:Nat} (hs:∀ y,y∈l→y∈m) (hi:i < l.length):m.contains (l.getD i [])=true:=by
 rw [List.getD_eq_getElem?_getD,List.getElem?_eq_getElem hi]
 simp only [Option.getD_some,List.contains_iff_mem]
 exact hs _ (List.getElem_mem hi)
def adJ (w:List Pg) (d:List UInt8) (n:Int):Int×List UInt8:=if aai w=true then aal w d n else (0,[])
abbrev aeN (b:List UInt8) (p:Nat) (g:Nat) (w:List Pg) (m:Nat) (e:List (List UInt8)) (q:Nat) (u:Nat) (f:Nat) (k:Nat):Prop:=e.length+m≤3∧(∀ y,y∈e→y.length≤30∧Asc y)∧p≤q∧q+10 * m≤p+40
theorem aua (b:List UInt8) (p g:Nat) (w:List Pg) (hb:b.length≤2000) (hp:p≤700000) (hw:w.length≤30) (hy:∀ y,y∈w→PgSz y):PF Tryz.prog 51 [.ptr (.key 1000) [] g 0,.sl false (w.map pgV)] [(1000,(g,.agg [.sl false (b.map u8V),iN p]))] (fun r h=> ∃ x:List (List UInt8)×Nat,(x.1.length≤4∧(∀ y,y∈x.1→y.length≤30∧Asc y)∧p≤x.2∧x.2≤p+60)∧r=(.sl false (x.1.map sV))∧h=[(1000,(g,.agg [.sl false (b.map u8V),iN x.2]))]):=by
 refine adI (N:=28) (rs:=[.tmp 4]) (X:=List (List UInt8)×Nat) (post:=fun x=>x.1.length≤4∧(∀ y,y∈x.1→y.length≤30∧Asc y)∧p≤x.2∧x.2≤p+60) (E:=fun x=>.sl false (x.1.map sV)) (H':=fun x=>[(1000,(g,.agg [.sl false (b.map u8V),iN x.2]))]) Tryz.func51 (by kernel_rfl) rfl rfl rfl (by kernel_rfl) [(1000,(0,.dead))] (by intro _ k hk; simpa [lk] using hk)
  (.r 1 [] <| .bs <| .r 1 [] <| .r 1 [] <| .cx (aaI b p g 3) [(1000,1000)] (fun (x2_1:Nat)=>.r 2 [] <| .h (.own0 5 1) <| .loop (Nat×(List (List UInt8))×Nat×Nat×Nat×Nat) (fun (m,e,q,u,f,k)=>⟨[(0,.ptr (.key 1000) [] g 0),(1,.sl false (w.map pgV)),(5,.own 1 (e.map sV) u f k),(6,iN m)],[(1000,(g,.agg [.sl false (b.map u8V),iN q]))]⟩) (fun (m,e,q,u,f,k)=>aeN b p g w m e q u f k) (fun (m,e,q,u,f,k)=>m) (fun (m,e,q,u,f,k)=>.r 2 [] <| .br (.r 3 [] <| .cx (aoh b q g w) [(1000,1000)] (fun (x5_3:List UInt8×Nat)=>.bs <| .ap (fun g20 o20 c20=>.h (.eqt 20 (.own 1 ((e++[x5_3.1]).map sV) g20 o20 c20)) <| .r 1 [] <| .r 2 [] <| .h (.eqt 14 (iN (m - 1))) <| .r 1 [] <| .nil))) (.r 1 [] <| .cx (aaI b q g 12) [(1000,1000)] (fun (x6_1:Nat)=>.r 1 [] <| .br (.r 1 [] <| .bs <| .ap (fun g26 o26 c26=>.h (.eqt 26 (.own 1 ((e++[([120]:List UInt8)]).map sV) g26 o26 c26)) <| .r 1 [] <| .h (.fz 4) <| .h (.eqt 4 (.sl false ((e++[([120]:List UInt8)]).map sV))) <| .nil)) (.h (.fz 5) <| .h (.eqt 5 (.sl false (e.map sV))) <| .r 2 [] <| .nil))))))
  ((fun v1:List UInt8=>((aaI b p g 3).sm∧((((g,.agg [.sl false (b.map u8V),iN p])):Nat×V)=(g,.agg [.sl false (b.map u8V),iN p]))∧((b.length≤2000)∧(p≤1000000)∧(3≤1000000))∧∀ x2_1:Nat,(3=0∧x2_1=0∨x2_1 < 3)→I64 (1+(x2_1:Int))∧(∃ x:Nat×(List (List UInt8))×Nat×Nat×Nat×Nat,match x with | (m₀,e₀,q₀,u₀,f₀,k₀)=>(aeN b p g w m₀ e₀ q₀ u₀ f₀ k₀)∧E (.ptr (.key 1000) [] g 0)∧E (.sl false (w.map pgV))∧Q (.own 1 ([].map sV) 0 0 0) (.own 1 (e₀.map sV) u₀ f₀ k₀)∧Q (iN (1+x2_1)) (iN m₀)∧Qr g (.agg [.sl false (b.map u8V),iN (p+1)]) g (.agg [.sl false (b.map u8V),iN q₀])∧True)∧∀ x:Nat×(List (List UInt8))×Nat×Nat×Nat×Nat,match x with | (m,e,q,u,f,k)=>(aeN b p g w m e q u f k)→Br (gtB (m:Int) 0) ((aoh b q g w).sm∧((((g,.agg [.sl false (b.map u8V),iN q])):Nat×V)=(g,.agg [.sl false (b.map u8V),iN q]))∧((b.length≤2000)∧(q≤800000)∧(w.length≤30)∧(∀ y,y∈w→PgSz y))∧∀ x5_3:List UInt8×Nat,(x5_3.1.length≤30∧q≤x5_3.2∧x5_3.2≤q+8∧Asc x5_3.1)→(fun v2:List V=>((1,1,u,f,k,(e.map sV).length)=(1,1,u,f,k,(e.map sV).length))∧(True)∧(V.aat v2=false)∧(aas 1 v2)∧(((e.map sV).length+v2.length) * 16≤140737488355328)∧∀ g20 o20 c20:Nat,((.own 1 ((e.map sV)++v2) g20 o20 c20:V)=.own 1 ((e++[x5_3.1]).map sV) g20 o20 c20)∧I64 ((m:Int) - 1)∧Q (iV ((m:Int) - 1)) (iN (m - 1))∧∃ x:Nat×(List (List UInt8))×Nat×Nat×Nat×Nat,match x with | (m₂,e₂,q₂,u₂,f₂,k₂)=>(aeN b p g w m₂ e₂ q₂ u₂ f₂ k₂)∧(m₂ < m)∧E (.ptr (.key 1000) [] g 0)∧E (.sl false (w.map pgV))∧Q (.own 1 ((e++[x5_3.1]).map sV) g20 o20 c20) (.own 1 (e₂.map sV) u₂ f₂ k₂)∧Q (iN (m - 1)) (iN m₂)∧Qr g (.agg [.sl false (b.map u8V),iN x5_3.2]) g (.agg [.sl false (b.map u8V),iN q₂])∧True) ([sV x5_3.1]:List V)) ((aaI b q g 12).sm∧((((g,.agg [.sl false (b.map u8V),iN q])):Nat×V)=(g,.agg [.sl false (b.map u8V),iN q]))∧((b.length≤2000)∧(q≤1000000)∧(12≤1000000))∧∀ x6_1:Nat,(12=0∧x6_1=0∨x6_1 < 12)→Br (eqB (x6_1:Int) 0) (((1,1,u,f,k,(e.map sV).length)=(1,1,u,f,k,(e.map sV).length))∧(True)∧(V.aat ([sV v1]:List V)=false)∧(aas 1 ([sV v1]:List V))∧(((e.map sV).length+([sV v1]:List V).length) * 16≤140737488355328)∧∀ g26 o26 c26:Nat,((.own 1 ((e.map sV)++([sV v1]:List V)) g26 o26 c26:V)=.own 1 ((e++[v1]).map sV) g26 o26 c26)∧((.sl false (V.erL ((e++[v1]).map sV)):V)=.sl false ((e++[v1]).map sV))∧∃ x:List (List UInt8)×Nat,(x.1.length≤4∧(∀ y,y∈x.1→y.length≤30∧Asc y)∧p≤x.2∧x.2≤p+60)∧Q (.sl false ((e++[v1]).map sV)) (.sl false (x.1.map sV))∧Qr g (.agg [.sl false (b.map u8V),iN (q+1)]) g (.agg [.sl false (b.map u8V),iN x.2])) (((.sl false (V.erL (e.map sV)):V)=.sl false (e.map sV))∧∃ x:List (List UInt8)×Nat,(x.1.length≤4∧(∀ y,y∈x.1→y.length≤30∧Asc y)∧p≤x.2∧x.2≤p+60)∧Q (.sl false (e.map sV)) (.sl false (x.1.map sV))∧Qr g (.agg [.sl false (b.map u8V),iN (q+1)]) g (.agg [.sl false (b.map u8V),iN x.2]))))) ([120]:List UInt8))
  (by kernel_rfl) ?_
 refine ⟨rfl,rfl,⟨by omega,by omega,by omega⟩,?_⟩
 intro x2_1 hx2_1
 refine ⟨by omega,?_⟩
 refine ⟨⟨(1+x2_1,[],p+1,0,0,0),?_,rfl,rfl,rfl,rfl,rfl,trivial⟩,?_⟩
 unfold aeN
 exact ⟨by simp; omega,by simp,by omega,by omega⟩
 rintro ⟨m,e,q,u,f,k⟩ ⟨h1,h2,h3,h4⟩
 refine ⟨fun hb1=>?_,fun hb1=>?_⟩
 try simp only [nb] at hb1
 refine ⟨rfl,rfl,⟨by omega,by omega,by omega,hy⟩,?_⟩
 intro x5_3 hx5_3
 refine ⟨rfl,trivial,rfl,by simp [aas,V.n,V.ns],by simp; omega,?_⟩
 intro g20 o20 c20
 refine ⟨congrArg (V.own 1 · g20 o20 c20) (by simp),by omega,by simp [Q]; omega,?_⟩
 refine ⟨(m - 1,e++[x5_3.1],x5_3.2,g20,o20,c20),?_,?_,rfl,rfl,rfl,rfl,rfl,trivial⟩
 unfold aeN
 exact ⟨by simp; omega,aem h2 ⟨hx5_3.1,hx5_3.2.2.2⟩,by omega,by omega⟩
 first | (solve | simp) | omega | (simp; omega)
 try simp only [nb] at hb1
 refine ⟨rfl,rfl,⟨by omega,by omega,by omega⟩,?_⟩
 intro x6_1 hx6_1
 refine ⟨fun hb2=>?_,fun hb2=>?_⟩
 try simp only [nb] at hb2
 refine ⟨rfl,trivial,rfl,by simp [aas,V.n,V.ns],by simp; omega,?_⟩
 intro g26 o26 c26
 refine ⟨congrArg (V.own 1 · g26 o26 c26) (by simp),congrArg (V.sl false) (aaE (fun _=>rfl) _),?_⟩
 refine ⟨(e++[([120]:List UInt8)],q+1),?_,?_,?_⟩
 try dsimp only
 exact ⟨by simp; omega,aem h2 ⟨by simp,aaN rfl⟩,by omega,by omega⟩
 first | rfl | simp_all
 first | rfl | exact ⟨rfl,rfl⟩ | simp_all
 try simp only [nb] at hb2
 refine ⟨congrArg (V.sl false) (aaE (fun _=>rfl) _),?_⟩
 refine ⟨(e,q+1),?_,?_,?_⟩
 try dsimp only
 exact ⟨by omega,h2,by omega,by omega⟩
 first | rfl | simp_all
 first | rfl | exact ⟨rfl,rfl⟩ | simp_all
def aoQ (b:List UInt8) (p:Nat) (g:Nat) (w:List Pg):ConX Tryz.prog:={ X:=List (List UInt8)×Nat,f:=51,args:=[.ptr (.key 1000) [] g 0,.sl false (w.map pgV)],H:=[(1000,(g,.agg [.sl false (b.map u8V),iN p]))],pre:=(b.length≤2000)∧(p≤700000)∧(w.length≤30)∧(∀ y,y∈w→PgSz y),post:=fun x=>x.1.length≤4∧(∀ y,y∈x.1→y.length≤30∧Asc y)∧p≤x.2∧x.2≤p+60,res:=fun x=>.sl false (x.1.map sV),H':=fun x=>[(1000,(g,.agg [.sl false (b.map u8V),iN x.2]))],ok:=fun h=>aua b p g w h.1 h.2.1 h.2.2.1 h.2.2.2 }
theorem amQ (b:List UInt8) (hb:b.length≤9223372036854775807):PF Tryz.prog 21 [.sl false (b.map u8V)] [] (fun r h=> ∃ x:List Pg×List UInt8×List (List UInt8),(1≤x.1.length∧x.1.length≤30∧(∀ y,y∈x.1→PgSz y)∧x.2.1.length≤5∧aaD x.2.1=true∧x.2.2.length≤4∧(∀ y,y∈x.2.2→y.length≤30∧Asc y))∧r=(.tup [.sl false (x.1.map pgV),sV x.2.1,.sl false (x.2.2.map sV)])∧h=[]):=by
 refine adI (N:=17) (rs:=[.tmp 2,.tmp 3,.tmp 4]) (X:=List Pg×List UInt8×List (List UInt8)) (post:=fun x=>1≤x.1.length∧x.1.length≤30∧(∀ y,y∈x.1→PgSz y)∧x.2.1.length≤5∧aaD x.2.1=true∧x.2.2.length≤4∧(∀ y,y∈x.2.2→y.length≤30∧Asc y)) (E:=fun x=>.tup [.sl false (x.1.map pgV),sV x.2.1,.sl false (x.2.2.map sV)]) (H':=fun x=>[]) Tryz.func21 (by kernel_rfl) rfl rfl rfl (by kernel_rfl) [] (by intro _ k hk; simpa [lk] using hk)
  (.r 3 [] <| .r 1 [] <| .cx (asi b) [(1000,8)] (fun (x1_1:List UInt8×Nat)=>.r 1 [] <| .r 1 [] <| .cx (arN x1_1.1 0 x1_1.2) [(1000,8)] (fun (x2_1:List Pg×Nat)=>.r 1 [] <| .h (.fz 6) <| .h (.eqt 6 (.sl false (x2_1.1.map pgV))) <| .r 2 [] <| .cx (aqA x1_1.1 x2_1.2 x1_1.2) [(1000,8)] (fun (x3_2:List UInt8)=>.r 2 [] <| .cx (aoQ x1_1.1 (x2_1.2+1) x1_1.2 x2_1.1) [(1000,8)] (fun (x3_5:List (List UInt8)×Nat)=>.r 3 [] <| .nil)))))
  ((asi b).sm∧((b.length≤9223372036854775807))∧∀ x1_1:List UInt8×Nat,(x1_1.1.length≤2000)→(arN x1_1.1 0 x1_1.2).sm∧((((x1_1.2,.agg [.sl false (x1_1.1.map u8V),iN 0])):Nat×V)=(x1_1.2,.agg [.sl false (x1_1.1.map u8V),iN 0]))∧((x1_1.1.length≤2000)∧(0≤600000))∧∀ x2_1:List Pg×Nat,(1≤x2_1.1.length∧x2_1.1.length≤30∧(∀ y,y∈x2_1.1→PgSz y)∧0≤x2_1.2∧x2_1.2≤0+1600)→((.sl false (V.erL (x2_1.1.map pgV)):V)=.sl false (x2_1.1.map pgV))∧(aqA x1_1.1 x2_1.2 x1_1.2).sm∧((((x1_1.2,.agg [.sl false (x1_1.1.map u8V),iN x2_1.2])):Nat×V)=(x1_1.2,.agg [.sl false (x1_1.1.map u8V),iN x2_1.2]))∧((x1_1.1.length≤2000)∧(x2_1.2≤900000))∧∀ x3_2:List UInt8,(x3_2.length≤5∧aaD x3_2=true)→(aoQ x1_1.1 (x2_1.2+1) x1_1.2 x2_1.1).sm∧((((x1_1.2,.agg [.sl false (x1_1.1.map u8V),iN (x2_1.2+1)])):Nat×V)=(x1_1.2,.agg [.sl false (x1_1.1.map u8V),iN (x2_1.2+1)]))∧((x1_1.1.length≤2000)∧((x2_1.2+1)≤700000)∧(x2_1.1.length≤30)∧(∀ y,y∈x2_1.1→PgSz y))∧∀ x3_5:List (List UInt8)×Nat,(x3_5.1.length≤4∧(∀ y,y∈x3_5.1→y.length≤30∧Asc y)∧(x2_1.2+1)≤x3_5.2∧x3_5.2≤(x2_1.2+1)+60)→∃ x:List Pg×List UInt8×List (List UInt8),(1≤x.1.length∧x.1.length≤30∧(∀ y,y∈x.1→PgSz y)∧x.2.1.length≤5∧aaD x.2.1=true∧x.2.2.length≤4∧(∀ y,y∈x.2.2→y.length≤30∧Asc y))∧Q (.tup [.sl false (x2_1.1.map pgV),sV x3_2,.sl false (x3_5.1.map sV)]) (.tup [.sl false (x.1.map pgV),sV x.2.1,.sl false (x.2.2.map sV)]))
  (by kernel_rfl) ?_
 refine ⟨rfl,by first | assumption | omega | (simp; omega),?_⟩
 intro x1_1 hx1_1
 refine ⟨rfl,rfl,⟨by first | assumption | omega | (simp; omega),by first | assumption | omega | (simp; omega)⟩,?_⟩
 intro x2_1 hx2_1
 refine ⟨congrArg (V.sl false) (aaE (fun _=>rfl) _),rfl,rfl,⟨by first | assumption | omega | (simp; omega),by first | assumption | omega | (simp; omega)⟩,?_⟩
 intro x3_2 hx3_2
 refine ⟨rfl,rfl,⟨by omega,by omega,by omega,hx2_1.2.2.1⟩,?_⟩
 intro x3_5 hx3_5
 refine ⟨(x2_1.1,x3_2,x3_5.1),?_,?_⟩
 try dsimp only
 exact ⟨by omega,by omega,hx2_1.2.2.1,by omega,hx3_2.2,hx3_5.1,hx3_5.2.1⟩
 first | rfl | simp_all
def aaU (b:List UInt8):ConX Tryz.prog:={ X:=List Pg×List UInt8×List (List UInt8),f:=21,args:=[.sl false (b.map u8V)],H:=[],pre:=(b.length≤9223372036854775807),post:=fun x=>1≤x.1.length∧x.1.length≤30∧(∀ y,y∈x.1→PgSz y)∧x.2.1.length≤5∧aaD x.2.1=true∧x.2.2.length≤4∧(∀ y,y∈x.2.2→y.length≤30∧Asc y),res:=fun x=>.tup [.sl false (x.1.map pgV),sV x.2.1,.sl false (x.2.2.map sV)],H':=fun x=>[],ok:=fun h=>amQ b h }
abbrev afG (l:List (List UInt8)) (m:List (List UInt8)) (i:Nat):Prop:=i≤l.length∧∀ j,j < i→l.getD j []=m.getD j []
theorem awq (l m:List (List UInt8)) (hl:l.length≤1000000) (hm:m.length≤1000000):PF Tryz.prog 22 [.sl false (l.map sV),.sl false (m.map sV)] [] (fun r h=>r=(bV (l==m))∧h=[]):=by
 refine aag (N:=26) (rs:=[.tmp 4]) Tryz.func22 (by kernel_rfl) rfl rfl rfl (by kernel_rfl)
  (.r 1 [] <| .r 5 [] <| .br (.r 1 [] <| .nil) (.r 1 [] <| .loop (Nat) (fun (i:Nat)=>⟨[(0,.sl false (l.map sV)),(1,.sl false (m.map sV)),(5,iN i)],[]⟩) (fun (i:Nat)=>afG l m i) (fun (i:Nat)=>l.length - i) (fun (i:Nat)=>.r 4 [] <| .br (.d 9 <| .r 9 [sV (l.getD i []),sV (m.getD i [])] <| .br (.r 1 [] <| .nil) (.r 3 [] <| .nil)) (.r 1 [] <| .nil))))
  (Br (neB (((l.map sV).length:Nat):Int) (((m.map sV).length:Nat):Int)) (Q (bV false) (bV (l==m))) ((∃ i₀:Nat,(afG l m i₀)∧E (.sl false (l.map sV))∧E (.sl false (m.map sV))∧Q (iN 0) (iN i₀)∧True)∧∀ i:Nat,(afG l m i)→Br (ltB (i:Int) (((l.map sV).length:Nat):Int)) (Ex (i:Int) (l.map sV) (sV (l.getD i []))∧True∧Ex (i:Int) (m.map sV) (sV (m.getD i []))∧True∧Br (!((l.getD i [])==(m.getD i []))) (Q (bV false) (bV (l==m))) (I64 ((i:Int)+1)∧∃ i₂:Nat,(afG l m i₂)∧(l.length - i₂ < l.length - i)∧E (.sl false (l.map sV))∧E (.sl false (m.map sV))∧Q (iN (i+1)) (iN i₂)∧True)) (Q (bV true) (bV (l==m)))))
  (by kernel_rfl) ?_
 refine ⟨fun hb1=>?_,fun hb1=>?_⟩
 try simp only [nb] at hb1
 unfold Q
 refine congrArg bV ?_
 symm; rw [beq_eq_false_iff_ne]; rintro rfl; simp_all
 try simp only [nb] at hb1
 refine ⟨⟨0,?_,rfl,rfl,rfl,trivial⟩,?_⟩
 unfold afG
 simp
 rintro i ⟨h1,h2⟩
 refine ⟨fun hb2=>?_,fun hb2=>?_⟩
 try simp only [nb] at hb2
 refine ⟨⟨by omega,aaf (d:=[]) (by omega)⟩,trivial,⟨by omega,aaf (d:=[]) (by omega)⟩,trivial,?_⟩
 refine ⟨fun hb3=>?_,fun hb3=>?_⟩
 try simp only [nb] at hb3
 unfold Q
 refine congrArg bV ?_
 symm; rw [beq_eq_false_iff_ne]; rintro rfl; simp_all
 try simp only [nb] at hb3
 refine ⟨by omega,?_⟩
 refine ⟨i+1,?_,?_,rfl,rfl,rfl,trivial⟩
 unfold afG
 exact ⟨by omega,abj h2 (by simpa using hb3)⟩
 first | (solve | simp) | omega | (simp; omega)
 try simp only [nb] at hb2
 unfold Q
 refine congrArg bV ?_
 symm; rw [beq_iff_eq]; exact aBt (by omega) (fun j hj=>h2 j (by omega))
def abE (l:List (List UInt8)) (m:List (List UInt8)):Con Tryz.prog:={ f:=22,args:=[.sl false (l.map sV),.sl false (m.map sV)],H:=[],pre:=(l.length≤1000000)∧(m.length≤1000000),res:=bV (l==m),H':=[],ok:=fun h=>awq l m h.1 h.2 }
abbrev ahu (l:List (List UInt8)) (y:List UInt8) (i:Nat):Prop:=i≤l.length∧∀ j,j < i→(l.getD j []==y)=false
theorem azL (l:List (List UInt8)) (y:List UInt8) (hl:l.length≤1000000):PF Tryz.prog 25 [.sl false (l.map sV),sV y] [] (fun r h=>r=(bV (l.contains y))∧h=[]):=by
 refine aag (N:=18) (rs:=[.tmp 4]) Tryz.func25 (by kernel_rfl) rfl rfl rfl (by kernel_rfl)
  (.r 1 [] <| .r 1 [] <| .loop (Nat) (fun (i:Nat)=>⟨[(0,.sl false (l.map sV)),(1,sV y),(5,iN i)],[]⟩) (fun (i:Nat)=>ahu l y i) (fun (i:Nat)=>l.length - i) (fun (i:Nat)=>.r 4 [] <| .br (.r 6 [sV (l.getD i [])] <| .br (.r 1 [] <| .nil) (.r 3 [] <| .nil)) (.r 1 [] <| .nil)))
  ((∃ i₀:Nat,(ahu l y i₀)∧E (.sl false (l.map sV))∧E (sV y)∧Q (iN 0) (iN i₀)∧True)∧∀ i:Nat,(ahu l y i)→Br (ltB (i:Int) (((l.map sV).length:Nat):Int)) (Ex (i:Int) (l.map sV) (sV (l.getD i []))∧True∧Br ((l.getD i [])==y) (Q (bV true) (bV (l.contains y))) (I64 ((i:Int)+1)∧∃ i₂:Nat,(ahu l y i₂)∧(l.length - i₂ < l.length - i)∧E (.sl false (l.map sV))∧E (sV y)∧Q (iN (i+1)) (iN i₂)∧True)) (Q (bV false) (bV (l.contains y))))
  (by kernel_rfl) ?_
 refine ⟨⟨0,?_,rfl,rfl,rfl,trivial⟩,?_⟩
 unfold ahu
 simp
 rintro i ⟨h1,h2⟩
 refine ⟨fun hb1=>?_,fun hb1=>?_⟩
 try simp only [nb] at hb1
 refine ⟨⟨by omega,aaf (d:=[]) (by omega)⟩,trivial,?_⟩
 refine ⟨fun hb2=>?_,fun hb2=>?_⟩
 try simp only [nb] at hb2
 unfold Q
 rw [ayq (i:=i) (by omega) hb2]
 try simp only [nb] at hb2
 refine ⟨by omega,?_⟩
 refine ⟨i+1,?_,?_,rfl,rfl,rfl,trivial⟩
 unfold ahu
 exact ⟨by omega,abj h2 (by simpa using hb2)⟩
 first | (solve | simp) | omega | (simp; omega)
 try simp only [nb] at hb1
 unfold Q
 rw [aof (fun j hj=>by have:=h2 j (by omega); simpa using this)]
def adi (l:List (List UInt8)) (y:List UInt8):Con Tryz.prog:={ f:=25,args:=[.sl false (l.map sV),sV y],H:=[],pre:=(l.length≤1000000),res:=bV (l.contains y),H':=[],ok:=fun h=>azL l y h }
theorem axd (l:List (List UInt8)) (hl:l.length≤1000000) (hn:l.Nodup):PF Tryz.prog 32 [.sl false (l.map sV)] [] (fun r h=>r=(bV true)∧h=[]):=by
 refine aag (N:=18) (rs:=[.tmp 2]) Tryz.func32 (by kernel_rfl) rfl rfl rfl (by kernel_rfl)
  (.r 1 [] <| .r 1 [] <| .loop (Nat) (fun (i:Nat)=>⟨[(0,.sl false (l.map sV)),(3,iN i)],[]⟩) (fun (i:Nat)=>i≤l.length) (fun (i:Nat)=>l.length - i) (fun (i:Nat)=>.r 4 [] <| .br (.dx 7 [0,1,2,3,4,5,6] [(6,⟨false,[],some [],[16],[]⟩)] [] <| .r 1 [] <| .r 1 [] <| .r 1 [] <| .h (.eqt 12 (.sl false ((l.take i).map sV))) <| .r 1 [] <| .r 1 [] <| .r 1 [sV (l.getD i [])] <| .r 1 [] <| .c (adi (l.take i) (l.getD i [])) [] <| .br (.r 1 [] <| .nil) (.r 3 [] <| .nil)) (.r 1 [] <| .nil)))
  ((∃ i₀:Nat,(i₀≤l.length)∧E (.sl false (l.map sV))∧Q (iN 0) (iN i₀)∧True)∧∀ i:Nat,(i≤l.length)→Br (ltB (i:Int) (((l.map sV).length:Nat):Int)) (((0:Int)≤(0:Int)∧(0:Int)≤(i:Int)∧(i:Int)≤(l.map sV).length∧∀ x∈(l.map sV),x.n=1)∧Q (.sl false (((l.map sV).take i).drop ((0:Int).toNat))) (.sl false ((l.take i).map sV))∧Ex (i:Int) (l.map sV) (sV (l.getD i []))∧True∧(adi (l.take i) (l.getD i [])).sm∧(((l.take i).length≤1000000))∧Br ((l.take i).contains (l.getD i [])) (Q (bV false) (bV true)) (I64 ((i:Int)+1)∧∃ i₂:Nat,(i₂≤l.length)∧(l.length - i₂ < l.length - i)∧E (.sl false (l.map sV))∧Q (iN (i+1)) (iN i₂)∧True)) (Q (bV true) (bV true)))
  (by kernel_rfl) ?_
 refine ⟨⟨0,?_,rfl,rfl,trivial⟩,?_⟩
 simp
 rintro i h1
 refine ⟨fun hb1=>?_,fun hb1=>?_⟩
 try simp only [nb] at hb1
 refine ⟨⟨by simp <;> omega,by simp <;> omega,by simp <;> omega,all_map (fun _=>rfl)⟩,by unfold Q; refine congrArg (V.sl false) ?_; rw [List.map_take]; simp,⟨by omega,aaf (d:=[]) (by omega)⟩,trivial,rfl,by simp only [List.length_take]; omega,?_⟩
 refine ⟨fun hb2=>?_,fun hb2=>?_⟩
 try simp only [nb] at hb2
 exact absurd hb2 (by rw [aAQ hn (by omega)]; decide)
 try simp only [nb] at hb2
 refine ⟨by omega,?_⟩
 refine ⟨i+1,?_,?_,rfl,rfl,trivial⟩
 omega
 first | (solve | simp) | omega | (simp; omega)
 try simp only [nb] at hb1
 unfold Q
 rfl
def ath (l:List (List UInt8)):Con Tryz.prog:={ f:=32,args:=[.sl false (l.map sV)],H:=[],pre:=(l.length≤1000000)∧(l.Nodup),res:=bV true,H':=[],ok:=fun h=>axd l h.1 h.2 }
theorem atV (l m:List (List UInt8)) (hl:l.length≤1000000) (hm:m.length≤1000000) (hs:∀ y,y∈l→y∈m):PF Tryz.prog 28 [.sl false (l.map sV),.sl false (m.map sV)] [] (fun r h=>r=(bV true)∧h=[]):=by
 refine aag (N:=19) (rs:=[.tmp 4]) Tryz.func28 (by kernel_rfl) rfl rfl rfl (by kernel_rfl)
  (.r 1 [] <| .r 1 [] <| .loop (Nat) (fun (i:Nat)=>⟨[(0,.sl false (l.map sV)),(1,.sl false (m.map sV)),(5,iN i)],[]⟩) (fun (i:Nat)=>i≤l.length) (fun (i:Nat)=>l.length - i) (fun (i:Nat)=>.r 4 [] <| .br (.r 5 [sV (l.getD i [])] <| .c (adi m (l.getD i [])) [] <| .r 1 [] <| .br (.r 1 [] <| .nil) (.r 3 [] <| .nil)) (.r 1 [] <| .nil)))
  ((∃ i₀:Nat,(i₀≤l.length)∧E (.sl false (l.map sV))∧E (.sl false (m.map sV))∧Q (iN 0) (iN i₀)∧True)∧∀ i:Nat,(i≤l.length)→Br (ltB (i:Int) (((l.map sV).length:Nat):Int)) (Ex (i:Int) (l.map sV) (sV (l.getD i []))∧True∧(adi m (l.getD i [])).sm∧((m.length≤1000000))∧Br (!(m.contains (l.getD i []))) (Q (bV false) (bV true)) (I64 ((i:Int)+1)∧∃ i₂:Nat,(i₂≤l.length)∧(l.length - i₂ < l.length - i)∧E (.sl false (l.map sV))∧E (.sl false (m.map sV))∧Q (iN (i+1)) (iN i₂)∧True)) (Q (bV true) (bV true)))
  (by kernel_rfl) ?_
 refine ⟨⟨0,?_,rfl,rfl,rfl,trivial⟩,?_⟩
 simp
 rintro i h1
 refine ⟨fun hb1=>?_,fun hb1=>?_⟩
 try simp only [nb] at hb1
 refine ⟨⟨by omega,aaf (d:=[]) (by omega)⟩,trivial,rfl,by first | assumption | omega | (simp; omega),?_⟩
 refine ⟨fun hb2=>?_,fun hb2=>?_⟩
 try simp only [nb] at hb2
 exact absurd hb2 (by rw [ayv hs (by omega)]; decide)
 try simp only [nb] at hb2
 refine ⟨by omega,?_⟩
 refine ⟨i+1,?_,?_,rfl,rfl,rfl,trivial⟩
 omega
 first | (solve | simp) | omega | (simp; omega)
 try simp only [nb] at hb1
 unfold Q
 rfl
def afL (l:List (List UInt8)) (m:List (List UInt8)):Con Tryz.prog:={ f:=28,args:=[.sl false (l.map sV),.sl false (m.map sV)],H:=[],pre:=(l.length≤1000000)∧(m.length≤1000000)∧(∀ y,y∈l→y∈m),res:=bV true,H':=[],ok:=fun h=>atV l m h.1 h.2.1 h.2.2 }
abbrev aeA (w:List Pg) (d:List UInt8) (n:Int):V:=.tup [iV ((adJ w d n).1),sV ((adJ w d n).2)]
theorem atW (w:List Pg) (d:List UInt8) (n:Int) (hw:w.length≤30) (hz:∀ i,PgSz (w.getD i pg0)) (hn:0≤n) (hn2:n≤1000):PF Tryz.prog 29 [.sl false (w.map pgV),sV d,iV n] [] (fun r h=>r=(aeA w d n)∧h=[]):=by
 refine aag (N:=23) (rs:=[.tmp 6,.tmp 7]) Tryz.func29 (by kernel_rfl) rfl rfl rfl (by kernel_rfl)
  (.r 2 [] <| .r 1 [] <| .sp (aai w) (.c (aeu w) [] <| .r 5 [] <| .r 2 [] <| .br (.r 2 [] <| .nil) (.r 3 [] <| .c (arq w d n) [] <| .r 4 [] <| .nil)) (.c (adX w) [] <| .r 5 [] <| .r 2 [] <| .br (.r 2 [] <| .nil) (.nil)))
  (((aai w)=true→(aeu w).sm∧((w.length≤30)∧(∀ i,PgSz (w.getD i pg0))∧(aai w=true))∧Br (!true) (Q (.tup [iN 0,sV []]) (aeA w d n)) ((arq w d n).sm∧((0≤n)∧(n≤1000))∧Q (.tup [iV ((aal w d n).1),sV ((aal w d n).2)]) (aeA w d n)))∧((aai w)=false→(adX w).sm∧((w.length≤30)∧(∀ i,PgSz (w.getD i pg0))∧(aai w=false))∧Br (!false) (Q (.tup [iN 0,sV []]) (aeA w d n)) (False)))
  (by kernel_rfl) ?_
 refine ⟨fun hs1_1=>?_,fun hs1_1=>?_⟩
 · have hq1_1:=hs1_1
   try simp only [nb] at hq1_1
   refine ⟨rfl,⟨hw,hz,hs1_1⟩,?_⟩
   refine ⟨fun hb1=>?_,fun hb1=>?_⟩
   · try simp only [nb] at hb1
     all_goals (first | exact absurd hb1 (by decide) | simp_all)
   try simp only [nb] at hb1
   refine ⟨rfl,⟨by first | assumption | omega | (simp; omega),by first | assumption | omega | (simp; omega)⟩,?_⟩
   unfold Q aeA
   rw [show adJ w d n=aal w d n from if_pos hs1_1]
 · have hq1_1:=hs1_1
   try simp only [nb] at hq1_1
   refine ⟨rfl,⟨hw,hz,hs1_1⟩,?_⟩
   refine ⟨fun hb2=>?_,fun hb2=>?_⟩
   try simp only [nb] at hb2
   unfold Q aeA
   rw [show adJ w d n=(0,[]) from if_neg (by rw [hs1_1]; decide)]
   rfl
   · try simp only [nb] at hb2
     all_goals (first | exact absurd hb2 (by decide) | simp_all)
def afs (w:List Pg) (d:List UInt8) (n:Int):Con Tryz.prog:={ f:=29,args:=[.sl false (w.map pgV),sV d,iV n],H:=[],pre:=(w.length≤30)∧(∀ i,PgSz (w.getD i pg0))∧(0≤n)∧(n≤1000),res:=aeA w d n,H':=[],ok:=fun h=>atW w d n h.1 h.2.1 h.2.2.1 h.2.2.2 }
theorem ard (w:List Pg) (d:List UInt8) (hw:w.length≤30) (hz:∀ i,PgSz (w.getD i pg0)) (hd:d.length≤1000000) (hc:Asc d):PF Tryz.prog 27 [.sl false (w.map pgV),sV d] [] (fun r h=>r=(.sl false ((aak w d).map sV))∧h=[]):=by
 refine aag (N:=17) (rs:=[.tmp 4]) Tryz.func27 (by kernel_rfl) rfl rfl rfl (by kernel_rfl)
  (.r 1 [] <| .r 1 [] <| .sp (aai w) (.c (aeu w) [] <| .r 5 [] <| .r 2 [] <| .br (.r 1 [] <| .nil) (.r 2 [] <| .c (aoA w d) [] <| .r 1 [] <| .nil)) (.c (adX w) [] <| .r 5 [] <| .r 2 [] <| .br (.r 1 [] <| .nil) (.nil)))
  ((fun v1:V=>(((aai w)=true→(aeu w).sm∧((w.length≤30)∧(∀ i,PgSz (w.getD i pg0))∧(aai w=true))∧Br (!true) (Q (.sl false []) v1) ((aoA w d).sm∧((d.length≤1000000)∧(Asc d)∧((aal w d 2).2.length≤1000000)∧(Asc (aal w d 2).2))∧Q (.sl false ((acZ w d).map sV)) v1))∧((aai w)=false→(adX w).sm∧((w.length≤30)∧(∀ i,PgSz (w.getD i pg0))∧(aai w=false))∧Br (!false) (Q (.sl false []) v1) (False)))) (.sl false ((aak w d).map sV)))
  (by kernel_rfl) ?_
 refine ⟨fun hs1_1=>?_,fun hs1_1=>?_⟩
 · have hq1_1:=hs1_1
   try simp only [nb] at hq1_1
   refine ⟨rfl,⟨hw,hz,hs1_1⟩,?_⟩
   refine ⟨fun hb1=>?_,fun hb1=>?_⟩
   · try simp only [nb] at hb1
     all_goals (first | exact absurd hb1 (by decide) | simp_all)
   try simp only [nb] at hb1
   refine ⟨rfl,⟨hd,hc,by have:=afo (w:=w) (a:=d) (k:=2) (m:=300) (fun i=>⟨(hz i).t,by have:=(hz i).l; omega⟩); omega,auZ hz⟩,?_⟩
   unfold Q
   rw [← ajS hs1_1]
 · have hq1_1:=hs1_1
   try simp only [nb] at hq1_1
   refine ⟨rfl,⟨hw,hz,hs1_1⟩,?_⟩
   refine ⟨fun hb2=>?_,fun hb2=>?_⟩
   try simp only [nb] at hb2
   unfold Q
   rw [show aak w d=[] from if_neg (fun c=>by rw [hs1_1] at c; exact absurd c.1 (by decide))]
   rfl
   · try simp only [nb] at hb2
     all_goals (first | exact absurd hb2 (by decide) | simp_all)
def agP (w:List Pg) (d:List UInt8):Con Tryz.prog:={ f:=27,args:=[.sl false (w.map pgV),sV d],H:=[],pre:=(w.length≤30)∧(∀ i,PgSz (w.getD i pg0))∧(d.length≤1000000)∧(Asc d),res:=.sl false ((aak w d).map sV),H':=[],ok:=fun h=>ard w d h.1 h.2.1 h.2.2.1 h.2.2.2 }
end Go.Proofs.YtencelmnogiamaaGreatDoor
namespace Go.Abs
open Go Go.ChangeShapes Go.RowKit
theorem afr {H:Type} {enc:TypeId×Value→H} {P:Program} {t e:TypeId} (ht:P.underlying t=some (.slice e)) (he:P.underlying e=some (.int .u8)) (hc:P.cellsOf e=1) {W:World} {a0:Option Addr} {len cap:Nat} {d0:DataW H} {p:List MemPlace}
 (h0:DataW.Trod enc P W 0 (fun _=>true) true t (.slice a0 len cap) d0 p):∃ b:List UInt8,b.length=len∧len≤9223372036854775807∧RVs W (· < W.heap.size) [.sl false (b.map u8V)] [.slice a0 len cap] []:=by
 have mk:∀ (b:List UInt8),b.length=len→len≤cap→(b=[]∨∃ g o,a0=some ⟨g,o,none⟩∧g < W.heap.size∧∀ j u,(b.map fun c=>Value.int .u8 c.toNat)[j]? =some u→W.cell? ⟨g,o+j,none⟩=some u)→RVs W (· < W.heap.size) [.sl false (b.map u8V)] [.slice a0 len cap] []:=by
  intro b hb hl hx
  refine ⟨_,[],[],[],rfl,rfl,?_,rfl,rfl⟩
  refine ⟨rfl,a0,cap,by rw [List.length_map,hb],by rw [List.length_map,hb]; exact hl,(fun h=>by cases h),?_⟩
  rcases hx with rfl | ⟨g,o,rfl,hg,hcell⟩
  exact .inl rfl
  refine .inr ⟨g,o,1,b.map (fun c=>Value.int .u8 c.toNat),rfl,hg,by omega,?_,?_,hcell⟩
  intro x hx
  obtain ⟨c,_,rfl⟩:=List.mem_map.1 hx
  rfl
  clear hcell hb
  induction b with
  | nil=>exact ⟨rfl,rfl⟩
  | cons c r ih=>exact ⟨[.int .u8 c.toNat],r.map (fun c=>Value.int .u8 c.toNat),[],[],rfl,rfl,⟨rfl,rfl,rfl⟩,ih⟩
 obtain ⟨fuel,hf⟩:=h0
 rcases open_ints ht he hc hf with ⟨hcs,hx⟩ | ⟨a,len',cap',zs,hcs,_,hl,hm,hz,hx,hcell,hwz⟩
 simp [Value.cells] at hcs
 obtain ⟨rfl,rfl,rfl⟩:=hcs
 exact ⟨[],rfl,by omega,mk [] rfl (Nat.le_refl _) (.inl rfl)⟩
 simp [Value.cells] at hcs
 obtain ⟨rfl,rfl,rfl⟩:=hcs
 simp only [if_true] at hz
 have hmax:maxLen=9223372036854775807:=rfl
 have hb:((zs.take len).map fun z=>UInt8.ofNat z.toNat).length=len:=by simp; omega
 refine ⟨(zs.take len).map fun z=>UInt8.ofNat z.toNat,hb,by omega,mk _ hb hl ?_⟩
 by_cases h0:len=0
 left; exact List.eq_nil_of_length_eq_zero (by omega)
 right
 obtain ⟨g,o,s⟩:=a
 have hc0:=hcell 0 (by omega)
 obtain rfl:s=none:=by simpa [Addr.add] using World.cell?_spot hc0
 refine ⟨g,o,rfl,by have:=World.block_lt_of_cell? _ _ hc0; simpa [Addr.add] using this,fun j u hu=>?_⟩
 rw [List.getElem?_map,List.getElem?_map,List.getElem?_take] at hu
 split at hu
 rename_i hj
 have hjz:j < zs.length:=by omega
 rw [List.getElem?_eq_getElem hjz] at hu
 simp only [Option.map_some,Option.some.injEq] at hu
 have hw:=hwz zs[j] (List.getElem_mem hjz)
 have hbd:0≤zs[j]∧zs[j] < 256:=by
  have h1:IntKind.u8.min=0:=rfl
  have h2:IntKind.u8.max=255:=rfl
  simp only [Lit.wf,Bool.and_eq_true,decide_eq_true_eq] at hw
  omega
 have hcj:=hcell j hjz
 have ea:(⟨g,o,none⟩:Addr).add j=⟨g,o+j,none⟩:=by unfold Addr.add; by_cases h0:j=0 <;> simp [h0]
 rw [ea] at hcj
 rw [hcj,← hu]
 simp only [List.getD_eq_getElem?_getD,List.getElem?_eq_getElem hjz,Option.getD_some,Option.some.injEq,Value.int.injEq,true_and]
 rw [UInt8.toNat_ofNat_of_lt' (by show zs[j].toNat < 256; omega)]
 omega
 simp at hu
theorem ajj {P:Program} {f:FuncId} (h:∀ b:List UInt8,b.length≤9223372036854775807→PF P f [.sl false (b.map u8V)] [] (fun r h=>r=bV true∧h=[])) {W:World} {v:Value} {b:List UInt8} (hb:b.length≤9223372036854775807) (hv:RVs W (· < W.heap.size) [.sl false (b.map u8V)] [v] []):
 Calls P f #[v] W fun e W'=>e=.returned (.bool true)∧Below W.heap.size W W':=by
 refine ((h b hb).anG.2 W (· < W.heap.size) [v] (fun _ h=>h) hv).mono ?_
 rintro e W' ⟨r,x,F,Pb',rfl,⟨_,rfl,_⟩,hr,_,_,_,_,hB⟩
 obtain ⟨_,e1,_⟩:=hr
 simp only [List.cons.injEq,and_true] at e1
 exact ⟨by rw [e1],hB⟩
theorem aon {P:Program} {f:FuncId} (h:∀ b c:List UInt8,b.length≤9223372036854775807→c.length≤9223372036854775807→PF P f [.sl false (b.map u8V),.sl false (c.map u8V)] [] (fun r h=>r=bV true∧h=[])) {W:World} {v u:Value} {b c:List UInt8} (hb:b.length≤9223372036854775807) (hc:c.length≤9223372036854775807)
 (hv:RVs W (· < W.heap.size) [.sl false (b.map u8V)] [v] []) (hu:RVs W (· < W.heap.size) [.sl false (c.map u8V)] [u] []):
 Calls P f #[v,u] W fun e W'=>e=.returned (.bool true)∧Below W.heap.size W W':=by
 refine ((h b c hb hc).anG.2 W (· < W.heap.size) [v,u] (fun _ h=>h) ?_).mono ?_
 obtain ⟨x,xs,Fa,Fb,e1,e2,h1,h2⟩:=(amq _).1 hv
 simp only [List.cons.injEq] at e1
 obtain ⟨rfl,rfl⟩:=e1
 have e3:Fa=[]:=(List.append_eq_nil_iff.1 e2.symm).1
 subst e3
 exact (amq _).2 ⟨v,[u],[],[],rfl,rfl,h1,hu⟩
 rintro e W' ⟨r,x,F,Pb',rfl,⟨_,rfl,_⟩,hr,_,_,_,_,hB⟩
 obtain ⟨_,e1,_⟩:=hr
 simp only [List.cons.injEq,and_true] at e1
 exact ⟨by rw [e1],hB⟩
end Go.Abs
