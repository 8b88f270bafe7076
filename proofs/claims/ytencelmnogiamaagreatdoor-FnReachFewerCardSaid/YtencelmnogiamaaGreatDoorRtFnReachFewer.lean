/-
  laws.FnReachFewer returns true for every input and leaves it as it was; conditions: the listed tables lie as the program's text lays them.
-/
import Derived.Test.YtencelmnogiamaaGreatDoorRtF
import Derived.Test.YtencelmnogiamaaGreatDoorTie
import Derived.Test.YtencelmnogiamaaGreatDoorCards
set_option linter.unusedVariables false
set_option linter.unusedSimpArgs false
namespace Go.Pd
open Go.Abs
def aeK (w:List Pg) (k:Nat):List Pg:=w.take k++w.drop (k+1)
theorem auU:∀ (w:List Pg) (k:Nat) {a:List UInt8},k < w.length→(w.getD k pg0).addr≠a→atL (aeK w k) a=atL w a
 | p :: r,0,a,_,h=>by
   show atL r a=atL (p :: r) a
   rw [atL,if_neg (show ¬ p.addr=a from h)]
 | p :: r,k+1,a,hk,h=>by
   show atL (p :: aeK r k) a=atL (p :: r) a
   rw [atL,atL,auU r k (by simpa using hk) h]
theorem arJ:∀ (w:List Pg) (k:Nat),k < w.length→(∀ j,j < k→(w.getD j pg0).addr≠(w.getD k pg0).addr)→atL w (w.getD k pg0).addr=(w.getD k pg0,true)
 | p :: r,0,_,_=>by
   show atL (p :: r) p.addr=(p,true)
   rw [atL,if_pos rfl]
 | p :: r,k+1,hk,h=>by
   show atL (p :: r) (r.getD k pg0).addr=(r.getD k pg0,true)
   rw [atL,if_neg (show ¬ p.addr=(r.getD k pg0).addr from h 0 (by omega))]
   exact arJ r k (by simpa using hk) (fun j hj=>h (j+1) (by omega))
theorem akG {w:List Pg} {k:Nat} (hk:k < w.length) (i:Nat):(aeK w k).getD i pg0=if i < k then w.getD i pg0 else w.getD (i+1) pg0:=by
 unfold aeK
 simp only [List.getD_eq_getElem?_getD]
 split
 rename_i h
 rw [List.getElem?_append_left (by rw [List.length_take]; omega),List.getElem?_take_of_lt h]
 rename_i h
 rw [List.getElem?_append_right (by rw [List.length_take]; omega),List.length_take,List.getElem?_drop,show k+1+(i - min k w.length)=i+1 from by omega]
theorem atq {w:List Pg} {k:Nat} (hk:k < w.length):(aeK w k).length+1=w.length:=by
 unfold aeK; simp only [List.length_append,List.length_take,List.length_drop]; omega
theorem aoi {w:List Pg}:aai w=true↔(∀ i,i < w.length→acy (w.getD i pg0)=true∧∀ k,k < i→(w.getD k pg0).addr≠(w.getD i pg0).addr)∧w.length≤12:=by
 unfold aai; simp only [Bool.and_eq_true,decide_eq_true_eq]
theorem aCG {w:List Pg} {k:Nat} (hk:k < w.length) (h:aai w=true):aai (aeK w k)=true:=by
 obtain ⟨h1,h2⟩:=aoi.1 h
 have hl:=atq hk
 refine aoi.2 ⟨fun i hi=>?_,by omega⟩
 rw [akG hk]
 split
 rename_i c
 refine ⟨(h1 i (by omega)).1,fun j hj=>?_⟩
 rw [akG hk,if_pos (by omega)]
 exact (h1 i (by omega)).2 j hj
 rename_i c
 refine ⟨(h1 (i+1) (by omega)).1,fun j hj=>?_⟩
 rw [akG hk]
 split
 exact (h1 (i+1) (by omega)).2 j (by omega)
 exact (h1 (i+1) (by omega)).2 (j+1) (by omega)
theorem axq:∀ {h h' p p':List UInt8},(∀ c,c∈h→c≠47)→(∀ c,c∈h'→c≠47)→h++47 :: p=h'++47 :: p'→p=p'
 | [],[],_,_,_,_,e=>by simpa using e
 | [],c :: h',_,_,_,k,e=>absurd (List.cons.inj e).1.symm (k c (by simp))
 | c :: h,[],_,_,k,_,e=>absurd (List.cons.inj e).1 (k c (by simp))
 | c :: h,c' :: h',_,_,k,k',e=>axq (fun x hx=>k x (by simp [hx])) (fun x hx=>k' x (by simp [hx])) (List.cons.inj e).2
theorem arX {h:List UInt8} (hh:abB h=true):∀ c,c∈h→c≠47:=by
 unfold abB at hh
 rw [Bool.and_eq_true] at hh
 have h1:=hh.1
 unfold adg at h1
 rw [List.all_eq_true] at h1
 rintro c hc rfl
 exact absurd (h1 _ hc) (by decide)
theorem asV {s:List UInt8} (h:aaA s=true):aap (oA (aaj s))=true∧abx (oA (aaj s))=s:=by
 unfold aaA at h
 rw [Bool.and_eq_true,beq_iff_eq] at h
 have hk:=akU h.1
 have h2:=h.2
 unfold aaz at h2
 rw [if_pos hk] at h2
 exact ⟨hk,h2⟩
theorem ayX {a:Adr} (h:aap a=true):abB a.house=true:=by
 unfold aap at h; simp only [Bool.and_eq_true] at h; exact h.1.1.1.1.1
theorem aBa (a:Adr):∃ q,aaK a=47 :: q:=⟨_,by unfold aaK; simp only [List.append_assoc]; rfl⟩
theorem aye {s h:List UInt8} (hs:aaA s=true) (hh:abB h=true) (e:s=aav h):aaK (oA (aaj s))=[47,110,111,116,105,99,101]:=by
 obtain ⟨h1,h2⟩:=asV hs
 obtain ⟨q,hq⟩:=aBa (oA (aaj s))
 rw [hq]
 have h2:=h2.trans e
 unfold abx aav at h2
 rw [hq] at h2
 have h3:(oA (aaj s)).house++47 :: q=h++47 :: [110,111,116,105,99,101]:=by simpa using h2
 rw [axq (arX (ayX h1)) (arX hh) h3]
theorem axg {w:List Pg} {n:List UInt8} {seeds:List (List UInt8)} {k:Nat} (hw:aai w=true) (hk:k < w.length) (hr: ¬ (w.getD k pg0).addr∈aaa w n seeds) (hf:(w.getD k pg0).fails < 3)
 (hp: ¬ aaK (oA (aaj (w.getD k pg0).addr))=[47,110,111,116,105,99,101]):aaa (aeK w k) n seeds=aaa w n seeds:=by
 have hfo:=aCG hk hw
 obtain ⟨h1,h2⟩:=aoi.1 hw
 have hadr:aaA (w.getD k pg0).addr=true:=by
  have:=(h1 k hk).1
  unfold acy at this; simp only [Bool.and_eq_true] at this; exact this.1.1.1
 have hget:∀ a t,(w.getD k pg0).addr≠a→aal (aeK w k) a t=aal w a t:=fun a t h=>by unfold aal; rw [auU w k hk h]
 have hlets:∀ p,aaB (aeK w k) n p=aaB w n p:=fun p=>by
  have hno:∀ d,abh (aeK w k) d n=abh w d n:=fun d=>by
   unfold abh
   rw [hw,hfo]
   by_cases hh:abB d=true
   rw [hget _ _ (fun c=>hp (aye hadr hh c))]
   rw [if_neg (fun c=>hh c.2.1),if_neg (fun c=>hh c.2.1)]
  unfold aaB
  rw [hno,hw,hfo]
 by_cases hn:aaD n=true∧seeds.length≤12
 have key:∀ i,rN (aeK w k) n seeds i=rN w n seeds i:=by
  intro i
  induction i with
  | zero=>rfl
  | succ i ih=>
    show abW (aeK w k) n (rN (aeK w k) n seeds i) i=abW w n (rN w n seeds i) i
    rw [ih]
    unfold abW
    by_cases e:(w.getD k pg0).addr=(rN w n seeds i).1.getD i []
    have hno: ¬ rOk w n ((rN w n seeds i).1.getD i []):=fun ho=>by
     have hi:i < (rN w n seeds i).1.length:=by
      rcases Nat.lt_or_ge i (rN w n seeds i).1.length with c | c
      exact c
      rw [List.getD_eq_getElem?_getD,List.getElem?_eq_none c] at ho
      exact absurd (.inr aku) ho
     refine hr ((afp hw hn.1 hn.2).2 ⟨?_,e ▸ ho⟩)
     rw [e]
     obtain ⟨r,hr⟩:=amd w n seeds i (5000 - i)
     by_cases hi5:i≤5000
     rw [show i+(5000 - i)=5000 from by omega] at hr
     unfold akH
     rw [hr]
     refine List.mem_append_left _ ?_
     rw [List.getD_eq_getElem?_getD,List.getElem?_eq_getElem hi]; exact List.getElem_mem hi
     have:=ake (n:=n) hw hn.2 i
     omega
    have hno2: ¬ rOk (aeK w k) n ((rN w n seeds i).1.getD i []):=by
     unfold rOk at hno ⊢
     rw [hlets]
     simp only [Classical.not_not] at hno ⊢
     rcases hno with c | c
     rw [← e] at c
     unfold aal at c
     rw [arJ w k hk (h1 k hk).2] at c
     simp only [Bool.true_eq_false,if_false] at c
     rw [if_neg (by omega)] at c
     split at c <;> cases c
     exact .inr c
    rw [if_neg hno,if_neg hno2]
    have hro:rOk (aeK w k) n ((rN w n seeds i).1.getD i [])↔rOk w n ((rN w n seeds i).1.getD i []):=by
     unfold rOk; rw [hlets,hget _ _ e]
    have hfr:aak (aeK w k) ((rN w n seeds i).1.getD i [])=aak w ((rN w n seeds i).1.getD i []):=by
     unfold aak; rw [hw,hfo,hget _ _ e]
    by_cases ho:rOk w n ((rN w n seeds i).1.getD i [])
    rw [if_pos ho,if_pos (hro.2 ho),hfr]
    rw [if_neg ho,if_neg (fun c=>ho (hro.1 c))]
 unfold aaa
 rw [key,hw,hfo]
 unfold aaa
 rw [if_neg (fun c=>hn c.2),if_neg (fun c=>hn c.2)]
end Go.Pd
namespace Go.Proofs.YtencelmnogiamaaGreatDoor
open Go Go.Abs Go.RowKit Go.Pd
set_option maxRecDepth 20000
theorem aCC {w:List Pg} {k:Nat} (hw:aai w=true) (hk:k < w.length):aaA (w.getD k pg0).addr=true:=by
 have:=((aoi.1 hw).1 k hk).1
 unfold acy at this; simp only [Bool.and_eq_true] at this; exact this.1.1.1
theorem aCm {w:List Pg} {k:Nat} (hk:k < w.length) (h:∀ i,PgSz (w.getD i pg0)) (i:Nat):PgSz ((aeK w k).getD i pg0):=by
 rw [akG hk]; split <;> exact h _
theorem aoz (b c:List UInt8) (hb:b.length≤9223372036854775807) (hc:c.length≤9223372036854775807):PF Tryz.prog 4 [.sl false (b.map u8V),.sl false (c.map u8V)] [] (fun r h=>r=(bV true)∧h=[]):=by
 refine aag (N:=104) (rs:=[.tmp 4]) Tryz.func4 (by kernel_rfl) rfl rfl rfl (by kernel_rfl)
  (.r 1 [] <| .r 8 [] <| .br (.r 1 [] <| .nil) (.r 1 [] <| .cx (aaU b) [] (fun (x3_1:List Pg×List UInt8×List (List UInt8))=>.r 7 [] <| .r 3 [] <| .c (aaP x3_1.1 x3_1.2.1 x3_1.2.2) [] <| .r 1 [] <| .r 4 [] <| .c (abl x3_1.1 x3_1.2.1 x3_1.2.2) [] <| .c (abE (aaa x3_1.1 x3_1.2.1 x3_1.2.2) (aaa x3_1.1 x3_1.2.1 x3_1.2.2)) [] <| .r 3 [] <| .cg (acJ x3_1.1) <| .r 7 [] <| .br (.r 4 [] <| .c (abl x3_1.1 x3_1.2.1 x3_1.2.2) [] <| .c (abE (aaa x3_1.1 x3_1.2.1 x3_1.2.2) (aaa x3_1.1 x3_1.2.1 x3_1.2.2)) [] <| .r 1 [] <| .nil) (.r 6 [] <| .h (.eqt 58 (iN (c.length % x3_1.1.length))) <| .h (.eqt 9 (iN (c.length % x3_1.1.length))) <| .r 5 [.agg [sV ((x3_1.1.getD (c.length % x3_1.1.length) pg0).addr),sV ((x3_1.1.getD (c.length % x3_1.1.length) pg0).text),sV ((x3_1.1.getD (c.length % x3_1.1.length) pg0).lead),iV ((x3_1.1.getD (c.length % x3_1.1.length) pg0).fails)]] <| .c (ady ((x3_1.1.getD (c.length % x3_1.1.length) pg0).addr)) [] <| .r 3 [] <| .al abv (fun g10=>.st none <| .r 1 [] <| .r 6 [.agg [sV ((x3_1.1.getD (c.length % x3_1.1.length) pg0).addr),sV ((x3_1.1.getD (c.length % x3_1.1.length) pg0).text),sV ((x3_1.1.getD (c.length % x3_1.1.length) pg0).lead),iV ((x3_1.1.getD (c.length % x3_1.1.length) pg0).fails)]] <| .c (adi (aaa x3_1.1 x3_1.2.1 x3_1.2.2) ((x3_1.1.getD (c.length % x3_1.1.length) pg0).addr)) [] <| .r 10 [.agg [sV ((x3_1.1.getD (c.length % x3_1.1.length) pg0).addr),sV ((x3_1.1.getD (c.length % x3_1.1.length) pg0).text),sV ((x3_1.1.getD (c.length % x3_1.1.length) pg0).lead),iV ((x3_1.1.getD (c.length % x3_1.1.length) pg0).fails)],.dead] <| .cg (aiv (oA (aaj ((x3_1.1.getD (c.length % x3_1.1.length) pg0).addr)))) <| .r 2 [] <| .br (.r 1 [] <| .nil) (.dx 9 [0,1,2,3,5,6,7,8,4] [(4,⟨true,[],none,[92],[]⟩)] [] <| .bs <| .r 1 [] <| .r 1 [] <| .r 1 [] <| .h (.eqt 91 (.sl false ((x3_1.1.take (c.length % x3_1.1.length)).map pgV))) <| .r 1 [] <| .r 1 [] <| .r 1 [] <| .r 1 [] <| .h (.eqt 96 (.sl false ((x3_1.1.drop ((c.length % x3_1.1.length)+1)).map pgV))) <| .ux none (fun g92 o92 c92=>.h (.eqt 92 (.own 4 ((x3_1.1.take (c.length % x3_1.1.length)).map pgV) g92 o92 c92)) <| .ap (fun g97 o97 c97=>.h (.eqt 97 (.own 4 (((x3_1.1.take (c.length % x3_1.1.length))++(x3_1.1.drop ((c.length % x3_1.1.length)+1))).map pgV) g97 o97 c97)) <| .r 1 [] <| .h (.fz 12) <| .h (.eqt 12 (.sl false (((x3_1.1.take (c.length % x3_1.1.length))++(x3_1.1.drop ((c.length % x3_1.1.length)+1))).map pgV))) <| .r 3 [] <| .c (aaP ((x3_1.1.take (c.length % x3_1.1.length))++(x3_1.1.drop ((c.length % x3_1.1.length)+1))) x3_1.2.1 x3_1.2.2) [] <| .r 1 [] <| .c (abE (aaa ((x3_1.1.take (c.length % x3_1.1.length))++(x3_1.1.drop ((c.length % x3_1.1.length)+1))) x3_1.2.1 x3_1.2.2) (aaa x3_1.1 x3_1.2.1 x3_1.2.2)) [] <| .r 1 [] <| .nil))))))))
  ((fun v1:Bool=>(Pk v1 true (v1==false)∧Br (v1||(gtB (((c.map u8V).length:Nat):Int) 1048576)) (Q (bV true) (bV true)) ((aaU b).sm∧((b.length≤9223372036854775807))∧∀ x3_1:List Pg×List UInt8×List (List UInt8),(1≤x3_1.1.length∧x3_1.1.length≤30∧(∀ y,y∈x3_1.1→PgSz y)∧x3_1.2.1.length≤5∧aaD x3_1.2.1=true∧x3_1.2.2.length≤4∧(∀ y,y∈x3_1.2.2→y.length≤30∧Asc y))→(fun v2:V=>(fun v3:Bool=>(fun v7:Bool=>(fun v4:Bool=>(fun v5:Bool=>(fun v6:Int=>(fun v8:V=>(aaP x3_1.1 x3_1.2.1 x3_1.2.2).sm∧((x3_1.1.length≤30)∧(∀ i,PgSz (x3_1.1.getD i pg0))∧(x3_1.2.1.length≤1000000)∧(∀ x,x∈x3_1.2.2→x.length≤1000∧Asc x)∧(x3_1.2.2.length≤1000000))∧(abl x3_1.1 x3_1.2.1 x3_1.2.2).sm∧((x3_1.1.length≤1000)∧(∀ i,(x3_1.1.getD i pg0).addr.length≤1000000∧(x3_1.1.getD i pg0).text.length≤1000000∧(x3_1.1.getD i pg0).lead.length≤1000000)∧(x3_1.2.1.length≤1000000)∧(∀ x,x∈x3_1.2.2→x.length≤1000000)∧(x3_1.2.2.length≤1000000))∧(abE (aaa x3_1.1 x3_1.2.1 x3_1.2.2) (aaa x3_1.1 x3_1.2.1 x3_1.2.2)).sm∧(((aaa x3_1.1 x3_1.2.1 x3_1.2.2).length≤1000000)∧((aaa x3_1.1 x3_1.2.1 x3_1.2.2).length≤1000000))∧Gd (v3==false) (((x3_1.1.length≤1000)∧(∀ i,(x3_1.1.getD i pg0).addr.length≤1000000∧(x3_1.1.getD i pg0).lead.length≤1000000))∧(acJ x3_1.1).sm)∧Pk v3 true (v3==false)∧Pk (v3||(!(aai x3_1.1))) true ((v3||(!(aai x3_1.1)))==false)∧Br ((v3||(!(aai x3_1.1)))||(eqB (((x3_1.1.map pgV).length:Nat):Int) 0)) ((abl x3_1.1 x3_1.2.1 x3_1.2.2).sm∧((x3_1.1.length≤1000)∧(∀ i,(x3_1.1.getD i pg0).addr.length≤1000000∧(x3_1.1.getD i pg0).text.length≤1000000∧(x3_1.1.getD i pg0).lead.length≤1000000)∧(x3_1.2.1.length≤1000000)∧(∀ x,x∈x3_1.2.2→x.length≤1000000)∧(x3_1.2.2.length≤1000000))∧(abE (aaa x3_1.1 x3_1.2.1 x3_1.2.2) (aaa x3_1.1 x3_1.2.1 x3_1.2.2)).sm∧(((aaa x3_1.1 x3_1.2.1 x3_1.2.2).length≤1000000)∧((aaa x3_1.1 x3_1.2.1 x3_1.2.2).length≤1000000))∧Q (bV ((aaa x3_1.1 x3_1.2.1 x3_1.2.2)==(aaa x3_1.1 x3_1.2.1 x3_1.2.2))) (bV true)) (((0:Int)≤(((c.map u8V).length:Nat):Int)∧(0:Int) < (((x3_1.1.map pgV).length:Nat):Int))∧(v8=iN (c.length % x3_1.1.length))∧(v8=iN (c.length % x3_1.1.length))∧Ex v6 (x3_1.1.map pgV) v2∧True∧(ady ((x3_1.1.getD (c.length % x3_1.1.length) pg0).addr)).sm∧((((x3_1.1.getD (c.length % x3_1.1.length) pg0).addr).length≤1000000)∧(Asc ((x3_1.1.getD (c.length % x3_1.1.length) pg0).addr)))∧∀ g10:Nat,Z g10 0∧Ex v6 (x3_1.1.map pgV) v2∧True∧(adi (aaa x3_1.1 x3_1.2.1 x3_1.2.2) ((x3_1.1.getD (c.length % x3_1.1.length) pg0).addr)).sm∧(((aaa x3_1.1 x3_1.2.1 x3_1.2.2).length≤1000000))∧Gd v5 (Ex v6 (x3_1.1.map pgV) v2)∧Gd v5 True∧Pk ((aaa x3_1.1 x3_1.2.1 x3_1.2.2).contains ((x3_1.1.getD (c.length % x3_1.1.length) pg0).addr)) true v5∧Gd v4 (Z g10 0)∧Gd v4 (((aaR (oA (aaj ((x3_1.1.getD (c.length % x3_1.1.length) pg0).addr)))))∧(aiv (oA (aaj ((x3_1.1.getD (c.length % x3_1.1.length) pg0).addr)))).sm)∧Pk (((aaa x3_1.1 x3_1.2.1 x3_1.2.2).contains ((x3_1.1.getD (c.length % x3_1.1.length) pg0).addr))||v7) true v4∧Br ((((aaa x3_1.1 x3_1.2.1 x3_1.2.2).contains ((x3_1.1.getD (c.length % x3_1.1.length) pg0).addr))||v7)||((if aap (oA (aaj ((x3_1.1.getD (c.length % x3_1.1.length) pg0).addr)))=true then aaK (oA (aaj ((x3_1.1.getD (c.length % x3_1.1.length) pg0).addr))) else [])==([47,110,111,116,105,99,101]:List UInt8))) (Q (bV true) (bV true)) (((0:Int)≤(0:Int)∧(0:Int)≤v6∧v6≤(x3_1.1.map pgV).length∧∀ x∈(x3_1.1.map pgV),x.n=4)∧Q (.sl false (((x3_1.1.map pgV).take (c.length % x3_1.1.length)).drop ((0:Int).toNat))) (.sl false ((x3_1.1.take (c.length % x3_1.1.length)).map pgV))∧I64 (v6+1)∧((0:Int)≤(((c.length % x3_1.1.length)+1:Nat):Int)∧(((c.length % x3_1.1.length)+1:Nat):Int)≤((x3_1.1.map pgV).length:Int)∧((x3_1.1.map pgV).length:Int)≤(x3_1.1.map pgV).length∧∀ x∈(x3_1.1.map pgV),x.n=4)∧Q (.sl false (((x3_1.1.map pgV).take ((x3_1.1.map pgV).length)).drop ((c.length % x3_1.1.length)+1))) (.sl false ((x3_1.1.drop ((c.length % x3_1.1.length)+1)).map pgV))∧((True)∧(V.aat ((x3_1.1.take (c.length % x3_1.1.length)).map pgV)=false)∧(aas 4 ((x3_1.1.take (c.length % x3_1.1.length)).map pgV))∧((([]:List V).length+((x3_1.1.take (c.length % x3_1.1.length)).map pgV).length) * 56≤140737488355328))∧∀ g92 o92 c92:Nat,((.own 4 (([]:List V)++((x3_1.1.take (c.length % x3_1.1.length)).map pgV)) g92 o92 c92:V)=.own 4 ((x3_1.1.take (c.length % x3_1.1.length)).map pgV) g92 o92 c92)∧(4=4)∧(True)∧(V.aat ((x3_1.1.drop ((c.length % x3_1.1.length)+1)).map pgV)=false)∧(aas 4 ((x3_1.1.drop ((c.length % x3_1.1.length)+1)).map pgV))∧((((x3_1.1.take (c.length % x3_1.1.length)).map pgV).length+((x3_1.1.drop ((c.length % x3_1.1.length)+1)).map pgV).length) * 56≤140737488355328)∧∀ g97 o97 c97:Nat,((.own 4 (((x3_1.1.take (c.length % x3_1.1.length)).map pgV)++((x3_1.1.drop ((c.length % x3_1.1.length)+1)).map pgV)) g97 o97 c97:V)=.own 4 (((x3_1.1.take (c.length % x3_1.1.length))++(x3_1.1.drop ((c.length % x3_1.1.length)+1))).map pgV) g97 o97 c97)∧((.sl false (V.erL (((x3_1.1.take (c.length % x3_1.1.length))++(x3_1.1.drop ((c.length % x3_1.1.length)+1))).map pgV)):V)=.sl false (((x3_1.1.take (c.length % x3_1.1.length))++(x3_1.1.drop ((c.length % x3_1.1.length)+1))).map pgV))∧(aaP ((x3_1.1.take (c.length % x3_1.1.length))++(x3_1.1.drop ((c.length % x3_1.1.length)+1))) x3_1.2.1 x3_1.2.2).sm∧((((x3_1.1.take (c.length % x3_1.1.length))++(x3_1.1.drop ((c.length % x3_1.1.length)+1))).length≤30)∧(∀ i,PgSz (((x3_1.1.take (c.length % x3_1.1.length))++(x3_1.1.drop ((c.length % x3_1.1.length)+1))).getD i pg0))∧(x3_1.2.1.length≤1000000)∧(∀ x,x∈x3_1.2.2→x.length≤1000∧Asc x)∧(x3_1.2.2.length≤1000000))∧(abE (aaa ((x3_1.1.take (c.length % x3_1.1.length))++(x3_1.1.drop ((c.length % x3_1.1.length)+1))) x3_1.2.1 x3_1.2.2) (aaa x3_1.1 x3_1.2.1 x3_1.2.2)).sm∧(((aaa ((x3_1.1.take (c.length % x3_1.1.length))++(x3_1.1.drop ((c.length % x3_1.1.length)+1))) x3_1.2.1 x3_1.2.2).length≤1000000)∧((aaa x3_1.1 x3_1.2.1 x3_1.2.2).length≤1000000))∧Q (bV ((aaa ((x3_1.1.take (c.length % x3_1.1.length))++(x3_1.1.drop ((c.length % x3_1.1.length)+1))) x3_1.2.1 x3_1.2.2)==(aaa x3_1.1 x3_1.2.1 x3_1.2.2))) (bV true)))) (iN (((c.map u8V).length) % ((x3_1.1.map pgV).length)):V)) (((c.length % x3_1.1.length):Nat):Int)) (((aaa x3_1.1 x3_1.2.1 x3_1.2.2).contains ((x3_1.1.getD (c.length % x3_1.1.length) pg0).addr))==false)) ((((aaa x3_1.1 x3_1.2.1 x3_1.2.2).contains ((x3_1.1.getD (c.length % x3_1.1.length) pg0).addr))||v7)==false)) (geB ((x3_1.1.getD (c.length % x3_1.1.length) pg0).fails) 3)) (!((aaa x3_1.1 x3_1.2.1 x3_1.2.2)==(aaa x3_1.1 x3_1.2.1 x3_1.2.2)))) (.agg [sV ((x3_1.1.getD (c.length % x3_1.1.length) pg0).addr),sV ((x3_1.1.getD (c.length % x3_1.1.length) pg0).text),sV ((x3_1.1.getD (c.length % x3_1.1.length) pg0).lead),iV ((x3_1.1.getD (c.length % x3_1.1.length) pg0).fails)])))) (gtB (((b.map u8V).length:Nat):Int) 1048576))
  (by kernel_rfl) ?_
 refine ⟨⟨fun _=>rfl,fun h=>by first | (solve | rw [h]) | (rw [h]; rfl)⟩,?_⟩
 refine ⟨fun hb1=>?_,fun hb1=>?_⟩
 try simp only [nb] at hb1
 unfold Q
 rfl
 try simp only [nb] at hb1
 refine ⟨rfl,by omega,?_⟩
 intro x3_1 hx3_1
 refine ⟨rfl,⟨by omega,fun i=>abX hx3_1.2.2.1 i,by omega,fun x hx=>⟨by have:=(hx3_1.2.2.2.2.2.2 x hx).1; omega,(hx3_1.2.2.2.2.2.2 x hx).2⟩,by omega⟩,rfl,⟨by omega,fun i=>by have:=abX hx3_1.2.2.1 i; exact ⟨by have:=this.a; omega,by have:=this.t; omega,by have:=this.l; omega⟩,by omega,fun x hx=>by have:=(hx3_1.2.2.2.2.2.2 x hx).1; omega,by omega⟩,rfl,⟨by have:= @aaJ x3_1.1 x3_1.2.1 x3_1.2.2; omega,by have:= @aaJ x3_1.1 x3_1.2.1 x3_1.2.2; omega⟩,fun hG=>⟨⟨by (try simp only [nb] at hG); omega,fun i=>by have:=abX hx3_1.2.2.1 i; exact ⟨by have:=this.a; omega,by have:=this.l; omega⟩⟩,rfl⟩,⟨fun _=>rfl,fun h=>by first | (solve | rw [h]) | (rw [h]; rfl)⟩,⟨fun _=>rfl,fun h=>by first | (solve | rw [h]) | (rw [h]; rfl)⟩,?_⟩
 refine ⟨fun hb2=>?_,fun hb2=>?_⟩
 try simp only [nb] at hb2
 refine ⟨rfl,⟨by omega,fun i=>by have:=abX hx3_1.2.2.1 i; exact ⟨by have:=this.a; omega,by have:=this.t; omega,by have:=this.l; omega⟩,by omega,fun x hx=>by have:=(hx3_1.2.2.2.2.2.2 x hx).1; omega,by omega⟩,rfl,⟨by have:= @aaJ x3_1.1 x3_1.2.1 x3_1.2.2; omega,by have:= @aaJ x3_1.1 x3_1.2.1 x3_1.2.2; omega⟩,?_⟩
 unfold Q
 simp
 try simp only [nb] at hb2
 have hkl:(c.length % x3_1.1.length) < x3_1.1.length:=Nat.mod_lt _ (by omega)
 have hpk:=(fun i=>abX hx3_1.2.2.1 i) (c.length % x3_1.1.length)
 have hfl:=atq hkl
 refine ⟨by (try simp only [List.length_map] at *); omega,(congrArg iV (by first | rfl | exact (Int.natCast_emod _ _).symm | simp)),(congrArg iV (by first | rfl | exact (Int.natCast_emod _ _).symm | simp)),⟨by omega,aaf (d:=pg0) (by omega)⟩,trivial,rfl,⟨by have:=hpk.a; omega,hpk.aa⟩,?_⟩
 intro g10
 refine ⟨rfl,⟨by omega,aaf (d:=pg0) (by omega)⟩,trivial,rfl,by have:= @aaJ x3_1.1 x3_1.2.1 x3_1.2.2; omega,fun hG=>⟨by omega,aaf (d:=pg0) (by omega)⟩,fun hG=>trivial,⟨fun _=>rfl,fun h=>by first | (solve | rw [h]) | (rw [h]; rfl)⟩,fun hG=>rfl,fun hG=>⟨by (try simp only [nb] at hG); exact ahZ _,rfl⟩,⟨fun _=>rfl,fun h=>by first | (solve | rw [h]) | (rw [h]; rfl)⟩,?_⟩
 refine ⟨fun hb3=>?_,fun hb3=>?_⟩
 try simp only [nb] at hb3
 unfold Q
 rfl
 try simp only [nb] at hb3
 refine ⟨⟨by simp <;> omega,by simp <;> omega,by simp <;> omega,all_map (fun _=>rfl)⟩,by unfold Q; refine congrArg (V.sl false) ?_; rw [List.map_take]; simp,by omega,⟨by simp <;> omega,by simp <;> omega,by simp <;> omega,all_map (fun _=>rfl)⟩,by unfold Q; refine congrArg (V.sl false) ?_; rw [List.take_length,List.map_drop],⟨trivial,(abC (f:=pgV) (fun _=>rfl) _),(acs (f:=pgV) (fun _=>rfl) _),by simp; omega⟩,?_⟩
 intro g92 o92 c92
 refine ⟨congrArg (V.own 4 · g92 o92 c92) (List.nil_append _),rfl,trivial,(abC (f:=pgV) (fun _=>rfl) _),(acs (f:=pgV) (fun _=>rfl) _),by simp; omega,?_⟩
 intro g97 o97 c97
 refine ⟨congrArg (V.own 4 · g97 o97 c97) ((List.map_append ..).symm),congrArg (V.sl false) (aaE (fun _=>rfl) _),rfl,⟨by unfold aeK at hfl; omega,aCm hkl (fun i=>abX hx3_1.2.2.1 i),by omega,fun x hx=>⟨by have:=(hx3_1.2.2.2.2.2.2 x hx).1; omega,(hx3_1.2.2.2.2.2.2 x hx).2⟩,by omega⟩,rfl,⟨by have:= @aaJ (x3_1.1.take (c.length % x3_1.1.length)++x3_1.1.drop ((c.length % x3_1.1.length)+1)) x3_1.2.1 x3_1.2.2; omega,by have:= @aaJ x3_1.1 x3_1.2.1 x3_1.2.2; omega⟩,?_⟩
 unfold Q
 have hak:=asV (aCC hb2.1.2 hkl)
 have hb32:=hb3.2
 rw [if_pos hak.1] at hb32
 rw [show aaa (x3_1.1.take (c.length % x3_1.1.length)++x3_1.1.drop ((c.length % x3_1.1.length)+1)) x3_1.2.1 x3_1.2.2=aaa x3_1.1 x3_1.2.1 x3_1.2.2 from axg hb2.1.2 hkl (by simpa using hb3.1.1) (by omega) hb32]
 simp
end Go.Proofs.YtencelmnogiamaaGreatDoor
namespace Go.Proofs.YtencelmnogiamaaGreatDoor
open Go Go.ChangeShapes Go.WideShapes Go.ChangeAt Go.RowKit Go.Abs
theorem own:ownKnob Tryz.prog.godebug=none:=by kernel_rfl
theorem laidOut:laidOutB Tryz.prog=true:=by kernel_rfl
set_option maxRecDepth 100000 in
theorem fnReachFewer_lifted (os:Os) (started:os.Started) (H:Type) (enc:TypeId×Value→H):
 ReturnsInHanded {} Tryz.checked os 4 .any (fun w args=>(Rows.fnReachFewerSpec.pre enc Tryz.prog Tryz.f4 [] false w args∧laidMetH Tryz.prog Rows.fnReachFewerRow.laid w)∧sizedMet enc Tryz.prog Tryz.f4 (OpenSpec.ofChange Rows.fnReachFewerSpec) false w args)
  (Rows.fnReachFewerSpec.post enc Tryz.prog Tryz.f4 false true false false):=by
 refine returnsInHanded_of_change_and (C:=Tryz.checked) (X:=fun w _=>laidMetH Tryz.prog Rows.fnReachFewerRow.laid w) (fun _ _ _ hh h=>h.of_heap hh) own started (by kernel_rfl) Tryz.func4
  (ChangeSpec.witness_shaped (enc:=enc) (C:=Tryz.checked) (os:=os) (X:=fun w _=>laidMetH Tryz.prog Rows.fnReachFewerRow.laid w) false (World.laidAll Tryz.prog os Rows.fnReachFewerRow.laid) #[.slice none 0 0,.slice none 0 0] 8 (World.laidAll_os _ _ _)
   (World.shaped_of_ZipB (by kernel_rfl) (by kernel_rfl)) (by kernel_rfl) (by kernel_rfl) (by kernel_rfl)
   (by rw [MakeChecks.laidMetH_plain _ _ _ (by kernel_rfl)]; exact laidMet_laidAll _ (by kernel_rfl) (by kernel_rfl))) ?_
 intro W base args ds gs before hval0 hW _ _ _ _
 have hval:∀ (j:Nat) t v,Tryz.f4.params[j]? =some t→args[j]? =some v→Value.okWide Tryz.prog W .any base t v:=hval0
 have hW':=hW
 obtain ⟨p,q,hA0,hV,rfl,hfz,hnd⟩:=hW
 have hA:DataW.TrodAll enc Tryz.prog W 0 (fun _=>true) true Tryz.f4.params.toList args.toList ds p:=hA0
 rw [Tryz.params4] at hA hval
 obtain ⟨v0,v1,d0,d1,p0,p1,rfl,rfl,rfl,h0,h1⟩:=trodAll_two hA
 obtain ⟨rfl,rfl⟩:=trodVars_none hV
 obtain ⟨a0,len0,cap0,rfl⟩:=okWide_slice Tryz.underlying34 (hval 0 34 v0 rfl rfl)
 obtain ⟨a1,len1,cap1,rfl⟩:=okWide_slice Tryz.underlying34 (hval 1 34 v1 rfl rfl)
 have lt0:∀ x∈p0,x.block < W.heap.size:=by obtain ⟨m,hm⟩:=h0; exact DataW.trod_lt m _ _ _ hm
 have lt1:∀ x∈p1,x.block < W.heap.size:=by obtain ⟨m,hm⟩:=h1; exact DataW.trod_lt m _ _ _ hm
 obtain ⟨b,rfl,hb,hv⟩:=afr Tryz.underlying34 Tryz.underlying5 (by kernel_rfl) h0
 obtain ⟨c,rfl,hc,hu⟩:=afr Tryz.underlying34 Tryz.underlying5 (by kernel_rfl) h1
 clear hA0 hval0
 refine (aon aoz hb hc hv hu).mono fun e W' ⟨he,bel⟩=>?_
 subst he
 exact ⟨_,rfl,_,_,_,[],p0++p1,[],hW',trodAll_mk1 (shut_bool Tryz.underlying4 _),trodAll_mk2 (Below.trod laidOut (by kernel_rfl) (of_decide_eq_true (by kernel_rfl)) h0 bel lt0) (Below.trod laidOut (by kernel_rfl) (of_decide_eq_true (by kernel_rfl)) h1 bel lt1),rfl,bel.frame _,fun h=>by cases h⟩
theorem fnReachFewer_row:Rows.FnReachFewerSaid:=
 OpenClaim.holds_of_wide 4 Tryz.f4 rfl rfl rfl rfl rfl rfl rfl ⟨rfl,rfl,rfl,rfl,rfl⟩ rfl rfl rfl rfl rfl (by kernel_rfl) Tryz.func4 (by kernel_rfl)
  (of_decide_eq_true (by kernel_rfl)) (by unfold Func.isWrapper; first | (rw [if_pos (by decide +kernel)]; kernel_rfl) | (rw [if_neg (by decide +kernel)]; exact ⟨rfl,rfl⟩))
  (fun os started H enc _=>fnReachFewer_lifted os started H enc)
theorem fnReachFewer_holds:Rows.FnReachFewerCardSaid:=
 Claim7.holds_tied_plain_at .later [] [.data,.pinned] true (true, "4a974c8493bd74bb2fbd3ad2fdecf81a6a6d593d7ff1e24642cadbe5817ecccf") true fnReachFewer_row (fun _ h=>by cases h) (by kernel_rfl) (fun _ h=>by cases h) fnReachFewer_row_tie rfl ⟨rfl,rfl⟩ (by kernel_rfl) rfl
  (fun f fn hf hfn=>by
   obtain rfl:f=4:=Option.some.inj ((show Tryz.prog.funcNamed "loop.example/pedlar/laws.FnReachFewer" =some 4 by kernel_rfl).symm.trans hf) |>.symm
   obtain rfl:fn=Tryz.f4:=(Option.some.inj (Tryz.func4.symm.trans hfn)).symm
   exact ⟨by kernel_rfl,fun j t ht=>by
    rw [Tryz.params4] at ht
    have hm:t∈[34,34]:=by simpa using Array.mem_of_getElem? ht
    have hall:([34,34].all fun u=>!Tryz.prog.wantsStandIn u)=true:=by kernel_rfl
    exact (show Tryz.prog.wantsStandIn t=false by simpa using List.all_eq_true.1 hall t hm)⟩)
  (by kernel_rfl)
end Go.Proofs.YtencelmnogiamaaGreatDoor
