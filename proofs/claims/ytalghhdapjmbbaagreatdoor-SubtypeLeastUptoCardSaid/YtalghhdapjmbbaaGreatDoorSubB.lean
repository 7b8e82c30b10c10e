/- Chapter 8: the laws of joins. -/
import Derived.Test.YtalghhdapjmbbaaGreatDoorSubA
import Derived.Test.YtalghhdapjmbbaaGreatDoorEncC
set_option linter.all false
namespace Go.Ai
open Go Go.Proofs
set_option maxRecDepth 100000
set_option maxHeartbeats 1000000
theorem joinT_self (d:Nat) (t:Ty):joinT (d+1) t t=(t,0):=by simp [joinT]
theorem joinT_err:∀ (d:Nat) (s t:Ty),(joinT d s t).2=0∨(joinT d s t).2=18
  | 0,_,_=>.inl rfl
  | d + 1,s,t=>by
    have ih:=joinT_err d (s.elem.getD 0 default) (t.elem.getD 0 default)
    simp only [joinT]
    split
    · exact .inl rfl
    split
    · exact .inr rfl
    split
    · exact .inl rfl
    split
    · split
      · exact .inl rfl
      split
      · exact .inl rfl
      split
      · exact ih
      · exact .inl rfl
    · exact .inl rfl
theorem joinT_swap:∀ (d:Nat) (s t:Ty),(joinT d s t).2=(joinT d t s).2
  | 0,_,_=>rfl
  | d + 1,s,t=>by
    have ih:=joinT_swap d (s.elem.getD 0 default) (t.elem.getD 0 default)
    simp only [joinT]
    by_cases c1:s=t
    · rw [if_pos c1,if_pos c1.symm]
    rw [if_neg c1,if_neg (show ¬ t=s from fun q=>c1 q.symm)]
    by_cases c2:s.kind≠t.kind∨s.kind=9∨s.kind=10∨s.scale≠t.scale
    · rw [if_pos c2,if_pos (show t.kind≠s.kind∨t.kind=9∨t.kind=10∨t.scale≠s.scale by omega)]
    rw [if_neg c2,if_neg (show ¬ (t.kind≠s.kind∨t.kind=9∨t.kind=10∨t.scale≠s.scale) by omega)]
    by_cases c4:s.kind=4
    · rw [if_pos c4,if_pos (show t.kind=4 by omega)]
    rw [if_neg c4,if_neg (show ¬ t.kind=4 by omega)]
    by_cases c8:s.kind=8
    · rw [if_pos c8,if_pos (show t.kind=8 by omega)]
      by_cases m1:s.max=0
      · rw [if_pos m1]
        by_cases m2:t.max=0
        · rw [if_pos m2]
        · rw [if_neg m2,if_pos m1]
      rw [if_neg m1]
      by_cases m2:t.max=0
      · rw [if_pos m2,if_pos m2]
      rw [if_neg m2,if_neg m2,if_neg m1]
      by_cases m3:(joinT d (s.elem.getD 0 default) (t.elem.getD 0 default)).2≠0
      · rw [if_pos m3,if_pos (show (joinT d (t.elem.getD 0 default) (s.elem.getD 0 default)).2≠0 by rw [← ih];exact m3)]
        exact ih
      · rw [if_neg m3,if_neg (show ¬ (joinT d (t.elem.getD 0 default) (s.elem.getD 0 default)).2≠0 by rw [← ih];exact m3)]
    · rw [if_neg c8,if_neg (show ¬ t.kind=8 by omega)]
theorem bndB_up {s t:Ty} {l:List Ty}:bndB s (bndJ s t l)=true∧bndB t (bndJ s t l)=true:=by
  have e2:(bndJ s t l).min=Min.min s.min t.min:=rfl
  have e3:(bndJ s t l).max=Max.max s.max t.max:=rfl
  simp only [bndB,e2,e3,decide_eq_true_eq];omega
theorem bndB_least {s t u:Ty} {l:List Ty} (h1:bndB s u=true) (h2:bndB t u=true):bndB (bndJ s t l) u=true:=by
  have e2:(bndJ s t l).min=Min.min s.min t.min:=rfl
  have e3:(bndJ s t l).max=Max.max s.max t.max:=rfl
  simp only [bndB,e2,e3,decide_eq_true_eq] at h1 h2 ⊢;omega
theorem textJ_kind (s t:Ty):(textJ s t).kind=4:=by unfold textJ;split<;>rfl
theorem ownT_lim {t:Ty} (h:ownT t=0) (hk:2≤t.kind∧t.kind≤8) (hw:t.words.length=0):t.min≤t.max∧kLo t.kind≤t.min∧t.max≤kHi t.kind∧(t.kind=3→0≤t.scale∧t.scale≤12):=by
  unfold ownT at h
  split at h
  · cases h
  split at h
  · cases h
  rw [if_neg (by omega)] at h
  split at h
  · cases h
  · omega
theorem ownT_bool {t:Ty} (h:ownT t=0) (hk:t.kind=1):t.min=0∧t.max=0:=by
  have h1:=ownT_form h
  unfold formE at h1
  grind
theorem ownT_bndJ {s t:Ty} {l:List Ty} (hs:ownT s=0) (ht:ownT t=0) (hk:t.kind=s.kind) (k4:s.kind≠4) (k9:s.kind≠9) (k10:s.kind≠10) (hl:l.length=if s.kind=8 then 1 else 0):ownT (bndJ s t l)=0:=by
  have hkk:=ownT_kind hs
  have hw1:=ownT_nowords hs k4
  have hw2:=ownT_nowords ht (by omega)
  have hsc:=fun h:s.kind≠3=>tok_scale hs h
  have hb1:=fun h:s.kind=1=>ownT_bool hs h
  have hb2:=fun h:s.kind=1=>ownT_bool ht (by omega)
  have hl1:=fun h:2≤s.kind∧s.kind≤8=>ownT_lim hs h hw1
  have hl2:=fun h:2≤s.kind∧s.kind≤8=>ownT_lim ht (by omega) hw2
  rw [hk] at hl2
  have e1:(bndJ s t l).kind=s.kind:=rfl
  have e2:(bndJ s t l).min=Min.min s.min t.min:=rfl
  have e3:(bndJ s t l).max=Max.max s.max t.max:=rfl
  have e4:(bndJ s t l).scale=s.scale:=rfl
  have e5:(bndJ s t l).words.length=0:=rfl
  have e6:(bndJ s t l).elem.length=if s.kind=8 then 1 else 0:=hl
  have e7:(bndJ s t l).fields.length=0:=rfl
  unfold ownT
  rw [if_neg (by omega)]
  rw [if_neg]
  · rw [if_neg (by omega),if_neg]
    · rw [if_neg,if_neg,if_neg (by omega),e7]
      · rfl
      · rw [e1,e6];intro q;rw [if_pos q.1] at q;omega
      · rw [e1,e6,e7];rintro (q|q)
        · rw [if_pos q.1] at q;omega
        · omega
    · rw [e1,e2,e3,e4]
      rintro (q|q)
      · have:=hl1 q.1
        have:=hl2 q.1
        omega
      · have:=(hl1 (by omega)).2.2.2 q.1
        omega
  · intro q
    refine q ?_
    unfold formE
    rw [if_neg]
    rw [e1,e2,e3,e4,e5,e6,e7]
    simp only [decide_eq_false_iff_not]
    rintro (q|q|q|q|q)
    · have h1:s.kind=1:=by omega
      have:=hb1 h1
      have:=hb2 h1
      omega
    · exact q.2 (hsc q.1)
    · omega
    · rw [if_neg q.1] at q;omega
    · omega
theorem txtE_nil:txtE ⟨#[]⟩=0:=by kernel_rfl
theorem wordsJ_ok {t:Ty} (ht:ownT t=0) (kt:t.kind=4):∀ w ∈ wordsJ t,txtE w=0∧w.size≤1024:=by
  intro w hw
  unfold wordsJ at hw
  split at hw
  · rw [List.mem_singleton.1 hw];exact ⟨txtE_nil,Nat.zero_le _⟩
  · have hp:0<t.words.length:=List.length_pos_of_mem hw
    have h1:=wordsE_zero ht kt hp
    unfold wordsE at h1
    split at h1
    · cases h1
    split at h1
    · cases h1
    obtain ⟨i,hi,rfl⟩:=List.getElem_of_mem hw
    have h2:=firstI_nz hi h1
    unfold wordE at h2
    rw [show t.words.getD i ⟨#[]⟩=t.words[i] by simp [List.getD,hi]] at h2
    split at h2
    · exact absurd h2 ‹_›
    · have h3:txtE t.words[i]=0:=by omega
      refine ⟨h3,?_⟩
      have h4:=own_ruleE (V.ok_self (V.ok_of_chk h3))
      rw [ruleE4 (by simp [mkV,V.kind])] at h4
      unfold sizeE at h4
      simp only [mkV,V.text] at h4
      by_cases c:(1024:Int)<(t.words[i].size:Int)
      · simp [c] at h4
      · omega
theorem wordE_inc {l:List ByteArray} (hl:IncW l) (ho:∀ w ∈ l,txtE w=0):∀ i,i<l.length→wordE l i=0:=by
  intro i hi
  unfold wordE
  rw [show l.getD i ⟨#[]⟩=l[i] by simp [List.getD,hi]]
  rw [if_neg (by rw [ho _ (List.getElem_mem hi)];simp)]
  by_cases h0:0<i
  · have hlt:=List.pairwise_iff_getElem.1 hl (i - 1) i (by omega) hi (by omega)
    rw [show l.getD (i - 1) ⟨#[]⟩=l[i - 1] by simp [List.getD,show i - 1<l.length by omega]]
    rw [if_neg fun q=>by rw [q.2] at hlt;exact ltS_irrefl _ hlt,if_neg]
    intro q
    have h2:=q.2
    rw [bytesLess_lt,ByteArray.toList_eq,ByteArray.toList_eq,decide_eq_true_eq] at h2
    exact ltS_asymm hlt h2
  · rw [if_neg (by omega),if_neg (by omega)]
theorem firstI_all {f:Nat→Int}:∀ {n:Nat},(∀ i,i<n→f i=0)→fI f n=0
  | 0,_=>rfl
  | n+1,h=>firstI_next (firstI_all fun i hi=>h i (by omega)) (h n (by omega))
theorem ownT_textJ {s t:Ty} (hs:ownT s=0) (ht:ownT t=0) (ks:s.kind=4) (kt:t.kind=4):ownT (textJ s t)=0:=by
  unfold textJ
  split
  · rename_i q
    have hne:0<(unionW (wordsJ s++wordsJ t)).length:=by
      obtain ⟨x,hx⟩:∃ x,x ∈ wordsJ s:=⟨(wordsJ s)[0],List.getElem_mem q.1.1⟩
      exact List.length_pos_of_mem (unionW_mem.2 (List.mem_append_left _ hx))
    have hinc:=unionW_inc (wordsJ s++wordsJ t)
    have hok:∀ w ∈ unionW (wordsJ s++wordsJ t),txtE w=0:=fun w hw=>by
      rcases List.mem_append.1 (unionW_mem.1 hw) with h|h
      · exact (wordsJ_ok hs ks w h).1
      · exact (wordsJ_ok ht kt w h).1
    have hq:=q.2
    generalize unionW (wordsJ s++wordsJ t)=l at hne hinc hok hq
    unfold ownT
    rw [if_neg (by simp [Ty.kind]),if_neg (by simp [formE,Ty.kind,Ty.min,Ty.max,Ty.scale,Ty.words,Ty.elem,Ty.fields]),if_pos ⟨rfl,hne⟩]
    unfold wordsE
    rw [if_neg (by simp [Ty.min,Ty.max]),if_neg (by show ¬ 64<l.length;omega)]
    exact firstI_all fun i hi=>wordE_inc hinc hok i hi
  · obtain ⟨⟨a1,b1,c1⟩,⟨a2,b2,c2⟩⟩:=span_at hs ks
    obtain ⟨⟨a3,b3,c3⟩,⟨a4,b4,c4⟩⟩:=span_at ht kt
    have hsz:∀ {x:Ty} {w:ByteArray},ownT x=0→x.kind=4→txtB x w=true→w.size≤1024:=fun {x w} hx kx h=>by
      by_cases c:0<x.words.length
      · refine (wordsJ_ok hx kx w ?_).2
        unfold wordsJ
        rw [if_neg (by omega)]
        exact (txtB_in c).1 h
      · have h1:=(txtB_bnd c).1 h
        have h2:=ownT_bnd hx (.inl kx) (by omega)
        omega
    have d1:=span_le b1
    have d3:=span_le b3
    have f2:=hsz hs ks b2
    have f4:=hsz ht kt b4
    generalize spanLo s=p at *
    generalize spanLo t=q at *
    generalize spanHi s=p2 at *
    generalize spanHi t=q2 at *
    unfold ownT
    rw [if_neg (by simp [Ty.kind]),if_neg (by simp [formE,Ty.kind,Ty.scale,Ty.words,Ty.elem,Ty.fields]),if_neg (by simp [Ty.words])]
    rw [if_neg,if_neg (by simp [Ty.kind]),if_neg (by simp [Ty.kind]),if_neg (by simp [Ty.fields])]
    · rfl
    · rintro (z|z)
      · have z:=z.2
        simp only [Ty.kind,Ty.min,Ty.max,show kLo 4=0 from rfl,show kHi 4=1024 from rfl] at z
        omega
      · simp [Ty.kind] at z
theorem run_inv {e d:Nat} {lev l:Int} {t:Ty} (h:(runT e (d+1) lev t l).1=0):l≠0∧¬ 8<lev∧ownT t=0∧(goT (fun x l=>runT e d (lev+1) x l) (badT e d t) 0 (pS t) (l - 1)).1=0:=by
  simp only [runT] at h
  split at h
  · cases h
  split at h
  · cases h
  split at h
  · exact absurd h ‹_›
  · exact ⟨‹_›,‹_›,by omega,h⟩
theorem run_of {e d:Nat} {lev l:Int} {t:Ty} (h1:l≠0) (h2:¬ 8<lev) (h3:ownT t=0) (h4:(goT (fun x l=>runT e d (lev+1) x l) (badT e d t) 0 (pS t) (l - 1)).1=0):(runT e (d+1) lev t l).1=0:=by
  simp only [runT]
  rw [if_neg h1,if_neg h2,if_neg (by omega)]
  exact h4
theorem list_parts {t:Ty} (h:ownT t=0) (hk:t.kind=8):pS t=[t.elem.getD 0 default]:=by
  have h1:=ownT_elem h hk
  simp only [pS]
  rw [if_pos hk]
  obtain ⟨x,hx⟩:=List.length_eq_one_iff.1 h1
  rw [hx];rfl
theorem badT_no {e d i:Nat} {t:Ty} (h:t.kind≠9):badT e d t i=false:=by unfold badT;simp [h]
theorem go_one {f:Ty→Int→Int×Int} {bad:Nat→Bool} {x:Ty} {l:Int} (hb:bad 0=false):(goT f bad 0 [x] l).1=0↔(f x l).1=0:=by
  simp only [goT,hb]
  split
  · exact Iff.rfl
  · simp only [Bool.false_eq_true,if_false]
    exact ⟨fun _=>by omega,fun _=>trivial⟩
theorem joinT_run (e:Nat):∀ (d:Nat) (lev l:Int) (s t:Ty),(runT e d lev s l).1=0→(runT e d lev t l).1=0→(joinT d s t).2=0→(runT e d lev (joinT d s t).1 l).1=0
  | 0,_,_,_,_,_,_,_=>rfl
  | d + 1,lev,l,s,t,hs,ht,hj=>by
    have hs0:=hs
    have ht0:=ht
    obtain ⟨a1,a2,a3,a4⟩:=run_inv hs
    obtain ⟨b1,b2,b3,b4⟩:=run_inv ht
    simp only [joinT] at hj ⊢
    by_cases c1:s=t
    · rw [if_pos c1];exact hs0
    rw [if_neg c1] at hj ⊢
    by_cases c2:s.kind≠t.kind∨s.kind=9∨s.kind=10∨s.scale≠t.scale
    · rw [if_pos c2] at hj;cases hj
    rw [if_neg c2] at hj ⊢
    by_cases c4:s.kind=4
    · rw [if_pos c4]
      refine run_of a1 a2 (ownT_textJ a3 b3 c4 (by omega)) ?_
      have:pS (textJ s t)=[]:=by simp only [pS];rw [textJ_kind];rfl
      rw [this];rfl
    rw [if_neg c4] at hj ⊢
    by_cases c8:s.kind=8
    · rw [if_pos c8] at hj ⊢
      rw [list_parts a3 c8,go_one (badT_no (by omega))] at a4
      rw [list_parts b3 (by omega),go_one (badT_no (by omega))] at b4
      have key:∀ x,(runT e d (lev+1) x (l - 1)).1=0→(runT e (d+1) lev (bndJ s t [x]) l).1=0:=fun x hx=>by
        refine run_of a1 a2 (ownT_bndJ a3 b3 (by omega) c4 (by omega) (by omega) (by rw [if_pos c8];rfl)) ?_
        have:pS (bndJ s t [x])=[x]:=by
          simp only [pS];rw [show (bndJ s t [x]).kind=s.kind from rfl,if_pos c8];rfl
        rw [this,go_one (badT_no (by show s.kind≠9;omega))]
        exact hx
      by_cases m1:s.max=0
      · rw [if_pos m1];exact key _ b4
      rw [if_neg m1] at hj ⊢
      by_cases m2:t.max=0
      · rw [if_pos m2];exact key _ a4
      rw [if_neg m2] at hj ⊢
      by_cases m3:(joinT d (s.elem.getD 0 default) (t.elem.getD 0 default)).2≠0
      · rw [if_pos m3] at hj;exact absurd hj m3
      rw [if_neg m3]
      exact key _ (joinT_run e d (lev+1) (l - 1) _ _ a4 b4 (by omega))
    · rw [if_neg c8]
      refine run_of a1 a2 (ownT_bndJ a3 b3 (by omega) c4 (by omega) (by omega) (by rw [if_neg c8];rfl)) ?_
      have:pS (bndJ s t [])=[]:=by
        simp only [pS];rw [show (bndJ s t []).kind=s.kind from rfl,if_neg c8,if_neg (by omega)]
      rw [this];rfl
theorem leastT_plain {e d:Nat} {t:Ty} (h8:t.kind≠8) (h9:t.kind≠9) (h10:t.kind≠10):leastT e (d+1) t=1:=by
  simp only [leastT];rw [if_neg h8,if_neg h10,if_neg h9];decide
theorem leastT_list {e d:Nat} {t:Ty} (h8:t.kind=8):leastT e (d+1) t=Min.min (1+(if 0<t.min then t.min * leastT e d (t.elem.getD 0 default) else 0)) 4097:=by
  simp only [leastT];rw [if_pos h8]
theorem leastT_mono {e d:Nat} {s j:Ty} (hs:s.kind=8) (hj:j.kind=8) (h0:0≤j.min∧j.min≤s.min) (h:0<j.min→leastT e d (j.elem.getD 0 default)≤leastT e d (s.elem.getD 0 default)):leastT e (d+1) j≤leastT e (d+1) s:=by
  rw [leastT_list hs,leastT_list hj]
  have p1:=(leastT_le e d (j.elem.getD 0 default)).1
  have p2:=(leastT_le e d (s.elem.getD 0 default)).1
  by_cases c:0<j.min
  · rw [if_pos c,if_pos (by omega)]
    have h1:j.min * leastT e d (j.elem.getD 0 default)≤s.min * leastT e d (s.elem.getD 0 default):=Int.mul_le_mul h0.2 (h c) p1 (by omega)
    omega
  · rw [if_neg c]
    split
    · have:0≤s.min * leastT e d (s.elem.getD 0 default):=Int.mul_nonneg (by omega) p2
      omega
    · omega
theorem joinT_leastT (e:Nat):∀ (d:Nat) (s t:Ty),Ty.ok e d s→Ty.ok e d t→(joinT d s t).2=0→leastT e d (joinT d s t).1≤leastT e d s∨leastT e d (joinT d s t).1≤leastT e d t
  | 0,_,_,h,_,_=>h.elim
  | d + 1,s,t,hs,ht,hj=>by
    simp only [joinT] at hj ⊢
    by_cases c1:s=t
    · rw [if_pos c1];exact .inl (Int.le_refl _)
    rw [if_neg c1] at hj ⊢
    by_cases c2:s.kind≠t.kind∨s.kind=9∨s.kind=10∨s.scale≠t.scale
    · rw [if_pos c2] at hj;cases hj
    rw [if_neg c2] at hj ⊢
    by_cases c4:s.kind=4
    · rw [if_pos c4]
      left
      rw [leastT_plain (t:=textJ s t) (by rw [textJ_kind];decide) (by rw [textJ_kind];decide) (by rw [textJ_kind];decide),leastT_plain (t:=s) (by omega) (by omega) (by omega)]
      exact Int.le_refl _
    rw [if_neg c4] at hj ⊢
    by_cases c8:s.kind=8
    · rw [if_pos c8] at hj ⊢
      have b1:=ownT_bnd hs.1 (.inr (.inr c8)) (ownT_nowords hs.1 c4)
      have b2:=ownT_bnd ht.1 (.inr (.inr (by omega))) (ownT_nowords ht.1 (by omega))
      have q1:∀ x,(bndJ s t [x]).min=Min.min s.min t.min:=fun _=>rfl
      have zz:∀ x,Min.min s.min t.min=0→leastT e (d+1) (bndJ s t [x])≤leastT e (d+1) s:=fun x h =>
        leastT_mono c8 c8 (by rw [q1];omega) fun q=>by rw [q1] at q;omega
      by_cases m1:s.max=0
      · rw [if_pos m1];exact .inl (zz _ (by omega))
      rw [if_neg m1] at hj ⊢
      by_cases m2:t.max=0
      · rw [if_pos m2];exact .inl (zz _ (by omega))
      rw [if_neg m2] at hj ⊢
      by_cases m3:(joinT d (s.elem.getD 0 default) (t.elem.getD 0 default)).2≠0
      · rw [if_pos m3] at hj;exact absurd hj m3
      rw [if_neg m3]
      rcases joinT_leastT e d _ _ (Ty.ok_elem0 hs c8) (Ty.ok_elem0 ht (by omega)) (by omega) with h|h
      · exact .inl (leastT_mono c8 c8 (by rw [q1];omega) fun _=>h)
      · exact .inr (leastT_mono (by omega) c8 (by rw [q1];omega) fun _=>h)
    · rw [if_neg c8]
      left
      rw [leastT_plain (t:=bndJ s t []) c8 (by show s.kind≠9;omega) (by show s.kind≠10;omega),leastT_plain (t:=s) c8 (by omega) (by omega)]
      exact Int.le_refl _
theorem greatT_leaf {e d:Nat} {t:Ty} (he:t.elem.length=0) (hf:t.fields.length=0):greatT e (d+1) t=leastT e (d+1) t:=by
  simp only [greatT];rw [he,hf];rfl
theorem greatT_list {e d:Nat} {t:Ty} {x:Ty} (he:t.elem=[x]) (hf:t.fields=[]):greatT e (d+1) t=Max.max (leastT e (d+1) t) (greatT e d x):=by
  simp only [greatT];rw [he,hf];rfl
theorem greatT_least {e d:Nat} {t:Ty}:leastT e (d+1) t≤greatT e (d+1) t:=by
  simp only [greatT]
  exact Int.le_trans (maxTo_base _) (maxTo_base _)
theorem joinT_great (e:Nat) (m:Int) (hm:1≤m):∀ (d:Nat) (s t:Ty),Ty.ok e d s→Ty.ok e d t→(joinT d s t).2=0→greatT e d s≤m→greatT e d t≤m→greatT e d (joinT d s t).1≤m
  | 0,_,_,h,_,_,_,_=>h.elim
  | d + 1,s,t,hs,ht,hj,hgs,hgt=>by
    have hl:=joinT_leastT e (d+1) s t hs ht hj
    have ls:=greatT_least (e:=e) (d:=d) (t:=s)
    have lt:=greatT_least (e:=e) (d:=d) (t:=t)
    simp only [joinT] at hj hl ⊢
    by_cases c1:s=t
    · rw [if_pos c1];exact hgs
    rw [if_neg c1] at hj hl ⊢
    by_cases c2:s.kind≠t.kind∨s.kind=9∨s.kind=10∨s.scale≠t.scale
    · rw [if_pos c2] at hj;cases hj
    rw [if_neg c2] at hj hl ⊢
    by_cases c4:s.kind=4
    · rw [if_pos c4] at hl ⊢
      have h1:(textJ s t).elem.length=0∧(textJ s t).fields.length=0:=by unfold textJ;split<;>exact ⟨rfl,rfl⟩
      show greatT e (d+1) (textJ s t)≤m
      have hl:leastT e (d+1) (textJ s t)≤leastT e (d+1) s∨leastT e (d+1) (textJ s t)≤leastT e (d+1) t:=hl
      rw [greatT_leaf h1.1 h1.2]
      omega
    rw [if_neg c4] at hj hl ⊢
    by_cases c8:s.kind=8
    · rw [if_pos c8] at hj hl ⊢
      have hes:greatT e d (s.elem.getD 0 default)≤m:=Int.le_trans (greatT_part _ (by rw [list_parts hs.1 c8];exact List.mem_cons_self ..)) hgs
      have het:greatT e d (t.elem.getD 0 default)≤m:=Int.le_trans (greatT_part _ (by rw [list_parts ht.1 (by omega)];exact List.mem_cons_self ..)) hgt
      have key:∀ x,greatT e d x≤m→(leastT e (d+1) (bndJ s t [x])≤leastT e (d+1) s∨leastT e (d+1) (bndJ s t [x])≤leastT e (d+1) t)→greatT e (d+1) (bndJ s t [x])≤m:=fun x h1 h2=>by
        rw [greatT_list (t:=bndJ s t [x]) rfl rfl];omega
      by_cases m1:s.max=0
      · rw [if_pos m1] at hl ⊢;exact key _ het hl
      rw [if_neg m1] at hj hl ⊢
      by_cases m2:t.max=0
      · rw [if_pos m2] at hl ⊢;exact key _ hes hl
      rw [if_neg m2] at hj hl ⊢
      by_cases m3:(joinT d (s.elem.getD 0 default) (t.elem.getD 0 default)).2≠0
      · rw [if_pos m3] at hj;exact absurd hj m3
      rw [if_neg m3] at hl ⊢
      exact key _ (joinT_great e m hm d _ _ (Ty.ok_elem0 hs c8) (Ty.ok_elem0 ht (by omega)) (by omega) hes het) hl
    · rw [if_neg c8] at hl ⊢
      show greatT e (d+1) (bndJ s t [])≤m
      have hl:leastT e (d+1) (bndJ s t [])≤leastT e (d+1) s∨leastT e (d+1) (bndJ s t [])≤leastT e (d+1) t:=hl
      rw [greatT_leaf rfl rfl]
      omega
theorem joinT_chk {e d:Nat} {s t:Ty} (hs:Ty.ok e d s) (ht:Ty.ok e d t) (h1:chkT e d s=0) (h2:chkT e d t=0) (hj:(joinT d s t).2=0):chkT e d (joinT d s t).1=0:=by
  have inv:∀ x,chkT e d x=0→(runT e d 1 x 4096).1=0∧greatT e d x≤4096:=fun x h=>by
    unfold chkT at h
    split at h
    · exact absurd h ‹_›
    split at h
    · cases h
    · omega
  obtain ⟨a1,a2⟩:=inv s h1
  obtain ⟨b1,b2⟩:=inv t h2
  have r:=joinT_run e d 1 4096 s t a1 b1 hj
  have g:=joinT_great e 4096 (by decide) d s t hs ht hj a2 b2
  unfold chkT
  rw [if_neg (by omega),if_neg (by omega)]
theorem withinB_kind {d:Nat} {s t:Ty} (h:withinB d s t=true):s.kind=t.kind:=by
  cases d with
  | zero=>cases h
  | succ d =>
    simp only [withinB] at h
    split at h
    · cases h
    · omega
theorem withinB_text {d:Nat} {s t:Ty} (hk:s.kind=t.kind) (h4:s.kind=4):withinB (d+1) s t=txtsB s t:=by
  simp only [withinB];rw [if_neg (by omega),if_neg (by omega),if_pos h4]
theorem withinB_list {d:Nat} {s t:Ty} (hk:s.kind=t.kind) (h8:s.kind=8):withinB (d+1) s t=(bndB s t && (decide (s.max=0) || withinB d (s.elem.getD 0 default) (t.elem.getD 0 default))):=by
  simp only [withinB];rw [if_neg (by omega),if_neg (by omega),if_neg (by omega),if_pos h8]
theorem withinB_num {d:Nat} {s t:Ty} (hk:s.kind=t.kind) (h4:s.kind≠4) (h8:s.kind≠8) (h9:s.kind≠9) (h10:s.kind≠10) (hsc:s.scale=t.scale):withinB (d+1) s t=(decide (s.kind=1) || bndB s t):=by
  simp only [withinB];rw [if_neg (by omega)]
  by_cases h1:s.kind=1
  · rw [if_pos h1];simp [h1]
  rw [if_neg h1,if_neg h4,if_neg h8,if_neg h9,if_neg h10,decide_eq_false h1]
  split
  · simp [hsc]
  · simp
theorem withinB_scale {d:Nat} {s t:Ty} (h:withinB (d+1) s t=true) (h3:s.kind=3):s.scale=t.scale:=by
  have hk:=withinB_kind h
  simp only [withinB] at h
  rw [if_neg (by omega),if_neg (by omega),if_neg (by omega),if_neg (by omega),if_neg (by omega),if_neg (by omega),if_pos h3] at h
  simp only [Bool.and_eq_true,decide_eq_true_eq] at h
  exact h.1
theorem withinB_scale' {d:Nat} {s t:Ty} (hs:ownT s=0) (ht:ownT t=0) (h:withinB (d+1) s t=true):s.scale=t.scale:=by
  by_cases h3:s.kind=3
  · exact withinB_scale h h3
  · have hk:=withinB_kind h
    rw [tok_scale hs h3,tok_scale ht (by omega)]
theorem joinT_up (e:Nat):∀ (d:Nat) (s t:Ty),Ty.ok e d s→Ty.ok e d t→(joinT d s t).2=0→withinB d s (joinT d s t).1=true∧withinB d t (joinT d s t).1=true
  | 0,_,_,h,_,_=>h.elim
  | d + 1,s,t,hs,ht,hj=>by
    have hs0:=withinB_refl e (d+1) s hs
    simp only [joinT] at hj ⊢
    by_cases c1:s=t
    · rw [if_pos c1]
      refine ⟨hs0,?_⟩
      subst c1;exact hs0
    rw [if_neg c1] at hj ⊢
    by_cases c2:s.kind≠t.kind∨s.kind=9∨s.kind=10∨s.scale≠t.scale
    · rw [if_pos c2] at hj;cases hj
    rw [if_neg c2] at hj ⊢
    by_cases c4:s.kind=4
    · rw [if_pos c4]
      have hj:=ownT_textJ hs.1 ht.1 c4 (by omega)
      have hk:=textJ_kind s t
      show withinB (d+1) s (textJ s t)=true∧withinB (d+1) t (textJ s t)=true
      rw [withinB_text (by omega) c4,withinB_text (by omega) (by omega)]
      exact ⟨(txtsB_sem hs.1 hj c4 hk).2 fun w h=>textJ_up hs.1 ht.1 c4 (by omega) (.inl h),(txtsB_sem ht.1 hj (by omega) hk).2 fun w h=>textJ_up hs.1 ht.1 c4 (by omega) (.inr h)⟩
    rw [if_neg c4] at hj ⊢
    by_cases c8:s.kind=8
    · rw [if_pos c8] at hj ⊢
      have b1:=ownT_bnd hs.1 (.inr (.inr c8)) (ownT_nowords hs.1 c4)
      have b2:=ownT_bnd ht.1 (.inr (.inr (by omega))) (ownT_nowords ht.1 (by omega))
      have key:∀ x,(s.max=0∨withinB d (s.elem.getD 0 default) x=true)→(t.max=0∨withinB d (t.elem.getD 0 default) x=true)→withinB (d+1) s (bndJ s t [x])=true∧withinB (d+1) t (bndJ s t [x])=true:=fun x h1 h2=>by
        have e1:(bndJ s t [x]).kind=s.kind:=rfl
        have e2:(bndJ s t [x]).elem.getD 0 default=x:=rfl
        rw [withinB_list (by omega) c8,withinB_list (by omega) (by omega),e2,bndB_up.1,bndB_up.2]
        simp only [Bool.true_and,Bool.or_eq_true,decide_eq_true_eq]
        exact ⟨h1,h2⟩
      by_cases m1:s.max=0
      · rw [if_pos m1];exact key _ (.inl m1) (.inr (withinB_refl e d _ (Ty.ok_elem0 ht (by omega))))
      rw [if_neg m1] at hj ⊢
      by_cases m2:t.max=0
      · rw [if_pos m2];exact key _ (.inr (withinB_refl e d _ (Ty.ok_elem0 hs c8))) (.inl m2)
      rw [if_neg m2] at hj ⊢
      by_cases m3:(joinT d (s.elem.getD 0 default) (t.elem.getD 0 default)).2≠0
      · rw [if_pos m3] at hj;exact absurd hj m3
      rw [if_neg m3]
      obtain ⟨g1,g2⟩:=joinT_up e d _ _ (Ty.ok_elem0 hs c8) (Ty.ok_elem0 ht (by omega)) (by omega)
      exact key _ (.inr g1) (.inr g2)
    · rw [if_neg c8]
      have e1:(bndJ s t []).kind=s.kind:=rfl
      have e2:(bndJ s t []).scale=s.scale:=rfl
      show withinB (d+1) s (bndJ s t [])=true∧withinB (d+1) t (bndJ s t [])=true
      rw [withinB_num (by omega) c4 c8 (by omega) (by omega) (by omega),withinB_num (by omega) (by omega) (by omega) (by omega) (by omega) (by omega),bndB_up.1,bndB_up.2]
      simp
theorem joinT_min (e:Nat):∀ (d:Nat) (s t u:Ty),Ty.ok e d s→Ty.ok e d t→Ty.ok e d u→withinB d s u=true→withinB d t u=true→(joinT d s t).2=0→withinB d (joinT d s t).1 u=true
  | 0,_,_,_,h,_,_,_,_,_=>h.elim
  | d + 1,s,t,u,hs,ht,hu,h1,h2,hj=>by
    have k1:=withinB_kind h1
    have k2:=withinB_kind h2
    simp only [joinT] at hj ⊢
    by_cases c1:s=t
    · rw [if_pos c1];exact h1
    rw [if_neg c1] at hj ⊢
    by_cases c2:s.kind≠t.kind∨s.kind=9∨s.kind=10∨s.scale≠t.scale
    · rw [if_pos c2] at hj;cases hj
    rw [if_neg c2] at hj ⊢
    by_cases c4:s.kind=4
    · rw [if_pos c4]
      have hjo:=ownT_textJ hs.1 ht.1 c4 (by omega)
      have hk:=textJ_kind s t
      show withinB (d+1) (textJ s t) u=true
      rw [withinB_text k1 c4] at h1
      rw [withinB_text k2 (by omega)] at h2
      rw [withinB_text (by omega) hk]
      exact (txtsB_sem hjo hu.1 hk (by omega)).2 fun w h=>textJ_least hs.1 ht.1 hu.1 c4 (by omega) (by omega) h1 h2 h
    rw [if_neg c4] at hj ⊢
    by_cases c8:s.kind=8
    · rw [if_pos c8] at hj ⊢
      have b1:=ownT_bnd hs.1 (.inr (.inr c8)) (ownT_nowords hs.1 c4)
      have b2:=ownT_bnd ht.1 (.inr (.inr (by omega))) (ownT_nowords ht.1 (by omega))
      rw [withinB_list k1 c8] at h1
      rw [withinB_list k2 (by omega)] at h2
      simp only [Bool.and_eq_true,Bool.or_eq_true,decide_eq_true_eq] at h1 h2
      have key:∀ x,((s.max=0∧t.max=0)∨withinB d x (u.elem.getD 0 default)=true)→withinB (d+1) (bndJ s t [x]) u=true:=fun x h=>by
        have e1:(bndJ s t [x]).kind=s.kind:=rfl
        have e2:(bndJ s t [x]).elem.getD 0 default=x:=rfl
        have e3:(bndJ s t [x]).max=Max.max s.max t.max:=rfl
        rw [withinB_list (by omega) (by omega),e2,e3,bndB_least h1.1 h2.1]
        simp only [Bool.true_and,Bool.or_eq_true,decide_eq_true_eq]
        rcases h with h|h
        · exact .inl (by omega)
        · exact .inr h
      by_cases m1:s.max=0
      · rw [if_pos m1]
        by_cases m2:t.max=0
        · exact key _ (.inl ⟨m1,m2⟩)
        · exact key _ (.inr (h2.2.resolve_left m2))
      rw [if_neg m1] at hj ⊢
      by_cases m2:t.max=0
      · rw [if_pos m2];exact key _ (.inr (h1.2.resolve_left m1))
      rw [if_neg m2] at hj ⊢
      by_cases m3:(joinT d (s.elem.getD 0 default) (t.elem.getD 0 default)).2≠0
      · rw [if_pos m3] at hj;exact absurd hj m3
      rw [if_neg m3]
      exact key _ (.inr (joinT_min e d _ _ _ (Ty.ok_elem0 hs c8) (Ty.ok_elem0 ht (by omega)) (Ty.ok_elem0 hu (by omega)) (h1.2.resolve_left m1) (h2.2.resolve_left m2) (by omega)))
    · rw [if_neg c8]
      have e1:(bndJ s t []).kind=s.kind:=rfl
      have e2:(bndJ s t []).scale=s.scale:=rfl
      have hsc1:=withinB_scale' hs.1 hu.1 h1
      rw [withinB_num k1 c4 c8 (by omega) (by omega) hsc1] at h1
      rw [withinB_num k2 (by omega) (by omega) (by omega) (by omega) (by omega)] at h2
      show withinB (d+1) (bndJ s t []) u=true
      rw [withinB_num (by omega) (by omega) (by omega) (by omega) (by omega) (by omega),e1]
      simp only [Bool.or_eq_true,decide_eq_true_eq] at h1 h2 ⊢
      by_cases c:s.kind=1
      · exact .inl c
      · exact .inr (bndB_least (h1.resolve_left c) (h2.resolve_left (by omega)))
theorem le_mk (e d:Nat) (k a b c:Int) (w:List ByteArray) (l:List Ty) (hw:w.length≤1073741824) (hs:∀ x ∈ w,x.size≤1073741824) (hl:l.length≤1073741824) (h:∀ x ∈ l,Ty.le e d x):Ty.le e (d+1) (.mk k a b c w l []):=by
  refine ⟨hw,hs,hl,by show (0:Nat)≤_;omega,h,fun f hf=>by cases hf⟩
theorem sz_mk (e d:Nat) (k a b c:Int) (w:List ByteArray) (l:List Ty) (h:∀ x ∈ l,Ty.sz e d x):Ty.sz e (d+1) (.mk k a b c w l []):=⟨h,fun f hf=>by cases hf⟩
theorem le_default (e d:Nat):Ty.le e (d+1) default:=le_mk e d 0 0 0 0 [] [] (by show (0:Nat)≤_;omega) (fun _ h=>by cases h) (by show (0:Nat)≤_;omega) fun _ h=>by cases h
theorem sz_default (e:Nat):∀ d,Ty.sz e d default
  | 0=>trivial
  | d+1=>sz_mk e d 0 0 0 0 [] [] fun _ h=>by cases h
theorem textJ_le {e d:Nat} {s t:Ty} (hs:ownT s=0) (ht:ownT t=0) (ks:s.kind=4) (kt:t.kind=4):Ty.le e (d+1) (textJ s t):=by
  unfold textJ
  split
  · rename_i h
    refine le_mk e d _ _ _ _ _ _ (by omega) (fun x hx=>?_) (by show (0:Nat)≤_;omega) fun _ h=>by cases h
    rw [unionW_mem,List.mem_append] at hx
    rcases hx with q|q
    · have:=(wordsJ_ok hs ks x q).2;omega
    · have:=(wordsJ_ok ht kt x q).2;omega
  · exact le_mk e d _ _ _ _ _ _ (by show (0:Nat)≤_;omega) (fun _ h=>by cases h) (by show (0:Nat)≤_;omega) fun _ h=>by cases h
theorem textJ_sz {e d:Nat} {s t:Ty}:Ty.sz e (d+1) (textJ s t):=by
  unfold textJ
  split
  · exact sz_mk e d _ _ _ _ _ _ fun _ h=>by cases h
  · exact sz_mk e d _ _ _ _ _ _ fun _ h=>by cases h
theorem joinT_le (e:Nat):∀ (d:Nat) (s t:Ty),Ty.ok e d s→Ty.ok e d t→Ty.le e d s→Ty.le e d t→Ty.sz e d s→Ty.sz e d t→Ty.le e d (joinT d s t).1∧Ty.sz e d (joinT d s t).1
  | 0,_,_,h,_,_,_,_,_=>h.elim
  | d + 1,s,t,hso,hto,hs,ht,zs,zt=>by
    have h0:(0:Nat)≤1073741824:=by omega
    have h1:(1:Nat)≤1073741824:=by omega
    simp only [joinT]
    by_cases c1:s=t
    · rw [if_pos c1];exact ⟨hs,zs⟩
    rw [if_neg c1]
    by_cases c2:s.kind≠t.kind∨s.kind=9∨s.kind=10∨s.scale≠t.scale
    · rw [if_pos c2];exact ⟨le_default e d,sz_default e _⟩
    rw [if_neg c2]
    by_cases c4:s.kind=4
    · rw [if_pos c4];exact ⟨textJ_le hso.1 hto.1 c4 (by omega),textJ_sz⟩
    rw [if_neg c4]
    by_cases c8:s.kind=8
    · rw [if_pos c8]
      have l1:=ownT_elem hso.1 c8
      have l2:=ownT_elem hto.1 (by omega)
      have e1:=hs.2.2.2.2.1 _ (gD (x:=default) (show 0<s.elem.length by omega))
      have e2:=ht.2.2.2.2.1 _ (gD (x:=default) (show 0<t.elem.length by omega))
      have y1:=zs.1 _ (gD (x:=default) (show 0<s.elem.length by omega))
      have y2:=zt.1 _ (gD (x:=default) (show 0<t.elem.length by omega))
      have one:∀ x,Ty.le e d x→Ty.sz e d x→Ty.le e (d+1) (bndJ s t [x])∧Ty.sz e (d+1) (bndJ s t [x]):=fun x a b =>
        ⟨le_mk e d _ _ _ _ _ _ h0 (fun _ h=>by cases h) h1 fun y hy=>by rw [List.mem_singleton] at hy;rw [hy];exact a,sz_mk e d _ _ _ _ _ _ fun y hy=>by rw [List.mem_singleton] at hy;rw [hy];exact b⟩
      by_cases m1:s.max=0
      · rw [if_pos m1];exact one _ e2 y2
      rw [if_neg m1]
      by_cases m2:t.max=0
      · rw [if_pos m2];exact one _ e1 y1
      rw [if_neg m2]
      by_cases m3:(joinT d (s.elem.getD 0 default) (t.elem.getD 0 default)).2≠0
      · rw [if_pos m3];exact ⟨le_default e d,sz_default e _⟩
      · rw [if_neg m3]
        have ih:=joinT_le e d _ _ (Ty.ok_elem0 hso c8) (Ty.ok_elem0 hto (by omega)) e1 e2 y1 y2
        exact one _ ih.1 ih.2
    · rw [if_neg c8]
      exact ⟨le_mk e d _ _ _ _ _ _ h0 (fun _ h=>by cases h) h0 fun _ h=>(by cases h),sz_mk e d _ _ _ _ _ _ fun _ h=>(by cases h)⟩
end Go.Ai
