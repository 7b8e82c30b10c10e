/- Plain facts on types and rows that the texts of chapter 10 showed first. -/
import Derived.Test.YtalghhdapjmbbaaGreatDoorTyF
import Derived.Test.YtalghhdapjmbbaaGreatDoorOrd
import Derived.Test.YtalghhdapjmbbaaGreatDoorTot
set_option linter.all false
namespace Go.Ai
open Go Go.Proofs
set_option maxRecDepth 100000
set_option maxHeartbeats 1000000
theorem ownT_nodup {t:Ty} (h:ownT t=0) (hk:t.kind=9∨t.kind=10):(t.fields.map fNum).Nodup∧(t.fields.map fM).Nodup:=by
  have key:∀ i j,i<j→∀ (hi:i<t.fields.length) (hj:j<t.fields.length),fM t.fields[i]≠fM t.fields[j]∧fNum t.fields[i]≠fNum t.fields[j]:=fun i j hij hi hj=>by
    have h1:=ownT_field h hk hj
    simp only [fieldE,fldE,List.getD_eq_getElem?_getD,List.getElem?_eq_getElem hj,Option.getD_some] at h1
    have h2:dupB t.fields j t.fields[j]=false:=by grind
    simp only [dupB,List.any_eq_false] at h2
    have h3:=h2 t.fields[i] (List.mem_take_iff_getElem.2 ⟨i,by omega,rfl⟩)
    simp at h3
    exact h3
  constructor
  · rw [List.Nodup,List.pairwise_map,List.pairwise_iff_getElem]
    exact fun i j hi hj hij=>(key i j hij hi hj).2
  · rw [List.Nodup,List.pairwise_map,List.pairwise_iff_getElem]
    exact fun i j hi hj hij=>(key i j hij hi hj).1
theorem own_ruleE {vs:ByteArray→Bool} {v:V} (h:ownE vs v=0):ruleE vs v=0:=by
  unfold ownE at h
  split at h
  · cases h
  split at h
  · cases h
  split at h
  · cases h
  exact h
theorem idxI_hit {α:Type} {p:α→Bool} {l:List α} {x:α} (h:0≤iI p l):p (l.getD (iI p l).toNat x)=true:=by
  unfold iI at h ⊢
  split at h
  · rename_i hlt
    rw [if_pos hlt,Int.toNat_natCast,List.getD_eq_getElem?_getD,List.getElem?_eq_getElem hlt,Option.getD_some]
    exact List.findIdx_getElem
  · omega
theorem idxI_of_mem {α:Type} {p:α→Bool} {l:List α} {x:α} (h:x ∈ l) (hp:p x=true):0≤iI p l:=by
  have:List.findIdx p l<l.length:=List.findIdx_lt_length.2 ⟨x,h,hp⟩
  unfold iI
  rw [if_pos this];omega
theorem getTF_name {t:Ty} (hn:(t.fields.map fM).Nodup) {f:TF} (hf:f ∈ t.fields):0≤iI (bQ (fM f)) t.fields∧gT t (bQ (fM f))=f:=by
  have h0:0≤iI (bQ (fM f)) t.fields:=idxI_of_mem hf (by simp [bQ])
  refine ⟨h0,?_⟩
  have h1:fM (gT t (bQ (fM f)))=fM f:=by
    have:=idxI_hit (x:=default) h0
    simpa [bQ,gT] using this
  have hm:=getTF_mem h0
  obtain ⟨i,hi,hfi⟩:=List.getElem_of_mem hf
  obtain ⟨j,hj,hgj⟩:=List.getElem_of_mem hm
  have:i=j:=(List.getElem_inj (h₀:=by simpa using hi) (h₁:=by simpa using hj) hn).1 (by simp only [List.getElem_map];rw [hfi,hgj,h1])
  subst this
  rw [← hgj,hfi]
theorem tok_scale {t:Ty} (h:ownT t=0) (hk:t.kind≠3):t.scale=0:=by
  have h1:=ownT_form h
  unfold formE at h1
  grind
theorem maxTo_ge {g:Nat→Int} {m:Int}:∀ (n i:Nat),i<n→g i≤maxTo g m n
  | 0,_,h=>absurd h (Nat.not_lt_zero _)
  | n + 1,i,h=>by
    simp only [maxTo]
    rcases Nat.lt_succ_iff_lt_or_eq.1 h with h|rfl
    · have:=maxTo_ge (g:=g) (m:=m) n i h
      omega
    · omega
theorem maxTo_base {g:Nat→Int} {m:Int}:∀ (n:Nat),m≤maxTo g m n
  | 0=>Int.le_refl _
  | n+1=>by
    have:=maxTo_base (g:=g) (m:=m) n
    simp only [maxTo]
    omega
theorem greatT_part {e d:Nat} {t:Ty}:∀ x ∈ pS t,greatT e d x≤greatT e (d+1) t:=fun x hx=>by
  simp only [greatT,pS] at *
  split at hx
  · obtain ⟨i,hi,rfl⟩:=List.getElem_of_mem hx
    have h1:=maxTo_ge (g:=fun i=>greatT e d (t.elem.getD i default)) (m:=leastT e (d+1) t) t.elem.length i hi
    have h2:=maxTo_base (g:=fun i=>greatT e d (fT (t.fields.getD i default))) (m:=maxTo (fun i=>greatT e d (t.elem.getD i default)) (leastT e (d+1) t) t.elem.length) t.fields.length
    simp only [List.getD_eq_getElem?_getD,List.getElem?_eq_getElem hi,Option.getD_some] at h1
    exact Int.le_trans h1 h2
  split at hx
  · obtain ⟨f,hf,rfl⟩:=List.mem_map.1 hx
    obtain ⟨i,hi,rfl⟩:=List.getElem_of_mem hf
    have h1:=maxTo_ge (g:=fun i=>greatT e d (fT (t.fields.getD i default))) (m:=maxTo (fun i=>greatT e d (t.elem.getD i default)) (leastT e (d+1) t) t.elem.length) t.fields.length i hi
    simp only [List.getD_eq_getElem?_getD,List.getElem?_eq_getElem hi,Option.getD_some] at h1 ⊢
    exact h1
  · cases hx
theorem nodup_few {α:Type} [DecidableEq α]:∀ {l m:List α},l.Nodup→(∀ x ∈ l,x ∈ m)→l.length≤m.length
  | [],_,_,_=>Nat.zero_le _
  | x :: l,m,hd,h=>by
    have hc:=List.nodup_cons.1 hd
    have:=nodup_few (l:=l) (m:=m.erase x) hc.2 fun y hy=>(List.mem_erase_of_ne (fun e=>hc.1 (by rw [← e];exact hy))).2 (h y (List.mem_cons_of_mem _ hy))
    have hm:=h x (List.mem_cons_self ..)
    rw [List.length_erase_of_mem hm] at this
    have:0<m.length:=List.length_pos_of_mem hm
    simp only [List.length_cons];omega
def bndB (s t:Ty):Bool:=decide (t.min≤s.min∧s.max≤t.max)
def txtB (t:Ty) (w:ByteArray):Bool:=if 0<t.words.length then inWords t.words w else decide (t.min≤w.size∧w.size≤t.max)
def txtsB (s t:Ty):Bool:=if 0<s.words.length then !(s.words.any fun w=>!txtB t w) else if 0<t.words.length then decide (s.max=0) && txtB t ⟨#[]⟩ else bndB s t
def offB (f:Ty→Ty→Bool) (t:Ty) (x:TF):Bool:=decide (iI (bQ (fM x)) t.fields<0) || !f (fT x) (fT (gT t (bQ (fM x))))
def wrongB (f:Ty→Ty→Bool) (t:Ty) (x:TF):Bool:=offB f t x || (decide (fN x=2) && !decide (fN (gT t (bQ (fM x)))=2))
def missB (s:Ty) (y:TF):Bool:=decide (fN y≠2) && decide (iI (bQ (fM y)) s.fields<0)
def recsB (f:Ty→Ty→Bool) (s t:Ty):Bool:=!(t.fields.any (missB s)) && !(s.fields.any (wrongB f t))
def casesB (f:Ty→Ty→Bool) (s t:Ty):Bool:=!(s.fields.any (offB f t))
def withinB:Nat→Ty→Ty→Bool
  | 0,_,_=>false
  | d+1,s,t =>
    if s.kind≠t.kind then false else
    if s.kind=1 then true else
    if s.kind=4 then txtsB s t else
    if s.kind=8 then bndB s t && (decide (s.max=0) || withinB d (s.elem.getD 0 default) (t.elem.getD 0 default)) else
    if s.kind=9 then recsB (withinB d) s t else
    if s.kind=10 then casesB (withinB d) s t else
    if s.kind=3 then decide (s.scale=t.scale) && bndB s t else bndB s t
theorem ownT_kind {t:Ty} (h:ownT t=0):1≤t.kind∧t.kind≤10:=by
  unfold ownT at h
  split at h
  · cases h
  · omega
theorem ownT_bnd {t:Ty} (h:ownT t=0) (hk:t.kind=4∨t.kind=5∨t.kind=8) (hw:t.words.length=0):0≤t.min∧t.min≤t.max∧t.max≤1024:=by
  unfold ownT at h
  split at h
  · cases h
  split at h
  · cases h
  rw [if_neg (by omega)] at h
  split at h
  · cases h
  · rename_i hb
    have h1:kLo t.kind=0:=by unfold kLo;rw [if_neg (by omega),if_neg (by omega),if_neg (by omega)]
    have h2:kHi t.kind≤1024:=by
      unfold kHi
      rcases hk with hk|hk|hk<;>rw [hk]<;>decide
    omega
theorem wordsE_zero {t:Ty} (h:ownT t=0) (hk:t.kind=4) (hw:0<t.words.length):wordsE t=0:=by
  unfold ownT at h
  split at h
  · cases h
  split at h
  · cases h
  rw [if_pos ⟨hk,hw⟩] at h
  exact h
theorem ownT_words {t:Ty} (h:ownT t=0) (hk:t.kind=4):t.words.length≤64∧(0<t.words.length→t.min=0∧t.max=0):=by
  by_cases hw:0<t.words.length
  · have h1:=wordsE_zero h hk hw
    unfold wordsE at h1
    split at h1
    · cases h1
    split at h1
    · cases h1
    · exact ⟨by omega,fun _=>by omega⟩
  · exact ⟨by omega,fun q=>absurd q hw⟩
theorem ownT_nowords {t:Ty} (h:ownT t=0) (hk:t.kind≠4):t.words.length=0:=by
  have h1:=ownT_form h
  unfold formE at h1
  grind
theorem Ty.ok_elem0 {e d:Nat} {t:Ty} (h:Ty.ok e (d+1) t) (hk:t.kind=8):Ty.ok e d (t.elem.getD 0 default) :=
  Ty.ok_elem h hk (gD (by have:=ownT_elem h.1 hk;omega))
theorem bndB_refl (t:Ty):bndB t t=true:=by simp [bndB]
theorem bndB_trans {s t u:Ty} (h1:bndB s t=true) (h2:bndB t u=true):bndB s u=true:=by
  simp only [bndB,decide_eq_true_eq] at *;omega
theorem inWords_iff {l:List ByteArray} {w:ByteArray}:inWords l w=true↔w ∈ l:=by
  unfold inWords
  rw [List.any_eq_true]
  constructor
  · rintro ⟨x,hx,hp⟩
    rw [of_decide_eq_true hp];exact hx
  · intro h;exact ⟨w,h,by simp⟩
theorem txtsB_refl (t:Ty):txtsB t t=true:=by
  unfold txtsB
  split
  · rename_i h
    rw [Bool.not_eq_true',List.any_eq_false]
    intro w hw
    unfold txtB
    rw [if_pos h,inWords_iff.2 hw];simp
  · exact bndB_refl t
theorem txtB_in {t:Ty} {w:ByteArray} (h:0<t.words.length):txtB t w=true↔w ∈ t.words:=by unfold txtB;rw [if_pos h,inWords_iff]
theorem txtB_bnd {t:Ty} {w:ByteArray} (h:¬ 0<t.words.length):txtB t w=true↔t.min≤w.size∧w.size≤t.max:=by unfold txtB;rw [if_neg h,decide_eq_true_eq]
theorem txtsB_iff {s t:Ty}:txtsB s t=true↔(0<s.words.length→∀ w ∈ s.words,txtB t w=true)∧(¬ 0<s.words.length→(0<t.words.length→s.max=0∧txtB t ⟨#[]⟩=true)∧(¬ 0<t.words.length→t.min≤s.min∧s.max≤t.max)):=by
  unfold txtsB
  split
  · rename_i h
    rw [Bool.not_eq_true',List.any_eq_false]
    exact ⟨fun g=>⟨fun _ w hw=>by simpa using g w hw,fun q=>absurd h q⟩,fun g w hw=>by simp [g.1 h w hw]⟩
  · rename_i h
    split
    · rename_i h2
      rw [Bool.and_eq_true,decide_eq_true_eq]
      exact ⟨fun g=>⟨fun q=>absurd q h,fun _=>⟨fun _=>g,fun q=>absurd h2 q⟩⟩,fun g=>(g.2 h).1 h2⟩
    · rename_i h2
      unfold bndB
      rw [decide_eq_true_eq]
      exact ⟨fun g=>⟨fun q=>absurd q h,fun _=>⟨fun q=>absurd q h2,fun _=>g⟩⟩,fun g=>(g.2 h).2 h2⟩
theorem txtB_sub {t u:Ty} (hu:0<t.words.length∨(0≤t.min∧t.min≤t.max)) (h:txtsB t u=true) {w:ByteArray} (hw:txtB t w=true):txtB u w=true:=by
  obtain ⟨h1,h2⟩:=txtsB_iff.1 h
  by_cases ht:0<t.words.length
  · exact h1 ht w ((txtB_in ht).1 hw)
  · obtain ⟨h3,h4⟩:=h2 ht
    have hb:=(txtB_bnd ht).1 hw
    by_cases hv:0<u.words.length
    · obtain ⟨h5,h6⟩:=h3 hv
      have:w=⟨#[]⟩:=(bytes_empty w).2 (by omega)
      rw [this];exact h6
    · have:=h4 hv
      rw [txtB_bnd hv];omega
theorem txtsB_trans {s t u:Ty} (hs:0<s.words.length∨(0≤s.min∧s.min≤s.max)) (ht:0<t.words.length∨(0≤t.min∧t.min≤t.max)) (h1:txtsB s t=true) (h2:txtsB t u=true):txtsB s u=true:=by
  obtain ⟨a1,a2⟩:=txtsB_iff.1 h1
  obtain ⟨b1,b2⟩:=txtsB_iff.1 h2
  refine txtsB_iff.2 ⟨fun q w hw=>txtB_sub ht h2 (a1 q w hw),fun q=>?_⟩
  obtain ⟨a3,a4⟩:=a2 q
  have hs':0≤s.min∧s.min≤s.max:=by omega
  have hz:(ByteArray.size ⟨#[]⟩:Nat)=0:=rfl
  by_cases hw:0<t.words.length
  · obtain ⟨c1,c2⟩:=a3 hw
    have h3:=txtB_sub ht h2 c2
    refine ⟨fun _=>⟨c1,h3⟩,fun hv=>?_⟩
    have:=(txtB_bnd hv).1 h3
    rw [hz] at this
    omega
  · have c1:=a4 hw
    have ht':0≤t.min∧t.min≤t.max:=by omega
    refine ⟨fun hv=>?_,fun hv=>?_⟩
    · obtain ⟨c2,c3⟩:=(b2 hw).1 hv
      exact ⟨by omega,c3⟩
    · have:=(b2 hw).2 hv
      omega
theorem txt_alt {t:Ty} (h:ownT t=0) (hk:t.kind=4):0<t.words.length∨(0≤t.min∧t.min≤t.max):=by
  by_cases hw:0<t.words.length
  · exact .inl hw
  · have:=ownT_bnd h (.inl hk) (by omega)
    exact .inr ⟨this.1,this.2.1⟩
theorem offB_false {f:Ty→Ty→Bool} {t:Ty} {x:TF}:offB f t x=false↔0≤iI (bQ (fM x)) t.fields∧f (fT x) (fT (gT t (bQ (fM x))))=true:=by
  unfold offB
  rw [Bool.or_eq_false_iff,decide_eq_false_iff_not,Bool.not_eq_false']
  simp only [Int.not_lt]
theorem wrongB_false {f:Ty→Ty→Bool} {t:Ty} {x:TF}:wrongB f t x=false↔offB f t x=false∧(fN x=2→fN (gT t (bQ (fM x)))=2):=by
  unfold wrongB
  rw [Bool.or_eq_false_iff,Bool.and_eq_false_iff,Bool.not_eq_false',decide_eq_false_iff_not,decide_eq_true_eq]
  constructor
  · rintro ⟨a,b⟩;exact ⟨a,fun q=>b.resolve_left (fun z=>z q)⟩
  · rintro ⟨a,b⟩;exact ⟨a,by by_cases q:fN x=2<;>simp [q,b]⟩
theorem missB_false {s:Ty} {y:TF}:missB s y=false↔(fN y≠2→0≤iI (bQ (fM y)) s.fields):=by
  unfold missB
  rw [Bool.and_eq_false_iff,decide_eq_false_iff_not,decide_eq_false_iff_not]
  constructor
  · rintro (a|a) q
    · exact absurd q a
    · omega
  · intro a
    by_cases q:fN y≠2
    · exact .inr (by have:=a q;omega)
    · exact .inl q
theorem anyN {α:Type} {l:List α} {p:α→Bool}:(!(l.any p))=true↔∀ x ∈ l,p x=false:=by
  rw [Bool.not_eq_true',List.any_eq_false]
  exact ⟨fun h x hx=>by simpa using h x hx,fun h x hx=>by simp [h x hx]⟩
theorem getTF_fName {t:Ty} {n:ByteArray} (h:0≤iI (bQ n) t.fields):fM (gT t (bQ n))=n:=by
  have:=idxI_hit (x:=default) h
  exact of_decide_eq_true this
theorem withinB_refl (e:Nat):∀ (d:Nat) (t:Ty),Ty.ok e d t→withinB d t t=true
  | 0,_,h=>h.elim
  | d + 1,t,h=>by
    have hk:=ownT_kind h.1
    have hf:t.kind=9∨t.kind=10→∀ f ∈ t.fields,offB (withinB d) t f=false∧gT t (bQ (fM f))=f:=fun q f hf=>by
      obtain ⟨g1,g2⟩:=getTF_name (ownT_nodup h.1 q).2 hf
      exact ⟨offB_false.2 ⟨g1,by rw [g2];exact withinB_refl e d _ (Ty.ok_field h q hf)⟩,g2⟩
    simp only [withinB]
    rw [if_neg (by simp)]
    split
    · rfl
    split
    · exact txtsB_refl t
    split
    · rename_i q
      rw [bndB_refl,withinB_refl e d _ (Ty.ok_elem0 h q)];simp
    split
    · rename_i q
      unfold recsB
      rw [Bool.and_eq_true,anyN,anyN]
      refine ⟨fun x hx=>missB_false.2 fun _=>(getTF_name (ownT_nodup h.1 (.inl q)).2 hx).1,fun x hx=>?_⟩
      obtain ⟨g1,g2⟩:=hf (.inl q) x hx
      exact wrongB_false.2 ⟨g1,by rw [g2];exact fun z=>z⟩
    split
    · rename_i q
      unfold casesB
      rw [anyN]
      exact fun x hx=>(hf (.inr q) x hx).1
    split
    · rw [bndB_refl];simp
    · exact bndB_refl t
theorem offB_trans {f:Ty→Ty→Bool} {t u:Ty} {x:TF} (hf:∀ y ∈ t.fields,0≤iI (bQ (fM y)) u.fields→f (fT x) (fT y)=true→f (fT y) (fT (gT u (bQ (fM y))))=true→f (fT x) (fT (gT u (bQ (fM y))))=true)
    (h1:offB f t x=false) (h2:offB f u (gT t (bQ (fM x)))=false):offB f u x=false:=by
  obtain ⟨a1,a2⟩:=offB_false.1 h1
  obtain ⟨b1,b2⟩:=offB_false.1 h2
  have hn:=getTF_fName a1
  have:=hf _ (getTF_mem a1) b1 a2 b2
  rw [hn] at b1 this
  exact offB_false.2 ⟨b1,this⟩
theorem withinB_trans (e:Nat):∀ (d:Nat) (s t u:Ty),Ty.ok e d s→Ty.ok e d t→Ty.ok e d u→withinB d s t=true→withinB d t u=true→withinB d s u=true
  | 0,_,_,_,h,_,_,_,_=>h.elim
  | d + 1,s,t,u,hs,ht,hu,h1,h2=>by
    simp only [withinB] at h1 h2 ⊢
    by_cases k1:s.kind≠t.kind
    · rw [if_pos k1] at h1;cases h1
    rw [if_neg k1] at h1
    by_cases k2:t.kind≠u.kind
    · rw [if_pos k2] at h2;cases h2
    rw [if_neg k2] at h2
    have e1:t.kind=s.kind:=by omega
    have e2:u.kind=s.kind:=by omega
    rw [if_neg (by omega)]
    rw [e1] at h2
    have hst:s.kind=9∨s.kind=10→∀ x ∈ s.fields,offB (withinB d) t x=false→offB (withinB d) u (gT t (bQ (fM x)))=false→offB (withinB d) u x=false:=fun q x hx g1 g2 =>
      offB_trans (fun y hy h0 a b=>withinB_trans e d _ _ _ (Ty.ok_field hs q hx) (Ty.ok_field ht (by omega) hy) (Ty.ok_field hu (by omega) (getTF_mem h0)) a b) g1 g2
    by_cases c1:s.kind=1
    · rw [if_pos c1]
    rw [if_neg c1] at h1 h2 ⊢
    by_cases c4:s.kind=4
    · rw [if_pos c4] at h1 h2 ⊢
      exact txtsB_trans (txt_alt hs.1 c4) (txt_alt ht.1 (by omega)) h1 h2
    rw [if_neg c4] at h1 h2 ⊢
    by_cases c8:s.kind=8
    · rw [if_pos c8] at h1 h2 ⊢
      simp only [Bool.and_eq_true,Bool.or_eq_true,decide_eq_true_eq] at h1 h2 ⊢
      refine ⟨bndB_trans h1.1 h2.1,?_⟩
      have b1:=ownT_bnd hs.1 (.inr (.inr c8)) (ownT_nowords hs.1 c4)
      have b2:=h1.1
      unfold bndB at b2
      simp only [decide_eq_true_eq] at b2
      rcases h1.2 with q|q
      · exact .inl q
      · rcases h2.2 with r|r
        · exact .inl (by omega)
        · exact .inr (withinB_trans e d _ _ _ (Ty.ok_elem0 hs c8) (Ty.ok_elem0 ht (by omega)) (Ty.ok_elem0 hu (by omega)) q r)
    rw [if_neg c8] at h1 h2 ⊢
    by_cases c9:s.kind=9
    · rw [if_pos c9] at h1 h2 ⊢
      unfold recsB at h1 h2 ⊢
      rw [Bool.and_eq_true,anyN,anyN] at h1 h2 ⊢
      refine ⟨fun z hz=>missB_false.2 fun q=>?_,fun x hx=>?_⟩
      · have a1:=missB_false.1 (h2.1 z hz) q
        have hy:=getTF_mem a1
        have a2:=h2.2 _ hy
        obtain ⟨a3,a4⟩:=wrongB_false.1 a2
        have hn:=getTF_fName a1
        rw [hn] at a4
        rw [(getTF_name (ownT_nodup hu.1 (by omega)).2 hz).2] at a4
        have a5:=missB_false.1 (h1.1 _ hy) fun r=>q (a4 r)
        rw [hn] at a5
        exact a5
      · obtain ⟨a1,a2⟩:=wrongB_false.1 (h1.2 x hx)
        have a3:=(offB_false.1 a1).1
        obtain ⟨a4,a5⟩:=wrongB_false.1 (h2.2 _ (getTF_mem a3))
        refine wrongB_false.2 ⟨hst (.inl c9) x hx a1 a4,fun q=>?_⟩
        have:=a5 (a2 q)
        rw [getTF_fName a3] at this
        exact this
    rw [if_neg c9] at h1 h2 ⊢
    by_cases c10:s.kind=10
    · rw [if_pos c10] at h1 h2 ⊢
      unfold casesB at h1 h2 ⊢
      rw [anyN] at h1 h2 ⊢
      intro x hx
      have a1:=h1 x hx
      exact hst (.inr c10) x hx a1 (h2 _ (getTF_mem (offB_false.1 a1).1))
    rw [if_neg c10] at h1 h2 ⊢
    by_cases c3:s.kind=3
    · rw [if_pos c3] at h1 h2 ⊢
      simp only [Bool.and_eq_true,decide_eq_true_eq] at h1 h2 ⊢
      exact ⟨h1.1.trans h2.1,bndB_trans h1.2 h2.2⟩
    · rw [if_neg c3] at h1 h2 ⊢
      exact bndB_trans h1 h2
def repS (b:UInt8) (n:Nat):ByteArray:=⟨(List.replicate n b).toArray⟩
def oneS (b:UInt8):ByteArray:=⟨#[b]⟩
def candS (s:Ty) (i:Nat):ByteArray:=repS 97 (Max.max s.min 1 - 1).toNat++oneS (UInt8.ofNat (32+i))
def firstC (s t:Ty):Nat:=(List.range 95).findIdx fun i=>!txtB t (candS s i)
def otherV (s t:Ty):ByteArray×Bool :=
  if s.min=0∧txtB t ⟨#[]⟩=false then (⟨#[]⟩,true) else if 0<s.max∧firstC s t<95 then (candS s (firstC s t),true) else (⟨#[]⟩,false)
def wrongV (s t:Ty):ByteArray×Bool :=
  if 0<s.words.length then (if s.words.findIdx (fun w=>!txtB t w)<s.words.length then (s.words.getD (s.words.findIdx fun w=>!txtB t w) ⟨#[]⟩,true) else (⟨#[]⟩,false)) else
  if 0<t.words.length then otherV s t else
  if s.min<t.min then (repS 97 s.min.toNat,true) else if t.max<s.max then (repS 97 s.max.toNat,true) else (⟨#[]⟩,false)
theorem candS_inj {s:Ty} {i j:Nat} (hi:i<95) (hj:j<95) (h:candS s i=candS s j):i=j:=by
  have h1:(candS s i).data=(candS s j).data:=by rw [h]
  unfold candS at h1
  rw [ByteArray.data_append,ByteArray.data_append] at h1
  have h2:=Array.append_right_inj (xs:=(repS 97 (Max.max s.min 1 - 1).toNat).data) |>.1 h1
  simp only [oneS] at h2
  have h3:UInt8.ofNat (32+i)=UInt8.ofNat (32+j):=by simpa using h2
  have h4:=congrArg UInt8.toNat h3
  rw [UInt8.toNat_ofNat',UInt8.toNat_ofNat'] at h4
  omega
theorem firstC_lt {s t:Ty} (hw:0<t.words.length) (h64:t.words.length≤64):firstC s t<95:=by
  by_cases h:firstC s t<95
  · exact h
  · exfalso
    have hall:∀ i,i<95→txtB t (candS s i)=true:=fun i hi=>by
      cases q:txtB t (candS s i) with
      | true=>rfl
      | false =>
        have:firstC s t<(List.range 95).length:=List.findIdx_lt_length.2 ⟨i,List.mem_range.2 hi,by simp [q]⟩
        rw [List.length_range] at this
        exact absurd this h
    have hnd:((List.range 95).map (candS s)).Nodup:=by
      refine List.pairwise_map.2 ((List.nodup_range (n:=95)).imp_of_mem fun {a b} ha hb hne=>?_)
      exact fun q=>hne (candS_inj (List.mem_range.1 ha) (List.mem_range.1 hb) q)
    have:=nodup_few hnd fun x hx=>by
      obtain ⟨i,hi,rfl⟩:=List.mem_map.1 hx
      exact (txtB_in hw).1 (hall i (List.mem_range.1 hi))
    rw [List.length_map,List.length_range] at this
    omega
theorem wrongV_within {s t:Ty} (hs:ownT s=0) (ht:ownT t=0) (ks:s.kind=4) (kt:t.kind=4):(wrongV s t).2=!txtsB s t:=by
  have hz:(ByteArray.size ⟨#[]⟩:Nat)=0:=rfl
  unfold wrongV txtsB
  by_cases h1:0<s.words.length
  · rw [if_pos h1,if_pos h1,Bool.not_not]
    by_cases h2:s.words.findIdx (fun w=>!txtB t w)<s.words.length
    · rw [if_pos h2]
      obtain ⟨x,hx,hp⟩:=List.findIdx_lt_length.1 h2
      exact (List.any_eq_true.2 ⟨x,hx,hp⟩).symm
    · rw [if_neg h2]
      symm
      rw [List.any_eq_false]
      intro x hx hp
      exact h2 (List.findIdx_lt_length.2 ⟨x,hx,hp⟩)
  rw [if_neg h1,if_neg h1]
  have hb:=ownT_bnd hs (.inl ks) (by omega)
  by_cases h2:0<t.words.length
  · rw [if_pos h2,if_pos h2]
    unfold otherV
    by_cases c1:s.min=0∧txtB t ⟨#[]⟩=false
    · rw [if_pos c1,c1.2];simp
    rw [if_neg c1]
    by_cases c2:0<s.max
    · rw [if_pos ⟨c2,firstC_lt h2 (ownT_words ht kt).1⟩,decide_eq_false (by omega)];rfl
    · rw [if_neg (fun q=>c2 q.1),decide_eq_true (by omega)]
      cases q:txtB t ⟨#[]⟩ with
      | true=>rfl
      | false=>exact absurd ⟨by omega,q⟩ c1
  · rw [if_neg h2,if_neg h2]
    unfold bndB
    by_cases c1:s.min<t.min
    · rw [if_pos c1,decide_eq_false (by omega)];rfl
    rw [if_neg c1]
    by_cases c2:t.max<s.max
    · rw [if_pos c2,decide_eq_false (by omega)];rfl
    · rw [if_neg c2,decide_eq_true (by omega)];rfl
noncomputable instance tyDec:DecidableEq Ty:=fun _ _=>Classical.propDecidable _
instance (a b:ByteArray):Decidable (ltS a b):=inferInstanceAs (Decidable (a.data.toList<b.data.toList))
abbrev IncW (l:List ByteArray):Prop:=l.Pairwise ltS
theorem inc_ext:∀ {l m:List ByteArray},IncW l→IncW m→(∀ x,x ∈ l↔x ∈ m)→l=m
  | [],[],_,_,_=>rfl
  | [],b :: _,_,_,h=>by have:=(h b).2 (List.mem_cons_self ..);cases this
  | a :: _,[],_,_,h=>by have:=(h a).1 (List.mem_cons_self ..);cases this
  | a :: r,b :: s,hl,hm,h=>by
    obtain ⟨l1,l2⟩:=List.pairwise_cons.1 hl
    obtain ⟨m1,m2⟩:=List.pairwise_cons.1 hm
    have hab:a=b:=by
      rcases List.mem_cons.1 ((h a).1 (List.mem_cons_self ..)) with q|q
      · exact q
      · rcases List.mem_cons.1 ((h b).2 (List.mem_cons_self ..)) with q2|q2
        · exact q2.symm
        · exact (ltS_asymm (m1 a q) (l1 b q2)).elim
    subst hab
    rw [inc_ext l2 m2 fun x=>⟨fun hx=>?_,fun hx=>?_⟩]
    · rcases List.mem_cons.1 ((h x).1 (List.mem_cons_of_mem _ hx)) with q|q
      · subst q;exact (ltS_irrefl _ (l1 _ hx)).elim
      · exact q
    · rcases List.mem_cons.1 ((h x).2 (List.mem_cons_of_mem _ hx)) with q|q
      · subst q;exact (ltS_irrefl _ (m1 _ hx)).elim
      · exact q
def insW (x:ByteArray):List ByteArray→List ByteArray
  | []=>[x]
  | y :: r=>if x=y then y :: r else if ltS x y then x :: y :: r else y :: insW x r
def unionW (l:List ByteArray):List ByteArray:=l.foldr insW []
theorem insW_mem {x z:ByteArray}:∀ {l:List ByteArray},z ∈ insW x l↔z=x∨z ∈ l
  | []=>by simp [insW]
  | y :: r=>by
    simp only [insW]
    split
    · rename_i h;subst h
      simp only [List.mem_cons]
      constructor
      · intro h;exact .inr h
      · rintro (h|h)
        · exact .inl h
        · exact h
    split
    · simp only [List.mem_cons]
    · simp only [List.mem_cons,insW_mem (l:=r)]
      constructor
      · rintro (h|h|h)
        · exact .inr (.inl h)
        · exact .inl h
        · exact .inr (.inr h)
      · rintro (h|h|h)
        · exact .inr (.inl h)
        · exact .inl h
        · exact .inr (.inr h)
theorem insW_inc {x:ByteArray}:∀ {l:List ByteArray},IncW l→IncW (insW x l)
  | [],_=>by simp [insW]
  | y :: r,h=>by
    obtain ⟨h1,h2⟩:=List.pairwise_cons.1 h
    simp only [insW]
    split
    · exact h
    split
    · rename_i hlt
      refine List.pairwise_cons.2 ⟨fun z hz=>?_,h⟩
      rcases List.mem_cons.1 hz with q|q
      · subst q;exact hlt
      · exact ltS_trans hlt (h1 z q)
    · rename_i hne hnl
      refine List.pairwise_cons.2 ⟨fun z hz=>?_,insW_inc h2⟩
      rcases insW_mem.1 hz with q|q
      · subst q
        rcases ltS_tri z y with w|w|w
        · exact absurd w hnl
        · exact absurd w hne
        · exact w
      · exact h1 z q
theorem insW_len {x:ByteArray}:∀ {l:List ByteArray},(insW x l).length≤l.length+1
  | []=>by simp [insW]
  | y :: r=>by
    simp only [insW]
    split
    · simp
    split
    · simp
    · have:=insW_len (x:=x) (l:=r);simp only [List.length_cons];omega
theorem unionW_inc:∀ l:List ByteArray,IncW (unionW l)
  | []=>List.Pairwise.nil
  | x :: r=>insW_inc (unionW_inc r)
theorem unionW_mem {z:ByteArray}:∀ {l:List ByteArray},z ∈ unionW l↔z ∈ l
  | []=>by simp [unionW]
  | x :: r=>by
    show z ∈ insW x (unionW r)↔_
    rw [insW_mem,unionW_mem,List.mem_cons]
theorem unionW_len:∀ l:List ByteArray,(unionW l).length≤l.length
  | []=>Nat.le_refl _
  | x :: r=>by
    have h1:=insW_len (x:=x) (l:=unionW r)
    have h2:=unionW_len r
    show (insW x (unionW r)).length≤_
    simp only [List.length_cons];omega
theorem unionW_eq {l m:List ByteArray} (hm:IncW m) (h:∀ x,x ∈ m↔x ∈ l):m=unionW l:=inc_ext hm (unionW_inc l) fun x=>by rw [h,unionW_mem]
theorem inc_nodup {l:List ByteArray} (h:IncW l):l.Nodup:=h.imp fun {a b} q e=>by subst e;exact ltS_irrefl _ q
def loW:List ByteArray→Int→Int
  | [],a=>a
  | w :: r,a=>loW r (Min.min a w.size)
def hiW:List ByteArray→Int→Int
  | [],a=>a
  | w :: r,a=>hiW r (Max.max a w.size)
theorem loW_spec:∀ (l:List ByteArray) (a:Int),loW l a≤a∧(∀ w ∈ l,loW l a≤w.size)∧(loW l a=a∨∃ w ∈ l,loW l a=w.size)
  | [],a=>⟨Int.le_refl _,fun w h=>(by cases h),.inl rfl⟩
  | w :: r,a=>by
    obtain ⟨h1,h2,h3⟩:=loW_spec r (Min.min a w.size)
    simp only [loW]
    refine ⟨by omega,fun x hx=>?_,?_⟩
    · rcases List.mem_cons.1 hx with q|q
      · subst q;omega
      · exact h2 x q
    · rcases h3 with q|⟨x,hx,q⟩
      · by_cases c:a≤w.size
        · exact .inl (by omega)
        · exact .inr ⟨w,List.mem_cons_self ..,by omega⟩
      · exact .inr ⟨x,List.mem_cons_of_mem _ hx,q⟩
theorem hiW_spec:∀ (l:List ByteArray) (a:Int),a≤hiW l a∧(∀ w ∈ l,(w.size:Int)≤hiW l a)∧(hiW l a=a∨∃ w ∈ l,hiW l a=w.size)
  | [],a=>⟨Int.le_refl _,fun w h=>(by cases h),.inl rfl⟩
  | w :: r,a=>by
    obtain ⟨h1,h2,h3⟩:=hiW_spec r (Max.max a w.size)
    simp only [hiW]
    refine ⟨by omega,fun x hx=>?_,?_⟩
    · rcases List.mem_cons.1 hx with q|q
      · subst q;omega
      · exact h2 x q
    · rcases h3 with q|⟨x,hx,q⟩
      · by_cases c:(w.size:Int)≤a
        · exact .inl (by omega)
        · exact .inr ⟨w,List.mem_cons_self ..,by omega⟩
      · exact .inr ⟨x,List.mem_cons_of_mem _ hx,q⟩
def spanLo (t:Ty):Int:=if 0<t.words.length then loW t.words (t.words.getD 0 ⟨#[]⟩).size else t.min
def spanHi (t:Ty):Int:=if 0<t.words.length then hiW t.words (t.words.getD 0 ⟨#[]⟩).size else t.max
def wordsJ (t:Ty):List ByteArray:=if t.words.length=0∧t.max=0 then [⟨#[]⟩] else t.words
def textJ (s t:Ty):Ty :=
  if (0<(wordsJ s).length∧0<(wordsJ t).length)∧(unionW (wordsJ s++wordsJ t)).length≤64 then .mk 4 0 0 0 (unionW (wordsJ s++wordsJ t)) [] []
  else .mk 4 (Min.min (spanLo s) (spanLo t)) (Max.max (spanHi s) (spanHi t)) 0 [] [] []
def bndJ (s t:Ty) (l:List Ty):Ty:=.mk s.kind (Min.min s.min t.min) (Max.max s.max t.max) s.scale [] l []
noncomputable def joinT:Nat→Ty→Ty→Ty×Int
  | 0,_,_=>(default,0)
  | d + 1,s,t =>
    if s=t then (s,0) else
    if s.kind≠t.kind∨s.kind=9∨s.kind=10∨s.scale≠t.scale then (default,18) else
    if s.kind=4 then (textJ s t,0) else
    if s.kind=8 then
      if s.max=0 then (bndJ s t [t.elem.getD 0 default],0) else
      if t.max=0 then (bndJ s t [s.elem.getD 0 default],0) else
      if (joinT d (s.elem.getD 0 default) (t.elem.getD 0 default)).2≠0 then (default,(joinT d (s.elem.getD 0 default) (t.elem.getD 0 default)).2) else (bndJ s t [(joinT d (s.elem.getD 0 default) (t.elem.getD 0 default)).1],0)
    else (bndJ s t [],0)
theorem range_find {p:Nat→Bool} {n:Nat} (h:(List.range n).findIdx p<n):p ((List.range n).findIdx p)=true:=by
  obtain ⟨k,hk⟩:∃ k,k=(List.range n).findIdx p:=⟨_,rfl⟩
  have h':(List.range n).findIdx p<(List.range n).length:=by rw [List.length_range];exact h
  have:=List.findIdx_getElem (w:=h') (p:=p)
  have he:(List.range n)[(List.range n).findIdx p]'h'=(List.range n).findIdx p:=List.getElem_range ..
  rw [he] at this
  exact this
theorem repS_size (b:UInt8) (n:Nat):(repS b n).size=n:=by simp [repS,ByteArray.size]
theorem candS_size (s:Ty) (i:Nat):(candS s i).size=(Max.max s.min 1 - 1).toNat+1:=by
  unfold candS
  rw [ByteArray.size_append,repS_size];rfl
theorem txtsB_sem {s t:Ty} (hs:ownT s=0) (ht:ownT t=0) (ks:s.kind=4) (kt:t.kind=4):txtsB s t=true↔∀ w,txtB s w=true→txtB t w=true:=by
  refine ⟨fun h w hw=>txtB_sub (txt_alt hs ks) h hw,fun h=>txtsB_iff.2 ⟨fun q w hw=>h w ((txtB_in q).2 hw),fun q=>?_⟩⟩
  have hb:=ownT_bnd hs (.inl ks) (by omega)
  refine ⟨fun hv=>?_,fun hv=>?_⟩
  · have hm:s.max=0:=by
      by_cases c:0<s.max
      · exfalso
        have h1:=firstC_lt (s:=s) hv (ownT_words ht kt).1
        have h2:(!txtB t (candS s (firstC s t)))=true:=by
          exact range_find h1
        have h4:=h (candS s (firstC s t)) ((txtB_bnd q).2 (by rw [candS_size];omega))
        rw [h4] at h2;cases h2
      · omega
    exact ⟨hm,h _ ((txtB_bnd q).2 (by show s.min≤((0:Nat):Int)∧((0:Nat):Int)≤s.max;omega))⟩
  · have h1:=(txtB_bnd hv).1 (h (repS 97 s.min.toNat) ((txtB_bnd q).2 (by rw [repS_size];omega)))
    have h2:=(txtB_bnd hv).1 (h (repS 97 s.max.toNat) ((txtB_bnd q).2 (by rw [repS_size];omega)))
    rw [repS_size] at h1 h2
    omega
theorem wordsJ_mem {t:Ty} (ht:ownT t=0) (kt:t.kind=4) (h:0<(wordsJ t).length) {w:ByteArray}:txtB t w=true↔w ∈ wordsJ t:=by
  unfold wordsJ at h ⊢
  split
  · rename_i q
    have hb:=ownT_bnd ht (.inl kt) q.1
    rw [txtB_bnd (by omega),List.mem_singleton]
    constructor
    · intro z;exact (bytes_empty w).2 (by omega)
    · intro z;subst z;show t.min≤((0:Nat):Int)∧((0:Nat):Int)≤t.max;omega
  · rename_i q
    rw [if_neg q] at h
    exact txtB_in h
theorem span_le {t:Ty} {w:ByteArray} (h:txtB t w=true):spanLo t≤w.size∧w.size≤spanHi t:=by
  unfold spanLo spanHi
  by_cases q:0<t.words.length
  · rw [if_pos q,if_pos q]
    have hw:=(txtB_in q).1 h
    exact ⟨(loW_spec t.words _).2.1 w hw,(hiW_spec t.words _).2.1 w hw⟩
  · rw [if_neg q,if_neg q]
    exact (txtB_bnd q).1 h
theorem span_at {t:Ty} (ht:ownT t=0) (kt:t.kind=4):(∃ w,txtB t w=true∧(w.size:Int)=spanLo t)∧(∃ w,txtB t w=true∧(w.size:Int)=spanHi t):=by
  unfold spanLo spanHi
  by_cases q:0<t.words.length
  · rw [if_pos q,if_pos q]
    have h0:t.words.getD 0 ⟨#[]⟩ ∈ t.words:=gD q
    constructor
    · rcases (loW_spec t.words (t.words.getD 0 ⟨#[]⟩).size).2.2 with h|⟨w,hw,h⟩
      · exact ⟨_,(txtB_in q).2 h0,h.symm⟩
      · exact ⟨w,(txtB_in q).2 hw,h.symm⟩
    · rcases (hiW_spec t.words (t.words.getD 0 ⟨#[]⟩).size).2.2 with h|⟨w,hw,h⟩
      · exact ⟨_,(txtB_in q).2 h0,h.symm⟩
      · exact ⟨w,(txtB_in q).2 hw,h.symm⟩
  · rw [if_neg q,if_neg q]
    have hb:=ownT_bnd ht (.inl kt) (by omega)
    exact ⟨⟨repS 97 t.min.toNat,(txtB_bnd q).2 (by rw [repS_size];omega),by rw [repS_size];omega⟩,⟨repS 97 t.max.toNat,(txtB_bnd q).2 (by rw [repS_size];omega),by rw [repS_size];omega⟩⟩
theorem textJ_up {s t:Ty} (hs:ownT s=0) (ht:ownT t=0) (ks:s.kind=4) (kt:t.kind=4) {w:ByteArray} (h:txtB s w=true∨txtB t w=true):txtB (textJ s t) w=true:=by
  unfold textJ
  split
  · rename_i q
    have hm:w ∈ unionW (wordsJ s++wordsJ t):=by
      rw [unionW_mem,List.mem_append]
      rcases h with h|h
      · exact .inl ((wordsJ_mem hs ks q.1.1).1 h)
      · exact .inr ((wordsJ_mem ht kt q.1.2).1 h)
    exact (txtB_in (t:=.mk 4 0 0 0 (unionW (wordsJ s++wordsJ t)) [] []) (List.length_pos_of_mem hm)).2 hm
  · refine (txtB_bnd (t:=.mk 4 _ _ 0 [] [] []) (Nat.lt_irrefl _)).2 ?_
    show Min.min (spanLo s) (spanLo t)≤w.size∧w.size≤Max.max (spanHi s) (spanHi t)
    rcases h with h|h
    · have:=span_le h;omega
    · have:=span_le h;omega
theorem textJ_least {s t u:Ty} (hs:ownT s=0) (ht:ownT t=0) (hu:ownT u=0) (ks:s.kind=4) (kt:t.kind=4) (ku:u.kind=4) (h1:txtsB s u=true) (h2:txtsB t u=true) {w:ByteArray} (h:txtB (textJ s t) w=true):txtB u w=true:=by
  have g1:=(txtsB_sem hs hu ks ku).1 h1
  have g2:=(txtsB_sem ht hu kt ku).1 h2
  unfold textJ at h
  split at h
  · rename_i q
    have hne:0<(unionW (wordsJ s++wordsJ t)).length:=by
      obtain ⟨x,hx⟩:∃ x,x ∈ wordsJ s:=⟨(wordsJ s)[0],List.getElem_mem q.1.1⟩
      exact List.length_pos_of_mem (unionW_mem.2 (List.mem_append_left _ hx))
    have hm:=(txtB_in (t:=.mk 4 0 0 0 (unionW (wordsJ s++wordsJ t)) [] []) hne).1 h
    rcases List.mem_append.1 (unionW_mem.1 hm) with z|z
    · exact g1 w ((wordsJ_mem hs ks q.1.1).2 z)
    · exact g2 w ((wordsJ_mem ht kt q.1.2).2 z)
  · rename_i q
    have hb:=(txtB_bnd (t:=.mk 4 _ _ 0 [] [] []) (Nat.lt_irrefl _)).1 h
    have hb':Min.min (spanLo s) (spanLo t)≤w.size∧w.size≤Max.max (spanHi s) (spanHi t):=hb
    have hnj:∀ {x:Ty},ownT x=0→x.kind=4→txtsB x u=true→0<u.words.length→0<(wordsJ x).length:=fun {x} hx kx hxu hw=>by
      by_cases c:0<x.words.length
      · unfold wordsJ;rw [if_neg (by omega)];exact c
      · have:=((txtsB_iff.1 hxu).2 c).1 hw
        unfold wordsJ;rw [if_pos ⟨by omega,this.1⟩];exact Nat.one_pos
    by_cases hw:0<u.words.length
    · exfalso
      have p1:=hnj hs ks h1 hw
      have p2:=hnj ht kt h2 hw
      refine q ⟨⟨p1,p2⟩,?_⟩
      have:=nodup_few (inc_nodup (unionW_inc (wordsJ s++wordsJ t))) (m:=u.words) fun x hx=>by
        rcases List.mem_append.1 (unionW_mem.1 hx) with z|z
        · exact (txtB_in hw).1 (g1 x ((wordsJ_mem hs ks p1).2 z))
        · exact (txtB_in hw).1 (g2 x ((wordsJ_mem ht kt p2).2 z))
      have h64:=(ownT_words hu ku).1
      omega
    · obtain ⟨⟨a1,b1,c1⟩,⟨a2,b2,c2⟩⟩:=span_at hs ks
      obtain ⟨⟨a3,b3,c3⟩,⟨a4,b4,c4⟩⟩:=span_at ht kt
      have d1:=(txtB_bnd hw).1 (g1 a1 b1)
      have d2:=(txtB_bnd hw).1 (g1 a2 b2)
      have d3:=(txtB_bnd hw).1 (g2 a3 b3)
      have d4:=(txtB_bnd hw).1 (g2 a4 b4)
      exact (txtB_bnd hw).2 (by omega)
end Go.Ai
