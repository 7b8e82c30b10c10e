/- Plain facts on types and rows that the texts of chapter 10 showed first. -/
import Derived.Test.YtalghhdapjmbbaaGreatDoorTyF
import Derived.Test.YtalghhdapjmbbaaGreatDoorOrd
import Derived.Test.YtalghhdapjmbbaaGreatDoorTot
set_option linter.all false
namespace Go.Ai
open Go Go.Proofs
set_option maxRecDepth 100000
set_option maxHeartbeats 1000000
theorem ownT_nodup {t:Ty} (h:ownT t=0) (hk:t.kind=9∨t.kind=10):(t.fields.map fNum).Nodup∧(t.fields.map fM).Nodup:=by
  have key:∀ i j,i<j→∀ (hi:i<t.fields.length) (hj:j<t.fields.length),fM t.fields[i]≠fM t.fields[j]∧fNum t.fields[i]≠fNum t.fields[j]:=fun i j hij hi hj=>by
    have h1:=ownT_field h hk hj
    simp only [fieldE,fldE,List.getD_eq_getElem?_getD,List.getElem?_eq_getElem hj,Option.getD_some] at h1
    have h2:dupB t.fields j t.fields[j]=false:=by grind
    simp only [dupB,List.any_eq_false] at h2
    have h3:=h2 t.fields[i] (List.mem_take_iff_getElem.2 ⟨i,by omega,rfl⟩)
    simp at h3
    exact h3
  constructor
  · rw [List.Nodup,List.pairwise_map,List.pairwise_iff_getElem]
    exact fun i j hi hj hij=>(key i j hij hi hj).2
  · rw [List.Nodup,List.pairwise_map,List.pairwise_iff_getElem]
    exact fun i j hi hj hij=>(key i j hij hi hj).1
theorem idxI_hit {α:Type} {p:α→Bool} {l:List α} {x:α} (h:0≤iI p l):p (l.getD (iI p l).toNat x)=true:=by
  unfold iI at h ⊢
  split at h
  · rename_i hlt
    rw [if_pos hlt,Int.toNat_natCast,List.getD_eq_getElem?_getD,List.getElem?_eq_getElem hlt,Option.getD_some]
    exact List.findIdx_getElem
  · omega
theorem idxI_of_mem {α:Type} {p:α→Bool} {l:List α} {x:α} (h:x ∈ l) (hp:p x=true):0≤iI p l:=by
  have:List.findIdx p l<l.length:=List.findIdx_lt_length.2 ⟨x,h,hp⟩
  unfold iI
  rw [if_pos this];omega
theorem getTF_name {t:Ty} (hn:(t.fields.map fM).Nodup) {f:TF} (hf:f ∈ t.fields):0≤iI (bQ (fM f)) t.fields∧gT t (bQ (fM f))=f:=by
  have h0:0≤iI (bQ (fM f)) t.fields:=idxI_of_mem hf (by simp [bQ])
  refine ⟨h0,?_⟩
  have h1:fM (gT t (bQ (fM f)))=fM f:=by
    have:=idxI_hit (x:=default) h0
    simpa [bQ,gT] using this
  have hm:=getTF_mem h0
  obtain ⟨i,hi,hfi⟩:=List.getElem_of_mem hf
  obtain ⟨j,hj,hgj⟩:=List.getElem_of_mem hm
  have:i=j:=(List.getElem_inj (h₀:=by simpa using hi) (h₁:=by simpa using hj) hn).1 (by simp only [List.getElem_map];rw [hfi,hgj,h1])
  subst this
  rw [← hgj,hfi]
theorem maxTo_base {g:Nat→Int} {m:Int}:∀ (n:Nat),m≤maxTo g m n
  | 0=>Int.le_refl _
  | n+1=>by
    have:=maxTo_base (g:=g) (m:=m) n
    simp only [maxTo]
    omega
def bndB (s t:Ty):Bool:=decide (t.min≤s.min∧s.max≤t.max)
def txtB (t:Ty) (w:ByteArray):Bool:=if 0<t.words.length then inWords t.words w else decide (t.min≤w.size∧w.size≤t.max)
def txtsB (s t:Ty):Bool:=if 0<s.words.length then !(s.words.any fun w=>!txtB t w) else if 0<t.words.length then decide (s.max=0) && txtB t ⟨#[]⟩ else bndB s t
def offB (f:Ty→Ty→Bool) (t:Ty) (x:TF):Bool:=decide (iI (bQ (fM x)) t.fields<0) || !f (fT x) (fT (gT t (bQ (fM x))))
def wrongB (f:Ty→Ty→Bool) (t:Ty) (x:TF):Bool:=offB f t x || (decide (fN x=2) && !decide (fN (gT t (bQ (fM x)))=2))
def missB (s:Ty) (y:TF):Bool:=decide (fN y≠2) && decide (iI (bQ (fM y)) s.fields<0)
def recsB (f:Ty→Ty→Bool) (s t:Ty):Bool:=!(t.fields.any (missB s)) && !(s.fields.any (wrongB f t))
def casesB (f:Ty→Ty→Bool) (s t:Ty):Bool:=!(s.fields.any (offB f t))
def withinB:Nat→Ty→Ty→Bool
  | 0,_,_=>false
  | d+1,s,t =>
    if s.kind≠t.kind then false else
    if s.kind=1 then true else
    if s.kind=4 then txtsB s t else
    if s.kind=8 then bndB s t && (decide (s.max=0) || withinB d (s.elem.getD 0 default) (t.elem.getD 0 default)) else
    if s.kind=9 then recsB (withinB d) s t else
    if s.kind=10 then casesB (withinB d) s t else
    if s.kind=3 then decide (s.scale=t.scale) && bndB s t else bndB s t
theorem ownT_kind {t:Ty} (h:ownT t=0):1≤t.kind∧t.kind≤10:=by
  unfold ownT at h
  split at h
  · cases h
  · omega
theorem ownT_bnd {t:Ty} (h:ownT t=0) (hk:t.kind=4∨t.kind=5∨t.kind=8) (hw:t.words.length=0):0≤t.min∧t.min≤t.max∧t.max≤1024:=by
  unfold ownT at h
  split at h
  · cases h
  split at h
  · cases h
  rw [if_neg (by omega)] at h
  split at h
  · cases h
  · rename_i hb
    have h1:kLo t.kind=0:=by unfold kLo;rw [if_neg (by omega),if_neg (by omega),if_neg (by omega)]
    have h2:kHi t.kind≤1024:=by
      unfold kHi
      rcases hk with hk|hk|hk<;>rw [hk]<;>decide
    omega
theorem wordsE_zero {t:Ty} (h:ownT t=0) (hk:t.kind=4) (hw:0<t.words.length):wordsE t=0:=by
  unfold ownT at h
  split at h
  · cases h
  split at h
  · cases h
  rw [if_pos ⟨hk,hw⟩] at h
  exact h
theorem ownT_words {t:Ty} (h:ownT t=0) (hk:t.kind=4):t.words.length≤64∧(0<t.words.length→t.min=0∧t.max=0):=by
  by_cases hw:0<t.words.length
  · have h1:=wordsE_zero h hk hw
    unfold wordsE at h1
    split at h1
    · cases h1
    split at h1
    · cases h1
    · exact ⟨by omega,fun _=>by omega⟩
  · exact ⟨by omega,fun q=>absurd q hw⟩
theorem ownT_nowords {t:Ty} (h:ownT t=0) (hk:t.kind≠4):t.words.length=0:=by
  have h1:=ownT_form h
  unfold formE at h1
  grind
theorem Ty.ok_elem0 {e d:Nat} {t:Ty} (h:Ty.ok e (d+1) t) (hk:t.kind=8):Ty.ok e d (t.elem.getD 0 default) :=
  Ty.ok_elem h hk (gD (by have:=ownT_elem h.1 hk;omega))
theorem bndB_refl (t:Ty):bndB t t=true:=by simp [bndB]
theorem inWords_iff {l:List ByteArray} {w:ByteArray}:inWords l w=true↔w ∈ l:=by
  unfold inWords
  rw [List.any_eq_true]
  constructor
  · rintro ⟨x,hx,hp⟩
    rw [of_decide_eq_true hp];exact hx
  · intro h;exact ⟨w,h,by simp⟩
theorem txtsB_refl (t:Ty):txtsB t t=true:=by
  unfold txtsB
  split
  · rename_i h
    rw [Bool.not_eq_true',List.any_eq_false]
    intro w hw
    unfold txtB
    rw [if_pos h,inWords_iff.2 hw];simp
  · exact bndB_refl t
theorem offB_false {f:Ty→Ty→Bool} {t:Ty} {x:TF}:offB f t x=false↔0≤iI (bQ (fM x)) t.fields∧f (fT x) (fT (gT t (bQ (fM x))))=true:=by
  unfold offB
  rw [Bool.or_eq_false_iff,decide_eq_false_iff_not,Bool.not_eq_false']
  simp only [Int.not_lt]
theorem wrongB_false {f:Ty→Ty→Bool} {t:Ty} {x:TF}:wrongB f t x=false↔offB f t x=false∧(fN x=2→fN (gT t (bQ (fM x)))=2):=by
  unfold wrongB
  rw [Bool.or_eq_false_iff,Bool.and_eq_false_iff,Bool.not_eq_false',decide_eq_false_iff_not,decide_eq_true_eq]
  constructor
  · rintro ⟨a,b⟩;exact ⟨a,fun q=>b.resolve_left (fun z=>z q)⟩
  · rintro ⟨a,b⟩;exact ⟨a,by by_cases q:fN x=2<;>simp [q,b]⟩
theorem missB_false {s:Ty} {y:TF}:missB s y=false↔(fN y≠2→0≤iI (bQ (fM y)) s.fields):=by
  unfold missB
  rw [Bool.and_eq_false_iff,decide_eq_false_iff_not,decide_eq_false_iff_not]
  constructor
  · rintro (a|a) q
    · exact absurd q a
    · omega
  · intro a
    by_cases q:fN y≠2
    · exact .inr (by have:=a q;omega)
    · exact .inl q
theorem anyN {α:Type} {l:List α} {p:α→Bool}:(!(l.any p))=true↔∀ x ∈ l,p x=false:=by
  rw [Bool.not_eq_true',List.any_eq_false]
  exact ⟨fun h x hx=>by simpa using h x hx,fun h x hx=>by simp [h x hx]⟩
theorem withinB_refl (e:Nat):∀ (d:Nat) (t:Ty),Ty.ok e d t→withinB d t t=true
  | 0,_,h=>h.elim
  | d + 1,t,h=>by
    have hk:=ownT_kind h.1
    have hf:t.kind=9∨t.kind=10→∀ f ∈ t.fields,offB (withinB d) t f=false∧gT t (bQ (fM f))=f:=fun q f hf=>by
      obtain ⟨g1,g2⟩:=getTF_name (ownT_nodup h.1 q).2 hf
      exact ⟨offB_false.2 ⟨g1,by rw [g2];exact withinB_refl e d _ (Ty.ok_field h q hf)⟩,g2⟩
    simp only [withinB]
    rw [if_neg (by simp)]
    split
    · rfl
    split
    · exact txtsB_refl t
    split
    · rename_i q
      rw [bndB_refl,withinB_refl e d _ (Ty.ok_elem0 h q)];simp
    split
    · rename_i q
      unfold recsB
      rw [Bool.and_eq_true,anyN,anyN]
      refine ⟨fun x hx=>missB_false.2 fun _=>(getTF_name (ownT_nodup h.1 (.inl q)).2 hx).1,fun x hx=>?_⟩
      obtain ⟨g1,g2⟩:=hf (.inl q) x hx
      exact wrongB_false.2 ⟨g1,by rw [g2];exact fun z=>z⟩
    split
    · rename_i q
      unfold casesB
      rw [anyN]
      exact fun x hx=>(hf (.inr q) x hx).1
    split
    · rw [bndB_refl];simp
    · exact bndB_refl t
def repS (b:UInt8) (n:Nat):ByteArray:=⟨(List.replicate n b).toArray⟩
def oneS (b:UInt8):ByteArray:=⟨#[b]⟩
def candS (s:Ty) (i:Nat):ByteArray:=repS 97 (Max.max s.min 1 - 1).toNat++oneS (UInt8.ofNat (32+i))
def firstC (s t:Ty):Nat:=(List.range 95).findIdx fun i=>!txtB t (candS s i)
noncomputable instance tyDec:DecidableEq Ty:=fun _ _=>Classical.propDecidable _
instance (a b:ByteArray):Decidable (ltS a b):=inferInstanceAs (Decidable (a.data.toList<b.data.toList))
abbrev IncW (l:List ByteArray):Prop:=l.Pairwise ltS
theorem inc_ext:∀ {l m:List ByteArray},IncW l→IncW m→(∀ x,x ∈ l↔x ∈ m)→l=m
  | [],[],_,_,_=>rfl
  | [],b :: _,_,_,h=>by have:=(h b).2 (List.mem_cons_self ..);cases this
  | a :: _,[],_,_,h=>by have:=(h a).1 (List.mem_cons_self ..);cases this
  | a :: r,b :: s,hl,hm,h=>by
    obtain ⟨l1,l2⟩:=List.pairwise_cons.1 hl
    obtain ⟨m1,m2⟩:=List.pairwise_cons.1 hm
    have hab:a=b:=by
      rcases List.mem_cons.1 ((h a).1 (List.mem_cons_self ..)) with q|q
      · exact q
      · rcases List.mem_cons.1 ((h b).2 (List.mem_cons_self ..)) with q2|q2
        · exact q2.symm
        · exact (ltS_asymm (m1 a q) (l1 b q2)).elim
    subst hab
    rw [inc_ext l2 m2 fun x=>⟨fun hx=>?_,fun hx=>?_⟩]
    · rcases List.mem_cons.1 ((h x).1 (List.mem_cons_of_mem _ hx)) with q|q
      · subst q;exact (ltS_irrefl _ (l1 _ hx)).elim
      · exact q
    · rcases List.mem_cons.1 ((h x).2 (List.mem_cons_of_mem _ hx)) with q|q
      · subst q;exact (ltS_irrefl _ (m1 _ hx)).elim
      · exact q
def insW (x:ByteArray):List ByteArray→List ByteArray
  | []=>[x]
  | y :: r=>if x=y then y :: r else if ltS x y then x :: y :: r else y :: insW x r
def unionW (l:List ByteArray):List ByteArray:=l.foldr insW []
theorem insW_mem {x z:ByteArray}:∀ {l:List ByteArray},z ∈ insW x l↔z=x∨z ∈ l
  | []=>by simp [insW]
  | y :: r=>by
    simp only [insW]
    split
    · rename_i h;subst h
      simp only [List.mem_cons]
      constructor
      · intro h;exact .inr h
      · rintro (h|h)
        · exact .inl h
        · exact h
    split
    · simp only [List.mem_cons]
    · simp only [List.mem_cons,insW_mem (l:=r)]
      constructor
      · rintro (h|h|h)
        · exact .inr (.inl h)
        · exact .inl h
        · exact .inr (.inr h)
      · rintro (h|h|h)
        · exact .inr (.inl h)
        · exact .inl h
        · exact .inr (.inr h)
theorem insW_inc {x:ByteArray}:∀ {l:List ByteArray},IncW l→IncW (insW x l)
  | [],_=>by simp [insW]
  | y :: r,h=>by
    obtain ⟨h1,h2⟩:=List.pairwise_cons.1 h
    simp only [insW]
    split
    · exact h
    split
    · rename_i hlt
      refine List.pairwise_cons.2 ⟨fun z hz=>?_,h⟩
      rcases List.mem_cons.1 hz with q|q
      · subst q;exact hlt
      · exact ltS_trans hlt (h1 z q)
    · rename_i hne hnl
      refine List.pairwise_cons.2 ⟨fun z hz=>?_,insW_inc h2⟩
      rcases insW_mem.1 hz with q|q
      · subst q
        rcases ltS_tri z y with w|w|w
        · exact absurd w hnl
        · exact absurd w hne
        · exact w
      · exact h1 z q
theorem unionW_inc:∀ l:List ByteArray,IncW (unionW l)
  | []=>List.Pairwise.nil
  | x :: r=>insW_inc (unionW_inc r)
theorem unionW_mem {z:ByteArray}:∀ {l:List ByteArray},z ∈ unionW l↔z ∈ l
  | []=>by simp [unionW]
  | x :: r=>by
    show z ∈ insW x (unionW r)↔_
    rw [insW_mem,unionW_mem,List.mem_cons]
theorem unionW_eq {l m:List ByteArray} (hm:IncW m) (h:∀ x,x ∈ m↔x ∈ l):m=unionW l:=inc_ext hm (unionW_inc l) fun x=>by rw [h,unionW_mem]
def loW:List ByteArray→Int→Int
  | [],a=>a
  | w :: r,a=>loW r (Min.min a w.size)
def hiW:List ByteArray→Int→Int
  | [],a=>a
  | w :: r,a=>hiW r (Max.max a w.size)
def spanLo (t:Ty):Int:=if 0<t.words.length then loW t.words (t.words.getD 0 ⟨#[]⟩).size else t.min
def spanHi (t:Ty):Int:=if 0<t.words.length then hiW t.words (t.words.getD 0 ⟨#[]⟩).size else t.max
def wordsJ (t:Ty):List ByteArray:=if t.words.length=0∧t.max=0 then [⟨#[]⟩] else t.words
def textJ (s t:Ty):Ty :=
  if (0<(wordsJ s).length∧0<(wordsJ t).length)∧(unionW (wordsJ s++wordsJ t)).length≤64 then .mk 4 0 0 0 (unionW (wordsJ s++wordsJ t)) [] []
  else .mk 4 (Min.min (spanLo s) (spanLo t)) (Max.max (spanHi s) (spanHi t)) 0 [] [] []
def bndJ (s t:Ty) (l:List Ty):Ty:=.mk s.kind (Min.min s.min t.min) (Max.max s.max t.max) s.scale [] l []
noncomputable def joinT:Nat→Ty→Ty→Ty×Int
  | 0,_,_=>(default,0)
  | d + 1,s,t =>
    if s=t then (s,0) else
    if s.kind≠t.kind∨s.kind=9∨s.kind=10∨s.scale≠t.scale then (default,18) else
    if s.kind=4 then (textJ s t,0) else
    if s.kind=8 then
      if s.max=0 then (bndJ s t [t.elem.getD 0 default],0) else
      if t.max=0 then (bndJ s t [s.elem.getD 0 default],0) else
      if (joinT d (s.elem.getD 0 default) (t.elem.getD 0 default)).2≠0 then (default,(joinT d (s.elem.getD 0 default) (t.elem.getD 0 default)).2) else (bndJ s t [(joinT d (s.elem.getD 0 default) (t.elem.getD 0 default)).1],0)
    else (bndJ s t [],0)
theorem repS_size (b:UInt8) (n:Nat):(repS b n).size=n:=by simp [repS,ByteArray.size]
theorem candS_size (s:Ty) (i:Nat):(candS s i).size=(Max.max s.min 1 - 1).toNat+1:=by
  unfold candS
  rw [ByteArray.size_append,repS_size];rfl
end Go.Ai
