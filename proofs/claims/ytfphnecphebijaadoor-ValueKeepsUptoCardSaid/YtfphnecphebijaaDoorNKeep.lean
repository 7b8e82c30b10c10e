/- 'ValueKeeps', the plain law: a valid record with a field that is set is valid. -/
import Derived.Test.YtfphnecphebijaaDoorNCheck
import Derived.Test.YtfphnecphebijaaDoorNSetsL
import Derived.Test.YtfphnecphebijaaDoorNClo
import Derived.Test.YtfphnecphebijaaDoorNVal
namespace Go.Ai
open Go Go.Proofs
set_option maxRecDepth 100000

theorem firstI_all {f : Nat → Int} : ∀ {n : Nat}, firstI f n = 0 ↔ ∀ k, k < n → f k = 0
  | 0 => ⟨fun _ k h => by omega, fun _ => rfl⟩
  | n + 1 => by
    refine ⟨fun h k hk => firstI_nz hk h, fun h => ?_⟩
    have := (firstI_all (f := f) (n := n)).2 fun k hk => h k (by omega)
    simp only [firstI, this]
    simpa using h n (by omega)

theorem checkE_zero {vs : ByteArray → Bool} {l : List (Int × Nat × V)} : checkE vs l = 0 ↔ l.length ≤ 4096 ∧ ∀ p ∈ l, p.1 ≤ 8 ∧ ownE vs p.2.2 = 0 := by
  unfold checkE
  rw [firstI_all]
  have at_ : ∀ k (p : Int × Nat × V), l[k]? = some p → checkAt vs l k = if 4096 ≤ k then 9 else if 8 < p.1 then 23 else ownE vs p.2.2 := fun k p hp => by unfold checkAt; rw [hp]
  constructor
  · intro h
    have hlen : l.length ≤ 4096 := by
      refine Nat.le_of_not_lt fun q => ?_
      have := h 4096 q
      rw [at_ 4096 _ (List.getElem?_eq_getElem q), if_pos (Nat.le_refl _)] at this
      cases this
    refine ⟨hlen, fun p hp => ?_⟩
    obtain ⟨k, hk, e⟩ := List.mem_iff_getElem.1 hp
    have := h k hk
    rw [at_ k p (by rw [List.getElem?_eq_getElem hk, e]), if_neg (by omega)] at this
    by_cases q : 8 < p.1
    · rw [if_pos q] at this; cases this
    · rw [if_neg q] at this; exact ⟨by omega, this⟩
  · rintro ⟨h1, h2⟩ k hk
    obtain ⟨q1, q2⟩ := h2 _ (List.getElem_mem hk)
    rw [at_ k _ (List.getElem?_eq_getElem hk), if_neg (by omega), if_neg (by omega), q2]

theorem preV_shift : ∀ (d : Nat) (l : Int) (v : V), preV d (l + 1) v = (preV d l v).map fun p => (p.1 + 1, p.2)
  | 0, _, _ => rfl
  | d + 1, l, v => by
    simp only [preV, List.map_cons, List.map_flatten, List.map_map]
    congr 3
    funext x
    exact preV_shift d (l + 1) x

theorem le_foldl_max : ∀ (l : List Nat) (a : Nat), a ≤ l.foldl max a ∧ ∀ x ∈ l, x ≤ l.foldl max a
  | [], a => ⟨Nat.le_refl _, fun x h => by cases h⟩
  | y :: r, a => by
    obtain ⟨h1, h2⟩ := le_foldl_max r (max a y)
    simp only [List.foldl_cons]
    refine ⟨by omega, fun x hx => ?_⟩
    rcases List.mem_cons.1 hx with rfl | hx
    · omega
    · exact h2 x hx

theorem preV_lvl : ∀ (d : Nat) (l : Int) (v : V) (p : Int × Nat × V), p ∈ preV d l v → p.1 < l + depthV d v
  | 0, _, _, p, h => by cases h
  | d + 1, l, v, p, h => by
    simp only [preV, List.mem_cons, List.mem_flatten, List.mem_map] at h
    rcases h with rfl | ⟨q, ⟨y, hy, rfl⟩, hq⟩
    · simp only [depthV]; omega
    · have h1 := preV_lvl d (l + 1) y p hq
      have h2 := (le_foldl_max ((kids v).map (depthV d)) 0).2 _ (List.mem_map.2 ⟨y, hy, rfl⟩)
      simp only [depthV]
      omega

theorem fieldsE_zero {l : List (ByteArray × V)} : ∀ {n : Nat}, fieldsE l n = 0 ↔ ∀ i, i < n → isName (l.getD i default).1 = true ∧ (0 < i → (l.getD i default).1 ≠ (l.getD (i - 1) default).1 ∧ ltB (l.getD i default).1 (l.getD (i - 1) default).1 = false)
  | 0 => ⟨fun _ i h => by omega, fun _ => rfl⟩
  | n + 1 => by
    constructor
    · intro h i hi
      have h0 : fieldsE l n = 0 := by
        simp only [fieldsE] at h
        split at h
        · exact h
        · rename_i q; simpa using q
      rcases Nat.lt_succ_iff_lt_or_eq.1 hi with hi | rfl
      · exact fieldsE_zero.1 h0 i hi
      · simp only [fieldsE, h0] at h
        rw [if_neg (by simp)] at h
        by_cases q1 : isName (l.getD i default).1 = false
        · rw [if_pos q1] at h; cases h
        · rw [if_neg q1] at h
          refine ⟨by simpa using q1, fun hi0 => ?_⟩
          by_cases q2 : (l.getD i default).1 = (l.getD (i - 1) default).1
          · rw [if_pos ⟨hi0, q2⟩] at h; cases h
          · rw [if_neg (fun q => q2 q.2)] at h
            refine ⟨q2, ?_⟩
            by_cases q3 : ltB (l.getD i default).1 (l.getD (i - 1) default).1 = true
            · rw [if_pos ⟨hi0, q3⟩] at h; cases h
            · simpa using q3
    · intro h
      have h0 := (fieldsE_zero (l := l) (n := n)).2 fun i hi => h i (by omega)
      obtain ⟨q1, q2⟩ := h n (by omega)
      simp only [fieldsE, h0]
      rw [if_neg (fun q => q rfl), if_neg (fun q => by rw [q1] at q; cases q), if_neg (fun q => (q2 q.1).1 q.2), if_neg (fun q => by have := (q2 q.1).2; rw [this] at q; cases q.2)]

theorem ltB_iff (a b : ByteArray) : ltB a b = true ↔ ltS a b := by
  unfold ltB
  rw [bytesLess_lt, ByteArray.toList_eq, ByteArray.toList_eq, decide_eq_true_eq]
  rfl

theorem next_lt {a b : ByteArray} : (b ≠ a ∧ ltB b a = false) ↔ ltS a b := by
  constructor
  · rintro ⟨h1, h2⟩
    rcases ltS_tri a b with h | h | h
    · exact h
    · exact absurd h.symm h1
    · rw [(ltB_iff b a).2 h] at h2; cases h2
  · intro h
    refine ⟨fun e => by subst e; exact ltS_irrefl _ h, ?_⟩
    cases q : ltB b a with
    | false => rfl
    | true => exact (ltS_asymm h ((ltB_iff b a).1 q)).elim

def Names (l : List (ByteArray × V)) : Prop := ∀ i, i < l.length → isName (l.getD i default).1 = true ∧ (0 < i → ltS (l.getD (i - 1) default).1 (l.getD i default).1)

theorem rule9_zero {l : List (ByteArray × V)} : rule9 l = 0 ↔ l.length ≤ 64 ∧ Names l := by
  unfold rule9 Names
  by_cases h : 64 < l.length
  · rw [if_pos h]; exact ⟨fun q => (by cases q), fun q => (by omega)⟩
  · rw [if_neg h, fieldsE_zero]
    refine ⟨fun q => ⟨by omega, fun i hi => ⟨(q i hi).1, fun h0 => next_lt.1 ((q i hi).2 h0)⟩⟩, fun q i hi => ⟨(q.2 i hi).1, fun h0 => next_lt.2 ((q.2 i hi).2 h0)⟩⟩

theorem getD_insert {α : Type} [Inhabited α] (l : List α) (a : Nat) (y : α) (ha : a ≤ l.length) (k : Nat) : (l.insertIdx a y).getD k default = if k < a then l.getD k default else if k = a then y else l.getD (k - 1) default := by
  simp only [List.getD_eq_getElem?_getD, List.getElem?_insertIdx]
  by_cases h1 : k < a
  · rw [if_pos h1, if_pos h1]
  · rw [if_neg h1, if_neg h1]
    by_cases h2 : k = a
    · rw [if_pos h2, if_pos h2, if_pos (by omega)]; rfl
    · rw [if_neg h2, if_neg h2]

theorem getD_set {α : Type} [Inhabited α] (l : List α) (a : Nat) (y : α) (ha : a < l.length) (k : Nat) : (l.set a y).getD k default = if k = a then y else l.getD k default := by
  simp only [List.getD_eq_getElem?_getD, List.getElem?_set]
  by_cases h : k = a
  · subst h; rw [if_pos rfl, if_pos rfl, if_pos ha]; rfl
  · rw [if_neg (Ne.symm h), if_neg h]

theorem atI_spec (v : V) (s : ByteArray) : (∀ k, k < atI v s → ¬ ltS s (v.fields.getD k default).1) ∧ (atI v s < v.fields.length → ltS s (v.fields.getD (atI v s) default).1) := by
  constructor
  · intro k hk h
    have hl : k < v.fields.length := Nat.lt_of_lt_of_le hk (atI_le v s)
    have := List.not_of_lt_findIdx hk
    rw [getD_at _ _ hl] at h
    have h2 := (gtB_iff _ _).2 h
    rw [h2] at this; cases this
  · intro h
    have := List.findIdx_getElem (w := h)
    rw [getD_at _ _ h]
    exact (gtB_iff _ _).1 this

theorem find_none {v : V} {s : ByteArray} (h : findI v s < 0) : ∀ k, k < v.fields.length → (v.fields.getD k default).1 ≠ s := by
  intro k hk e
  unfold findI idxI at h
  split at h
  · omega
  · rename_i q
    refine q (List.findIdx_lt_length.2 ⟨_, List.getElem_mem hk, ?_⟩)
    rw [getD_at _ _ hk] at e
    simpa using e

theorem names_ins {v x : V} {s : ByteArray} (hn : isName s = true) (h : Names v.fields) (hf : findI v s < 0) : Names (v.fields.insertIdx (atI v s) (s, x)) := by
  have ha := atI_le v s
  obtain ⟨s1, s2⟩ := atI_spec v s
  have hne := find_none hf
  intro i hi
  rw [List.length_insertIdx, if_pos ha] at hi
  rw [getD_insert _ _ _ ha, getD_insert _ _ _ ha]
  by_cases c1 : i < atI v s
  · rw [if_pos c1, if_pos (by omega)]
    exact h i (by omega)
  · rw [if_neg c1]
    by_cases c2 : i = atI v s
    · rw [if_pos c2]
      refine ⟨hn, fun h0 => ?_⟩
      rw [if_pos (by omega)]
      have q := s1 (i - 1) (by omega)
      rcases ltS_tri s (v.fields.getD (i - 1) default).1 with p | p | p
      · exact absurd p q
      · exact absurd p.symm (hne (i - 1) (by omega))
      · exact p
    · rw [if_neg c2]
      refine ⟨(h (i - 1) (by omega)).1, fun h0 => ?_⟩
      rw [if_neg (by omega)]
      by_cases c3 : i - 1 = atI v s
      · rw [if_pos c3]
        have := s2 (by omega)
        rw [c3]
        exact this
      · rw [if_neg c3]
        exact (h (i - 1) (by omega)).2 (by omega)

theorem names_set {l : List (ByteArray × V)} {a : Nat} {x : V} (ha : a < l.length) (h : Names l) : Names (l.set a ((l.getD a default).1, x)) := by
  have hfst : ∀ k, ((l.set a ((l.getD a default).1, x)).getD k default).1 = (l.getD k default).1 := fun k => by
    rw [getD_set _ _ _ ha]
    split
    · rename_i e; rw [e]
    · rfl
  intro i hi
  rw [List.length_set] at hi
  rw [hfst, hfst]
  exact h i hi

theorem sum_insert (f : ByteArray × V → Nat) (y : ByteArray × V) : ∀ (l : List (ByteArray × V)) (a : Nat), a ≤ l.length → ((l.insertIdx a y).map f).sum = (l.map f).sum + f y
  | l, 0, _ => by simp; omega
  | [], a + 1, h => by simp at h
  | z :: l, a + 1, h => by
    have := sum_insert f y l a (by simpa using h)
    simp only [List.insertIdx_succ_cons, List.map_cons, List.sum_cons, this]; omega

theorem sum_set_le (f : ByteArray × V → Nat) (y : ByteArray × V) : ∀ (l : List (ByteArray × V)) (a : Nat), ((l.set a y).map f).sum ≤ (l.map f).sum + f y
  | [], a => by simp
  | z :: l, 0 => by simp only [List.set_cons_zero, List.map_cons, List.sum_cons]; omega
  | z :: l, a + 1 => by
    have := sum_set_le f y l a
    simp only [List.set_cons_succ, List.map_cons, List.sum_cons]; omega

theorem kids9 {v : V} (h : v.kind = 9) : kids v = v.fields.map (·.2) := by simp [kids, h]

theorem valid_set {vs : ByteArray → Bool} {d : Nat} {v x : V} {F : List (ByteArray × V)} (h9 : v.kind = 9) (hv : checkE vs (preV (d + 1) 1 v) = 0) (hx : checkE vs (preV d 1 x) = 0) (hd : depthV d x < 8) (hs : sizeV (d + 1) v + sizeV d x < 4096)
    (hF : rule9 F = 0) (hmem : ∀ y ∈ F, y ∈ v.fields ∨ y.2 = x) (hsum : (F.map fun y => sizeV d y.2).sum ≤ (v.fields.map fun y => sizeV d y.2).sum + sizeV d x) : checkE vs (preV (d + 1) 1 (setFs v F)) = 0 := by
  have hW9 : (setFs v F).kind = 9 := h9
  obtain ⟨v1, v2⟩ := checkE_zero.1 hv
  obtain ⟨x1, x2⟩ := checkE_zero.1 hx
  refine checkE_zero.2 ⟨?_, fun p hp => ?_⟩
  · rw [preV_len]
    simp only [sizeV] at hs ⊢
    rw [kids9 hW9, setFs_fields, List.map_map]
    rw [kids9 h9, List.map_map] at hs
    have e1 : (F.map (sizeV d ∘ fun y => y.2)).sum = (F.map fun y => sizeV d y.2).sum := rfl
    have e2 : (v.fields.map (sizeV d ∘ fun y => y.2)).sum = (v.fields.map fun y => sizeV d y.2).sum := rfl
    omega
  · simp only [preV, List.mem_cons, List.mem_flatten, List.mem_map] at hp
    rcases hp with rfl | ⟨q, ⟨y, hy, rfl⟩, hq⟩
    · refine ⟨by show (1 : Int) ≤ 8; omega, ?_⟩
      have ho := (v2 (1, d, v) (by simp [preV])).2
      have hn : isNull v = false := by
        cases q : isNull v with
        | false => rfl
        | true => simp [own_null q] at ho
      have hu : usesB v = true := by
        cases q : usesB v with
        | true => rfl
        | false => rw [own_uses hn (by omega) q] at ho; cases ho
      have hu' : usesB (setFs v F) = true := by
        unfold usesB at hu ⊢
        have e1 : (setFs v F).int = v.int := rfl
        have e2 : (setFs v F).scale = v.scale := rfl
        have e3 : (setFs v F).text = v.text := rfl
        have e4 : (setFs v F).list = v.list := rfl
        rw [hW9, e1, e2, e3, e4]
        rw [h9] at hu
        simpa using hu
      have hn' : isNull (setFs v F) = false := by
        unfold isNull
        simp [hW9]
      show ownE vs (setFs v F) = 0
      rw [own_rule hn' (by rw [hW9]; decide) hu', ruleE9 hW9]
      exact hF
    · rw [kids9 hW9, setFs_fields] at hy
      obtain ⟨z, hz, rfl⟩ := List.mem_map.1 hy
      rcases hmem z hz with hz | hz
      · refine v2 p ?_
        simp only [preV, List.mem_cons, List.mem_flatten, List.mem_map]
        refine .inr ⟨_, ⟨z.2, ?_, rfl⟩, hq⟩
        rw [kids9 h9]
        exact List.mem_map.2 ⟨z, hz, rfl⟩
      · rw [hz, show (1 : Int) + 1 = 1 + 1 from rfl, preV_shift] at hq
        obtain ⟨p0, hp0, rfl⟩ := List.mem_map.1 hq
        have hl := preV_lvl d 1 x p0 hp0
        exact ⟨by show p0.1 + 1 ≤ 8; omega, (x2 p0 hp0).2⟩

theorem valid_with {vs : ByteArray → Bool} {d : Nat} {v x : V} {s : ByteArray} (h : withE v s x = 0) (hv : checkE vs (preV (d + 1) 1 v) = 0) (hx : checkE vs (preV d 1 x) = 0) (hd : depthV d x < 8) (hs : sizeV (d + 1) v + sizeV d x < 4096) :
    (findI v s < 0 → checkE vs (preV (d + 1) 1 (insV v s x)) = 0) ∧ (0 ≤ findI v s → checkE vs (preV (d + 1) 1 (repV v s x)) = 0) := by
  obtain ⟨h9, hn, _, hlim⟩ := withE_zero h
  have hn' : isName s = true := by simpa using hn
  have ho := ((checkE_zero.1 hv).2 (1, d, v) (by simp [preV])).2
  have hr : rule9 v.fields = 0 := by
    have hn : isNull v = false := by
      cases q : isNull v with
      | false => rfl
      | true => simp [own_null q] at ho
    have hu : usesB v = true := by
      cases q : usesB v with
      | true => rfl
      | false => rw [own_uses hn (by omega) q] at ho; cases ho
    have : ownE vs v = 0 := ho
    rw [own_rule hn (by omega) hu, ruleE9 h9] at this
    exact this
  obtain ⟨r1, r2⟩ := rule9_zero.1 hr
  have ha := atI_le v s
  refine ⟨fun hf => ?_, fun hf => ?_⟩
  · refine valid_set h9 hv hx hd hs (rule9_zero.2 ⟨?_, names_ins hn' r2 hf⟩) (fun y hy => ?_) ?_
    · rw [List.length_insertIdx, if_pos ha]
      have : ¬ 64 ≤ v.fields.length := fun q => hlim ⟨hf, q⟩
      omega
    · obtain ⟨k, hk, e⟩ := List.mem_iff_getElem.1 hy
      have hk' : k < v.fields.length + 1 := by rwa [List.length_insertIdx, if_pos ha] at hk
      have := getD_insert v.fields (atI v s) (s, x) ha k
      rw [getD_at _ _ hk, e] at this
      rw [this]
      by_cases c1 : k < atI v s
      · rw [if_pos c1, getD_at _ _ (by omega)]; exact .inl (List.getElem_mem _)
      · rw [if_neg c1]
        by_cases c2 : k = atI v s
        · rw [if_pos c2]; exact .inr rfl
        · rw [if_neg c2, getD_at _ _ (by omega)]; exact .inl (List.getElem_mem _)
    · rw [sum_insert (fun y => sizeV d y.2) _ _ _ ha]; exact Nat.le_refl _
  · have hlt : (findI v s).toNat < v.fields.length := by have : findI v s < v.fields.length := idxI_lt; omega
    refine valid_set h9 hv hx hd hs (rule9_zero.2 ⟨by rw [List.length_set]; exact r1, names_set hlt r2⟩) (fun y hy => ?_) (sum_set_le (fun y => sizeV d y.2) _ _ _)
    obtain ⟨k, hk, e⟩ := List.mem_iff_getElem.1 hy
    have hk' : k < v.fields.length := by simpa using hk
    have := getD_set v.fields _ ((v.fields.getD (findI v s).toNat default).1, x) hlt k
    rw [getD_at _ _ hk, e] at this
    rw [this]
    by_cases c : k = (findI v s).toNat
    · rw [if_pos c]; exact .inr rfl
    · rw [if_neg c, getD_at _ _ hk']; exact .inl (List.getElem_mem _)
end Go.Ai

namespace Go.Ai
open Go Go.Proofs
set_option maxRecDepth 100000
set_option maxHeartbeats 2000000

def s5a (d : Nat) (v x : V) (s : ByteArray) (p : Nat → Prop) : SS := ⟨64, [(8, .ptr 8 0), (7, .ptr 7 0), (5, .ptr 5 0), (3, .ptr 3 0), (1, .str fun _ => s)],
  [(3, .box (cells (d + 1) (.sat p) fun _ => v)), (5, .box (cells d (.sat p) fun _ => x)), (7, .box (cells (d + 1) (.sat p) fun _ => v)), (8, .box (cells d (.sat p) fun _ => x))]⟩


def poke5 : Code := .region 7 #[{ dst := some 54, op := Go.Op.load 25 (Go.Operand.tmp 9), type := 25, pos := "law.go:125", after := #[], guard := none }, { dst := some 55, op := Go.Op.call { callee := Go.Callee.value (Go.Operand.func 25), args := #[Go.Operand.tmp 54], argTypes := #[25] }, type := 0, pos := "law.go:125", after := #[{ on := 0, ground := Go.Ground.data }], guard := none }] false

def s5b (d : Nat) (v x W : V) (p : Nat → Prop) : SS := ⟨64, [(9, .ptr 9 0), (8, .ptr 8 0), (7, .ptr 7 0), (5, .ptr 5 0), (3, .ptr 3 0)],
  [(3, .box (cells (d + 1) (.sat p) fun _ => v)), (5, .box (cells d (.sat p) fun _ => x)), (7, .box (cells (d + 1) (.sat p) fun _ => v)), (8, .box (cells d (.sat p) fun _ => x)), (9, .box (cells (d + 1) .new fun _ => W))]⟩
def s5c (d : Nat) (v x : V) (p : Nat → Prop) : SS := ⟨64, [(8, .ptr 8 0), (7, .ptr 7 0), (5, .ptr 5 0), (3, .ptr 3 0)],
  [(3, .box (cells (d + 1) (.sat p) fun _ => v)), (5, .box (cells d (.sat p) fun _ => x)), (7, .box (cells (d + 1) (.sat p) fun _ => v)), (8, .box (cells d (.sat p) fun _ => x))]⟩

theorem s5c_obj (d : Nat) (v x : V) (p : Nat → Prop) (o : Nat) : (s5c d v x p).st.obj o = .none ∨ ((∃ e y, (s5c d v x p).st.obj o = .box (cells e (.sat p) fun _ => y)) ∧ ∀ W, (s5c d v x p).st.obj o = (s5b d v x W p).st.obj o) := by
  by_cases k3 : o = 3
  · subst k3; exact .inr ⟨⟨d + 1, v, rfl⟩, fun _ => rfl⟩
  · by_cases k5 : o = 5
    · subst k5; exact .inr ⟨⟨d, x, rfl⟩, fun _ => rfl⟩
    · by_cases k7 : o = 7
      · subst k7; exact .inr ⟨⟨d + 1, v, rfl⟩, fun _ => rfl⟩
      · by_cases k8 : o = 8
        · subst k8; exact .inr ⟨⟨d, x, rfl⟩, fun _ => rfl⟩
        · left
          show olook [(3, _), (5, _), (7, _), (8, _)] o = .none
          simp only [olook]; rw [if_neg (Ne.symm k3), if_neg (Ne.symm k5), if_neg (Ne.symm k7), if_neg (Ne.symm k8)]

theorem s5c_tmp (d : Nat) (v x : V) (p : Nat → Prop) (t : Nat) (ht : t < 64) : simpleA (alook (s5c d v x p).l t) = true ∧ (alook (s5c d v x p).l t = .any ∨ ((∀ W, (s5b d v x W p).st.tmps[t]? = some (alook (s5c d v x p).l t)) ∧ t < 54)) := by
  by_cases k3 : t = 3
  · subst k3; exact ⟨rfl, .inr ⟨fun _ => rfl, by decide⟩⟩
  · by_cases k5 : t = 5
    · subst k5; exact ⟨rfl, .inr ⟨fun _ => rfl, by decide⟩⟩
    · by_cases k7 : t = 7
      · subst k7; exact ⟨rfl, .inr ⟨fun _ => rfl, by decide⟩⟩
      · by_cases k8 : t = 8
        · subst k8; exact ⟨rfl, .inr ⟨fun _ => rfl, by decide⟩⟩
        · have : alook (s5c d v x p).l t = .any := by
            show alook [(8, .ptr 8 0), (7, .ptr 7 0), (5, .ptr 5 0), (3, .ptr 3 0)] t = .any
            rw [alook_ne (Ne.symm k8), alook_ne (Ne.symm k7), alook_ne (Ne.symm k5), alook_ne (Ne.symm k3)]; rfl
          rw [this]; exact ⟨rfl, .inl rfl⟩

theorem poke5_awp {E : Env} (d : Nat) (v x W : V) (hB : E.B = E.N) (hW : V.le (d + 1) W) (ht : 1073741824 + tot (d + 1) W < 9223372036854775807) : AWp none Tryd.prog E poke5 (thenK (fun E' S' => E' = E ∧ S' = (s5c d v x fun b => b < E.N).st) (fun _ _ _ => False)) (s5b d v x W fun b => b < E.N).st := by
  refine .of_wp fun a w ⟨β, h⟩ => ?_
  have hsz : a.tmps.size = 64 := h.size
  have q9 := h.tmps 9 (.ptr 9 0) rfl
  obtain ⟨b9, hβ9, e9⟩ := q9.ptr_inv
  have ho := h.objs 9
  change OR E w β (s5b d v x W fun b => b < E.N).st.obj 9 (.box (cells (d + 1) .new fun _ => W)) at ho
  obtain ⟨b9', vs, ty, hβ', hh, hown, hvl, hcells⟩ := ho
  rw [hβ9] at hβ'
  simp at hβ'; subst hβ'
  have hrd : ∀ (j : Nat) (av : AV) (u : Value), (cells (d + 1) .new fun _ => W)[j]? = some av → vs.toList[j]? = some u → RD w (E.D w β (s5b d v x W fun b => b < E.N).st.obj) E.B av u := fun j av u hj hu =>
    (hcells j av u hj (by simpa using hu)).pure (pureL_get (show AV.pureL (cells (d + 1) .new fun _ => W) = true by simp [cells, cellsG, AV.pureL]) j _ hj)
  have hsh := sh_of (fr := .new) (q := fun b => E.N ≤ b) (fun b hb => ⟨hB ▸ hb.1, hb.2⟩) (d + 1) W vs.toList hW (by rw [Array.length_toList]; exact hvl.symm) hrd
  have hcall := poke_ok (d + 1) W _ _ vs.toList w hsh (fun b hb => hb.1.2.1) ht
  have hvs6 : vs.size = 6 := hvl.symm
  obtain ⟨u0, u1, u2, u3, u4, u5, rfl⟩ := six_of vs hvs6
  have c0 : w.cell? ⟨b9, 0, none⟩ = some u0 := by rw [cell_of_row hh]; rfl
  have c1 : w.cell? ⟨b9, 1, none⟩ = some u1 := by rw [cell_of_row hh]; rfl
  have c2 : w.cell? ⟨b9, 2, none⟩ = some u2 := by rw [cell_of_row hh]; rfl
  have c3 : w.cell? ⟨b9, 3, none⟩ = some u3 := by rw [cell_of_row hh]; rfl
  have c4 : w.cell? ⟨b9, 4, none⟩ = some u4 := by rw [cell_of_row hh]; rfl
  have c5 : w.cell? ⟨b9, 5, none⟩ = some u5 := by rw [cell_of_row hh]; rfl
  obtain ⟨Q, hQ⟩ : ∃ Q : Exit → Act → World → Prop, Q = fun e a' w' => ∃ E' S', Ext E E' ∧ thenK (fun E' S' => E' = E ∧ S' = (s5c d v x fun b => b < E.N).st) (fun _ _ _ => False) e E' S' ∧ Rel E' S' a' w' := ⟨_, rfl⟩
  have hend : ∀ (y z : Value) (w1 : World), Sim (fun b => E.D w β (s5b d v x W fun b => b < E.N).st.obj b ∧ E.N ≤ b) (1073741824 + tot (d + 1) W) w w1 → Q .normal ⟨(a.tmps.setIfInBounds 54 y).setIfInBounds 55 z, a.defers⟩ w1 := fun y z w1 hs => by
    rw [hQ]
    refine ⟨E, (s5c d v x fun b => b < E.N).st, .refl E, ⟨rfl, rfl⟩, β, ?_⟩
    refine poke_rel (p := fun b => b < E.N) h hs (fun b hb => ⟨Nat.not_lt.2 hb.2, hb.1, .inr hb.2⟩) (fun o => ?_) (fun o => ?_) rfl (by simp [hsz, s5c, SS.st]) (fun t av q => ?_) (fun b hb => hb.elim .inr fun q => .inl (Nat.not_lt.2 q))
    · exact (s5c_obj d v x _ o).elim .inl fun q => .inr (q.2 W)
    · exact (s5c_obj d v x _ o).elim .inl fun q => .inr q.1
    · have hlt : t < 64 := by have := (List.getElem?_eq_some_iff.1 q).1; simpa [s5c, SS.st] using this
      rw [(s5c d v x fun b => b < E.N).as_get hlt] at q
      cases q
      obtain ⟨g1, g2⟩ := s5c_tmp d v x (fun b => b < E.N) t hlt
      refine ⟨g1, g2.imp id fun ⟨g3, g4⟩ => ⟨g3 W, ?_⟩⟩
      show ((a.tmps.setIfInBounds 54 y).setIfInBounds 55 z).getD t undef = _
      rw [get_set (by omega), get_set (by omega)]
  rw [← hQ]
  clear hQ hrd hsh hcells q9 hB
  unfold poke5
  refine wp_region_lit ?_
  refine wpList_plain rfl fun K hK => ?_
  go_simp
  refine hK _ _ ?_
  refine wpList_plain rfl fun K' hK' => ?_
  have e54 : (a.tmps.setIfInBounds 54 (.agg #[u0, u1, u2, u3, u4, u5])).getD 54 undef = .agg #[u0, u1, u2, u3, u4, u5] := get_own (by rw [hsz]; decide)
  go_simp
  refine hcall.mono fun e w1 hx => ?_
  obtain ⟨rfl, hs⟩ := hx
  exact hK' _ _ (wpList_nil (hend _ _ w1 hs))


theorem law_keeps0 (d : Nat) (v x W : V) (s : ByteArray) (hv : V.le (d + 1) v) (hx : V.le d x) (hW : V.le (d + 1) W) (er cv cx dx sv sx cw : Int)
    (hA : AFun Tryd.prog 22 [encV (d + 1) .any fun _ => v, .str fun _ => s, encV d .any fun _ => x] [] (.tup [encV (d + 1) .new fun _ => W, .int .i64 fun _ => er]) [])
    (hCv : AFun Tryd.prog 16 [encV (d + 1) .any fun _ => v] [] (.int .i64 fun _ => cv) []) (hCx : AFun Tryd.prog 16 [encV d .any fun _ => x] [] (.int .i64 fun _ => cx) [])
    (hDx : AFun Tryd.prog 23 [encV d .any fun _ => x] [] (.int .i64 fun _ => dx) []) (hSv : AFun Tryd.prog 24 [encV (d + 1) .any fun _ => v] [] (.int .i64 fun _ => sv) []) (hSx : AFun Tryd.prog 24 [encV d .any fun _ => x] [] (.int .i64 fun _ => sx) [])
    (hCw : AFun Tryd.prog 15 [encV (d + 1) .any fun _ => W] [] (.int .i64 fun _ => cw) []) (b1 : 0 ≤ sv ∧ sv ≤ 1073741824) (b2 : 0 ≤ sx ∧ sx ≤ 1073741824) (ht : 1073741824 + tot (d + 1) W < 9223372036854775807)
    (hbad : er = 0 → cv = 0 → cx = 0 → dx < 8 → sv + sx < 4096 → cw = 0) :
    AFun Tryd.prog 5 [encV (d + 1) .any fun _ => v, .str fun _ => s, encV d .any fun _ => x] [] (.bool fun _ => true) [] := by
  have h1 := copied_ok (d + 1) v hv
  have h2 := copied_ok d x hx
  apply AFun.ofH T4_ok mixed4 2 [.tmp 6] kp5 [(1, [(1, h1.out), (3, h2.out)])] Tryd.func5 (fun E => ?_)
  (any_goals ((with_reducible refine wkH_id ?_); cbv; (try dsimp only [nc] at *); (repeat' (with_reducible first | exact all_nil.2 trivial | exact ob_nil | refine ob_cons ?_ ?_ | refine VC.mk rfl ?_ ?_ ?_ | (refine CondVC.mk ?_ ?_ <;> intro hz <;> (try simp only [nc, bytes_empty, if_or, if_and] at hz) <;> (try simp only [Bool.false_eq_true, Bool.true_eq_false, Bool.and_eq_true, Bool.or_eq_true, Bool.not_eq_true', Bool.not_eq_true, Bool.and_eq_false_iff, Bool.or_eq_false_iff, Bool.not_eq_false', beq_iff_eq, beq_eq_false_iff_ne, bne_iff_ne, bne_eq_false_iff_eq, dec_t, dec_f, ne_eq, Decidable.not_not, Int.ofNat_lt, Int.ofNat_le, Int.toNat_natCast, Int.not_lt, Int.not_le, Nat.not_lt, Nat.not_le] at hz) <;> (revert hz; intro _)) | (refine end_exit ?_; cbv; (try dsimp only [nc] at *)) | (refine end_out ?_; cbv; (try dsimp only [nc] at *))))))
  (any_goals ((with_reducible first | refine hob_none ?_ | refine hob_some (fun _ => ?_)) <;> exact h1))
  (any_goals ((with_reducible first | refine hob_none ?_ | refine hob_some (fun _ => ?_)) <;> exact h2))
  ((all_goals (try (with_reducible first | (refine end_ret ?_; (focus (cbv; (try dsimp only [nc] at *); (try simp only [all_nil, all_cons, and_true, true_and, nc]); (try (repeat' (with_reducible apply And.intro))); (all_goals (try first | rfl | exact fun _ _ => LeL.of_eq rfl | exact LeL.of_eq rfl | trivial | omega))))) | (refine end_normal ?_; (focus (cbv; (try dsimp only [nc] at *); (try simp only [all_nil, all_cons, and_true, true_and, nc]); (try (repeat' (with_reducible apply And.intro))); (all_goals (try first | rfl | exact fun _ _ => LeL.of_eq rfl | exact LeL.of_eq rfl | trivial | omega)))))))); (all_goals (try (focus ((with_reducible rw [all_cons]); (try simp only [all_cons, all_nil, and_true, nc]); (repeat' (with_reducible apply And.intro)); (all_goals (try first | exact fun _ _ h => h | exact fun _ h => h | exact fun h => h | exact pick_t | exact pick_f | omega | (focus (intros; (try simp only [nc, bytes_empty, if_or, if_and] at *); (try simp only [Bool.false_eq_true, Bool.true_eq_false, Bool.and_eq_true, Bool.or_eq_true, Bool.not_eq_true', Bool.not_eq_true, Bool.and_eq_false_iff, Bool.or_eq_false_iff, Bool.not_eq_false', beq_iff_eq, beq_eq_false_iff_ne, bne_iff_ne, bne_eq_false_iff_eq, beq_true, beq_false, dec_t, dec_f, ne_eq, Decidable.not_not, Int.ofNat_lt, Int.ofNat_le, Int.toNat_natCast, Int.not_lt, Int.not_le, Nat.not_lt, Nat.not_le] at *); (try simp (disch := omega) only [w64] at *); (first | omega | assumption | ((repeat' (with_reducible apply And.intro)) <;> first | omega | assumption)))))))))))
  refine LpVC.rebase (s5a d v x s) (fun _ => ⟨rfl, rfl⟩) rfl (fun p o => ?_) (fun E' hEx hB => ?_)
  · by_cases k3 : o = 3
    · subst k3; exact .inr ⟨d + 1, .any, v, rfl, rfl⟩
    · by_cases k5 : o = 5
      · subst k5; exact .inr ⟨d, .any, x, rfl, rfl⟩
      · by_cases k7 : o = 7
        · subst k7; exact .inr ⟨d + 1, .new, v, rfl, rfl⟩
        · by_cases k8 : o = 8
          · subst k8; exact .inr ⟨d, .new, x, rfl, rfl⟩
          · left
            constructor
            · show olook [(3, _), (5, _), (7, _), (8, _)] o = .none
              simp only [olook]; rw [if_neg (Ne.symm k3), if_neg (Ne.symm k5), if_neg (Ne.symm k7), if_neg (Ne.symm k8)]
            · show olook [(3, _), (5, _), (7, _), (8, _)] o = .none
              simp only [olook]; rw [if_neg (Ne.symm k3), if_neg (Ne.symm k5), if_neg (Ne.symm k7), if_neg (Ne.symm k8)]
  refine AWp.wkH_end T4_ok mixed4 3 [(2, [(3, hA.out)]), (3, [(0, known_ok.out)]), (5, [(4, hCv.out), (9, hCx.out), (14, hDx.out), (19, hSv.out), (21, hSx.out), (27, hCw.out)])] kp5 ?_ (SS.ok_of rfl)
  (any_goals ((with_reducible refine wkH_id ?_); cbv; (try dsimp only [nc] at *); (repeat' (with_reducible first | exact all_nil.2 trivial | exact ob_nil | refine ob_cons ?_ ?_ | refine VC.mk rfl ?_ ?_ ?_ | (refine CondVC.mk ?_ ?_ <;> intro hz <;> (try simp only [if_and] at hz) <;> (try simp only [Bool.true_eq_false, Bool.and_eq_true, Bool.not_eq_true', Bool.and_eq_false_iff, Bool.not_eq_false', beq_iff_eq, beq_eq_false_iff_ne, bne_iff_ne, bne_eq_false_iff_eq, dec_t, dec_f, ne_eq, Int.not_lt] at hz) <;> (revert hz; intro _)) | (refine end_exit ?_; cbv; (try dsimp only [nc] at *)) | (refine end_out ?_; cbv; (try dsimp only [nc] at *))))))
  (any_goals (first | ((with_reducible first | refine hob_none ?_ | refine hob_some (fun _ => ?_)); (try dsimp only); (refine AFun.weak_in hA ?_); (focus (cbv; (try dsimp only [nc] at *); (try simp only [all_nil, all_cons, and_true, true_and]); (try (repeat' (with_reducible apply And.intro))); (all_goals (try first | rfl | exact fun _ _ => LeL.of_eq rfl | exact LeL.of_eq rfl | trivial | omega)))); all_goals (try exact fun i _ => le_subF _ _ _ _ _); done) | fail))
  (any_goals ((with_reducible first | refine hob_none ?_ | refine hob_some (fun _ => ?_)) <;> exact known_ok))
  (any_goals (first | ((with_reducible first | refine hob_none ?_ | refine hob_some (fun _ => ?_)); (try dsimp only); (refine AFun.weak_in hCv ?_); (focus (cbv; (try dsimp only [nc] at *); (try simp only [all_nil, all_cons, and_true, true_and]); (try (repeat' (with_reducible apply And.intro))); (all_goals (try first | rfl | exact fun _ _ => LeL.of_eq rfl | exact LeL.of_eq rfl | trivial | omega)))); all_goals (try exact fun i _ => le_subF _ _ _ _ _); done) | fail))
  (any_goals (first | ((with_reducible first | refine hob_none ?_ | refine hob_some (fun _ => ?_)); (try dsimp only); (refine AFun.weak_in hCx ?_); (focus (cbv; (try dsimp only [nc] at *); (try simp only [all_nil, all_cons, and_true, true_and]); (try (repeat' (with_reducible apply And.intro))); (all_goals (try first | rfl | exact fun _ _ => LeL.of_eq rfl | exact LeL.of_eq rfl | trivial | omega)))); all_goals (try exact fun i _ => le_subF _ _ _ _ _); done) | fail))
  (any_goals (first | ((with_reducible first | refine hob_none ?_ | refine hob_some (fun _ => ?_)); (try dsimp only); (refine AFun.weak_in hDx ?_); (focus (cbv; (try dsimp only [nc] at *); (try simp only [all_nil, all_cons, and_true, true_and]); (try (repeat' (with_reducible apply And.intro))); (all_goals (try first | rfl | exact fun _ _ => LeL.of_eq rfl | exact LeL.of_eq rfl | trivial | omega)))); all_goals (try exact fun i _ => le_subF _ _ _ _ _); done) | fail))
  (any_goals (first | ((with_reducible first | refine hob_none ?_ | refine hob_some (fun _ => ?_)); (try dsimp only); (refine AFun.weak_in hSv ?_); (focus (cbv; (try dsimp only [nc] at *); (try simp only [all_nil, all_cons, and_true, true_and]); (try (repeat' (with_reducible apply And.intro))); (all_goals (try first | rfl | exact fun _ _ => LeL.of_eq rfl | exact LeL.of_eq rfl | trivial | omega)))); all_goals (try exact fun i _ => le_subF _ _ _ _ _); done) | fail))
  (any_goals (first | ((with_reducible first | refine hob_none ?_ | refine hob_some (fun _ => ?_)); (try dsimp only); (refine AFun.weak_in hSx ?_); (focus (cbv; (try dsimp only [nc] at *); (try simp only [all_nil, all_cons, and_true, true_and]); (try (repeat' (with_reducible apply And.intro))); (all_goals (try first | rfl | exact fun _ _ => LeL.of_eq rfl | exact LeL.of_eq rfl | trivial | omega)))); all_goals (try exact fun i _ => le_subF _ _ _ _ _); done) | fail))
  (any_goals (first | ((with_reducible first | refine hob_none ?_ | refine hob_some (fun _ => ?_)); (try dsimp only); (refine AFun.weak_in hCw ?_); (focus (cbv; (try dsimp only [nc] at *); (try simp only [all_nil, all_cons, and_true, true_and]); (try (repeat' (with_reducible apply And.intro))); (all_goals (try first | rfl | exact fun _ _ => LeL.of_eq rfl | exact LeL.of_eq rfl | trivial | omega)))); all_goals (try exact fun i _ => le_subF _ _ _ _ _); done) | fail))
  ((all_goals (try (with_reducible first | (refine end_ret ?_; (focus (cbv; (try dsimp only [nc] at *); (try simp only [all_nil, all_cons, and_true]); (try (repeat' (with_reducible apply And.intro))); (all_goals (try first | rfl | exact fun _ _ => LeL.of_eq rfl | exact LeL.of_eq rfl | trivial | omega))))) | (refine end_normal ?_; (focus (cbv; (try dsimp only [nc] at *); (try simp only [all_nil, all_cons, and_true, true_and, nc]); (try (repeat' (with_reducible apply And.intro))); (all_goals (try first | rfl | exact fun _ _ => LeL.of_eq rfl | exact LeL.of_eq rfl | trivial | omega)))))))); (all_goals (try (focus ((with_reducible rw [all_cons]); (try simp only [all_cons, all_nil, and_true]); (repeat' (with_reducible apply And.intro)); (all_goals (try first | exact fun _ _ h => h | exact fun _ h => h | exact fun h => h | exact pick_t | exact pick_f | omega | (focus (intros; (try simp only [nc, bytes_empty, if_or, if_and] at *); (try simp only [Bool.false_eq_true, Bool.true_eq_false, Bool.and_eq_true, Bool.or_eq_true, Bool.not_eq_true', Bool.not_eq_true, Bool.and_eq_false_iff, Bool.or_eq_false_iff, Bool.not_eq_false', beq_iff_eq, beq_eq_false_iff_ne, bne_iff_ne, bne_eq_false_iff_eq, beq_true, beq_false, dec_t, dec_f, ne_eq, Decidable.not_not, Int.ofNat_lt, Int.ofNat_le, Int.toNat_natCast, Int.not_lt, Int.not_le, Nat.not_lt, Nat.not_le] at *); (try simp (disch := omega) only [w64] at *); (first | omega | assumption | ((repeat' (with_reducible apply And.intro)) <;> first | omega | assumption)))))))))))
  · exfalso
    rename_i hz
    obtain ⟨⟨⟨⟨⟨z1, z2⟩, z3⟩, z4⟩, z5⟩, z6⟩ := hz
    rw [w64 (by omega) (by omega)] at z5
    exact z6 (hbad z1 z2 z3 z4 z5)
  refine ⟨fun hok2 => .seq (.weak (weakS_of (s' := s5b d v x W fun b => b < E'.N) ?_) ((poke5_awp d v x W hB hW ht).mono fun e E2 S2 _ hk => ?_))⟩
  · (focus (cbv; (try dsimp only [nc] at *); (try simp only [all_nil, all_cons, and_true, true_and]); (try (repeat' (with_reducible apply And.intro))); (all_goals (try first | rfl | exact fun _ _ => LeL.of_eq rfl | exact LeL.of_eq rfl | trivial | omega))))
    all_goals (first | exact fun _ h => h | exact fun _ _ => LeL.of_eq rfl)
  cases e with
  | normal =>
    obtain ⟨rfl, rfl⟩ := hk
    refine AWp.wk_end T4_ok mixed4 [(8, [(2, .bool fun _ => true, []), (6, .bool fun _ => true, [])])] kp5 ?_ (SS.ok_of rfl)
    (any_goals ((with_reducible refine wk_id ?_); cbv; (try dsimp only [nc] at *); (repeat' (with_reducible first | exact all_nil.2 trivial | exact ob_nil | refine ob_cons ?_ ?_ | refine VC.mk rfl ?_ ?_ ?_ | (refine CondVC.mk ?_ ?_ <;> intro hz <;> (try simp only [nc, bytes_empty, if_or, if_and] at hz) <;> (try simp only [Bool.false_eq_true, Bool.true_eq_false, Bool.and_eq_true, Bool.or_eq_true, Bool.not_eq_true', Bool.not_eq_true, Bool.and_eq_false_iff, Bool.or_eq_false_iff, Bool.not_eq_false', beq_iff_eq, beq_eq_false_iff_ne, bne_iff_ne, bne_eq_false_iff_eq, dec_t, dec_f, ne_eq, Decidable.not_not, Int.ofNat_lt, Int.ofNat_le, Int.toNat_natCast, Int.not_lt, Int.not_le, Nat.not_lt, Nat.not_le] at hz) <;> (revert hz; intro _)) | (refine end_exit ?_; cbv; (try dsimp only [nc] at *)) | (refine end_out ?_; cbv; (try dsimp only [nc] at *))))))
    (any_goals (first | ((with_reducible first | refine hob_none ?_ | refine hob_some (fun _ => ?_)); (try dsimp only); (refine AFun.weak_in (same_ok (d + 1) v hv) ?_); (focus (cbv; (try dsimp only [nc] at *); (try simp only [all_nil, all_cons, and_true, true_and]); (try (repeat' (with_reducible apply And.intro))); (all_goals (try first | rfl | exact fun _ _ => LeL.of_eq rfl | exact LeL.of_eq rfl | trivial | omega)))); all_goals (try exact fun i _ => le_subF _ _ _ _ _); done) | fail))
    (any_goals (first | ((with_reducible first | refine hob_none ?_ | refine hob_some (fun _ => ?_)); (try dsimp only); (refine AFun.weak_in (same_ok d x hx) ?_); (focus (cbv; (try dsimp only [nc] at *); (try simp only [all_nil, all_cons, and_true, true_and]); (try (repeat' (with_reducible apply And.intro))); (all_goals (try first | rfl | exact fun _ _ => LeL.of_eq rfl | exact LeL.of_eq rfl | trivial | omega)))); all_goals (try exact fun i _ => le_subF _ _ _ _ _); done) | fail))
    ((all_goals (try (with_reducible first | (refine end_ret ?_; (focus (cbv; (try dsimp only [nc] at *); (try simp only [all_nil, all_cons, and_true]); (try (repeat' (with_reducible apply And.intro))); (all_goals (try first | rfl | exact fun _ _ => LeL.of_eq rfl | exact LeL.of_eq rfl | trivial | omega))))) | (refine end_normal ?_; (focus (cbv; (try dsimp only [nc] at *); (try simp only [all_nil, all_cons, and_true, true_and, nc]); (try (repeat' (with_reducible apply And.intro))); (all_goals (try first | rfl | exact fun _ _ => LeL.of_eq rfl | exact LeL.of_eq rfl | trivial | omega)))))))); (all_goals (try (focus ((with_reducible rw [all_cons]); (try simp only [all_cons, all_nil, and_true]); (repeat' (with_reducible apply And.intro)); (all_goals (try first | exact fun _ _ h => h | exact fun _ h => h | exact fun h => h | exact pick_t | exact pick_f | omega | (focus (intros; (try simp only [if_and] at *); (try simp only [beq_true] at *); (try simp (disch := omega) only [w64] at *); (first | omega | assumption | ((repeat' (with_reducible apply And.intro)) <;> first | omega | assumption)))))))))))
    all_goals simp
  | _ => exact hk.elim
end Go.Ai

namespace Go.Ai
open Go Go.Proofs
set_option maxRecDepth 100000
set_option maxHeartbeats 2000000

theorem tot_setF {d : Nat} {v x : V} {F : List (ByteArray × V)} (h : (F.map fun y => tot d y.2 + 1).sum ≤ (v.fields.map fun y => tot d y.2 + 1).sum + (tot d x + 1)) : tot (d + 1) (setFs v F) ≤ tot (d + 1) v + tot d x + 1 := by
  have e1 : (setFs v F).list = v.list := rfl
  have e2 : (setFs v F).fields = F := rfl
  simp only [tot, e1, e2]
  omega

theorem tot_ins (d : Nat) (v x : V) (s : ByteArray) : tot (d + 1) (insV v s x) ≤ tot (d + 1) v + tot d x + 1 :=
  tot_setF (by rw [sum_insert (fun y => tot d y.2 + 1) _ _ _ (atI_le v s)]; exact Nat.le_refl _)
theorem tot_rep (d : Nat) (v x : V) (s : ByteArray) : tot (d + 1) (repV v s x) ≤ tot (d + 1) v + tot d x + 1 :=
  tot_setF (sum_set_le (fun y => tot d y.2 + 1) _ _ _)

theorem law_keeps (e : Nat) (v x : V) (s : ByteArray) (hv : V.le (e + 1 + 1) v) (hx : V.le (e + 1) x) (hs : s.size ≤ 1048576) (hd : e + 1 + 1 ≤ 1073741824) (a1 : allV (e + 1 + 1) v ≤ 1048576) (a2 : allV (e + 1) x ≤ 1048576) :
    AFun Tryd.prog 5 [encV (e + 1 + 1) .any fun _ => v, .str fun _ => s, encV (e + 1) .any fun _ => x] [] (.bool fun _ => true) [] := by
  have hT : ∀ (d : Nat) (y : V), V.le d y → ∀ p ∈ preV d 1 y, AFun Tryd.prog 78 [.str fun _ => p.2.2.text] [] (.bool fun _ => (fun s : ByteArray => Lib.validD s.data.toList) p.2.2.text) [] := fun d y hy p hp =>
    valid_ok p.2.2.text (Nat.le_trans (preV_le d 1 y hy p hp).2.2.1 (by decide))
  have s1 := size_all (e + 1 + 1) v
  have s2 := size_all (e + 1) x
  have t1 := tot_all (e + 1 + 1) v hv
  have t2 := tot_all (e + 1) x hx
  have hCv := refCheck_ok (fun s : ByteArray => Lib.validD s.data.toList) (e + 1) v hv hd (by omega) (hT _ v hv)
  have hCx := refCheck_ok (fun s : ByteArray => Lib.validD s.data.toList) e x hx (by omega) (by omega) (hT _ x hx)
  have hDx := refDepth_ok (e + 1) x hx (by omega)
  have hSv := refSize_ok (e + 1 + 1) v hv (by omega)
  have hSx := refSize_ok (e + 1) x hx (by omega)
  have hCk : ∀ W, V.le (e + 1 + 1) W → _ := fun W hW => Check_ok (fun s : ByteArray => Lib.validD s.data.toList) (e + 1) W hW hd fun p hp _ => hT _ W hW p hp
  by_cases h : withE v s x = 0
  · obtain ⟨h9, hn, hx0, hlim⟩ := withE_zero h
    by_cases hi : findI v s < 0
    · have hW := insV_le (s := s) hv hx (by omega) (by omega)
      have := tot_ins (e + 1) v x s
      exact law_keeps0 (e + 1) v x (insV v s x) s hv hx hW 0 _ _ _ _ _ _ (With_ins (e + 1) v x s hv hx (by omega) h hi) hCv hCx hDx hSv hSx (hCk _ hW) (by omega) (by omega) (by omega)
        fun _ q1 q2 q3 q4 => (valid_with h q1 q2 (by omega) (by omega)).1 hi
    · have hW := repV_le (s := s) hv hx (by omega) (by omega)
      have := tot_rep (e + 1) v x s
      exact law_keeps0 (e + 1) v x (repV v s x) s hv hx hW 0 _ _ _ _ _ _ (With_rep (e + 1) v x s hv hx (by omega) h (by omega)) hCv hCx hDx hSv hSx (hCk _ hW) (by omega) (by omega) (by omega)
        fun _ q1 q2 q3 q4 => (valid_with h q1 q2 (by omega) (by omega)).2 (by omega)
  · have hW := def_le (e + 1)
    have : tot (e + 1 + 1) (default : V) = 0 := rfl
    exact law_keeps0 (e + 1) v x default s hv hx hW _ _ _ _ _ _ _ (With_err (e + 1) (e + 1) v x s hv (by omega) h) hCv hCx hDx hSv hSx (hCk _ hW) (by omega) (by omega) (by omega)
      fun q => absurd q h
end Go.Ai
