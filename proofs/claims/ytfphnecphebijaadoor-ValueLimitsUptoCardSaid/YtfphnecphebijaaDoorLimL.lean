/- 'ValueLimits': plain facts of nested lists and of lists of rows. -/
import Derived.Test.YtfphnecphebijaaDoorSetsL
namespace Go.Ai
open Go Go.Proofs
set_option maxRecDepth 100000
set_option maxHeartbeats 2000000

def listV (l : List V) : V := .mk 8 0 0 ⟨#[]⟩ l []
def nestV : Nat → V
  | 0 => listV []
  | k + 1 => listV [nestV k]
def intV (i : Nat) : V := mkV 2 i 0 ⟨#[]⟩
def rowL (w : Nat) : List V := (List.range w).map intV
def allL (n w : Nat) : List V := List.replicate n (listV (rowL w))

theorem listV_le {d : Nat} {l : List V} (hl : l.length ≤ 1073741824) (h : ∀ x ∈ l, V.le d x) : V.le (d + 1) (listV l) :=
  ⟨hl, Nat.zero_le _, Nat.zero_le _, h, fun x h => by simp [listV, V.fields] at h⟩

theorem nestV_le : ∀ k, V.le (k + 1) (nestV k)
  | 0 => listV_le (by decide) fun x h => by cases h
  | k + 1 => listV_le (by simp) fun x h => by simp at h; subst h; exact nestV_le k

theorem rowL_len (w : Nat) : (rowL w).length = w := by simp [rowL]
theorem allL_len (n w : Nat) : (allL n w).length = n := by simp [allL]
theorem rowL_get {w i : Nat} (h : i < w) : (rowL w).getD i default = intV i := by
  rw [getD_at _ _ (by rw [rowL_len]; exact h)]; simp [rowL]
theorem allL_get {n w i : Nat} (h : i < n) : (allL n w).getD i default = listV (rowL w) := by
  rw [getD_at _ _ (by rw [allL_len]; exact h)]; simp [allL]

theorem rowV_le {w : Nat} (hw : w ≤ 257) : V.le 2 (listV (rowL w)) :=
  listV_le (by rw [rowL_len]; omega) fun x hx => by
    obtain ⟨i, _, rfl⟩ := List.mem_map.1 hx
    exact mkV_le _ _ _ _ (by decide) 0
theorem allV_le {n w : Nat} (hn : n ≤ 23) (hw : w ≤ 257) : V.le 3 (listV (allL n w)) :=
  listV_le (by rw [allL_len]; omega) fun x hx => by
    obtain ⟨_, rfl⟩ := List.mem_replicate.1 hx
    exact rowV_le hw

theorem kids_list (l : List V) : kids (listV l) = l := by simp [kids, listV, V.kind, V.list]
theorem kids_int (i : Nat) : kids (intV i) = [] := by simp [kids, intV, mkV, V.kind]

theorem nest_kind : ∀ (k : Nat) (l : Int), ∀ p ∈ preV (k + 1) l (nestV k), p.2.2.kind = 8
  | 0, l, p, hp => by
    simp only [preV, nestV, kids_list, List.map_nil, List.flatten_nil, List.mem_singleton] at hp
    subst hp; rfl
  | k + 1, l, p, hp => by
    rw [preV, show kids (nestV (k + 1)) = [nestV k] from kids_list _] at hp
    simp only [List.map_cons, List.map_nil, List.flatten_cons, List.flatten_nil, List.append_nil, List.mem_cons] at hp
    rcases hp with rfl | hp
    · rfl
    · exact nest_kind k _ p hp

theorem nest_depth : ∀ k, depthV (k + 1) (nestV k) = k + 1
  | 0 => rfl
  | k + 1 => by
    rw [depthV, show kids (nestV (k + 1)) = [nestV k] from kids_list _]
    simp only [List.map_cons, List.map_nil, List.foldl_cons, List.foldl_nil, nest_depth k]
    omega

theorem nest_check (k : Nat) (h : k < 12) : checkE (fun _ => true) (preV (k + 1) 1 (nestV k)) = if 8 < k + 1 then 23 else 0 := by
  have : k = 0 ∨ k = 1 ∨ k = 2 ∨ k = 3 ∨ k = 4 ∨ k = 5 ∨ k = 6 ∨ k = 7 ∨ k = 8 ∨ k = 9 ∨ k = 10 ∨ k = 11 := by omega
  rcases this with rfl | rfl | rfl | rfl | rfl | rfl | rfl | rfl | rfl | rfl | rfl | rfl <;> rfl

theorem all_pre {n w : Nat} (p : Int × Nat × V) (hp : p ∈ preV 3 1 (listV (allL n w))) :
    p.1 ≤ 3 ∧ (p.2.2 = listV (allL n w) ∨ (0 < n ∧ p.2.2 = listV (rowL w)) ∨ ∃ i, i < w ∧ p.2.2 = intV i) := by
  rw [preV, kids_list] at hp
  rcases List.mem_cons.1 hp with rfl | hp
  · exact ⟨by show (1 : Int) ≤ 3; decide, .inl rfl⟩
  · obtain ⟨l, hl, hp⟩ := List.mem_flatten.1 hp
    obtain ⟨x, hx, rfl⟩ := List.mem_map.1 hl
    obtain ⟨hn, rfl⟩ := List.mem_replicate.1 hx
    rw [preV, kids_list] at hp
    rcases List.mem_cons.1 hp with rfl | hp
    · exact ⟨by show (1 : Int) + 1 ≤ 3; decide, .inr (.inl ⟨by omega, rfl⟩)⟩
    · obtain ⟨l, hl, hp⟩ := List.mem_flatten.1 hp
      obtain ⟨x, hx, rfl⟩ := List.mem_map.1 hl
      obtain ⟨i, hi, rfl⟩ := List.mem_map.1 hx
      rw [preV, kids_int] at hp
      simp only [List.map_nil, List.flatten_nil, List.mem_singleton] at hp
      subst hp
      exact ⟨by show (1 : Int) + 1 + 1 ≤ 3; decide, .inr (.inr ⟨i, List.mem_range.1 hi, rfl⟩)⟩

theorem sum_const (c : Nat) : ∀ (l : List Nat), (∀ x ∈ l, x = c) → l.sum = l.length * c
  | [], _ => by simp
  | a :: l, h => by
    rw [List.sum_cons, sum_const c l fun x hx => h x (List.mem_cons_of_mem _ hx), h a (List.mem_cons_self ..), List.length_cons, Nat.succ_mul]; omega

theorem row_size (w : Nat) : sizeV 2 (listV (rowL w)) = 1 + w := by
  rw [sizeV, kids_list, sum_const 1]
  · simp [rowL]
  · intro x hx
    obtain ⟨y, hy, rfl⟩ := List.mem_map.1 hx
    obtain ⟨i, _, rfl⟩ := List.mem_map.1 hy
    rw [sizeV, kids_int]; rfl

theorem all_size (n w : Nat) : sizeV 3 (listV (allL n w)) = 1 + n + n * w := by
  rw [sizeV, kids_list, sum_const (1 + w)]
  · rw [List.length_map, allL_len, Nat.mul_add]; omega
  · intro x hx
    obtain ⟨y, hy, rfl⟩ := List.mem_map.1 hx
    obtain ⟨_, rfl⟩ := List.mem_replicate.1 hy
    exact row_size w

theorem firstI_const {f : Nat → Int} {e : Int} : ∀ n : Nat, (∀ k, k < n → f k = 0 ∨ f k = e) → (firstI f n = 0 ∧ ∀ k, k < n → f k = 0) ∨ (firstI f n = e ∧ ∃ k, k < n ∧ f k = e ∧ (e = 0 ∨ f k ≠ 0))
  | 0, _ => .inl ⟨rfl, fun k h => absurd h (Nat.not_lt_zero _)⟩
  | n + 1, h => by
    rcases firstI_const n fun k hk => h k (by omega) with ⟨h1, h2⟩ | ⟨h1, k, h2, h3, h4⟩
    · simp only [firstI, h1, ne_eq, not_true, if_false]
      rcases h n (by omega) with q | q
      · exact .inl ⟨q, fun k hk => by by_cases w : k < n; exact h2 k w; rw [show k = n by omega]; exact q⟩
      · by_cases he : e = 0
        · exact .inl ⟨q.trans he, fun k hk => by by_cases w : k < n; exact h2 k w; rw [show k = n by omega]; exact q.trans he⟩
        · exact .inr ⟨q, n, by omega, q, .inr (by rw [q]; exact he)⟩
    · by_cases he : e = 0
      · simp only [firstI, h1, he, ne_eq, not_true, if_false]
        rcases h n (by omega) with q | q
        · exact .inr ⟨q, k, by omega, by rw [h3, he], .inl trivial⟩
        · exact .inr ⟨by rw [q, he], k, by omega, by rw [h3, he], .inl trivial⟩
      · have h5 : firstI f (n + 1) = e := by
          show (if firstI f n ≠ 0 then firstI f n else f n) = e
          rw [h1, if_pos he]
        exact .inr ⟨h5, k, by omega, h3, h4⟩

theorem own_list (l : List V) : ownE (fun _ => true) (listV l) = if 256 < l.length then 9 else 0 := by
  rw [own_rule (by rfl) (by show ¬ ((8 : Int) < 1 ∨ 10 < (8 : Int)); decide) (by simp [usesB, listV, V.kind, V.int, V.scale, V.text, V.list, V.fields]; rfl), ruleE8 rfl]
  show sizeE (l.length : Int) 256 9 = _
  unfold sizeE
  by_cases h : 256 < l.length
  · rw [if_pos h, if_pos (by omega)]
  · rw [if_neg h, if_neg (by omega)]
theorem own_int {i : Nat} (h : i ≤ 1000) : ownE (fun _ => true) (intV i) = 0 := by
  rw [own_rule (by rfl) (by show ¬ ((2 : Int) < 1 ∨ 10 < (2 : Int)); decide) (by simp [usesB, intV, mkV, V.kind, V.int, V.scale, V.text, V.list, V.fields]; rfl), ruleE2 rfl]
  show between (i : Int) _ _ = 0
  unfold between
  rw [if_neg (by omega)]

theorem all_check {n w : Nat} (hn : n ≤ 23) (hw : 2 ≤ w ∧ w ≤ 257) : checkE (fun _ => true) (preV 3 1 (listV (allL n w))) = if (256 < w ∧ 0 < n) ∨ 4096 < 1 + n + n * w then 9 else 0 := by
  have hlen : (preV 3 1 (listV (allL n w))).length = 1 + n + n * w := by rw [preV_len, all_size]
  have hown : ∀ p ∈ preV 3 1 (listV (allL n w)), p.1 ≤ 3 ∧ (ownE (fun _ => true) p.2.2 = 0 ∨ (ownE (fun _ => true) p.2.2 = 9 ∧ 0 < n ∧ 256 < w)) := fun p hp => by
    obtain ⟨h1, h2⟩ := all_pre p hp
    refine ⟨h1, ?_⟩
    rcases h2 with h | ⟨h0, h⟩ | ⟨i, hi, h⟩
    · rw [h, own_list, allL_len, if_neg (by omega)]; exact .inl rfl
    · rw [h, own_list, rowL_len]
      by_cases q : 256 < w
      · rw [if_pos q]; exact .inr ⟨rfl, h0, q⟩
      · rw [if_neg q]; exact .inl rfl
    · rw [h, own_int (by omega)]; exact .inl rfl
  have hat : ∀ k, (hk : k < (preV 3 1 (listV (allL n w))).length) → checkAt (fun _ => true) (preV 3 1 (listV (allL n w))) k = if 4096 ≤ k then 9 else ownE (fun _ => true) (preV 3 1 (listV (allL n w)))[k].2.2 := fun k hk => by
    unfold checkAt
    rw [List.getElem?_eq_getElem hk]
    have := (hown _ (List.getElem_mem hk)).1
    by_cases q : 4096 ≤ k
    · simp only [q, if_true]
    · simp only [q, if_false]
      rw [if_neg (by omega)]
  have hc := firstI_const (f := checkAt (fun _ => true) (preV 3 1 (listV (allL n w)))) (e := 9) (preV 3 1 (listV (allL n w))).length fun k hk => by
    rw [hat k hk]
    split
    · exact .inr rfl
    · exact (hown _ (List.getElem_mem hk)).2.imp_right fun h => h.1
  unfold checkE
  rcases hc with ⟨h1, h2⟩ | ⟨h1, k, hk, h2, _⟩
  · rw [h1, if_neg]
    rintro (⟨q1, q2⟩ | q)
    · obtain ⟨m, rfl⟩ : ∃ m, n = m + 1 := ⟨n - 1, by omega⟩
      have h11 : (preV 3 1 (listV (allL (m + 1) w)))[1]? = some (2, 1, listV (rowL w)) := by
        rw [preV, kids_list, allL, List.replicate_succ, List.map_cons, List.flatten_cons, preV]; rfl
      have hl1 : 1 < (preV 3 1 (listV (allL (m + 1) w))).length := by rw [hlen]; omega
      have := h2 1 hl1
      rw [hat 1 hl1, if_neg (by decide)] at this
      have e : (preV 3 1 (listV (allL (m + 1) w)))[1] = (2, 1, listV (rowL w)) := by rw [List.getElem?_eq_getElem hl1] at h11; exact Option.some.inj h11
      rw [e, own_list, rowL_len, if_pos q1] at this
      cases this
    · have hl : 4096 < (preV 3 1 (listV (allL n w))).length := by omega
      have := h2 4096 hl
      rw [hat 4096 hl, if_pos (Nat.le_refl _)] at this
      cases this
  · rw [h1, if_pos]
    rw [hat k hk] at h2
    by_cases q : 4096 ≤ k
    · exact .inr (by omega)
    · rw [if_neg q] at h2
      rcases (hown _ (List.getElem_mem hk)).2 with w1 | ⟨_, w2, w3⟩
      · rw [w1] at h2; cases h2
      · exact .inl ⟨w3, w2⟩
end Go.Ai

namespace Go.Ai
open Go Go.Proofs
set_option maxRecDepth 100000
set_option maxHeartbeats 2000000

theorem nest_row (j : Nat) : ∀ i, i < 1 → LeL (litArr [cells (j + 1) true fun _ => nestV j] fun _ => i) (cells (j + 1) false fun _ => nestV j) := by
  intro i hi
  have : i = 0 := by omega
  subst this
  exact le_cells (j + 1) _

theorem law_limits (a b c : Int) (ha : 0 ≤ a ∧ a ≤ 255) (hb : 0 ≤ b ∧ b ≤ 255) (hc : 0 ≤ c ∧ c ≤ 255) :
    AFun Tryd.prog 10 [.int .u8 fun _ => a, .int .u8 fun _ => b, .int .u8 fun _ => c] [] (.bool fun _ => true) [] := by
  obtain ⟨k, hk, hk1⟩ : ∃ k : Nat, IntKind.i64.wrap (1 + IntKind.i64.wrap (a.tmod 12)) = ((k + 1 : Nat) : Int) ∧ k < 12 := by
    refine ⟨(a.tmod 12).toNat, ?_, ?_⟩
    · have e : IntKind.i64.wrap (a % 12) = a % 12 := w64 (by omega) (by omega)
      rw [Int.tmod_eq_emod_of_nonneg ha.1, e, w64 (by omega) (by omega)]; omega
    · rw [Int.tmod_eq_emod_of_nonneg ha.1]; omega
  obtain ⟨n, hn, hn1⟩ : ∃ n : Nat, IntKind.i64.wrap (b.tmod 24) = (n : Int) ∧ n ≤ 23 := by
    refine ⟨(b.tmod 24).toNat, ?_, ?_⟩
    · rw [Int.tmod_eq_emod_of_nonneg hb.1, w64 (by omega) (by omega)]; omega
    · rw [Int.tmod_eq_emod_of_nonneg hb.1]; omega
  obtain ⟨w, hw, hw1⟩ : ∃ w : Nat, IntKind.i64.wrap (IntKind.i64.wrap c + 2) = (w : Int) ∧ 2 ≤ w ∧ w ≤ 257 := by
    refine ⟨(c + 2).toNat, ?_, ?_⟩
    · have e : IntKind.i64.wrap c = c := w64 (by omega) (by omega)
      rw [e, w64 (by omega) (by omega)]; omega
    · omega
  have hL0 := List_ok 0 [] (nestV_le 0)
  have hC1 := Check_ok (fun _ => true) k (nestV k) (nestV_le k) (by omega) fun p hp h4 => by have := nest_kind k 1 p hp; omega
  rw [nest_check k hk1] at hC1
  have hD1 := Depth_ok k (nestV k) (nestV_le k) (by omega)
  rw [nest_depth] at hD1
  have hall := allV_le hn1 hw1.2
  have hC2 := Check_ok (fun _ => true) 2 (listV (allL n w)) hall (by omega) fun p hp h4 => by
    rcases (all_pre p hp).2 with h | ⟨_, h⟩ | ⟨i, _, h⟩ <;> rw [h] at h4 <;> cases h4
  rw [all_check hn1 hw1] at hC2
  have hS2 := Size_ok 2 (listV (allL n w)) hall (by omega) (by rw [all_size]; have : n * w ≤ 23 * 257 := Nat.mul_le_mul hn1 hw1.2; omega)
  rw [all_size] at hS2
  obtain ⟨A, hA⟩ : ∃ A, A = listV (allL n w) := ⟨_, rfl⟩
  rw [← hA] at hC2 hS2
  obtain ⟨E2, hE2⟩ : ∃ E2 : Int, E2 = if (256 < w ∧ 0 < n) ∨ 4096 < 1 + n + n * w then 9 else 0 := ⟨_, rfl⟩
  rw [← hE2] at hC2
  have hprod : n * w ≤ 5911 := by have : n * w ≤ 23 * 257 := Nat.mul_le_mul hn1 hw1.2; omega
  have hwr : IntKind.i64.wrap (IntKind.i64.wrap (1 + (n : Int)) + IntKind.i64.wrap ((n : Int) * (w : Int))) = ((1 + n + n * w : Nat) : Int) := by
    have h1 : IntKind.i64.wrap (1 + (n : Int)) = 1 + (n : Int) := w64 (by omega) (by omega)
    have h2 : IntKind.i64.wrap ((n : Int) * (w : Int)) = ((n * w : Nat) : Int) := by
      rw [← Int.natCast_mul]; exact w64 (by omega) (by omega)
    rw [h1, h2, w64 (by omega) (by omega)]; rfl
  (apply AFun.of T4_ok mixed4 [.tmp 6] kp10 [(2, [(0, encV 1 true fun _ => nestV 0, [])]), (10, [(0, known_ok.out), (4, .int .i64 fun _ => if 8 < k + 1 then 23 else 0, []), (10, .int .i64 fun _ => ((k + 1 : Nat) : Int), [])]),
    (25, [(1, encV 3 true fun _ => A, [(1000, .arr false 25 6 0 (fun _ => n) fun i => cells 2 false fun _ => (allL n w).getD (i ()) default)])]), (26, [(1, .int .i64 fun _ => E2, []), (6, .int .i64 fun _ => ((1 + n + n * w : Nat) : Int), [])])] Tryd.func10 (fun _ => ?_); (any_goals ((with_reducible refine wk_id ?_); cbv; (try dsimp only [nc] at *); (repeat' (with_reducible first | exact all_nil.2 trivial | exact ob_nil | refine ob_cons ?_ ?_ | refine VC.mk rfl ?_ ?_ ?_ | (refine CondVC.mk ?_ ?_ <;> intro hz <;> (try simp only [nc, bytes_empty, if_or, if_and] at hz) <;> (try simp only [Bool.false_eq_true, Bool.true_eq_false, Bool.and_eq_true, Bool.or_eq_true, Bool.not_eq_true', Bool.not_eq_true, Bool.and_eq_false_iff, Bool.or_eq_false_iff, Bool.not_eq_false', beq_iff_eq, beq_eq_false_iff_ne, bne_iff_ne, bne_eq_false_iff_eq, dec_t, dec_f, ne_eq, Decidable.not_not, Int.ofNat_lt, Int.ofNat_le, Int.toNat_natCast, Int.not_lt, Int.not_le, Nat.not_lt, Nat.not_le] at hz) <;> (revert hz; intro _)) | (refine end_exit ?_; cbv; (try dsimp only [nc] at *)) | (refine end_out ?_; cbv; (try dsimp only [nc] at *)))))))
  (any_goals ((with_reducible first | refine hob_none ?_ | refine hob_some (fun _ => ?_)); (try dsimp only); (refine AFun.weak_in hL0 ?_); (focus (cbv; (try dsimp only [nc] at *); (try simp only [all_nil, all_cons, and_true]); (try (repeat' (with_reducible apply And.intro))); (all_goals (try first | rfl | exact fun _ _ => LeL.of_eq rfl | exact LeL.of_eq rfl | trivial | omega))))))
  ((all_goals (try (with_reducible first | (refine end_ret ?_; (focus (cbv; (try dsimp only [nc] at *); (try simp only [all_nil, all_cons, and_true, true_and, nc]); (try (repeat' (with_reducible apply And.intro))); (all_goals (try first | rfl | exact fun _ _ => LeL.of_eq rfl | exact LeL.of_eq rfl | trivial | omega))))) | (refine end_normal ?_; (focus (cbv; (try dsimp only [nc] at *); (try simp only [all_nil, all_cons, and_true, true_and, nc]); (try (repeat' (with_reducible apply And.intro))); (all_goals (try first | rfl | exact fun _ _ => LeL.of_eq rfl | exact LeL.of_eq rfl | trivial | omega)))))))); (all_goals (try (focus ((with_reducible rw [all_cons]); (try simp only [all_nil, and_true]); (repeat' (with_reducible apply And.intro)); (all_goals (try first | exact fun _ _ h => h | exact fun _ h => h | exact fun h => h | exact pick_t | exact pick_f | omega | (focus (intros; (try simp only [nc, bytes_empty, if_or, if_and] at *); (try simp only [Bool.false_eq_true, Bool.true_eq_false, Bool.and_eq_true, Bool.or_eq_true, Bool.not_eq_true', Bool.not_eq_true, Bool.and_eq_false_iff, Bool.or_eq_false_iff, Bool.not_eq_false', beq_iff_eq, beq_eq_false_iff_ne, bne_iff_ne, bne_eq_false_iff_eq, beq_true, beq_false, dec_t, dec_f, ne_eq, Decidable.not_not, Int.ofNat_lt, Int.ofNat_le, Int.toNat_natCast, Int.not_lt, Int.not_le, Nat.not_lt, Nat.not_le] at *); (try simp (disch := omega) only [w64] at *); (first | omega | assumption | ((repeat' (with_reducible apply And.intro)) <;> first | omega | assumption)))))))))))
  refine .loop (fun j : Nat => ⟨105, [(9, .int .i64 fun _ => ((j + 1 : Nat) : Int)), (8, .ptr 8 0), (7, .int .i64 fun _ => ((k + 1 : Nat) : Int)), (1, .int .u8 fun _ => b), (2, .int .u8 fun _ => c)], [(8, .box (cells (j + 1) true fun _ => nestV j))]⟩)
    (fun j => j ≤ k) (fun j => k - j) 0 (Nat.zero_le _) ?_ fun j E hj => ?_
  · (focus (cbv; (try dsimp only [nc] at *); (try simp only [all_nil, all_cons, and_true, true_and]); (try (repeat' (with_reducible apply And.intro))); (all_goals (try first | rfl | exact fun _ _ => LeL.of_eq rfl | exact LeL.of_eq rfl | trivial | omega))))
  have hL := List_own (j + 1) [nestV j] (nestV_le (j + 1)) (fun _ => cells (j + 1) false fun _ => nestV j) (fun i hi => by
    have : i = 0 := by simpa using hi
    subst this; exact LeL.of_eq rfl) false
  apply AWp.wk T4_ok mixed4 [(6, [(2, encV (j + 2) true fun _ => nestV (j + 1), [(1000, .arr false 25 6 0 (fun _ => 1) fun _ => cells (j + 1) false fun _ => nestV j)])])] kp10 ?_
  (any_goals ((with_reducible refine wk_id ?_); cbv; (try dsimp only [nc] at *); (repeat' (with_reducible first | exact all_nil.2 trivial | exact ob_nil | refine ob_cons ?_ ?_ | refine VC.mk rfl ?_ ?_ ?_ | (refine CondVC.mk ?_ ?_ <;> intro hz <;> (try simp only [if_or] at hz) <;> (try simp only [Bool.true_eq_false, Bool.or_eq_true, Bool.not_eq_true', Bool.or_eq_false_iff, Bool.not_eq_false', bne_iff_ne, bne_eq_false_iff_eq, dec_t, dec_f, ne_eq, Int.ofNat_lt, Int.not_lt, Nat.not_lt] at hz) <;> (revert hz; intro _)) | (refine end_exit ?_; cbv; (try dsimp only [nc] at *)) | (refine end_out ?_; cbv; (try dsimp only [nc] at *))))))
  all_goals (try (have hjk : j = k := by omega
                  subst hjk))
  (any_goals ((with_reducible first | refine hob_none ?_ | refine hob_some (fun _ => ?_)); (try dsimp only); (refine AFun.weak_in hL ?_); (focus (cbv; (try dsimp only [nc] at *); (try simp only [all_nil, all_cons, and_true]); (try (repeat' (with_reducible apply And.intro))); (all_goals (try first | rfl | exact fun _ _ => LeL.of_eq rfl | exact LeL.of_eq rfl | trivial | omega))))))
  (any_goals ((with_reducible first | refine hob_none ?_ | refine hob_some (fun _ => ?_)) <;> exact known_ok))
  (any_goals ((with_reducible first | refine hob_none ?_ | refine hob_some (fun _ => ?_)); (try dsimp only); (refine AFun.weak_in hC1 ?_); (focus (cbv; (try dsimp only [nc] at *); (try simp only [all_nil, all_cons, and_true, true_and]); (try (repeat' (with_reducible apply And.intro))); (all_goals (try first | rfl | exact fun _ _ => LeL.of_eq rfl | exact LeL.of_eq rfl | trivial | omega))))))
  (any_goals ((with_reducible first | refine hob_none ?_ | refine hob_some (fun _ => ?_)); (try dsimp only); (refine AFun.weak_in hD1 ?_); (focus (cbv; (try dsimp only [nc] at *); (try simp only [all_nil, all_cons, and_true, true_and]); (try (repeat' (with_reducible apply And.intro))); (all_goals (try first | rfl | exact fun _ _ => LeL.of_eq rfl | exact LeL.of_eq rfl | trivial | omega))))))
  all_goals (try exact fun i _ => le_sub _ _ _ _)
  all_goals (try exact nest_row j)
  ((all_goals (try (with_reducible first | (refine end_ret ?_; (focus (cbv; (try dsimp only [nc] at *); (try simp only [all_nil, all_cons, and_true]); (try (repeat' (with_reducible apply And.intro))); (all_goals (try first | rfl | exact fun _ _ => LeL.of_eq rfl | exact LeL.of_eq rfl | trivial | omega))))) | (refine end_normal ?_; (focus (cbv; (try dsimp only [nc] at *); (try simp only [all_nil, all_cons, and_true, true_and, nc]); (try (repeat' (with_reducible apply And.intro))); (all_goals (try first | rfl | exact fun _ _ => LeL.of_eq rfl | exact LeL.of_eq rfl | trivial | omega)))))))); (all_goals (try (focus ((with_reducible rw [all_cons]); (try simp only [all_cons, all_nil, and_true]); (repeat' (with_reducible apply And.intro)); (all_goals (try first | exact fun _ _ h => h | exact fun _ h => h | exact fun h => h | exact pick_t | exact pick_f | omega | (focus (intros; (try simp only [nc, bytes_empty, if_or, if_and] at *); (try simp only [Bool.false_eq_true, Bool.true_eq_false, Bool.and_eq_true, Bool.or_eq_true, Bool.not_eq_true', Bool.not_eq_true, Bool.and_eq_false_iff, Bool.or_eq_false_iff, Bool.not_eq_false', beq_iff_eq, beq_eq_false_iff_ne, bne_iff_ne, bne_eq_false_iff_eq, beq_true, beq_false, dec_t, dec_f, ne_eq, Decidable.not_not, Int.ofNat_lt, Int.ofNat_le, Int.toNat_natCast, Int.not_lt, Int.not_le, Nat.not_lt, Nat.not_le] at *); (try simp (disch := omega) only [w64] at *); (first | omega | assumption | ((repeat' (with_reducible apply And.intro)) <;> first | omega | assumption)))))))))))
  · refine end_round (j + 1) ⟨by omega, by omega⟩ ?_
    (focus (cbv; (try dsimp only [nc] at *); (try simp only [all_nil, all_cons, and_true, true_and]); (try (repeat' (with_reducible apply And.intro))); (all_goals (try first | rfl | exact fun _ _ => LeL.of_eq rfl | exact LeL.of_eq rfl | trivial | omega))))
    rw [w64 (by omega) (by omega)]; rfl
  · rename_i q1 q2 q3
    rw [if_pos (by omega)] at q3
    simp at q3
  rotate_left 1
  · rename_i q1 q2 q3
    rw [if_neg (by omega)] at q3
    simp at q3
  all_goals
    refine .loop (fun j : Nat => ⟨105, [(15, .int .i64 fun _ => j), (14, .nil), (13, .aref 62 0 fun _ => j), (12, .int .i64 fun _ => (w : Int)), (11, .int .i64 fun _ => (n : Int))], [(62, .arr false 25 6 0 (fun _ => j) (listF 1 false fun _ => rowL w))]⟩)
      (fun j => j ≤ w) (fun j => w - j) 0 (Nat.zero_le _) ?_ fun m E hm => ?_
    · (focus (cbv; (try dsimp only [nc] at *); (try simp only [all_nil, all_cons, and_true, true_and]); (try (repeat' (with_reducible apply And.intro))); (all_goals (try first | rfl | exact fun _ _ => LeL.of_eq rfl | exact LeL.of_eq rfl | trivial | omega))))
      all_goals (first | exact hw | exact hn)
    apply AWp.wk T4_ok mixed4 [(17, [(2, encV 1 true fun _ => intV m, [])])] kp10 ?_
    (any_goals ((with_reducible refine wk_id ?_); cbv; (try dsimp only [nc] at *); (repeat' (with_reducible first | exact all_nil.2 trivial | exact ob_nil | refine ob_cons ?_ ?_ | refine VC.mk rfl ?_ ?_ ?_ | (refine CondVC.mk ?_ ?_ <;> intro hz <;> (try simp only [nc, bytes_empty, if_or, if_and] at hz) <;> (try simp only [dec_t, dec_f, Int.ofNat_lt, Nat.not_lt] at hz) <;> (revert hz; intro _)) | (refine end_exit ?_; cbv; (try dsimp only [nc] at *)) | (refine end_out ?_; cbv; (try dsimp only [nc] at *))))))
    (any_goals ((with_reducible first | refine hob_none ?_ | refine hob_some (fun _ => ?_)) <;> exact (Int_ok m 0)))
    ((all_goals (try (with_reducible first | (refine end_ret ?_; (focus (cbv; (try dsimp only [nc] at *); (try simp only [all_nil, all_cons, and_true, true_and, nc]); (try (repeat' (with_reducible apply And.intro))); (all_goals (try first | rfl | exact fun _ _ => LeL.of_eq rfl | exact LeL.of_eq rfl | trivial | omega))))) | (refine end_normal ?_; (focus (cbv; (try dsimp only [nc] at *); (try simp only [all_nil, all_cons, and_true, true_and, nc]); (try (repeat' (with_reducible apply And.intro))); (all_goals (try first | rfl | exact fun _ _ => LeL.of_eq rfl | exact LeL.of_eq rfl | trivial | omega)))))))); (all_goals (try (focus ((with_reducible rw [all_cons]); (try simp only [all_nil, and_true]); (repeat' (with_reducible apply And.intro)); (all_goals (try first | exact fun _ _ h => h | exact fun _ h => h | exact fun h => h | exact pick_t | exact pick_f | omega | (focus (intros; (try simp only [nc, bytes_empty, if_or, if_and] at *); (try simp only [Bool.false_eq_true, Bool.true_eq_false, Bool.and_eq_true, Bool.or_eq_true, Bool.not_eq_true', Bool.not_eq_true, Bool.and_eq_false_iff, Bool.or_eq_false_iff, Bool.not_eq_false', beq_iff_eq, beq_eq_false_iff_ne, bne_iff_ne, bne_eq_false_iff_eq, beq_true, beq_false, dec_t, dec_f, ne_eq, Decidable.not_not, Int.ofNat_lt, Int.ofNat_le, Int.toNat_natCast, Int.not_lt, Int.not_le, Nat.not_lt, Nat.not_le] at *); (try simp (disch := omega) only [w64] at *); (first | omega | assumption | ((repeat' (with_reducible apply And.intro)) <;> first | omega | assumption)))))))))))
    · refine end_round (m + 1) ⟨by omega, by omega⟩ ?_
      (focus (cbv; (try dsimp only [nc] at *); (try simp only [all_nil, all_cons, and_true, true_and]); (try (repeat' (with_reducible apply And.intro))); (all_goals (try first | rfl | exact fun _ _ => LeL.of_eq rfl | exact LeL.of_eq rfl | trivial | omega))))
      · rw [w64 (by omega) (by omega)]; rfl
      · exact catN_le (d := 1) (l := rowL w) (fun _ _ => LeL.of_eq rfl) (by rw [rowL_get (by omega)]; exact le_cells 1 _)
    have hmw : m = w := by omega
    subst hmw
    refine .loop (fun j : Nat => ⟨105, [(16, .int .i64 fun _ => j), (14, .aref 72 0 fun _ => j), (13, .aref 62 0 fun _ => m), (12, .int .i64 fun _ => (m : Int)), (11, .int .i64 fun _ => (n : Int))], [(62, .arr false 25 6 0 (fun _ => m) (listF 1 false fun _ => rowL m)), (72, .arr false 25 6 0 (fun _ => j) (listF 2 false fun _ => allL n m))]⟩)
      (fun j => j ≤ n) (fun j => n - j) 0 (Nat.zero_le _) ?_ fun q E hq => ?_
    · (focus (cbv; (try dsimp only [nc] at *); (try simp only [all_nil, all_cons, and_true, true_and]); (try (repeat' (with_reducible apply And.intro))); (all_goals (try first | rfl | exact fun _ _ => LeL.of_eq rfl | exact LeL.of_eq rfl | trivial | omega))))
    have hR := List_own 1 (rowL m) (rowV_le hw1.2) (listF 1 false fun _ => rowL m) (fun _ _ => LeL.of_eq rfl) false
    rw [rowL_len] at hR
    have hA2 := List_own 2 (allL n m) hall (listF 2 false fun _ => allL n m) (fun _ _ => LeL.of_eq rfl) false
    rw [allL_len, show V.mk 8 0 0 ⟨#[]⟩ (allL n m) [] = A from hA.symm] at hA2
    have hAle : V.le 3 A := by rw [hA]; exact hall
    apply AWp.wk T4_ok mixed4 [(21, [(2, encV 2 true fun _ => listV (rowL m), [(1000, .arr false 25 6 0 (fun _ => m) (listF 1 false fun _ => rowL m))])])] kp10 ?_
    (any_goals ((with_reducible refine wk_id ?_); cbv; (try dsimp only [nc] at *); (repeat' (with_reducible first | exact all_nil.2 trivial | exact ob_nil | refine ob_cons ?_ ?_ | refine VC.mk rfl ?_ ?_ ?_ | (refine CondVC.mk ?_ ?_ <;> intro hz <;> (try simp only [if_or, if_and] at hz) <;> (try simp only [Bool.and_eq_true, Bool.or_eq_true, Bool.and_eq_false_iff, Bool.or_eq_false_iff, dec_t, dec_f, Int.ofNat_lt, Int.not_lt, Nat.not_lt] at hz) <;> (revert hz; intro _)) | (refine end_exit ?_; cbv; (try dsimp only [nc] at *)) | (refine end_out ?_; cbv; (try dsimp only [nc] at *))))))
    all_goals (try (have hqn : q = n := by omega
                    subst hqn))
    (any_goals ((with_reducible first | refine hob_none ?_ | refine hob_some (fun _ => ?_)) <;> exact hR))
    (any_goals ((with_reducible first | refine hob_none ?_ | refine hob_some (fun _ => ?_)) <;> exact hA2))
    (any_goals ((with_reducible first | refine hob_none ?_ | refine hob_some (fun _ => ?_)); (try dsimp only); (refine AFun.weak_in hC2 ?_); (focus (cbv; (try dsimp only [nc] at *); (try simp only [all_nil, all_cons, and_true, true_and]); (try (repeat' (with_reducible apply And.intro))); (all_goals (try first | rfl | exact fun _ _ => LeL.of_eq rfl | exact LeL.of_eq rfl | trivial | omega))))))
    (any_goals ((with_reducible first | refine hob_none ?_ | refine hob_some (fun _ => ?_)); (try dsimp only); (refine AFun.weak_in hS2 ?_); (focus (cbv; (try dsimp only [nc] at *); (try simp only [all_nil, all_cons, and_true, true_and]); (try (repeat' (with_reducible apply And.intro))); (all_goals (try first | rfl | exact fun _ _ => LeL.of_eq rfl | exact LeL.of_eq rfl | trivial | omega))))))
    all_goals (try exact fun i _ => le_sub _ _ _ _)
    ((all_goals (try (with_reducible first | (refine end_ret ?_; (focus (cbv; (try dsimp only [nc] at *); (try simp only [all_nil, all_cons, and_true]); (try (repeat' (with_reducible apply And.intro))); (all_goals (try first | rfl | exact fun _ _ => LeL.of_eq rfl | exact LeL.of_eq rfl | trivial | omega))))) | (refine end_normal ?_; (focus (cbv; (try dsimp only [nc] at *); (try simp only [all_nil, all_cons, and_true, true_and, nc]); (try (repeat' (with_reducible apply And.intro))); (all_goals (try first | rfl | exact fun _ _ => LeL.of_eq rfl | exact LeL.of_eq rfl | trivial | omega)))))))); (all_goals (try (focus ((with_reducible rw [all_cons]); (try simp only [all_cons, all_nil, and_true]); (repeat' (with_reducible apply And.intro)); (all_goals (try first | exact fun _ _ h => h | exact fun _ h => h | exact fun h => h | exact pick_t | exact pick_f | omega | (focus (intros; (try simp only [nc, bytes_empty, if_or, if_and] at *); (try simp only [Bool.false_eq_true, Bool.true_eq_false, Bool.and_eq_true, Bool.or_eq_true, Bool.not_eq_true', Bool.not_eq_true, Bool.and_eq_false_iff, Bool.or_eq_false_iff, Bool.not_eq_false', beq_iff_eq, beq_eq_false_iff_ne, bne_iff_ne, bne_eq_false_iff_eq, beq_true, beq_false, dec_t, dec_f, ne_eq, Decidable.not_not, Int.ofNat_lt, Int.ofNat_le, Int.toNat_natCast, Int.not_lt, Int.not_le, Nat.not_lt, Nat.not_le] at *); (try simp (disch := omega) only [w64] at *); (first | omega | assumption | ((repeat' (with_reducible apply And.intro)) <;> first | omega | assumption)))))))))))
    · refine end_round (q + 1) ⟨by omega, by omega⟩ ?_
      (focus (cbv; (try dsimp only [nc] at *); (try simp only [all_nil, all_cons, and_true, true_and]); (try (repeat' (with_reducible apply And.intro))); (all_goals (try first | rfl | exact fun _ _ => LeL.of_eq rfl | exact LeL.of_eq rfl | trivial | omega))))
      · rw [w64 (by omega) (by omega)]; rfl
      · exact catN_le (d := 2) (l := allL n m) (fun _ _ => LeL.of_eq rfl) (by rw [allL_get (by omega)]; exact le_cells 2 _)
    · rename_i h
      rw [hwr] at h ⊢
      have e : E2 = 9 := by rw [hE2]; exact if_pos (h.imp (fun x => ⟨by omega, by omega⟩) (fun x => by omega))
      rw [e]; simp
    · rename_i h
      rw [hwr] at h ⊢
      have e : E2 = 0 := by
        rw [hE2]; refine if_neg ?_
        rintro (⟨x, y⟩ | x)
        · rcases h.1 with z | z <;> omega
        · have := h.2; omega
      rw [e]; simp
end Go.Ai

namespace Go.Ai
open Go
theorem byte_of {n : Int} (h : (Lit.int .u8 n).wf = true) : 0 ≤ n ∧ n ≤ 255 := by
  rw [show (Lit.int .u8 n).wf = (decide (IntKind.u8.min ≤ n) && decide (n ≤ IntKind.u8.max)) from rfl, Bool.and_eq_true, decide_eq_true_eq, decide_eq_true_eq] at h
  exact h
end Go.Ai
