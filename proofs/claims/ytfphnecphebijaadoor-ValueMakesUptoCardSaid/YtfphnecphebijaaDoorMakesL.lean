/- 'ValueMakes': the makers of values, each beside the value written out. -/
import Derived.Test.YtfphnecphebijaaDoorSetsL
namespace Go.Ai
open Go Go.Proofs
set_option maxRecDepth 100000
set_option maxHeartbeats 2000000

theorem eq_ok (d : Nat) (a : V) (ha : V.le d a) : AFun Tryd.prog 31 [encV d false fun _ => a, encV d false fun _ => a] [] (.bool fun _ => true) [] := by
  have := Equal_ok d a a ha ha
  rw [(cmpV_cmp d).refl] at this
  exact this

def pairV (v w : V) : V := .mk 8 0 0 ⟨#[]⟩ [v, w] []

theorem pairV_le {d : Nat} {v w : V} (hv : V.le d v) (hw : V.le d w) : V.le (d + 1) (pairV v w) :=
  ⟨by simp [pairV, V.list], by simp [pairV, V.fields], Nat.zero_le _, fun x h => by simp [pairV, V.list] at h; rcases h with rfl | rfl <;> assumption, fun x h => by simp [pairV, V.fields] at h⟩

def pairF (d : Nat) (v w : V) : (Unit → Nat) → List AV := fun i => cells d false fun _ => [v, w].getD (i ()) default
def oneF (d : Nat) (v : V) : (Unit → Nat) → List AV := fun _ => cells d false fun _ => v

theorem List_pair (d : Nat) (v w : V) (hv : V.le d v) (hw : V.le d w) :
    AFun Tryd.prog 35 [.aref 1000 0 fun _ => 2] [(1000, .arr false 25 6 0 (fun _ => 2) (pairF d v w))] (encV (d + 1) true fun _ => pairV v w) [(1000, .arr false 25 6 0 (fun _ => 2) (pairF d v w))] :=
  List_own d [v, w] (pairV_le hv hw) (pairF d v w) (fun _ _ => LeL.of_eq rfl) false

theorem same_pair (d : Nat) (v w : V) (hv : V.le d v) (hw : V.le d w) :
    AFun Tryd.prog 26 [encV (d + 1) false fun _ => pairV v w, .agg [.int .i64 fun _ => 8, .int .i64 fun _ => 0, .int .i64 fun _ => 0, .str fun _ => ⟨#[]⟩, .aref 1001001004 0 fun _ => 2, .nil]] [(1001001004, .arr false 25 6 0 (fun _ => 2) (pairF d v w))] (.bool fun _ => true) [(1001001004, .arr false 25 6 0 (fun _ => 2) (pairF d v w))] := by
  refine (same_ok (d + 1) (pairV v w) (pairV_le hv hw)).borrow ?_ (by simp [encV, cells, cellsG, AV.pureL]) (fun av h => ?_) (by simp [AV.pureL]) (.bool _)
  · (focus (cbv; (try dsimp only [nc] at *); (try simp only [all_nil, all_cons, and_true, true_and]); (try (repeat' (with_reducible apply And.intro))); (all_goals (try first | rfl | exact fun _ _ => LeL.of_eq rfl | exact LeL.of_eq rfl | trivial | omega))))
  · simp at h; subst h
    exact nf_encV _ _

theorem same_one (d : Nat) (v : V) (s : ByteArray) (hs : s.size ≤ 1073741824) (hv : V.le d v) :
    AFun Tryd.prog 26 [encV (d + 1) false fun _ => varV s v, .agg [.int .i64 fun _ => 10, .int .i64 fun _ => 0, .int .i64 fun _ => 0, .str fun _ => s, .aref 1001001004 0 fun _ => 1, .nil]] [(1001001004, .arr false 25 6 0 (fun _ => 1) (oneF d v))] (.bool fun _ => true) [(1001001004, .arr false 25 6 0 (fun _ => 1) (oneF d v))] := by
  refine (same_ok (d + 1) (varV s v) (varV_le hs hv)).borrow ?_ (by simp [encV, cells, cellsG, AV.pureL]) (fun av h => ?_) (by simp [AV.pureL]) (.bool _)
  · (focus (cbv; (try dsimp only [nc] at *); (try simp only [all_nil, all_cons, and_true, true_and]); (try (repeat' (with_reducible apply And.intro))); (all_goals (try first | rfl | exact fun _ _ => LeL.of_eq rfl | exact LeL.of_eq rfl | trivial | omega))))
    intro i hi
    have : i = 0 := by omega
    subst this
    exact LeL.of_eq rfl
  · simp at h; subst h
    exact nf_encV _ _

theorem LeL.nil' {fr : Bool} {sz : Nat} {n : Unit → Nat} {f : (Unit → Nat) → List AV} {l m : List AV} (hn : n () = 0) (h : LeL l m) : LeL (.nil :: l) (.slc fr sz n f :: m) := by
  obtain ⟨h1, h2, h3⟩ := h
  refine ⟨by simp [h1], fun hc => ?_, fun w D B j av av' u q1 q2 q => ?_⟩
  · simp only [List.all_cons, Bool.and_eq_true] at hc ⊢
    exact ⟨rfl, h2 hc.2⟩
  · cases j with
    | zero =>
      simp at q1 q2; subst q1; subst q2
      cases q
      exact .empty _ _ _ _ none 0 hn (Nat.zero_le _)
    | succ j => exact h3 w D B j av av' u (by simpa using q1) (by simpa using q2) q

theorem two_le (d : Nat) (n : Int) : LeL [.int .i64 fun _ => 2, .int .i64 fun _ => n, .int .i64 fun _ => 0, .str fun _ => ⟨#[]⟩, .nil, .nil] (cells (d + 1) false fun _ => mkV 2 n 0 ⟨#[]⟩) :=
  LeL.cons' (LeL.cons' (LeL.cons' (LeL.cons' (LeL.nil' rfl (LeL.nil' rfl (LeL.of_eq rfl))))))

theorem pair_le {d : Nat} {v w : V} {a b : List AV} (ha : LeL a (cells d false fun _ => v)) (hb : LeL b (cells d false fun _ => w)) : ∀ i, i < 2 → LeL (litArr [a, b] fun _ => i) (pairF d v w fun _ => i) := by
  intro i hi
  have : i = 0 ∨ i = 1 := by omega
  rcases this with rfl | rfl
  · exact ha
  · exact hb

theorem one_le {d : Nat} {v : V} {a : List AV} (ha : LeL a (cells d false fun _ => v)) : ∀ i, i < 1 → LeL (litArr [a] fun _ => i) (oneF d v fun _ => i) := by
  intro i hi
  have : i = 0 := by omega
  subst this
  exact ha

theorem law_makes (d : Nat) (n : Int) (s : ByteArray) (v : V) (hv : V.le (d + 1) v) (hs : s.size ≤ 1048576) : AFun Tryd.prog 11 [.int .i64 fun _ => n, .str fun _ => s, encV (d + 1) false fun _ => v] [] (.bool fun _ => true) [] := by
  have hw := mkV_le 2 n 0 ⟨#[]⟩ (by decide) d
  have hL := List_pair (d + 1) v (mkV 2 n 0 ⟨#[]⟩) hv hw
  have hP := same_pair (d + 1) v (mkV 2 n 0 ⟨#[]⟩) hv hw
  have hO := same_one (d + 1) v s (by omega) hv
  have hV := Variant_ok (d + 1) s v (by omega) hv
  generalize pairV v (mkV 2 n 0 ⟨#[]⟩) = p at hL hP
  generalize varV s v = q at hV hO
  (apply AFun.of T4_ok mixed4 [.tmp 6] kp11 [(1, [(2, encV (d + 1) true fun _ => mkV 2 n 0 ⟨#[]⟩, []), (4, hL.out)]), (2, [(2, hV.out)]),
    (3, [(0, known_ok.out), (4, encV (d + 1) true fun _ => mkV 1 (if (n == 0) = true then 1 else 0) 0 ⟨#[]⟩, []), (7, .int .i64 fun _ => if (n == 0) = true then 1 else 0, []), (9, .bool fun _ => true, []),
      (13, encV (d + 1) true fun _ => mkV 2 n 0 ⟨#[]⟩, []), (16, .bool fun _ => true, []), (22, encV (d + 1) true fun _ => mkV 3 n s.size ⟨#[]⟩, []), (27, .bool fun _ => true, []), (31, encV (d + 1) true fun _ => mkV 4 0 0 s, []), (34, .bool fun _ => true, []),
      (38, encV (d + 1) true fun _ => mkV 5 0 0 s, []), (41, .bool fun _ => true, []), (45, encV (d + 1) true fun _ => mkV 6 n 0 ⟨#[]⟩, []), (48, .bool fun _ => true, []), (52, encV (d + 1) true fun _ => mkV 7 n 0 ⟨#[]⟩, []), (55, .bool fun _ => true, []),
      (64, hP.out), (72, hO.out)])] Tryd.func11 (fun _ => ?_); (any_goals ((with_reducible refine wk_id ?_); cbv; (try dsimp only [nc] at *); (repeat' (with_reducible first | exact all_nil.2 trivial | exact ob_nil | refine ob_cons ?_ ?_ | refine VC.mk rfl ?_ ?_ ?_ | (refine CondVC.mk ?_ ?_ <;> intro hz <;> (try simp only [nc, bytes_empty, if_or, if_and] at hz) <;> (try simp only [Bool.false_eq_true, Bool.true_eq_false, Bool.and_eq_true, Bool.or_eq_true, Bool.not_eq_true', Bool.not_eq_true, Bool.and_eq_false_iff, Bool.or_eq_false_iff, Bool.not_eq_false', beq_iff_eq, beq_eq_false_iff_ne, bne_iff_ne, bne_eq_false_iff_eq, dec_t, dec_f, ne_eq, Decidable.not_not, Int.ofNat_lt, Int.ofNat_le, Int.toNat_natCast, Int.not_lt, Int.not_le, Nat.not_lt, Nat.not_le] at hz) <;> (revert hz; intro _)) | (refine end_exit ?_; cbv; (try dsimp only [nc] at *)) | (refine end_out ?_; cbv; (try dsimp only [nc] at *)))))))
  (any_goals ((with_reducible first | refine hob_none ?_ | refine hob_some (fun _ => ?_)) <;> exact (Int_ok n d)))
  (any_goals ((with_reducible first | refine hob_none ?_ | refine hob_some (fun _ => ?_)) <;> exact (Bool_ok (n == 0) (d + 1))))
  (any_goals ((with_reducible first | refine hob_none ?_ | refine hob_some (fun _ => ?_)) <;> exact (number_ok (n == 0))))
  (any_goals ((with_reducible first | refine hob_none ?_ | refine hob_some (fun _ => ?_)) <;> exact (Decimal_ok n s.size d)))
  (any_goals ((with_reducible first | refine hob_none ?_ | refine hob_some (fun _ => ?_)) <;> exact (Text_ok s d)))
  (any_goals ((with_reducible first | refine hob_none ?_ | refine hob_some (fun _ => ?_)) <;> exact (Bytes_ok s d)))
  (any_goals ((with_reducible first | refine hob_none ?_ | refine hob_some (fun _ => ?_)) <;> exact (Date_ok n d)))
  (any_goals ((with_reducible first | refine hob_none ?_ | refine hob_some (fun _ => ?_)) <;> exact (Time_ok n d)))
  (any_goals ((with_reducible first | refine hob_none ?_ | refine hob_some (fun _ => ?_)) <;> exact known_ok))
  (any_goals ((with_reducible first | refine hob_none ?_ | refine hob_some (fun _ => ?_)) <;> exact hV))
  any_goals (first | ((with_reducible first | refine hob_none ?_ | refine hob_some (fun _ => ?_)); (try dsimp only); refine AFun.weak_in (hL) ?_; (focus (cbv; (try dsimp only [nc] at *); (try simp only [all_nil, all_cons, and_true, true_and]); (try (repeat' (with_reducible apply And.intro))); (all_goals (try first | rfl | exact fun _ _ => LeL.of_eq rfl | exact LeL.of_eq rfl | trivial | omega)))); all_goals (try first | exact fun i _ => le_sub _ _ _ _ | exact pair_le (LeL.of_eq rfl) (le_cells (d + 1) _) | exact pair_le (LeL.of_eq rfl) (two_le d n) | exact one_le (LeL.of_eq rfl)); done) | fail)
  any_goals (first | ((with_reducible first | refine hob_none ?_ | refine hob_some (fun _ => ?_)); (try dsimp only); refine AFun.weak_in (hP) ?_; (focus (cbv; (try dsimp only [nc] at *); (try simp only [all_nil, all_cons, and_true, true_and]); (try (repeat' (with_reducible apply And.intro))); (all_goals (try first | rfl | exact fun _ _ => LeL.of_eq rfl | exact LeL.of_eq rfl | trivial | omega)))); all_goals (try first | exact fun i _ => le_sub _ _ _ _ | exact pair_le (LeL.of_eq rfl) (le_cells (d + 1) _) | exact pair_le (LeL.of_eq rfl) (two_le d n) | exact one_le (LeL.of_eq rfl)); done) | fail)
  any_goals (first | ((with_reducible first | refine hob_none ?_ | refine hob_some (fun _ => ?_)); (try dsimp only); refine AFun.weak_in (hO) ?_; (focus (cbv; (try dsimp only [nc] at *); (try simp only [all_nil, all_cons, and_true, true_and]); (try (repeat' (with_reducible apply And.intro))); (all_goals (try first | rfl | exact fun _ _ => LeL.of_eq rfl | exact LeL.of_eq rfl | trivial | omega)))); all_goals (try first | exact fun i _ => le_sub _ _ _ _ | exact pair_le (LeL.of_eq rfl) (le_cells (d + 1) _) | exact pair_le (LeL.of_eq rfl) (two_le d n) | exact one_le (LeL.of_eq rfl)); done) | fail)
  any_goals (first | ((with_reducible first | refine hob_none ?_ | refine hob_some (fun _ => ?_)); (try dsimp only); refine AFun.weak_in (eq_ok (d + 1) (mkV 1 (if (n == 0) = true then 1 else 0) 0 ⟨#[]⟩) (mkV_le _ _ _ _ (by decide) d)) ?_; (focus (cbv; (try dsimp only [nc] at *); (try simp only [all_nil, all_cons, and_true, true_and]); (try (repeat' (with_reducible apply And.intro))); (all_goals (try first | rfl | exact fun _ _ => LeL.of_eq rfl | exact LeL.of_eq rfl | trivial | omega)))); all_goals (try first | exact fun i _ => le_sub _ _ _ _ | exact pair_le (LeL.of_eq rfl) (le_cells (d + 1) _) | exact pair_le (LeL.of_eq rfl) (two_le d n) | exact one_le (LeL.of_eq rfl)); done) | fail)
  any_goals (first | ((with_reducible first | refine hob_none ?_ | refine hob_some (fun _ => ?_)); (try dsimp only); refine AFun.weak_in (eq_ok (d + 1) (mkV 2 n 0 ⟨#[]⟩) (mkV_le _ _ _ _ (by decide) d)) ?_; (focus (cbv; (try dsimp only [nc] at *); (try simp only [all_nil, all_cons, and_true, true_and]); (try (repeat' (with_reducible apply And.intro))); (all_goals (try first | rfl | exact fun _ _ => LeL.of_eq rfl | exact LeL.of_eq rfl | trivial | omega)))); all_goals (try first | exact fun i _ => le_sub _ _ _ _ | exact pair_le (LeL.of_eq rfl) (le_cells (d + 1) _) | exact pair_le (LeL.of_eq rfl) (two_le d n) | exact one_le (LeL.of_eq rfl)); done) | fail)
  any_goals (first | ((with_reducible first | refine hob_none ?_ | refine hob_some (fun _ => ?_)); (try dsimp only); refine AFun.weak_in (eq_ok (d + 1) (mkV 3 n s.size ⟨#[]⟩) (mkV_le _ _ _ _ (by decide) d)) ?_; (focus (cbv; (try dsimp only [nc] at *); (try simp only [all_nil, all_cons, and_true, true_and]); (try (repeat' (with_reducible apply And.intro))); (all_goals (try first | rfl | exact fun _ _ => LeL.of_eq rfl | exact LeL.of_eq rfl | trivial | omega)))); all_goals (try first | exact fun i _ => le_sub _ _ _ _ | exact pair_le (LeL.of_eq rfl) (le_cells (d + 1) _) | exact pair_le (LeL.of_eq rfl) (two_le d n) | exact one_le (LeL.of_eq rfl)); done) | fail)
  any_goals (first | ((with_reducible first | refine hob_none ?_ | refine hob_some (fun _ => ?_)); (try dsimp only); refine AFun.weak_in (eq_ok (d + 1) (mkV 4 0 0 s) (mkV_le _ _ _ _ (by omega) d)) ?_; (focus (cbv; (try dsimp only [nc] at *); (try simp only [all_nil, all_cons, and_true, true_and]); (try (repeat' (with_reducible apply And.intro))); (all_goals (try first | rfl | exact fun _ _ => LeL.of_eq rfl | exact LeL.of_eq rfl | trivial | omega)))); all_goals (try first | exact fun i _ => le_sub _ _ _ _ | exact pair_le (LeL.of_eq rfl) (le_cells (d + 1) _) | exact pair_le (LeL.of_eq rfl) (two_le d n) | exact one_le (LeL.of_eq rfl)); done) | fail)
  any_goals (first | ((with_reducible first | refine hob_none ?_ | refine hob_some (fun _ => ?_)); (try dsimp only); refine AFun.weak_in (eq_ok (d + 1) (mkV 5 0 0 s) (mkV_le _ _ _ _ (by omega) d)) ?_; (focus (cbv; (try dsimp only [nc] at *); (try simp only [all_nil, all_cons, and_true, true_and]); (try (repeat' (with_reducible apply And.intro))); (all_goals (try first | rfl | exact fun _ _ => LeL.of_eq rfl | exact LeL.of_eq rfl | trivial | omega)))); all_goals (try first | exact fun i _ => le_sub _ _ _ _ | exact pair_le (LeL.of_eq rfl) (le_cells (d + 1) _) | exact pair_le (LeL.of_eq rfl) (two_le d n) | exact one_le (LeL.of_eq rfl)); done) | fail)
  any_goals (first | ((with_reducible first | refine hob_none ?_ | refine hob_some (fun _ => ?_)); (try dsimp only); refine AFun.weak_in (eq_ok (d + 1) (mkV 6 n 0 ⟨#[]⟩) (mkV_le _ _ _ _ (by decide) d)) ?_; (focus (cbv; (try dsimp only [nc] at *); (try simp only [all_nil, all_cons, and_true, true_and]); (try (repeat' (with_reducible apply And.intro))); (all_goals (try first | rfl | exact fun _ _ => LeL.of_eq rfl | exact LeL.of_eq rfl | trivial | omega)))); all_goals (try first | exact fun i _ => le_sub _ _ _ _ | exact pair_le (LeL.of_eq rfl) (le_cells (d + 1) _) | exact pair_le (LeL.of_eq rfl) (two_le d n) | exact one_le (LeL.of_eq rfl)); done) | fail)
  any_goals (first | ((with_reducible first | refine hob_none ?_ | refine hob_some (fun _ => ?_)); (try dsimp only); refine AFun.weak_in (eq_ok (d + 1) (mkV 7 n 0 ⟨#[]⟩) (mkV_le _ _ _ _ (by decide) d)) ?_; (focus (cbv; (try dsimp only [nc] at *); (try simp only [all_nil, all_cons, and_true, true_and]); (try (repeat' (with_reducible apply And.intro))); (all_goals (try first | rfl | exact fun _ _ => LeL.of_eq rfl | exact LeL.of_eq rfl | trivial | omega)))); all_goals (try first | exact fun i _ => le_sub _ _ _ _ | exact pair_le (LeL.of_eq rfl) (le_cells (d + 1) _) | exact pair_le (LeL.of_eq rfl) (two_le d n) | exact one_le (LeL.of_eq rfl)); done) | fail)
  ((all_goals (try (with_reducible first | (refine end_ret ?_; (focus (cbv; (try dsimp only [nc] at *); (try simp only [all_nil, all_cons, and_true]); (try (repeat' (with_reducible apply And.intro))); (all_goals (try first | rfl | exact fun _ _ => LeL.of_eq rfl | exact LeL.of_eq rfl | trivial | omega))))) | (refine end_normal ?_; (focus (cbv; (try dsimp only [nc] at *); (try simp only [all_nil, all_cons, and_true, true_and, nc]); (try (repeat' (with_reducible apply And.intro))); (all_goals (try first | rfl | exact fun _ _ => LeL.of_eq rfl | exact LeL.of_eq rfl | trivial | omega)))))))); (all_goals (try (focus ((with_reducible rw [all_cons]); (try simp only [all_cons, all_nil, and_true]); (repeat' (with_reducible apply And.intro)); (all_goals (try first | exact fun _ _ h => h | exact fun _ h => h | exact fun h => h | exact pick_t | exact pick_f | omega | (focus (intros; (try simp only [if_and] at *); (try simp only [Bool.and_eq_true, beq_true] at *); (try simp (disch := omega) only [w64] at *); (first | omega | assumption | ((repeat' (with_reducible apply And.intro)) <;> first | omega | assumption)))))))))))
  all_goals simp
end Go.Ai
