/- 'ValueChecks': the two Checks agree, and so do the two tests for Null. -/
import Derived.Test.YtfphnecphebijaaDoorChkL
import Derived.Test.YtfphnecphebijaaDoorVal
namespace Go.Ai
open Go Go.Proofs
set_option maxRecDepth 100000
set_option maxHeartbeats 2000000

theorem law_checks (d : Nat) (v : V) (hv : V.le (d + 1) v) (hd : d + 1 ≤ 1073741824) (hs : sizeV (d + 1) v ≤ 1073741824) : AFun Tryd.prog 3 [encV (d + 1) false fun _ => v] [] (.bool fun _ => true) [] := by
  have hT : ∀ p ∈ preV (d + 1) 1 v, AFun Tryd.prog 78 [.str fun _ => p.2.2.text] [] (.bool fun _ => (fun s : ByteArray => Lib.validD s.data.toList) p.2.2.text) [] := fun p hp =>
    valid_ok p.2.2.text (Nat.le_trans (preV_le (d + 1) 1 v hv p hp).2.2.1 (by decide))
  have hC := Check_ok (fun s : ByteArray => Lib.validD s.data.toList) d v hv hd fun p hp _ => hT p hp
  have hR := refCheck_ok (fun s : ByteArray => Lib.validD s.data.toList) d v hv hd hs hT
  generalize checkE (fun s : ByteArray => Lib.validD s.data.toList) (preV (d + 1) 1 v) = c at hC hR
  (apply AFun.of T4_ok mixed4 [.tmp 2] kp3 [(1, [(0, known_ok.out), (3, hC.out), (5, hR.out), (10, .bool (fun _ => isNull v), []), (12, .bool (fun _ => isNull v), [])])] Tryd.func3 (fun _ => ?_); (any_goals ((with_reducible refine wk_id ?_); cbv; (try dsimp only [nc] at *); (repeat' (with_reducible first | exact all_nil.2 trivial | exact ob_nil | refine ob_cons ?_ ?_ | refine VC.mk rfl ?_ ?_ ?_ | (refine CondVC.mk ?_ ?_ <;> intro hz <;> (try simp only [nc, bytes_empty, if_or, if_and] at hz) <;> (try simp only [Bool.false_eq_true, Bool.true_eq_false, Bool.and_eq_true, Bool.or_eq_true, Bool.not_eq_true', Bool.not_eq_true, Bool.and_eq_false_iff, Bool.or_eq_false_iff, Bool.not_eq_false', beq_iff_eq, beq_eq_false_iff_ne, bne_iff_ne, bne_eq_false_iff_eq, dec_t, dec_f, ne_eq, Decidable.not_not, Int.ofNat_lt, Int.ofNat_le, Int.toNat_natCast, Int.not_lt, Int.not_le, Nat.not_lt, Nat.not_le] at hz) <;> (revert hz; intro _)) | (refine end_exit ?_; cbv; (try dsimp only [nc] at *)) | (refine end_out ?_; cbv; (try dsimp only [nc] at *)))))))
  (any_goals ((with_reducible first | refine hob_none ?_ | refine hob_some (fun _ => ?_)) <;> exact known_ok))
  (any_goals ((with_reducible first | refine hob_none ?_ | refine hob_some (fun _ => ?_)) <;> exact hC))
  (any_goals ((with_reducible first | refine hob_none ?_ | refine hob_some (fun _ => ?_)) <;> exact hR))
  (any_goals ((with_reducible first | refine hob_none ?_ | refine hob_some (fun _ => ?_)) <;> exact (IsNull_ok (d + 1) v)))
  (any_goals ((with_reducible first | refine hob_none ?_ | refine hob_some (fun _ => ?_)) <;> exact (Null_ok (d + 1) v)))
  ((all_goals (try (with_reducible first | (refine end_ret ?_; (focus (cbv; (try dsimp only [nc] at *); (try simp only [all_nil, all_cons, and_true]); (try (repeat' (with_reducible apply And.intro))); (all_goals (try first | rfl | exact fun _ _ => LeL.of_eq rfl | exact LeL.of_eq rfl | trivial | omega))))) | (refine end_normal ?_; (focus (cbv; (try dsimp only [nc] at *); (try simp only [all_nil, all_cons, and_true, true_and, nc]); (try (repeat' (with_reducible apply And.intro))); (all_goals (try first | rfl | exact fun _ _ => LeL.of_eq rfl | exact LeL.of_eq rfl | trivial | omega)))))))); (all_goals (try (focus ((with_reducible rw [all_cons]); (try simp only [all_cons, all_nil, and_true]); (repeat' (with_reducible apply And.intro)); (all_goals (try first | exact fun _ _ h => h | exact fun _ h => h | exact fun h => h | exact pick_t | exact pick_f | omega | (focus (intros; (try simp only [nc, bytes_empty, if_or, if_and] at *); (try simp only [beq_true] at *); (try simp (disch := omega) only [w64] at *); (first | omega | assumption | ((repeat' (with_reducible apply And.intro)) <;> first | omega | assumption)))))))))))
  all_goals simp
end Go.Ai
