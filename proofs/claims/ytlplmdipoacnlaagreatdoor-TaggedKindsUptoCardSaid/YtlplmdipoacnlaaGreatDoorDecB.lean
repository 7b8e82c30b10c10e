/- Chapter 10: Parts, Join. -/
import Derived.Test.YtlplmdipoacnlaaGreatDoorDecA
import Derived.Test.YtlplmdipoacnlaaGreatDoorWrA
import Derived.Test.YtlplmdipoacnlaaGreatDoorEncC
set_option linter.all false
namespace Go.Ai
open Go Go.Proofs
set_option maxRecDepth 100000
set_option maxHeartbeats 4000000
def longR (r : Rd) : Rd := if r.pos < r.fin then r.fail r.pos 5 else r
def partsV (s : ByteArray) : PL × Int × Int :=
  if (longR (fieldsV (rdAt s 0)).2).e ≠ 0 then ([], (longR (fieldsV (rdAt s 0)).2).bad, (longR (fieldsV (rdAt s 0)).2).e) else ((fieldsV (rdAt s 0)).1, 0, 0)
def slcP (l : Unit → PL) : AV := .slc .any 2 (fun _ => (l ()).length) (rowsP l)
theorem Parts_ok (s : ByteArray) (hs : s.size ≤ 1073741824) : AFun Tryz.prog 29 [.str fun _ => s] [] (.tup [slcP fun _ => (partsV s).1, .int .i64 fun _ => (partsV s).2.1, .int .i64 fun _ => (partsV s).2.2]) [] := by
  have hg : (rdAt s 0).good := rdAt_good (by omega) (by omega) (by omega)
  have hF := fieldsA_ok (rdAt s 0) hg hs
  obtain ⟨X, hX⟩ : ∃ X, X = fieldsV (rdAt s 0) := ⟨_, rfl⟩
  obtain ⟨P, hP⟩ : ∃ P, P = partsV s := ⟨_, rfl⟩
  have hPe : P = if (longR X.2).e ≠ 0 then ([], (longR X.2).bad, (longR X.2).e) else (X.1, 0, 0) := by rw [hP, hX]; rfl
  rw [← hX] at hF
  rw [← hP]
  have hL := fail_ok X.2 X.2.pos 5
  obtain ⟨Y, hY⟩ : ∃ Y, Y = X.2.fail X.2.pos 5 := ⟨_, rfl⟩
  rw [← hY] at hL
  have h1 : X.2.pos < X.2.fin → longR X.2 = Y := fun h => by rw [longR, if_pos h, hY]
  have h2 : X.2.fin ≤ X.2.pos → longR X.2 = X.2 := fun h => by rw [longR, if_neg (by omega)]
  clear hX hP hY
  (apply AFun.of T4_ok mixed4 [.cell 2 52, .tmp 3, .tmp 4] kq29 [(2, [(2, .tup [], [(1000, Rd.box fun _ => X.2), (1001001000, .box [.aref 200 1 fun _ => X.1.length]), (200, .arr false 60 2 1 (fun _ => X.1.length) (rowsP fun _ => X.1))])]), (4, [(5, .tup [], [(1000, Rd.box fun _ => Y)])])] Tryz.func29 (fun _ => ?_); (any_goals ((with_reducible refine wk_id ?_); cbv; (try dsimp only [nc] at *); (repeat' (with_reducible first | exact all_nil.2 trivial | exact ob_nil | refine ob_cons ?_ ?_ | refine VC.mk rfl ?_ ?_ ?_ | refine CondAny.mk (fun _ => ?_) (fun _ => ?_) | (refine CondVC.mk ?_ ?_ <;> intro zq <;> (try simp only [nc, cl] at zq) <;> (try simp only [bl, dl] at zq) <;> (revert zq; intro _)) | ((first | refine end_exit ?_ | refine end_out ?_); cbv; (try dsimp only [nc] at *)))))))
  (any_goals ((with_reducible first | refine hob_none ?_ | refine hob_some (fun _ => ?_)); (try dsimp only); (have q := hF; refine AFun.weak_in q ?_; clear q); (focus (cbv; (try dsimp only [nc] at *); (try simp only [wl, nc]); (repeat' (with_reducible apply And.intro)); all_goals (try first | rfl | exact fun _ _ => lr rfl | exact lr rfl | trivial | omega)))))
  (any_goals ((with_reducible first | refine hob_none ?_ | refine hob_some (fun _ => ?_)) <;> exact hL))
  ((all_goals (try (with_reducible ((first | refine end_ret ?_ | refine end_normal ?_); (focus (cbv; (try dsimp only [nc] at *); (try simp only [wl, nc]); (repeat' (with_reducible apply And.intro)); all_goals (try first | rfl | exact fun _ _ => lr rfl | exact lr rfl | trivial | omega))))))); (all_goals (try ((with_reducible rw [all_cons]); (try simp only [wl, nc]); (repeat' (with_reducible apply And.intro)); (all_goals (try first | exact True.intro | exact fun _ _ h => h | exact fun _ h => h | exact fun h => h | exact pick_t | exact pick_f | omega | (focus (intros; (try simp only [nc, cl] at *); (try simp only [bl, el, dl] at *); (try simp (disch := omega) only [w64] at *); (first | omega | assumption | ((repeat' (with_reducible apply And.intro)) <;> first | omega | assumption))))))))))
  all_goals
    have hPq : P = (if Y.e ≠ 0 ∧ X.2.pos < X.2.fin then ([], Y.bad, Y.e) else if ¬ X.2.pos < X.2.fin ∧ X.2.e ≠ 0 then ([], X.2.bad, X.2.e) else (X.1, 0, 0)) := by
      rw [hPe]
      by_cases hq : X.2.pos < X.2.fin
      · rw [h1 hq]
        by_cases he : Y.e = 0
        · rw [if_neg (fun z => z he), if_neg (fun z => z.1 he), if_neg (fun z => z.1 hq)]
        · rw [if_pos he, if_pos ⟨he, hq⟩]
      · rw [h2 (by omega), if_neg (c := Y.e ≠ 0 ∧ X.2.pos < X.2.fin) (fun z => hq z.2)]
        by_cases he : X.2.e = 0
        · rw [if_neg (fun z => z he), if_neg (fun z => z.2 he)]
        · rw [if_pos he, if_pos ⟨hq, he⟩]
    first
      | (rw [hPq, if_pos ⟨‹¬ Y.e = 0›, ‹X.2.pos < X.2.fin›⟩]; first | done | rfl)
      | (rw [hPq, if_neg (fun z => z.1 ‹Y.e = 0›), if_neg (fun z => z.1 ‹X.2.pos < X.2.fin›)]; first | done | exact fun i _ => LeL.of_eq rfl)
      | (rw [hPq, if_neg (c := Y.e ≠ 0 ∧ X.2.pos < X.2.fin) (fun z => by omega), if_pos ⟨by omega, ‹¬ X.2.e = 0›⟩]; first | done | rfl)
      | (rw [hPq, if_neg (c := Y.e ≠ 0 ∧ X.2.pos < X.2.fin) (fun z => by omega), if_neg (fun z => z.2 ‹X.2.e = 0›)]; first | done | exact fun i _ => LeL.of_eq rfl)
def partN (x : Int × ByteArray) : List Nat := putN x.1.toNat ++ (putN x.2.size ++ strN x.2)
def joinL : PL → Int → List Nat → List Nat × Int
  | [], _, out => (out, 0)
  | x :: r, last, out => if x.1 < 1 ∨ 9999 < x.1 then ([], 2) else if x.1 ≤ last then ([], 24) else joinL r x.1 (out ++ partN x)
def joinV (l : PL) : ByteArray × Int := (if (joinL l 0 (putN l.length)).2 ≠ 0 then ⟨#[]⟩ else baL (joinL l 0 (putN l.length)).1, (joinL l 0 (putN l.length)).2)
end Go.Ai

namespace Go.Ai
open Go Go.Proofs
set_option maxRecDepth 100000
set_option maxHeartbeats 4000000
def recE : Ty := .mk 9 0 0 0 [] [] []
def recN : V := .mk 9 0 0 ⟨#[]⟩ [] []
theorem recE_le : Ty.le 1 1 recE := ⟨by simp [recE, Ty.words], by simp [recE, Ty.words], by simp [recE, Ty.elem], by simp [recE, Ty.fields], by simp [recE, Ty.elem], by simp [recE, Ty.fields]⟩
theorem recN_le : V.le 1 recN := ⟨by simp [recN, V.list], by simp [recN, V.fields], by simp [recN, V.text, ByteArray.size], by simp [recN, V.list], by simp [recN, V.fields]⟩
theorem recE_sz : Ty.sz 1 1 recE := ⟨by simp [recE, Ty.elem], by simp [recE, Ty.fields]⟩
theorem recE_chk : chkT 1 1 recE = 0 := by kernel_rfl
theorem refNumber_ok (e d : Nat) (t : Ty) (ht : Ty.le e (d + 1) t) (n : Int) : AFun Tryz.prog 76 [encT e (d + 1) .any fun _ => t, .int .i64 fun _ => n] [] (.int .i64 fun _ => idxI (byNo n) t.fields) [] := by
  have hl := ht.2.2.2.1
  (apply AFun.of T4_ok mixed4 [.tmp 4] kq76 [(0, [(0, .nil, [])])] Tryz.func76 (fun _ => ?_); (any_goals ((with_reducible refine wk_id ?_); cbv; (try dsimp only [nc] at *); (repeat' (with_reducible first | exact all_nil.2 trivial | exact ob_nil | refine ob_cons ?_ ?_ | refine VC.mk rfl ?_ ?_ ?_ | refine CondAny.mk (fun _ => ?_) (fun _ => ?_) | (refine CondVC.mk ?_ ?_ <;> intro zq <;> (try simp only [nc, cl] at zq) <;> (try simp only [bl, dl] at zq) <;> (revert zq; intro _)) | ((first | refine end_exit ?_ | refine end_out ?_); cbv; (try dsimp only [nc] at *)))))))
  ((all_goals (try (with_reducible ((first | refine end_ret ?_ | refine end_normal ?_); (focus (cbv; (try dsimp only [nc] at *); (try simp only [wl, nc]); (repeat' (with_reducible apply And.intro)); all_goals (try first | rfl | exact fun _ _ => lr rfl | exact lr rfl | trivial | omega))))))); (all_goals (try ((with_reducible rw [all_cons]); (try simp only [wl, nc]); (repeat' (with_reducible apply And.intro)); (all_goals (try first | exact True.intro | exact fun _ _ h => h | exact fun _ h => h | exact fun h => h | exact pick_t | exact pick_f | omega | (focus (intros; (try simp only [nc, cl] at *); (try simp only [bl, el, dl] at *); (try simp (disch := omega) only [w64] at *); (first | omega | assumption | ((repeat' (with_reducible apply And.intro)) <;> first | omega | assumption))))))))))
  refine .loop (fun i : Nat => ⟨22, [(5, .int .i64 fun _ => i), (2, boxT e (d + 1) fun _ => t), (1, .int .i64 fun _ => n)], []⟩)
    (fun i => i ≤ t.fields.length ∧ ∀ j, j < i → byNo n (t.fields.getD j default) = false) (fun i => t.fields.length - i) 0 (by simp) ?_ fun i E hi => ?_
  · (focus (cbv; (try dsimp only [nc] at *); (try simp only [wl, nc]); (repeat' (with_reducible apply And.intro)); all_goals (try first | rfl | exact fun _ _ => lr rfl | exact lr rfl | trivial | omega)))
  apply AWp.wk T4_ok mixed4 [] kq76 ?_
  (any_goals ((with_reducible refine wk_id ?_); cbv; (try dsimp only [nc] at *); (repeat' (with_reducible first | exact all_nil.2 trivial | exact ob_nil | refine ob_cons ?_ ?_ | refine VC.mk rfl ?_ ?_ ?_ | refine CondAny.mk (fun _ => ?_) (fun _ => ?_) | (refine CondVC.mk ?_ ?_ <;> intro zq <;> (try simp only [nc, cl] at zq) <;> (try simp only [bl, dl] at zq) <;> (revert zq; intro _)) | ((first | refine end_exit ?_ | refine end_out ?_); cbv; (try dsimp only [nc] at *))))))
  ((all_goals (try (with_reducible ((first | refine end_ret ?_ | refine end_normal ?_); (focus (cbv; (try dsimp only [nc] at *); (try simp only [wl, nc]); (repeat' (with_reducible apply And.intro)); all_goals (try first | rfl | exact fun _ _ => lr rfl | exact lr rfl | trivial | omega))))))); (all_goals (try ((with_reducible rw [all_cons]); (try simp only [wl, nc]); (repeat' (with_reducible apply And.intro)); (all_goals (try first | exact True.intro | exact fun _ _ h => h | exact fun _ h => h | exact fun h => h | exact pick_t | exact pick_f | omega | (focus (intros; (try simp only [nc, cl] at *); (try simp only [bl, el, dl] at *); (try simp (disch := omega) only [w64] at *); (first | omega | assumption | ((repeat' (with_reducible apply And.intro)) <;> first | omega | assumption))))))))))
  · exact (idxI_at (p := byNo n) ‹_› (by simp only [byNo, beq_iff_eq]; assumption) hi.2).symm
  · refine end_round (i + 1) ⟨⟨by omega, fun j hj => ?_⟩, by omega⟩ ?_
    · rcases Nat.lt_succ_iff_lt_or_eq.1 hj with hj | rfl
      · exact hi.2 j hj
      · simp only [byNo, beq_eq_false_iff_ne]; assumption
    · (focus (cbv; (try dsimp only [nc] at *); (try simp only [wl, nc]); (repeat' (with_reducible apply And.intro)); all_goals (try first | rfl | exact fun _ _ => lr rfl | exact lr rfl | trivial | omega)))
      exact w64n (by omega)
  · exact (idxI_none fun j hj => hi.2 j (by omega)).symm
theorem number0_ok (n : Int) : AFun Tryz.prog 76 [encT 1 1 .any fun _ => recE, .int .i64 fun _ => n] [] (.int .i64 fun _ => -1) [] := refNumber_ok 1 0 recE recE_le n
theorem record0v_ok : AFun Tryz.prog 108 [.nil] [] (encV 1 .any fun _ => recN) [] := by
  (apply AFun.of T4_ok mixed4 [.cell 2 30] kq108 [] Tryz.func108 (fun _ => ?_); (any_goals ((with_reducible refine wk_id ?_); cbv; (try dsimp only [nc] at *); (repeat' (with_reducible first | exact all_nil.2 trivial | exact ob_nil | refine ob_cons ?_ ?_ | refine VC.mk rfl ?_ ?_ ?_ | refine CondAny.mk (fun _ => ?_) (fun _ => ?_) | (refine CondVC.mk ?_ ?_ <;> intro zq <;> (try simp only [nc, cl] at zq) <;> (try simp only [bl, dl] at zq) <;> (revert zq; intro _)) | ((first | refine end_exit ?_ | refine end_out ?_); cbv; (try dsimp only [nc] at *)))))))
  ((all_goals (try (with_reducible ((first | refine end_ret ?_ | refine end_normal ?_); (focus (cbv; (try dsimp only [nc] at *); (try simp only [wl, nc]); (repeat' (with_reducible apply And.intro)); all_goals (try first | rfl | exact fun _ _ => lr rfl | exact lr rfl | trivial | omega))))))); (all_goals (try ((with_reducible rw [all_cons]); (try simp only [wl, nc]); (repeat' (with_reducible apply And.intro)); (all_goals (try first | exact True.intro | exact fun _ _ h => h | exact fun _ h => h | exact fun h => h | exact pick_t | exact pick_f | omega | (focus (intros; (try simp only [nc, cl] at *); (try simp only [bl, el, dl] at *); (try simp (disch := omega) only [w64] at *); (first | omega | assumption | ((repeat' (with_reducible apply And.intro)) <;> first | omega | assumption))))))))))
  refine .loop (fun _ : Unit => ⟨73, [(4, .int .i64 fun _ => -1), (3, .ptr 3 0), (2, .ptr 2 0), (0, .nil)], [(2, .box [.int .i64 fun _ => 0, .int .i64 fun _ => 0, .int .i64 fun _ => 0, .str fun _ => ⟨#[]⟩, .nil, .nil]), (3, .box [.int .i64 fun _ => 9, .int .i64 fun _ => 0, .int .i64 fun _ => 0, .str fun _ => ⟨#[]⟩, .nil, .nil])]⟩) (fun _ => True) (fun _ => 0) () trivial ?_ fun i E hi => ?_
  · (focus (cbv; (try dsimp only [nc] at *); (try simp only [wl, nc]); (repeat' (with_reducible apply And.intro)); all_goals (try first | rfl | exact fun _ _ => lr rfl | exact lr rfl | trivial | omega)))
  apply AWp.wk T4_ok mixed4 [(5, [(5, .bool fun _ => true, []), (13, .int .i64 fun _ => 0, [])]), (7, [(17, .int .i64 fun _ => 0, [])])] kq108 ?_
  (any_goals ((with_reducible refine wk_id ?_); cbv; (try dsimp only [nc] at *); (repeat' (with_reducible first | exact all_nil.2 trivial | exact ob_nil | refine ob_cons ?_ ?_ | refine VC.mk rfl ?_ ?_ ?_ | refine CondAny.mk (fun _ => ?_) (fun _ => ?_) | (refine CondVC.mk ?_ ?_ <;> intro zq <;> (try simp only [nc, cl] at zq) <;> (try simp only [bl, dl] at zq) <;> (revert zq; intro _)) | ((first | refine end_exit ?_ | refine end_out ?_); cbv; (try dsimp only [nc] at *))))))
  all_goals (try (exfalso; omega))
  ((all_goals (try (with_reducible ((first | refine end_ret ?_ | refine end_normal ?_); (focus (cbv; (try dsimp only [nc] at *); (try simp only [wl, nc]); (repeat' (with_reducible apply And.intro)); all_goals (try first | rfl | exact fun _ _ => lr rfl | exact lr rfl | trivial | omega))))))); (all_goals (try ((with_reducible rw [all_cons]); (try simp only [wl, nc]); (repeat' (with_reducible apply And.intro)); (all_goals (try first | exact True.intro | exact fun _ _ h => h | exact fun _ h => h | exact fun h => h | exact pick_t | exact pick_f | omega | (focus (intros; (try simp only [nc, cl] at *); (try simp only [bl, el, dl] at *); (try simp (disch := omega) only [w64] at *); (first | omega | assumption | ((repeat' (with_reducible apply And.intro)) <;> first | omega | assumption))))))))))
def recL (s : ByteArray) : Nat → Int → Int → Int × Int × Int
  | 0, _, next => (next, 0, 0)
  | n + 1, before, next =>
    if (refTakeV s next).2.2.2 ≠ 0 then (0, (refTakeV s next).2.2.1, (refTakeV s next).2.2.2) else
    if (refTakeV s next).1 < 1 ∨ 9999 < (refTakeV s next).1 then (0, next, 2) else if (refTakeV s next).1 ≤ before then (0, next, 24) else
    if (refTakeV s (refTakeV s next).2.1).2.2.2 ≠ 0 then (0, (refTakeV s (refTakeV s next).2.1).2.2.1, (refTakeV s (refTakeV s next).2.1).2.2.2) else
    if (s.size : Int) - (refTakeV s (refTakeV s next).2.1).2.1 < (refTakeV s (refTakeV s next).2.1).1 then (0, s.size, 29) else
    recL s n (refTakeV s next).1 ((refTakeV s (refTakeV s next).2.1).2.1 + (refTakeV s (refTakeV s next).2.1).1)
theorem refTakeV_good {s : ByteArray} {a : Int} (h0 : 0 ≤ a) (h1 : a ≤ s.size) (hs : s.size ≤ 35184372088832) (he : (refTakeV s a).2.2.2 = 0) : a < (refTakeV s a).2.1 ∧ (refTakeV s a).2.1 ≤ s.size ∧ 0 ≤ (refTakeV s a).1 ∧ (refTakeV s a).1 ≤ 4611686018427387903 := by
  have hg := rdAt_good h0 h1 hs
  cases hk : takeN (rdAt s a).room 0 0 with
  | ok p =>
    obtain ⟨n, k⟩ := p
    obtain ⟨q1, q2, q3⟩ := take_len (room_byte _) hk
    have hl := Rd.room_len hg
    have hm := take_most _ _ _ _ _ hk
    rw [refTake_get hk]
    simp only [rdAt] at hl q3 ⊢
    omega
  | error k =>
    simp only [refTakeV, hk] at he
    split at he <;> cases he
theorem record0_ok (s : ByteArray) (from_ : Int) (n : Nat) (hs : s.size ≤ 1073741824) (h0 : 0 ≤ from_) (h1 : from_ ≤ s.size) (hn : n ≤ 4611686018427387903) :
    AFun Tryz.prog 78 [encT 1 1 .any fun _ => recE, .str fun _ => s, .int .i64 fun _ => from_, .int .i64 fun _ => n] []
      (.tup [encV 1 .any fun _ => if (recL s n 0 from_).2.2 = 0 then recN else default, .int .i64 fun _ => (recL s n 0 from_).1, .int .i64 fun _ => (recL s n 0 from_).2.1, .int .i64 fun _ => (recL s n 0 from_).2.2]) [] := by
  obtain ⟨R, hR⟩ : ∃ R, R = recL s n 0 from_ := ⟨_, rfl⟩
  rw [← hR]
  obtain ⟨Z, hZ⟩ : ∃ Z : V, Z = if R.2.2 = 0 then recN else default := ⟨_, rfl⟩
  rw [← hZ]
  (apply AFun.of T4_ok mixed4 [.cell 8 30, .tmp 9, .tmp 10, .tmp 11] kq78 [(0, [(0, .nil, [])]), (40, [(1, encV 1 .any fun _ => recN, [])])] Tryz.func78 (fun _ => ?_); (any_goals ((with_reducible refine wk_id ?_); cbv; (try dsimp only [nc] at *); (repeat' (with_reducible first | exact all_nil.2 trivial | exact ob_nil | refine ob_cons ?_ ?_ | refine VC.mk rfl ?_ ?_ ?_ | refine CondAny.mk (fun _ => ?_) (fun _ => ?_) | (refine CondVC.mk ?_ ?_ <;> intro zq <;> (try simp only [nc, cl] at zq) <;> (try simp only [bl, dl] at zq) <;> (revert zq; intro _)) | ((first | refine end_exit ?_ | refine end_out ?_); cbv; (try dsimp only [nc] at *)))))))
  ((all_goals (try (with_reducible ((first | refine end_ret ?_ | refine end_normal ?_); (focus (cbv; (try dsimp only [nc] at *); (try simp only [wl, nc]); (repeat' (with_reducible apply And.intro)); all_goals (try first | rfl | exact fun _ _ => lr rfl | exact lr rfl | trivial | omega))))))); (all_goals (try ((with_reducible rw [all_cons]); (try simp only [wl, nc]); (repeat' (with_reducible apply And.intro)); (all_goals (try first | exact True.intro | exact fun _ _ h => h | exact fun _ h => h | exact fun h => h | exact pick_t | exact pick_f | omega | (focus (intros; (try simp only [nc, cl] at *); (try simp only [bl, el, dl] at *); (try simp (disch := omega) only [w64] at *); (first | omega | assumption | ((repeat' (with_reducible apply And.intro)) <;> first | omega | assumption))))))))))
  refine .loop (fun p : Nat × Int × Int => ⟨182, [(14, .int .i64 fun _ => p.1), (9, .int .i64 fun _ => p.2.2), (13, .int .i64 fun _ => p.2.1), (12, .nil), (8, .ptr 8 0), (4, boxT 1 1 fun _ => recE), (1, .str fun _ => s), (3, .int .i64 fun _ => n)],
      [(8, .box [.int .i64 fun _ => 0, .int .i64 fun _ => 0, .int .i64 fun _ => 0, .str fun _ => ⟨#[]⟩, .nil, .nil])]⟩)
    (fun p => p.1 ≤ n ∧ (0 ≤ p.2.2 ∧ p.2.2 ≤ s.size) ∧ R = recL s (n - p.1) p.2.1 p.2.2) (fun p => n - p.1) (0, 0, from_) ⟨Nat.zero_le _, ⟨h0, h1⟩, hR⟩ ?_ fun p E hi => ?_
  · (focus (cbv; (try dsimp only [nc] at *); (try simp only [wl, nc]); (repeat' (with_reducible apply And.intro)); all_goals (try first | rfl | exact fun _ _ => lr rfl | exact lr rfl | trivial | omega)))
  obtain ⟨i1, i2, i3⟩ := hi
  by_cases h : p.1 < n
  · obtain ⟨m, hm⟩ : ∃ m, n - p.1 = m + 1 := ⟨n - p.1 - 1, by omega⟩
    have hA := refTake_ok s p.2.2 i2.1 i2.2 (by omega)
    have hAg := refTakeV_good (s := s) (a := p.2.2) i2.1 i2.2 (by omega)
    rw [hm] at i3
    simp only [recL] at i3
    obtain ⟨A, hAe⟩ : ∃ A, A = refTakeV s p.2.2 := ⟨_, rfl⟩
    rw [← hAe] at hA hAg i3
    have hB := fun z => refTake_ok s A.2.1 (by have := hAg z; omega) (hAg z).2.1 (by omega)
    have hBg := fun z => refTakeV_good (s := s) (a := A.2.1) (by have := hAg z; omega) (hAg z).2.1 (by omega)
    obtain ⟨B, hBe⟩ : ∃ B, B = refTakeV s A.2.1 := ⟨_, rfl⟩
    rw [← hBe] at hB hBg i3
    have hN := number0_ok A.1
    clear hAe hBe
    apply AWp.wk T4_ok mixed4 [(7, [(2, .tup [.int .i64 fun _ => A.1, .int .i64 fun _ => A.2.1, .int .i64 fun _ => A.2.2.1, .int .i64 fun _ => A.2.2.2], [])]), (15, [(2, .int .i64 fun _ => -1, [])]), (17, [(2, .tup [.int .i64 fun _ => B.1, .int .i64 fun _ => B.2.1, .int .i64 fun _ => B.2.2.1, .int .i64 fun _ => B.2.2.2], [])]), (23, [(8, .any, [])])] kq78 ?_
    (any_goals ((with_reducible refine wk_id ?_); cbv; (try dsimp only [nc] at *); (repeat' (with_reducible first | exact all_nil.2 trivial | exact ob_nil | refine ob_cons ?_ ?_ | refine VC.mk rfl ?_ ?_ ?_ | refine CondAny.mk (fun _ => ?_) (fun _ => ?_) | (refine CondVC.mk ?_ ?_ <;> intro zq <;> (try simp only [nc, cl] at zq) <;> (try simp only [bl, dl] at zq) <;> (revert zq; intro _)) | ((first | refine end_exit ?_ | refine end_out ?_); cbv; (try dsimp only [nc] at *))))))
    all_goals (try (exfalso; omega))
    (any_goals ((with_reducible first | refine hob_none ?_ | refine hob_some (fun _ => ?_)) <;> exact hA))
    (any_goals ((with_reducible first | refine hob_none ?_ | refine hob_some (fun _ => ?_)); (try dsimp only); (have q := hN; refine AFun.weak_in q ?_; clear q); (focus (cbv; (try dsimp only [nc] at *); (try simp only [wl, nc]); (repeat' (with_reducible apply And.intro)); all_goals (try first | rfl | exact fun _ _ => lr rfl | exact lr rfl | trivial | omega)))))
    any_goals (with_reducible refine hob_none ?_) <;> exact hB ‹A.2.2.2 = 0›
    ((all_goals (try (with_reducible ((first | refine end_ret ?_ | refine end_normal ?_); (focus (cbv; (try dsimp only [nc] at *); (try simp only [wl, nc]); (repeat' (with_reducible apply And.intro)); all_goals (try first | rfl | exact fun _ _ => lr rfl | exact lr rfl | trivial | omega))))))); (all_goals (try ((with_reducible rw [all_cons]); (try simp only [wl, nc]); (repeat' (with_reducible apply And.intro)); (all_goals (try first | exact True.intro | exact fun _ _ h => h | exact fun _ h => h | exact fun h => h | exact pick_t | exact pick_f | omega | (focus (intros; (try simp only [nc, cl] at *); (try simp only [bl, el, dl] at *); (try simp (disch := omega) only [w64] at *); (first | omega | assumption | ((repeat' (with_reducible apply And.intro)) <;> first | omega | assumption))))))))))
    all_goals first
      | (have hR' : R = (0, A.2.2.1, A.2.2.2) := by rw [i3, if_pos ‹¬ A.2.2.2 = 0›]
         have hz : Z = default := by rw [hZ, hR']; exact if_neg ‹¬ A.2.2.2 = 0›
         first
           | (rw [hz]; rfl)
           | rw [hR'])
      | (have hR' : R = (0, p.2.2, 2) := by rw [i3, if_neg (fun z => z ‹A.2.2.2 = 0›), if_pos ‹A.1 < 1 ∨ 9999 < A.1›]
         have hz : Z = default := by rw [hZ, hR']; exact if_neg (show ¬ (2 : Int) = 0 by decide)
         first
           | (rw [hz]; rfl)
           | rw [hR'])
      | (have hR' : R = (0, p.2.2, 24) := by rw [i3, if_neg (fun z => z ‹A.2.2.2 = 0›), if_neg (show ¬ (A.1 < 1 ∨ 9999 < A.1) by omega), if_pos ‹A.1 ≤ p.2.1›]
         have hz : Z = default := by rw [hZ, hR']; exact if_neg (show ¬ (24 : Int) = 0 by decide)
         first
           | (rw [hz]; rfl)
           | rw [hR'])
      | skip
    all_goals
      rw [if_neg (fun z => z ‹A.2.2.2 = 0›), if_neg (show ¬ (A.1 < 1 ∨ 9999 < A.1) by omega), if_neg (show ¬ A.1 ≤ p.2.1 by omega)] at i3
      have hBg1 := fun z => hBg ‹A.2.2.2 = 0› z
      have hAg1 := hAg ‹A.2.2.2 = 0›
    all_goals first
      | (have hR' : R = (0, B.2.2.1, B.2.2.2) := by rw [i3, if_pos ‹¬ B.2.2.2 = 0›]
         have hz : Z = default := by rw [hZ, hR']; exact if_neg ‹¬ B.2.2.2 = 0›
         first
           | (rw [hz]; rfl)
           | rw [hR'])
      | skip
    all_goals
      have hBg2 := hBg1 ‹B.2.2.2 = 0›
      have hw : IntKind.i64.wrap ((s.size : Int) - B.2.1) = (s.size : Int) - B.2.1 := w64 (by omega) (by omega)
      simp only [hw] at *
      rw [if_neg (fun z => z ‹B.2.2.2 = 0›)] at i3
    all_goals first
      | (have hR' : R = (0, (s.size : Int), 29) := by rw [i3, if_pos ‹_ < B.1›]
         have hz : Z = default := by rw [hZ, hR']; exact if_neg (show ¬ (29 : Int) = 0 by decide)
         first
           | (rw [hz]; rfl)
           | rw [hR'])
      | skip
    rw [if_neg (show ¬ (s.size : Int) - B.2.1 < B.1 by omega)] at i3
    refine end_round (p.1 + 1, A.1, B.2.1 + B.1) ⟨⟨by show p.1 + 1 ≤ n; omega, by show 0 ≤ B.2.1 + B.1 ∧ B.2.1 + B.1 ≤ s.size; omega, by show R = recL s (n - (p.1 + 1)) A.1 (B.2.1 + B.1); rw [i3, show n - (p.1 + 1) = m by omega]⟩, by show n - (p.1 + 1) < n - p.1; omega⟩ ?_
    (focus (cbv; (try dsimp only [nc] at *); (try simp only [wl, nc]); (repeat' (with_reducible apply And.intro)); all_goals (try first | rfl | exact fun _ _ => lr rfl | exact lr rfl | trivial | omega)))
    · exact w64n (by omega)
    · exact w64 (by omega) (by omega)
  · rw [show n - p.1 = 0 by omega] at i3
    have hz : Z = recN := by rw [hZ, i3]; rfl
    apply AWp.wk T4_ok mixed4 [(7, [(2, .any, [])]), (15, [(2, .any, [])]), (17, [(2, .any, [])]), (23, [(8, .any, [])])] kq78 ?_
    (any_goals ((with_reducible refine wk_id ?_); cbv; (try dsimp only [nc] at *); (repeat' (with_reducible first | exact all_nil.2 trivial | exact ob_nil | refine ob_cons ?_ ?_ | refine VC.mk rfl ?_ ?_ ?_ | refine CondAny.mk (fun _ => ?_) (fun _ => ?_) | (refine CondVC.mk ?_ ?_ <;> intro zq <;> (try simp only [nc, cl] at zq) <;> (try simp only [bl, dl] at zq) <;> (revert zq; intro _)) | ((first | refine end_exit ?_ | refine end_out ?_); cbv; (try dsimp only [nc] at *))))))
    all_goals (try (exfalso; omega))
    ((all_goals (try (with_reducible ((first | refine end_ret ?_ | refine end_normal ?_); (focus (cbv; (try dsimp only [nc] at *); (try simp only [wl, nc]); (repeat' (with_reducible apply And.intro)); all_goals (try first | rfl | exact fun _ _ => lr rfl | exact lr rfl | trivial | omega))))))); (all_goals (try ((with_reducible rw [all_cons]); (try simp only [wl, nc]); (repeat' (with_reducible apply And.intro)); (all_goals (try first | exact True.intro | exact fun _ _ h => h | exact fun _ h => h | exact fun h => h | exact pick_t | exact pick_f | omega | (focus (intros; (try simp only [nc, cl] at *); (try simp only [bl, el, dl] at *); (try simp (disch := omega) only [w64] at *); (first | omega | assumption | ((repeat' (with_reducible apply And.intro)) <;> first | omega | assumption))))))))))
    refine .loop (fun _ : Unit => ⟨182, [(25, .int .i64 fun _ => 0), (12, .nil), (8, .ptr 8 0), (9, .int .i64 fun _ => p.2.2), (4, boxT 1 1 fun _ => recE)],
      [(8, .box [.int .i64 fun _ => 0, .int .i64 fun _ => 0, .int .i64 fun _ => 0, .str fun _ => ⟨#[]⟩, .nil, .nil])]⟩) (fun _ => True) (fun _ => 0) () trivial ?_ fun _ E _ => ?_
    · (focus (cbv; (try dsimp only [nc] at *); (try simp only [wl, nc]); (repeat' (with_reducible apply And.intro)); all_goals (try first | rfl | exact fun _ _ => lr rfl | exact lr rfl | trivial | omega)))
    apply AWp.wk T4_ok mixed4 [] kq78 ?_
    (any_goals ((with_reducible refine wk_id ?_); cbv; (try dsimp only [nc] at *); (repeat' (with_reducible first | exact all_nil.2 trivial | exact ob_nil | refine ob_cons ?_ ?_ | refine VC.mk rfl ?_ ?_ ?_ | refine CondAny.mk (fun _ => ?_) (fun _ => ?_) | (refine CondVC.mk ?_ ?_ <;> intro zq <;> (try simp only [nc, cl] at zq) <;> (try simp only [bl, dl] at zq) <;> (revert zq; intro _)) | ((first | refine end_exit ?_ | refine end_out ?_); cbv; (try dsimp only [nc] at *))))))
    all_goals (try exact absurd ‹0 < (recE.fields.length : Int)› (by decide))
    (any_goals ((with_reducible first | refine hob_none ?_ | refine hob_some (fun _ => ?_)) <;> exact record0v_ok))
    ((all_goals (try (with_reducible ((first | refine end_ret ?_ | refine end_normal ?_); (focus (cbv; (try dsimp only [nc] at *); (try simp only [wl, nc]); (repeat' (with_reducible apply And.intro)); all_goals (try first | rfl | exact fun _ _ => lr rfl | exact lr rfl | trivial | omega))))))); (all_goals (try ((with_reducible rw [all_cons]); (try simp only [wl, nc]); (repeat' (with_reducible apply And.intro)); (all_goals (try first | exact True.intro | exact fun _ _ h => h | exact fun _ h => h | exact fun h => h | exact pick_t | exact pick_f | omega | (focus (intros; (try simp only [nc, cl] at *); (try simp only [bl, el, dl] at *); (try simp (disch := omega) only [w64] at *); (first | omega | assumption | ((repeat' (with_reducible apply And.intro)) <;> first | omega | assumption))))))))))
    all_goals first
      | (rw [i3]; rfl)
      | (rw [hz]; exact fun _ _ => LeL.of_eq rfl)
      | rw [hz]
def readE (s : ByteArray) : Int × Int × Int :=
  if (refTakeV s 0).2.2.2 ≠ 0 then (0, (refTakeV s 0).2.2.1, (refTakeV s 0).2.2.2) else recL s (refTakeV s 0).1.toNat 0 (refTakeV s 0).2.1
def readZ (s : ByteArray) : V := if (refTakeV s 0).2.2.2 ≠ 0 then recN else if (readE s).2.2 = 0 then recN else default
theorem Read0_ok (s : ByteArray) (hs : s.size ≤ 1073741824) :
    AFun Tryz.prog 58 [encT 1 1 .any fun _ => recE, .str fun _ => s, .int .i64 fun _ => 0] []
      (.tup [encV 1 .any fun _ => readZ s, .int .i64 fun _ => (readE s).1, .int .i64 fun _ => (readE s).2.1, .int .i64 fun _ => (readE s).2.2]) [] := by
  have hA := refTake_ok s 0 (by decide) (by omega) (by omega)
  have hAg := refTakeV_good (s := s) (a := 0) (by decide) (by omega) (by omega)
  have hB : (refTakeV s 0).2.2.2 = 0 → AFun Tryz.prog 78 [encT 1 1 .any fun _ => recE, .str fun _ => s, .int .i64 fun _ => (refTakeV s 0).2.1, .int .i64 fun _ => (refTakeV s 0).1] []
      (.tup [encV 1 .any fun _ => readZ s, .int .i64 fun _ => (readE s).1, .int .i64 fun _ => (readE s).2.1, .int .i64 fun _ => (readE s).2.2]) [] := by
    intro z
    obtain ⟨g1, g2, g3, g4⟩ := hAg z
    have h := record0_ok s (refTakeV s 0).2.1 (refTakeV s 0).1.toNat hs (by omega) g2 (by omega)
    rw [Int.toNat_of_nonneg g3] at h
    rwa [show readZ s = _ from if_neg (fun k => k z), show readE s = _ from if_neg (fun k => k z)]
  have hE : ¬ (refTakeV s 0).2.2.2 = 0 → readZ s = recN ∧ readE s = (0, (refTakeV s 0).2.2.1, (refTakeV s 0).2.2.2) := fun z => ⟨if_pos z, if_pos z⟩
  obtain ⟨A, hAe⟩ : ∃ A, A = refTakeV s 0 := ⟨_, rfl⟩
  obtain ⟨R, hR⟩ : ∃ R, R = readE s := ⟨_, rfl⟩
  obtain ⟨Z, hZ⟩ : ∃ Z, Z = readZ s := ⟨_, rfl⟩
  rw [← hAe, ← hR, ← hZ] at hE
  rw [← hAe, ← hR, ← hZ] at hB
  rw [← hAe] at hA
  rw [← hR, ← hZ]
  clear hAe hR hZ hAg
  (apply AFun.of T4_ok mixed4 [.cell 6 30, .tmp 7, .tmp 8, .tmp 9] kq58 [(0, [(0, .nil, [])]), (10, [(2, .tup [.int .i64 fun _ => A.1, .int .i64 fun _ => A.2.1, .int .i64 fun _ => A.2.2.1, .int .i64 fun _ => A.2.2.2], [])]),
    (19, [(5, .str fun _ => s, [])]), (27, [(6, .any, [])]), (33, [(2, .int .i64 fun _ => 0, [])]), (36, [(8, .any, [])]), (14, [(1, .int .i64 fun _ => 0, [])]), (41, [(2, .bool fun _ => true, [])]),
    (40, [(4, .tup [encV 1 .any fun _ => Z, .int .i64 fun _ => R.1, .int .i64 fun _ => R.2.1, .int .i64 fun _ => R.2.2], [])])] Tryz.func58 (fun _ => ?_); (any_goals ((with_reducible refine wk_id ?_); cbv; (try dsimp only [nc] at *); (repeat' (with_reducible first | exact all_nil.2 trivial | exact ob_nil | refine ob_cons ?_ ?_ | refine VC.mk rfl ?_ ?_ ?_ | refine CondAny.mk (fun _ => ?_) (fun _ => ?_) | (refine CondVC.mk ?_ ?_ <;> intro zq <;> (try simp only [nc, cl] at zq) <;> (try simp only [bl, dl] at zq) <;> (revert zq; intro _)) | ((first | refine end_exit ?_ | refine end_out ?_); cbv; (try dsimp only [nc] at *)))))))
  all_goals (try exact absurd ‹recE.kind = 1› (by decide))
  all_goals (try exact absurd ‹recE.kind = 4› (by decide))
  all_goals (try exact absurd ‹recE.kind = 5› (by decide))
  all_goals (try exact absurd ‹recE.kind = 8› (by decide))
  all_goals (try exact absurd ‹recE.kind = 10› (by decide))
  all_goals (try exact absurd (show recE.kind = 9 from rfl) ‹¬ recE.kind = 9›)
  (any_goals ((with_reducible first | refine hob_none ?_ | refine hob_some (fun _ => ?_)) <;> exact hA))
  (any_goals ((with_reducible first | refine hob_none ?_ | refine hob_some (fun _ => ?_)); (try dsimp only); (have q := (hB ‹A.2.2.2 = 0›); refine AFun.weak_in q ?_; clear q); (focus (cbv; (try dsimp only [nc] at *); (try simp only [wl, nc]); (repeat' (with_reducible apply And.intro)); all_goals (try first | rfl | exact fun _ _ => lr rfl | exact lr rfl | trivial | omega)))))
  ((all_goals (try (with_reducible ((first | refine end_ret ?_ | refine end_normal ?_); (focus (cbv; (try dsimp only [nc] at *); (try simp only [wl, nc]); (repeat' (with_reducible apply And.intro)); all_goals (try first | rfl | exact fun _ _ => lr rfl | exact lr rfl | trivial | omega))))))); (all_goals (try ((with_reducible rw [all_cons]); (try simp only [wl, nc]); (repeat' (with_reducible apply And.intro)); (all_goals (try first | exact True.intro | exact fun _ _ h => h | exact fun _ h => h | exact fun h => h | exact pick_t | exact pick_f | omega | (focus (intros; (try simp only [nc, cl] at *); (try simp only [bl, el, dl] at *); (try simp (disch := omega) only [w64] at *); (first | omega | assumption | ((repeat' (with_reducible apply And.intro)) <;> first | omega | assumption))))))))))
  all_goals
    obtain ⟨q1, q2⟩ := hE ‹¬ A.2.2.2 = 0›
    first
      | (rw [q2]; done)
      | (rw [q1]; exact fun _ _ => LeL.of_eq rfl)
      | (rw [q1]; rfl)
def decE (s : ByteArray) : Int × Int :=
  if (readE s).2.2 ≠ 0 then ((readE s).2.1, (readE s).2.2) else if (readE s).1 < s.size then ((readE s).1, 5) else (0, 0)
theorem Decode0_ok (s : ByteArray) (hs : s.size ≤ 1073741824) :
    AFun Tryz.prog 30 [encT 1 1 .any fun _ => recE, .str fun _ => s] []
      (.tup [encV 1 .any fun _ => if (decE s).2 = 0 then recN else default, .int .i64 fun _ => (decE s).1, .int .i64 fun _ => (decE s).2]) [] := by
  have hC := refCheckT_ok 0 1 recE (by decide) recE_le recE_sz
  rw [show chkT (0 + 1) 1 recE = 0 from recE_chk] at hC
  have hR := Read0_ok s hs
  have hz : (readE s).2.2 = 0 → readZ s = recN := by
    intro h
    unfold readZ
    rw [if_pos h]
    split <;> rfl
  have hN := refSize_ok 1 recN recN_le (by decide)
  have hD : (¬ (readE s).2.2 = 0 → decE s = ((readE s).2.1, (readE s).2.2)) ∧ ((readE s).2.2 = 0 → (readE s).1 < s.size → decE s = ((readE s).1, 5)) ∧ ((readE s).2.2 = 0 → ¬ (readE s).1 < s.size → decE s = (0, 0)) := by
    refine ⟨fun h => if_pos h, fun h k => ?_, fun h k => ?_⟩
    · unfold decE; rw [if_neg (fun z => z h), if_pos k]
    · unfold decE; rw [if_neg (fun z => z h), if_neg k]
  obtain ⟨D, hDe⟩ : ∃ D, D = decE s := ⟨_, rfl⟩
  obtain ⟨R, hRe⟩ : ∃ D, D = readE s := ⟨_, rfl⟩
  obtain ⟨Z, hZe⟩ : ∃ D, D = readZ s := ⟨_, rfl⟩
  obtain ⟨W, hW⟩ : ∃ W : V, W = if D.2 = 0 then recN else default := ⟨_, rfl⟩
  rw [← hDe, ← hRe] at hD
  rw [← hRe, ← hZe] at hR hz
  rw [← hDe, ← hW]
  clear hDe hRe hZe
  (apply AFun.of T4_ok mixed4 [.cell 4 30, .tmp 5, .tmp 6] kq30 [(0, [(0, .nil, [])]), (1, [(1, .int .i64 fun _ => 0, [])]), 
    (4, [(2, .tup [encV 1 .any fun _ => Z, .int .i64 fun _ => R.1, .int .i64 fun _ => R.2.1, .int .i64 fun _ => R.2.2], [])]), (9, [(1, .int .i64 fun _ => sizeV 1 recN, [])])] Tryz.func30 (fun _ => ?_); (any_goals ((with_reducible refine wk_id ?_); cbv; (try dsimp only [nc] at *); (repeat' (with_reducible first | exact all_nil.2 trivial | exact ob_nil | refine ob_cons ?_ ?_ | refine VC.mk rfl ?_ ?_ ?_ | refine CondAny.mk (fun _ => ?_) (fun _ => ?_) | (refine CondVC.mk ?_ ?_ <;> intro zq <;> (try simp only [nc, cl] at zq) <;> (try simp only [bl, dl] at zq) <;> (revert zq; intro _)) | ((first | refine end_exit ?_ | refine end_out ?_); cbv; (try dsimp only [nc] at *)))))))
  all_goals (try exact absurd trivial ‹¬ True›)
  (any_goals ((with_reducible first | refine hob_none ?_ | refine hob_some (fun _ => ?_)) <;> exact hC))
  (any_goals ((with_reducible first | refine hob_none ?_ | refine hob_some (fun _ => ?_)); (try dsimp only); (have q := hR; refine AFun.weak_in q ?_; clear q); (focus (cbv; (try dsimp only [nc] at *); (try simp only [wl, nc]); (repeat' (with_reducible apply And.intro)); all_goals (try first | rfl | exact fun _ _ => lr rfl | exact lr rfl | trivial | omega)))))
  any_goals (with_reducible refine hob_none ?_) <;> (rw [hz ‹R.2.2 = 0›]; exact hN)
  all_goals (try exact absurd ‹4096 < (sizeV 1 recN : Int)› (by decide))
  ((all_goals (try (with_reducible ((first | refine end_ret ?_ | refine end_normal ?_); (focus (cbv; (try dsimp only [nc] at *); (try simp only [wl, nc]); (repeat' (with_reducible apply And.intro)); all_goals (try first | rfl | exact fun _ _ => lr rfl | exact lr rfl | trivial | omega))))))); (all_goals (try ((with_reducible rw [all_cons]); (try simp only [wl, nc]); (repeat' (with_reducible apply And.intro)); (all_goals (try first | exact True.intro | exact fun _ _ h => h | exact fun _ h => h | exact fun h => h | exact pick_t | exact pick_f | omega | (focus (intros; (try simp only [nc, cl] at *); (try simp only [bl, el, dl] at *); (try simp (disch := omega) only [w64] at *); (first | omega | assumption | ((repeat' (with_reducible apply And.intro)) <;> first | omega | assumption))))))))))
  all_goals first
    | (have q := hD.1 ‹¬ R.2.2 = 0›
       have hw : W = default := by rw [hW, q]; exact if_neg ‹¬ R.2.2 = 0›
       first
         | (rw [q]; done)
         | (rw [hw]; exact fun _ _ => LeL.of_eq rfl)
         | (rw [hw]; rfl))
    | (have q := hD.2.1 ‹R.2.2 = 0› ‹R.1 < (s.size : Int)›
       have hw : W = default := by rw [hW, q]; exact if_neg (show ¬ (5 : Int) = 0 by decide)
       first
         | (rw [q]; done)
         | (rw [hw]; exact fun _ _ => LeL.of_eq rfl)
         | (rw [hw]; rfl))
    | (have q := hD.2.2 ‹R.2.2 = 0› (by omega)
       have hw : W = recN := by rw [hW, q]; rfl
       first
         | (rw [q]; done)
         | (rw [hw, hz ‹R.2.2 = 0›]; exact fun _ _ => LeL.of_eq rfl)
         | (rw [hw, hz ‹R.2.2 = 0›]))
end Go.Ai

namespace Go.Ai
open Go Go.Proofs
set_option maxRecDepth 100000
set_option maxHeartbeats 2000000
def sgm (s : ByteArray) (a b : Nat) : List Nat := ((strN s).take b).drop a
theorem sgm_app (s : ByteArray) {a b c : Nat} (h1 : a ≤ b) (h2 : b ≤ c) : sgm s a b ++ sgm s b c = sgm s a c := by
  unfold sgm
  generalize strN s = l
  apply List.ext_getElem?
  intro i
  rw [List.getElem?_append]
  simp only [List.length_drop, List.length_take, List.getElem?_drop, List.getElem?_take]
  split
  · rename_i h
    rw [if_pos (by omega), if_pos (by omega)]
  · rename_i h
    by_cases hl : l.length ≤ b
    · rw [List.getElem?_eq_none (l := l) (i := b + (i - (min b l.length - a))) (by omega)]
      by_cases hz : a + i < c
      · rw [if_pos hz, List.getElem?_eq_none (by omega)]; split <;> rfl
      · rw [if_neg hz]; split <;> rfl
    · rw [show b + (i - (min b l.length - a)) = a + i by omega]
theorem sgm_nil (s : ByteArray) (a : Nat) : sgm s a a = [] := by
  unfold sgm
  exact List.drop_eq_nil_of_le (by rw [List.length_take]; omega)
theorem strN_ext (s : ByteArray) {a b : Nat} : strN (s.extract a b) = sgm s a b := by
  unfold sgm strN
  rw [ByteArray.data_extract, Array.toList_extract, ← List.map_take, ← List.map_drop]
  congr 1
  rw [List.extract_eq_drop_take, List.drop_take]
theorem ext_size (s : ByteArray) {a b : Nat} (h : b ≤ s.size) : (s.extract a b).size = b - a := by
  rw [ByteArray.size_extract]; omega
theorem num_take (s : ByteArray) (a : Nat) (ha : a ≤ s.size) (hs : s.size ≤ 1073741824) :
    (∃ n k : Nat, refTakeV s a = ((n : Int), ((a + k : Nat) : Int), 0, 0) ∧ numR (rdAt s a) = ((n : Int), rdAt s ((a + k : Nat) : Int)) ∧ 0 < k ∧ a + k ≤ s.size ∧ putN n = sgm s a (a + k) ∧ n ≤ 4611686018427387903) ∨
    (∃ bad e : Int, e ≠ 0 ∧ refTakeV s a = (0, 0, bad, e) ∧ numR (rdAt s a) = (0, ⟨s, a, s.size, bad, e⟩)) := by
  have hg := rdAt_good (s := s) (a := (a : Int)) (by omega) (by omega) (by omega)
  cases hk : takeN (rdAt s a).room 0 0 with
  | ok p =>
    obtain ⟨n, k⟩ := p
    obtain ⟨q1, q2, q3⟩ := take_len (room_byte _) hk
    have hl := Rd.room_len hg
    have hm := take_most _ _ _ _ _ hk
    have hl' : (rdAt s a).room.length = ((s.size : Int) - a).toNat := hl
    have hq : a + k ≤ s.size := by omega
    refine .inl ⟨n, k, refTake_get hk, numR_get rfl hk, q2, hq, ?_, hm⟩
    rw [q1]
    show ((((s.data.toList.map UInt8.toNat).take s.size).drop a).take k) = _
    unfold sgm strN
    rw [List.drop_take, List.drop_take, List.take_take]
    congr 1; omega
  | error k =>
    refine .inr ?_
    have hr : refTakeV s a = (0, 0, if k = 1 then ((s.size : Int), 29) else ((a : Int), 3)) := by simp only [refTakeV, hk]
    have hn : numR (rdAt s a) = (0, if k = 1 then (rdAt s a).fail (rdAt s a).fin 29 else (rdAt s a).fail (rdAt s a).pos 3) := by
      have hz : (rdAt s a).e = 0 := rfl
      simp [numR, hz, hk]
    by_cases h1 : k = 1
    · rw [if_pos h1] at hr hn
      exact ⟨_, _, by decide, hr, hn⟩
    · rw [if_neg h1] at hr hn
      exact ⟨_, _, by decide, hr, hn⟩
theorem sub2_err {r : Rd} (h : r.e ≠ 0) : sub2 r = r := by
  have : numR r = (0, r) := by simp [numR, h]
  unfold sub2
  rw [this]
  show (bytesR r 0).2 = r
  rw [bytesR, if_pos h]
theorem partA_err {r : Rd} (num : Int) (l : PL) (h : r.e ≠ 0) : partA num l r = (l, r) := by
  unfold partA
  rw [sub2_err h, if_pos h]
theorem fields_same (s : ByteArray) (hs : s.size ≤ 1073741824) : ∀ (n : Nat) (last : Int) (l : PL) (a : Nat), a ≤ s.size →
    (∃ bad e b l', e ≠ 0 ∧ recL s n last a = (0, bad, e) ∧ fieldsA n last l (rdAt s a) = (l', ⟨s, b, s.size, bad, e⟩)) ∨
    (∃ (b : Nat) (m : PL), recL s n last a = ((b : Int), 0, 0) ∧ fieldsA n last l (rdAt s a) = (l ++ m, rdAt s b) ∧ a + m.length ≤ b ∧ b ≤ s.size ∧ m.length = n ∧ (∀ x ∈ m, x.2.size ≤ s.size) ∧ ∀ out, joinL m last out = (out ++ sgm s a b, 0)) := by
  intro n
  induction n with
  | zero =>
    intro last l a ha
    refine .inr ⟨a, [], rfl, ?_, Nat.le_refl _, ha, rfl, fun x hx => (List.not_mem_nil hx).elim, fun out => ?_⟩
    · rw [List.append_nil]; rfl
    · rw [sgm_nil, List.append_nil]; rfl
  | succ n ih =>
    intro last l a ha
    rw [recL, fieldsA_succ, if_neg (show ¬ (rdAt s a).e ≠ 0 from fun z => z rfl)]
    rcases num_take s a ha hs with ⟨n1, k1, hT, hN, p1, p2, p3, p4⟩ | ⟨bad, e, he, hT, hN⟩
    · rw [hT, hN]
      simp only [ne_eq, not_true_eq_false, if_false]
      rw [if_neg (show ¬ ¬ (rdAt s ((a + k1 : Nat) : Int)).e = 0 from fun z => z rfl)]
      unfold stepR
      rw [hN]
      by_cases c1 : (n1 : Int) < 1 ∨ 9999 < (n1 : Int)
      · refine .inl ⟨a, 2, ((a + k1 : Nat) : Int), l, by decide, if_pos c1, ?_⟩
        rw [if_pos c1, partA_err _ _ (show ((rdAt s ((a + k1 : Nat) : Int)).fail (rdAt s a).pos 2).e ≠ 0 by simp [Rd.fail, rdAt]), fieldsA_err _ _ _ _ (.inr (show ((rdAt s ((a + k1 : Nat) : Int)).fail (rdAt s a).pos 2).e ≠ 0 by simp [Rd.fail, rdAt]))]
        rfl
      rw [if_neg c1, if_neg c1]
      by_cases c2 : (n1 : Int) ≤ last
      · refine .inl ⟨a, 24, ((a + k1 : Nat) : Int), l, by decide, if_pos c2, ?_⟩
        rw [if_pos c2, partA_err _ _ (show ((rdAt s ((a + k1 : Nat) : Int)).fail (rdAt s a).pos 24).e ≠ 0 by simp [Rd.fail, rdAt]), fieldsA_err _ _ _ _ (.inr (show ((rdAt s ((a + k1 : Nat) : Int)).fail (rdAt s a).pos 24).e ≠ 0 by simp [Rd.fail, rdAt]))]
        rfl
      rw [if_neg c2, if_neg c2]
      rcases num_take s (a + k1) p2 hs with ⟨n2, k2, hT2, hN2, r1, r2, r3, r4⟩ | ⟨bad, e, he, hT2, hN2⟩
      · rw [hT2]
        simp only [ne_eq, not_true_eq_false, if_false]
        have hS : sub2 (rdAt s ((a + k1 : Nat) : Int)) = (bytesR (rdAt s ((a + k1 + k2 : Nat) : Int)) n2).2 := by unfold sub2; rw [hN2]
        unfold bytesR at hS
        rw [if_neg (show ¬ (rdAt s ((a + k1 + k2 : Nat) : Int)).e ≠ 0 from fun z => z rfl)] at hS
        by_cases c3 : (s.size : Int) - ((a + k1 + k2 : Nat) : Int) < n2
        · rw [if_pos (show (rdAt s ((a + k1 + k2 : Nat) : Int)).fin - (rdAt s ((a + k1 + k2 : Nat) : Int)).pos < n2 from c3)] at hS
          refine .inl ⟨s.size, 29, ((a + k1 + k2 : Nat) : Int), l, by decide, if_pos c3, ?_⟩
          unfold partA
          rw [hS, if_pos (show ((rdAt s ((a + k1 + k2 : Nat) : Int)).fail (rdAt s ((a + k1 + k2 : Nat) : Int)).fin 29).e ≠ 0 by simp [Rd.fail, rdAt]), fieldsA_err _ _ _ _ (.inr (show ((rdAt s ((a + k1 + k2 : Nat) : Int)).fail (rdAt s ((a + k1 + k2 : Nat) : Int)).fin 29).e ≠ 0 by simp [Rd.fail, rdAt]))]
          rfl
        · rw [if_neg (show ¬ (rdAt s ((a + k1 + k2 : Nat) : Int)).fin - (rdAt s ((a + k1 + k2 : Nat) : Int)).pos < n2 from c3)] at hS
          have hS' : sub2 (rdAt s ((a + k1 : Nat) : Int)) = rdAt s ((a + k1 + k2 + n2 : Nat) : Int) := by rw [hS]; rfl
          obtain ⟨x, hx⟩ : ∃ x : Int × ByteArray, x = ((n1 : Int), s.extract (a + k1 + k2) (a + k1 + k2 + n2)) := ⟨_, rfl⟩
          have hP : partA (n1 : Int) l (rdAt s ((a + k1 : Nat) : Int)) = (l ++ [x], rdAt s ((a + k1 + k2 + n2 : Nat) : Int)) := by
            unfold partA
            rw [hS', if_neg (show ¬ (rdAt s ((a + k1 + k2 + n2 : Nat) : Int)).e ≠ 0 from fun z => z rfl), hN2, hx]
            rfl
          rw [hP, if_neg c3]
          have hle : a + k1 + k2 + n2 ≤ s.size := by omega
          have hxs : x.2.size = n2 := by rw [hx]; show (s.extract _ _).size = _; rw [ext_size s hle]; omega
          rw [show ((a + k1 + k2 : Nat) : Int) + (n2 : Int) = ((a + k1 + k2 + n2 : Nat) : Int) by omega]
          rcases ih (n1 : Int) (l ++ [x]) (a + k1 + k2 + n2) hle with ⟨bad, e, b, l', he, h1, h2⟩ | ⟨b, m, h1, h2, h3, h4, h5, h6, h7⟩
          · exact .inl ⟨bad, e, b, l', he, h1, h2⟩
          · refine .inr ⟨b, x :: m, h1, ?_, by rw [List.length_cons]; omega, h4, by rw [List.length_cons, h5], ?_, fun out => ?_⟩
            · rw [h2, List.append_assoc]; rfl
            · intro y hy
              rcases List.mem_cons.1 hy with rfl | hy
              · rw [hxs]; omega
              · exact h6 y hy
            · have hx1 : x.1 = n1 := by rw [hx]
              rw [joinL, hx1, if_neg c1, if_neg c2, h7]
              have hx2 : strN x.2 = sgm s (a + k1 + k2) (a + k1 + k2 + n2) := by rw [hx]; exact strN_ext s
              have hp : partN x = sgm s a (a + k1 + k2 + n2) := by
                unfold partN
                rw [hxs, hx1, hx2, Int.toNat_natCast, p3, r3, sgm_app s (by omega) (by omega), sgm_app s (by omega) (by omega)]
              rw [hp, List.append_assoc, sgm_app s (by omega) (by omega)]
      · rw [hT2]
        have hS : sub2 (rdAt s ((a + k1 : Nat) : Int)) = ⟨s, ((a + k1 : Nat) : Int), s.size, bad, e⟩ := by
          unfold sub2; rw [hN2]; show (bytesR ⟨s, _, _, bad, e⟩ 0).2 = _; rw [bytesR, if_pos he]
        refine .inl ⟨bad, e, ((a + k1 : Nat) : Int), l, he, if_pos he, ?_⟩
        unfold partA
        rw [hS, if_pos (show (Rd.mk s ((a + k1 : Nat) : Int) s.size bad e).e ≠ 0 from he), fieldsA_err _ _ _ _ (.inr (show (Rd.mk s ((a + k1 : Nat) : Int) s.size bad e).e ≠ 0 from he))]
    · rw [hT, hN]
      refine .inl ⟨bad, e, a, l, he, if_pos he, ?_⟩
      rw [if_pos (show (Rd.mk s (a : Int) s.size bad e).e ≠ 0 from he)]
theorem parts_same (s : ByteArray) (hs : s.size ≤ 1073741824) :
    ((decE s).2 ≠ 0 ∧ partsV s = ([], (decE s).1, (decE s).2)) ∨
    ((decE s) = (0, 0) ∧ (partsV s).2 = (0, 0) ∧ (partsV s).1.length ≤ s.size ∧ (∀ x ∈ (partsV s).1, x.2.size ≤ s.size) ∧ joinV (partsV s).1 = (s, 0)) := by
  unfold partsV fieldsV decE readE
  rcases num_take s 0 (Nat.zero_le _) hs with ⟨n1, k1, hT, hN, p1, p2, p3, p4⟩ | ⟨bad, e, he, hT, hN⟩
  · rw [show ((0 : Nat) : Int) = 0 from rfl] at hT hN
    rw [hT, hN]
    simp only [ne_eq, not_true_eq_false, if_false, Int.toNat_natCast]
    rcases fields_same s hs n1 0 [] (0 + k1) p2 with ⟨bad, e, b, l', he, h1, h2⟩ | ⟨b, m, h1, h2, h3, h4, h5, h6, h7⟩
    · rw [h1, h2]
      have hl : longR ⟨s, b, s.size, bad, e⟩ = ⟨s, b, s.size, bad, e⟩ := by
        unfold longR; split
        · simp [Rd.fail, he]
        · rfl
      rw [hl]
      refine .inl ⟨?_, ?_⟩
      · simp only [he, not_false_eq_true, if_true, ne_eq]
      · simp only [he, not_false_eq_true, if_true]
    · rw [h1, h2]
      simp only [List.nil_append, not_true_eq_false, if_false]
      by_cases c : (b : Int) < s.size
      · have hl : longR (rdAt s b) = ⟨s, b, s.size, b, 5⟩ := by
          unfold longR
          rw [if_pos (show (rdAt s b).pos < (rdAt s b).fin from c)]
          rfl
        rw [hl, if_pos c]
        refine .inl ⟨(show (5 : Int) ≠ 0 by decide), ?_⟩
        rw [if_pos (show ¬ (5 : Int) = 0 by decide)]
      · have hb : b = s.size := by omega
        have hl : longR (rdAt s b) = rdAt s b := by
          unfold longR
          rw [if_neg (show ¬ (rdAt s b).pos < (rdAt s b).fin from c)]
        rw [hl, if_neg c, if_neg (show ¬ ¬ (rdAt s b).e = 0 from fun z => z rfl)]
        refine .inr ⟨rfl, rfl, ?_, h6, ?_⟩
        · show m.length ≤ s.size
          omega
        · show joinV m = (s, 0)
          have hj := h7 (putN m.length)
          have e0 : putN m.length ++ sgm s (0 + k1) b = strN s := by
            rw [h5, p3, sgm_app s (by omega) (by omega), hb]
            unfold sgm
            rw [List.take_of_length_le (by rw [strN_len]; omega)]; rfl
          rw [e0] at hj
          unfold joinV
          rw [hj]
          simp [baL_strN]
  · rw [show ((0 : Nat) : Int) = 0 from rfl] at hT hN
    rw [hT, hN]
    have hl : longR ⟨s, 0, s.size, bad, e⟩ = ⟨s, 0, s.size, bad, e⟩ := by
      unfold longR; split
      · simp [Rd.fail, he]
      · rfl
    simp only [ne_eq, he, not_false_eq_true, if_true]
    rw [show Int.toNat 0 = 0 from rfl, fieldsA_err _ _ _ _ (.inl rfl)]
    refine .inl ⟨trivial, ?_⟩
    simp only [hl, he, not_false_eq_true, if_true]
end Go.Ai
