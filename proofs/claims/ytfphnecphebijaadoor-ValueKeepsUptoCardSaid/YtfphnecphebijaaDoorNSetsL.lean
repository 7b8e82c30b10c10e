/- Chapter 4: fields that are taken out; the document's With. -/
import Derived.Test.YtfphnecphebijaaDoorNFnG
import Derived.Test.YtfphnecphebijaaDoorNDel
import Derived.Test.YtfphnecphebijaaDoorNTot
namespace Go.Ai
open Go Go.Proofs
set_option maxRecDepth 100000
set_option maxHeartbeats 2000000

def withoutE (v : V) (s : ByteArray) : Int := if v.kind ≠ 9 then 11 else if findI v s < 0 then 8 else 0
def delV (v : V) (s : ByteArray) : V := setFs v (v.fields.eraseIdx (findI v s).toNat)

theorem Without_err (d : Nat) (v : V) (s : ByteArray) (hv : V.le (d + 1) v) (h : withoutE v s ≠ 0) :
    AFun Tryd.prog 46 [encV (d + 1) .any fun _ => v, .str fun _ => s] [] (.tup [encV (d + 1) .new fun _ => default, .int .i64 fun _ => withoutE v s]) [] := by
  (apply AFun.of T4_ok mixed4 [.cell 4 25, .tmp 5] kp46 [(1, [(2, .int .i64 (fun _ => ?_), [])])] Tryd.func46 (fun _ => ?_); (any_goals ((with_reducible refine wk_id ?_); cbv; (try dsimp only [nc] at *); (repeat' (with_reducible first | exact all_nil.2 trivial | exact ob_nil | refine ob_cons ?_ ?_ | refine VC.mk rfl ?_ ?_ ?_ | (refine CondVC.mk ?_ ?_ <;> intro hz <;> (try simp only [nc, bytes_empty, if_or, if_and] at hz) <;> (try simp only [bne_iff_ne, bne_eq_false_iff_eq, ne_eq] at hz) <;> (revert hz; intro _)) | (refine end_exit ?_; cbv; (try dsimp only [nc] at *)) | (refine end_out ?_; cbv; (try dsimp only [nc] at *)))))))
  (any_goals ((with_reducible first | refine hob_none ?_ | refine hob_some (fun _ => ?_)) <;> exact (index_ok d v s hv.2.1)))
  (all_goals (try simp only [dec_t, dec_f, Int.not_lt] at *))
  ((all_goals (try (with_reducible first | (refine end_ret ?_; (focus (cbv; (try dsimp only [nc] at *); (try simp only [all_nil, all_cons, and_true]); (try (repeat' (with_reducible apply And.intro))); (all_goals (try first | rfl | exact fun _ _ => LeL.of_eq rfl | exact LeL.of_eq rfl | trivial | omega))))) | (refine end_normal ?_; (focus (cbv; (try dsimp only [nc] at *); (try simp only [all_nil, all_cons, and_true, true_and, nc]); (try (repeat' (with_reducible apply And.intro))); (all_goals (try first | rfl | exact fun _ _ => LeL.of_eq rfl | exact LeL.of_eq rfl | trivial | omega)))))))); (all_goals (try (focus ((with_reducible rw [all_cons]); (try simp only [all_cons, all_nil, and_true, nc]); (repeat' (with_reducible apply And.intro)); (all_goals (try first | exact fun _ _ h => h | exact fun _ h => h | exact fun h => h | exact pick_t | exact pick_f | omega | (focus (intros; (try simp only [nc, bytes_empty, if_or, if_and] at *); (try simp only [Bool.false_eq_true, Bool.true_eq_false, Bool.and_eq_true, Bool.or_eq_true, Bool.not_eq_true', Bool.not_eq_true, Bool.and_eq_false_iff, Bool.or_eq_false_iff, Bool.not_eq_false', beq_iff_eq, beq_eq_false_iff_ne, bne_iff_ne, bne_eq_false_iff_eq, beq_true, beq_false, dec_t, dec_f, ne_eq, Decidable.not_not, Int.ofNat_lt, Int.ofNat_le, Int.toNat_natCast, Int.not_lt, Int.not_le, Nat.not_lt, Nat.not_le] at *); (try simp (disch := omega) only [w64] at *); (first | omega | assumption | ((repeat' (with_reducible apply And.intro)) <;> first | omega | assumption)))))))))))
  · simp [withoutE, *]
  · simp [withoutE, *]
  · exfalso; apply h; simp only [withoutE]; rw [if_neg (by simp [*]), if_neg (by omega)]

theorem delF_le {d a i : Nat} {l : List (ByteArray × V)} : LeL (delF a (fieldF d .new fun _ => l) fun _ => i) (rowT d ((l.eraseIdx a).getD i default)) := by
  unfold delF
  have he : (l.eraseIdx a).getD i default = if i < a then l.getD i default else l.getD (i + 1) default := by
    simp only [List.getD_eq_getElem?_getD, List.getElem?_eraseIdx]
    split <;> rfl
  rw [he]
  by_cases h : i < a
  · simp only [h, if_true]; exact LeL.of_eq rfl
  · simp only [h, if_false]; exact LeL.of_eq rfl

theorem Without_yes (d : Nat) (v : V) (s : ByteArray) (hv : V.le (d + 1) v) (h : withoutE v s = 0) :
    AFun Tryd.prog 46 [encV (d + 1) .any fun _ => v, .str fun _ => s] [] (.tup [encV (d + 1) .new fun _ => delV v s, .int .i64 fun _ => 0]) [] := by
  have hlt : findI v s < v.fields.length := idxI_lt
  have h9 : v.kind = 9 := by unfold withoutE at h; by_cases q : v.kind = 9; exact q; rw [if_pos q] at h; cases h
  have hi : 0 ≤ findI v s := by
    unfold withoutE at h; rw [if_neg (by simp [h9])] at h
    by_cases q : findI v s < 0
    · rw [if_pos q] at h; cases h
    · omega
  have hN : (findI v s).toNat < v.fields.length := by omega
  have hl := hv.2.1
  obtain ⟨a, ha⟩ : ∃ a, a = (findI v s).toNat := ⟨_, rfl⟩
  have hC := Clone_own d v hv (Clone_ok d)
  have hD := Delete_ok v.fields.length a false (fieldF d .new fun _ => v.fields) (by omega) hv.2.1
  (apply AFun.of T4_ok mixed4 [.cell 4 25, .tmp 5] kp46 [(1, [(2, .int .i64 (fun _ => ?_), [])]), (6, [(1, hC.out)]), (7, [(5, hD.out)])] Tryd.func46 (fun _ => ?_); (any_goals ((with_reducible refine wk_id ?_); cbv; (try dsimp only [nc] at *); (repeat' (with_reducible first | exact all_nil.2 trivial | exact ob_nil | refine ob_cons ?_ ?_ | refine VC.mk rfl ?_ ?_ ?_ | (refine CondVC.mk ?_ ?_ <;> intro hz <;> (try simp only [nc, bytes_empty, if_or, if_and] at hz) <;> (try simp only [bne_iff_ne, bne_eq_false_iff_eq, ne_eq] at hz) <;> (revert hz; intro _)) | (refine end_exit ?_; cbv; (try dsimp only [nc] at *)) | (refine end_out ?_; cbv; (try dsimp only [nc] at *)))))))
  (any_goals ((with_reducible first | refine hob_none ?_ | refine hob_some (fun _ => ?_)) <;> exact (index_ok d v s hv.2.1)))
  (any_goals ((with_reducible first | refine hob_none ?_ | refine hob_some (fun _ => ?_)) <;> exact hC))
  (all_goals (try simp only [dec_t, dec_f, Int.not_lt] at *))
  all_goals (try first | exact absurd h9 ‹¬v.kind = 9› | exact absurd ‹findI v s < 0› (by omega))
  any_goals (refine hob_none ?_; (try dsimp only); refine AFun.weak_in hD ?_; (focus (cbv; (try dsimp only [nc] at *); (try simp only [all_nil, all_cons, and_true, true_and]); (try (repeat' (with_reducible apply And.intro))); (all_goals (try first | rfl | exact fun _ _ => LeL.of_eq rfl | exact LeL.of_eq rfl | trivial | omega)))))
  ((all_goals (try (with_reducible first | (refine end_ret ?_; (focus (cbv; (try dsimp only [nc] at *); (try simp only [all_nil, all_cons, and_true]); (try (repeat' (with_reducible apply And.intro))); (all_goals (try first | rfl | exact fun _ _ => LeL.of_eq rfl | exact LeL.of_eq rfl | trivial | omega))))) | (refine end_normal ?_; (focus (cbv; (try dsimp only [nc] at *); (try simp only [all_nil, all_cons, and_true, true_and, nc]); (try (repeat' (with_reducible apply And.intro))); (all_goals (try first | rfl | exact fun _ _ => LeL.of_eq rfl | exact LeL.of_eq rfl | trivial | omega)))))))); (all_goals (try (focus ((with_reducible rw [all_cons]); (try simp only [all_cons, all_nil, and_true, nc]); (repeat' (with_reducible apply And.intro)); (all_goals (try first | exact fun _ _ h => h | exact fun _ h => h | exact fun h => h | exact pick_t | exact pick_f | omega | (focus (intros; (try simp only [nc, bytes_empty, if_or, if_and] at *); (try simp only [Bool.false_eq_true, Bool.true_eq_false, Bool.and_eq_true, Bool.or_eq_true, Bool.not_eq_true', Bool.not_eq_true, Bool.and_eq_false_iff, Bool.or_eq_false_iff, Bool.not_eq_false', beq_iff_eq, beq_eq_false_iff_ne, bne_iff_ne, bne_eq_false_iff_eq, beq_true, beq_false, dec_t, dec_f, ne_eq, Decidable.not_not, Int.ofNat_lt, Int.ofNat_le, Int.toNat_natCast, Int.not_lt, Int.not_le, Nat.not_lt, Nat.not_le] at *); (try simp (disch := omega) only [w64] at *); (first | omega | assumption | ((repeat' (with_reducible apply And.intro)) <;> first | omega | assumption)))))))))))
  all_goals (try rfl)
  · rw [w64 (by omega) (by omega)]; omega
  · show v.fields.length - 1 = (v.fields.eraseIdx (findI v s).toNat).length
    rw [List.length_eraseIdx, if_pos hN]
  · intro k hk
    have := delF_le (d := d) (a := a) (i := k) (l := v.fields)
    rw [ha] at this ⊢
    exact this

theorem text_le {a b : ByteArray} : cmpS a b ≤ 0 ↔ gtB a b = false := by
  rw [← Bool.not_eq_true, gtB_iff]
  rcases cmpS_spec a b with ⟨q1, q2⟩ | ⟨q1, q2⟩ | ⟨q1, q2⟩
  · exact ⟨fun _ h => ltS_asymm q1 h, fun _ => by omega⟩
  · subst q1; exact ⟨fun _ h => ltS_irrefl _ h, fun _ => by omega⟩
  · exact ⟨fun h => by omega, fun h => (h q1).elim⟩

theorem cat3_le {d a b j : Nat} {l l' : List (ByteArray × V)} {y : ByteArray × V} {n0 n1 : Unit → Nat} {F0 F1 F2 F3 : (Unit → Nat) → List AV} (hn0 : n0 () = a) (hn1 : n1 () = a + 1)
    (h1 : ∀ j, j < a → F1 (fun _ => j) = rowF d (l.getD j default)) (h2 : F2 (fun _ => 0) = rowF d y) (h3 : ∀ j, F3 (fun _ => j) = rowF d (l.getD (b + j) default))
    (hl : l'.getD j default = if j < a then l.getD j default else if j = a then y else l.getD (b + (j - (a + 1))) default) :
    LeL (catF n1 (catF n0 (catF (fun _ => 0) F0 F1) F2) F3 fun _ => j) (rowF d (l'.getD j default)) := by
  refine LeL.of_eq ?_
  rw [hl]
  simp only [catF, hn0, hn1, Nat.not_lt_zero, if_false, Nat.sub_zero]
  by_cases q : j < a
  · rw [if_pos (by omega), if_pos q, if_pos q, h1 j q]
  · by_cases q2 : j = a
    · subst q2
      rw [if_pos (by omega), if_neg q, if_neg q, if_pos rfl, Nat.sub_self, h2]
    · rw [if_neg (by omega), if_neg q, if_neg q2, h3]

theorem withE_kill {v x : V} {s : ByteArray} (h : withE v s x ≠ 0) (k : v.kind = 9) (n : isName s = true) (q : isNull x = false) (l : (if (if v.kind = 9 then findI v s else -1) < 0 then decide (64 ≤ (v.fields.length : Int)) else false) = false) : False := by
  apply h
  unfold withE
  rw [if_neg (by simp [k]), if_neg (by simp [n]), if_neg (by simp [q]), if_neg]
  rintro ⟨h1, h2⟩
  rw [if_pos k, if_pos h1] at l
  simp at l; omega

theorem refWith_err (d e : Nat) (v x : V) (s : ByteArray) (hv : V.le (d + 1) v) (hs : s.size ≤ 35184372088832) (h : withE v s x ≠ 0) :
    AFun Tryd.prog 48 [encV (d + 1) .any fun _ => v, .str fun _ => s, encV e .any fun _ => x] [] (.tup [encV (d + 1) .new fun _ => default, .int .i64 fun _ => withE v s x]) [] := by
  (apply AFun.of T4_ok mixed4 [.cell 6 25, .tmp 7] kp48 [(1, [(2, .int .i64 (fun _ => ?_), [])]), (4, [(1, .bool (fun _ => ?_), [])]), (6, [(1, .bool (fun _ => ?_), [])])] Tryd.func48 (fun _ => ?_); (any_goals ((with_reducible refine wk_id ?_); cbv; (try dsimp only [nc] at *); (repeat' (with_reducible first | exact all_nil.2 trivial | exact ob_nil | refine ob_cons ?_ ?_ | refine VC.mk rfl ?_ ?_ ?_ | (refine CondVC.mk ?_ ?_ <;> intro hz <;> (try simp only [nc, bytes_empty, if_or, if_and] at hz) <;> (try simp only [Bool.not_eq_true', Bool.not_eq_false', bne_iff_ne, bne_eq_false_iff_eq, ne_eq] at hz) <;> (revert hz; intro _)) | (refine end_exit ?_; cbv; (try dsimp only [nc] at *)) | (refine end_out ?_; cbv; (try dsimp only [nc] at *)))))))
  (any_goals ((with_reducible first | refine hob_none ?_ | refine hob_some (fun _ => ?_)) <;> exact (Find_ok d v s hv.2.1)))
  (any_goals ((with_reducible first | refine hob_none ?_ | refine hob_some (fun _ => ?_)) <;> exact (Name_ok s hs)))
  (any_goals ((with_reducible first | refine hob_none ?_ | refine hob_some (fun _ => ?_)) <;> exact (Null_ok e x)))
  (all_goals (try simp only [dec_t, dec_f, Int.not_lt] at *))
  all_goals (try exact (withE_kill h (by assumption) (by assumption) (by assumption) (by assumption)).elim)
  ((all_goals (try (with_reducible first | (refine end_ret ?_; (focus (cbv; (try dsimp only [nc] at *); (try simp only [all_nil, all_cons, and_true]); (try (repeat' (with_reducible apply And.intro))); (all_goals (try first | rfl | exact fun _ _ => LeL.of_eq rfl | exact LeL.of_eq rfl | trivial | omega))))) | (refine end_normal ?_; (focus (cbv; (try dsimp only [nc] at *); (try simp only [all_nil, all_cons, and_true, true_and, nc]); (try (repeat' (with_reducible apply And.intro))); (all_goals (try first | rfl | exact fun _ _ => LeL.of_eq rfl | exact LeL.of_eq rfl | trivial | omega)))))))); (all_goals (try (focus ((with_reducible rw [all_cons]); (try simp only [all_cons, all_nil, and_true]); (repeat' (with_reducible apply And.intro)); (all_goals (try first | exact fun _ _ h => h | exact fun _ h => h | exact fun h => h | exact pick_t | exact pick_f | omega | (focus (intros; (try simp only [nc, bytes_empty, if_or, if_and] at *); (try simp only [beq_true, dec_t] at *); (try simp (disch := omega) only [w64] at *); (first | omega | assumption | ((repeat' (with_reducible apply And.intro)) <;> first | omega | assumption)))))))))))
  · simp [withE, *]
  · simp [withE, *]
  · simp [withE, *]
  · rename_i k n q l
    unfold withE
    rw [if_neg (by simp [k]), if_neg (by simp [n]), if_neg (by simp [q]), if_pos]
    rw [if_pos k] at l
    by_cases h1 : findI v s < 0
    · rw [if_pos h1] at l; simp at l; exact ⟨h1, by omega⟩
    · rw [if_neg h1] at l; cases l

theorem refWith_rep (d : Nat) (v x : V) (s : ByteArray) (hv : V.le (d + 1) v) (hs : s.size ≤ 35184372088832) (h : withE v s x = 0) (hi : 0 ≤ findI v s) :
    AFun Tryd.prog 48 [encV (d + 1) .any fun _ => v, .str fun _ => s, encV d .any fun _ => x] [] (.tup [encV (d + 1) .any fun _ => setFs v (v.fields.set (findI v s).toNat (s, x)), .int .i64 fun _ => 0]) [] := by
  have hlt : findI v s < v.fields.length := idxI_lt
  obtain ⟨h9, hn, hx0, hlim⟩ := withE_zero h
  have hl := hv.2.1
  have hF : AFun Tryd.prog 47 [encV (d + 1) .any fun _ => v, .str fun _ => s] [] (.int .i64 fun _ => findI v s) [] := by
    have := Find_ok d v s hv.2.1
    rwa [if_pos h9] at this
  (apply AFun.of T4_ok mixed4 [.cell 6 25, .tmp 7] kp48 [(1, [(2, .int .i64 (fun _ => findI v s), [])]), (4, [(1, .bool (fun _ => ?_), [])]), (6, [(1, .bool (fun _ => ?_), [])])] Tryd.func48 (fun _ => ?_); (any_goals ((with_reducible refine wk_id ?_); cbv; (try dsimp only [nc] at *); (repeat' (with_reducible first | exact all_nil.2 trivial | exact ob_nil | refine ob_cons ?_ ?_ | refine VC.mk rfl ?_ ?_ ?_ | (refine CondVC.mk ?_ ?_ <;> intro hz <;> (try simp only [if_and] at hz) <;> (try simp only [Bool.and_eq_true, Bool.not_eq_true', Bool.and_eq_false_iff, Bool.not_eq_false', bne_iff_ne, bne_eq_false_iff_eq, dec_t, dec_f, ne_eq, Int.not_lt, Int.not_le] at hz) <;> (revert hz; intro _)) | (refine end_exit ?_; cbv; (try dsimp only [nc] at *)) | (refine end_out ?_; cbv; (try dsimp only [nc] at *)))))))
  (any_goals ((with_reducible first | refine hob_none ?_ | refine hob_some (fun _ => ?_)) <;> exact hF))
  (any_goals ((with_reducible first | refine hob_none ?_ | refine hob_some (fun _ => ?_)) <;> exact (Name_ok s hs)))
  (any_goals ((with_reducible first | refine hob_none ?_ | refine hob_some (fun _ => ?_)) <;> exact (Null_ok d x)))
  (all_goals (try simp only [dec_t] at *))
  all_goals (try first | exact absurd h9 ‹¬v.kind = 9› | exact absurd ‹isName s = false› hn | exact absurd ‹isNull x = true› hx0 | exact absurd ‹findI v s < 0› (by omega) | (rename_i q; exact (kill_if q (by omega)).elim))
  ((all_goals (try (with_reducible first | (refine end_ret ?_; (focus (cbv; (try dsimp only [nc] at *); (try simp only [all_nil, all_cons, and_true]); (try (repeat' (with_reducible apply And.intro))); (all_goals (try first | rfl | exact fun _ _ => LeL.of_eq rfl | exact LeL.of_eq rfl | trivial | omega))))) | (refine end_normal ?_; (focus (cbv; (try dsimp only [nc] at *); (try simp only [all_nil, all_cons, and_true, true_and, nc]); (try (repeat' (with_reducible apply And.intro))); (all_goals (try first | rfl | exact fun _ _ => LeL.of_eq rfl | exact LeL.of_eq rfl | trivial | omega)))))))); (all_goals (try (focus ((with_reducible rw [all_cons]); (try simp only [all_cons, all_nil, and_true]); (repeat' (with_reducible apply And.intro)); (all_goals (try first | exact fun _ _ h => h | exact fun _ h => h | exact fun h => h | exact pick_t | exact pick_f | omega | (focus (intros; (try simp only [nc, bytes_empty, if_or, if_and] at *); (try simp only [Bool.not_eq_true] at *); (try simp (disch := omega) only [w64] at *); (first | omega | assumption | ((repeat' (with_reducible apply And.intro)) <;> first | omega | assumption)))))))))))
  all_goals (try rfl)
  · show _ = (v.fields.set (findI v s).toNat (s, x)).length
    rw [w64 (by omega) (by omega), List.length_set]
    have q : findI v s < (v.fields.length : Int) := idxI_lt
    generalize findI v s = z at q hi ⊢
    generalize v.fields = l at q ⊢
    simp only [Int.toNat_zero]; omega
  · intro j hj
    rw [w64 (by omega) (by omega)]
    have q : findI v s < (v.fields.length : Int) := idxI_lt
    refine cat3_le (d := d) (a := (findI v s).toNat) (b := (findI v s).toNat + 1) (j := j) (l := v.fields) (l' := v.fields.set (findI v s).toNat (s, x)) (y := (s, x)) (by simp) (by simp) (fun j _ => ?_) rfl (fun j => ?_) ?_
    · show rowF d (v.fields.getD (Int.toNat 0 + j) default) = _
      rw [Int.toNat_zero, Nat.zero_add]
    · show rowF d (v.fields.getD ((findI v s + 1).toNat + j) default) = _
      rw [show (findI v s + 1).toNat = (findI v s).toNat + 1 by omega]
    · simp only [List.getD_eq_getElem?_getD, List.getElem?_set]
      by_cases h1 : j < (findI v s).toNat
      · rw [if_pos h1, if_neg (by omega)]
      · rw [if_neg h1]
        by_cases h2 : j = (findI v s).toNat
        · rw [if_pos h2.symm, if_pos h2, if_pos (by omega)]; rfl
        · rw [if_neg (fun e => h2 e.symm), if_neg h2, show (findI v s).toNat + 1 + (j - ((findI v s).toNat + 1)) = j by omega]

theorem getD_at {α : Type} [Inhabited α] (l : List α) (i : Nat) (h : i < l.length) : l.getD i default = l[i] := by
  rw [List.getD_eq_getElem?_getD, List.getElem?_eq_getElem h]; rfl

theorem atI_at {v : V} {s : ByteArray} {i : Nat} (h : i ≤ v.fields.length) (h1 : ∀ j, j < i → gtB (v.fields.getD j default).1 s = false) (h2 : v.fields.length ≤ i ∨ gtB (v.fields.getD i default).1 s = true) : atI v s = i := by
  unfold atI
  by_cases q : i = v.fields.length
  · rw [q]
    apply List.findIdx_eq_length.2
    intro y hy
    obtain ⟨j, hj, e⟩ := List.mem_iff_getElem.1 hy
    have := h1 j (by omega)
    rw [getD_at _ _ hj, e] at this
    exact this
  · have hi : i < v.fields.length := by omega
    rw [List.findIdx_eq hi]
    refine ⟨?_, fun j hj => ?_⟩
    · have := h2.resolve_left (by omega)
      rwa [getD_at _ _ hi] at this
    · have := h1 j hj
      rwa [getD_at _ _ (by omega)] at this

theorem atI_cmp {v : V} {s : ByteArray} {i : Nat} (h : i ≤ v.fields.length) (h1 : ∀ j, j < i → gtB (v.fields.getD j default).1 s = false) (h2 : v.fields.length ≤ i ∨ 0 < cmpS (v.fields.getD i default).1 s) : atI v s = i := by
  refine atI_at h h1 (h2.imp_right fun q => ?_)
  by_cases w : gtB (v.fields.getD i default).1 s = true
  · exact w
  · exact absurd (text_le.2 (by simpa using w)) (Int.not_le.2 q)

theorem refWith_ins (d : Nat) (v x : V) (s : ByteArray) (hv : V.le (d + 1) v) (hs : s.size ≤ 35184372088832) (h : withE v s x = 0) (hi : findI v s < 0) :
    AFun Tryd.prog 48 [encV (d + 1) .any fun _ => v, .str fun _ => s, encV d .any fun _ => x] [] (.tup [encV (d + 1) .any fun _ => insV v s x, .int .i64 fun _ => 0]) [] := by
  obtain ⟨h9, hn, hx0, hlim⟩ := withE_zero h
  have hl := hv.2.1
  have hal := atI_le v s
  have hnm : ∀ x ∈ v.fields, x.1.size ≤ 35184372088832 := fun x hx => Nat.le_trans (hv.2.2.2.2 x hx).1 (by decide)
  have hF : AFun Tryd.prog 47 [encV (d + 1) .any fun _ => v, .str fun _ => s] [] (.int .i64 fun _ => findI v s) [] := by
    have := Find_ok d v s hv.2.1
    rwa [if_pos h9] at this
  (apply AFun.of T4_ok mixed4 [.cell 6 25, .tmp 7] kp48 [(1, [(2, .int .i64 (fun _ => findI v s), [])]), (4, [(1, .bool (fun _ => ?_), [])]), (6, [(1, .bool (fun _ => ?_), [])])] Tryd.func48 (fun _ => ?_); (any_goals ((with_reducible refine wk_id ?_); cbv; (try dsimp only [nc] at *); (repeat' (with_reducible first | exact all_nil.2 trivial | exact ob_nil | refine ob_cons ?_ ?_ | refine VC.mk rfl ?_ ?_ ?_ | (refine CondVC.mk ?_ ?_ <;> intro hz <;> (try simp only [if_and] at hz) <;> (try simp only [Bool.and_eq_true, Bool.not_eq_true', Bool.and_eq_false_iff, Bool.not_eq_false', bne_iff_ne, bne_eq_false_iff_eq, dec_t, dec_f, ne_eq, Int.not_lt, Int.not_le] at hz) <;> (revert hz; intro _)) | (refine end_exit ?_; cbv; (try dsimp only [nc] at *)) | (refine end_out ?_; cbv; (try dsimp only [nc] at *)))))))
  (any_goals ((with_reducible first | refine hob_none ?_ | refine hob_some (fun _ => ?_)) <;> exact hF))
  (any_goals ((with_reducible first | refine hob_none ?_ | refine hob_some (fun _ => ?_)) <;> exact (Name_ok s hs)))
  (any_goals ((with_reducible first | refine hob_none ?_ | refine hob_some (fun _ => ?_)) <;> exact (Null_ok d x)))
  (all_goals (try simp only [dec_t] at *))
  all_goals (try first | exact absurd h9 ‹¬v.kind = 9› | exact absurd ‹isName s = false› hn | exact absurd ‹isNull x = true› hx0 | exact absurd ‹0 ≤ findI v s› (by omega) | (rename_i q; rw [if_pos hi] at q; exact absurd (of_decide_eq_true q) (by omega)))
  ((all_goals (try (with_reducible first | (refine end_ret ?_; (focus (cbv; (try dsimp only [nc] at *); (try simp only [all_nil, all_cons, and_true]); (try (repeat' (with_reducible apply And.intro))); (all_goals (try first | rfl | exact fun _ _ => LeL.of_eq rfl | exact LeL.of_eq rfl | trivial | omega))))) | (refine end_normal ?_; (focus (cbv; (try dsimp only [nc] at *); (try simp only [all_nil, all_cons, and_true, true_and, nc]); (try (repeat' (with_reducible apply And.intro))); (all_goals (try first | rfl | exact fun _ _ => LeL.of_eq rfl | exact LeL.of_eq rfl | trivial | omega)))))))); (all_goals (try (focus ((with_reducible rw [all_cons]); (try simp only [all_cons, all_nil, and_true]); (repeat' (with_reducible apply And.intro)); (all_goals (try first | exact fun _ _ h => h | exact fun _ h => h | exact fun h => h | exact pick_t | exact pick_f | omega | (focus (intros; (try simp only [nc, bytes_empty, if_or, if_and] at *); (try simp only [Bool.not_eq_true, beq_true, dec_t] at *); (try simp (disch := omega) only [w64] at *); (first | omega | assumption | ((repeat' (with_reducible apply And.intro)) <;> first | omega | assumption)))))))))))
  refine .loop (fun i : Nat => ⟨82, [(9, .int .i64 fun _ => i), (6, .ptr 6 0), (5, .ptr 5 0), (3, .ptr 3 0), (1, .str fun _ => s)], [(3, .box (cells (d + 1) .any fun _ => v)), (5, .box (cells d .any fun _ => x)), (6, .box (cells 1 .any fun _ => default))]⟩)
    (fun i => i ≤ v.fields.length ∧ ∀ j, j < i → gtB (v.fields.getD j default).1 s = false) (fun i => v.fields.length - i) 0 (by simp) ?_ fun i E hj => ?_
  · (focus (cbv; (try dsimp only [nc] at *); (try simp only [all_nil, all_cons, and_true, true_and]); (try (repeat' (with_reducible apply And.intro))); (all_goals (try first | rfl | exact fun _ _ => LeL.of_eq rfl | exact LeL.of_eq rfl | trivial | omega))))
  apply AWp.wk T4_ok mixed4 [(13, [(13, .int .i64 (fun _ => cmpS (v.fields.getD i default).1 s), [])])] kp48 ?_
  (any_goals ((with_reducible refine wk_id ?_); cbv; (try dsimp only [nc] at *); (repeat' (with_reducible first | exact all_nil.2 trivial | exact ob_nil | refine ob_cons ?_ ?_ | refine VC.mk rfl ?_ ?_ ?_ | (refine CondVC.mk ?_ ?_ <;> intro hz <;> (try simp only [if_and] at hz) <;> (try simp only [Bool.and_eq_true, Bool.and_eq_false_iff, dec_t, dec_f, Int.ofNat_lt, Int.not_le, Nat.not_lt] at hz) <;> (revert hz; intro _)) | (refine end_exit ?_; cbv; (try dsimp only [nc] at *)) | (refine end_out ?_; cbv; (try dsimp only [nc] at *))))))
  any_goals (refine hob_some (fun hz => ?_); refine text_ok _ _ ?_ hs)
  ((all_goals (try (with_reducible first | (refine end_ret ?_; (focus (cbv; (try dsimp only [nc] at *); (try simp only [all_nil, all_cons, and_true]); (try (repeat' (with_reducible apply And.intro))); (all_goals (try first | rfl | exact fun _ _ => LeL.of_eq rfl | exact LeL.of_eq rfl | trivial | omega))))) | (refine end_normal ?_; (focus (cbv; (try dsimp only [nc] at *); (try simp only [all_nil, all_cons, and_true, true_and, nc]); (try (repeat' (with_reducible apply And.intro))); (all_goals (try first | rfl | exact fun _ _ => LeL.of_eq rfl | exact LeL.of_eq rfl | trivial | omega)))))))); (all_goals (try (focus ((with_reducible rw [all_cons]); (try simp only [all_cons, all_nil, and_true]); (repeat' (with_reducible apply And.intro)); (all_goals (try first | exact fun _ _ h => h | exact fun _ h => h | exact fun h => h | exact pick_t | exact pick_f | omega | (focus (intros; (try simp only [nc, bytes_empty, if_or, if_and] at *); (try simp only [Bool.not_eq_true, beq_true, dec_t, Int.ofNat_lt] at *); (try simp (disch := omega) only [w64] at *); (first | omega | assumption | ((repeat' (with_reducible apply And.intro)) <;> first | omega | assumption)))))))))))
  · have := of_decide_eq_true (eq_of_beq hz)
    have : i < v.fields.length := by omega
    rw [Int.toNat_natCast, getD_at _ _ this]
    exact hnm _ (List.getElem_mem _)
  · rename_i q
    refine end_round (i + 1) ⟨⟨by omega, fun j q2 => ?_⟩, by omega⟩ (by (focus (cbv; (try dsimp only [nc] at *); (try simp only [all_nil, all_cons, and_true, true_and]); (try (repeat' (with_reducible apply And.intro))); (all_goals (try first | rfl | exact fun _ _ => LeL.of_eq rfl | exact LeL.of_eq rfl | trivial | omega)))); rw [w64 (by omega) (by omega)]; rfl)
    by_cases w : j < i
    · exact hj.2 j w
    · rw [show j = i by omega]; exact text_le.1 q.2
  all_goals (try rfl)
  · rename_i q
    have e := atI_cmp hj.1 hj.2 q
    show _ = (v.fields.insertIdx (atI v s) (s, x)).length
    rw [e, List.length_insertIdx, if_pos hj.1]
    generalize v.fields = l at hj ⊢
    simp only [Int.toNat_zero, Int.toNat_natCast]; omega
  · rename_i q
    have e := atI_cmp hj.1 hj.2 q
    intro k hk
    refine cat3_le (d := d) (a := i) (b := i) (j := k) (l := v.fields) (l' := v.fields.insertIdx (atI v s) (s, x)) (y := (s, x)) (by simp) (by simp) (fun j _ => ?_) rfl (fun j => ?_) ?_
    · show rowF d (v.fields.getD (Int.toNat 0 + j) default) = _
      rw [Int.toNat_zero, Nat.zero_add]
    · show rowF d (v.fields.getD ((i : Int).toNat + j) default) = _
      rw [Int.toNat_natCast]
    · rw [e]
      simp only [List.getD_eq_getElem?_getD, List.getElem?_insertIdx]
      by_cases h1 : k < i
      · rw [if_pos h1, if_pos h1]
      · rw [if_neg h1, if_neg h1]
        by_cases h2 : k = i
        · rw [if_pos h2, if_pos h2, if_pos (by omega)]; rfl
        · rw [if_neg h2, if_neg h2, show i + (k - (i + 1)) = k - 1 by omega]
end Go.Ai

namespace Go.Ai
open Go Go.Proofs
set_option maxRecDepth 100000
set_option maxHeartbeats 2000000

theorem findI_nat {v : V} {s : ByteArray} (h : 0 ≤ findI v s) : findI v s = (v.fields.findIdx (fun x => decide (x.1 = s)) : Nat) ∧ v.fields.findIdx (fun x => decide (x.1 = s)) < v.fields.length := by
  unfold findI idxI at h ⊢
  split at h
  · rw [if_pos (by assumption)]; exact ⟨rfl, by assumption⟩
  · omega

theorem findI_name {v : V} {s : ByteArray} (h : 0 ≤ findI v s) : (v.fields.getD (findI v s).toNat default).1 = s := by
  obtain ⟨e, q⟩ := findI_nat h
  rw [e, Int.toNat_natCast, getD_at _ _ q]
  have := List.findIdx_getElem (p := fun x : ByteArray × V => decide (x.1 = s)) (xs := v.fields) (w := q)
  exact of_decide_eq_true this

theorem findI_before {v : V} {s : ByteArray} {j : Nat} (h : 0 ≤ findI v s) (hj : j < (findI v s).toNat) : ¬ (v.fields.getD j default).1 = s := by
  obtain ⟨e, q⟩ := findI_nat h
  rw [e, Int.toNat_natCast] at hj
  rw [getD_at _ _ (by omega)]
  have := List.not_of_lt_findIdx hj
  exact of_decide_eq_false this

theorem findI_neg {v : V} {s : ByteArray} (h : findI v s < 0) (x : ByteArray × V) (hx : x ∈ v.fields) : ¬ x.1 = s := by
  unfold findI idxI at h
  split at h
  · omega
  · rename_i q
    have : v.fields.findIdx (fun x => decide (x.1 = s)) = v.fields.length := by have := List.findIdx_le_length (p := fun x : ByteArray × V => decide (x.1 = s)) (xs := v.fields); omega
    exact of_decide_eq_false (List.findIdx_eq_length.1 this x hx)

theorem findI_at {v : V} {s : ByteArray} {i : Nat} (hi : i < v.fields.length) (h : (v.fields.getD i default).1 = s) (h0 : ∀ j, j < i → ¬ (v.fields.getD j default).1 = s) : findI v s = i :=
  idxI_at (df := default) hi (decide_eq_true h) fun j hj => decide_eq_false (h0 j hj)

theorem setFs_fields (v : V) (f : List (ByteArray × V)) : (setFs v f).fields = f := rfl
theorem setFs_kind (v : V) (f : List (ByteArray × V)) : (setFs v f).kind = v.kind := rfl
theorem setFs_same (v : V) : setFs v v.fields = v := by cases v; rfl
theorem setFs_twice (v : V) (f g : List (ByteArray × V)) : setFs (setFs v f) g = setFs v g := rfl

theorem repV_eq {v x : V} {s : ByteArray} (h : 0 ≤ findI v s) : repV v s x = setFs v (v.fields.set (findI v s).toNat (s, x)) := by
  unfold repV; rw [findI_name h]

theorem find_rep {v x : V} {s : ByteArray} (h : 0 ≤ findI v s) : findI (repV v s x) s = findI v s := by
  obtain ⟨e, q⟩ := findI_nat h
  rw [repV_eq h]
  have hq : (findI v s).toNat < v.fields.length := by omega
  have hb := fun j => findI_before (j := j) h
  obtain ⟨i, hi⟩ : ∃ i, i = (findI v s).toNat := ⟨_, rfl⟩
  rw [← hi] at hq hb ⊢
  rw [show findI v s = (i : Int) by omega]
  refine findI_at (by rw [setFs_fields, List.length_set]; exact hq) ?_ fun j hj => ?_
  · rw [setFs_fields, List.getD_eq_getElem?_getD, List.getElem?_set, if_pos rfl, if_pos hq]; rfl
  · rw [setFs_fields, List.getD_eq_getElem?_getD, List.getElem?_set, if_neg (by omega), ← List.getD_eq_getElem?_getD]; exact hb j hj

theorem field_rep {v x : V} {s : ByteArray} (h : 0 ≤ findI v s) : fieldV (repV v s x) s = x := by
  unfold fieldV
  obtain ⟨e, q⟩ := findI_nat h
  rw [find_rep h, repV_eq h, setFs_fields, List.getD_eq_getElem?_getD, List.getElem?_set, if_pos rfl, if_pos (by omega)]; rfl

theorem atI_gt {v : V} {s : ByteArray} {j : Nat} (hj : j < atI v s) : gtB (v.fields.getD j default).1 s = false := by
  have := atI_le v s
  rw [getD_at _ _ (by omega)]
  simpa using List.not_of_lt_findIdx hj

theorem find_ins {v x : V} {s : ByteArray} (h : findI v s < 0) : findI (insV v s x) s = atI v s := by
  have ha := atI_le v s
  have hl : (v.fields.insertIdx (atI v s) (s, x)).length = v.fields.length + 1 := by rw [List.length_insertIdx, if_pos ha]
  refine findI_at (by show _ < (v.fields.insertIdx (atI v s) (s, x)).length; omega) ?_ fun j hj => ?_
  · show ((v.fields.insertIdx (atI v s) (s, x)).getD _ default).1 = s
    rw [List.getD_eq_getElem?_getD, List.getElem?_insertIdx, if_neg (by omega), if_pos rfl, if_pos (by omega)]; rfl
  · show ¬ ((v.fields.insertIdx (atI v s) (s, x)).getD _ default).1 = s
    rw [List.getD_eq_getElem?_getD, List.getElem?_insertIdx, if_pos (by omega), ← List.getD_eq_getElem?_getD, getD_at _ _ (by omega)]
    exact findI_neg h _ (List.getElem_mem _)

theorem field_ins {v x : V} {s : ByteArray} (h : findI v s < 0) : fieldV (insV v s x) s = x := by
  have ha := atI_le v s
  unfold fieldV
  rw [find_ins h, Int.toNat_natCast]
  show ((v.fields.insertIdx (atI v s) (s, x)).getD _ default).2 = x
  rw [List.getD_eq_getElem?_getD, List.getElem?_insertIdx, if_neg (by omega), if_pos rfl, if_pos (by omega)]; rfl

theorem del_ins {v x : V} {s : ByteArray} (h : findI v s < 0) : delV (insV v s x) s = v := by
  unfold delV
  rw [find_ins h, Int.toNat_natCast]
  show setFs v ((v.fields.insertIdx (atI v s) (s, x)).eraseIdx (atI v s)) = v
  rw [List.eraseIdx_insertIdx_self, setFs_same]

theorem repV_le {d : Nat} {v x : V} {s : ByteArray} (hv : V.le (d + 1) v) (hx : V.le d x) (hs : s.size ≤ 1073741824) (h : 0 ≤ findI v s) : V.le (d + 1) (repV v s x) := by
  rw [repV_eq h]
  refine ⟨hv.1, ?_, hv.2.2.1, hv.2.2.2.1, fun y hy => ?_⟩
  · rw [setFs_fields, List.length_set]; exact hv.2.1
  · rw [setFs_fields] at hy
    rcases List.mem_or_eq_of_mem_set hy with q | rfl
    · exact hv.2.2.2.2 y q
    · exact ⟨hs, hx⟩

theorem insV_le {d : Nat} {v x : V} {s : ByteArray} (hv : V.le (d + 1) v) (hx : V.le d x) (hs : s.size ≤ 1073741824) (hl : v.fields.length < 64) : V.le (d + 1) (insV v s x) := by
  have ha := atI_le v s
  refine ⟨hv.1, ?_, hv.2.2.1, hv.2.2.2.1, fun y hy => ?_⟩
  · show (v.fields.insertIdx (atI v s) (s, x)).length ≤ _
    rw [List.length_insertIdx, if_pos ha]; omega
  · rcases (List.mem_insertIdx ha).1 hy with rfl | q
    · exact ⟨hs, hx⟩
    · exact hv.2.2.2.2 y q

theorem delV_le {d : Nat} {v : V} {s : ByteArray} (hv : V.le (d + 1) v) : V.le (d + 1) (delV v s) := by
  refine ⟨hv.1, ?_, hv.2.2.1, hv.2.2.2.1, fun y hy => hv.2.2.2.2 y (List.eraseIdx_sublist _ _ |>.subset hy)⟩
  show (v.fields.eraseIdx _).length ≤ _
  have := (List.eraseIdx_sublist v.fields (findI v s).toNat).length_le
  have := hv.2.1
  omega

theorem same_ok (d : Nat) (a : V) (ha : V.le d a) : AFun Tryd.prog 26 [encV d .any fun _ => a, encV d .any fun _ => a] [] (.bool fun _ => true) [] := by
  have := refEqual_ok d a a ha ha
  rw [(cmpV_cmp d).refl] at this
  exact this

theorem def_le (d : Nat) : V.le (d + 1) default := mkV_le 0 0 0 ⟨#[]⟩ (by decide) d

theorem law_sets (d : Nat) (v x : V) (s : ByteArray) (hv : V.le (d + 1) v) (hx : V.le d x) (hs : s.size ≤ 1048576) : AFun Tryd.prog 13 [encV (d + 1) .any fun _ => v, .str fun _ => s, encV d .any fun _ => x] [] (.bool fun _ => true) [] := by
  by_cases h : withE v s x = 0
  · obtain ⟨h9, hn, hx0, hlim⟩ := withE_zero h
    have hF := Find_ok d v s hv.2.1
    rw [if_pos h9] at hF
    by_cases hi : findI v s < 0
    · have hl : v.fields.length < 64 := by omega
      have hw := insV_le (s := s) hv hx (by omega) hl
      have hA := With_ins d v x s hv hx (by omega) h hi
      have hB := refWith_ins d v x s hv (by omega) h hi
      have hG := Field_yes d (insV v s x) hw s ⟨h9, by rw [find_ins hi]; omega⟩
      have hD := Without_yes d (insV v s x) s hw (by unfold withoutE; rw [if_neg (by simpa [insV, setFs_kind] using h9), if_neg (by rw [find_ins hi]; omega)])
      rw [field_ins hi] at hG
      rw [del_ins hi] at hD
      generalize insV v s x = w at hw hA hB hG hD
      (apply AFun.of T4_ok mixed4 [.tmp 6] kp13 [(1, [(3, hA.out)]), (2, [(3, hB.out)]), (3, [(0, known_ok.out), (10, .bool (fun _ => true), [])]), (7, [(2, hG.out)]), (8, [(2, hD.out)]), (9, [(4, .bool (fun _ => true), []), (13, hF.out), (18, .bool (fun _ => true), [])])] Tryd.func13 (fun _ => ?_); (any_goals ((with_reducible refine wk_id ?_); cbv; (try dsimp only [nc] at *); (repeat' (with_reducible first | exact all_nil.2 trivial | exact ob_nil | refine ob_cons ?_ ?_ | refine VC.mk rfl ?_ ?_ ?_ | (refine CondVC.mk ?_ ?_ <;> intro hz <;> (try simp only [if_or] at hz) <;> (try simp only [Bool.true_eq_false, Bool.or_eq_true, Bool.not_eq_true', Bool.or_eq_false_iff, Bool.not_eq_false', bne_iff_ne, bne_eq_false_iff_eq, ne_eq] at hz) <;> (revert hz; intro _)) | (refine end_exit ?_; cbv; (try dsimp only [nc] at *)) | (refine end_out ?_; cbv; (try dsimp only [nc] at *)))))))
      (any_goals ((with_reducible first | refine hob_none ?_ | refine hob_some (fun _ => ?_)) <;> exact hA))
      (any_goals ((with_reducible first | refine hob_none ?_ | refine hob_some (fun _ => ?_)) <;> exact hB))
      (any_goals ((with_reducible first | refine hob_none ?_ | refine hob_some (fun _ => ?_)) <;> exact known_ok))
      any_goals (first | ((with_reducible first | refine hob_none ?_ | refine hob_some (fun _ => ?_)); (try dsimp only); refine AFun.weak_in (same_ok (d + 1) w hw) ?_; (focus (cbv; (try dsimp only [nc] at *); (try simp only [all_nil, all_cons, and_true, true_and]); (try (repeat' (with_reducible apply And.intro))); (all_goals (try first | rfl | exact fun _ _ => LeL.of_eq rfl | exact LeL.of_eq rfl | trivial | omega)))); all_goals (try exact fun i _ => le_sub _ _ _ _); done) | fail)
      (any_goals ((with_reducible first | refine hob_none ?_ | refine hob_some (fun _ => ?_)); (try dsimp only); (refine AFun.weak_in hG ?_); (focus (cbv; (try dsimp only [nc] at *); (try simp only [all_nil, all_cons, and_true, true_and]); (try (repeat' (with_reducible apply And.intro))); (all_goals (try first | rfl | exact fun _ _ => LeL.of_eq rfl | exact LeL.of_eq rfl | trivial | omega))))))
      (any_goals ((with_reducible first | refine hob_none ?_ | refine hob_some (fun _ => ?_)); (try dsimp only); (refine AFun.weak_in hD ?_); (focus (cbv; (try dsimp only [nc] at *); (try simp only [all_nil, all_cons, and_true, true_and]); (try (repeat' (with_reducible apply And.intro))); (all_goals (try first | rfl | exact fun _ _ => LeL.of_eq rfl | exact LeL.of_eq rfl | trivial | omega))))))
      any_goals (first | ((with_reducible first | refine hob_none ?_ | refine hob_some (fun _ => ?_)); (try dsimp only); refine AFun.weak_in (same_ok d x hx) ?_; (focus (cbv; (try dsimp only [nc] at *); (try simp only [all_nil, all_cons, and_true, true_and]); (try (repeat' (with_reducible apply And.intro))); (all_goals (try first | rfl | exact fun _ _ => LeL.of_eq rfl | exact LeL.of_eq rfl | trivial | omega)))); all_goals (try exact fun i _ => le_sub _ _ _ _); done) | fail)
      (any_goals ((with_reducible first | refine hob_none ?_ | refine hob_some (fun _ => ?_)) <;> exact hF))
      any_goals (first | ((with_reducible first | refine hob_none ?_ | refine hob_some (fun _ => ?_)); (try dsimp only); refine AFun.weak_in (same_ok (d + 1) v hv) ?_; (focus (cbv; (try dsimp only [nc] at *); (try simp only [all_nil, all_cons, and_true, true_and]); (try (repeat' (with_reducible apply And.intro))); (all_goals (try first | rfl | exact fun _ _ => LeL.of_eq rfl | exact LeL.of_eq rfl | trivial | omega)))); all_goals (try exact fun i _ => le_sub _ _ _ _); done) | fail)
      all_goals (try exact fun i _ => le_sub _ _ _ _)
      ((all_goals (try (with_reducible first | (refine end_ret ?_; (focus (cbv; (try dsimp only [nc] at *); (try simp only [all_nil, all_cons, and_true]); (try (repeat' (with_reducible apply And.intro))); (all_goals (try first | rfl | exact fun _ _ => LeL.of_eq rfl | exact LeL.of_eq rfl | trivial | omega))))) | (refine end_normal ?_; (focus (cbv; (try dsimp only [nc] at *); (try simp only [all_nil, all_cons, and_true, true_and, nc]); (try (repeat' (with_reducible apply And.intro))); (all_goals (try first | rfl | exact fun _ _ => LeL.of_eq rfl | exact LeL.of_eq rfl | trivial | omega)))))))); (all_goals (try (focus ((with_reducible rw [all_cons]); (try simp only [all_cons, all_nil, and_true]); (repeat' (with_reducible apply And.intro)); (all_goals (try first | exact fun _ _ h => h | exact fun _ h => h | exact fun h => h | exact pick_t | exact pick_f | omega | (focus (intros; (try simp only [if_and] at *); (try simp only [Bool.and_eq_true, Bool.not_eq_true', Bool.not_eq_true, beq_iff_eq, beq_true, beq_false, dec_f, Int.not_le] at *); (try simp (disch := omega) only [w64] at *); (first | omega | assumption | ((repeat' (with_reducible apply And.intro)) <;> first | omega | assumption)))))))))))
      all_goals simp
    · have hw := repV_le (s := s) hv hx (by omega) (by omega)
      have hA := With_rep d v x s hv hx (by omega) h (by omega)
      have hB := refWith_rep d v x s hv (by omega) h (by omega)
      rw [← repV_eq (by omega)] at hB
      have hfi : 0 ≤ findI v s := by omega
      have hG := Field_yes d (repV v s x) hw s ⟨h9, by rw [find_rep hfi]; exact hfi⟩
      have hD := Without_yes d (repV v s x) s hw (by unfold withoutE; rw [if_neg (by simpa [repV, setFs_kind] using h9), if_neg (by rw [find_rep hfi]; exact hi)])
      rw [field_rep hfi] at hG
      generalize delV (repV v s x) s = y at hD
      generalize repV v s x = w at hw hA hB hG hD
      (apply AFun.of T4_ok mixed4 [.tmp 6] kp13 [(1, [(3, hA.out)]), (2, [(3, hB.out)]), (3, [(0, known_ok.out), (10, .bool (fun _ => true), [])]), (7, [(2, hG.out)]), (8, [(2, hD.out)]), (9, [(4, .bool (fun _ => true), []), (13, hF.out), (18, .bool (fun _ => true), [])])] Tryd.func13 (fun _ => ?_); (any_goals ((with_reducible refine wk_id ?_); cbv; (try dsimp only [nc] at *); (repeat' (with_reducible first | exact all_nil.2 trivial | exact ob_nil | refine ob_cons ?_ ?_ | refine VC.mk rfl ?_ ?_ ?_ | (refine CondVC.mk ?_ ?_ <;> intro hz <;> (try simp only [if_or] at hz) <;> (try simp only [Bool.true_eq_false, Bool.or_eq_true, Bool.not_eq_true', Bool.or_eq_false_iff, Bool.not_eq_false', bne_iff_ne, bne_eq_false_iff_eq, ne_eq] at hz) <;> (revert hz; intro _)) | (refine end_exit ?_; cbv; (try dsimp only [nc] at *)) | (refine end_out ?_; cbv; (try dsimp only [nc] at *)))))))
      (any_goals ((with_reducible first | refine hob_none ?_ | refine hob_some (fun _ => ?_)) <;> exact hA))
      (any_goals ((with_reducible first | refine hob_none ?_ | refine hob_some (fun _ => ?_)) <;> exact hB))
      (any_goals ((with_reducible first | refine hob_none ?_ | refine hob_some (fun _ => ?_)) <;> exact known_ok))
      any_goals (first | ((with_reducible first | refine hob_none ?_ | refine hob_some (fun _ => ?_)); (try dsimp only); refine AFun.weak_in (same_ok (d + 1) w hw) ?_; (focus (cbv; (try dsimp only [nc] at *); (try simp only [all_nil, all_cons, and_true, true_and]); (try (repeat' (with_reducible apply And.intro))); (all_goals (try first | rfl | exact fun _ _ => LeL.of_eq rfl | exact LeL.of_eq rfl | trivial | omega)))); all_goals (try exact fun i _ => le_sub _ _ _ _); done) | fail)
      (any_goals ((with_reducible first | refine hob_none ?_ | refine hob_some (fun _ => ?_)); (try dsimp only); (refine AFun.weak_in hG ?_); (focus (cbv; (try dsimp only [nc] at *); (try simp only [all_nil, all_cons, and_true, true_and]); (try (repeat' (with_reducible apply And.intro))); (all_goals (try first | rfl | exact fun _ _ => LeL.of_eq rfl | exact LeL.of_eq rfl | trivial | omega))))))
      (any_goals ((with_reducible first | refine hob_none ?_ | refine hob_some (fun _ => ?_)); (try dsimp only); (refine AFun.weak_in hD ?_); (focus (cbv; (try dsimp only [nc] at *); (try simp only [all_nil, all_cons, and_true, true_and]); (try (repeat' (with_reducible apply And.intro))); (all_goals (try first | rfl | exact fun _ _ => LeL.of_eq rfl | exact LeL.of_eq rfl | trivial | omega))))))
      any_goals (first | ((with_reducible first | refine hob_none ?_ | refine hob_some (fun _ => ?_)); (try dsimp only); refine AFun.weak_in (same_ok d x hx) ?_; (focus (cbv; (try dsimp only [nc] at *); (try simp only [all_nil, all_cons, and_true, true_and]); (try (repeat' (with_reducible apply And.intro))); (all_goals (try first | rfl | exact fun _ _ => LeL.of_eq rfl | exact LeL.of_eq rfl | trivial | omega)))); all_goals (try exact fun i _ => le_sub _ _ _ _); done) | fail)
      (any_goals ((with_reducible first | refine hob_none ?_ | refine hob_some (fun _ => ?_)) <;> exact hF))
      any_goals (refine hob_some (fun hz => ?_); exact absurd hz (by rw [decide_eq_true hfi]; decide))
      all_goals (try exact fun i _ => le_sub _ _ _ _)
      ((all_goals (try (with_reducible first | (refine end_ret ?_; (focus (cbv; (try dsimp only [nc] at *); (try simp only [all_nil, all_cons, and_true]); (try (repeat' (with_reducible apply And.intro))); (all_goals (try first | rfl | exact fun _ _ => LeL.of_eq rfl | exact LeL.of_eq rfl | trivial | omega))))) | (refine end_normal ?_; (focus (cbv; (try dsimp only [nc] at *); (try simp only [all_nil, all_cons, and_true, true_and, nc]); (try (repeat' (with_reducible apply And.intro))); (all_goals (try first | rfl | exact fun _ _ => LeL.of_eq rfl | exact LeL.of_eq rfl | trivial | omega)))))))); (all_goals (try (focus ((with_reducible rw [all_cons]); (try simp only [all_cons, all_nil, and_true]); (repeat' (with_reducible apply And.intro)); (all_goals (try first | exact fun _ _ h => h | exact fun _ h => h | exact fun h => h | exact pick_t | exact pick_f | omega | (focus (intros; (try simp only [if_and] at *); (try simp only [Bool.and_eq_true, Bool.not_eq_true', Bool.not_eq_true, beq_iff_eq, beq_true, beq_false, dec_f, Int.not_lt, Int.not_le] at *); (try simp (disch := omega) only [w64] at *); (first | omega | assumption | ((repeat' (with_reducible apply And.intro)) <;> first | omega | assumption)))))))))))
      all_goals simp
  · have hA := With_err d d v x s hv (by omega) h
    have hB := refWith_err d d v x s hv (by omega) h
    generalize withE v s x = e at h hA hB
    (apply AFun.of T4_ok mixed4 [.tmp 6] kp13 [(1, [(3, hA.out)]), (2, [(3, hB.out)]), (3, [(0, known_ok.out), (10, .bool (fun _ => true), [])]), (7, [(2, .tup [encV d .new fun _ => default, .bool fun _ => false], [])]), (8, [(2, .tup [encV (d + 1) .new fun _ => default, .int .i64 fun _ => 0], [])]), (9, [(4, .bool (fun _ => false), []), (13, .int .i64 fun _ => 0, []), (18, .bool (fun _ => false), [])])] Tryd.func13 (fun _ => ?_); (any_goals ((with_reducible refine wk_id ?_); cbv; (try dsimp only [nc] at *); (repeat' (with_reducible first | exact all_nil.2 trivial | exact ob_nil | refine ob_cons ?_ ?_ | refine VC.mk rfl ?_ ?_ ?_ | (refine CondVC.mk ?_ ?_ <;> intro hz <;> (try simp only [if_or] at hz) <;> (try simp only [Bool.true_eq_false, Bool.or_eq_true, Bool.not_eq_true', Bool.or_eq_false_iff, Bool.not_eq_false', bne_iff_ne, bne_eq_false_iff_eq, ne_eq] at hz) <;> (revert hz; intro _)) | (refine end_exit ?_; cbv; (try dsimp only [nc] at *)) | (refine end_out ?_; cbv; (try dsimp only [nc] at *)))))))
    (any_goals ((with_reducible first | refine hob_none ?_ | refine hob_some (fun _ => ?_)) <;> exact hA))
    (any_goals ((with_reducible first | refine hob_none ?_ | refine hob_some (fun _ => ?_)) <;> exact hB))
    (any_goals ((with_reducible first | refine hob_none ?_ | refine hob_some (fun _ => ?_)) <;> exact known_ok))
    (any_goals ((with_reducible first | refine hob_none ?_ | refine hob_some (fun _ => ?_)); (try dsimp only); (refine AFun.weak_in (same_ok (d + 1) default (def_le d)) ?_); (focus (cbv; (try dsimp only [nc] at *); (try simp only [all_nil, all_cons, and_true, true_and]); (try (repeat' (with_reducible apply And.intro))); (all_goals (try first | rfl | exact fun _ _ => LeL.of_eq rfl | exact LeL.of_eq rfl | trivial | omega))))))
    (all_goals (try simp only [dec_t, dec_f, Int.not_le] at *))
    all_goals (try exact (h (by assumption)).elim)
    all_goals (try exact fun i _ => le_sub _ _ _ _)
    ((all_goals (try (with_reducible first | (refine end_ret ?_; (focus (cbv; (try dsimp only [nc] at *); (try simp only [all_nil, all_cons, and_true]); (try (repeat' (with_reducible apply And.intro))); (all_goals (try first | rfl | exact fun _ _ => LeL.of_eq rfl | exact LeL.of_eq rfl | trivial | omega))))) | (refine end_normal ?_; (focus (cbv; (try dsimp only [nc] at *); (try simp only [all_nil, all_cons, and_true, true_and, nc]); (try (repeat' (with_reducible apply And.intro))); (all_goals (try first | rfl | exact fun _ _ => LeL.of_eq rfl | exact LeL.of_eq rfl | trivial | omega)))))))); (all_goals (try (focus ((with_reducible rw [all_cons]); (try simp only [all_cons, all_nil, and_true]); (repeat' (with_reducible apply And.intro)); (all_goals (try first | exact fun _ _ h => h | exact fun _ h => h | exact fun h => h | exact pick_t | exact pick_f | omega | (focus (intros; (try simp only [nc, bytes_empty, if_or, if_and] at *); (try simp only [Bool.false_eq_true, Bool.true_eq_false, Bool.and_eq_true, Bool.or_eq_true, Bool.not_eq_true', Bool.not_eq_true, Bool.and_eq_false_iff, Bool.or_eq_false_iff, Bool.not_eq_false', beq_iff_eq, beq_eq_false_iff_ne, bne_iff_ne, bne_eq_false_iff_eq, beq_true, beq_false, dec_t, dec_f, ne_eq, Decidable.not_not, Int.ofNat_lt, Int.ofNat_le, Int.toNat_natCast, Int.not_lt, Int.not_le, Nat.not_lt, Nat.not_le] at *); (try simp (disch := omega) only [w64] at *); (first | omega | assumption | ((repeat' (with_reducible apply And.intro)) <;> first | omega | assumption)))))))))))
end Go.Ai
