/- Chapter 4: values that are made of values. -/
import Derived.Test.YtlplmdipoacnlaaGreatDoorFnD
set_option linter.all false
namespace Go.Ai
open Go Go.Proofs
set_option maxRecDepth 100000
set_option maxHeartbeats 2000000
theorem cellsG_all {Q : AV → Prop} {fr : FB} {v : Unit → V} {L F : (Unit → Nat) → List AV} (hi : ∀ k n, Q (.int k n)) (hs : ∀ s, Q (.str s)) (hl : Q (.slc fr 6 (fun _ => (v ()).list.length) L)) (hf : Q (.slc fr 7 (fun _ => (v ()).fields.length) F)) : ∀ av ∈ cellsG fr v L F, Q av := by
  intro av h
  simp only [cellsG, List.mem_cons, List.not_mem_nil, or_false] at h
  rcases h with rfl | rfl | rfl | rfl | rfl | rfl
  · exact hi _ _
  · exact hi _ _
  · exact hi _ _
  · exact hs _
  · exact hl
  · exact hf
theorem nf_cells : ∀ (d : Nat) (v : Unit → V), ∀ av ∈ cells d .any v, NF av
  | 0, v => cellsG_all NF.int NF.str (.slc fun _ _ av h => by simp [sub] at h) (.slc fun _ _ av h => by simp [sub] at h)
  | d + 1, v => cellsG_all NF.int NF.str (.slc fun _ _ av h => nf_cells d _ av h) (.slc fun _ _ av h => by
      rcases List.mem_cons.1 h with rfl | h
      · exact .str _
      · exact nf_cells d _ av h)
theorem nf_encV (d : Nat) (v : Unit → V) : NF (encV d .any v) := .agg (nf_cells d v)
theorem le_cells : ∀ (d : Nat) (v : Unit → V), LeL (cells d .new v) (cells d .any v) := by
  have key : ∀ (d : Nat) (v : Unit → V) (w : World) (D : Nat → Prop) (B j : Nat) (av av' : AV) (u : Value), (cells d .new v)[j]? = some av → (cells d .any v)[j]? = some av' → RD w D B av u → RD w D B av' u := by
    intro d
    induction d with
    | zero =>
      intro v w D B j av av' u h1 h2 h
      match j with
      | 0 | 1 | 2 | 3 => simp [cells, cellsG] at h1 h2; subst h1; subst h2; exact h
      | 4 =>
        simp [cells, cellsG] at h1 h2; subst h1; subst h2
        exact rd_slc h (fun _ _ => trivial) rfl fun i hi => LeL.of_eq rfl
      | 5 =>
        simp [cells, cellsG] at h1 h2; subst h1; subst h2
        exact rd_slc h (fun _ _ => trivial) rfl fun i hi => LeL.of_eq rfl
      | n + 6 => simp [cells, cellsG] at h1
    | succ d ih =>
      intro v w D B j av av' u h1 h2 h
      match j with
      | 0 | 1 | 2 | 3 => simp [cells, cellsG] at h1 h2; subst h1; subst h2; exact h
      | 4 =>
        simp [cells, cellsG] at h1 h2; subst h1; subst h2
        exact rd_slc h (fun _ _ => trivial) rfl fun i hi => ⟨rfl, fun _ => rfl, fun w D B j av av' u h1 h2 h => ih _ w D B j av av' u h1 h2 h⟩
      | 5 =>
        simp [cells, cellsG] at h1 h2; subst h1; subst h2
        refine rd_slc h (fun _ _ => trivial) rfl fun i hi => ⟨rfl, fun _ => rfl, fun w D B j av av' u h1 h2 h => ?_⟩
        cases j with
        | zero => simp [sub] at h1 h2; subst h1; subst h2; exact h
        | succ j => exact ih _ w D B j av av' u h1 h2 h
      | n + 6 => simp [cells, cellsG] at h1
  exact fun d v => ⟨rfl, fun _ => rfl, fun w D B j av av' u h1 h2 h => key d v w D B j av av' u h1 h2 h⟩
theorem idxI_any {α : Type} {p : α → Bool} {l : List α} : decide (0 ≤ idxI p l) = l.any p := by
  unfold idxI
  rw [Bool.eq_iff_iff, decide_eq_true_eq, List.any_eq_true, ← List.findIdx_lt_length]
  split <;> omega
theorem len_bytes (a : ByteArray) : a.data.toList.length = a.size := Array.length_toList ..
end Go.Ai

namespace Go.Ai
open Go Go.Proofs
set_option maxRecDepth 100000
set_option maxHeartbeats 2000000
theorem catN_le {d i : Nat} {l : List V} {F g : (Unit → Nat) → List AV} (hF : ∀ k, k < i → LeL (F fun _ => k) (cells d .any fun _ => l.getD k default)) (hg : LeL (g fun _ => 0) (cells d .any fun _ => l.getD i default)) :
    ∀ k, k < i + 1 → LeL (catF (fun _ => i) F g fun _ => k) (listF d .any (fun _ => l) fun _ => k) :=
  cat_le (n := fun _ => i) (m := 1) (fun k hk => hF k hk) fun k hk => by
    have : k = 0 := by omega
    subst this
    exact hg
theorem refParts_ok (d : Nat) (v : V) (hv : V.le (d + 1) v) : AFun Tryz.prog 71 [encV (d + 1) .any fun _ => v] [] (slcV d .any fun _ => kids v) [] := by
  have h1 := hv.1
  have h2 := hv.2.1
  (apply AFun.of T4_ok mixed4 [.tmp 2] kp71 [] Tryz.func71 (fun _ => ?_); (any_goals ((with_reducible refine wk_id ?_); cbv; (try dsimp only [nc] at *); (repeat' (with_reducible first | exact all_nil.2 trivial | exact ob_nil | refine ob_cons ?_ ?_ | refine VC.mk rfl ?_ ?_ ?_ | refine CondAny.mk (fun _ => ?_) (fun _ => ?_) | (refine CondVC.mk ?_ ?_ <;> intro zq <;> (try simp only [nc, cl] at zq) <;> (try simp only [bl, dl] at zq) <;> (revert zq; intro _)) | ((first | refine end_exit ?_ | refine end_out ?_); cbv; (try dsimp only [nc] at *)))))))
  all_goals (try exact absurd ‹v.kind = 8› ‹¬v.kind = 8›)
  ((all_goals (try (with_reducible ((first | refine end_ret ?_ | refine end_normal ?_); (focus (cbv; (try dsimp only [nc] at *); (try simp only [wl, nc]); (repeat' (with_reducible apply And.intro)); all_goals (try first | rfl | exact fun _ _ => lr rfl | exact lr rfl | trivial | omega))))))); (all_goals (try ((with_reducible rw [all_cons]); (try simp only [wl, nc]); (repeat' (with_reducible apply And.intro)); (all_goals (try first | exact True.intro | exact fun _ _ h => h | exact fun _ h => h | exact fun h => h | exact pick_t | exact pick_f | omega | (focus (intros; (try simp only [nc, cl] at *); (try simp only [bl, el, dl] at *); (try simp (disch := omega) only [w64] at *); (first | omega | assumption | ((repeat' (with_reducible apply And.intro)) <;> first | omega | assumption))))))))))
  · simp [kids, ‹v.kind = 8›]
  · intro i hi
    exact cells_eq (by simp [kids, ‹v.kind = 8›])
  · simp [kids, ‹v.kind = 10›]
  · intro i hi
    exact cells_eq (by simp [kids, ‹v.kind = 10›])
  · rename_i k8 k10 k9
    have hk : kids v = v.fields.map (·.2) := by simp [kids, k9]
    have hg : ∀ j, (kids v).getD j default = (v.fields.getD j default).2 := fun j => by
      rw [hk]
      simp only [List.getD_eq_getElem?_getD, List.getElem?_map]
      cases v.fields[j]? <;> rfl
    refine .loop (fun i : Nat => ⟨33, [(4, .int .i64 fun _ => i), (3, .aref 31 0 fun _ => i), (1, .ptr 1 0)], [(1, .box (cells (d + 1) .any fun _ => v)), (31, .arr false 30 6 0 (fun _ => i) (listF d .any fun _ => kids v))]⟩)
      (fun i => i ≤ v.fields.length) (fun i => v.fields.length - i) 0 (by simp) ?_ fun i E hi => ?_
    · (focus (cbv; (try dsimp only [nc] at *); (try simp only [wl, nc]); (repeat' (with_reducible apply And.intro)); all_goals (try first | rfl | exact fun _ _ => lr rfl | exact lr rfl | trivial | omega)))
    apply AWp.wk T4_ok mixed4 [] kp71 ?_
    (any_goals ((with_reducible refine wk_id ?_); cbv; (try dsimp only [nc] at *); (repeat' (with_reducible first | exact all_nil.2 trivial | exact ob_nil | refine ob_cons ?_ ?_ | refine VC.mk rfl ?_ ?_ ?_ | refine CondAny.mk (fun _ => ?_) (fun _ => ?_) | (refine CondVC.mk ?_ ?_ <;> intro zq <;> (try simp only [nc, cl] at zq) <;> (try simp only [bl, dl] at zq) <;> (revert zq; intro _)) | ((first | refine end_exit ?_ | refine end_out ?_); cbv; (try dsimp only [nc] at *))))))
    ((all_goals (try (with_reducible ((first | refine end_ret ?_ | refine end_normal ?_); (focus (cbv; (try dsimp only [nc] at *); (try simp only [wl, nc]); (repeat' (with_reducible apply And.intro)); all_goals (try first | rfl | exact fun _ _ => lr rfl | exact lr rfl | trivial | omega))))))); (all_goals (try ((with_reducible rw [all_cons]); (try simp only [wl, nc]); (repeat' (with_reducible apply And.intro)); (all_goals (try first | exact True.intro | exact fun _ _ h => h | exact fun _ h => h | exact fun h => h | exact pick_t | exact pick_f | omega | (focus (intros; (try simp only [nc, cl] at *); (try simp only [bl, el, dl] at *); (try simp (disch := omega) only [w64] at *); (first | omega | assumption | ((repeat' (with_reducible apply And.intro)) <;> first | omega | assumption))))))))))
    · refine end_round (i + 1) ⟨by omega, by omega⟩ ?_
      (focus (cbv; (try dsimp only [nc] at *); (try simp only [wl, nc]); (repeat' (with_reducible apply And.intro)); all_goals (try first | rfl | exact fun _ _ => lr rfl | exact lr rfl | trivial | omega)))
      · exact w64n (by omega)
      · exact catN_le (fun k hk => LeL.of_eq rfl) (cells_eq (hg i).symm)
    · rw [hk]; simp; omega
  · simp [kids, *]
theorem uses_scale {v : V} (h : usesB v = true) (hk : v.kind ≠ 3) : v.scale = 0 := by
  simp only [usesB, Bool.and_eq_true, Bool.or_eq_true, beq_iff_eq] at h
  exact h.1.1.1.2.resolve_left hk
theorem Own_ok (vs : ByteArray → Bool) (d : Nat) (v : V) (hv : V.le (d + 1) v) (hV : AFun Tryz.prog 105 [.str fun _ => v.text] [] (.bool fun _ => vs v.text) []) : AFun Tryz.prog 70 [encV (d + 1) .any fun _ => v] [] (.int .i64 fun _ => ownE vs v) [] := by
  have ht : v.text.size ≤ 35184372088832 := Nat.le_trans hv.2.2.1 (by decide)
  have hf : ∀ x ∈ v.fields, x.1.size ≤ 35184372088832 := fun x hx => Nat.le_trans (hv.2.2.2.2 x hx).1 (by decide)
  (apply AFun.of T4_ok mixed4 [.tmp 2] kp70 [(1, [(1, .bool (fun _ => ?_), [])]), (5, [(1, .bool (fun _ => ?_), [])]), (15, [(2, .bool (fun _ => ?_), [])]), (19, [(2, .bool (fun _ => ?_), []), (6, .bool (fun _ => ?_), [])]),
    (25, [(6, .bool (fun _ => ?_), [])]), (28, [(2, .bool (fun _ => ?_), [])]), (31, [(2, .bool (fun _ => ?_), [])]), (37, [(2, .int .i64 (fun _ => ?_), [])]), (8, [(2, .bool (fun _ => ?_), [])])] Tryz.func70 (fun _ => ?_); (any_goals ((with_reducible refine wk_id ?_); cbv; (try dsimp only [nc] at *); (repeat' (with_reducible first | exact all_nil.2 trivial | exact ob_nil | refine ob_cons ?_ ?_ | refine VC.mk rfl ?_ ?_ ?_ | refine CondAny.mk (fun _ => ?_) (fun _ => ?_) | (refine CondVC.mk ?_ ?_ <;> intro zq <;> (try simp only [nc, cl] at zq) <;> (try simp only [bl, dl] at zq) <;> (revert zq; intro _)) | ((first | refine end_exit ?_ | refine end_out ?_); cbv; (try dsimp only [nc] at *)))))))
  (any_goals ((with_reducible first | refine hob_none ?_ | refine hob_some (fun _ => ?_)) <;> exact (Null_ok (d + 1) v)))
  (any_goals ((with_reducible first | refine hob_none ?_ | refine hob_some (fun _ => ?_)) <;> exact (unused_ok (d + 1) v)))
  (any_goals ((with_reducible first | refine hob_none ?_ | refine hob_some (fun _ => ?_)) <;> exact (outside_ok _ _ _)))
  (any_goals ((with_reducible first | refine hob_none ?_ | refine hob_some (fun _ => ?_)) <;> exact hV))
  (any_goals ((with_reducible first | refine hob_none ?_ | refine hob_some (fun _ => ?_)) <;> exact (fields_ok d v.fields hf)))
  (any_goals ((with_reducible first | refine hob_none ?_ | refine hob_some (fun _ => ?_)) <;> exact (Name_ok v.text ht)))
  (all_goals (try simp only [dec_t, dec_f, Int.not_lt, Int.not_le] at *))
  ((all_goals (try (with_reducible ((first | refine end_ret ?_ | refine end_normal ?_); (focus (cbv; (try dsimp only [nc] at *); (try simp only [wl, nc]); (repeat' (with_reducible apply And.intro)); all_goals (try first | rfl | exact fun _ _ => lr rfl | exact lr rfl | trivial | omega))))))); (all_goals (try ((with_reducible rw [all_cons]); (try simp only [wl, nc]); (repeat' (with_reducible apply And.intro)); (all_goals (try first | exact True.intro | exact fun _ _ h => h | exact fun _ h => h | exact fun h => h | exact pick_t | exact pick_f | omega | (focus (intros; (try simp only [nc, cl] at *); (try simp only [bl, el, dl] at *); (try simp (disch := omega) only [w64] at *); (first | omega | assumption | ((repeat' (with_reducible apply And.intro)) <;> first | omega | assumption))))))))))
  · exact (own_null ‹_›).symm
  · exact (own_kind ‹_› ‹_›).symm
  · exact (own_uses ‹_› (by omega) (by simpa using ‹(!usesB v) = true›)).symm
  all_goals
    have hu : usesB v = true := by simpa using ‹(!usesB v) = false›
    rw [own_rule ‹isNull v = false› (by omega) hu]
    have hs := uses_scale hu
    first
      | rw [ruleE1 ‹v.kind = 1›]
      | rw [ruleE2 ‹v.kind = 2›]
      | rw [ruleE3 ‹v.kind = 3›]
      | rw [ruleE4 ‹v.kind = 4›]
      | rw [ruleE5 ‹v.kind = 5›]
      | rw [ruleE6 ‹v.kind = 6›]
      | rw [ruleE7 ‹v.kind = 7›]
      | rw [ruleE8 ‹v.kind = 8›]
      | rw [ruleE9 ‹v.kind = 9›]
      | rw [ruleE10 (by omega)]
  all_goals (try simp only [between, sizeE, rule10] at *)
  all_goals (try (first | rfl | (split <;> omega) | grind))
def sizeV : Nat → V → Nat
  | 0, _ => 0
  | d + 1, v => 1 + ((kids v).map (sizeV d)).sum
theorem sum_take_le (l : List Nat) (i : Nat) : (l.take i).sum ≤ l.sum := by
  have : l.sum = (l.take i).sum + (l.drop i).sum := by rw [← List.sum_append, List.take_append_drop]
  omega
theorem sum_take_succ (l : List Nat) (i : Nat) (h : i < l.length) : (l.take (i + 1)).sum = (l.take i).sum + l[i] := by
  rw [List.take_succ_eq_append_getElem h, List.sum_append]; simp
theorem refSize_ok : ∀ (d : Nat) (v : V), V.le d v → sizeV d v ≤ 4611686018427387904 → AFun Tryz.prog 59 [encV d .any fun _ => v] [] (.int .i64 fun _ => sizeV d v) []
  | 0, _, h, _ => h.elim
  | d + 1, v, hv, hs => by
    have ih := refSize_ok d
    have hk := kids_len hv
    (apply AFun.of T4_ok mixed4 [.tmp 2] kp59 [(2, [(1, slcV d .any fun _ => kids v, [])])] Tryz.func59 (fun _ => ?_); (any_goals ((with_reducible refine wk_id ?_); cbv; (try dsimp only [nc] at *); (repeat' (with_reducible first | exact all_nil.2 trivial | exact ob_nil | refine ob_cons ?_ ?_ | refine VC.mk rfl ?_ ?_ ?_ | refine CondAny.mk (fun _ => ?_) (fun _ => ?_) | (refine CondVC.mk ?_ ?_ <;> intro zq <;> (try simp only [nc, cl] at zq) <;> (try simp only [bl, dl] at zq) <;> (revert zq; intro _)) | ((first | refine end_exit ?_ | refine end_out ?_); cbv; (try dsimp only [nc] at *)))))))
    (any_goals ((with_reducible first | refine hob_none ?_ | refine hob_some (fun _ => ?_)) <;> exact (refParts_ok d v hv)))
    ((all_goals (try (with_reducible ((first | refine end_ret ?_ | refine end_normal ?_); (focus (cbv; (try dsimp only [nc] at *); (try simp only [wl, nc]); (repeat' (with_reducible apply And.intro)); all_goals (try first | rfl | exact fun _ _ => lr rfl | exact lr rfl | trivial | omega))))))); (all_goals (try ((with_reducible rw [all_cons]); (try simp only [wl, nc]); (repeat' (with_reducible apply And.intro)); (all_goals (try first | exact True.intro | exact fun _ _ h => h | exact fun _ h => h | exact fun h => h | exact pick_t | exact pick_f | omega | (focus (intros; (try simp only [nc, cl] at *); (try simp only [bl, el, dl] at *); (try simp (disch := omega) only [w64] at *); (first | omega | assumption | ((repeat' (with_reducible apply And.intro)) <;> first | omega | assumption))))))))))
    refine .loop (fun i : Nat => ⟨22, [(5, .int .i64 fun _ => i), (4, slcV d .any fun _ => kids v), (3, .int .i64 fun _ => ((1 + (((kids v).map (sizeV d)).take i).sum : Nat) : Int))], []⟩)
      (fun i => i ≤ (kids v).length) (fun i => (kids v).length - i) 0 (by simp) ?_ fun i E hi => ?_
    · (focus (cbv; (try dsimp only [nc] at *); (try simp only [wl, nc]); (repeat' (with_reducible apply And.intro)); all_goals (try first | rfl | exact fun _ _ => lr rfl | exact lr rfl | trivial | omega)))
    have hsum := sum_take_le ((kids v).map (sizeV d))
    have hstep : ∀ h : i < (kids v).length, (((kids v).map (sizeV d)).take (i + 1)).sum = (((kids v).map (sizeV d)).take i).sum + sizeV d ((kids v).getD i default) := fun h => by
      rw [sum_take_succ _ i (by simpa using h)]
      simp [List.getD, h]
    have h1 := hsum i
    have h2 := hsum (i + 1)
    have hs2 : 1 + ((kids v).map (sizeV d)).sum ≤ 4611686018427387904 := hs
    have hle : i < (kids v).length → sizeV d ((kids v).getD i default) ≤ 4611686018427387904 := fun h => by have := hstep h; omega
    apply AWp.wk T4_ok mixed4 [(6, [(5, .int .i64 (fun _ => ?_), [])])] kp59 ?_
    (any_goals ((with_reducible refine wk_id ?_); cbv; (try dsimp only [nc] at *); (repeat' (with_reducible first | exact all_nil.2 trivial | exact ob_nil | refine ob_cons ?_ ?_ | refine VC.mk rfl ?_ ?_ ?_ | refine CondAny.mk (fun _ => ?_) (fun _ => ?_) | (refine CondVC.mk ?_ ?_ <;> intro zq <;> (try simp only [nc, cl] at zq) <;> (try simp only [bl, dl] at zq) <;> (revert zq; intro _)) | ((first | refine end_exit ?_ | refine end_out ?_); cbv; (try dsimp only [nc] at *))))))
    (any_goals ((with_reducible first | refine hob_none ?_ | refine hob_some (fun _ => ?_)) <;> exact (ih ((kids v).getD i default) (kids_le hv (getD_mem ‹i < (kids v).length›)) (hle ‹i < (kids v).length›))))
    ((all_goals (try (with_reducible ((first | refine end_ret ?_ | refine end_normal ?_); (focus (cbv; (try dsimp only [nc] at *); (try simp only [wl, nc]); (repeat' (with_reducible apply And.intro)); all_goals (try first | rfl | exact fun _ _ => lr rfl | exact lr rfl | trivial | omega))))))); (all_goals (try ((with_reducible rw [all_cons]); (try simp only [wl, nc]); (repeat' (with_reducible apply And.intro)); (all_goals (try first | exact True.intro | exact fun _ _ h => h | exact fun _ h => h | exact fun h => h | exact pick_t | exact pick_f | omega | (focus (intros; (try simp only [nc, cl] at *); (try simp only [bl, el, dl] at *); (try simp (disch := omega) only [w64] at *); (first | omega | assumption | ((repeat' (with_reducible apply And.intro)) <;> first | omega | assumption))))))))))
    · rename_i h
      have h3 := hstep h
      refine end_round (i + 1) ⟨by omega, by omega⟩ ?_
      (focus (cbv; (try dsimp only [nc] at *); (try simp only [wl, nc]); (repeat' (with_reducible apply And.intro)); all_goals (try first | rfl | exact fun _ _ => lr rfl | exact lr rfl | trivial | omega)))
      · exact w64n (by omega)
      · rw [w64 (by omega) (by omega), h3]; omega
    · have : i = (kids v).length := by omega
      subst this
      rw [List.take_of_length_le (by simp)]
      rfl
end Go.Ai
