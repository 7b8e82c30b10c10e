/- Chapter 4: the document's Record puts the fields in from the end; that list is the sorted one. -/
import Derived.Test.YtfphnecphebijaaDoorSetsL
namespace Go.Ai
open Go Go.Proofs
set_option maxRecDepth 100000
set_option maxHeartbeats 2000000

def recF (l : List (ByteArray × V)) : V := .mk 9 0 0 ⟨#[]⟩ [] l
def insR (x : ByteArray × V) : List (ByteArray × V) → List (ByteArray × V)
  | [] => [x]
  | y :: r => if cmpS y.1 x.1 < 0 then y :: insR x r else x :: y :: r
def loI (r : List (ByteArray × V)) (s : ByteArray) : Nat := r.findIdx fun y => !decide (cmpS y.1 s < 0)
def refR : List (ByteArray × V) → List (ByteArray × V)
  | [] => []
  | x :: l => if isNull x.2 = true ∨ 0 ≤ findI (recF (refR l)) x.1 then refR l else insR x (refR l)

theorem insR_idx (x : ByteArray × V) : ∀ r : List (ByteArray × V), insR x r = r.insertIdx (loI r x.1) x
  | [] => rfl
  | y :: r => by
    unfold insR loI
    rw [List.findIdx_cons]
    by_cases h : cmpS y.1 x.1 < 0
    · simp only [h, if_true, decide_true, Bool.not_true, cond_false]
      rw [List.insertIdx_succ_cons, insR_idx x r]; rfl
    · simp only [h, if_false, decide_false, Bool.not_false, cond_true]
      rw [List.insertIdx_zero]

theorem insR_perm (x : ByteArray × V) : ∀ r : List (ByteArray × V), (insR x r).Perm (x :: r)
  | [] => .refl _
  | y :: r => by
    unfold insR
    split
    · exact ((insR_perm x r).cons y).trans (.swap ..)
    · exact .refl _

def SS1 (a b : ByteArray × V) : Prop := ltS a.1 b.1

theorem insR_sorted (x : ByteArray × V) : ∀ r : List (ByteArray × V), r.Pairwise SS1 → (∀ y ∈ r, ¬ y.1 = x.1) → (insR x r).Pairwise SS1
  | [], _, _ => by simp [insR]
  | y :: r, hs, hn => by
    have hc := List.pairwise_cons.1 hs
    unfold insR
    split
    · rename_i h
      refine List.pairwise_cons.2 ⟨fun z hz => ?_, insR_sorted x r hc.2 fun z hz => hn z (List.mem_cons_of_mem _ hz)⟩
      rcases List.mem_cons.1 ((insR_perm x r).mem_iff.1 hz) with rfl | q
      · exact cmpS_lt.1 h
      · exact hc.1 z q
    · rename_i h
      have hx : ltS x.1 y.1 := by
        rcases ltS_tri x.1 y.1 with q | q | q
        · exact q
        · exact absurd q.symm (hn y (List.mem_cons_self ..))
        · exact absurd (cmpS_lt.2 q) h
      refine List.pairwise_cons.2 ⟨fun z hz => ?_, hs⟩
      rcases List.mem_cons.1 hz with rfl | q
      · exact hx
      · exact ltS_trans hx (hc.1 z q)

theorem findI_any (l : List (ByteArray × V)) (s : ByteArray) : 0 ≤ findI (recF l) s ↔ ∃ y ∈ l, y.1 = s := by
  constructor
  · intro h
    obtain ⟨e, q⟩ := findI_nat h
    have := findI_name h
    rw [getD_at _ _ (by omega)] at this
    exact ⟨_, List.getElem_mem _, this⟩
  · rintro ⟨y, hy, e⟩
    by_cases h : findI (recF l) s < 0
    · exact absurd e (findI_neg h y hy)
    · omega

theorem keepR_has : ∀ (l : List (ByteArray × V)) (y : ByteArray × V), y ∈ l → isNull y.2 = false → ∃ z ∈ keepR l, z.1 = y.1
  | [], y, h, _ => by cases h
  | x :: r, y, h, hn => by
    simp only [keepR]
    rcases List.mem_cons.1 h with rfl | h
    · by_cases q : laterB y r = true
      · obtain ⟨z, hz, e⟩ := List.any_eq_true.1 q
        simp only [Bool.and_eq_true, decide_eq_true_eq, Bool.not_eq_true'] at e
        obtain ⟨u, hu, e2⟩ := keepR_has r z hz e.2
        rw [if_neg (by rw [q]; simp)]
        exact ⟨u, hu, e2.trans e.1⟩
      · rw [if_pos (by simp [hn, q])]
        exact ⟨y, List.mem_cons_self .., rfl⟩
    · obtain ⟨u, hu, e2⟩ := keepR_has r y h hn
      split
      · exact ⟨u, List.mem_cons_of_mem _ hu, e2⟩
      · exact ⟨u, hu, e2⟩

theorem refR_keep : ∀ l : List (ByteArray × V), (refR l).Perm (keepR l) ∧ (refR l).Pairwise SS1
  | [] => ⟨.refl _, .nil⟩
  | x :: l => by
    obtain ⟨hp, hs⟩ := refR_keep l
    have hf : 0 ≤ findI (recF (refR l)) x.1 ↔ laterB x l = true := by
      rw [findI_any]
      constructor
      · rintro ⟨y, hy, e⟩
        obtain ⟨h1, h2⟩ := keepR_sub l y (hp.mem_iff.1 hy)
        exact List.any_eq_true.2 ⟨y, h1, by simp [e, h2]⟩
      · intro h
        obtain ⟨y, hy, e⟩ := List.any_eq_true.1 h
        simp only [Bool.and_eq_true, decide_eq_true_eq, Bool.not_eq_true'] at e
        obtain ⟨z, hz, e2⟩ := keepR_has l y hy e.2
        exact ⟨z, hp.mem_iff.2 hz, e2.trans e.1⟩
    simp only [refR, keepR]
    by_cases q : isNull x.2 = true ∨ 0 ≤ findI (recF (refR l)) x.1
    · rw [if_pos q, if_neg]
      · exact ⟨hp, hs⟩
      · rcases q with q | q
        · simp [q]
        · simp [hf.1 q]
    · have q' := not_or.1 q
      rw [if_neg q, if_pos]
      · refine ⟨(insR_perm _ _).trans (hp.cons x), insR_sorted _ _ hs fun y hy e => q'.2 ((findI_any _ _).2 ⟨y, hy, e⟩)⟩
      · have : laterB x l = false := by simpa using fun h => q'.2 (hf.2 h)
        simp [this, q'.1]

theorem refR_sorted (l : List (ByteArray × V)) : refR l = sortN (keepR l) := by
  obtain ⟨hp, hs⟩ := refR_keep l
  refine List.Perm.eq_of_pairwise (le := fun a b => leN a b = true) ?_ (hs.imp fun h => ?_) (List.pairwise_mergeSort ?_ ?_ _) (hp.trans (List.mergeSort_perm _ _).symm)
  · intro a b ha hb h1 h2
    have e : a.1 = b.1 := by
      simp only [leN, Bool.not_eq_true', decide_eq_false_iff_not, cmpS_lt] at h1 h2
      rcases ltS_tri a.1 b.1 with q | q | q
      · exact absurd q h2
      · exact q
      · exact absurd q h1
    have hb' : b ∈ refR l := hp.mem_iff.2 ((List.mergeSort_perm _ _).mem_iff.1 hb)
    obtain ⟨i, hi, rfl⟩ := List.mem_iff_getElem.1 ha
    obtain ⟨j, hj, rfl⟩ := List.mem_iff_getElem.1 hb'
    have hh := List.pairwise_iff_getElem.1 hs
    rcases Nat.lt_trichotomy i j with q | q | q
    · have := hh i j hi hj q; unfold SS1 at this; rw [e] at this; exact (ltS_irrefl _ this).elim
    · subst q; rfl
    · have := hh j i hj hi q; unfold SS1 at this; rw [e] at this; exact (ltS_irrefl _ this).elim
  · simp only [leN, Bool.not_eq_true', decide_eq_false_iff_not, cmpS_lt]
    exact fun q => ltS_asymm h q
  · intro a b c h1 h2
    simp only [leN, Bool.not_eq_true', decide_eq_false_iff_not, cmpS_lt] at h1 h2 ⊢
    intro q
    rcases ltS_tri a.1 b.1 with w | w | w
    · exact h2 (ltS_trans q w)
    · rw [w] at q; exact h2 q
    · exact h1 w
  · intro a b
    simp only [leN, Bool.or_eq_true, Bool.not_eq_true', decide_eq_false_iff_not, cmpS_lt]
    rcases ltS_tri a.1 b.1 with w | w | w
    · exact .inl fun q => ltS_asymm w q
    · exact .inl fun q => by rw [w] at q; exact ltS_irrefl _ q
    · exact .inr fun q => ltS_asymm w q

theorem refR_rec (l : List (ByteArray × V)) : recF (refR l) = recV l := by rw [refR_sorted]; rfl
end Go.Ai

namespace Go.Ai
open Go Go.Proofs
set_option maxRecDepth 100000
set_option maxHeartbeats 2000000

theorem refR_len : ∀ l : List (ByteArray × V), (refR l).length ≤ l.length
  | [] => Nat.le_refl _
  | x :: l => by
    have := refR_len l
    have h2 := (insR_perm x (refR l)).length_eq
    simp only [refR, List.length_cons] at h2 ⊢
    split <;> omega

theorem refR_mem {l : List (ByteArray × V)} {y : ByteArray × V} (h : y ∈ refR l) : y ∈ l := (keepR_sub l y ((refR_keep l).1.mem_iff.1 h)).1

theorem loI_at {G : List (ByteArray × V)} {s : ByteArray} {j : Nat} (h : j ≤ G.length) (h1 : ∀ m, m < j → cmpS (G.getD m default).1 s < 0) (h2 : G.length ≤ j ∨ 0 ≤ cmpS (G.getD j default).1 s) : loI G s = j := by
  unfold loI
  by_cases q : j = G.length
  · rw [q]
    apply List.findIdx_eq_length.2
    intro y hy
    obtain ⟨m, hm, e⟩ := List.mem_iff_getElem.1 hy
    have := h1 m (by omega)
    rw [getD_at _ _ hm, e] at this
    simpa using this
  · have hj : j < G.length := by omega
    rw [List.findIdx_eq hj]
    refine ⟨?_, fun m hm => ?_⟩
    · have := h2.resolve_left (by omega)
      rw [getD_at _ _ hj] at this
      simpa using this
    · have := h1 m hm
      rw [getD_at _ _ (by omega)] at this
      simpa using this

theorem refRecord_ok (d : Nat) (l : List (ByteArray × V)) (hl : l.length ≤ 1073741824) (hv : ∀ x ∈ l, x.1.size ≤ 1073741824 ∧ V.le d x.2) :
    AFun Tryd.prog 28 [slcF d false fun _ => l] [] (encV (d + 1) false fun _ => recV l) [] := by
  rw [← refR_rec]
  (apply AFun.of T4_ok mixed4 [.cell 2 25] kp28 [] Tryd.func28 (fun _ => ?_); (any_goals ((with_reducible refine wk_id ?_); cbv; (try dsimp only [nc] at *); (repeat' (with_reducible first | exact all_nil.2 trivial | exact ob_nil | refine ob_cons ?_ ?_ | refine VC.mk rfl ?_ ?_ ?_ | (refine CondVC.mk ?_ ?_ <;> intro hz <;> (try simp only [nc, bytes_empty, if_or, if_and] at hz) <;> (try simp only [Bool.false_eq_true, Bool.true_eq_false, Bool.and_eq_true, Bool.or_eq_true, Bool.not_eq_true', Bool.not_eq_true, Bool.and_eq_false_iff, Bool.or_eq_false_iff, Bool.not_eq_false', beq_iff_eq, beq_eq_false_iff_ne, bne_iff_ne, bne_eq_false_iff_eq, dec_t, dec_f, ne_eq, Decidable.not_not, Int.ofNat_lt, Int.ofNat_le, Int.toNat_natCast, Int.not_lt, Int.not_le, Nat.not_lt, Nat.not_le] at hz) <;> (revert hz; intro _)) | (refine end_exit ?_; cbv; (try dsimp only [nc] at *)) | (refine end_out ?_; cbv; (try dsimp only [nc] at *)))))))
  ((all_goals (try (with_reducible first | (refine end_ret ?_; (focus (cbv; (try dsimp only [nc] at *); (try simp only [all_nil, all_cons, and_true, true_and, nc]); (try (repeat' (with_reducible apply And.intro))); (all_goals (try first | rfl | exact fun _ _ => LeL.of_eq rfl | exact LeL.of_eq rfl | trivial | omega))))) | (refine end_normal ?_; (focus (cbv; (try dsimp only [nc] at *); (try simp only [all_nil, all_cons, and_true, true_and, nc]); (try (repeat' (with_reducible apply And.intro))); (all_goals (try first | rfl | exact fun _ _ => LeL.of_eq rfl | exact LeL.of_eq rfl | trivial | omega)))))))); (all_goals (try (focus ((with_reducible rw [all_cons]); (try simp only [all_cons, all_nil, and_true, nc]); (repeat' (with_reducible apply And.intro)); (all_goals (try first | exact fun _ _ h => h | exact fun _ h => h | exact fun h => h | exact pick_t | exact pick_f | omega | (focus (intros; (try simp only [nc, bytes_empty, if_or, if_and] at *); (try simp only [Bool.false_eq_true, Bool.true_eq_false, Bool.and_eq_true, Bool.or_eq_true, Bool.not_eq_true', Bool.not_eq_true, Bool.and_eq_false_iff, Bool.or_eq_false_iff, Bool.not_eq_false', beq_iff_eq, beq_eq_false_iff_ne, bne_iff_ne, bne_eq_false_iff_eq, beq_true, beq_false, dec_t, dec_f, ne_eq, Decidable.not_not, Int.ofNat_lt, Int.ofNat_le, Int.toNat_natCast, Int.not_lt, Int.not_le, Nat.not_lt, Nat.not_le] at *); (try simp (disch := omega) only [w64] at *); (first | omega | assumption | ((repeat' (with_reducible apply And.intro)) <;> first | omega | assumption)))))))))))
  refine .loop (fun i : Nat => ⟨73, [(4, .int .i64 fun _ => (i : Int) - 1), (3, .ptr 3 0), (2, .ptr 2 0), (0, slcF d false fun _ => l)], [(2, .box (cells 1 false fun _ => default)), (3, .box (cells (d + 1) false fun _ => recF (refR (l.drop i))))]⟩)
    (fun i => i ≤ l.length) (fun i => i) l.length (Nat.le_refl _) ?_ fun i E hj => ?_
  · (focus (cbv; (try dsimp only [nc] at *); (try simp only [all_nil, all_cons, and_true, true_and]); (try (repeat' (with_reducible apply And.intro))); (all_goals (try first | rfl | exact fun _ _ => LeL.of_eq rfl | exact LeL.of_eq rfl | trivial | omega))))
    · rw [w64 (by omega) (by omega)]
    · rw [List.drop_length]; rfl
  have hG := fun m => refR_len (l.drop m)
  have hm := fun m y (h : y ∈ refR (l.drop m)) => hv y (List.mem_of_mem_drop (refR_mem h))
  cases i with
  | zero =>
    rw [List.drop_zero]
    generalize refR l = G
    rw [show ((0 : Nat) : Int) - 1 = -1 from rfl]
    apply AWp.wk T4_ok mixed4 [(5, [(5, .bool (fun _ => true), []), (13, .int .i64 (fun _ => 0), [])])] kp28 ?_
    (any_goals ((with_reducible refine wk_id ?_); cbv; (try dsimp only [nc] at *); (repeat' (with_reducible first | exact all_nil.2 trivial | exact ob_nil | refine ob_cons ?_ ?_ | refine VC.mk rfl ?_ ?_ ?_ | (refine CondVC.mk ?_ ?_ <;> intro hz <;> (try simp only [] at hz) <;> (try simp only [dec_t, dec_f, Int.not_le] at hz) <;> (revert hz; intro _)) | (refine end_exit ?_; cbv; (try dsimp only [nc] at *)) | (refine end_out ?_; cbv; (try dsimp only [nc] at *))))))
    (all_goals (try simp only [dec_t, dec_f, Int.not_lt, Int.not_le] at *))
    all_goals (try (exfalso; exact absurd ‹(0 : Int) ≤ -1› (by decide)))
    ((all_goals (try (with_reducible first | (refine end_ret ?_; (focus (cbv; (try dsimp only [nc] at *); (try simp only [all_nil, all_cons, and_true, true_and]); (try (repeat' (with_reducible apply And.intro))); (all_goals (try first | rfl | exact fun _ _ => LeL.of_eq rfl | exact LeL.of_eq rfl | trivial | omega))))) | (refine end_normal ?_; (focus (cbv; (try dsimp only [nc] at *); (try simp only [all_nil, all_cons, and_true, true_and, nc]); (try (repeat' (with_reducible apply And.intro))); (all_goals (try first | rfl | exact fun _ _ => LeL.of_eq rfl | exact LeL.of_eq rfl | trivial | omega)))))))); (all_goals (try (focus ((with_reducible rw [all_cons]); (try simp only [all_cons, all_nil, and_true, nc]); (repeat' (with_reducible apply And.intro)); (all_goals (try first | exact fun _ _ h => h | exact fun _ h => h | exact fun h => h | exact pick_t | exact pick_f | omega | (focus (intros; (try simp only [nc, bytes_empty, if_or, if_and] at *); (try simp only [Bool.false_eq_true, Bool.true_eq_false, Bool.and_eq_true, Bool.or_eq_true, Bool.not_eq_true', Bool.not_eq_true, Bool.and_eq_false_iff, Bool.or_eq_false_iff, Bool.not_eq_false', beq_iff_eq, beq_eq_false_iff_ne, bne_iff_ne, bne_eq_false_iff_eq, beq_true, beq_false, dec_t, dec_f, ne_eq, Decidable.not_not, Int.ofNat_lt, Int.ofNat_le, Int.toNat_natCast, Int.not_lt, Int.not_le, Nat.not_lt, Nat.not_le] at *); (try simp (disch := omega) only [w64] at *); (first | omega | assumption | ((repeat' (with_reducible apply And.intro)) <;> first | omega | assumption)))))))))))
  | succ k =>
    obtain ⟨G, hg⟩ : ∃ G, G = refR (l.drop (k + 1)) := ⟨_, rfl⟩
    have hGl : G.length ≤ l.length - (k + 1) := by rw [hg]; simpa using hG (k + 1)
    have hGm := hm (k + 1)
    rw [← hg] at hGm ⊢
    have hkl : k < l.length := by omega
    have hxm := hv _ (List.getElem_mem hkl)
    rw [← getD_at _ _ hkl] at hxm
    have hd : refR (l.drop k) = if isNull (l.getD k default).2 = true ∨ 0 ≤ findI (recF G) (l.getD k default).1 then G else insR (l.getD k default) G := by
      rw [List.drop_eq_getElem_cons hkl, refR, ← hg, getD_at _ _ hkl]
    have hF := Find_ok d (recF G) (l.getD k default).1 (by show G.length ≤ _; omega)
    rw [if_pos (show (recF G).kind = 9 from rfl)] at hF
    rw [show (((k + 1 : Nat)) : Int) - 1 = (k : Int) by omega]
    apply AWp.wk T4_ok mixed4 [(5, [(5, .bool (fun _ => isNull (l.getD k default).2), []), (13, .int .i64 (fun _ => findI (recF G) (l.getD k default).1), [])])] kp28 ?_
    (any_goals ((with_reducible refine wk_id ?_); cbv; (try dsimp only [nc] at *); (repeat' (with_reducible first | exact all_nil.2 trivial | exact ob_nil | refine ob_cons ?_ ?_ | refine VC.mk rfl ?_ ?_ ?_ | (refine CondVC.mk ?_ ?_ <;> intro hz <;> (try simp only [if_or] at hz) <;> (try simp only [Bool.or_eq_true, Bool.or_eq_false_iff, dec_t, dec_f, Int.not_le] at hz) <;> (revert hz; intro _)) | (refine end_exit ?_; cbv; (try dsimp only [nc] at *)) | (refine end_out ?_; cbv; (try dsimp only [nc] at *))))))
    (any_goals ((with_reducible first | refine hob_none ?_ | refine hob_some (fun _ => ?_)) <;> exact (Null_ok d (l.getD k default).2)))
    (any_goals ((with_reducible first | refine hob_none ?_ | refine hob_some (fun _ => ?_)) <;> exact hF))
    ((all_goals (try (with_reducible first | (refine end_ret ?_; (focus (cbv; (try dsimp only [nc] at *); (try simp only [all_nil, all_cons, and_true]); (try (repeat' (with_reducible apply And.intro))); (all_goals (try first | rfl | exact fun _ _ => LeL.of_eq rfl | exact LeL.of_eq rfl | trivial | omega))))) | (refine end_normal ?_; (focus (cbv; (try dsimp only [nc] at *); (try simp only [all_nil, all_cons, and_true, true_and, nc]); (try (repeat' (with_reducible apply And.intro))); (all_goals (try first | rfl | exact fun _ _ => LeL.of_eq rfl | exact LeL.of_eq rfl | trivial | omega)))))))); (all_goals (try (focus ((with_reducible rw [all_cons]); (try simp only [all_cons, all_nil, and_true]); (repeat' (with_reducible apply And.intro)); (all_goals (try first | exact fun _ _ h => h | exact fun _ h => h | exact fun h => h | exact pick_t | exact pick_f | omega | (focus (intros; (try simp only [nc, bytes_empty, if_or, if_and] at *); (try simp only [Bool.false_eq_true, Bool.true_eq_false, Bool.and_eq_true, Bool.or_eq_true, Bool.not_eq_true', Bool.not_eq_true, Bool.and_eq_false_iff, Bool.or_eq_false_iff, Bool.not_eq_false', beq_iff_eq, beq_eq_false_iff_ne, bne_iff_ne, bne_eq_false_iff_eq, beq_true, beq_false, dec_t, dec_f, ne_eq, Decidable.not_not, Int.ofNat_lt, Int.ofNat_le, Int.toNat_natCast, Int.not_lt, Int.not_le, Nat.not_lt, Nat.not_le] at *); (try simp (disch := omega) only [w64] at *); (first | omega | assumption | ((repeat' (with_reducible apply And.intro)) <;> first | omega | assumption)))))))))))
    · rename_i q
      refine end_round k ⟨by omega, by omega⟩ ?_
      have e := hd
      rw [if_pos q] at e
      (focus (cbv; (try dsimp only [nc] at *); (try simp only [all_nil, all_cons, and_true, true_and]); (try (repeat' (with_reducible apply And.intro))); (all_goals (try first | rfl | exact fun _ _ => LeL.of_eq rfl | exact LeL.of_eq rfl | trivial | omega))))
      · rw [w64 (by omega) (by omega)]
      · rw [e]
      · rw [e]; exact fun i _ => LeL.of_eq rfl
    rename_i q
    refine .loop (fun j : Nat => ⟨73, [(5, .int .i64 fun _ => j), (4, .int .i64 fun _ => (k : Int)), (3, .ptr 3 0), (2, .ptr 2 0), (0, slcF d false fun _ => l)], [(2, .box (cells 1 false fun _ => default)), (3, .box (cells (d + 1) false fun _ => recF G))]⟩)
      (fun j => j ≤ G.length ∧ ∀ m, m < j → cmpS (G.getD m default).1 (l.getD k default).1 < 0) (fun j => G.length - j) 0 (by simp) ?_ fun j E hj => ?_
    · (focus (cbv; (try dsimp only [nc] at *); (try simp only [all_nil, all_cons, and_true, true_and]); (try (repeat' (with_reducible apply And.intro))); (all_goals (try first | rfl | exact fun _ _ => LeL.of_eq rfl | exact LeL.of_eq rfl | trivial | omega))))
    apply AWp.wk T4_ok mixed4 [(7, [(17, .int .i64 (fun _ => cmpS (G.getD j default).1 (l.getD k default).1), [])])] kp28 ?_
    have hfl : (recF G).fields.length = G.length := rfl
    (any_goals ((with_reducible refine wk_id ?_); cbv; (try dsimp only [nc] at *); (repeat' (with_reducible first | exact all_nil.2 trivial | exact ob_nil | refine ob_cons ?_ ?_ | refine VC.mk rfl ?_ ?_ ?_ | (refine CondVC.mk ?_ ?_ <;> intro hz <;> (try simp only [if_and] at hz) <;> (try simp only [Bool.and_eq_true, Bool.and_eq_false_iff, dec_t, dec_f, Int.ofNat_lt, Int.not_lt, Nat.not_lt] at hz) <;> (revert hz; intro _)) | (refine end_exit ?_; cbv; (try dsimp only [nc] at *)) | (refine end_out ?_; cbv; (try dsimp only [nc] at *))))))
    any_goals (refine hob_some (fun hz => ?_); refine text_ok _ _ ?_ ?_)
    ((all_goals (try (with_reducible first | (refine end_ret ?_; (focus (cbv; (try dsimp only [nc] at *); (try simp only [all_nil, all_cons, and_true, true_and, nc]); (try (repeat' (with_reducible apply And.intro))); (all_goals (try first | rfl | exact fun _ _ => LeL.of_eq rfl | exact LeL.of_eq rfl | trivial | omega))))) | (refine end_normal ?_; (focus (cbv; (try dsimp only [nc] at *); (try simp only [all_nil, all_cons, and_true, true_and, nc]); (try (repeat' (with_reducible apply And.intro))); (all_goals (try first | rfl | exact fun _ _ => LeL.of_eq rfl | exact LeL.of_eq rfl | trivial | omega)))))))); (all_goals (try (focus ((with_reducible rw [all_cons]); (try simp only [all_cons, all_nil, and_true]); (repeat' (with_reducible apply And.intro)); (all_goals (try first | exact fun _ _ h => h | exact fun _ h => h | exact fun h => h | exact pick_t | exact pick_f | omega | (focus (intros; (try simp only [nc, bytes_empty, if_or, if_and] at *); (try simp only [beq_true, dec_t, Int.ofNat_lt] at *); (try simp (disch := omega) only [w64] at *); (first | omega | assumption | ((repeat' (with_reducible apply And.intro)) <;> first | omega | assumption)))))))))))
    · have := of_decide_eq_true (eq_of_beq hz)
      have hjl : j < G.length := by omega
      show (G.getD (j : Int).toNat default).1.size ≤ _
      rw [Int.toNat_natCast, getD_at _ _ hjl]
      have := (hGm _ (List.getElem_mem hjl)).1
      omega
    · show (l.getD (k : Int).toNat default).1.size ≤ _
      rw [Int.toNat_natCast]
      have := hxm.1
      omega
    · rename_i q2
      refine end_round (j + 1) ⟨⟨by omega, fun m q3 => ?_⟩, by omega⟩ (by (focus (cbv; (try dsimp only [nc] at *); (try simp only [all_nil, all_cons, and_true, true_and]); (try (repeat' (with_reducible apply And.intro))); (all_goals (try first | rfl | exact fun _ _ => LeL.of_eq rfl | exact LeL.of_eq rfl | trivial | omega)))); rw [w64 (by omega) (by omega)]; rfl)
      by_cases w : m < j
      · exact hj.2 m w
      · rw [show m = j by omega]; exact q2.2
    · rename_i q2
      rw [hfl] at q2
      have e := hd
      rw [if_neg (fun w => w.elim (fun w => by rw [q.1] at w; cases w) (fun w => absurd w (Int.not_le.2 q.2))), insR_idx, loI_at hj.1 hj.2 q2] at e
      refine end_round k ⟨by omega, by omega⟩ ?_
      (focus (cbv; (try dsimp only [nc] at *); (try simp only [all_nil, all_cons, and_true, true_and]); (try (repeat' (with_reducible apply And.intro))); (all_goals (try first | rfl | exact fun _ _ => LeL.of_eq rfl | exact LeL.of_eq rfl | trivial | omega))))
      · rw [w64 (by omega) (by omega)]
      · rw [e]
        show _ = (G.insertIdx j (l.getD k default)).length
        rw [List.length_insertIdx, if_pos hj.1, hfl]
        simp only [Int.toNat_zero, Int.toNat_natCast]; omega
      · rw [e]
        intro i hi
        refine cat3_le (d := d) (a := j) (b := j) (j := i) (l := G) (l' := G.insertIdx j (l.getD k default)) (y := l.getD k default) (by simp) (by simp) (fun m _ => ?_) rfl (fun m => ?_) ?_
        · show rowF d (G.getD (Int.toNat 0 + m) default) = _
          rw [Int.toNat_zero, Nat.zero_add]
        · show rowF d (G.getD ((j : Int).toNat + m) default) = _
          rw [Int.toNat_natCast]
        · simp only [List.getD_eq_getElem?_getD, List.getElem?_insertIdx]
          by_cases h1 : i < j
          · rw [if_pos h1, if_pos h1]
          · rw [if_neg h1, if_neg h1]
            by_cases h2 : i = j
            · rw [if_pos h2, if_pos h2, if_pos (show i ≤ G.length by omega)]; rfl
            · rw [if_neg h2, if_neg h2, show j + (i - (j + 1)) = i - 1 by omega]
end Go.Ai

namespace Go.Ai
open Go Go.Proofs
set_option maxRecDepth 100000
set_option maxHeartbeats 2000000

theorem less_lt {a b : ByteArray} (h : ltS a b) : Op.bytesLess a.toList b.toList = true := by
  rw [ByteArray.toList_eq, ByteArray.toList_eq, bytesLess_lt]
  exact decide_eq_true h

theorem law_records (d : Nat) (l : List (ByteArray × V)) (hl : l.length ≤ 1048576) (hv : ∀ x ∈ l, x.1.size ≤ 1048576 ∧ V.le d x.2) :
    AFun Tryd.prog 6 [slcF d false fun _ => l] [] (.bool fun _ => true) [] := by
  obtain ⟨m, hm⟩ : ∃ m, m = l.take 70 := ⟨_, rfl⟩
  have hml : m.length ≤ 70 := by rw [hm, List.length_take]; omega
  have hmv : ∀ x ∈ m, x.1.size ≤ 1073741824 ∧ V.le d x.2 := fun x hx => by
    have := hv x (List.mem_of_mem_take (hm ▸ hx))
    exact ⟨by omega, this.2⟩
  have hR := Record_ok d m (by omega) hmv
  have hR2 := refRecord_ok d m (by omega) hmv
  have hle := recV_le (d := d) (by omega) hmv
  have hE := same_ok (d + 1) (recV m) hle
  obtain ⟨r, hr⟩ : ∃ r, r = recV m := ⟨_, rfl⟩
  rw [← hr] at hR hR2 hE hle
  have hcut : ∀ i, i < 70 → l.getD i default = m.getD i default := fun i hi => by
    rw [hm, List.getD_eq_getElem?_getD, List.getD_eq_getElem?_getD, List.getElem?_take, if_pos hi]
  have hlen : m.length = if 70 < l.length then 70 else l.length := by
    rw [hm, List.length_take]; split <;> omega
  have hrow : ∀ (n : Nat), n ≤ 70 → ∀ i, i < n → LeL (rowF d (l.getD (Int.toNat 0 + i) default)) (rowF d (m.getD i default)) := fun n hn i hi => by
    rw [Int.toNat_zero, Nat.zero_add, hcut i (by omega)]; exact LeL.of_eq rfl
  have cut : ∀ (i1 : Decidable (false = true)) (i2 : Decidable ((l.length : Int) < 70)) (i3 : Decidable (70 < (l.length : Int))), (@ite Int (false = true) i1 (@ite Int ((l.length : Int) < 70) i2 70 l.length) (@ite Int (70 < (l.length : Int)) i3 70 l.length)) = (m.length : Int) := fun i1 i2 i3 => by
    rw [if_neg Bool.false_ne_true, hlen]
    by_cases q : 70 < l.length
    · rw [if_pos q, if_pos (by omega)]; rfl
    · rw [if_neg q, if_neg (by omega)]
  have hml2 : m.length ≤ l.length := by rw [hlen]; split <;> omega
  have hrise : ∀ i, 1 ≤ i → i < r.fields.length → Op.bytesLess (r.fields.getD (i - 1) default).1.toList (r.fields.getD i default).1.toList = true := fun i h1 h2 => by
    have hf : r.fields = refR m := by rw [hr, ← refR_rec]; rfl
    have hs := (refR_keep m).2
    rw [← hf] at hs
    rw [getD_at _ _ h2, getD_at _ _ (by omega)]
    exact less_lt (List.pairwise_iff_getElem.1 hs (i - 1) i (by omega) h2 (by omega))
  have hrl := hle.2.1
  (apply AFun.of T4_ok mixed4 [.tmp 2] kp6 [(2, [(1, hR.out)]), (3, [(0, known_ok.out), (5, hR2.out), (6, .bool (fun _ => true), [])])] Tryd.func6 (fun _ => ?_); (any_goals ((with_reducible refine wk_id ?_); cbv; (try dsimp only [nc] at *); (repeat' (with_reducible first | exact all_nil.2 trivial | exact ob_nil | refine ob_cons ?_ ?_ | refine VC.mk rfl ?_ ?_ ?_ | (refine CondVC.mk ?_ ?_ <;> intro hz <;> (try simp only [if_or] at hz) <;> (try simp only [Bool.true_eq_false, Bool.or_eq_true, Bool.not_eq_true', Bool.or_eq_false_iff, Bool.not_eq_false'] at hz) <;> (revert hz; intro _)) | (refine end_exit ?_; cbv; (try dsimp only [nc] at *)) | (refine end_out ?_; cbv; (try dsimp only [nc] at *)))))))
  (any_goals ((with_reducible first | refine hob_none ?_ | refine hob_some (fun _ => ?_)) <;> exact known_ok))
  (any_goals ((with_reducible first | refine hob_none ?_ | refine hob_some (fun _ => ?_)); (try dsimp only); (refine AFun.weak_in hR ?_); (focus (cbv; (try dsimp only [nc] at *); (try simp only [all_nil, all_cons, and_true]); (try (repeat' (with_reducible apply And.intro))); (all_goals (try first | rfl | exact fun _ _ => LeL.of_eq rfl | exact LeL.of_eq rfl | trivial | omega))))))
  (any_goals ((with_reducible first | refine hob_none ?_ | refine hob_some (fun _ => ?_)); (try dsimp only); (refine AFun.weak_in hR2 ?_); (focus (cbv; (try dsimp only [nc] at *); (try simp only [all_nil, all_cons, and_true]); (try (repeat' (with_reducible apply And.intro))); (all_goals (try first | rfl | exact fun _ _ => LeL.of_eq rfl | exact LeL.of_eq rfl | trivial | omega))))))
  (any_goals ((with_reducible first | refine hob_none ?_ | refine hob_some (fun _ => ?_)); (try dsimp only); (refine AFun.weak_in hE ?_); (focus (cbv; (try dsimp only [nc] at *); (try simp only [all_nil, all_cons, and_true, true_and]); (try (repeat' (with_reducible apply And.intro))); (all_goals (try first | rfl | exact fun _ _ => LeL.of_eq rfl | exact LeL.of_eq rfl | trivial | omega))))))
  all_goals (try exact fun i _ => le_sub _ _ _ _)
  all_goals (try (focus (rw [cut]; done)))
  any_goals (focus (intro i hi; rw [cut, Int.toNat_natCast] at hi; refine hrow 70 (Nat.le_refl _) i ?_; exact Nat.lt_of_lt_of_le hi (Nat.le_trans (Nat.sub_le _ _) hml)))
  ((all_goals (try (with_reducible first | (refine end_ret ?_; (focus (cbv; (try dsimp only [nc] at *); (try simp only [all_nil, all_cons, and_true]); (try (repeat' (with_reducible apply And.intro))); (all_goals (try first | rfl | exact fun _ _ => LeL.of_eq rfl | exact LeL.of_eq rfl | trivial | omega))))) | (refine end_normal ?_; (focus (cbv; (try dsimp only [nc] at *); (try simp only [all_nil, all_cons, and_true, true_and, nc]); (try (repeat' (with_reducible apply And.intro))); (all_goals (try first | rfl | exact fun _ _ => LeL.of_eq rfl | exact LeL.of_eq rfl | trivial | omega)))))))); (all_goals (try (focus ((with_reducible rw [all_cons]); (try simp only [all_cons, all_nil, and_true]); (repeat' (with_reducible apply And.intro)); (all_goals (try first | exact fun _ _ h => h | exact fun _ h => h | exact fun h => h | exact pick_t | exact pick_f | omega | (focus (intros; (try simp only [nc, bytes_empty, if_or, if_and] at *); (try simp only [Bool.false_eq_true] at *); (try simp (disch := omega) only [w64] at *); (first | omega | assumption | ((repeat' (with_reducible apply And.intro)) <;> first | omega | assumption)))))))))))
  all_goals (try (focus (rw [cut]; omega)))
  refine .loop (fun i : Nat => ⟨42, [(4, .int .i64 fun _ => (i : Int)), (3, .ptr 3 0)], [(3, .box (cells (d + 1) true fun _ => r))]⟩)
    (fun i => 1 ≤ i ∧ i ≤ r.fields.length + 1) (fun i => r.fields.length + 1 - i) 1 (by omega) ?_ fun i E hj => ?_
  · (focus (cbv; (try dsimp only [nc] at *); (try simp only [all_nil, all_cons, and_true, true_and]); (try (repeat' (with_reducible apply And.intro))); (all_goals (try first | rfl | exact fun _ _ => LeL.of_eq rfl | exact LeL.of_eq rfl | trivial | omega))))
  apply AWp.wk T4_ok mixed4 [] kp6 ?_
  (any_goals ((with_reducible refine wk_id ?_); cbv; (try dsimp only [nc] at *); (repeat' (with_reducible first | exact all_nil.2 trivial | exact ob_nil | refine ob_cons ?_ ?_ | refine VC.mk rfl ?_ ?_ ?_ | (refine CondVC.mk ?_ ?_ <;> intro hz <;> (try simp only [nc, bytes_empty, if_or, if_and] at hz) <;> (try simp only [Bool.not_eq_true', Bool.not_eq_false', dec_t, dec_f, Int.ofNat_lt, Int.toNat_natCast, Nat.not_lt] at hz) <;> (revert hz; intro _)) | (refine end_exit ?_; cbv; (try dsimp only [nc] at *)) | (refine end_out ?_; cbv; (try dsimp only [nc] at *))))))
  ((all_goals (try (with_reducible first | (refine end_ret ?_; (focus (cbv; (try dsimp only [nc] at *); (try simp only [all_nil, all_cons, and_true]); (try (repeat' (with_reducible apply And.intro))); (all_goals (try first | rfl | exact fun _ _ => LeL.of_eq rfl | exact LeL.of_eq rfl | trivial | omega))))) | (refine end_normal ?_; (focus (cbv; (try dsimp only [nc] at *); (try simp only [all_nil, all_cons, and_true, true_and, nc]); (try (repeat' (with_reducible apply And.intro))); (all_goals (try first | rfl | exact fun _ _ => LeL.of_eq rfl | exact LeL.of_eq rfl | trivial | omega)))))))); (all_goals (try (focus ((with_reducible rw [all_cons]); (try simp only [all_cons, all_nil, and_true]); (repeat' (with_reducible apply And.intro)); (all_goals (try first | exact fun _ _ h => h | exact fun _ h => h | exact fun h => h | exact pick_t | exact pick_f | omega | (focus (intros; (try simp only [nc, bytes_empty, if_or, if_and] at *); (try simp only [Bool.false_eq_true] at *); (try simp (disch := omega) only [w64] at *); (first | omega | assumption | ((repeat' (with_reducible apply And.intro)) <;> first | omega | assumption)))))))))))
  · rename_i q1 q2
    rw [w64 (by omega) (by omega), show ((i : Int) - 1).toNat = i - 1 by omega, hrise i hj.1 q1] at q2
    exact q2.symm
  · refine end_round (i + 1) ⟨by omega, by omega⟩ ?_
    (focus (cbv; (try dsimp only [nc] at *); (try simp only [all_nil, all_cons, and_true, true_and]); (try (repeat' (with_reducible apply And.intro))); (all_goals (try first | rfl | exact fun _ _ => LeL.of_eq rfl | exact LeL.of_eq rfl | trivial | omega))))
    rw [w64 (by omega) (by omega)]; rfl
end Go.Ai
