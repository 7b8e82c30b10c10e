/- Chapter 10: the fields in the order of their numbers, found one after another. -/
import Derived.Test.YtlplmdipoacnlaaGreatDoorWrA
import Derived.Test.YtlplmdipoacnlaaGreatDoorEncA
import Derived.Test.YtlplmdipoacnlaaGreatDoorWrB
set_option linter.all false
namespace Go.Ai
open Go Go.Proofs Go.Lib
set_option maxRecDepth 100000
set_option maxHeartbeats 4000000

def nextTo (l : List TF) (n : Int) : Nat → Int
  | 0 => -1
  | i + 1 => if n < fNum (l.getD i default) ∧ (nextTo l n i < 0 ∨ fNum (l.getD i default) < fNum (l.getD (nextTo l n i).toNat default)) then i else nextTo l n i
def nextI (l : List TF) (n : Int) : Int := nextTo l n l.length

theorem nextTo_spec (l : List TF) (n : Int) : ∀ m, (nextTo l n m = -1 ∧ ∀ i, i < m → fNum (l.getD i default) ≤ n) ∨
    ∃ k : Nat, nextTo l n m = k ∧ k < m ∧ n < fNum (l.getD k default) ∧ ∀ i, i < m → n < fNum (l.getD i default) → fNum (l.getD k default) ≤ fNum (l.getD i default)
  | 0 => .inl ⟨rfl, fun i hi => absurd hi (Nat.not_lt_zero _)⟩
  | m + 1 => by
    simp only [nextTo]
    rcases nextTo_spec l n m with ⟨h1, h2⟩ | ⟨k, h1, h2, h3, h4⟩
    · rw [h1]
      by_cases hm : n < fNum (l.getD m default)
      · rw [if_pos ⟨hm, .inl (by omega)⟩]
        refine .inr ⟨m, rfl, by omega, hm, fun i hi hn => ?_⟩
        rcases Nat.lt_succ_iff_lt_or_eq.1 hi with hi | rfl
        · have := h2 i hi; omega
        · exact Int.le_refl _
      · rw [if_neg (fun q => hm q.1)]
        refine .inl ⟨rfl, fun i hi => ?_⟩
        rcases Nat.lt_succ_iff_lt_or_eq.1 hi with hi | rfl
        · exact h2 i hi
        · omega
    · rw [h1, Int.toNat_natCast]
      by_cases hm : n < fNum (l.getD m default) ∧ ((k : Int) < 0 ∨ fNum (l.getD m default) < fNum (l.getD k default))
      · rw [if_pos hm]
        refine .inr ⟨m, rfl, by omega, hm.1, fun i hi hn => ?_⟩
        rcases Nat.lt_succ_iff_lt_or_eq.1 hi with hi | rfl
        · have := h4 i hi hn; omega
        · exact Int.le_refl _
      · rw [if_neg hm]
        refine .inr ⟨k, rfl, by omega, h3, fun i hi hn => ?_⟩
        rcases Nat.lt_succ_iff_lt_or_eq.1 hi with hi | rfl
        · exact h4 i hi hn
        · omega

theorem nextTo_ge (l : List TF) (n : Int) (m : Nat) : -1 ≤ nextTo l n m ∧ nextTo l n m < m := by
  rcases nextTo_spec l n m with ⟨h1, _⟩ | ⟨k, h1, h2, _⟩ <;> omega

theorem compareInt_lt {a b : Int} : compareInt a b < 0 ↔ a < b := by
  unfold compareInt
  split
  · simp; omega
  · split
    · simp; omega
    · simp; omega

theorem leF_iff (x y : TF) : leF x y = true ↔ fNum x ≤ fNum y := by
  simp only [leF, Bool.not_eq_true', decide_eq_false_iff_not, compareInt_lt]; omega

theorem sortT_lt {l : List TF} (hn : (l.map fNum).Nodup) {i j : Nat} (hij : i < j) (hj : j < (sortT l).length) : fNum ((sortT l).getD i default) < fNum ((sortT l).getD j default) := by
  have hs : (sortT l).Pairwise (fun a b => leF a b = true) := by
    unfold sortT
    exact List.pairwise_mergeSort (fun a b c h1 h2 => by rw [leF_iff] at *; omega) (fun a b => by
      rw [Bool.or_eq_true, leF_iff, leF_iff]; omega) l
  have hp : (sortT l).Perm l := by unfold sortT; exact List.mergeSort_perm ..
  have hd : ((sortT l).map fNum).Nodup := (hp.map fNum).nodup_iff.2 hn
  have hi : i < (sortT l).length := by omega
  have h1 := List.pairwise_iff_getElem.1 hs i j hi hj hij
  rw [leF_iff] at h1
  have h2 : fNum (sortT l)[i] ≠ fNum (sortT l)[j] := by
    have := (List.pairwise_map.1 hd)
    exact List.pairwise_iff_getElem.1 this i j hi hj hij
  simp only [List.getD_eq_getElem?_getD, List.getElem?_eq_getElem hi, List.getElem?_eq_getElem hj, Option.getD_some]
  omega

theorem next_sorted {l : List TF} (hn : (l.map fNum).Nodup) (h0 : ∀ f ∈ l, 0 < fNum f) (j : Nat) (hj : j < l.length) :
    ∃ k : Nat, nextI l (if j = 0 then 0 else fNum ((sortT l).getD (j - 1) default)) = k ∧ k < l.length ∧ l.getD k default = (sortT l).getD j default := by
  have hlen := sortT_len l
  have hjm : (sortT l).getD j default ∈ l := sortT_mem.1 (getD_in (by omega))
  have hb : (if j = 0 then 0 else fNum ((sortT l).getD (j - 1) default)) < fNum ((sortT l).getD j default) := by
    split
    · exact h0 _ hjm
    · exact sortT_lt hn (by omega) (by omega)
  obtain ⟨i, hi, hie⟩ := List.getElem_of_mem hjm
  have hig : l.getD i default = (sortT l).getD j default := by rw [List.getD_eq_getElem?_getD, List.getElem?_eq_getElem hi, Option.getD_some, hie]
  rcases nextTo_spec l (if j = 0 then 0 else fNum ((sortT l).getD (j - 1) default)) l.length with ⟨h1, h2⟩ | ⟨k, h1, h2, h3, h4⟩
  · have := h2 i hi
    rw [hig] at this; omega
  · refine ⟨k, h1, h2, ?_⟩
    have hkm : l.getD k default ∈ sortT l := sortT_mem.2 (getD_in h2)
    obtain ⟨m, hm, hme⟩ := List.getElem_of_mem hkm
    have hmg : (sortT l).getD m default = l.getD k default := by rw [List.getD_eq_getElem?_getD, List.getElem?_eq_getElem hm, Option.getD_some, hme]
    have h5 := h4 i hi (by rw [hig]; exact hb)
    rw [hig] at h5
    rw [← hmg] at h3 h5
    have hmj : m = j := by
      rcases Nat.lt_trichotomy m j with q | q | q
      · exfalso
        rw [if_neg (by omega)] at h3
        rcases Nat.lt_or_eq_of_le (show m ≤ j - 1 by omega) with q2 | q2
        · have := sortT_lt hn q2 (show j - 1 < (sortT l).length by omega); omega
        · rw [q2] at h3; omega
      · exact q
      · have := sortT_lt hn q hm; omega
    rw [← hmg, hmj]
theorem next_end {l : List TF} (hn : (l.map fNum).Nodup) (h0 : ∀ f ∈ l, 0 < fNum f) : nextI l (if l.length = 0 then 0 else fNum ((sortT l).getD (l.length - 1) default)) = -1 := by
  have hlen := sortT_len l
  rcases nextTo_spec l (if l.length = 0 then 0 else fNum ((sortT l).getD (l.length - 1) default)) l.length with ⟨h1, h2⟩ | ⟨k, h1, h2, h3, h4⟩
  · exact h1
  · exfalso
    have hkm : l.getD k default ∈ sortT l := sortT_mem.2 (getD_in h2)
    obtain ⟨m, hm, hme⟩ := List.getElem_of_mem hkm
    have hmg : (sortT l).getD m default = l.getD k default := by rw [List.getD_eq_getElem?_getD, List.getElem?_eq_getElem hm, Option.getD_some, hme]
    rw [if_neg (by omega), ← hmg] at h3
    rcases Nat.lt_or_eq_of_le (show m ≤ l.length - 1 by omega) with q2 | q2
    · have := sortT_lt hn q2 (show l.length - 1 < (sortT l).length by omega); omega
    · rw [q2] at h3; omega
end Go.Ai

namespace Go.Ai
open Go Go.Proofs
set_option maxRecDepth 100000
set_option maxHeartbeats 4000000

theorem next_ok (e d : Nat) (t : Ty) (n : Int) (ht : Ty.le e (d + 1) t) : AFun Tryz.prog 48 [encT e (d + 1) .any fun _ => t, .int .i64 fun _ => n] [] (.int .i64 fun _ => nextI t.fields n) [] := by
  have hl := ht.2.2.2.1
  (apply AFun.of T4_ok mixed4 [.tmp 4] kp48 [(0, [(0, .nil, [])])] Tryz.func48 (fun _ => ?_); (any_goals ((with_reducible refine wk_id ?_); cbv; (try dsimp only [nc] at *); (repeat' (with_reducible first | exact all_nil.2 trivial | exact ob_nil | refine ob_cons ?_ ?_ | refine VC.mk rfl ?_ ?_ ?_ | refine CondAny.mk (fun _ => ?_) (fun _ => ?_) | (refine CondVC.mk ?_ ?_ <;> intro zq <;> (try simp only [nc, bytes_empty, if_or, if_and] at zq) <;> (try simp only [bl, dl] at zq) <;> (revert zq; intro _)) | (refine end_exit ?_; cbv; (try dsimp only [nc] at *)) | (refine end_out ?_; cbv; (try dsimp only [nc] at *)))))))
  ((all_goals (try (with_reducible ((first | refine end_ret ?_ | refine end_normal ?_); (focus (cbv; (try dsimp only [nc] at *); (try simp only [all_nil, all_cons, and_true, true_and, nc]); (try (repeat' (with_reducible apply And.intro))); (all_goals (try first | rfl | exact fun _ _ => LeL.of_eq rfl | exact LeL.of_eq rfl | trivial | omega)))))))); (all_goals (try (focus ((with_reducible rw [all_cons]); (try simp only [all_cons, all_nil, and_true, nc]); (repeat' (with_reducible apply And.intro)); (all_goals (try first | exact True.intro | exact fun _ _ h => h | exact fun _ h => h | exact fun h => h | exact pick_t | exact pick_f | omega | (focus (intros; (try simp only [nc, bytes_empty, if_or, if_and] at *); (try simp only [bl, beq_true, beq_false, dl] at *); (try simp (disch := omega) only [w64] at *); (first | omega | assumption | ((repeat' (with_reducible apply And.intro)) <;> first | omega | assumption)))))))))))
  refine .loop (fun i : Nat => ⟨43, [(6, .int .i64 fun _ => i), (5, .int .i64 fun _ => nextTo t.fields n i), (2, boxT e (d + 1) fun _ => t), (1, .int .i64 fun _ => n)], []⟩)
    (fun i => i ≤ t.fields.length) (fun i => t.fields.length - i) 0 (by simp) ?_ fun i E hi => ?_
  · (focus (cbv; (try dsimp only [nc] at *); (try simp only [all_nil, all_cons, and_true, true_and, nc]); (try (repeat' (with_reducible apply And.intro))); (all_goals (try first | rfl | exact fun _ _ => LeL.of_eq rfl | exact LeL.of_eq rfl | trivial | omega))))
  have hge := nextTo_ge t.fields n i
  apply AWp.wk T4_ok mixed4 [] kp48 ?_
  (any_goals ((with_reducible refine wk_id ?_); cbv; (try dsimp only [nc] at *); (repeat' (with_reducible first | exact all_nil.2 trivial | exact ob_nil | refine ob_cons ?_ ?_ | refine VC.mk rfl ?_ ?_ ?_ | refine CondAny.mk (fun _ => ?_) (fun _ => ?_) | (refine CondVC.mk ?_ ?_ <;> intro zq <;> (try simp only [nc, bytes_empty, if_or, if_and] at zq) <;> (try simp only [bl, dl] at zq) <;> (revert zq; intro _)) | (refine end_exit ?_; cbv; (try dsimp only [nc] at *)) | (refine end_out ?_; cbv; (try dsimp only [nc] at *))))))
  ((all_goals (try (with_reducible ((first | refine end_ret ?_ | refine end_normal ?_); (focus (cbv; (try dsimp only [nc] at *); (try simp only [all_nil, all_cons, and_true, true_and, nc]); (try (repeat' (with_reducible apply And.intro))); (all_goals (try first | rfl | exact fun _ _ => LeL.of_eq rfl | exact LeL.of_eq rfl | trivial | omega)))))))); (all_goals (try (focus ((with_reducible rw [all_cons]); (try simp only [all_cons, all_nil, and_true, nc]); (repeat' (with_reducible apply And.intro)); (all_goals (try first | exact True.intro | exact fun _ _ h => h | exact fun _ h => h | exact fun h => h | exact pick_t | exact pick_f | omega | (focus (intros; (try simp only [nc, bytes_empty, if_or, if_and] at *); (try simp only [bl, beq_true, beq_false, dl] at *); (try simp (disch := omega) only [w64] at *); (first | omega | assumption | ((repeat' (with_reducible apply And.intro)) <;> first | omega | assumption)))))))))))
  · have hs : nextTo t.fields n (i + 1) = i := by simp only [nextTo]; rw [if_pos ‹_ ∧ _›]
    refine end_round (i + 1) ⟨by omega, by omega⟩ ?_
    (focus (cbv; (try dsimp only [nc] at *); (try simp only [all_nil, all_cons, and_true, true_and, nc]); (try (repeat' (with_reducible apply And.intro))); (all_goals (try first | rfl | exact fun _ _ => LeL.of_eq rfl | exact LeL.of_eq rfl | trivial | omega))))
    all_goals first
      | exact w64n (by omega)
      | exact hs.symm
  · have hs : nextTo t.fields n (i + 1) = nextTo t.fields n i := by
      simp only [nextTo]
      rw [if_neg (fun q => by rcases ‹_ ∨ _› with z | z <;> omega)]
    refine end_round (i + 1) ⟨by omega, by omega⟩ ?_
    (focus (cbv; (try dsimp only [nc] at *); (try simp only [all_nil, all_cons, and_true, true_and, nc]); (try (repeat' (with_reducible apply And.intro))); (all_goals (try first | rfl | exact fun _ _ => LeL.of_eq rfl | exact LeL.of_eq rfl | trivial | omega))))
    all_goals first
      | exact w64n (by omega)
      | exact hs.symm
  · have : i = t.fields.length := by omega
    rw [nextI, this]

theorem refEnc_flat (e d c : Nat) (t : Ty) (v : V) (hk : 1 ≤ t.kind ∧ t.kind ≤ 7) (ht : Ty.le e (d + 1) t) (hb : t.kind = 1 → 0 ≤ v.int ∧ v.int ≤ 1) (hi : -999999999999999 ≤ v.int ∧ v.int ≤ 999999999999999) (hs : v.text.size ≤ 1073741824) :
    AFun Tryz.prog 20 [encT e (d + 1) .any fun _ => t, encV c .any fun _ => v] [] (.str fun _ => baL (encN (d + 1) t v)) [] := by
  obtain ⟨m, hm⟩ : ∃ m : Nat, zigI v.int = m := ⟨(zigI v.int).toNat, by simp only [zigI]; omega⟩
  have hm2 : m < 4611686018427387904 := by simp only [zigI] at hm; omega
  obtain ⟨R, hR⟩ : ∃ R, R = baL (encN (d + 1) t v) := ⟨_, rfl⟩
  rw [← hR]
  (apply AFun.of T4_ok mixed4 [.tmp 4] kp20 [(0, [(0, .nil, []), (1, .nil, [])]), (6, [(3, .str fun _ => baL (putN v.text.size), [])]), (8, [(3, .str fun _ => ⟨#[]⟩, [])]), (15, [(5, .int .i64 fun _ => 0, [])]), (16, [(6, .str fun _ => ⟨#[]⟩, [])]), (17, [(2, .str fun _ => ⟨#[]⟩, []), (5, .str fun _ => ⟨#[]⟩, [])]), (19, [(3, .str fun _ => ⟨#[]⟩, [])]), (20, [(1, .int .i64 fun _ => 0, [])]), (28, [(2, .int .i64 fun _ => m, []), (3, .str fun _ => baL (putN m), [])])] Tryz.func20 (fun _ => ?_); (any_goals ((with_reducible refine wk_id ?_); cbv; (try dsimp only [nc] at *); (repeat' (with_reducible first | exact all_nil.2 trivial | exact ob_nil | refine ob_cons ?_ ?_ | refine VC.mk rfl ?_ ?_ ?_ | refine CondAny.mk (fun _ => ?_) (fun _ => ?_) | (refine CondVC.mk ?_ ?_ <;> intro zq <;> (try simp only [nc, bytes_empty, if_or, if_and] at zq) <;> (try simp only [bl, dl] at zq) <;> (revert zq; intro _)) | (refine end_exit ?_; cbv; (try dsimp only [nc] at *)) | (refine end_out ?_; cbv; (try dsimp only [nc] at *)))))))
  all_goals (try (exfalso; omega))
  ((all_goals (try (with_reducible ((first | refine end_ret ?_ | refine end_normal ?_); (focus (cbv; (try dsimp only [nc] at *); (try simp only [all_nil, all_cons, and_true, true_and, nc]); (try (repeat' (with_reducible apply And.intro))); (all_goals (try first | rfl | exact fun _ _ => LeL.of_eq rfl | exact LeL.of_eq rfl | trivial | omega)))))))); (all_goals (try (focus ((with_reducible rw [all_cons]); (try simp only [all_cons, all_nil, and_true, nc]); (repeat' (with_reducible apply And.intro)); (all_goals (try first | exact True.intro | exact fun _ _ h => h | exact fun _ h => h | exact fun h => h | exact pick_t | exact pick_f | omega | (focus (intros; (try simp only [nc, bytes_empty, if_or, if_and] at *); (try simp only [bl, beq_true, beq_false, dl] at *); (try simp (disch := omega) only [w64] at *); (first | omega | assumption | ((repeat' (with_reducible apply And.intro)) <;> first | omega | assumption)))))))))))
  · exact fun i hi => isByte_one i hi
  · have hb := hb ‹t.kind = 1›
    rw [hR]; simp only [encN]; rw [if_pos ‹t.kind = 1›]
    have e1 : IntKind.u8.wrap v.int = ((v.int.toNat : Nat) : Int) := by rw [u8 (by omega) (by omega)]; omega
    rw [e1]; exact bytesA_one _
  · have := putN_le9 (n := v.text.size) (by omega)
    rw [baL_size]; omega
  · exact hob_none (refPut_ok v.text.size (by omega))
  · rw [hR]; simp only [encN]; rw [if_neg (by omega), if_neg (by omega), if_pos (by omega), baL_app, baL_strN]
  · have := putN_le9 (n := v.text.size) (by omega)
    rw [baL_size]; omega
  · exact hob_none (refPut_ok v.text.size (by omega))
  · rw [hR]; simp only [encN]; rw [if_neg (by omega), if_neg (by omega), if_pos (by omega), baL_app, baL_strN]
  · have q := refZigzag_ok v.int (by omega) (by omega)
    rw [hm] at q
    exact hob_none q
  · exact hob_none (refPut_ok m (by omega))
  · rw [hR]; simp only [encN]; rw [if_neg (by omega), if_pos (by omega), hm, Int.toNat_natCast]

theorem refEnc_list (e d c : Nat) (t : Ty) (v : V) (hk : t.kind = 8) (ht : Ty.le e (d + 1) t) (h1 : 0 < t.elem.length) (hl : v.list.length ≤ 1073741824) (hsz : (encN (d + 1) t v).length ≤ 35184372000000)
    (ih : ∀ x ∈ v.list, AFun Tryz.prog 20 [encT e d .any fun _ => t.elem.getD 0 default, encV c .any fun _ => x] [] (.str fun _ => baL (encN d (t.elem.getD 0 default) x)) []) :
    AFun Tryz.prog 20 [encT e (d + 1) .any fun _ => t, encV (c + 1) .any fun _ => v] [] (.str fun _ => baL (encN (d + 1) t v)) [] := by
  obtain ⟨g, hg⟩ : ∃ g, g = fun i => encN d (t.elem.getD 0 default) (v.list.getD i default) := ⟨_, rfl⟩
  obtain ⟨r1, hr1⟩ : ∃ r1, r1 = putN v.list.length := ⟨_, rfl⟩
  obtain ⟨R, hR⟩ : ∃ R, R = encN (d + 1) t v := ⟨_, rfl⟩
  have hRe : R = r1 ++ concatTo g v.list.length := by
    rw [hR, hr1, hg]; simp only [encN]; rw [if_neg (by omega), if_neg (by omega), if_neg (by omega), if_pos (by omega)]
  rw [← hR] at hsz
  rw [← hR]
  have hP := refPut_ok v.list.length (by omega)
  rw [← hr1] at hP
  clear hr1
  (apply AFun.of T4_ok mixed4 [.tmp 4] kp20 [(0, [(0, .nil, []), (1, .nil, [])]), (6, [(3, .str fun _ => ⟨#[]⟩, [])]), (8, [(3, .str fun _ => baL r1, [])]), (15, [(5, .int .i64 fun _ => 0, [])]), (16, [(6, .str fun _ => ⟨#[]⟩, [])]), (17, [(2, .str fun _ => ⟨#[]⟩, []), (5, .str fun _ => ⟨#[]⟩, [])]), (19, [(3, .str fun _ => ⟨#[]⟩, [])]), (20, [(1, .int .i64 fun _ => 0, [])]), (28, [(2, .int .i64 fun _ => 0, []), (3, .str fun _ => ⟨#[]⟩, [])])] Tryz.func20 (fun _ => ?_); (any_goals ((with_reducible refine wk_id ?_); cbv; (try dsimp only [nc] at *); (repeat' (with_reducible first | exact all_nil.2 trivial | exact ob_nil | refine ob_cons ?_ ?_ | refine VC.mk rfl ?_ ?_ ?_ | refine CondAny.mk (fun _ => ?_) (fun _ => ?_) | (refine CondVC.mk ?_ ?_ <;> intro zq <;> (try simp only [nc, bytes_empty, if_or, if_and] at zq) <;> (try simp only [bl, dl] at zq) <;> (revert zq; intro _)) | (refine end_exit ?_; cbv; (try dsimp only [nc] at *)) | (refine end_out ?_; cbv; (try dsimp only [nc] at *)))))))
  all_goals (try (exfalso; omega))
  (any_goals ((with_reducible first | refine hob_none ?_ | refine hob_some (fun _ => ?_)) <;> exact hP))
  ((all_goals (try (with_reducible ((first | refine end_ret ?_ | refine end_normal ?_); (focus (cbv; (try dsimp only [nc] at *); (try simp only [all_nil, all_cons, and_true, true_and, nc]); (try (repeat' (with_reducible apply And.intro))); (all_goals (try first | rfl | exact fun _ _ => LeL.of_eq rfl | exact LeL.of_eq rfl | trivial | omega)))))))); (all_goals (try (focus ((with_reducible rw [all_cons]); (try simp only [all_cons, all_nil, and_true, nc]); (repeat' (with_reducible apply And.intro)); (all_goals (try first | exact True.intro | exact fun _ _ h => h | exact fun _ h => h | exact fun h => h | exact pick_t | exact pick_f | omega | (focus (intros; (try simp only [nc, bytes_empty, if_or, if_and] at *); (try simp only [bl, beq_true, beq_false, dl] at *); (try simp (disch := omega) only [w64] at *); (first | omega | assumption | ((repeat' (with_reducible apply And.intro)) <;> first | omega | assumption)))))))))))
  refine .loop (fun i : Nat => ⟨145, [(6, .int .i64 fun _ => i), (5, .str fun _ => baL (r1 ++ concatTo g i)), (3, boxW (c + 1) fun _ => v), (2, boxT e (d + 1) fun _ => t)], []⟩)
    (fun i => i ≤ v.list.length) (fun i => v.list.length - i) 0 (by simp) ?_ fun i E hi => ?_
  · simp only [concatTo, List.append_nil]
    (focus (cbv; (try dsimp only [nc] at *); (try simp only [all_nil, all_cons, and_true, true_and, nc]); (try (repeat' (with_reducible apply And.intro))); (all_goals (try first | rfl | exact fun _ _ => LeL.of_eq rfl | exact LeL.of_eq rfl | trivial | omega))))
  have hle := concatTo_le (g := g) i hi
  have hlen := congrArg List.length hRe
  rw [List.length_append] at hlen
  by_cases h : i < v.list.length
  · obtain ⟨x, hx⟩ : ∃ x, x = v.list.getD i default := ⟨_, rfl⟩
    have hxm : x ∈ v.list := by rw [hx]; exact getD_in h
    obtain ⟨q, hq⟩ : ∃ q, q = encN d (t.elem.getD 0 default) x := ⟨_, rfl⟩
    have hgi : g i = q := by rw [hg, hq, hx]
    have hih := ih x hxm
    rw [← hq] at hih
    have hle2 := concatTo_le (g := g) (i + 1) (show i + 1 ≤ v.list.length by omega)
    simp only [concatTo, List.length_append, hgi] at hle2
    apply AWp.wk T4_ok mixed4 [(12, [(10, .str fun _ => baL q, [])])] kp20 ?_
    (any_goals ((with_reducible refine wk_id ?_); cbv; (try dsimp only [nc] at *); (repeat' (with_reducible first | exact all_nil.2 trivial | exact ob_nil | refine ob_cons ?_ ?_ | refine VC.mk rfl ?_ ?_ ?_ | refine CondAny.mk (fun _ => ?_) (fun _ => ?_) | (refine CondVC.mk ?_ ?_ <;> intro zq <;> (try simp only [nc, bytes_empty, if_or, if_and] at zq) <;> (try simp only [bl, dl] at zq) <;> (revert zq; intro _)) | (refine end_exit ?_; cbv; (try dsimp only [nc] at *)) | (refine end_out ?_; cbv; (try dsimp only [nc] at *))))))
    all_goals (try exact absurd h (Nat.not_lt.2 ‹v.list.length ≤ i›))
    all_goals (try simp only [Int.toNat_natCast, ← hx])
    (any_goals ((with_reducible first | refine hob_none ?_ | refine hob_some (fun _ => ?_)); (try dsimp only); (have q := hih; refine AFun.weak_in q ?_; clear q); (focus (cbv; (try dsimp only [nc] at *); (try simp only [all_nil, all_cons, and_true, true_and, nc]); (try (repeat' (with_reducible apply And.intro))); (all_goals (try first | rfl | exact fun _ _ => LeL.of_eq rfl | exact LeL.of_eq rfl | trivial | omega))))))
    ((all_goals (try (with_reducible ((first | refine end_ret ?_ | refine end_normal ?_); (focus (cbv; (try dsimp only [nc] at *); (try simp only [all_nil, all_cons, and_true, true_and, nc]); (try (repeat' (with_reducible apply And.intro))); (all_goals (try first | rfl | exact fun _ _ => LeL.of_eq rfl | exact LeL.of_eq rfl | trivial | omega)))))))); (all_goals (try (focus ((with_reducible rw [all_cons]); (try simp only [all_cons, all_nil, and_true, nc]); (repeat' (with_reducible apply And.intro)); (all_goals (try first | exact True.intro | exact fun _ _ h => h | exact fun _ h => h | exact fun h => h | exact pick_t | exact pick_f | omega | (focus (intros; (try simp only [nc, bytes_empty, if_or, if_and] at *); (try simp only [bl, beq_true, beq_false, dl] at *); (try simp (disch := omega) only [w64] at *); (first | omega | assumption | ((repeat' (with_reducible apply And.intro)) <;> first | omega | assumption)))))))))))
    · rw [baL_size, baL_size, List.length_append]; omega
    refine end_round (i + 1) ⟨by omega, by omega⟩ ?_
    (focus (cbv; (try dsimp only [nc] at *); (try simp only [all_nil, all_cons, and_true, true_and, nc]); (try (repeat' (with_reducible apply And.intro))); (all_goals (try first | rfl | exact fun _ _ => LeL.of_eq rfl | exact LeL.of_eq rfl | trivial | omega))))
    · exact w64n (by omega)
    · simp only [concatTo]; rw [← List.append_assoc, hgi, baL_app (r1 ++ concatTo g i)]
  · have hie : i = v.list.length := by omega
    apply AWp.wk T4_ok mixed4 [(12, [(10, .str fun _ => ⟨#[]⟩, [])])] kp20 ?_
    (any_goals ((with_reducible refine wk_id ?_); cbv; (try dsimp only [nc] at *); (repeat' (with_reducible first | exact all_nil.2 trivial | exact ob_nil | refine ob_cons ?_ ?_ | refine VC.mk rfl ?_ ?_ ?_ | refine CondAny.mk (fun _ => ?_) (fun _ => ?_) | (refine CondVC.mk ?_ ?_ <;> intro zq <;> (try simp only [nc, bytes_empty, if_or, if_and] at zq) <;> (try simp only [bl, dl] at zq) <;> (revert zq; intro _)) | (refine end_exit ?_; cbv; (try dsimp only [nc] at *)) | (refine end_out ?_; cbv; (try dsimp only [nc] at *))))))
    all_goals (try exact absurd ‹i < v.list.length› h)
    ((all_goals (try (with_reducible ((first | refine end_ret ?_ | refine end_normal ?_); (focus (cbv; (try dsimp only [nc] at *); (try simp only [all_nil, all_cons, and_true, true_and, nc]); (try (repeat' (with_reducible apply And.intro))); (all_goals (try first | rfl | exact fun _ _ => LeL.of_eq rfl | exact LeL.of_eq rfl | trivial | omega)))))))); (all_goals (try (focus ((with_reducible rw [all_cons]); (try simp only [all_cons, all_nil, and_true, nc]); (repeat' (with_reducible apply And.intro)); (all_goals (try first | exact True.intro | exact fun _ _ h => h | exact fun _ h => h | exact fun h => h | exact pick_t | exact pick_f | omega | (focus (intros; (try simp only [nc, bytes_empty, if_or, if_and] at *); (try simp only [bl, beq_true, beq_false, dl] at *); (try simp (disch := omega) only [w64] at *); (first | omega | assumption | ((repeat' (with_reducible apply And.intro)) <;> first | omega | assumption)))))))))))
    rw [hRe, hie]

theorem refEnc_var (e d c : Nat) (t : Ty) (v : V) (hk : t.kind = 10) (ht : Ty.le e (d + 1) t) (h1 : 0 < v.list.length) (hf : 0 ≤ idxI (byName v.text) t.fields) (n : Nat) (hn : fNum (getTF t (byName v.text)) = n) (hn2 : n < 1073741824) (hsz : (encN (d + 1) t v).length ≤ 35184372000000)
    (ih : AFun Tryz.prog 20 [encT e d .any fun _ => fTyp (getTF t (byName v.text)), encV c .any fun _ => v.list.getD 0 default] [] (.str fun _ => baL (encN d (fTyp (getTF t (byName v.text))) (v.list.getD 0 default))) []) :
    AFun Tryz.prog 20 [encT e (d + 1) .any fun _ => t, encV (c + 1) .any fun _ => v] [] (.str fun _ => baL (encN (d + 1) t v)) [] := by
  have hlt := idxI_lt (p := byName v.text) (l := t.fields)
  have hF := refFieldT_ok e d t ht v.text
  obtain ⟨k, hk2⟩ : ∃ k, k = idxI (byName v.text) t.fields := ⟨_, rfl⟩
  have hgk : t.fields.getD k.toNat default = getTF t (byName v.text) := by rw [hk2]; rfl
  rw [← hk2] at hF hlt hf
  obtain ⟨f, hf2⟩ : ∃ f, f = getTF t (byName v.text) := ⟨_, rfl⟩
  rw [← hf2] at hn ih hgk
  obtain ⟨q, hq⟩ : ∃ q, q = encN d (fTyp f) (v.list.getD 0 default) := ⟨_, rfl⟩
  rw [← hq] at ih
  obtain ⟨R, hR⟩ : ∃ R, R = encN (d + 1) t v := ⟨_, rfl⟩
  have hRe : R = putN n ++ (putN q.length ++ q) := by
    rw [hR]; simp only [encN]; rw [if_neg (by omega), if_neg (by omega), if_neg (by omega), if_neg (by omega), if_neg (by omega), if_pos (by omega), ← hf2, hn, Int.toNat_natCast, ← hq]; rfl
  rw [← hR] at hsz
  rw [← hR]
  have hlen := congrArg List.length hRe
  simp only [List.length_append] at hlen
  have hP := refPut_ok n (by omega)
  rw [← hn] at hP
  have hP2 := refPut_ok q.length (by omega)
  (apply AFun.of T4_ok mixed4 [.tmp 4] kp20 [(0, [(0, .nil, []), (1, .nil, [])]), (6, [(3, .str fun _ => ⟨#[]⟩, [])]), (8, [(3, .str fun _ => ⟨#[]⟩, [])]), (15, [(5, .int .i64 fun _ => k, [])]), (16, [(6, .str fun _ => baL q, [])]), (17, [(2, .str fun _ => baL (putN n), []), (5, .str fun _ => baL (putN q.length), [])]), (19, [(3, .str fun _ => ⟨#[]⟩, [])]), (20, [(1, .int .i64 fun _ => 0, [])]), (28, [(2, .int .i64 fun _ => 0, []), (3, .str fun _ => ⟨#[]⟩, [])])] Tryz.func20 (fun _ => ?_); (any_goals ((with_reducible refine wk_id ?_); cbv; (try dsimp only [nc] at *); (repeat' (with_reducible first | exact all_nil.2 trivial | exact ob_nil | refine ob_cons ?_ ?_ | refine VC.mk rfl ?_ ?_ ?_ | refine CondAny.mk (fun _ => ?_) (fun _ => ?_) | (refine CondVC.mk ?_ ?_ <;> intro zq <;> (try simp only [nc, bytes_empty, if_or, if_and] at zq) <;> (try simp only [bl, dl] at zq) <;> (revert zq; intro _)) | (refine end_exit ?_; cbv; (try dsimp only [nc] at *)) | (refine end_out ?_; cbv; (try dsimp only [nc] at *)))))))
  all_goals (try (exfalso; omega))
  all_goals (try simp only [hgk])
  (any_goals ((with_reducible first | refine hob_none ?_ | refine hob_some (fun _ => ?_)); (try dsimp only); (have q := hF; refine AFun.weak_in q ?_; clear q); (focus (cbv; (try dsimp only [nc] at *); (try simp only [all_nil, all_cons, and_true, true_and, nc]); (try (repeat' (with_reducible apply And.intro))); (all_goals (try first | rfl | exact fun _ _ => LeL.of_eq rfl | exact LeL.of_eq rfl | trivial | omega))))))
  (any_goals ((with_reducible first | refine hob_none ?_ | refine hob_some (fun _ => ?_)); (try dsimp only); (have q := ih; refine AFun.weak_in q ?_; clear q); (focus (cbv; (try dsimp only [nc] at *); (try simp only [all_nil, all_cons, and_true, true_and, nc]); (try (repeat' (with_reducible apply And.intro))); (all_goals (try first | rfl | exact fun _ _ => LeL.of_eq rfl | exact LeL.of_eq rfl | trivial | omega))))))
  (any_goals ((with_reducible first | refine hob_none ?_ | refine hob_some (fun _ => ?_)); (try dsimp only); (have q := hP; refine AFun.weak_in q ?_; clear q); (focus (cbv; (try dsimp only [nc] at *); (try simp only [all_nil, all_cons, and_true, true_and, nc]); (try (repeat' (with_reducible apply And.intro))); (all_goals (try first | rfl | exact fun _ _ => LeL.of_eq rfl | exact LeL.of_eq rfl | trivial | omega))))))
  (any_goals ((with_reducible first | refine hob_none ?_ | refine hob_some (fun _ => ?_)); (try dsimp only); (have q := hP2; refine AFun.weak_in q ?_; clear q); (focus (cbv; (try dsimp only [nc] at *); (try simp only [all_nil, all_cons, and_true, true_and, nc]); (try (repeat' (with_reducible apply And.intro))); (all_goals (try first | rfl | exact fun _ _ => LeL.of_eq rfl | exact LeL.of_eq rfl | trivial | omega))))))
  ((all_goals (try (with_reducible ((first | refine end_ret ?_ | refine end_normal ?_); (focus (cbv; (try dsimp only [nc] at *); (try simp only [all_nil, all_cons, and_true, true_and, nc]); (try (repeat' (with_reducible apply And.intro))); (all_goals (try first | rfl | exact fun _ _ => LeL.of_eq rfl | exact LeL.of_eq rfl | trivial | omega)))))))); (all_goals (try (focus ((with_reducible rw [all_cons]); (try simp only [all_cons, all_nil, and_true, nc]); (repeat' (with_reducible apply And.intro)); (all_goals (try first | exact True.intro | exact fun _ _ h => h | exact fun _ h => h | exact fun h => h | exact pick_t | exact pick_f | omega | (focus (intros; (try simp only [nc, bytes_empty, if_or, if_and] at *); (try simp only [bl, beq_true, beq_false, dl] at *); (try simp (disch := omega) only [w64] at *); (first | omega | assumption | ((repeat' (with_reducible apply And.intro)) <;> first | omega | assumption)))))))))))
  · rw [baL_size, baL_size]; omega
  · rw [← baL_app, baL_size, baL_size, List.length_append]; omega
  · rw [baL_size]
  · rw [hRe, baL_app, baL_app, ByteArray.append_assoc]

theorem refEnc_rec (e d c : Nat) (t : Ty) (v : V) (hk : t.kind = 9) (hvk : v.kind = 9) (ht : Ty.le e (d + 1) t) (hown : ownT t = 0) (hv : V.le (c + 1) v) (hsz : (encN (d + 1) t v).length ≤ 35184372000000)
    (ih : ∀ f ∈ t.fields, 0 ≤ findI v (fName f) → AFun Tryz.prog 20 [encT e d .any fun _ => fTyp f, encV c .any fun _ => fieldV v (fName f)] [] (.str fun _ => baL (encN d (fTyp f) (fieldV v (fName f)))) []) :
    AFun Tryz.prog 20 [encT e (d + 1) .any fun _ => t, encV (c + 1) .any fun _ => v] [] (.str fun _ => baL (encN (d + 1) t v)) [] := by
  have hnd := (ownT_nodup hown (.inl hk)).1
  have h0 : ∀ f ∈ t.fields, 0 < fNum f := fun f hf => by have := ownT_num hown (.inl hk) hf; omega
  have hlf := ht.2.2.2.1
  have hslen := sortT_len t.fields
  obtain ⟨s, hs⟩ : ∃ s, s = sortT t.fields := ⟨_, rfl⟩
  obtain ⟨q, hq⟩ : ∃ q : TF → List Nat, q = fun f => encN d (fTyp f) (fieldV v (fName f)) := ⟨_, rfl⟩
  obtain ⟨g, hg⟩ : ∃ g, g = fun i => fldN v (fun f => wholeN (q f)) (s.getD i default) := ⟨_, rfl⟩
  obtain ⟨r1, hr1⟩ : ∃ r1, r1 = putN v.fields.length := ⟨_, rfl⟩
  obtain ⟨R, hR⟩ : ∃ R, R = encN (d + 1) t v := ⟨_, rfl⟩
  have hRe : R = r1 ++ concatTo g t.fields.length := by
    rw [hR, hr1, hg, hs, hq]; simp only [encN]; rw [if_neg (by omega), if_neg (by omega), if_neg (by omega), if_neg (by omega), if_pos (by omega)]
  rw [← hR] at hsz
  rw [← hR]
  have hlen := congrArg List.length hRe
  rw [List.length_append] at hlen
  have hvl := hv.2.1
  have hP := refPut_ok v.fields.length (by omega)
  rw [← hr1] at hP
  clear hr1
  obtain ⟨B, hB⟩ : ∃ B : Nat → Int, B = fun j => nextI t.fields (if j = 0 then 0 else fNum (s.getD (j - 1) default)) := ⟨_, rfl⟩
  have hB0 : nextI t.fields 0 = B 0 := by rw [hB]; rfl
  have hN0 := next_ok e d t 0 ht
  rw [hB0] at hN0
  have hBj : ∀ j, j < t.fields.length → ∃ k : Nat, B j = k ∧ k < t.fields.length ∧ t.fields.getD k default = s.getD j default := fun j hj => by
    rw [hB, hs]; exact next_sorted hnd h0 j hj
  have hBe : B t.fields.length = -1 := by rw [hB, hs]; exact next_end hnd h0
  (apply AFun.of T4_ok mixed4 [.tmp 4] kp20 [(0, [(0, .nil, []), (1, .nil, [])]), (6, [(3, .str fun _ => ⟨#[]⟩, [])]), (8, [(3, .str fun _ => ⟨#[]⟩, [])]), (15, [(5, .int .i64 fun _ => 0, [])]), (16, [(6, .str fun _ => ⟨#[]⟩, [])]), (17, [(2, .str fun _ => ⟨#[]⟩, []), (5, .str fun _ => ⟨#[]⟩, [])]), (19, [(3, .str fun _ => baL r1, [])]), (20, [(1, .int .i64 fun _ => B 0, [])]), (28, [(2, .int .i64 fun _ => 0, []), (3, .str fun _ => ⟨#[]⟩, [])])] Tryz.func20 (fun _ => ?_); (any_goals ((with_reducible refine wk_id ?_); cbv; (try dsimp only [nc] at *); (repeat' (with_reducible first | exact all_nil.2 trivial | exact ob_nil | refine ob_cons ?_ ?_ | refine VC.mk rfl ?_ ?_ ?_ | refine CondAny.mk (fun _ => ?_) (fun _ => ?_) | (refine CondVC.mk ?_ ?_ <;> intro zq <;> (try simp only [nc, bytes_empty, if_or, if_and] at zq) <;> (try simp only [bl, dl] at zq) <;> (revert zq; intro _)) | (refine end_exit ?_; cbv; (try dsimp only [nc] at *)) | (refine end_out ?_; cbv; (try dsimp only [nc] at *)))))))
  all_goals (try (exfalso; omega))
  (any_goals ((with_reducible first | refine hob_none ?_ | refine hob_some (fun _ => ?_)) <;> exact hP))
  (any_goals ((with_reducible first | refine hob_none ?_ | refine hob_some (fun _ => ?_)) <;> exact hN0))
  ((all_goals (try (with_reducible ((first | refine end_ret ?_ | refine end_normal ?_); (focus (cbv; (try dsimp only [nc] at *); (try simp only [all_nil, all_cons, and_true, true_and, nc]); (try (repeat' (with_reducible apply And.intro))); (all_goals (try first | rfl | exact fun _ _ => LeL.of_eq rfl | exact LeL.of_eq rfl | trivial | omega)))))))); (all_goals (try (focus ((with_reducible rw [all_cons]); (try simp only [all_cons, all_nil, and_true, nc]); (repeat' (with_reducible apply And.intro)); (all_goals (try first | exact True.intro | exact fun _ _ h => h | exact fun _ h => h | exact fun h => h | exact pick_t | exact pick_f | omega | (focus (intros; (try simp only [nc, bytes_empty, if_or, if_and] at *); (try simp only [bl, beq_true, beq_false, dl] at *); (try simp (disch := omega) only [w64] at *); (first | omega | assumption | ((repeat' (with_reducible apply And.intro)) <;> first | omega | assumption)))))))))))
  refine .loop (fun i : Nat => ⟨145, [(10, .int .i64 fun _ => B i), (9, .str fun _ => baL (r1 ++ concatTo g i)), (3, boxW (c + 1) fun _ => v), (2, boxT e (d + 1) fun _ => t)], []⟩)
    (fun i => i ≤ t.fields.length) (fun i => t.fields.length - i) 0 (by simp) ?_ fun i E hi => ?_
  · simp only [concatTo, List.append_nil]
    (focus (cbv; (try dsimp only [nc] at *); (try simp only [all_nil, all_cons, and_true, true_and, nc]); (try (repeat' (with_reducible apply And.intro))); (all_goals (try first | rfl | exact fun _ _ => LeL.of_eq rfl | exact LeL.of_eq rfl | trivial | omega))))
  by_cases h : i < t.fields.length
  · obtain ⟨k, hk1, hk2, hk3⟩ := hBj i h
    obtain ⟨f, hf⟩ : ∃ f, f = s.getD i default := ⟨_, rfl⟩
    rw [← hf] at hk3
    have hfm : f ∈ t.fields := by rw [← hk3]; exact getD_in hk2
    have hgi : g i = fldN v (fun f => wholeN (q f)) f := by rw [hg, hf]
    have hnum := ownT_num hown (.inl hk) hfm
    have hnx := next_ok e d t (fNum f) ht
    have hB1 : nextI t.fields (fNum f) = B (i + 1) := by rw [hB, hf]; simp
    rw [hB1] at hnx
    have hle := concatTo_le (g := g) (i + 1) (show i + 1 ≤ t.fields.length by omega)
    simp only [concatTo, List.length_append] at hle
    have hFd := Find_ok c v (fName f) hvl
    rw [if_pos hvk] at hFd
    rw [hk1]
    obtain ⟨z, hz⟩ : ∃ z, z = findI v (fName f) := ⟨_, rfl⟩
    have hzl : z < v.fields.length := by rw [hz]; exact idxI_lt
    rw [← hz] at hFd
    by_cases hF : 0 ≤ z
    · obtain ⟨p, hp⟩ : ∃ p, p = q f := ⟨_, rfl⟩
      have hih := ih f hfm (by omega)
      rw [show encN d (fTyp f) (fieldV v (fName f)) = p by rw [hp, hq]] at hih
      have hgp : g i = putN (fNum f).toNat ++ (putN p.length ++ p) := by
        rw [hgi, fldN, if_pos ⟨hvk, by omega⟩, hp]; rfl
      have hgl := congrArg List.length hgp
      simp only [List.length_append] at hgl
      have hPn := refPut_ok (fNum f).toNat (by omega)
      rw [show ((fNum f).toNat : Int) = fNum f by omega] at hPn
      have hPp := refPut_ok p.length (by omega)
      have hfv : (v.fields.getD z.toNat default).2 = fieldV v (fName f) := by rw [hz]; rfl
      apply AWp.wk T4_ok mixed4 [(23, [(7, .int .i64 fun _ => z, [])]), (25, [(12, .str fun _ => baL p, [])]), (26, [(7, .str fun _ => baL (putN (fNum f).toNat), []), (11, .str fun _ => baL (putN p.length), [])]), (22, [(7, .int .i64 fun _ => B (i + 1), [])])] kp20 ?_
      (any_goals ((with_reducible refine wk_id ?_); cbv; (try dsimp only [nc] at *); (repeat' (with_reducible first | exact all_nil.2 trivial | exact ob_nil | refine ob_cons ?_ ?_ | refine VC.mk rfl ?_ ?_ ?_ | refine CondAny.mk (fun _ => ?_) (fun _ => ?_) | (refine CondVC.mk ?_ ?_ <;> intro zq <;> (try simp only [nc, bytes_empty, if_or, if_and] at zq) <;> (try simp only [bl, dl] at zq) <;> (revert zq; intro _)) | (refine end_exit ?_; cbv; (try dsimp only [nc] at *)) | (refine end_out ?_; cbv; (try dsimp only [nc] at *))))))
      all_goals (try (exfalso; omega))
      all_goals (try simp only [Int.toNat_natCast, hk3, hfv])
      (any_goals ((with_reducible first | refine hob_none ?_ | refine hob_some (fun _ => ?_)); (try dsimp only); (have q := hFd; refine AFun.weak_in q ?_; clear q); (focus (cbv; (try dsimp only [nc] at *); (try simp only [all_nil, all_cons, and_true, true_and, nc]); (try (repeat' (with_reducible apply And.intro))); (all_goals (try first | rfl | exact fun _ _ => LeL.of_eq rfl | exact LeL.of_eq rfl | trivial | omega))))))
      (any_goals ((with_reducible first | refine hob_none ?_ | refine hob_some (fun _ => ?_)); (try dsimp only); (have q := hih; refine AFun.weak_in q ?_; clear q); (focus (cbv; (try dsimp only [nc] at *); (try simp only [all_nil, all_cons, and_true, true_and, nc]); (try (repeat' (with_reducible apply And.intro))); (all_goals (try first | rfl | exact fun _ _ => LeL.of_eq rfl | exact LeL.of_eq rfl | trivial | omega))))))
      (any_goals ((with_reducible first | refine hob_none ?_ | refine hob_some (fun _ => ?_)); (try dsimp only); (have q := hPn; refine AFun.weak_in q ?_; clear q); (focus (cbv; (try dsimp only [nc] at *); (try simp only [all_nil, all_cons, and_true, true_and, nc]); (try (repeat' (with_reducible apply And.intro))); (all_goals (try first | rfl | exact fun _ _ => LeL.of_eq rfl | exact LeL.of_eq rfl | trivial | omega))))))
      (any_goals ((with_reducible first | refine hob_none ?_ | refine hob_some (fun _ => ?_)); (try dsimp only); (have q := hPp; refine AFun.weak_in q ?_; clear q); (focus (cbv; (try dsimp only [nc] at *); (try simp only [all_nil, all_cons, and_true, true_and, nc]); (try (repeat' (with_reducible apply And.intro))); (all_goals (try first | rfl | exact fun _ _ => LeL.of_eq rfl | exact LeL.of_eq rfl | trivial | omega))))))
      (any_goals ((with_reducible first | refine hob_none ?_ | refine hob_some (fun _ => ?_)); (try dsimp only); (have q := hnx; refine AFun.weak_in q ?_; clear q); (focus (cbv; (try dsimp only [nc] at *); (try simp only [all_nil, all_cons, and_true, true_and, nc]); (try (repeat' (with_reducible apply And.intro))); (all_goals (try first | rfl | exact fun _ _ => LeL.of_eq rfl | exact LeL.of_eq rfl | trivial | omega))))))
      ((all_goals (try (with_reducible ((first | refine end_ret ?_ | refine end_normal ?_); (focus (cbv; (try dsimp only [nc] at *); (try simp only [all_nil, all_cons, and_true, true_and, nc]); (try (repeat' (with_reducible apply And.intro))); (all_goals (try first | rfl | exact fun _ _ => LeL.of_eq rfl | exact LeL.of_eq rfl | trivial | omega)))))))); (all_goals (try (focus ((with_reducible rw [all_cons]); (try simp only [all_cons, all_nil, and_true, nc]); (repeat' (with_reducible apply And.intro)); (all_goals (try first | exact True.intro | exact fun _ _ h => h | exact fun _ h => h | exact fun h => h | exact pick_t | exact pick_f | omega | (focus (intros; (try simp only [nc, bytes_empty, if_or, if_and] at *); (try simp only [bl, beq_true, beq_false, dl] at *); (try simp (disch := omega) only [w64] at *); (first | omega | assumption | ((repeat' (with_reducible apply And.intro)) <;> first | omega | assumption)))))))))))
      · rw [baL_size, baL_size]; simp only [List.length_append]; omega
      · rw [← baL_app, baL_size, baL_size]; simp only [List.length_append]; omega
      · rw [← baL_app, ← baL_app, baL_size, baL_size]; simp only [List.length_append]; omega
      · rw [baL_size]
      refine end_round (i + 1) ⟨by omega, by omega⟩ ?_
      (focus (cbv; (try dsimp only [nc] at *); (try simp only [all_nil, all_cons, and_true, true_and, nc]); (try (repeat' (with_reducible apply And.intro))); (all_goals (try first | rfl | exact fun _ _ => LeL.of_eq rfl | exact LeL.of_eq rfl | trivial | omega))))
      simp only [concatTo]
      rw [hgp, ← baL_app, ← baL_app, ← baL_app]
      simp only [List.append_assoc]
    · have hgp : g i = [] := by
        rw [hgi, fldN, if_neg (fun q => hF (by rw [hz]; exact q.2))]
      apply AWp.wk T4_ok mixed4 [(23, [(7, .int .i64 fun _ => z, [])]), (25, [(12, .str fun _ => ⟨#[]⟩, [])]), (26, [(7, .str fun _ => ⟨#[]⟩, []), (11, .str fun _ => ⟨#[]⟩, [])]), (22, [(7, .int .i64 fun _ => B (i + 1), [])])] kp20 ?_
      (any_goals ((with_reducible refine wk_id ?_); cbv; (try dsimp only [nc] at *); (repeat' (with_reducible first | exact all_nil.2 trivial | exact ob_nil | refine ob_cons ?_ ?_ | refine VC.mk rfl ?_ ?_ ?_ | refine CondAny.mk (fun _ => ?_) (fun _ => ?_) | (refine CondVC.mk ?_ ?_ <;> intro zq <;> (try simp only [nc, bytes_empty, if_or, if_and] at zq) <;> (try simp only [bl, dl] at zq) <;> (revert zq; intro _)) | (refine end_exit ?_; cbv; (try dsimp only [nc] at *)) | (refine end_out ?_; cbv; (try dsimp only [nc] at *))))))
      all_goals (try (exfalso; omega))
      all_goals (try simp only [Int.toNat_natCast, hk3])
      (any_goals ((with_reducible first | refine hob_none ?_ | refine hob_some (fun _ => ?_)); (try dsimp only); (have q := hFd; refine AFun.weak_in q ?_; clear q); (focus (cbv; (try dsimp only [nc] at *); (try simp only [all_nil, all_cons, and_true, true_and, nc]); (try (repeat' (with_reducible apply And.intro))); (all_goals (try first | rfl | exact fun _ _ => LeL.of_eq rfl | exact LeL.of_eq rfl | trivial | omega))))))
      (any_goals ((with_reducible first | refine hob_none ?_ | refine hob_some (fun _ => ?_)); (try dsimp only); (have q := hnx; refine AFun.weak_in q ?_; clear q); (focus (cbv; (try dsimp only [nc] at *); (try simp only [all_nil, all_cons, and_true, true_and, nc]); (try (repeat' (with_reducible apply And.intro))); (all_goals (try first | rfl | exact fun _ _ => LeL.of_eq rfl | exact LeL.of_eq rfl | trivial | omega))))))
      ((all_goals (try (with_reducible ((first | refine end_ret ?_ | refine end_normal ?_); (focus (cbv; (try dsimp only [nc] at *); (try simp only [all_nil, all_cons, and_true, true_and, nc]); (try (repeat' (with_reducible apply And.intro))); (all_goals (try first | rfl | exact fun _ _ => LeL.of_eq rfl | exact LeL.of_eq rfl | trivial | omega)))))))); (all_goals (try (focus ((with_reducible rw [all_cons]); (try simp only [all_cons, all_nil, and_true, nc]); (repeat' (with_reducible apply And.intro)); (all_goals (try first | exact True.intro | exact fun _ _ h => h | exact fun _ h => h | exact fun h => h | exact pick_t | exact pick_f | omega | (focus (intros; (try simp only [nc, bytes_empty, if_or, if_and] at *); (try simp only [bl, beq_true, beq_false, dl] at *); (try simp (disch := omega) only [w64] at *); (first | omega | assumption | ((repeat' (with_reducible apply And.intro)) <;> first | omega | assumption)))))))))))
      refine end_round (i + 1) ⟨by omega, by omega⟩ ?_
      (focus (cbv; (try dsimp only [nc] at *); (try simp only [all_nil, all_cons, and_true, true_and, nc]); (try (repeat' (with_reducible apply And.intro))); (all_goals (try first | rfl | exact fun _ _ => LeL.of_eq rfl | exact LeL.of_eq rfl | trivial | omega))))
      simp only [concatTo]
      rw [hgp, List.append_nil]
  · have hie : i = t.fields.length := by omega
    rw [hie, hBe]
    apply AWp.wk T4_ok mixed4 [(23, [(7, .int .i64 fun _ => 0, [])]), (25, [(12, .str fun _ => ⟨#[]⟩, [])]), (26, [(7, .str fun _ => ⟨#[]⟩, []), (11, .str fun _ => ⟨#[]⟩, [])]), (22, [(7, .int .i64 fun _ => 0, [])])] kp20 ?_
    (any_goals ((with_reducible refine wk_id ?_); cbv; (try dsimp only [nc] at *); (repeat' (with_reducible first | exact all_nil.2 trivial | exact ob_nil | refine ob_cons ?_ ?_ | refine VC.mk rfl ?_ ?_ ?_ | refine CondAny.mk (fun _ => ?_) (fun _ => ?_) | (refine CondVC.mk ?_ ?_ <;> intro zq <;> (try simp only [nc, bytes_empty, if_or, if_and] at zq) <;> (try simp only [bl, dl] at zq) <;> (revert zq; intro _)) | (refine end_exit ?_; cbv; (try dsimp only [nc] at *)) | (refine end_out ?_; cbv; (try dsimp only [nc] at *))))))
    all_goals (try (exfalso; omega))
    ((all_goals (try (with_reducible ((first | refine end_ret ?_ | refine end_normal ?_); (focus (cbv; (try dsimp only [nc] at *); (try simp only [all_nil, all_cons, and_true, true_and, nc]); (try (repeat' (with_reducible apply And.intro))); (all_goals (try first | rfl | exact fun _ _ => LeL.of_eq rfl | exact LeL.of_eq rfl | trivial | omega)))))))); (all_goals (try (focus ((with_reducible rw [all_cons]); (try simp only [all_cons, all_nil, and_true, nc]); (repeat' (with_reducible apply And.intro)); (all_goals (try first | exact True.intro | exact fun _ _ h => h | exact fun _ h => h | exact fun h => h | exact pick_t | exact pick_f | omega | (focus (intros; (try simp only [nc, bytes_empty, if_or, if_and] at *); (try simp only [bl, beq_true, beq_false, dl] at *); (try simp (disch := omega) only [w64] at *); (first | omega | assumption | ((repeat' (with_reducible apply And.intro)) <;> first | omega | assumption)))))))))))
    rw [hRe]

theorem ownE_int {vs : ByteArray → Bool} {v : V} (h : ownE vs v = 0) (hk : v.kind = 4 ∨ v.kind = 5) : v.int = 0 := by
  unfold ownE at h
  split at h
  · cases h
  split at h
  · cases h
  split at h
  · cases h
  · rename_i q
    have q2 : usesB v = true := by simpa using q
    simp only [usesB, Bool.and_eq_true, Bool.or_eq_true, beq_iff_eq] at q2
    have := q2.1.1.1.1
    omega

theorem refEnc_ok (e : Nat) : ∀ (d c : Nat) (t : Ty) (v : V), Ty.le e d t → Ty.ok e d t → V.le c v → V.ok c v → sizeV c v ≤ 1073741824 → hasT d t v = true → AFun Tryz.prog 20 [encT e d .any fun _ => t, encV c .any fun _ => v] [] (.str fun _ => baL (encN d t v)) []
  | 0, _, _, _, h, _, _, _, _, _ => h.elim
  | d + 1, c, t, v, ht, hto, hv, hvo, hs, hh => by
    have hlen := encN_len e (d + 1) c t v hto hv hvo hs hh
    obtain ⟨c, rfl⟩ := V.le_pos hv
    have hvk := hasT_kind hh
    have hown := V.ok_self hvo
    have hsz : sizeV (c + 1) v = 1 + ((kids v).map (sizeV c)).sum := rfl
    have kid : ∀ x ∈ kids v, sizeV c x ≤ 1073741824 := fun x hx => by have := sum_ge (sizeV c) hx; omega
    have hkk : 1 ≤ t.kind ∧ t.kind ≤ 10 := by
      have := hto.1
      simp only [ownT] at this
      split at this
      · cases this
      · omega
    by_cases h7 : t.kind ≤ 7
    · refine refEnc_flat e d (c + 1) t v ⟨hkk.1, h7⟩ ht (fun hk => V.ok_bool hown (by omega)) ?_ (Nat.le_trans hv.2.2.1 (by decide))
      by_cases h1 : t.kind = 1
      · have := V.ok_bool hown (by omega); omega
      by_cases h4 : t.kind = 4 ∨ t.kind = 5
      · have := ownE_int hown (by omega); omega
      · exact V.ok_int hown (by omega)
    by_cases hk : t.kind = 8
    · have h1 := ownT_elem hto.1 hk
      have hx : t.elem.getD 0 default ∈ t.elem := getD_in (by omega)
      refine refEnc_list e d c t v hk ht (by omega) hv.1 (by omega) fun x hxl => ?_
      have hxk : x ∈ kids v := by simp only [kids]; rw [if_pos (by omega)]; exact hxl
      exact refEnc_ok e d c _ _ (ht.2.2.2.2.1 _ hx) (Ty.ok_elem hto hk hx) (hv.2.2.2.1 _ hxl) (V.ok_kid hvo hxk) (kid x hxk) (hasT_list hh hk _ hxl)
    by_cases hk9 : t.kind = 9
    · refine refEnc_rec e d c t v hk9 (by omega) ht hto.1 hv (by omega) fun f hf hF => ?_
      obtain ⟨hm, hT⟩ := hasT_fld hh hk9 (ownT_nodup hto.1 (.inl hk9)).2 hf hF
      have hxk : fieldV v (fName f) ∈ kids v := by simp only [kids]; rw [if_neg (by omega), if_pos (by omega)]; exact List.mem_map_of_mem (f := (·.2)) hm
      exact refEnc_ok e d c _ _ (ht.2.2.2.2.2 _ hf).2.2.2 (Ty.ok_field hto (.inl hk9) hf) (hv.2.2.2.2 _ hm).2 (V.ok_kid hvo hxk) (kid _ hxk) hT
    · have hk10 : t.kind = 10 := by omega
      have h1 := V.ok_list hown (by omega)
      have hxl : v.list.getD 0 default ∈ v.list := getD_in (by omega)
      obtain ⟨h0, hT⟩ := hasT_var hh hk10
      have hfm := getTF_mem h0
      have hnum := ownT_num hto.1 (.inr hk10) hfm
      have hxk : v.list.getD 0 default ∈ kids v := by simp only [kids]; rw [if_pos (by omega)]; exact hxl
      exact refEnc_var e d c t v hk10 ht (by omega) h0 _ (show fNum (getTF t (byName v.text)) = ((fNum (getTF t (byName v.text))).toNat : Nat) by omega) (by omega) (by omega)
        (refEnc_ok e d c _ _ (ht.2.2.2.2.2 _ hfm).2.2.2 (Ty.ok_field hto (.inr hk10) hfm) (hv.2.2.2.1 _ hxl) (V.ok_kid hvo hxk) (kid _ hxk) hT)
end Go.Ai
