/- Chapter 10: Parts undoes Join. -/
import Derived.Test.YtlplmdipoacnlaaGreatDoorDecB
import Derived.Test.YtlplmdipoacnlaaGreatDoorWrB
import Derived.Test.YtlplmdipoacnlaaGreatDoorLJs
set_option linter.all false
namespace Go.Ai
open Go Go.Proofs
set_option maxRecDepth 100000
set_option maxHeartbeats 2000000
theorem strN_of {l : List Nat} (h : ∀ x ∈ l, x < 256) : strN (baL l) = l := by
  simp only [strN, baL, List.map_map]
  conv => rhs; rw [← List.map_id l]
  refine List.map_congr_left fun x hx => ?_
  simp [UInt8.toNat_ofNat', Nat.mod_eq_of_lt (h x hx)]
theorem putN_256 : ∀ (n : Nat), ∀ x ∈ putN n, x < 256 := by
  intro n
  induction n using Nat.strongRecOn with
  | _ n ih =>
    intro x hx
    rw [putN] at hx
    split at hx
    · simp at hx; omega
    · rcases List.mem_cons.1 hx with rfl | hx
      · omega
      · exact ih (n / 128) (by omega) x hx
theorem num_put (s : ByteArray) (pre rest : List Nat) (n : Nat) (hs : s.size ≤ 1073741824) (hn : n ≤ 4611686018427387903) (h : strN s = pre ++ (putN n ++ rest)) :
    numR (rdAt s pre.length) = ((n : Int), rdAt s ((pre.length + (putN n).length : Nat) : Int)) := by
  have hr : (rdAt s pre.length).room = putN n ++ rest := by
    show ((strN s).take s.size).drop pre.length = _
    rw [List.take_of_length_le (by rw [strN_len]; exact Nat.le_refl _), h, List.drop_left]
  have ht := take_put rest n 0 0 (.inl rfl) (by omega)
  rw [← hr] at ht
  rw [numR_get rfl ht]
  simp only [Nat.pow_zero, Nat.mul_one, Nat.zero_add]
  rfl
def bytesP (l : PL) : List Nat := (l.map partN).flatten
theorem bytesP_cons (x : Int × ByteArray) (l : PL) : bytesP (x :: l) = partN x ++ bytesP l := rfl
theorem ext_at {s b : ByteArray} {pre rest : List Nat} (h : strN s = pre ++ (strN b ++ rest)) : s.extract pre.length (pre.length + b.size) = b := by
  have he : strN (s.extract pre.length (pre.length + b.size)) = strN b := by
    rw [strN_ext]
    unfold sgm
    rw [h, ← List.append_assoc, List.take_left' (by rw [List.length_append, strN_len]), List.drop_left]
  rw [← baL_strN (s.extract pre.length (pre.length + b.size)), he, baL_strN]
theorem join_fields (s : ByteArray) (hs : s.size ≤ 1073741824) : ∀ (m : PL) (last : Int) (out : List Nat) (l : PL) (pre rest : List Nat), (joinL m last out).2 = 0 → (∀ x ∈ m, x.2.size ≤ 50) → strN s = pre ++ (bytesP m ++ rest) →
    (joinL m last out).1 = out ++ bytesP m ∧ fieldsA m.length last l (rdAt s pre.length) = (l ++ m, rdAt s ((pre.length + (bytesP m).length : Nat) : Int)) := by
  intro m
  induction m with
  | nil =>
    intro last out l pre rest hj hx h
    refine ⟨by simp [joinL, bytesP], ?_⟩
    simp [fieldsA, bytesP]
  | cons x m ih =>
    intro last out l pre rest hj hx h
    rw [joinL] at hj ⊢
    by_cases c1 : x.1 < 1 ∨ 9999 < x.1
    · rw [if_pos c1] at hj; exact absurd (show (2 : Int) = 0 from hj) (by decide)
    rw [if_neg c1] at hj ⊢
    by_cases c2 : x.1 ≤ last
    · rw [if_pos c2] at hj; exact absurd (show (24 : Int) = 0 from hj) (by decide)
    rw [if_neg c2] at hj ⊢
    obtain ⟨n, hn⟩ : ∃ n : Nat, x.1 = n := ⟨x.1.toNat, by omega⟩
    have hx0 := hx x (by simp)
    have h1 : strN s = pre ++ (putN n ++ (putN x.2.size ++ (strN x.2 ++ (bytesP m ++ rest)))) := by
      rw [h, bytesP_cons, partN, hn, Int.toNat_natCast]; simp only [List.append_assoc]
    have h2 : strN s = (pre ++ putN n) ++ (putN x.2.size ++ (strN x.2 ++ (bytesP m ++ rest))) := by rw [h1, List.append_assoc]
    have h3 : strN s = (pre ++ putN n ++ putN x.2.size) ++ (strN x.2 ++ (bytesP m ++ rest)) := by rw [h2, List.append_assoc, List.append_assoc, List.append_assoc]
    have h4 : strN s = (pre ++ partN x) ++ (bytesP m ++ rest) := by rw [h, bytesP_cons, List.append_assoc, List.append_assoc]
    have n1 := num_put s pre _ n hs (by omega) h1
    have n2 := num_put s (pre ++ putN n) _ x.2.size hs (by omega) h2
    have hsz : (pre ++ putN n ++ putN x.2.size).length + x.2.size ≤ s.size := by
      have := congrArg List.length h3
      simp only [List.length_append, strN_len] at this ⊢; omega
    obtain ⟨b, hb⟩ : ∃ b, b = (pre ++ putN n ++ putN x.2.size).length := ⟨_, rfl⟩
    obtain ⟨a, ha⟩ : ∃ a, a = (pre ++ putN n).length := ⟨_, rfl⟩
    have e1 : pre.length + (putN n).length = a := by rw [ha, List.length_append]
    have e2 : a + (putN x.2.size).length = b := by rw [hb, ha]; simp only [List.length_append]
    rw [e1] at n1
    rw [← ha, e2] at n2
    rw [← hb] at hsz
    have hxt := ext_at h3
    rw [← hb] at hxt
    have hS : sub2 (rdAt s (a : Int)) = rdAt s ((b + x.2.size : Nat) : Int) := by
      unfold sub2; rw [n2]
      show (bytesR (rdAt s (b : Int)) x.2.size).2 = _
      unfold bytesR
      rw [if_neg (show ¬ (rdAt s (b : Int)).e ≠ 0 from fun z => z rfl), if_neg (show ¬ (rdAt s (b : Int)).fin - (rdAt s (b : Int)).pos < x.2.size by show ¬ (s.size : Int) - (b : Int) < x.2.size; omega)]
      rfl
    have hP : partA x.1 l (rdAt s (a : Int)) = (l ++ [x], rdAt s ((b + x.2.size : Nat) : Int)) := by
      unfold partA
      rw [hS, if_neg (show ¬ (rdAt s ((b + x.2.size : Nat) : Int)).e ≠ 0 from fun z => z rfl), n2]
      have : (Rd.mk (rdAt s (a : Int)).s (rdAt s (b : Int)).pos (rdAt s ((b + x.2.size : Nat) : Int)).pos 0 0).all = x.2 := hxt
      show (l ++ [(x.1, (Rd.mk (rdAt s (a : Int)).s (rdAt s (b : Int)).pos (rdAt s ((b + x.2.size : Nat) : Int)).pos 0 0).all)], _) = _
      rw [this]
    have e3 : b + x.2.size = (pre ++ partN x).length := by
      rw [hb, partN, hn, Int.toNat_natCast]; simp only [List.length_append, strN_len]; omega
    obtain ⟨i1, i2⟩ := ih x.1 (out ++ partN x) (l ++ [x]) (pre ++ partN x) rest hj (fun y hy => hx y (by simp [hy])) h4
    refine ⟨by rw [i1, bytesP_cons, List.append_assoc], ?_⟩
    rw [List.length_cons, fieldsA_succ, if_neg (show ¬ (rdAt s (pre.length : Int)).e ≠ 0 from fun z => z rfl), n1, if_neg (show ¬ (rdAt s (a : Int)).e ≠ 0 from fun z => z rfl)]
    unfold stepR
    rw [n1]
    rw [← hn, if_neg c1, if_neg c2, hP, e3, i2, bytesP_cons]
    simp only [List.append_assoc, List.cons_append, List.nil_append, List.length_append, Nat.add_assoc]
theorem bytesP_byte (l : PL) : ∀ b ∈ bytesP l, b < 256 := by
  intro b hb
  obtain ⟨y, hy, hyb⟩ := List.mem_flatten.1 hb
  obtain ⟨x, hx, rfl⟩ := List.mem_map.1 hy
  simp only [partN, List.mem_append] at hyb
  rcases hyb with h | h | h
  · exact putN_256 _ _ h
  · exact putN_256 _ _ h
  · obtain ⟨z, _, rfl⟩ := List.mem_map.1 h
    exact z.toNat_lt
theorem joinL_one : ∀ (l : PL) (last : Int) (out : List Nat), (joinL l last out).2 = 0 → (joinL l last out).1 = out ++ bytesP l
  | [], _, out, _ => by simp [joinL, bytesP]
  | x :: m, last, out, hj => by
    rw [joinL] at hj ⊢
    by_cases c1 : x.1 < 1 ∨ 9999 < x.1
    · rw [if_pos c1] at hj; exact absurd (show (2 : Int) = 0 from hj) (by decide)
    rw [if_neg c1] at hj ⊢
    by_cases c2 : x.1 ≤ last
    · rw [if_pos c2] at hj; exact absurd (show (24 : Int) = 0 from hj) (by decide)
    rw [if_neg c2] at hj ⊢
    rw [joinL_one m x.1 _ hj, bytesP_cons, List.append_assoc]
theorem parts_join (l : PL) (hl : l.length ≤ 20) (hx : ∀ x ∈ l, x.2.size ≤ 50) (hj : (joinL l 0 (putN l.length)).2 = 0) (hsz : (joinL l 0 (putN l.length)).1.length ≤ 1073741824) : partsV (baL (joinL l 0 (putN l.length)).1) = (l, 0, 0) := by
  obtain ⟨s, hs⟩ : ∃ s, s = baL (joinL l 0 (putN l.length)).1 := ⟨_, rfl⟩
  rw [← hs]
  have h1 := joinL_one l 0 _ hj
  have hss : s.size ≤ 1073741824 := by rw [hs, baL_size]; exact hsz
  have hN : strN s = putN l.length ++ bytesP l := by
    rw [hs, h1]
    refine strN_of fun b hb => ?_
    rcases List.mem_append.1 hb with h | h
    · exact putN_256 _ _ h
    · exact bytesP_byte _ _ h
  have n1 := num_put s [] (bytesP l) l.length hss (by omega) hN
  obtain ⟨i1, i2⟩ := join_fields s hss l 0 [] [] (putN l.length) [] (by
    have : ∀ (m : PL) (last : Int) (o o' : List Nat), (joinL m last o).2 = (joinL m last o').2 := by
      intro m
      induction m with
      | nil => intro last o o'; rfl
      | cons x m ih =>
        intro last o o'
        rw [joinL, joinL]
        split
        · rfl
        split
        · rfl
        exact ih _ _ _
    rw [this _ _ _ (putN l.length)]; exact hj) hx (by rw [List.append_nil]; exact hN)
  have e : (putN l.length).length + (bytesP l).length = s.size := by rw [← strN_len s, hN, List.length_append]
  rw [e] at i2
  simp only [List.length_nil, Nat.zero_add] at n1
  unfold partsV fieldsV
  have n2 : numR (rdAt s 0) = ((l.length : Int), rdAt s ((putN l.length).length : Int)) := n1
  rw [n2, Int.toNat_natCast, i2]
  have hl2 : longR (rdAt s (s.size : Int)) = rdAt s s.size := by
    unfold longR
    rw [if_neg (show ¬ (rdAt s (s.size : Int)).pos < (rdAt s (s.size : Int)).fin from Int.lt_irrefl _)]
  rw [hl2, if_neg (show ¬ (rdAt s (s.size : Int)).e ≠ 0 from fun z => z rfl)]
  rfl
end Go.Ai

namespace Go.Ai
open Go Go.Proofs
set_option maxRecDepth 100000
set_option maxHeartbeats 4000000
theorem joinL_len : ∀ (l : PL) (last : Int) (out : List Nat), (∀ x ∈ l, x.2.size ≤ 50) → (joinL l last out).1.length ≤ out.length + l.length * 100
  | [], _, out, _ => by simp [joinL]
  | x :: r, last, out, h => by
    simp only [joinL]
    split
    · simp
    split
    · simp
    · have h1 := joinL_len r x.1 (out ++ partN x) fun y hy => h y (by simp [hy])
      have h2 := putN_len 8 x.1.toNat (by omega)
      have h3 := putN_len 8 x.2.size (by have := h x (by simp); omega)
      have h4 := h x (by simp)
      have h5 : (partN x).length ≤ 100 := by simp only [partN, List.length_append, strN_len]; omega
      rw [List.length_append] at h1
      simp only [List.length_cons]
      omega
theorem Joins_ok (l : PL) (hl : l.length ≤ 1048576) (hs : ∀ x ∈ l, x.2.size ≤ 1048576) :
    AFun Tryz.prog 7 [slcP fun _ => l] [] (.bool fun _ => true) [] := by
  have hPJ : l.length ≤ 20 → (∀ x ∈ l, x.2.size ≤ 50) → (joinL l 0 (putN l.length)).2 = 0 → partsV (baL (joinL l 0 (putN l.length)).1) = (l, 0, 0) := fun h1 h2 h3 => parts_join l h1 h2 h3 (by
    have h4 := joinL_len l 0 (putN l.length) h2
    have h5 := putN_len 8 l.length (by omega)
    omega)
  by_cases h20 : 20 < l.length
  · (apply AFun.of T4_ok mixed4 [.tmp 2] kq7 [(1, [(0, .bool fun _ => true, [])]), (2, [(0, .bool fun _ => true, [])]), (3, [(2, .str fun _ => ⟨#[]⟩, [])])] Tryz.func7 (fun _ => ?_); (any_goals ((with_reducible refine wk_id ?_); cbv; (try dsimp only [nc] at *); (repeat' (with_reducible first | exact all_nil.2 trivial | exact ob_nil | refine ob_cons ?_ ?_ | refine VC.mk rfl ?_ ?_ ?_ | refine CondAny.mk (fun _ => ?_) (fun _ => ?_) | (refine CondVC.mk ?_ ?_ <;> intro zq <;> (try simp only [nc, cl] at zq) <;> (try simp only [bl, dl] at zq) <;> (revert zq; intro _)) | ((first | refine end_exit ?_ | refine end_out ?_); cbv; (try dsimp only [nc] at *)))))))
    all_goals (try (exfalso; omega))
    (any_goals ((with_reducible first | refine hob_none ?_ | refine hob_some (fun _ => ?_)) <;> exact known_ok))
    ((all_goals (try (with_reducible ((first | refine end_ret ?_ | refine end_normal ?_); (focus (cbv; (try dsimp only [nc] at *); (try simp only [wl, nc]); (repeat' (with_reducible apply And.intro)); all_goals (try first | rfl | exact fun _ _ => lr rfl | exact lr rfl | trivial | omega))))))); (all_goals (try ((with_reducible rw [all_cons]); (try simp only [wl, nc]); (repeat' (with_reducible apply And.intro)); (all_goals (try first | exact True.intro | exact fun _ _ h => h | exact fun _ h => h | exact fun h => h | exact pick_t | exact pick_f | omega | (focus (intros; (try simp only [nc, cl] at *); (try simp only [bl, el, dl] at *); (try simp (disch := omega) only [w64] at *); (first | omega | assumption | ((repeat' (with_reducible apply And.intro)) <;> first | omega | assumption))))))))))
  · obtain ⟨q, hq⟩ : ∃ q, q = putN l.length := ⟨_, rfl⟩
    have hP := refPut_ok l.length (by omega)
    rw [← hq] at hP
    have hql : q.length ≤ 9 := by
      have := putN_len 8 l.length (by omega)
      rw [hq]; exact this
    obtain ⟨R, hR⟩ : ∃ R, R = joinL l 0 q := ⟨_, rfl⟩
    have hJ := Join_ok l hl hs
    have hJ1 : joinV l = (if R.2 ≠ 0 then ⟨#[]⟩ else baL R.1, R.2) := by rw [joinV, ← hq, ← hR]
    rw [hJ1] at hJ
    rw [← hq, ← hR] at hPJ
    obtain ⟨S, hS⟩ : ∃ S, S = (if R.2 ≠ 0 then ⟨#[]⟩ else baL R.1) := ⟨_, rfl⟩
    simp only [← hS] at hJ
    obtain ⟨V, hV⟩ : ∃ V, V = partsV S := ⟨_, rfl⟩
    (apply AFun.of T4_ok mixed4 [.tmp 2] kq7 [(1, [(0, .bool fun _ => true, [])]), (2, [(0, .bool fun _ => true, [])]), (3, [(2, .str fun _ => baL q, [])]), (18, [(1, .tup [.str fun _ => S, .int .i64 fun _ => R.2], [])]), (21, [(1, .tup [slcP fun _ => V.1, .int .i64 fun _ => V.2.1, .int .i64 fun _ => V.2.2], [])])] Tryz.func7 (fun _ => ?_); (any_goals ((with_reducible refine wk_id ?_); cbv; (try dsimp only [nc] at *); (repeat' (with_reducible first | exact all_nil.2 trivial | exact ob_nil | refine ob_cons ?_ ?_ | refine VC.mk rfl ?_ ?_ ?_ | refine CondAny.mk (fun _ => ?_) (fun _ => ?_) | (refine CondVC.mk ?_ ?_ <;> intro zq <;> (try simp only [nc, cl] at zq) <;> (try simp only [bl, dl] at zq) <;> (revert zq; intro _)) | ((first | refine end_exit ?_ | refine end_out ?_); cbv; (try dsimp only [nc] at *)))))))
    all_goals (try (exfalso; omega))
    (any_goals ((with_reducible first | refine hob_none ?_ | refine hob_some (fun _ => ?_)) <;> exact known_ok))
    (any_goals ((with_reducible first | refine hob_none ?_ | refine hob_some (fun _ => ?_)) <;> exact hP))
    ((all_goals (try (with_reducible ((first | refine end_ret ?_ | refine end_normal ?_); (focus (cbv; (try dsimp only [nc] at *); (try simp only [wl, nc]); (repeat' (with_reducible apply And.intro)); all_goals (try first | rfl | exact fun _ _ => lr rfl | exact lr rfl | trivial | omega))))))); (all_goals (try ((with_reducible rw [all_cons]); (try simp only [wl, nc]); (repeat' (with_reducible apply And.intro)); (all_goals (try first | exact True.intro | exact fun _ _ h => h | exact fun _ h => h | exact fun h => h | exact pick_t | exact pick_f | omega | (focus (intros; (try simp only [nc, cl] at *); (try simp only [bl, el, dl] at *); (try simp (disch := omega) only [w64] at *); (first | omega | assumption | ((repeat' (with_reducible apply And.intro)) <;> first | omega | assumption))))))))))
    refine .loop (fun p : Nat × Int × Int × List Nat => ⟨142, [(6, .int .i64 fun _ => p.1), (5, .int .i64 fun _ => p.2.2.1), (4, .int .i64 fun _ => p.2.1), (3, .str fun _ => baL p.2.2.2), (0, slcP fun _ => l)], []⟩)
      (fun p => p.1 ≤ l.length ∧ p.2.2.2.length ≤ joinB p.1 ∧ (∀ j, j < p.1 → (l.getD j default).2.size ≤ 50) ∧ (p.2.1 = 0 → R = joinL (l.drop p.1) p.2.2.1 p.2.2.2) ∧ (p.2.1 ≠ 0 → R.2 = p.2.1)) (fun p => l.length - p.1) (0, 0, 0, q)
      ⟨Nat.zero_le _, by simpa [joinB] using hql, fun j hj => absurd hj (Nat.not_lt_zero _), fun _ => by simpa using hR, fun z => absurd rfl z⟩ ?_ fun p E hi => ?_
    · (focus (cbv; (try dsimp only [nc] at *); (try simp only [wl, nc]); (repeat' (with_reducible apply And.intro)); all_goals (try first | rfl | exact fun _ _ => lr rfl | exact lr rfl | trivial | omega)))
    obtain ⟨i1, i2, i3, i4, i5⟩ := hi
    have hmul := joinB_le (show p.1 ≤ 1048576 by omega)
    have hmul2 := joinB_succ p.1
    by_cases h : p.1 < l.length
    · obtain ⟨x, hx⟩ : ∃ x, x = l.getD p.1 default := ⟨_, rfl⟩
      have hxm : x ∈ l := by rw [hx]; exact getD_mem h
      have hd : l.drop p.1 = x :: l.drop (p.1 + 1) := by
        rw [List.drop_eq_getElem_cons h, hx, List.getD_eq_getElem?_getD, List.getElem?_eq_getElem h, Option.getD_some]
      rw [hd] at i4
      simp only [joinL] at i4
      have hxs := hs x hxm
      have hP1 : 1 ≤ x.1 ∧ x.1 ≤ 9999 → AFun Tryz.prog 26 [.int .i64 fun _ => x.1] [] (.str fun _ => baL (putN x.1.toNat)) [] := fun z => by
        have := refPut_ok x.1.toNat (by omega)
        rwa [show (x.1.toNat : Int) = x.1 by omega] at this
      have hP2 := refPut_ok x.2.size (by omega)
      have hsz : ∀ (_ : (x.2.size : Int) ≤ 50), ∀ j, j < p.1 + 1 → (l.getD j default).2.size ≤ 50 := fun hz j hj => by
        rcases Nat.lt_succ_iff_lt_or_eq.1 hj with hj | rfl
        · exact i3 j hj
        · rw [← hx]; omega
      have hpl : 1 ≤ x.1 ∧ x.1 ≤ 9999 → (p.2.2.2 ++ partN x).length ≤ joinB (p.1 + 1) := fun z => by
        have := partN_len x z.2 hxs
        rw [List.length_append]; omega
      apply AWp.wk T4_ok mixed4 [(17, [(2, .str fun _ => baL (putN x.1.toNat), []), (10, .str fun _ => baL (putN x.2.size), [])])] kq7 ?_
      (any_goals ((with_reducible refine wk_id ?_); cbv; (try dsimp only [nc] at *); (repeat' (with_reducible first | exact all_nil.2 trivial | exact ob_nil | refine ob_cons ?_ ?_ | refine VC.mk rfl ?_ ?_ ?_ | refine CondAny.mk (fun _ => ?_) (fun _ => ?_) | (refine CondVC.mk ?_ ?_ <;> intro zq <;> (try simp only [nc, cl] at zq) <;> (try simp only [bl, dl] at zq) <;> (revert zq; intro _)) | ((first | refine end_exit ?_ | refine end_out ?_); cbv; (try dsimp only [nc] at *))))))
      all_goals (try exact absurd h (Nat.not_lt.2 ‹l.length ≤ p.1›))
      all_goals (try simp only [Int.toNat_natCast, ← hx] at *)
      all_goals (try exact absurd ‹(2 : Int) = 0› (by decide))
      all_goals (try exact absurd ‹(24 : Int) = 0› (by decide))
      any_goals (with_reducible refine hob_none ?_) <;> first
        | exact hP2
        | exact hP1 ((‹¬ p.2.1 = 0 ∨ 1 ≤ x.1 ∧ x.1 ≤ 9999›).resolve_left (fun z : ¬ p.2.1 = 0 => z ‹p.2.1 = 0›))
      ((all_goals (try (with_reducible ((first | refine end_ret ?_ | refine end_normal ?_); (focus (cbv; (try dsimp only [nc] at *); (try simp only [wl, nc]); (repeat' (with_reducible apply And.intro)); all_goals (try first | rfl | exact fun _ _ => lr rfl | exact lr rfl | trivial | omega))))))); (all_goals (try ((with_reducible rw [all_cons]); (try simp only [wl, nc]); (repeat' (with_reducible apply And.intro)); (all_goals (try first | exact True.intro | exact fun _ _ h => h | exact fun _ h => h | exact fun h => h | exact pick_t | exact pick_f | omega | (focus (intros; (try simp only [nc, cl] at *); (try simp only [bl, el, dl] at *); (try simp (disch := omega) only [w64] at *); (first | omega | assumption | ((repeat' (with_reducible apply And.intro)) <;> first | omega | assumption))))))))))
      · have hc := ‹p.2.1 = 0 ∧ (x.1 < 1 ∨ 9999 < x.1)›
        have hr := i4 hc.1
        rw [if_pos hc.2] at hr
        refine end_round (p.1 + 1, 2, x.1, p.2.2.2) ⟨⟨by show p.1 + 1 ≤ _; omega, by show p.2.2.2.length ≤ joinB (p.1 + 1); omega, hsz (by omega), fun z => absurd (show (2 : Int) = 0 from z) (by decide), fun _ => by rw [hr]⟩, by show _ - (p.1 + 1) < _ - p.1; omega⟩ ?_
        (focus (cbv; (try dsimp only [nc] at *); (try simp only [wl, nc]); (repeat' (with_reducible apply And.intro)); all_goals (try first | rfl | exact fun _ _ => lr rfl | exact lr rfl | trivial | omega)))
        exact w64n (by omega)
      · have hc := ‹p.2.1 = 0 ∧ x.1 ≤ p.2.2.1›
        have hr := i4 hc.1
        rw [if_neg (by omega), if_pos hc.2] at hr
        refine end_round (p.1 + 1, 24, x.1, p.2.2.2) ⟨⟨by show p.1 + 1 ≤ _; omega, by show p.2.2.2.length ≤ joinB (p.1 + 1); omega, hsz (by omega), fun z => absurd (show (24 : Int) = 0 from z) (by decide), fun _ => by rw [hr]⟩, by show _ - (p.1 + 1) < _ - p.1; omega⟩ ?_
        (focus (cbv; (try dsimp only [nc] at *); (try simp only [wl, nc]); (repeat' (with_reducible apply And.intro)); all_goals (try first | rfl | exact fun _ _ => lr rfl | exact lr rfl | trivial | omega)))
        exact w64n (by omega)
      · rw [baL_size, baL_size]; have := hpl ((‹¬ p.2.1 = 0 ∨ 1 ≤ x.1 ∧ x.1 ≤ 9999›).resolve_left (fun z : ¬ p.2.1 = 0 => z ‹p.2.1 = 0›)); simp only [partN, List.length_append, strN_len] at this; omega
      · rw [← baL_app, baL_size, baL_size]; have := hpl ((‹¬ p.2.1 = 0 ∨ 1 ≤ x.1 ∧ x.1 ≤ 9999›).resolve_left (fun z : ¬ p.2.1 = 0 => z ‹p.2.1 = 0›)); simp only [partN, List.length_append, strN_len] at this ⊢; omega
      · rw [← baL_app, ← baL_app, baL_size]; have := hpl ((‹¬ p.2.1 = 0 ∨ 1 ≤ x.1 ∧ x.1 ≤ 9999›).resolve_left (fun z : ¬ p.2.1 = 0 => z ‹p.2.1 = 0›)); simp only [partN, List.length_append, strN_len] at this ⊢; omega
      · have hk := (‹¬ p.2.1 = 0 ∨ 1 ≤ x.1 ∧ x.1 ≤ 9999›).resolve_left (fun z : ¬ p.2.1 = 0 => z ‹p.2.1 = 0›)
        have hk2 := (‹¬ p.2.1 = 0 ∨ p.2.2.1 < x.1›).resolve_left (fun z : ¬ p.2.1 = 0 => z ‹p.2.1 = 0›)
        have hr := i4 ‹p.2.1 = 0›
        rw [if_neg (show ¬ (x.1 < 1 ∨ 9999 < x.1) by omega), if_neg (show ¬ x.1 ≤ p.2.2.1 by omega)] at hr
        refine end_round (p.1 + 1, p.2.1, x.1, p.2.2.2 ++ partN x) ⟨⟨by show p.1 + 1 ≤ _; omega, hpl hk, hsz (by omega), fun _ => hr, i5⟩, by show _ - (p.1 + 1) < _ - p.1; omega⟩ ?_
        (focus (cbv; (try dsimp only [nc] at *); (try simp only [wl, nc]); (repeat' (with_reducible apply And.intro)); all_goals (try first | rfl | exact fun _ _ => lr rfl | exact lr rfl | trivial | omega)))
        all_goals first
          | exact w64n (by omega)
          | (rw [baL_app, partN, baL_app, baL_app, baL_strN]; simp only [ByteArray.append_assoc])
      · refine end_round (p.1 + 1, p.2.1, x.1, p.2.2.2) ⟨⟨by show p.1 + 1 ≤ _; omega, by show p.2.2.2.length ≤ joinB (p.1 + 1); omega, hsz (by omega), fun z => absurd z ‹¬ p.2.1 = 0›, i5⟩, by show _ - (p.1 + 1) < _ - p.1; omega⟩ ?_
        (focus (cbv; (try dsimp only [nc] at *); (try simp only [wl, nc]); (repeat' (with_reducible apply And.intro)); all_goals (try first | rfl | exact fun _ _ => lr rfl | exact lr rfl | trivial | omega)))
        exact w64n (by omega)
    have hie : p.1 = l.length := by omega
    have hs50 : ∀ x ∈ l, x.2.size ≤ 50 := fun x hx => by
      obtain ⟨k, hk, hkx⟩ := List.getElem_of_mem hx
      have := i3 k (by omega)
      rwa [List.getD_eq_getElem?_getD, List.getElem?_eq_getElem hk, Option.getD_some, hkx] at this
    rw [List.drop_eq_nil_of_le (by omega)] at i4
    simp only [joinL] at i4
    have hSb : S.size ≤ 1073741824 := by
      have := joinL_len l 0 q hs50
      rw [← hR] at this
      rw [hS]
      split
      · decide
      · rw [baL_size]; omega
    have hPt := Parts_ok S hSb
    rw [← hV] at hPt
    apply AWp.wk T4_ok mixed4 [(17, [(2, .str fun _ => ⟨#[]⟩, []), (10, .str fun _ => ⟨#[]⟩, [])])] kq7 ?_
    (any_goals ((with_reducible refine wk_id ?_); cbv; (try dsimp only [nc] at *); (repeat' (with_reducible first | exact all_nil.2 trivial | exact ob_nil | refine ob_cons ?_ ?_ | refine VC.mk rfl ?_ ?_ ?_ | refine CondAny.mk (fun _ => ?_) (fun _ => ?_) | (refine CondVC.mk ?_ ?_ <;> intro zq <;> (try simp only [nc, cl] at zq) <;> (try simp only [bl, dl] at zq) <;> (revert zq; intro _)) | ((first | refine end_exit ?_ | refine end_out ?_); cbv; (try dsimp only [nc] at *))))))
    all_goals (try exact absurd ‹p.1 < l.length› h)
    (any_goals ((with_reducible first | refine hob_none ?_ | refine hob_some (fun _ => ?_)) <;> exact hJ))
    (any_goals ((with_reducible first | refine hob_none ?_ | refine hob_some (fun _ => ?_)) <;> exact hPt))
    ((all_goals (try (with_reducible ((first | refine end_ret ?_ | refine end_normal ?_); (focus (cbv; (try dsimp only [nc] at *); (try simp only [wl, nc]); (repeat' (with_reducible apply And.intro)); all_goals (try first | rfl | exact fun _ _ => lr rfl | exact lr rfl | trivial | omega))))))); (all_goals (try ((with_reducible rw [all_cons]); (try simp only [wl, nc]); (repeat' (with_reducible apply And.intro)); (all_goals (try first | exact True.intro | exact fun _ _ h => h | exact fun _ h => h | exact fun h => h | exact pick_t | exact pick_f | omega | (focus (intros; (try simp only [nc, cl] at *); (try simp only [bl, el, dl] at *); (try simp (disch := omega) only [w64] at *); (first | omega | assumption | ((repeat' (with_reducible apply And.intro)) <;> first | omega | assumption))))))))))
    · have hr := i5 ‹¬ p.2.1 = 0›
      have hS0 : S = ⟨#[]⟩ := by rw [hS, if_pos (by rw [hr]; exact ‹¬ p.2.1 = 0›)]
      rw [hS0, hr]; simp
    all_goals
      have hR4 := i4 ‹p.2.1 = 0›
      have hpv := hPJ (by omega) hs50 (by rw [hR4])
      have hS0 : S = baL p.2.2.2 := by rw [hS, hR4]; rfl
      have hV0 : V = (l, 0, 0) := by rw [hV, hS0, ← hpv, hR4]
    · have q := ‹(((¬ S = baL p.2.2.2 ∨ _) ∨ _) ∨ _) ∨ _›
      rw [hS0, hV0, hR4] at q
      simp at q
    rw [hV0]
    clear hpv hV0 hV hPt
    refine .loop (fun i : Nat => ⟨142, [(13, .int .i64 fun _ => i), (10, slcP fun _ => l), (0, slcP fun _ => l)], []⟩)
      (fun i => i ≤ l.length) (fun i => l.length - i) 0 (by simp) ?_ fun i E hi => ?_
    · (focus (cbv; (try dsimp only [nc] at *); (try simp only [wl, nc]); (repeat' (with_reducible apply And.intro)); all_goals (try first | rfl | exact fun _ _ => lr rfl | exact lr rfl | trivial | omega)))
    apply AWp.wk T4_ok mixed4 [] kq7 ?_
    (any_goals ((with_reducible refine wk_id ?_); cbv; (try dsimp only [nc] at *); (repeat' (with_reducible first | exact all_nil.2 trivial | exact ob_nil | refine ob_cons ?_ ?_ | refine VC.mk rfl ?_ ?_ ?_ | refine CondAny.mk (fun _ => ?_) (fun _ => ?_) | (refine CondVC.mk ?_ ?_ <;> intro zq <;> (try simp only [nc, cl] at zq) <;> (try simp only [bl, dl] at zq) <;> (revert zq; intro _)) | ((first | refine end_exit ?_ | refine end_out ?_); cbv; (try dsimp only [nc] at *))))))
    all_goals (try (exfalso; rename_i hq; simp at hq; done))
    ((all_goals (try (with_reducible ((first | refine end_ret ?_ | refine end_normal ?_); (focus (cbv; (try dsimp only [nc] at *); (try simp only [wl, nc]); (repeat' (with_reducible apply And.intro)); all_goals (try first | rfl | exact fun _ _ => lr rfl | exact lr rfl | trivial | omega))))))); (all_goals (try ((with_reducible rw [all_cons]); (try simp only [wl, nc]); (repeat' (with_reducible apply And.intro)); (all_goals (try first | exact True.intro | exact fun _ _ h => h | exact fun _ h => h | exact fun h => h | exact pick_t | exact pick_f | omega | (focus (intros; (try simp only [nc, cl] at *); (try simp only [bl, el, dl] at *); (try simp (disch := omega) only [w64] at *); (first | omega | assumption | ((repeat' (with_reducible apply And.intro)) <;> first | omega | assumption))))))))))
    refine end_round (i + 1) ⟨by show i + 1 ≤ _; omega, by show _ - (i + 1) < _ - i; omega⟩ ?_
    (focus (cbv; (try dsimp only [nc] at *); (try simp only [wl, nc]); (repeat' (with_reducible apply And.intro)); all_goals (try first | rfl | exact fun _ _ => lr rfl | exact lr rfl | trivial | omega)))
    exact w64n (by omega)
end Go.Ai

namespace Go.Proofs.YtlplmdipoacnlaaGreatDoor
open Go Go.Ai
theorem taggedJoins_holds : Rows.TaggedJoinsUptoCardSaid := joins_holds_of fun l h1 h2 => Joins_ok l h1 h2
#print axioms taggedJoins_holds
end Go.Proofs.YtlplmdipoacnlaaGreatDoor
