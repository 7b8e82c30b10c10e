/- TaggedNumbers. -/
import Derived.Test.YtlplmdipoacnlaaGreatDoorWrB
import Derived.Test.YtlplmdipoacnlaaGreatDoorJoin
set_option linter.all false
namespace Go.Ai
open Go Go.Proofs
set_option maxRecDepth 100000
set_option maxHeartbeats 4000000

theorem strN_baL {l : List Nat} (h : ∀ x ∈ l, x < 256) : strN (baL l) = l := by
  simp only [strN, baL, List.map_map]
  conv => rhs; rw [← List.map_id l]
  refine List.map_congr_left fun x hx => ?_
  simp [UInt8.toNat_ofNat', Nat.mod_eq_of_lt (h x hx)]
theorem putN_byte : ∀ (n : Nat), ∀ x ∈ putN n, x < 256 := by
  intro n
  induction n using Nat.strongRecOn with
  | _ n ih =>
    intro x hx
    rw [putN] at hx
    split at hx
    · simp at hx; omega
    · rcases List.mem_cons.1 hx with rfl | hx
      · omega
      · exact ih (n / 128) (by omega) x hx

theorem take_at (b : ByteArray) (n : Int) (h0 : 0 ≤ n) (h1 : n ≤ 4611686018427387903) : takeV (b ++ putS n ++ ⟨#[128]⟩) b.size = (n, (b.size : Int) + (putS n).size, 0) := by
  obtain ⟨s, hs⟩ : ∃ s, s = b ++ putS n ++ ⟨#[128]⟩ := ⟨_, rfl⟩
  rw [← hs]
  have hsz : s.size = b.size + (putS n).size + 1 := by rw [hs, ByteArray.size_append, ByteArray.size_append]; rfl
  have hroom : (rdAt s b.size).room = putN n.toNat ++ [128] := by
    have e1 : s.data.toList.map UInt8.toNat = strN b ++ (putN n.toNat ++ [128]) := by
      have e2 : s.data = b.data ++ (putS n).data ++ #[128] := by rw [hs, ByteArray.data_append, ByteArray.data_append]
      have e3 : strN (putS n) = putN n.toNat := strN_baL (putN_byte _)
      rw [e2, ← e3]
      simp [strN]
    simp only [Rd.room, rdAt, e1, Int.toNat_natCast]
    rw [List.take_of_length_le (by simp only [List.length_append, strN_len, List.length_cons, List.length_nil]; rw [hsz, putS, baL_size]; omega), ← strN_len b, List.drop_left]
  have htk := take_put [128] n.toNat 0 0 (.inl rfl) (by simp; omega)
  simp only [Nat.pow_zero, Nat.mul_one, Nat.zero_add] at htk
  have hnr := numR_get (r := rdAt s b.size) rfl (by rw [hroom]; exact htk)
  have hg : ¬ ((b.size : Int) < 0 ∨ (s.size : Int) < b.size) := by omega
  simp only [takeV, if_neg hg, hnr]
  simp only [Rd.to, rdAt, ne_eq, not_true_eq_false, if_false, putS, baL_size]
  rw [show ((n.toNat : Nat) : Int) = n by omega]

theorem Numbers_ok (n : Int) (b : ByteArray) (hb : b.size ≤ 35184372088800) : AFun Tryz.prog 5 [.int .i64 fun _ => n, .str fun _ => b] [] (.bool fun _ => true) [] := by
  have hP := Put_ok n
  have hZ := Zigzag_ok n
  have hU := Unzigzag_ok n
  obtain ⟨zz, hzz⟩ : ∃ z, z = zigI n := ⟨_, rfl⟩
  obtain ⟨uu, huu⟩ : ∃ u, u = unzigI n := ⟨_, rfl⟩
  obtain ⟨ps, hps⟩ : ∃ u, u = putS n := ⟨_, rfl⟩
  have hU2 := Unzigzag_ok zz
  have hzi : ¬ zigBad n → ¬ numBad zz := fun h => by unfold zigBad at h; unfold numBad; rw [hzz]; simp only [zigI]; split <;> omega
  have hzu : unzigI zz = n := by rw [hzz, unzig_zig]
  by_cases hn : numBad n <;> by_cases hz : zigBad n
  · simp only [if_pos hn] at hP hU
    simp only [if_pos hz] at hZ
    unfold numBad at hn
    unfold zigBad at hz
    (apply AFun.of T4_ok mixed4 [.tmp 4] kp5 [(1, [(0, .bool fun _ => true, [])]), (2, [(0, .bool fun _ => true, [])]), (3, [(1, .tup [.str fun _ => ⟨#[]⟩, .int .i64 fun _ => 2], [])]), (4, [(1, .tup [.int .i64 fun _ => 0, .int .i64 fun _ => 2], [])]), (5, [(1, .tup [.int .i64 fun _ => 0, .int .i64 fun _ => 2], [])]), (9, [(6, .tup [.int .i64 fun _ => 0, .int .i64 fun _ => 0, .int .i64 fun _ => 0], [])]), (10, [(2, .str fun _ => ⟨#[]⟩, []), (29, .int .i64 fun _ => 0, [])]), (14, [(1, .tup [.int .i64 fun _ => 0, .int .i64 fun _ => 0], [])]), (15, [(2, .int .i64 fun _ => 0, [])])] Tryz.func5 (fun _ => ?_); (any_goals ((with_reducible refine wk_id ?_); cbv; (try dsimp only [nc] at *); (repeat' (with_reducible first | exact all_nil.2 trivial | exact ob_nil | refine ob_cons ?_ ?_ | refine VC.mk rfl ?_ ?_ ?_ | refine CondAny.mk (fun _ => ?_) (fun _ => ?_) | (refine CondVC.mk ?_ ?_ <;> intro hz <;> (try simp only [nc, bytes_empty, if_or, if_and] at hz) <;> (try simp only [bl, dl] at hz) <;> (revert hz; intro _)) | (refine end_exit ?_; cbv; (try dsimp only [nc] at *)) | (refine end_out ?_; cbv; (try dsimp only [nc] at *)))))))
    all_goals (try (exfalso; first | omega | grind))
    (any_goals ((with_reducible first | refine hob_none ?_ | refine hob_some (fun _ => ?_)) <;> exact known_ok))
    (any_goals ((with_reducible first | refine hob_none ?_ | refine hob_some (fun _ => ?_)) <;> exact hP))
    (any_goals ((with_reducible first | refine hob_none ?_ | refine hob_some (fun _ => ?_)) <;> exact hZ))
    (any_goals ((with_reducible first | refine hob_none ?_ | refine hob_some (fun _ => ?_)) <;> exact hU))
    ((all_goals (try (with_reducible ((first | refine end_ret ?_ | refine end_normal ?_); (focus (cbv; (try dsimp only [nc] at *); (try simp only [all_nil, all_cons, and_true, true_and, nc]); (try (repeat' (with_reducible apply And.intro))); (all_goals (try first | rfl | exact fun _ _ => LeL.of_eq rfl | exact LeL.of_eq rfl | trivial | omega)))))))); (all_goals (try (focus ((with_reducible rw [all_cons]); (try simp only [all_cons, all_nil, and_true, nc]); (repeat' (with_reducible apply And.intro)); (all_goals (try first | exact True.intro | exact fun _ _ h => h | exact fun _ h => h | exact fun h => h | exact pick_t | exact pick_f | omega | (focus (intros; (try simp only [nc, bytes_empty, if_or, if_and] at *); (try simp only [bl, beq_true, beq_false, dl] at *); (try simp (disch := omega) only [w64] at *); (first | omega | assumption | ((repeat' (with_reducible apply And.intro)) <;> first | omega | assumption)))))))))))
    all_goals (first | done | simp)
  · simp only [if_pos hn] at hP hU
    simp only [if_neg hz, ← hzz] at hZ
    simp only [if_neg (hzi hz), hzu] at hU2
    unfold numBad at hn
    unfold zigBad at hz
    have hRz := refZigzag_ok n (by omega) (by omega)
    rw [← hzz] at hRz
    (apply AFun.of T4_ok mixed4 [.tmp 4] kp5 [(1, [(0, .bool fun _ => true, [])]), (2, [(0, .bool fun _ => true, [])]), (3, [(1, .tup [.str fun _ => ⟨#[]⟩, .int .i64 fun _ => 2], [])]), (4, [(1, .tup [.int .i64 fun _ => zz, .int .i64 fun _ => 0], [])]), (5, [(1, .tup [.int .i64 fun _ => 0, .int .i64 fun _ => 2], [])]), (9, [(6, .tup [.int .i64 fun _ => 0, .int .i64 fun _ => 0, .int .i64 fun _ => 0], [])]), (10, [(2, .str fun _ => ⟨#[]⟩, []), (29, .int .i64 fun _ => 0, [])]), (14, [(1, .tup [.int .i64 fun _ => n, .int .i64 fun _ => 0], [])]), (15, [(2, .int .i64 fun _ => zz, [])])] Tryz.func5 (fun _ => ?_); (any_goals ((with_reducible refine wk_id ?_); cbv; (try dsimp only [nc] at *); (repeat' (with_reducible first | exact all_nil.2 trivial | exact ob_nil | refine ob_cons ?_ ?_ | refine VC.mk rfl ?_ ?_ ?_ | refine CondAny.mk (fun _ => ?_) (fun _ => ?_) | (refine CondVC.mk ?_ ?_ <;> intro hz <;> (try simp only [nc, bytes_empty, if_or, if_and] at hz) <;> (try simp only [bl, dl] at hz) <;> (revert hz; intro _)) | (refine end_exit ?_; cbv; (try dsimp only [nc] at *)) | (refine end_out ?_; cbv; (try dsimp only [nc] at *)))))))
    all_goals (try (exfalso; first | omega | grind))
    (any_goals ((with_reducible first | refine hob_none ?_ | refine hob_some (fun _ => ?_)) <;> exact known_ok))
    (any_goals ((with_reducible first | refine hob_none ?_ | refine hob_some (fun _ => ?_)) <;> exact hP))
    (any_goals ((with_reducible first | refine hob_none ?_ | refine hob_some (fun _ => ?_)) <;> exact hZ))
    (any_goals ((with_reducible first | refine hob_none ?_ | refine hob_some (fun _ => ?_)) <;> exact hU))
    (any_goals ((with_reducible first | refine hob_none ?_ | refine hob_some (fun _ => ?_)) <;> exact hU2))
    (any_goals ((with_reducible first | refine hob_none ?_ | refine hob_some (fun _ => ?_)) <;> exact hRz))
    ((all_goals (try (with_reducible ((first | refine end_ret ?_ | refine end_normal ?_); (focus (cbv; (try dsimp only [nc] at *); (try simp only [all_nil, all_cons, and_true, true_and, nc]); (try (repeat' (with_reducible apply And.intro))); (all_goals (try first | rfl | exact fun _ _ => LeL.of_eq rfl | exact LeL.of_eq rfl | trivial | omega)))))))); (all_goals (try (focus ((with_reducible rw [all_cons]); (try simp only [all_cons, all_nil, and_true, nc]); (repeat' (with_reducible apply And.intro)); (all_goals (try first | exact True.intro | exact fun _ _ h => h | exact fun _ h => h | exact fun h => h | exact pick_t | exact pick_f | omega | (focus (intros; (try simp only [nc, bytes_empty, if_or, if_and] at *); (try simp only [bl, beq_true, beq_false, dl] at *); (try simp (disch := omega) only [w64] at *); (first | omega | assumption | ((repeat' (with_reducible apply And.intro)) <;> first | omega | assumption)))))))))))
    all_goals (first | done | simp)
  · simp only [if_neg hn, ← huu, ← hps] at hP hU
    simp only [if_pos hz] at hZ
    have hRu := refUnzigzag_ok n hn
    rw [← huu] at hRu
    unfold numBad at hn
    unfold zigBad at hz
    have hT := take_at b n (by omega) (by omega)
    rw [← hps] at hT
    have hpl : ps.size ≤ 9 := by
      have := putN_len 8 n.toNat (by omega)
      rw [hps, putS, baL_size]; exact this
    have hTk := Take_ok (b ++ ps ++ ⟨#[128]⟩) b.size (by rw [ByteArray.size_append, ByteArray.size_append]; show b.size + ps.size + 1 ≤ _; omega)
    rw [hT] at hTk
    have hRp := refPut_ok n.toNat (by omega)
    rw [show ((n.toNat : Nat) : Int) = n by omega, show baL (putN n.toNat) = ps by rw [hps]; rfl] at hRp
    (apply AFun.of T4_ok mixed4 [.tmp 4] kp5 [(1, [(0, .bool fun _ => true, [])]), (2, [(0, .bool fun _ => true, [])]), (3, [(1, .tup [.str fun _ => ps, .int .i64 fun _ => 0], [])]), (4, [(1, .tup [.int .i64 fun _ => 0, .int .i64 fun _ => 2], [])]), (5, [(1, .tup [.int .i64 fun _ => uu, .int .i64 fun _ => 0], [])]), (9, [(6, .tup [.int .i64 fun _ => n, .int .i64 fun _ => (b.size : Int) + ps.size, .int .i64 fun _ => 0], [])]), (10, [(2, .str fun _ => ps, []), (29, .int .i64 fun _ => uu, [])]), (14, [(1, .tup [.int .i64 fun _ => 0, .int .i64 fun _ => 0], [])]), (15, [(2, .int .i64 fun _ => 0, [])])] Tryz.func5 (fun _ => ?_); (any_goals ((with_reducible refine wk_id ?_); cbv; (try dsimp only [nc] at *); (repeat' (with_reducible first | exact all_nil.2 trivial | exact ob_nil | refine ob_cons ?_ ?_ | refine VC.mk rfl ?_ ?_ ?_ | refine CondAny.mk (fun _ => ?_) (fun _ => ?_) | (refine CondVC.mk ?_ ?_ <;> intro hz <;> (try simp only [nc, bytes_empty, if_or, if_and] at hz) <;> (try simp only [bl, dl] at hz) <;> (revert hz; intro _)) | (refine end_exit ?_; cbv; (try dsimp only [nc] at *)) | (refine end_out ?_; cbv; (try dsimp only [nc] at *)))))))
    all_goals (try (exfalso; first | omega | grind))
    (any_goals ((with_reducible first | refine hob_none ?_ | refine hob_some (fun _ => ?_)) <;> exact known_ok))
    (any_goals ((with_reducible first | refine hob_none ?_ | refine hob_some (fun _ => ?_)) <;> exact hP))
    (any_goals ((with_reducible first | refine hob_none ?_ | refine hob_some (fun _ => ?_)) <;> exact hZ))
    (any_goals ((with_reducible first | refine hob_none ?_ | refine hob_some (fun _ => ?_)) <;> exact hU))
    (any_goals ((with_reducible first | refine hob_none ?_ | refine hob_some (fun _ => ?_)) <;> exact hTk))
    (any_goals ((with_reducible first | refine hob_none ?_ | refine hob_some (fun _ => ?_)) <;> exact hRp))
    (any_goals ((with_reducible first | refine hob_none ?_ | refine hob_some (fun _ => ?_)) <;> exact hRu))
    ((all_goals (try (with_reducible ((first | refine end_ret ?_ | refine end_normal ?_); (focus (cbv; (try dsimp only [nc] at *); (try simp only [all_nil, all_cons, and_true, true_and, nc]); (try (repeat' (with_reducible apply And.intro))); (all_goals (try first | rfl | exact fun _ _ => LeL.of_eq rfl | exact LeL.of_eq rfl | trivial | omega)))))))); (all_goals (try (focus ((with_reducible rw [all_cons]); (try simp only [all_cons, all_nil, and_true, nc]); (repeat' (with_reducible apply And.intro)); (all_goals (try first | exact True.intro | exact fun _ _ h => h | exact fun _ h => h | exact fun h => h | exact pick_t | exact pick_f | omega | (focus (intros; (try simp only [nc, bytes_empty, if_or, if_and] at *); (try simp only [bl, beq_true, beq_false, dl] at *); (try simp (disch := omega) only [w64] at *); (first | omega | assumption | ((repeat' (with_reducible apply And.intro)) <;> first | omega | assumption)))))))))))
    all_goals first
      | (rw [ByteArray.size_append]; show b.size + ps.size + 1 ≤ _; omega)
      | (exfalso; rename_i q; rw [w64 (by omega) (by omega)] at q; simp at q)
      | simp
  · simp only [if_neg hn, ← huu, ← hps] at hP hU
    simp only [if_neg hz, ← hzz] at hZ
    simp only [if_neg (hzi hz), hzu] at hU2
    have hRu := refUnzigzag_ok n hn
    rw [← huu] at hRu
    unfold numBad at hn
    unfold zigBad at hz
    have hRz := refZigzag_ok n (by omega) (by omega)
    rw [← hzz] at hRz
    have hT := take_at b n (by omega) (by omega)
    rw [← hps] at hT
    have hpl : ps.size ≤ 9 := by
      have := putN_len 8 n.toNat (by omega)
      rw [hps, putS, baL_size]; exact this
    have hTk := Take_ok (b ++ ps ++ ⟨#[128]⟩) b.size (by rw [ByteArray.size_append, ByteArray.size_append]; show b.size + ps.size + 1 ≤ _; omega)
    rw [hT] at hTk
    have hRp := refPut_ok n.toNat (by omega)
    rw [show ((n.toNat : Nat) : Int) = n by omega, show baL (putN n.toNat) = ps by rw [hps]; rfl] at hRp
    (apply AFun.of T4_ok mixed4 [.tmp 4] kp5 [(1, [(0, .bool fun _ => true, [])]), (2, [(0, .bool fun _ => true, [])]), (3, [(1, .tup [.str fun _ => ps, .int .i64 fun _ => 0], [])]), (4, [(1, .tup [.int .i64 fun _ => zz, .int .i64 fun _ => 0], [])]), (5, [(1, .tup [.int .i64 fun _ => uu, .int .i64 fun _ => 0], [])]), (9, [(6, .tup [.int .i64 fun _ => n, .int .i64 fun _ => (b.size : Int) + ps.size, .int .i64 fun _ => 0], [])]), (10, [(2, .str fun _ => ps, []), (29, .int .i64 fun _ => uu, [])]), (14, [(1, .tup [.int .i64 fun _ => n, .int .i64 fun _ => 0], [])]), (15, [(2, .int .i64 fun _ => zz, [])])] Tryz.func5 (fun _ => ?_); (any_goals ((with_reducible refine wk_id ?_); cbv; (try dsimp only [nc] at *); (repeat' (with_reducible first | exact all_nil.2 trivial | exact ob_nil | refine ob_cons ?_ ?_ | refine VC.mk rfl ?_ ?_ ?_ | refine CondAny.mk (fun _ => ?_) (fun _ => ?_) | (refine CondVC.mk ?_ ?_ <;> intro hz <;> (try simp only [nc, bytes_empty, if_or, if_and] at hz) <;> (try simp only [bl, dl] at hz) <;> (revert hz; intro _)) | (refine end_exit ?_; cbv; (try dsimp only [nc] at *)) | (refine end_out ?_; cbv; (try dsimp only [nc] at *)))))))
    all_goals (try (exfalso; first | omega | grind))
    (any_goals ((with_reducible first | refine hob_none ?_ | refine hob_some (fun _ => ?_)) <;> exact known_ok))
    (any_goals ((with_reducible first | refine hob_none ?_ | refine hob_some (fun _ => ?_)) <;> exact hP))
    (any_goals ((with_reducible first | refine hob_none ?_ | refine hob_some (fun _ => ?_)) <;> exact hZ))
    (any_goals ((with_reducible first | refine hob_none ?_ | refine hob_some (fun _ => ?_)) <;> exact hU))
    (any_goals ((with_reducible first | refine hob_none ?_ | refine hob_some (fun _ => ?_)) <;> exact hTk))
    (any_goals ((with_reducible first | refine hob_none ?_ | refine hob_some (fun _ => ?_)) <;> exact hRp))
    (any_goals ((with_reducible first | refine hob_none ?_ | refine hob_some (fun _ => ?_)) <;> exact hRu))
    (any_goals ((with_reducible first | refine hob_none ?_ | refine hob_some (fun _ => ?_)) <;> exact hU2))
    (any_goals ((with_reducible first | refine hob_none ?_ | refine hob_some (fun _ => ?_)) <;> exact hRz))
    ((all_goals (try (with_reducible ((first | refine end_ret ?_ | refine end_normal ?_); (focus (cbv; (try dsimp only [nc] at *); (try simp only [all_nil, all_cons, and_true, true_and, nc]); (try (repeat' (with_reducible apply And.intro))); (all_goals (try first | rfl | exact fun _ _ => LeL.of_eq rfl | exact LeL.of_eq rfl | trivial | omega)))))))); (all_goals (try (focus ((with_reducible rw [all_cons]); (try simp only [all_cons, all_nil, and_true, nc]); (repeat' (with_reducible apply And.intro)); (all_goals (try first | exact True.intro | exact fun _ _ h => h | exact fun _ h => h | exact fun h => h | exact pick_t | exact pick_f | omega | (focus (intros; (try simp only [nc, bytes_empty, if_or, if_and] at *); (try simp only [bl, beq_true, beq_false, dl] at *); (try simp (disch := omega) only [w64] at *); (first | omega | assumption | ((repeat' (with_reducible apply And.intro)) <;> first | omega | assumption)))))))))))
    all_goals first
      | (rw [ByteArray.size_append]; show b.size + ps.size + 1 ≤ _; omega)
      | (exfalso; rename_i q; rw [w64 (by omega) (by omega)] at q; simp at q)
      | simp
end Go.Ai

namespace Go.Proofs.YtlplmdipoacnlaaGreatDoor
open Go Go.Ai Go.RowKit Go.ChangeShapes Go.WideShapes Go.ChangeAt
set_option maxRecDepth 100000

theorem nums_contract (H : Type) (enc : TypeId × Value → H) (W : World) (base : Nat) (args : Array Value) (ds gs : List (DataW H)) (before : List MemPlace)
    (hval : ∀ (j : Nat) t v, Tryz.f5.params[j]? = some t → args[j]? = some v → Value.okWide Tryz.prog W .any base t v)
    (hW : DataW.Whole enc Tryz.prog Tryz.f5.params.toList Rows.taggedNumbersSpec.vars false W args.toList ds gs before) (hk : Rows.uptoSmall H (ds ++ gs) = true) (hL : laidMetH Tryz.prog Rows.taggedNumbersUptoRow.laid W) :
    Calls Tryz.prog 5 args W fun e W' => ∃ v, e = .returned v ∧ Rows.taggedNumbersSpec.post enc Tryz.prog Tryz.f5 false true false false W args v W' := by
  have hW' := hW
  obtain ⟨p, q, hA, hV, rfl, _, _⟩ := hW
  obtain rfl := vars_nil hV
  rw [Tryz.params5] at hA hval
  obtain ⟨v0, vs0, d0, ds0, pa0, pb0, hargs, rfl, rfl, t0, r0⟩ := trodAll_cons hA
  obtain ⟨v1, vs1, d1, ds1, pa1, pb1, rfl, rfl, rfl, t1, r1⟩ := trodAll_cons r0
  obtain ⟨rfl, rfl, rfl⟩ := trodAll_nil r1
  obtain rfl : args = #[v0, v1] := by cases args; simp_all
  have hb : Rows.uptoBulkAll ([d0, d1] ++ []) ≤ 1048576 := of_decide_eq_true hk
  simp only [List.append_nil, Rows.uptoBulkAll] at hb
  obtain ⟨x0, rfl, rfl, _, h0⟩ := open_int Tryz.underlying3 (hval 0 3 v0 rfl rfl) t0
  have a0 : RD W (fun b => b < W.heap.size) W.heap.size (.int .i64 fun _ => x0) (.int .i64 x0) := .int _ _
  obtain ⟨x1, rfl, rfl, _, _⟩ := Go.ChangeMaps.open_string Tryz.underlying9 (hval 1 9 v1 rfl rfl) t1
  have h1 : x1.size ≤ 1048576 := by simp only [Rows.uptoBulk, len_bytes] at hb; omega
  have a1 : RD W (fun b => b < W.heap.size) W.heap.size (.str fun _ => x1) (.string x1) := .str _
  refine (calls_law (Numbers_ok x0 x1 (by omega)) rfl (tabs_of hL) fun i av hi => ?_).mono fun e W' ⟨he, hbel⟩ => ⟨_, he, ?_⟩
  · match i with
    | 0 => simp only [List.getElem?_cons_zero, Option.some.injEq] at hi; subst hi; exact a0
    | 1 => simp only [List.getElem?_cons_zero, List.getElem?_cons_succ, Option.some.injEq] at hi; subst hi; exact a1
    | i + 2 => simp at hi
  · refine post_law (s := Rows.taggedNumbersSpec) rfl (by kernel_rfl) rfl ?_ hW' hbel
    rw [Tryz.params5]
    intro t ht
    have : t = 3 ∨ t = 9 := by simp at ht; grind
    rcases this with rfl | rfl
    · exact ⟨by kernel_rfl, of_decide_eq_true (by kernel_rfl)⟩
    · exact ⟨by kernel_rfl, of_decide_eq_true (by kernel_rfl)⟩

theorem nums_reads (os : Os) {H : Type} (enc : TypeId × Value → H) : ∃ places, DataW.whole enc Tryz.prog ((laidWorld os).forCall (fun _ _ => 0) ⟨#[], #[.int .i64 0, .string ⟨#[]⟩], []⟩).memory Tryz.f5.params.toList Rows.taggedNumbersSpec.vars false (#[.int .i64 0, .string ⟨#[]⟩] : Array Value).toList 8 = some ([.lit (.int .i64 0), .lit (.string [])], [], places) :=
  ⟨[], by kernel_rfl⟩
theorem nums_laid (os : Os) : laidMet Tryz.prog Rows.taggedNumbersUptoRow.laid ((laidWorld os).forCall (fun _ _ => 0) ⟨#[], #[.int .i64 0, .string ⟨#[]⟩], []⟩).memory :=
  laidMet_of_run' 8 (by kernel_rfl) (by kernel_rfl)

theorem nums_lifted (os : Os) (started : os.Started) (H : Type) (enc : TypeId × Value → H) (F : Stop.Interp) :
    ReturnsInHanded {} Tryz.checked os 5 .any ((Rows.OpenSpec.upto Rows.taggedNumbersSpec).preRow enc Tryz.prog Tryz.f5 Rows.taggedNumbersUptoRow.domain false Rows.taggedNumbersUptoRow.laid) (((Rows.OpenSpec.upto Rows.taggedNumbersSpec).at F).post enc Tryz.prog Tryz.f5 false true false false) := by
  obtain ⟨places, hx⟩ := nums_reads os enc
  refine returnsInHanded_of_row (C := Tryz.checked) (s := Rows.OpenSpec.upto Rows.taggedNumbersSpec) own4 started (by kernel_rfl) Tryz.func5
    (witness_row_at (enc := enc) (C := Tryz.checked) false (laidWorld os) #[.int .i64 0, .string ⟨#[]⟩] rfl (by kernel_rfl) (by kernel_rfl) (by kernel_rfl)
      (OpenSpec.preRow_of_cond 8 hx (by kernel_rfl) (fun k hk => by cases hk; kernel_rfl) (by kernel_rfl) (nums_laid os))) ?_
  intro W base args ds gs before hval hW _ hcond _ hL _ _
  exact nums_contract H enc W base args ds gs before hval hW (hcond _ rfl) hL

theorem nums_said : Rows.TaggedNumbersUptoSaid :=
  OpenClaim.holds_of_cond 5 Tryz.f5 rfl rfl rfl rfl rfl rfl rfl ⟨rfl, rfl, rfl, rfl, rfl⟩ rfl rfl rfl rfl rfl (by kernel_rfl) Tryz.func5 (by kernel_rfl)
    (of_decide_eq_true (by kernel_rfl)) (by unfold Func.isWrapper; first | (rw [if_pos (by decide +kernel)]; kernel_rfl) | (rw [if_neg (by decide +kernel)]; exact ⟨rfl, rfl⟩))
    (fun os started H enc _ F => by rw [OpenClaim.pre_eq_preRow]; exact nums_lifted os started H enc F)

theorem nums_plain (f : FuncId) (fn : Func) (hf : Tryz.pinned.checked.prog.funcNamed Rows.taggedNumbersUptoRow.func = some f) (hfn : Tryz.pinned.checked.prog.funcs[f]? = some fn) :
    false = Tryz.pinned.checked.prog.looks [] ∧ ∀ (j : Nat) t, fn.params[j]? = some t → Tryz.pinned.checked.prog.wantsStandIn t = false := by
  obtain rfl : f = 5 := Option.some.inj ((show Tryz.prog.funcNamed Rows.taggedNumbersUptoRow.func = some 5 by kernel_rfl).symm.trans hf) |>.symm
  obtain rfl : fn = Tryz.f5 := (Option.some.inj (Tryz.func5.symm.trans hfn)).symm
  refine ⟨by kernel_rfl, fun j t ht => ?_⟩
  rw [Tryz.params5] at ht
  have hm := Array.mem_of_getElem? ht
  have : t = 3 ∨ t = 9 := by simp at hm; grind
  rcases this with rfl | rfl
  · exact (show Tryz.prog.wantsStandIn 3 = false by kernel_rfl)
  · exact (show Tryz.prog.wantsStandIn 9 = false by kernel_rfl)

theorem taggedNumbers_holds : Rows.TaggedNumbersUptoCardSaid :=
  Claim7.holds_tied_plain_at .later [] _ _ _ _ nums_said (fun _ h => by cases h) (by kernel_rfl) (fun _ h => by cases h) taggedNumbersUpto_row_tie rfl ⟨rfl, rfl⟩ (by kernel_rfl) rfl nums_plain (by kernel_rfl)
#print axioms taggedNumbers_holds
end Go.Proofs.YtlplmdipoacnlaaGreatDoor
