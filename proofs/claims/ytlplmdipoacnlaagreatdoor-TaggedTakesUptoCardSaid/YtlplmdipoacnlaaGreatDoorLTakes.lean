/- TaggedTakes. -/
import Derived.Test.YtlplmdipoacnlaaGreatDoorWrB
import Derived.Test.YtlplmdipoacnlaaGreatDoorJoin
set_option linter.all false
namespace Go.Ai
open Go Go.Proofs
set_option maxRecDepth 100000
set_option maxHeartbeats 4000000

theorem take_same (s : ByteArray) (a : Int) (h0 : 0 ≤ a) (h1 : a ≤ s.size) : takeV s a = ((refTakeV s a).1, (refTakeV s a).2.1, (refTakeV s a).2.2.2) := by
  have hg : ¬ (a < 0 ∨ (s.size : Int) < a) := by omega
  have he : (rdAt s a).e = 0 := rfl
  cases h : takeN (rdAt s a).room 0 0 with
  | ok p =>
    obtain ⟨n, k⟩ := p
    have hn : numR (rdAt s a) = ((n : Int), (rdAt s a).to ((rdAt s a).pos + k)) := by simp [numR, he, h]
    simp only [takeV, if_neg hg, hn, refTakeV, h]
    simp [Rd.to, rdAt]
  | error k =>
    have hn : numR (rdAt s a) = (0, if k = 1 then (rdAt s a).fail (rdAt s a).fin 29 else (rdAt s a).fail (rdAt s a).pos 3) := by simp [numR, he, h]
    simp only [takeV, if_neg hg, hn, refTakeV, h]
    by_cases hk : k = 1 <;> simp [hk, Rd.fail, rdAt]

theorem Takes_ok (s : ByteArray) (a : Int) (hs : s.size ≤ 35184372088832) : AFun Tryz.prog 4 [.str fun _ => s, .int .i64 fun _ => a] [] (.bool fun _ => true) [] := by
  obtain ⟨u, hu⟩ : ∃ u, u = s.extract 0 (min s.size 40) := ⟨_, rfl⟩
  have hul : u.size ≤ 40 := by rw [hu]; simp [ByteArray.size_extract]; omega
  have hule : u.size = min s.size 40 := by rw [hu]; simp [ByteArray.size_extract]
  have hu2 : s.extract (Int.toNat 0) (if 40 < (s.size : Int) then 40 else (s.size : Int)).toNat = u := by
    rw [hu, show Int.toNat 0 = 0 from rfl, show (if 40 < (s.size : Int) then 40 else (s.size : Int)).toNat = min s.size 40 by split <;> omega]
  have hK := Take_ok u a (by omega)
  by_cases h : a < 0 ∨ (u.size : Int) < a
  · have hT : takeV u a = (0, 0, 2) := by simp [takeV, h]
    rw [hT] at hK
    (apply AFun.of T4_ok mixed4 [.tmp 4] kp4 [(2, [(2, .tup [.int .i64 fun _ => 0, .int .i64 fun _ => 0, .int .i64 fun _ => 2], [])]), (4, [(0, .bool fun _ => true, [])]), (5, [(2, .tup [.int .i64 fun _ => 0, .int .i64 fun _ => 0, .int .i64 fun _ => 0, .int .i64 fun _ => 0], [])]), (6, [(0, .bool fun _ => true, [])])] Tryz.func4 (fun _ => ?_); (any_goals ((with_reducible refine wk_id ?_); cbv; (try dsimp only [nc] at *); (repeat' (with_reducible first | exact all_nil.2 trivial | exact ob_nil | refine ob_cons ?_ ?_ | refine VC.mk rfl ?_ ?_ ?_ | refine CondAny.mk (fun _ => ?_) (fun _ => ?_) | (refine CondVC.mk ?_ ?_ <;> intro hz <;> (try simp only [nc, bytes_empty, if_or, if_and] at hz) <;> (try simp only [bl, dl] at hz) <;> (revert hz; intro _)) | (refine end_exit ?_; cbv; (try dsimp only [nc] at *)) | (refine end_out ?_; cbv; (try dsimp only [nc] at *)))))))
    all_goals (try simp only [Bool.false_eq_true, if_false, hu2] at *)
    all_goals (try (exfalso; omega))
    (any_goals ((with_reducible first | refine hob_none ?_ | refine hob_some (fun _ => ?_)) <;> exact hK))
    (any_goals ((with_reducible first | refine hob_none ?_ | refine hob_some (fun _ => ?_)) <;> exact known_ok))
    ((all_goals (try (with_reducible ((first | refine end_ret ?_ | refine end_normal ?_); (focus (cbv; (try dsimp only [nc] at *); (try simp only [all_nil, all_cons, and_true, true_and, nc]); (try (repeat' (with_reducible apply And.intro))); (all_goals (try first | rfl | exact fun _ _ => LeL.of_eq rfl | exact LeL.of_eq rfl | trivial | omega)))))))); (all_goals (try (focus ((with_reducible rw [all_cons]); (try simp only [all_cons, all_nil, and_true, nc]); (repeat' (with_reducible apply And.intro)); (all_goals (try first | exact True.intro | exact fun _ _ h => h | exact fun _ h => h | exact fun h => h | exact pick_t | exact pick_f | omega | (focus (intros; (try simp only [nc, bytes_empty, if_or, if_and] at *); (try simp only [bl, beq_true, beq_false, dl] at *); (try simp (disch := omega) only [w64] at *); (first | omega | assumption | ((repeat' (with_reducible apply And.intro)) <;> first | omega | assumption)))))))))))
    all_goals exact fun _ => rfl
  · have hR := refTake_ok u a (by omega) (by omega) (by omega)
    have hs2 := take_same u a (by omega) (by omega)
    (apply AFun.of T4_ok mixed4 [.tmp 4] kp4 [(2, [(2, .tup [.int .i64 fun _ => (takeV u a).1, .int .i64 fun _ => (takeV u a).2.1, .int .i64 fun _ => (takeV u a).2.2], [])]), (4, [(0, .bool fun _ => true, [])]), (5, [(2, .tup [.int .i64 fun _ => (refTakeV u a).1, .int .i64 fun _ => (refTakeV u a).2.1, .int .i64 fun _ => (refTakeV u a).2.2.1, .int .i64 fun _ => (refTakeV u a).2.2.2], [])]), (6, [(0, .bool fun _ => true, [])])] Tryz.func4 (fun _ => ?_); (any_goals ((with_reducible refine wk_id ?_); cbv; (try dsimp only [nc] at *); (repeat' (with_reducible first | exact all_nil.2 trivial | exact ob_nil | refine ob_cons ?_ ?_ | refine VC.mk rfl ?_ ?_ ?_ | refine CondAny.mk (fun _ => ?_) (fun _ => ?_) | (refine CondVC.mk ?_ ?_ <;> intro hz <;> (try simp only [nc, bytes_empty, if_or, if_and] at hz) <;> (try simp only [bl, dl] at hz) <;> (revert hz; intro _)) | (refine end_exit ?_; cbv; (try dsimp only [nc] at *)) | (refine end_out ?_; cbv; (try dsimp only [nc] at *)))))))
    all_goals (try simp only [Bool.false_eq_true, if_false, hu2] at *)
    all_goals (try (exfalso; omega))
    (any_goals ((with_reducible first | refine hob_none ?_ | refine hob_some (fun _ => ?_)) <;> exact hK))
    (any_goals ((with_reducible first | refine hob_none ?_ | refine hob_some (fun _ => ?_)) <;> exact hR))
    (any_goals ((with_reducible first | refine hob_none ?_ | refine hob_some (fun _ => ?_)) <;> exact known_ok))
    ((all_goals (try (with_reducible ((first | refine end_ret ?_ | refine end_normal ?_); (focus (cbv; (try dsimp only [nc] at *); (try simp only [all_nil, all_cons, and_true, true_and, nc]); (try (repeat' (with_reducible apply And.intro))); (all_goals (try first | rfl | exact fun _ _ => LeL.of_eq rfl | exact LeL.of_eq rfl | trivial | omega)))))))); (all_goals (try (focus ((with_reducible rw [all_cons]); (try simp only [all_cons, all_nil, and_true, nc]); (repeat' (with_reducible apply And.intro)); (all_goals (try first | exact True.intro | exact fun _ _ h => h | exact fun _ h => h | exact fun h => h | exact pick_t | exact pick_f | omega | (focus (intros; (try simp only [nc, bytes_empty, if_or, if_and] at *); (try simp only [bl, beq_true, beq_false, dl] at *); (try simp (disch := omega) only [w64] at *); (first | omega | assumption | ((repeat' (with_reducible apply And.intro)) <;> first | omega | assumption)))))))))))
    · exact fun _ => rfl
    · simp [hs2]
end Go.Ai

namespace Go.Proofs.YtlplmdipoacnlaaGreatDoor
open Go Go.Ai Go.RowKit Go.ChangeShapes Go.WideShapes Go.ChangeAt
set_option maxRecDepth 100000

theorem takes_contract (H : Type) (enc : TypeId × Value → H) (W : World) (base : Nat) (args : Array Value) (ds gs : List (DataW H)) (before : List MemPlace)
    (hval : ∀ (j : Nat) t v, Tryz.f4.params[j]? = some t → args[j]? = some v → Value.okWide Tryz.prog W .any base t v)
    (hW : DataW.Whole enc Tryz.prog Tryz.f4.params.toList Rows.taggedTakesSpec.vars false W args.toList ds gs before) (hk : Rows.uptoSmall H (ds ++ gs) = true) (hL : laidMetH Tryz.prog Rows.taggedTakesUptoRow.laid W) :
    Calls Tryz.prog 4 args W fun e W' => ∃ v, e = .returned v ∧ Rows.taggedTakesSpec.post enc Tryz.prog Tryz.f4 false true false false W args v W' := by
  have hW' := hW
  obtain ⟨p, q, hA, hV, rfl, _, _⟩ := hW
  obtain rfl := vars_nil hV
  rw [Tryz.params4] at hA hval
  obtain ⟨v0, vs0, d0, ds0, pa0, pb0, hargs, rfl, rfl, t0, r0⟩ := trodAll_cons hA
  obtain ⟨v1, vs1, d1, ds1, pa1, pb1, rfl, rfl, rfl, t1, r1⟩ := trodAll_cons r0
  obtain ⟨rfl, rfl, rfl⟩ := trodAll_nil r1
  obtain rfl : args = #[v0, v1] := by cases args; simp_all
  have hb : Rows.uptoBulkAll ([d0, d1] ++ []) ≤ 1048576 := of_decide_eq_true hk
  simp only [List.append_nil, Rows.uptoBulkAll] at hb
  obtain ⟨x0, rfl, rfl, _, _⟩ := Go.ChangeMaps.open_string Tryz.underlying9 (hval 0 9 v0 rfl rfl) t0
  have h0 : x0.size ≤ 1048576 := by simp only [Rows.uptoBulk, len_bytes] at hb; omega
  have a0 : RD W (fun b => b < W.heap.size) W.heap.size (.str fun _ => x0) (.string x0) := .str _
  obtain ⟨x1, rfl, rfl, _, h1⟩ := open_int Tryz.underlying3 (hval 1 3 v1 rfl rfl) t1
  have a1 : RD W (fun b => b < W.heap.size) W.heap.size (.int .i64 fun _ => x1) (.int .i64 x1) := .int _ _
  refine (calls_law (Takes_ok x0 x1 (by omega)) rfl (tabs_of hL) fun i av hi => ?_).mono fun e W' ⟨he, hbel⟩ => ⟨_, he, ?_⟩
  · match i with
    | 0 => simp only [List.getElem?_cons_zero, Option.some.injEq] at hi; subst hi; exact a0
    | 1 => simp only [List.getElem?_cons_zero, List.getElem?_cons_succ, Option.some.injEq] at hi; subst hi; exact a1
    | i + 2 => simp at hi
  · refine post_law (s := Rows.taggedTakesSpec) rfl (by kernel_rfl) rfl ?_ hW' hbel
    rw [Tryz.params4]
    intro t ht
    have : t = 9 ∨ t = 3 := by simp at ht; grind
    rcases this with rfl | rfl
    · exact ⟨by kernel_rfl, of_decide_eq_true (by kernel_rfl)⟩
    · exact ⟨by kernel_rfl, of_decide_eq_true (by kernel_rfl)⟩

theorem takes_reads (os : Os) {H : Type} (enc : TypeId × Value → H) : ∃ places, DataW.whole enc Tryz.prog ((laidWorld os).forCall (fun _ _ => 0) ⟨#[], #[.string ⟨#[]⟩, .int .i64 0], []⟩).memory Tryz.f4.params.toList Rows.taggedTakesSpec.vars false (#[.string ⟨#[]⟩, .int .i64 0] : Array Value).toList 8 = some ([.lit (.string []), .lit (.int .i64 0)], [], places) :=
  ⟨[], by kernel_rfl⟩
theorem takes_laid (os : Os) : laidMet Tryz.prog Rows.taggedTakesUptoRow.laid ((laidWorld os).forCall (fun _ _ => 0) ⟨#[], #[.string ⟨#[]⟩, .int .i64 0], []⟩).memory :=
  laidMet_of_run' 8 (by kernel_rfl) (by kernel_rfl)

theorem takes_lifted (os : Os) (started : os.Started) (H : Type) (enc : TypeId × Value → H) (F : Stop.Interp) :
    ReturnsInHanded {} Tryz.checked os 4 .any ((Rows.OpenSpec.upto Rows.taggedTakesSpec).preRow enc Tryz.prog Tryz.f4 Rows.taggedTakesUptoRow.domain false Rows.taggedTakesUptoRow.laid) (((Rows.OpenSpec.upto Rows.taggedTakesSpec).at F).post enc Tryz.prog Tryz.f4 false true false false) := by
  obtain ⟨places, hx⟩ := takes_reads os enc
  refine returnsInHanded_of_row (C := Tryz.checked) (s := Rows.OpenSpec.upto Rows.taggedTakesSpec) own4 started (by kernel_rfl) Tryz.func4
    (witness_row_at (enc := enc) (C := Tryz.checked) false (laidWorld os) #[.string ⟨#[]⟩, .int .i64 0] rfl (by kernel_rfl) (by kernel_rfl) (by kernel_rfl)
      (OpenSpec.preRow_of_cond 8 hx (by kernel_rfl) (fun k hk => by cases hk; kernel_rfl) (by kernel_rfl) (takes_laid os))) ?_
  intro W base args ds gs before hval hW _ hcond _ hL _ _
  exact takes_contract H enc W base args ds gs before hval hW (hcond _ rfl) hL

theorem takes_said : Rows.TaggedTakesUptoSaid :=
  OpenClaim.holds_of_cond 4 Tryz.f4 rfl rfl rfl rfl rfl rfl rfl ⟨rfl, rfl, rfl, rfl, rfl⟩ rfl rfl rfl rfl rfl (by kernel_rfl) Tryz.func4 (by kernel_rfl)
    (of_decide_eq_true (by kernel_rfl)) (by unfold Func.isWrapper; first | (rw [if_pos (by decide +kernel)]; kernel_rfl) | (rw [if_neg (by decide +kernel)]; exact ⟨rfl, rfl⟩))
    (fun os started H enc _ F => by rw [OpenClaim.pre_eq_preRow]; exact takes_lifted os started H enc F)

theorem takes_plain (f : FuncId) (fn : Func) (hf : Tryz.pinned.checked.prog.funcNamed Rows.taggedTakesUptoRow.func = some f) (hfn : Tryz.pinned.checked.prog.funcs[f]? = some fn) :
    false = Tryz.pinned.checked.prog.looks [] ∧ ∀ (j : Nat) t, fn.params[j]? = some t → Tryz.pinned.checked.prog.wantsStandIn t = false := by
  obtain rfl : f = 4 := Option.some.inj ((show Tryz.prog.funcNamed Rows.taggedTakesUptoRow.func = some 4 by kernel_rfl).symm.trans hf) |>.symm
  obtain rfl : fn = Tryz.f4 := (Option.some.inj (Tryz.func4.symm.trans hfn)).symm
  refine ⟨by kernel_rfl, fun j t ht => ?_⟩
  rw [Tryz.params4] at ht
  have hm := Array.mem_of_getElem? ht
  have : t = 9 ∨ t = 3 := by simp at hm; grind
  rcases this with rfl | rfl
  · exact (show Tryz.prog.wantsStandIn 9 = false by kernel_rfl)
  · exact (show Tryz.prog.wantsStandIn 3 = false by kernel_rfl)

theorem taggedTakes_holds : Rows.TaggedTakesUptoCardSaid :=
  Claim7.holds_tied_plain_at .later [] _ _ _ _ takes_said (fun _ h => by cases h) (by kernel_rfl) (fun _ h => by cases h) taggedTakesUpto_row_tie rfl ⟨rfl, rfl⟩ (by kernel_rfl) rfl takes_plain (by kernel_rfl)
#print axioms taggedTakes_holds
end Go.Proofs.YtlplmdipoacnlaaGreatDoor
