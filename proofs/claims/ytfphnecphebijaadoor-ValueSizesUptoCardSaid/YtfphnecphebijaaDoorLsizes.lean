/- 'ValueSizes' returns true for every value, in whatever memory, and leaves it as it was.
   Conditions: the argument holds at most 1048576 values and letters (the second form's bound); the listed tables hold what the program's text lays (the card ties them). -/
import Derived.Test.YtfphnecphebijaaDoorFnG
import Derived.Test.YtfphnecphebijaaDoorOpen
namespace Go.Ai
open Go Go.Proofs
set_option maxRecDepth 100000
set_option maxHeartbeats 2000000

theorem law_sizes (d : Nat) (v : V) (hv : V.le d v) (hd : d ≤ 1073741824) (hs : sizeV d v ≤ 4611686018427387904) : AFun Tryd.prog 9 [encV d false fun _ => v] [] (.bool fun _ => true) [] := by
  have hdep := depth_le d v
  obtain ⟨d, rfl⟩ := V.le_pos hv
  (apply AFun.of T4_ok mixed4 [.tmp 2] kp9 [(1, [(0, known_ok.out), (3, .int .i64 fun _ => sizeV (d + 1) v, []), (5, .int .i64 fun _ => sizeV (d + 1) v, []), (10, .int .i64 fun _ => depthV (d + 1) v, []), (12, .int .i64 fun _ => depthV (d + 1) v, [])])] Tryd.func9 (fun _ => ?_); (any_goals ((with_reducible refine wk_id ?_); cbv; (try dsimp only [nc] at *); (repeat' (with_reducible first | exact all_nil.2 trivial | exact ob_nil | refine ob_cons ?_ ?_ | refine VC.mk rfl ?_ ?_ ?_ | (refine CondVC.mk ?_ ?_ <;> intro hz <;> (try simp only [nc, bytes_empty, if_or, if_and] at hz) <;> (try simp only [Bool.false_eq_true, Bool.true_eq_false, Bool.and_eq_true, Bool.or_eq_true, Bool.not_eq_true', Bool.not_eq_true, Bool.and_eq_false_iff, Bool.or_eq_false_iff, Bool.not_eq_false', beq_iff_eq, beq_eq_false_iff_ne, bne_iff_ne, bne_eq_false_iff_eq, dec_t, dec_f, ne_eq, Decidable.not_not, Int.ofNat_lt, Int.ofNat_le, Int.toNat_natCast, Int.not_lt, Int.not_le, Nat.not_lt, Nat.not_le] at hz) <;> (revert hz; intro _)) | (refine end_exit ?_; cbv; (try dsimp only [nc] at *)) | (refine end_out ?_; cbv; (try dsimp only [nc] at *)))))))
  (any_goals ((with_reducible first | refine hob_none ?_ | refine hob_some (fun _ => ?_)) <;> exact known_ok))
  (any_goals ((with_reducible first | refine hob_none ?_ | refine hob_some (fun _ => ?_)) <;> exact (Size_ok d v hv hd hs)))
  (any_goals ((with_reducible first | refine hob_none ?_ | refine hob_some (fun _ => ?_)) <;> exact (refSize_ok (d + 1) v hv hs)))
  (any_goals ((with_reducible first | refine hob_none ?_ | refine hob_some (fun _ => ?_)) <;> exact (Depth_ok d v hv hd)))
  (any_goals ((with_reducible first | refine hob_none ?_ | refine hob_some (fun _ => ?_)) <;> exact (refDepth_ok (d + 1) v hv (by omega))))
  ((all_goals (try (with_reducible first | (refine end_ret ?_; (focus (cbv; (try dsimp only [nc] at *); (try simp only [all_nil, all_cons, and_true, true_and, nc]); (try (repeat' (with_reducible apply And.intro))); (all_goals (try first | rfl | exact fun _ _ => LeL.of_eq rfl | exact LeL.of_eq rfl | trivial | omega))))) | (refine end_normal ?_; (focus (cbv; (try dsimp only [nc] at *); (try simp only [all_nil, all_cons, and_true, true_and, nc]); (try (repeat' (with_reducible apply And.intro))); (all_goals (try first | rfl | exact fun _ _ => LeL.of_eq rfl | exact LeL.of_eq rfl | trivial | omega)))))))); (all_goals (try (focus ((with_reducible rw [all_cons]); (try simp only [all_cons, all_nil, and_true, nc]); (repeat' (with_reducible apply And.intro)); (all_goals (try first | exact fun _ _ h => h | exact fun _ h => h | exact fun h => h | exact pick_t | exact pick_f | omega | (focus (intros; (try simp only [nc, bytes_empty, if_or, if_and] at *); (try simp only [Bool.false_eq_true, Bool.true_eq_false, Bool.and_eq_true, Bool.or_eq_true, Bool.not_eq_true', Bool.not_eq_true, Bool.and_eq_false_iff, Bool.or_eq_false_iff, Bool.not_eq_false', beq_iff_eq, beq_eq_false_iff_ne, bne_iff_ne, bne_eq_false_iff_eq, beq_true, beq_false, dec_t, dec_f, ne_eq, Decidable.not_not, Int.ofNat_lt, Int.ofNat_le, Int.toNat_natCast, Int.not_lt, Int.not_le, Nat.not_lt, Nat.not_le] at *); (try simp (disch := omega) only [w64] at *); (first | omega | assumption | ((repeat' (with_reducible apply And.intro)) <;> first | omega | assumption)))))))))))
  all_goals simp
end Go.Ai

namespace Go.Proofs.YtfphnecphebijaaDoor
open Go Go.Ai Go.RowKit Go.ChangeShapes Go.WideShapes Go.ChangeAt
set_option maxRecDepth 100000

theorem sizes_contract (H : Type) (enc : TypeId × Value → H) (W : World) (base : Nat) (args : Array Value) (ds gs : List (DataW H)) (before : List MemPlace)
    (hval : ∀ (j : Nat) t v, Tryd.f9.params[j]? = some t → args[j]? = some v → Value.okWide Tryd.prog W .any base t v)
    (hW : DataW.Whole enc Tryd.prog Tryd.f9.params.toList Rows.valueSizesSpec.vars false W args.toList ds gs before) (hk : Rows.uptoSmall H (ds ++ gs) = true) (_ : laidMetH Tryd.prog Rows.valueSizesUptoRow.laid W) :
    Calls Tryd.prog 9 args W fun e W' => ∃ v, e = .returned v ∧ Rows.valueSizesSpec.post enc Tryd.prog Tryd.f9 false true false false W args v W' := by
  have hW' := hW
  obtain ⟨p, q, hA, hV, rfl, _, _⟩ := hW
  obtain rfl := vars_nil hV
  rw [Tryd.params9] at hA hval
  obtain ⟨v0, vs0, d0, ds0, pa0, pb0, hargs, rfl, rfl, t0, r0⟩ := trodAll_cons hA
  obtain ⟨rfl, rfl, rfl⟩ := trodAll_nil r0
  obtain rfl : args = #[v0] := by cases args; simp_all
  have hb : Rows.uptoBulkAll ([d0] ++ []) ≤ 1048576 := of_decide_eq_true hk
  simp only [List.append_nil, Rows.uptoBulkAll] at hb
  obtain ⟨x0, h0, b0, a0⟩ := open_value t0 (by omega)
  refine (calls_law (law_sizes 1048576 x0 h0 (by omega) (by omega)) rfl fun i av hi => ?_).mono fun e W' ⟨he, hbel⟩ => ⟨_, he, ?_⟩
  · match i with
    | 0 => simp only [List.getElem?_cons_zero, Option.some.injEq] at hi; subst hi; exact a0
    | i + 1 => simp at hi
  · refine post_law (s := Rows.valueSizesSpec) rfl (by kernel_rfl) rfl ?_ hW' hbel
    rw [Tryd.params9]
    intro t ht
    obtain rfl : t = 25 := by simpa using ht
    exact ⟨by kernel_rfl, of_decide_eq_true (by kernel_rfl)⟩

theorem sizes_reads (os : Os) {H : Type} (enc : TypeId × Value → H) : ∃ places, DataW.whole enc Tryd.prog ((laidWorld os).forCall (fun _ _ => 0) ⟨#[], #[.agg #[.int .i64 0, .int .i64 0, .int .i64 0, .string ⟨#[]⟩, .slice none 0 0, .slice none 0 0]], []⟩).memory Tryd.f9.params.toList Rows.valueSizesSpec.vars false (#[.agg #[.int .i64 0, .int .i64 0, .int .i64 0, .string ⟨#[]⟩, .slice none 0 0, .slice none 0 0]] : Array Value).toList 8 = some ([.agg [.lit (.int .i64 0), .lit (.int .i64 0), .lit (.int .i64 0), .lit (.string []), .nil, .nil]], [], places) :=
  ⟨[], by kernel_rfl⟩
theorem sizes_laid (os : Os) : laidMet Tryd.prog Rows.valueSizesUptoRow.laid ((laidWorld os).forCall (fun _ _ => 0) ⟨#[], #[.agg #[.int .i64 0, .int .i64 0, .int .i64 0, .string ⟨#[]⟩, .slice none 0 0, .slice none 0 0]], []⟩).memory :=
  laidMet_of_run' 8 (by kernel_rfl) (by kernel_rfl)

theorem sizes_lifted (os : Os) (started : os.Started) (H : Type) (enc : TypeId × Value → H) (F : Stop.Interp) :
    ReturnsInHanded {} Tryd.checked os 9 .any ((Rows.OpenSpec.upto Rows.valueSizesSpec).preRow enc Tryd.prog Tryd.f9 Rows.valueSizesUptoRow.domain false Rows.valueSizesUptoRow.laid) (((Rows.OpenSpec.upto Rows.valueSizesSpec).at F).post enc Tryd.prog Tryd.f9 false true false false) := by
  obtain ⟨places, hx⟩ := sizes_reads os enc
  refine returnsInHanded_of_row (C := Tryd.checked) (s := Rows.OpenSpec.upto Rows.valueSizesSpec) own4 started (by kernel_rfl) Tryd.func9
    (witness_row_at (enc := enc) (C := Tryd.checked) false (laidWorld os) #[.agg #[.int .i64 0, .int .i64 0, .int .i64 0, .string ⟨#[]⟩, .slice none 0 0, .slice none 0 0]] rfl (by kernel_rfl) (by kernel_rfl) (by kernel_rfl)
      (OpenSpec.preRow_of_cond 8 hx (by kernel_rfl) (fun k hk => by cases hk; kernel_rfl) (by kernel_rfl) (sizes_laid os))) ?_
  intro W base args ds gs before hval hW _ hcond _ hL _ _
  exact sizes_contract H enc W base args ds gs before hval hW (hcond _ rfl) hL

theorem sizes_said : Rows.ValueSizesUptoSaid :=
  OpenClaim.holds_of_cond 9 Tryd.f9 rfl rfl rfl rfl rfl rfl rfl ⟨rfl, rfl, rfl, rfl, rfl⟩ rfl rfl rfl rfl rfl (by kernel_rfl) Tryd.func9 (by kernel_rfl)
    (of_decide_eq_true (by kernel_rfl)) (by unfold Func.isWrapper; first | (rw [if_pos (by decide +kernel)]; kernel_rfl) | (rw [if_neg (by decide +kernel)]; exact ⟨rfl, rfl⟩))
    (fun os started H enc _ F => by rw [OpenClaim.pre_eq_preRow]; exact sizes_lifted os started H enc F)

theorem sizes_plain (f : FuncId) (fn : Func) (hf : Tryd.pinned.checked.prog.funcNamed Rows.valueSizesUptoRow.func = some f) (hfn : Tryd.pinned.checked.prog.funcs[f]? = some fn) :
    false = Tryd.pinned.checked.prog.looks [] ∧ ∀ (j : Nat) t, fn.params[j]? = some t → Tryd.pinned.checked.prog.wantsStandIn t = false := by
  obtain rfl : f = 9 := Option.some.inj ((show Tryd.prog.funcNamed Rows.valueSizesUptoRow.func = some 9 by kernel_rfl).symm.trans hf) |>.symm
  obtain rfl : fn = Tryd.f9 := (Option.some.inj (Tryd.func9.symm.trans hfn)).symm
  refine ⟨by kernel_rfl, fun j t ht => ?_⟩
  rw [Tryd.params9] at ht
  have hm := Array.mem_of_getElem? ht
  obtain rfl : t = 25 := by simpa using hm
  exact (show Tryd.prog.wantsStandIn 25 = false by kernel_rfl)

theorem valueSizes_holds : Rows.ValueSizesUptoCardSaid :=
  Claim7.holds_tied_plain_at .later [] _ _ _ _ sizes_said (fun _ h => by cases h) (by kernel_rfl) (fun _ h => by cases h) valueSizesUpto_row_tie rfl ⟨rfl, rfl⟩ (by kernel_rfl) rfl sizes_plain (by kernel_rfl)
#print axioms valueSizes_holds
end Go.Proofs.YtfphnecphebijaaDoor
