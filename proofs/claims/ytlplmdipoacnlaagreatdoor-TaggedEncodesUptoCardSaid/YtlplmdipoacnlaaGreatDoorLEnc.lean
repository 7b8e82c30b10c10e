/- TaggedEncodes. -/
import Derived.Test.YtlplmdipoacnlaaGreatDoorEncE
import Derived.Test.YtlplmdipoacnlaaGreatDoorEncC
import Derived.Test.YtlplmdipoacnlaaGreatDoorEncD
import Derived.Test.YtlplmdipoacnlaaGreatDoorWrB
import Derived.Test.YtlplmdipoacnlaaGreatDoorReadT
set_option linter.all false
namespace Go.Ai
open Go Go.Proofs
set_option maxRecDepth 100000
set_option maxHeartbeats 4000000

theorem Encodes_ok (e d c : Nat) (t : Ty) (v : V) (he : e + 1 ≤ 1073741824) (ht : Ty.le (e + 1) d t) (hz : Ty.sz (e + 1) d t) (hv : V.le c v) (hc : c ≤ 1073741824) (hs : sizeV c v ≤ 1073741824) :
    AFun Tryz.prog 3 [encT (e + 1) d .any fun _ => t, encV c .any fun _ => v] [] (.bool fun _ => true) [] := by
  have hS := Small_ok (e + 1) d t ht
  have hSV := SmallValue_ok c v hv
  have hE := Encode_ok e d c t v he ht hv hc
  have hZ := SizeT_ok e d c t v he ht hv hc
  have hCk := refCheckT_ok e d t he ht hz
  obtain ⟨a, ha⟩ : ∃ a, a = (smallT (e + 1) d 12 t 200).1 := ⟨_, rfl⟩
  obtain ⟨b, hb⟩ : ∃ b, b = (smallV c 12 v 300).1 := ⟨_, rfl⟩
  obtain ⟨S, hSS⟩ : ∃ S, S = encS (e + 1) d c t v := ⟨_, rfl⟩
  obtain ⟨X, hX⟩ : ∃ X, X = encE (e + 1) d c t v := ⟨_, rfl⟩
  obtain ⟨K, hK⟩ : ∃ K, K = chkT (e + 1) d t := ⟨_, rfl⟩
  obtain ⟨A, hA⟩ : ∃ A, A = accV c d t v := ⟨_, rfl⟩
  have hXe : X = if K ≠ 0 then K else if A = false then 18 else 0 := by rw [hX, hK, hA]; rfl
  have hSe : S = if X = 0 then baL (encN d t v) else ⟨#[]⟩ := by rw [hSS, hX]; rfl
  obtain ⟨Q, hQ⟩ : ∃ Q, Q = baL (encN d t v) := ⟨_, rfl⟩
  rw [← hQ] at hSe
  have hAc : K = 0 → AFun Tryz.prog 19 [encT (e + 1) d .any fun _ => t, encV c .any fun _ => v] [] (.bool fun _ => A) [] := fun h => by
    rw [hA]; exact refAccepts_ok (e + 1) d c t v ht (chkT_ok ht (by rw [← hK]; exact h)) hv hc hs
  have hEn : K = 0 → A = true → AFun Tryz.prog 20 [encT (e + 1) d .any fun _ => t, encV c .any fun _ => v] [] (.str fun _ => Q) [] := fun h h2 => by
    rw [hA] at h2
    simp only [accV, Bool.and_eq_true, decide_eq_true_eq] at h2
    rw [hQ]; exact refEnc_ok (e + 1) d c t v ht (chkT_ok ht (by rw [← hK]; exact h)) hv (V.ok_of_chk h2.1) hs h2.2
  rw [← ha] at hS
  rw [← hb] at hSV
  rw [← hSS, ← hX] at hE hZ
  rw [← hK] at hCk
  clear ha hb hSS hX hK hA hQ
  obtain ⟨d, rfl⟩ := Ty.le_pos ht
  obtain ⟨c, rfl⟩ := V.le_pos hv
  (apply AFun.of T4_ok mixed4 [.tmp 4] kp3 [(0, [(0, .nil, []), (1, .nil, [])]), (1, [(0, .bool fun _ => true, []), (4, .bool fun _ => a, []), (9, .bool fun _ => b, [])]), (2, [(0, .bool fun _ => true, [])]), (3, [(2, .tup [.str fun _ => S, .int .i64 fun _ => X], [])]), (4, [(2, .tup [.int .i64 fun _ => S.size, .int .i64 fun _ => X], [])]), (5, [(1, .int .i64 fun _ => K, [])]), (6, [(5, .bool fun _ => A, [])]), (10, [(3, .str fun _ => Q, [])])] Tryz.func3 (fun _ => ?_); (any_goals ((with_reducible refine wk_id ?_); cbv; (try dsimp only [nc] at *); (repeat' (with_reducible first | exact all_nil.2 trivial | exact ob_nil | refine ob_cons ?_ ?_ | refine VC.mk rfl ?_ ?_ ?_ | refine CondAny.mk (fun _ => ?_) (fun _ => ?_) | (refine CondVC.mk ?_ ?_ <;> intro zq <;> (try simp only [nc, bytes_empty, if_or, if_and] at zq) <;> (try simp only [bl, dl] at zq) <;> (revert zq; intro _)) | (refine end_exit ?_; cbv; (try dsimp only [nc] at *)) | (refine end_out ?_; cbv; (try dsimp only [nc] at *)))))))
  (any_goals ((with_reducible first | refine hob_none ?_ | refine hob_some (fun _ => ?_)) <;> exact known_ok))
  (any_goals ((with_reducible first | refine hob_none ?_ | refine hob_some (fun _ => ?_)) <;> exact hS))
  (any_goals ((with_reducible first | refine hob_none ?_ | refine hob_some (fun _ => ?_)) <;> exact hSV))
  (any_goals ((with_reducible first | refine hob_none ?_ | refine hob_some (fun _ => ?_)) <;> exact hE))
  (any_goals ((with_reducible first | refine hob_none ?_ | refine hob_some (fun _ => ?_)) <;> exact hZ))
  (any_goals ((with_reducible first | refine hob_none ?_ | refine hob_some (fun _ => ?_)) <;> exact hCk))
  any_goals (with_reducible refine hob_some (fun q => ?_)) <;> exact hAc (by simpa using q)
  all_goals (try exact absurd ‹(18 : Int) = 0› (by decide))
  any_goals (with_reducible refine hob_none ?_) <;> exact hEn ‹K = 0› ((‹¬ K = 0 ∨ A = true›).resolve_left (fun z : ¬ K = 0 => z ‹K = 0›))
  ((all_goals (try (with_reducible ((first | refine end_ret ?_ | refine end_normal ?_); (focus (cbv; (try dsimp only [nc] at *); (try simp only [all_nil, all_cons, and_true, true_and, nc]); (try (repeat' (with_reducible apply And.intro))); (all_goals (try first | rfl | exact fun _ _ => LeL.of_eq rfl | exact LeL.of_eq rfl | trivial | omega)))))))); (all_goals (try (focus ((with_reducible rw [all_cons]); (try simp only [all_cons, all_nil, and_true, nc]); (repeat' (with_reducible apply And.intro)); (all_goals (try first | exact True.intro | exact fun _ _ h => h | exact fun _ h => h | exact fun h => h | exact pick_t | exact pick_f | omega | (focus (intros; (try simp only [nc, bytes_empty, if_or, if_and] at *); (try simp only [bl, beq_true, beq_false, dl] at *); (try simp (disch := omega) only [w64] at *); (first | omega | assumption | ((repeat' (with_reducible apply And.intro)) <;> first | omega | assumption)))))))))))
  · have q := ‹K = 0 ∧ A = false›
    have hx : X = 18 := by rw [hXe, if_neg (fun z => z q.1), if_pos q.2]
    have hs2 : S = ⟨#[]⟩ := by rw [hSe, if_neg (by omega)]
    rw [hs2, hx]; rfl
  · have hx : X = K := by rw [hXe, if_pos ‹¬ K = 0›]
    have hs2 : S = ⟨#[]⟩ := by rw [hSe, if_neg (by omega)]
    rw [hs2, hx]; simp; rfl
  · have q := (‹¬ K = 0 ∨ A = true›).resolve_left (fun z : ¬ K = 0 => z ‹K = 0›)
    have hx : X = 0 := by rw [hXe, if_neg (fun z => z ‹K = 0›), if_neg (by rw [q]; simp)]
    have hs2 : S = Q := by rw [hSe, if_pos hx]
    rw [hs2, hx]; simp
end Go.Ai

namespace Go.Proofs.YtlplmdipoacnlaaGreatDoor
open Go Go.Ai Go.RowKit Go.ChangeShapes Go.WideShapes Go.ChangeAt
set_option maxRecDepth 100000

theorem encs_contract (H : Type) (enc : TypeId × Value → H) (W : World) (base : Nat) (args : Array Value) (ds gs : List (DataW H)) (before : List MemPlace)
    (hval : ∀ (j : Nat) t v, Tryz.f3.params[j]? = some t → args[j]? = some v → Value.okWide Tryz.prog W .any base t v)
    (hW : DataW.Whole enc Tryz.prog Tryz.f3.params.toList Rows.taggedEncodesSpec.vars false W args.toList ds gs before) (hk : Rows.uptoSmall H (ds ++ gs) = true) (hL : laidMetH Tryz.prog Rows.taggedEncodesUptoRow.laid W) :
    Calls Tryz.prog 3 args W fun e W' => ∃ v, e = .returned v ∧ Rows.taggedEncodesSpec.post enc Tryz.prog Tryz.f3 false true false false W args v W' := by
  have hW' := hW
  obtain ⟨p, q, hA, hV, rfl, _, _⟩ := hW
  obtain rfl := vars_nil hV
  rw [Tryz.params3] at hA hval
  obtain ⟨v0, vs0, d0, ds0, pa0, pb0, hargs, rfl, rfl, t0, r0⟩ := trodAll_cons hA
  obtain ⟨v1, vs1, d1, ds1, pa1, pb1, rfl, rfl, rfl, t1, r1⟩ := trodAll_cons r0
  obtain ⟨rfl, rfl, rfl⟩ := trodAll_nil r1
  obtain rfl : args = #[v0, v1] := by cases args; simp_all
  have hb : Rows.uptoBulkAll ([d0, d1] ++ []) ≤ 1048576 := of_decide_eq_true hk
  simp only [List.append_nil, Rows.uptoBulkAll] at hb
  obtain ⟨x0, h0, z0, a0⟩ := open_type t0 (by omega)
  obtain ⟨x1, h1, b1, a1⟩ := open_value t1 (by omega)
  refine (calls_law (Encodes_ok 1048575 1048576 1048576 x0 x1 (by decide) h0 z0 h1 (by decide) (Nat.le_trans b1 (by decide))) rfl (tabs_of hL) fun i av hi => ?_).mono fun e W' ⟨he, hbel⟩ => ⟨_, he, ?_⟩
  · match i with
    | 0 => simp only [List.getElem?_cons_zero, Option.some.injEq] at hi; subst hi; exact a0
    | 1 => simp only [List.getElem?_cons_zero, List.getElem?_cons_succ, Option.some.injEq] at hi; subst hi; exact a1
    | i + 2 => simp at hi
  · refine post_law (s := Rows.taggedEncodesSpec) rfl (by kernel_rfl) rfl ?_ hW' hbel
    rw [Tryz.params3]
    intro t ht
    have : t = 26 ∨ t = 30 := by simp at ht; grind
    rcases this with rfl | rfl
    · exact ⟨by kernel_rfl, of_decide_eq_true (by kernel_rfl)⟩
    · exact ⟨by kernel_rfl, of_decide_eq_true (by kernel_rfl)⟩

theorem encs_reads (os : Os) {H : Type} (enc : TypeId × Value → H) : ∃ places, DataW.whole enc Tryz.prog ((laidWorld os).forCall (fun _ _ => 0) ⟨#[], #[.agg #[.int .i64 0, .int .i64 0, .int .i64 0, .int .i64 0, .slice none 0 0, .slice none 0 0, .slice none 0 0], .agg #[.int .i64 0, .int .i64 0, .int .i64 0, .string ⟨#[]⟩, .slice none 0 0, .slice none 0 0]], []⟩).memory Tryz.f3.params.toList Rows.taggedEncodesSpec.vars false (#[.agg #[.int .i64 0, .int .i64 0, .int .i64 0, .int .i64 0, .slice none 0 0, .slice none 0 0, .slice none 0 0], .agg #[.int .i64 0, .int .i64 0, .int .i64 0, .string ⟨#[]⟩, .slice none 0 0, .slice none 0 0]] : Array Value).toList 8 = some ([.agg [.lit (.int .i64 0), .lit (.int .i64 0), .lit (.int .i64 0), .lit (.int .i64 0), .nil, .nil, .nil], .agg [.lit (.int .i64 0), .lit (.int .i64 0), .lit (.int .i64 0), .lit (.string []), .nil, .nil]], [], places) :=
  ⟨[], by kernel_rfl⟩
theorem encs_laid (os : Os) : laidMet Tryz.prog Rows.taggedEncodesUptoRow.laid ((laidWorld os).forCall (fun _ _ => 0) ⟨#[], #[.agg #[.int .i64 0, .int .i64 0, .int .i64 0, .int .i64 0, .slice none 0 0, .slice none 0 0, .slice none 0 0], .agg #[.int .i64 0, .int .i64 0, .int .i64 0, .string ⟨#[]⟩, .slice none 0 0, .slice none 0 0]], []⟩).memory :=
  laidMet_of_run' 8 (by kernel_rfl) (by kernel_rfl)

theorem encs_lifted (os : Os) (started : os.Started) (H : Type) (enc : TypeId × Value → H) (F : Stop.Interp) :
    ReturnsInHanded {} Tryz.checked os 3 .any ((Rows.OpenSpec.upto Rows.taggedEncodesSpec).preRow enc Tryz.prog Tryz.f3 Rows.taggedEncodesUptoRow.domain false Rows.taggedEncodesUptoRow.laid) (((Rows.OpenSpec.upto Rows.taggedEncodesSpec).at F).post enc Tryz.prog Tryz.f3 false true false false) := by
  obtain ⟨places, hx⟩ := encs_reads os enc
  refine returnsInHanded_of_row (C := Tryz.checked) (s := Rows.OpenSpec.upto Rows.taggedEncodesSpec) own4 started (by kernel_rfl) Tryz.func3
    (witness_row_at (enc := enc) (C := Tryz.checked) false (laidWorld os) #[.agg #[.int .i64 0, .int .i64 0, .int .i64 0, .int .i64 0, .slice none 0 0, .slice none 0 0, .slice none 0 0], .agg #[.int .i64 0, .int .i64 0, .int .i64 0, .string ⟨#[]⟩, .slice none 0 0, .slice none 0 0]] rfl (by kernel_rfl) (by kernel_rfl) (by kernel_rfl)
      (OpenSpec.preRow_of_cond 8 hx (by kernel_rfl) (fun k hk => by cases hk; kernel_rfl) (by kernel_rfl) (encs_laid os))) ?_
  intro W base args ds gs before hval hW _ hcond _ hL _ _
  exact encs_contract H enc W base args ds gs before hval hW (hcond _ rfl) hL

theorem encs_said : Rows.TaggedEncodesUptoSaid :=
  OpenClaim.holds_of_cond 3 Tryz.f3 rfl rfl rfl rfl rfl rfl rfl ⟨rfl, rfl, rfl, rfl, rfl⟩ rfl rfl rfl rfl rfl (by kernel_rfl) Tryz.func3 (by kernel_rfl)
    (of_decide_eq_true (by kernel_rfl)) (by unfold Func.isWrapper; first | (rw [if_pos (by decide +kernel)]; kernel_rfl) | (rw [if_neg (by decide +kernel)]; exact ⟨rfl, rfl⟩))
    (fun os started H enc _ F => by rw [OpenClaim.pre_eq_preRow]; exact encs_lifted os started H enc F)

theorem encs_plain (f : FuncId) (fn : Func) (hf : Tryz.pinned.checked.prog.funcNamed Rows.taggedEncodesUptoRow.func = some f) (hfn : Tryz.pinned.checked.prog.funcs[f]? = some fn) :
    false = Tryz.pinned.checked.prog.looks [] ∧ ∀ (j : Nat) t, fn.params[j]? = some t → Tryz.pinned.checked.prog.wantsStandIn t = false := by
  obtain rfl : f = 3 := Option.some.inj ((show Tryz.prog.funcNamed Rows.taggedEncodesUptoRow.func = some 3 by kernel_rfl).symm.trans hf) |>.symm
  obtain rfl : fn = Tryz.f3 := (Option.some.inj (Tryz.func3.symm.trans hfn)).symm
  refine ⟨by kernel_rfl, fun j t ht => ?_⟩
  rw [Tryz.params3] at ht
  have hm := Array.mem_of_getElem? ht
  have : t = 26 ∨ t = 30 := by simp at hm; grind
  rcases this with rfl | rfl
  · exact (show Tryz.prog.wantsStandIn 26 = false by kernel_rfl)
  · exact (show Tryz.prog.wantsStandIn 30 = false by kernel_rfl)

theorem taggedEncodes_holds : Rows.TaggedEncodesUptoCardSaid :=
  Claim7.holds_tied_plain_at .later [] _ _ _ _ encs_said (fun _ h => by cases h) (by kernel_rfl) (fun _ h => by cases h) taggedEncodesUpto_row_tie rfl ⟨rfl, rfl⟩ (by kernel_rfl) rfl encs_plain (by kernel_rfl)
#print axioms taggedEncodes_holds
end Go.Proofs.YtlplmdipoacnlaaGreatDoor
