/- TaggedParts. -/
import Derived.Test.YtlplmdipoacnlaaGreatDoorWrB
import Derived.Test.YtlplmdipoacnlaaGreatDoorDecB
import Derived.Test.YtlplmdipoacnlaaGreatDoorJoin
set_option linter.all false
namespace Go.Ai
open Go Go.Proofs
set_option maxRecDepth 100000
set_option maxHeartbeats 4000000

theorem PartsL_ok (s : ByteArray) (hs : s.size ≤ 35184372088832) : AFun Tryz.prog 6 [.str fun _ => s] [] (.bool fun _ => true) [] := by
  obtain ⟨u, hu⟩ : ∃ u, u = s.extract 0 (min s.size 200) := ⟨_, rfl⟩
  have hul : u.size ≤ 200 := by rw [hu]; simp [ByteArray.size_extract]; omega
  have hu2 : s.extract (Int.toNat 0) (if 200 < (s.size : Int) then 200 else (s.size : Int)).toNat = u := by
    rw [hu, show Int.toNat 0 = 0 from rfl, show (if 200 < (s.size : Int) then 200 else (s.size : Int)).toNat = min s.size 200 by split <;> omega]
  have hP := Parts_ok u (by omega)
  have hD := Decode0_ok u (by omega)
  have hX := parts_same u (by omega)
  have hJ := Join_ok (partsV u).1
  obtain ⟨P, hPe⟩ : ∃ P, P = partsV u := ⟨_, rfl⟩
  obtain ⟨D, hDe⟩ : ∃ P, P = decE u := ⟨_, rfl⟩
  obtain ⟨J, hJe⟩ : ∃ J, J = joinV P.1 := ⟨_, rfl⟩
  rw [← hPe, ← hDe, ← hJe] at hX
  rw [← hPe] at hP
  rw [← hPe, ← hJe] at hJ
  rw [← hDe] at hD
  have hE : P.2.2 = D.2 ∧ P.2.1 = D.1 := by
    rcases hX with ⟨_, h⟩ | ⟨h, k, _⟩
    · rw [h]; exact ⟨rfl, rfl⟩
    · rw [h, k]; exact ⟨rfl, rfl⟩
  have hZ : ¬ P.2.2 = 0 → P.1 = [] := fun z => by
    rcases hX with ⟨_, h⟩ | ⟨h, k, _⟩
    · rw [h]
    · rw [k] at z; exact absurd rfl z
  have hK : P.2.2 = 0 → J = (u, 0) ∧ P.1.length ≤ u.size ∧ ∀ x ∈ P.1, x.2.size ≤ u.size := fun z => by
    rcases hX with ⟨q, h⟩ | ⟨h, k, k2, k3, k4⟩
    · rw [h] at z; exact absurd z q
    · exact ⟨k4, k2, k3⟩
  clear hPe hDe hJe hu hX
  (apply AFun.of T4_ok mixed4 [.tmp 2] kq6 [(2, [(0, .bool fun _ => true, [])]), (4, [(1, .tup [slcP fun _ => P.1, .int .i64 fun _ => P.2.1, .int .i64 fun _ => P.2.2], [])]),
    (5, [(2, .tup [encV 1 .any fun _ => if D.2 = 0 then recN else default, .int .i64 fun _ => D.1, .int .i64 fun _ => D.2], [])]), (10, [(1, .tup [.str fun _ => J.1, .int .i64 fun _ => J.2], [])])] Tryz.func6 (fun _ => ?_); (any_goals ((with_reducible refine wk_id ?_); cbv; (try dsimp only [nc] at *); (repeat' (with_reducible first | exact all_nil.2 trivial | exact ob_nil | refine ob_cons ?_ ?_ | refine VC.mk rfl ?_ ?_ ?_ | refine CondAny.mk (fun _ => ?_) (fun _ => ?_) | (refine CondVC.mk ?_ ?_ <;> intro zq <;> (try simp only [nc, bytes_empty, if_or, if_and] at zq) <;> (try simp only [bl, dl] at zq) <;> (revert zq; intro _)) | (refine end_exit ?_; cbv; (try dsimp only [nc] at *)) | (refine end_out ?_; cbv; (try dsimp only [nc] at *)))))))
  all_goals (try simp only [Bool.false_eq_true, if_false, hu2] at *)
  all_goals (try (exfalso; omega))
  all_goals (try exact absurd hE (by omega))
  (any_goals ((with_reducible first | refine hob_none ?_ | refine hob_some (fun _ => ?_)) <;> exact known_ok))
  (any_goals ((with_reducible first | refine hob_none ?_ | refine hob_some (fun _ => ?_)) <;> exact hP))
  (any_goals ((with_reducible first | refine hob_none ?_ | refine hob_some (fun _ => ?_)); (try dsimp only); (have q := hD; refine AFun.weak_in q ?_; clear q); (focus (cbv; (try dsimp only [nc] at *); (try simp only [all_nil, all_cons, and_true, true_and, nc]); (try (repeat' (with_reducible apply And.intro))); (all_goals (try first | rfl | exact fun _ _ => LeL.of_eq rfl | exact LeL.of_eq rfl | trivial | omega))))))
  any_goals (with_reducible refine hob_none ?_) <;> exact hJ (by have := hK ‹P.2.2 = 0›; omega) (fun x hx => by have := (hK ‹P.2.2 = 0›).2.2 x hx; omega)
  ((all_goals (try (with_reducible ((first | refine end_ret ?_ | refine end_normal ?_); (focus (cbv; (try dsimp only [nc] at *); (try simp only [all_nil, all_cons, and_true, true_and, nc]); (try (repeat' (with_reducible apply And.intro))); (all_goals (try first | rfl | exact fun _ _ => LeL.of_eq rfl | exact LeL.of_eq rfl | trivial | omega)))))))); (all_goals (try (focus ((with_reducible rw [all_cons]); (try simp only [all_cons, all_nil, and_true, nc]); (repeat' (with_reducible apply And.intro)); (all_goals (try first | exact True.intro | exact fun _ _ h => h | exact fun _ h => h | exact fun h => h | exact pick_t | exact pick_f | omega | (focus (intros; (try simp only [nc, bytes_empty, if_or, if_and] at *); (try simp only [bl, beq_true, beq_false, dl] at *); (try simp (disch := omega) only [w64] at *); (first | omega | assumption | ((repeat' (with_reducible apply And.intro)) <;> first | omega | assumption)))))))))))
  · rw [hZ ‹¬ P.2.2 = 0›]; rfl
  · rw [(hK ‹P.2.2 = 0›).1]; simp
end Go.Ai

namespace Go.Proofs.YtlplmdipoacnlaaGreatDoor
open Go Go.Ai Go.RowKit Go.ChangeShapes Go.WideShapes Go.ChangeAt
set_option maxRecDepth 100000

theorem parts_contract (H : Type) (enc : TypeId × Value → H) (W : World) (base : Nat) (args : Array Value) (ds gs : List (DataW H)) (before : List MemPlace)
    (hval : ∀ (j : Nat) t v, Tryz.f6.params[j]? = some t → args[j]? = some v → Value.okWide Tryz.prog W .any base t v)
    (hW : DataW.Whole enc Tryz.prog Tryz.f6.params.toList Rows.taggedPartsSpec.vars false W args.toList ds gs before) (hk : Rows.uptoSmall H (ds ++ gs) = true) (hL : laidMetH Tryz.prog Rows.taggedPartsUptoRow.laid W) :
    Calls Tryz.prog 6 args W fun e W' => ∃ v, e = .returned v ∧ Rows.taggedPartsSpec.post enc Tryz.prog Tryz.f6 false true false false W args v W' := by
  have hW' := hW
  obtain ⟨p, q, hA, hV, rfl, _, _⟩ := hW
  obtain rfl := vars_nil hV
  rw [Tryz.params6] at hA hval
  obtain ⟨v0, vs0, d0, ds0, pa0, pb0, hargs, rfl, rfl, t0, r0⟩ := trodAll_cons hA
  obtain ⟨rfl, rfl, rfl⟩ := trodAll_nil r0
  obtain rfl : args = #[v0] := by cases args; simp_all
  have hb : Rows.uptoBulkAll ([d0] ++ []) ≤ 1048576 := of_decide_eq_true hk
  simp only [List.append_nil, Rows.uptoBulkAll] at hb
  obtain ⟨x0, rfl, rfl, _, _⟩ := Go.ChangeMaps.open_string Tryz.underlying9 (hval 0 9 v0 rfl rfl) t0
  have h0 : x0.size ≤ 1048576 := by simp only [Rows.uptoBulk, len_bytes] at hb; omega
  have a0 : RD W (fun b => b < W.heap.size) W.heap.size (.str fun _ => x0) (.string x0) := .str _
  refine (calls_law (PartsL_ok x0 (by omega)) rfl (tabs_of hL) fun i av hi => ?_).mono fun e W' ⟨he, hbel⟩ => ⟨_, he, ?_⟩
  · match i with
    | 0 => simp only [List.getElem?_cons_zero, Option.some.injEq] at hi; subst hi; exact a0
    | i + 1 => simp at hi
  · refine post_law (s := Rows.taggedPartsSpec) rfl (by kernel_rfl) rfl ?_ hW' hbel
    rw [Tryz.params6]
    intro t ht
    obtain rfl : t = 9 := by simpa using ht
    exact ⟨by kernel_rfl, of_decide_eq_true (by kernel_rfl)⟩

theorem parts_reads (os : Os) {H : Type} (enc : TypeId × Value → H) : ∃ places, DataW.whole enc Tryz.prog ((laidWorld os).forCall (fun _ _ => 0) ⟨#[], #[.string ⟨#[]⟩], []⟩).memory Tryz.f6.params.toList Rows.taggedPartsSpec.vars false (#[.string ⟨#[]⟩] : Array Value).toList 8 = some ([.lit (.string [])], [], places) :=
  ⟨[], by kernel_rfl⟩
theorem parts_laid (os : Os) : laidMet Tryz.prog Rows.taggedPartsUptoRow.laid ((laidWorld os).forCall (fun _ _ => 0) ⟨#[], #[.string ⟨#[]⟩], []⟩).memory :=
  laidMet_of_run' 8 (by kernel_rfl) (by kernel_rfl)

theorem parts_lifted (os : Os) (started : os.Started) (H : Type) (enc : TypeId × Value → H) (F : Stop.Interp) :
    ReturnsInHanded {} Tryz.checked os 6 .any ((Rows.OpenSpec.upto Rows.taggedPartsSpec).preRow enc Tryz.prog Tryz.f6 Rows.taggedPartsUptoRow.domain false Rows.taggedPartsUptoRow.laid) (((Rows.OpenSpec.upto Rows.taggedPartsSpec).at F).post enc Tryz.prog Tryz.f6 false true false false) := by
  obtain ⟨places, hx⟩ := parts_reads os enc
  refine returnsInHanded_of_row (C := Tryz.checked) (s := Rows.OpenSpec.upto Rows.taggedPartsSpec) own4 started (by kernel_rfl) Tryz.func6
    (witness_row_at (enc := enc) (C := Tryz.checked) false (laidWorld os) #[.string ⟨#[]⟩] rfl (by kernel_rfl) (by kernel_rfl) (by kernel_rfl)
      (OpenSpec.preRow_of_cond 8 hx (by kernel_rfl) (fun k hk => by cases hk; kernel_rfl) (by kernel_rfl) (parts_laid os))) ?_
  intro W base args ds gs before hval hW _ hcond _ hL _ _
  exact parts_contract H enc W base args ds gs before hval hW (hcond _ rfl) hL

theorem parts_said : Rows.TaggedPartsUptoSaid :=
  OpenClaim.holds_of_cond 6 Tryz.f6 rfl rfl rfl rfl rfl rfl rfl ⟨rfl, rfl, rfl, rfl, rfl⟩ rfl rfl rfl rfl rfl (by kernel_rfl) Tryz.func6 (by kernel_rfl)
    (of_decide_eq_true (by kernel_rfl)) (by unfold Func.isWrapper; first | (rw [if_pos (by decide +kernel)]; kernel_rfl) | (rw [if_neg (by decide +kernel)]; exact ⟨rfl, rfl⟩))
    (fun os started H enc _ F => by rw [OpenClaim.pre_eq_preRow]; exact parts_lifted os started H enc F)

theorem parts_plain (f : FuncId) (fn : Func) (hf : Tryz.pinned.checked.prog.funcNamed Rows.taggedPartsUptoRow.func = some f) (hfn : Tryz.pinned.checked.prog.funcs[f]? = some fn) :
    false = Tryz.pinned.checked.prog.looks [] ∧ ∀ (j : Nat) t, fn.params[j]? = some t → Tryz.pinned.checked.prog.wantsStandIn t = false := by
  obtain rfl : f = 6 := Option.some.inj ((show Tryz.prog.funcNamed Rows.taggedPartsUptoRow.func = some 6 by kernel_rfl).symm.trans hf) |>.symm
  obtain rfl : fn = Tryz.f6 := (Option.some.inj (Tryz.func6.symm.trans hfn)).symm
  refine ⟨by kernel_rfl, fun j t ht => ?_⟩
  rw [Tryz.params6] at ht
  have hm := Array.mem_of_getElem? ht
  obtain rfl : t = 9 := by simpa using hm
  exact (show Tryz.prog.wantsStandIn 9 = false by kernel_rfl)

theorem taggedParts_holds : Rows.TaggedPartsUptoCardSaid :=
  Claim7.holds_tied_plain_at .later [] _ _ _ _ parts_said (fun _ h => by cases h) (by kernel_rfl) (fun _ h => by cases h) taggedPartsUpto_row_tie rfl ⟨rfl, rfl⟩ (by kernel_rfl) rfl parts_plain (by kernel_rfl)
#print axioms taggedParts_holds
end Go.Proofs.YtlplmdipoacnlaaGreatDoor
