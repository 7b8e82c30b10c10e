/- 'ValueClones' returns true for every value, in whatever memory, and leaves it as it was.
   Conditions: the argument holds at most 1048576 values and letters (the second form's bound); the listed tables hold what the program's text lays (the card ties them). -/
import Derived.Test.YtfphnecphebijaaDoorNClo
import Derived.Test.YtfphnecphebijaaDoorNOpen
namespace Go.Proofs.YtfphnecphebijaaDoor
open Go Go.Ai Go.RowKit Go.ChangeShapes Go.WideShapes Go.ChangeAt
set_option maxRecDepth 100000

theorem clones_contract (H : Type) (enc : TypeId × Value → H) (W : World) (base : Nat) (args : Array Value) (ds gs : List (DataW H)) (before : List MemPlace)
    (hval : ∀ (j : Nat) t v, Tryd.f8.params[j]? = some t → args[j]? = some v → Value.okWide Tryd.prog W .any base t v)
    (hW : DataW.Whole enc Tryd.prog Tryd.f8.params.toList Rows.valueClonesSpec.vars false W args.toList ds gs before) (hk : Rows.uptoSmall H (ds ++ gs) = true) (hL : laidMetH Tryd.prog Rows.valueClonesUptoRow.laid W) :
    Calls Tryd.prog 8 args W fun e W' => ∃ v, e = .returned v ∧ Rows.valueClonesSpec.post enc Tryd.prog Tryd.f8 false true false false W args v W' := by
  have hW' := hW
  obtain ⟨p, q, hA, hV, rfl, _, _⟩ := hW
  obtain rfl := vars_nil hV
  rw [Tryd.params8] at hA hval
  obtain ⟨v0, vs0, d0, ds0, pa0, pb0, hargs, rfl, rfl, t0, r0⟩ := trodAll_cons hA
  obtain ⟨rfl, rfl, rfl⟩ := trodAll_nil r0
  obtain rfl : args = #[v0] := by cases args; simp_all
  have hb : Rows.uptoBulkAll ([d0] ++ []) ≤ 1048576 := of_decide_eq_true hk
  simp only [List.append_nil, Rows.uptoBulkAll] at hb
  obtain ⟨x0, h0, b0, a0⟩ := open_value t0 (by omega)
  refine (calls_law (law_clones 1048576 x0 h0 (by have := tot_all 1048576 x0 h0; omega)) rfl (tabs_of hL) fun i av hi => ?_).mono fun e W' ⟨he, hbel⟩ => ⟨_, he, ?_⟩
  · match i with
    | 0 => simp only [List.getElem?_cons_zero, Option.some.injEq] at hi; subst hi; exact a0
    | i + 1 => simp at hi
  · refine post_law (s := Rows.valueClonesSpec) rfl (by kernel_rfl) rfl ?_ hW' hbel
    rw [Tryd.params8]
    intro t ht
    obtain rfl : t = 25 := by simpa using ht
    exact ⟨by kernel_rfl, of_decide_eq_true (by kernel_rfl)⟩

theorem clones_reads (os : Os) {H : Type} (enc : TypeId × Value → H) : ∃ places, DataW.whole enc Tryd.prog ((laidWorld os).forCall (fun _ _ => 0) ⟨#[], #[.agg #[.int .i64 0, .int .i64 0, .int .i64 0, .string ⟨#[]⟩, .slice none 0 0, .slice none 0 0]], []⟩).memory Tryd.f8.params.toList Rows.valueClonesSpec.vars false (#[.agg #[.int .i64 0, .int .i64 0, .int .i64 0, .string ⟨#[]⟩, .slice none 0 0, .slice none 0 0]] : Array Value).toList 8 = some ([.agg [.lit (.int .i64 0), .lit (.int .i64 0), .lit (.int .i64 0), .lit (.string []), .nil, .nil]], [], places) :=
  ⟨[], by kernel_rfl⟩
theorem clones_laid (os : Os) : laidMet Tryd.prog Rows.valueClonesUptoRow.laid ((laidWorld os).forCall (fun _ _ => 0) ⟨#[], #[.agg #[.int .i64 0, .int .i64 0, .int .i64 0, .string ⟨#[]⟩, .slice none 0 0, .slice none 0 0]], []⟩).memory :=
  laidMet_of_run' 8 (by kernel_rfl) (by kernel_rfl)

theorem clones_lifted (os : Os) (started : os.Started) (H : Type) (enc : TypeId × Value → H) (F : Stop.Interp) :
    ReturnsInHanded {} Tryd.checked os 8 .any ((Rows.OpenSpec.upto Rows.valueClonesSpec).preRow enc Tryd.prog Tryd.f8 Rows.valueClonesUptoRow.domain false Rows.valueClonesUptoRow.laid) (((Rows.OpenSpec.upto Rows.valueClonesSpec).at F).post enc Tryd.prog Tryd.f8 false true false false) := by
  obtain ⟨places, hx⟩ := clones_reads os enc
  refine returnsInHanded_of_row (C := Tryd.checked) (s := Rows.OpenSpec.upto Rows.valueClonesSpec) own4 started (by kernel_rfl) Tryd.func8
    (witness_row_at (enc := enc) (C := Tryd.checked) false (laidWorld os) #[.agg #[.int .i64 0, .int .i64 0, .int .i64 0, .string ⟨#[]⟩, .slice none 0 0, .slice none 0 0]] rfl (by kernel_rfl) (by kernel_rfl) (by kernel_rfl)
      (OpenSpec.preRow_of_cond 8 hx (by kernel_rfl) (fun k hk => by cases hk; kernel_rfl) (by kernel_rfl) (clones_laid os))) ?_
  intro W base args ds gs before hval hW _ hcond _ hL _ _
  exact clones_contract H enc W base args ds gs before hval hW (hcond _ rfl) hL

theorem clones_said : Rows.ValueClonesUptoSaid :=
  OpenClaim.holds_of_cond 8 Tryd.f8 rfl rfl rfl rfl rfl rfl rfl ⟨rfl, rfl, rfl, rfl, rfl⟩ rfl rfl rfl rfl rfl (by kernel_rfl) Tryd.func8 (by kernel_rfl)
    (of_decide_eq_true (by kernel_rfl)) (by unfold Func.isWrapper; first | (rw [if_pos (by decide +kernel)]; kernel_rfl) | (rw [if_neg (by decide +kernel)]; exact ⟨rfl, rfl⟩))
    (fun os started H enc _ F => by rw [OpenClaim.pre_eq_preRow]; exact clones_lifted os started H enc F)

theorem clones_plain (f : FuncId) (fn : Func) (hf : Tryd.pinned.checked.prog.funcNamed Rows.valueClonesUptoRow.func = some f) (hfn : Tryd.pinned.checked.prog.funcs[f]? = some fn) :
    false = Tryd.pinned.checked.prog.looks [] ∧ ∀ (j : Nat) t, fn.params[j]? = some t → Tryd.pinned.checked.prog.wantsStandIn t = false := by
  obtain rfl : f = 8 := Option.some.inj ((show Tryd.prog.funcNamed Rows.valueClonesUptoRow.func = some 8 by kernel_rfl).symm.trans hf) |>.symm
  obtain rfl : fn = Tryd.f8 := (Option.some.inj (Tryd.func8.symm.trans hfn)).symm
  refine ⟨by kernel_rfl, fun j t ht => ?_⟩
  rw [Tryd.params8] at ht
  have hm := Array.mem_of_getElem? ht
  obtain rfl : t = 25 := by simpa using hm
  exact (show Tryd.prog.wantsStandIn 25 = false by kernel_rfl)

theorem valueClones_holds : Rows.ValueClonesUptoCardSaid :=
  Claim7.holds_tied_plain_at .later [] _ _ _ _ clones_said (fun _ h => by cases h) (by kernel_rfl) (fun _ h => by cases h) valueClonesUpto_row_tie rfl ⟨rfl, rfl⟩ (by kernel_rfl) rfl clones_plain (by kernel_rfl)
#print axioms valueClones_holds
end Go.Proofs.YtfphnecphebijaaDoor
