/- 'ValueLimits' returns true for every three bytes, in whatever memory, and leaves it as it was.
   Conditions: none of its own (the second form's bound holds of every three bytes); the listed tables hold what the program's text lays (the card ties them). -/
import Derived.Test.YtfphnecphebijaaDoorLimL
import Derived.Test.YtfphnecphebijaaDoorOpen
namespace Go.Proofs.YtfphnecphebijaaDoor
open Go Go.Ai Go.RowKit Go.ChangeShapes Go.WideShapes Go.ChangeAt
set_option maxRecDepth 100000

theorem limits_contract (H : Type) (enc : TypeId × Value → H) (W : World) (base : Nat) (args : Array Value) (ds gs : List (DataW H)) (before : List MemPlace)
    (hval : ∀ (j : Nat) t v, Tryd.f10.params[j]? = some t → args[j]? = some v → Value.okWide Tryd.prog W .any base t v)
    (hW : DataW.Whole enc Tryd.prog Tryd.f10.params.toList Rows.valueLimitsSpec.vars false W args.toList ds gs before) (hk : Rows.uptoSmall H (ds ++ gs) = true) (_ : laidMetH Tryd.prog Rows.valueLimitsUptoRow.laid W) :
    Calls Tryd.prog 10 args W fun e W' => ∃ v, e = .returned v ∧ Rows.valueLimitsSpec.post enc Tryd.prog Tryd.f10 false true false false W args v W' := by
  have hW' := hW
  obtain ⟨p, q, hA, hV, rfl, _, _⟩ := hW
  obtain rfl := vars_nil hV
  rw [Tryd.params10] at hA hval
  obtain ⟨v0, vs0, d0, ds0, pa0, pb0, hargs, rfl, rfl, t0, r0⟩ := trodAll_cons hA
  obtain ⟨v1, vs1, d1, ds1, pa1, pb1, rfl, rfl, rfl, t1, r1⟩ := trodAll_cons r0
  obtain ⟨v2, vs2, d2, ds2, pa2, pb2, rfl, rfl, rfl, t2, r2⟩ := trodAll_cons r1
  obtain ⟨rfl, rfl, rfl⟩ := trodAll_nil r2
  obtain rfl : args = #[v0, v1, v2] := by cases args; simp_all
  have hb : Rows.uptoBulkAll ([d0, d1, d2] ++ []) ≤ 1048576 := of_decide_eq_true hk
  simp only [List.append_nil, Rows.uptoBulkAll] at hb
  obtain ⟨x0, rfl, rfl, _, h0⟩ := open_int Tryd.underlying5 (hval 0 5 v0 rfl rfl) t0
  have a0 : RD W (fun b => b < W.heap.size) W.heap.size (.int .u8 fun _ => x0) (.int .u8 x0) := .int _ _
  obtain ⟨x1, rfl, rfl, _, h1⟩ := open_int Tryd.underlying5 (hval 1 5 v1 rfl rfl) t1
  have a1 : RD W (fun b => b < W.heap.size) W.heap.size (.int .u8 fun _ => x1) (.int .u8 x1) := .int _ _
  obtain ⟨x2, rfl, rfl, _, h2⟩ := open_int Tryd.underlying5 (hval 2 5 v2 rfl rfl) t2
  have a2 : RD W (fun b => b < W.heap.size) W.heap.size (.int .u8 fun _ => x2) (.int .u8 x2) := .int _ _
  refine (calls_law (law_limits x0 x1 x2 (byte_of h0) (byte_of h1) (byte_of h2)) rfl fun i av hi => ?_).mono fun e W' ⟨he, hbel⟩ => ⟨_, he, ?_⟩
  · match i with
    | 0 => simp only [List.getElem?_cons_zero, Option.some.injEq] at hi; subst hi; exact a0
    | 1 => simp only [List.getElem?_cons_zero, List.getElem?_cons_succ, Option.some.injEq] at hi; subst hi; exact a1
    | 2 => simp only [List.getElem?_cons_zero, List.getElem?_cons_succ, Option.some.injEq] at hi; subst hi; exact a2
    | i + 3 => simp at hi
  · refine post_law (s := Rows.valueLimitsSpec) rfl (by kernel_rfl) rfl ?_ hW' hbel
    rw [Tryd.params10]
    intro t ht
    obtain rfl : t = 5 := by simpa using ht
    exact ⟨by kernel_rfl, of_decide_eq_true (by kernel_rfl)⟩

theorem limits_reads (os : Os) {H : Type} (enc : TypeId × Value → H) : ∃ places, DataW.whole enc Tryd.prog ((laidWorld os).forCall (fun _ _ => 0) ⟨#[], #[.int .u8 0, .int .u8 0, .int .u8 0], []⟩).memory Tryd.f10.params.toList Rows.valueLimitsSpec.vars false (#[.int .u8 0, .int .u8 0, .int .u8 0] : Array Value).toList 8 = some ([.lit (.int .u8 0), .lit (.int .u8 0), .lit (.int .u8 0)], [], places) :=
  ⟨[], by kernel_rfl⟩
theorem limits_laid (os : Os) : laidMet Tryd.prog Rows.valueLimitsUptoRow.laid ((laidWorld os).forCall (fun _ _ => 0) ⟨#[], #[.int .u8 0, .int .u8 0, .int .u8 0], []⟩).memory :=
  laidMet_of_run' 8 (by kernel_rfl) (by kernel_rfl)

theorem limits_lifted (os : Os) (started : os.Started) (H : Type) (enc : TypeId × Value → H) (F : Stop.Interp) :
    ReturnsInHanded {} Tryd.checked os 10 .any ((Rows.OpenSpec.upto Rows.valueLimitsSpec).preRow enc Tryd.prog Tryd.f10 Rows.valueLimitsUptoRow.domain false Rows.valueLimitsUptoRow.laid) (((Rows.OpenSpec.upto Rows.valueLimitsSpec).at F).post enc Tryd.prog Tryd.f10 false true false false) := by
  obtain ⟨places, hx⟩ := limits_reads os enc
  refine returnsInHanded_of_row (C := Tryd.checked) (s := Rows.OpenSpec.upto Rows.valueLimitsSpec) own4 started (by kernel_rfl) Tryd.func10
    (witness_row_at (enc := enc) (C := Tryd.checked) false (laidWorld os) #[.int .u8 0, .int .u8 0, .int .u8 0] rfl (by kernel_rfl) (by kernel_rfl) (by kernel_rfl)
      (OpenSpec.preRow_of_cond 8 hx (by kernel_rfl) (fun k hk => by cases hk; kernel_rfl) (by kernel_rfl) (limits_laid os))) ?_
  intro W base args ds gs before hval hW _ hcond _ hL _ _
  exact limits_contract H enc W base args ds gs before hval hW (hcond _ rfl) hL

theorem limits_said : Rows.ValueLimitsUptoSaid :=
  OpenClaim.holds_of_cond 10 Tryd.f10 rfl rfl rfl rfl rfl rfl rfl ⟨rfl, rfl, rfl, rfl, rfl⟩ rfl rfl rfl rfl rfl (by kernel_rfl) Tryd.func10 (by kernel_rfl)
    (of_decide_eq_true (by kernel_rfl)) (by unfold Func.isWrapper; first | (rw [if_pos (by decide +kernel)]; kernel_rfl) | (rw [if_neg (by decide +kernel)]; exact ⟨rfl, rfl⟩))
    (fun os started H enc _ F => by rw [OpenClaim.pre_eq_preRow]; exact limits_lifted os started H enc F)

theorem limits_plain (f : FuncId) (fn : Func) (hf : Tryd.pinned.checked.prog.funcNamed Rows.valueLimitsUptoRow.func = some f) (hfn : Tryd.pinned.checked.prog.funcs[f]? = some fn) :
    false = Tryd.pinned.checked.prog.looks [] ∧ ∀ (j : Nat) t, fn.params[j]? = some t → Tryd.pinned.checked.prog.wantsStandIn t = false := by
  obtain rfl : f = 10 := Option.some.inj ((show Tryd.prog.funcNamed Rows.valueLimitsUptoRow.func = some 10 by kernel_rfl).symm.trans hf) |>.symm
  obtain rfl : fn = Tryd.f10 := (Option.some.inj (Tryd.func10.symm.trans hfn)).symm
  refine ⟨by kernel_rfl, fun j t ht => ?_⟩
  rw [Tryd.params10] at ht
  have hm := Array.mem_of_getElem? ht
  obtain rfl : t = 5 := by simpa using hm
  exact (show Tryd.prog.wantsStandIn 5 = false by kernel_rfl)

theorem valueLimits_holds : Rows.ValueLimitsUptoCardSaid :=
  Claim7.holds_tied_plain_at .later [] _ _ _ _ limits_said (fun _ h => by cases h) (by kernel_rfl) (fun _ h => by cases h) valueLimitsUpto_row_tie rfl ⟨rfl, rfl⟩ (by kernel_rfl) rfl limits_plain (by kernel_rfl)
#print axioms valueLimits_holds
end Go.Proofs.YtfphnecphebijaaDoor
