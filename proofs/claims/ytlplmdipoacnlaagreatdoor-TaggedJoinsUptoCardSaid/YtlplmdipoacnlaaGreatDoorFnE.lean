/- Chapter 4: values that are made of values. -/
import Derived.Test.YtlplmdipoacnlaaGreatDoorFnD
set_option linter.all false
namespace Go.Ai
open Go Go.Proofs
set_option maxRecDepth 100000
set_option maxHeartbeats 2000000
theorem cellsG_all {Q : AV → Prop} {fr : FB} {v : Unit → V} {L F : (Unit → Nat) → List AV} (hi : ∀ k n, Q (.int k n)) (hs : ∀ s, Q (.str s)) (hl : Q (.slc fr 6 (fun _ => (v ()).list.length) L)) (hf : Q (.slc fr 7 (fun _ => (v ()).fields.length) F)) : ∀ av ∈ cellsG fr v L F, Q av := by
  intro av h
  simp only [cellsG, List.mem_cons, List.not_mem_nil, or_false] at h
  rcases h with rfl | rfl | rfl | rfl | rfl | rfl
  · exact hi _ _
  · exact hi _ _
  · exact hi _ _
  · exact hs _
  · exact hl
  · exact hf
theorem nf_cells : ∀ (d : Nat) (v : Unit → V), ∀ av ∈ cells d .any v, NF av
  | 0, v => cellsG_all NF.int NF.str (.slc fun _ _ av h => by simp [sub] at h) (.slc fun _ _ av h => by simp [sub] at h)
  | d + 1, v => cellsG_all NF.int NF.str (.slc fun _ _ av h => nf_cells d _ av h) (.slc fun _ _ av h => by
      rcases List.mem_cons.1 h with rfl | h
      · exact .str _
      · exact nf_cells d _ av h)
theorem nf_encV (d : Nat) (v : Unit → V) : NF (encV d .any v) := .agg (nf_cells d v)
theorem le_cells : ∀ (d : Nat) (v : Unit → V), LeL (cells d .new v) (cells d .any v) := by
  have key : ∀ (d : Nat) (v : Unit → V) (w : World) (D : Nat → Prop) (B j : Nat) (av av' : AV) (u : Value), (cells d .new v)[j]? = some av → (cells d .any v)[j]? = some av' → RD w D B av u → RD w D B av' u := by
    intro d
    induction d with
    | zero =>
      intro v w D B j av av' u h1 h2 h
      match j with
      | 0 | 1 | 2 | 3 => simp [cells, cellsG] at h1 h2; subst h1; subst h2; exact h
      | 4 =>
        simp [cells, cellsG] at h1 h2; subst h1; subst h2
        exact rd_slc h (fun _ _ => trivial) rfl fun i hi => LeL.of_eq rfl
      | 5 =>
        simp [cells, cellsG] at h1 h2; subst h1; subst h2
        exact rd_slc h (fun _ _ => trivial) rfl fun i hi => LeL.of_eq rfl
      | n + 6 => simp [cells, cellsG] at h1
    | succ d ih =>
      intro v w D B j av av' u h1 h2 h
      match j with
      | 0 | 1 | 2 | 3 => simp [cells, cellsG] at h1 h2; subst h1; subst h2; exact h
      | 4 =>
        simp [cells, cellsG] at h1 h2; subst h1; subst h2
        exact rd_slc h (fun _ _ => trivial) rfl fun i hi => ⟨rfl, fun _ => rfl, fun w D B j av av' u h1 h2 h => ih _ w D B j av av' u h1 h2 h⟩
      | 5 =>
        simp [cells, cellsG] at h1 h2; subst h1; subst h2
        refine rd_slc h (fun _ _ => trivial) rfl fun i hi => ⟨rfl, fun _ => rfl, fun w D B j av av' u h1 h2 h => ?_⟩
        cases j with
        | zero => simp [sub] at h1 h2; subst h1; subst h2; exact h
        | succ j => exact ih _ w D B j av av' u h1 h2 h
      | n + 6 => simp [cells, cellsG] at h1
  exact fun d v => ⟨rfl, fun _ => rfl, fun w D B j av av' u h1 h2 h => key d v w D B j av av' u h1 h2 h⟩
theorem idxI_any {α : Type} {p : α → Bool} {l : List α} : decide (0 ≤ idxI p l) = l.any p := by
  unfold idxI
  rw [Bool.eq_iff_iff, decide_eq_true_eq, List.any_eq_true, ← List.findIdx_lt_length]
  split <;> omega
theorem len_bytes (a : ByteArray) : a.data.toList.length = a.size := Array.length_toList ..
end Go.Ai

namespace Go.Ai
open Go Go.Proofs
set_option maxRecDepth 100000
set_option maxHeartbeats 2000000
def sizeV : Nat → V → Nat
  | 0, _ => 0
  | d + 1, v => 1 + ((kids v).map (sizeV d)).sum
end Go.Ai
