/- Arguments of a law that go into a larger value: opened one level less deep. -/
import Derived.Test.YtfphnecphebijaaDoorNOpen
namespace Go.Ai
open Go Go.Proofs Go.Proofs.YtfphnecphebijaaDoor Go.ChangeShapes
set_option maxRecDepth 100000
section
variable {H : Type} {enc : TypeId × Value → H} {W : World} {v : Value} {d : DataW H} {p : List MemPlace}

theorem open_value_in (hd : DataW.Trod enc Tryd.prog W 0 (fun _ => true) true 25 v d p) (hb : Rows.uptoBulk d ≤ 1048575) :
    ∃ x : V, V.le 1048575 x ∧ allV 1048575 x ≤ Rows.uptoBulk d ∧ RD W (fun b => b < W.heap.size) W.heap.size (encV 1048575 .any fun _ => x) v := by
  obtain ⟨fuel, ht⟩ := hd
  obtain ⟨x, ⟨h1, h2⟩, h3, h4⟩ := readV (B := W.heap.size) 1048575 fuel v.cells.toList (d, p) hb (by omega) ht
  refine ⟨x, h1, h2, ?_⟩
  have hl : v.cells.size = 6 := by rw [show (6 : Nat) = (cells 1048575 .any fun _ => x).length from rfl, ← h3]; simp
  cases v with
  | agg vs => exact .agg _ _ (by show 6 = vs.size; simpa [Value.cells] using hl.symm) fun i av u q1 q2 => h4 i av u q1 (by simpa [Value.cells] using q2)
  | _ => simp [Value.cells] at hl

theorem open_fields_in {base : Nat} (hval : Value.okWide Tryd.prog W .any base 23 v) (hd : DataW.Trod enc Tryd.prog W 0 (fun _ => true) true 23 v d p) (hb : Rows.uptoBulk d ≤ 1048576) :
    ∃ l : List (ByteArray × V), l.length ≤ 1048576 ∧ (∀ x ∈ l, x.1.size ≤ 1048576 ∧ V.le 1048575 x.2) ∧ RD W (fun b => b < W.heap.size) W.heap.size (slcF 1048575 .any fun _ => l) v := by
  obtain ⟨fuel, ht⟩ := hd
  have c9 : Tryd.prog.cellsOf 9 = 1 := by kernel_rfl
  have c25 : Tryd.prog.cellsOf 25 = 6 := by kernel_rfl
  have c41 : Tryd.prog.cellsOf 41 = 7 := by kernel_rfl
  obtain ⟨l, D, vl, el, hP, hbl, hrl⟩ := readSlc (M := 1048577) (B := W.heap.size) Tryd.underlying23 c41 (by omega) (fun x => rowF 1048575 x) (row_field 1048575) (P := fun x d => x.1.size ≤ 1048576 ∧ V.le 1048575 x.2)
    (fun f cs z hz ht => by
      obtain ⟨xs, n, rfl, hz2, hl, hxl, hf⟩ := DataW.trod_struct Tryd.underlying41 ht
      rw [c41] at hl
      obtain ⟨x0, r0, rfl, l0⟩ := list_split (n := 1) (l := xs) (by simpa using hxl)
      obtain ⟨x1, r1, rfl, l1⟩ := list_split l0
      obtain rfl := List.eq_nil_of_length_eq_zero l1
      obtain ⟨v0, s0, rfl, m0⟩ := list_split hl
      have f0 := hf 0 _ rfl
      have f1 : DataW.trod enc Tryd.prog W 0 (fun _ => true) true n 25 (List.take (Tryd.prog.cellsOf 25) (List.drop 1 (v0 :: s0))) = some x1 := hf 1 _ rfl
      simp only [List.getElem?_cons_zero] at f0
      rw [c25, List.drop_succ_cons, List.drop_zero, List.take_of_length_le (Nat.le_of_eq m0)] at f1
      obtain ⟨t, e0, ht0, _⟩ := DataW.trod_string Tryd.underlying9 f0
      cases e0
      have hb : Rows.uptoBulk z.1 = Rows.uptoBulkAll [x0.1, x1.1] + 1 := by rw [hz2]; simp [Rows.uptoBulk]
      simp only [Rows.uptoBulkAll] at hb
      have htb : Rows.uptoBulk x0.1 = t.size + 1 := by rw [ht0]; simp [Rows.uptoBulk]
      obtain ⟨x, ⟨q1, q2⟩, q3, q4⟩ := readV 1048575 n s0 x1 (by omega) (by omega) f1
      refine ⟨(t, x), ⟨by simp only; omega, q1⟩, ?_, ?_⟩
      · show s0.length + 1 = (cells 1048575 .any fun _ => x).length + 1
        rw [q3]
      · intro j av v h1 h2
        cases j with
        | zero => simp [rowF] at h1 h2; subst h1; subst h2; exact .str _
        | succ j => exact q4 j av v (by simpa [rowF] using h1) (by simpa using h2)) (z := (d, p)) (by simp only; omega) ht
  have hll : l.length ≤ Rows.uptoBulkAll ((List.range l.length).map D) := by have := bulk_len ((List.range l.length).map D); simpa using this
  simp only at hbl
  refine ⟨l, by omega, fun x hx => ?_, ?_⟩
  · obtain ⟨i, hi, rfl⟩ := List.getElem_of_mem hx
    have := hP i hi
    rwa [show l.getD i default = l[i] by simp [List.getD, hi]] at this
  · have hv : v = vl := by
      have hl : v.cells.toList = [vl] := el
      cases v with
      | agg vs =>
        simp [Value.okWide, Tryd.underlying23, Cell.okWide, Cell.ok] at hval
      | _ => simpa [Value.cells] using hl
    rw [hv]
    exact hrl
end
end Go.Ai
