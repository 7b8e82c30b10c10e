/- Data that can be read: the values of chapter 4 in memory. -/
import Derived.Test.YtlplmdipoacnlaaGreatDoorRows
import Derived.Test.YtlplmdipoacnlaaGreatDoorFnE
import Derived.Deep.Slices
set_option linter.all false
namespace Go.Ai
open Go Go.Proofs Go.Proofs.YtlplmdipoacnlaaGreatDoor Go.RowKit Go.Lib
set_option maxRecDepth 100000
section
variable {H : Type}
theorem bulk_pos (d : DataW H) : 1 ≤ Rows.uptoBulk d := by
  cases d with
  | lit l => cases l <;> simp [Rows.uptoBulk]
  | nil => simp [Rows.uptoBulk]
  | ptr d => simp [Rows.uptoBulk]
  | slice elems spare => simp [Rows.uptoBulk]
  | agg parts => simp [Rows.uptoBulk]
  | iface t d => simp [Rows.uptoBulk]
  | map entries => simp [Rows.uptoBulk]
  | held h => simp [Rows.uptoBulk]
theorem bulk_part {d : DataW H} : ∀ {l : List (DataW H)}, d ∈ l → Rows.uptoBulk d ≤ Rows.uptoBulkAll l
  | x :: r, h => by
    simp only [Rows.uptoBulkAll]
    rcases List.mem_cons.1 h with e | e
    · subst e; omega
    · have := bulk_part e; omega
theorem bulk_len : ∀ (l : List (DataW H)), l.length ≤ Rows.uptoBulkAll l
  | [] => by simp
  | x :: r => by have := bulk_pos x; have := bulk_len r; simp only [Rows.uptoBulkAll, List.length_cons]; omega
def RowIn (w : World) (B : Nat) (row : List AV) (cs : List Value) : Prop := cs.length = row.length ∧ ∀ (j : Nat) (av : AV) (v : Value), row[j]? = some av → cs[j]? = some v → RD w (fun b => b < w.heap.size) B av v
theorem cellsq_get {w : World} {a : Addr} {n : Nat} {cs : List Value} (h : w.cells? 0 a n = some cs) : cs.length = n ∧ ∀ j, j < n → ∃ v, cs[j]? = some v ∧ w.cell? (a.add j) = some v := by
  unfold World.cells? at h
  rw [if_pos (Nat.zero_le _)] at h
  have hl : cs.length = n := by simpa using mapM_some_length h
  refine ⟨hl, fun j hj => ?_⟩
  have := mapM_some_get h j j (by simp [hj])
  rw [List.getElem?_eq_getElem (by omega)] at this ⊢
  exact ⟨_, rfl, this⟩
theorem readSlc {α : Type} [Inhabited α] {w : World} {B : Nat} {enc : TypeId × Value → H} {t e : TypeId} {k M fuel : Nat} (ht : Tryz.prog.underlying t = some (.slice e)) (hk : Tryz.prog.cellsOf e = k) (k0 : 0 < k) (row : α → List AV) (hrow : ∀ x, (row x).length = k ∧ (row x).all AV.cell = true)
    {P : α → DataW H → Prop} (hel : ∀ (f : Nat) (cs : List Value) (z : DataW H × List MemPlace), Rows.uptoBulk z.1 < M → DataW.trod enc Tryz.prog w 0 (fun _ => true) true f e cs = some z → ∃ x, P x z.1 ∧ RowIn w B (row x) cs)
    {cs : List Value} {z : DataW H × List MemPlace} (hM : Rows.uptoBulk z.1 ≤ M) (h : DataW.trod enc Tryz.prog w 0 (fun _ => true) true fuel t cs = some z) :
    ∃ (l : List α) (D : Nat → DataW H) (v : Value), cs = [v] ∧ (∀ i, i < l.length → P (l.getD i default) (D i)) ∧ Rows.uptoBulkAll ((List.range l.length).map D) + 1 ≤ Rows.uptoBulk z.1 ∧
      RD w (fun b => b < w.heap.size) B (.slc .any k (fun _ => l.length) fun i => row (l.getD (i ()) default)) v := by
  rcases Go.Deep.open_slice ht h with ⟨rfl, rfl⟩ | ⟨a, len, cap, m, n, D, Pl, rfl, _, hlc, hcm, hm, rfl, hall⟩
  · exact ⟨[], fun _ => .nil, _, rfl, fun i hi => absurd hi (Nat.not_lt_zero _), by simp [Rows.uptoBulk, Rows.uptoBulkAll], .empty _ _ _ _ none 0 rfl (Nat.zero_le _)⟩
  · simp only [if_true] at hm
    subst hm
    have hb : Rows.uptoBulkAll ((List.range len).map D) + 1 ≤ Rows.uptoBulk (DataW.slice ((List.range len).map D) ((List.range (m - len)).map fun j => D (len + j))) := by simp only [Rows.uptoBulk]; omega
    have hx : ∀ i, i < len → ∃ x, P x (D i) ∧ ∃ cs', RowIn w B (row x) cs' ∧ w.cells? 0 (a.add (i * k)) k = some cs' := fun i hi => by
      obtain ⟨cs', h1, h2⟩ := hall i (by omega)
      rw [hk] at h1
      have hlt : Rows.uptoBulk (D i) < M := by
        have := bulk_part (List.mem_map.2 ⟨i, List.mem_range.2 hi, rfl⟩ : D i ∈ (List.range len).map D)
        simp only at hM
        omega
      obtain ⟨x, p, r⟩ := hel n cs' (D i, Pl i) hlt h2
      exact ⟨x, p, cs', r, h1⟩
    obtain ⟨X, hX⟩ := Go.Deep.choose_lt hx
    have hl : ((List.range len).map X).length = len := by simp
    have hg : ∀ i, i < len → ((List.range len).map X).getD i default = X i := fun i hi => by simp [List.getD, hi]
    refine ⟨(List.range len).map X, D, _, rfl, fun i hi => ?_, by rw [hl]; exact hb, ?_⟩
    · rw [hl] at hi; rw [hg i hi]; exact (hX i hi).1
    · rcases Nat.eq_zero_or_pos len with h0 | h0
      · subst h0
        exact .empty _ _ _ _ (some a) m (by simp) hcm
      · obtain ⟨b, o, spot⟩ := a
        have hspot : spot = none := by
          obtain ⟨_, cs', _, hc⟩ := hX 0 h0
          obtain ⟨v, _, hv⟩ := (cellsq_get hc).2 0 k0
          obtain ⟨_, _, _, _, h⟩ := World.shape?_of_cell? hv
          simpa [Addr.add] using h
        subst hspot
        have hcell : ∀ i, i < len → ∃ cs', RowIn w B (row (X i)) cs' ∧ cs'.length = k ∧ ∀ j, j < k → ∃ v, cs'[j]? = some v ∧ w.cell? ⟨b, o + (i * k + j), none⟩ = some v := fun i hi => by
          obtain ⟨_, cs', r, hc⟩ := hX i hi
          obtain ⟨q1, q2⟩ := cellsq_get hc
          refine ⟨cs', r, q1, fun j hj => ?_⟩
          obtain ⟨v, h1, h2⟩ := q2 j hj
          refine ⟨v, h1, ?_⟩
          rw [Addr.add_lit, Addr.add_lit, Nat.add_assoc] at h2
          exact h2
        have hD : b < w.heap.size := by
          obtain ⟨cs', _, _, q⟩ := hcell 0 h0
          obtain ⟨v, _, hv⟩ := q 0 k0
          exact block_lt_of_cell hv
        have hdiv : ∀ q, q < len * k → q / k < len ∧ q % k < k ∧ q / k * k + q % k = q := fun q hq =>
          ⟨by rw [Nat.div_lt_iff_lt_mul k0]; exact hq, Nat.mod_lt _ k0, by rw [Nat.mul_comm]; exact Nat.div_add_mod q k⟩
        have hall2 : ∀ q, q < len * k → ∃ v, w.cell? ⟨b, o + q, none⟩ = some v := fun q hq => by
          obtain ⟨d1, d2, d3⟩ := hdiv q hq
          obtain ⟨cs', _, _, h⟩ := hcell _ d1
          obtain ⟨v, _, hv⟩ := h _ d2
          rw [d3] at hv
          exact ⟨v, hv⟩
        obtain ⟨c, hc⟩ : ∃ c : Nat → Value, ∀ q, q < len * k → w.cell? ⟨b, o + q, none⟩ = some (c q) := by
          haveI : Inhabited Value := ⟨undef⟩
          exact Go.Deep.choose_lt hall2
        have key : RD w (fun b => b < w.heap.size) B (.slc .any k (fun _ => ((List.range len).map X).length) fun i => row (((List.range len).map X).getD (i ()) default)) (.slice (some ⟨b, o, none⟩) ((List.range len).map X).length m) := by
          refine .slc .any k (fun _ => ((List.range len).map X).length) _ b o m c (by show ((List.range len).map X).length ≤ m; rw [hl]; exact hlc) hcm hD trivial (fun q hq => hc q (by simpa [hl] using hq)) (fun i _ => (hrow _).1) (fun i _ => (hrow _).2) (fun i j av hi hj => ?_)
          have hi2 : i < len := by simpa using hi
          simp only [hg i hi2] at hj
          have hj2 : j < k := by have := (List.getElem?_eq_some_iff.1 hj).1; rw [(hrow _).1] at this; exact this
          obtain ⟨cs', ⟨_, r⟩, _, h⟩ := hcell i hi2
          obtain ⟨v, h1, h2⟩ := h j hj2
          have hlt : i * k + j < len * k := by
            have : (i + 1) * k ≤ len * k := Nat.mul_le_mul_right _ hi2
            rw [Nat.add_mul] at this; omega
          rw [hc _ hlt] at h2
          cases h2
          exact r j av _ hj h1
        rw [hl] at key
        rw [hl]
        exact key
end
section
variable {H : Type}
theorem list_split {α : Type} {l : List α} {n : Nat} (h : l.length = n + 1) : ∃ a r, l = a :: r ∧ r.length = n := by
  cases l with
  | nil => cases h
  | cons a r => exact ⟨a, r, rfl, by simpa using h⟩
end
end Go.Ai
