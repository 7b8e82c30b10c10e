/- poke: its two regions that draw their order. -/
import Derived.Test.YtfphnecphebijaaDoorNEngC
import Derived.Test.YtfphnecphebijaaDoorNFnA
import Derived.Test.YtfphnecphebijaaDoorNIns
import Derived.Test.YtfphnecphebijaaDoorNFnC
import Derived.WalkKit
namespace Go.Ai
open Go Go.Proofs Go.RowKit Go.Lib
set_option maxRecDepth 100000
set_option maxHeartbeats 2000000

structure GG (l : List (Nat × Value)) (tm : Array Value) (df : List Deferred) (n : Nat) (W : (Nat → Bool) → World) (D : Nat → Bool) (a : Act) (w : World) : Prop where
  df : a.defers = df
  size : a.tmps.size = n
  keep : ∀ t, (∀ i p, l[i]? = some p → D i = true → p.1 ≠ t) → a.tmps.getD t undef = tm.getD t undef
  val : ∀ i p, l[i]? = some p → D i = true → p.1 < n → a.tmps.getD p.1 undef = p.2
  world : w = W D

theorem GG.at {l : List (Nat × Value)} {tm : Array Value} {df : List Deferred} {n : Nat} {W : (Nat → Bool) → World} {D : Nat → Bool} {a : Act} {w : World} (h : GG l tm df n W D a w) (i d : Nat) (v : Value) (hl : l[i]? = some (d, v)) (hD : D i = true) (hd : d < n) : a.tmps.getD d undef = v := h.val i _ hl hD hd

theorem GG.old {l : List (Nat × Value)} {tm : Array Value} {df : List Deferred} {n : Nat} {W : (Nat → Bool) → World} {D : Nat → Bool} {a : Act} {w : World} (h : GG l tm df n W D a w) (t : Nat) (v : Value) (hv : tm.getD t undef = v) (ht : (l.all fun p => !(p.1 == t)) = true) : a.tmps.getD t undef = v := by
  rw [h.keep t, hv]
  intro i p hp _ e
  have := List.all_eq_true.1 ht p (List.mem_of_getElem? hp)
  simp [e] at this

theorem GG.put {l : List (Nat × Value)} {tm : Array Value} {df : List Deferred} {n : Nat} {W : (Nat → Bool) → World} {D : Nat → Bool} {a : Act} {w : World} (h : GG l tm df n W D a w) (i d : Nat) (v : Value) (hl : l[i]? = some (d, v)) (hd : d < n)
    (hnd : (l.zipIdx.all fun p => !(p.1.1 == d) || p.2 == i) = true) (hW : W (fun j => D j || j == i) = W D) : GG l tm df n W (fun j => D j || j == i) ⟨a.tmps.setIfInBounds d v, a.defers⟩ w := by
  have hne : ∀ j p, l[j]? = some p → j ≠ i → p.1 ≠ d := fun j p hp hj e => by
    have := List.all_eq_true.1 hnd (p, j) (by rw [List.mem_zipIdx_iff_getElem?]; exact hp)
    simp [e, hj] at this
  refine ⟨h.df, by simp [h.size], fun t ht => ?_, fun j p hp hj hpn => ?_, by rw [hW]; exact h.world⟩
  · have htd : t ≠ d := fun e => ht i _ hl (by simp) e.symm
    rw [← h.keep t (fun j p hp hj => ht j p hp (by simp [hj]))]
    simp [Array.getD_eq_getD_getElem?, Ne.symm htd]
  · by_cases e : j = i
    · subst e
      rw [hl] at hp; cases hp
      simp [Array.getD_eq_getD_getElem?, h.size, hd]
    · have hj' : D j = true := by simpa [e] using hj
      rw [← h.val j p hp hj' hpn]
      simp [Array.getD_eq_getD_getElem?, Ne.symm (hne j p hp e)]

theorem GG.turn {l : List (Nat × Value)} {tm : Array Value} {df : List Deferred} {n : Nat} {W : (Nat → Bool) → World} {D : Nat → Bool} {a : Act} {w w' : World} (h : GG l tm df n W D a w) (i d : Nat) (v : Value) (hl : l[i]? = some (d, v)) (hd : n ≤ d) (hW : W (fun j => D j || j == i) = w') : GG l tm df n W (fun j => D j || j == i) a w' := by
  refine ⟨h.df, h.size, fun t ht => h.keep t (fun j p hp hj => ht j p hp (by simp [hj])), fun j p hp hj hpn => ?_, hW.symm⟩
  by_cases e : j = i
  · subst e; rw [hl] at hp; cases hp; exact absurd hpn (Nat.not_lt.2 hd)
  · exact h.val j p hp (by simpa [e] using hj) hpn

theorem wpOp_of {P : Program} {ops : Array Oper} {Q : Exit → Act → World → Prop} {i : Nat} {o : Oper} {K : Act → World → Prop} {a : Act} {w : World} (ho : ops[i]? = some o) (hg : o.guard = none) (h : o.wp P a w K Q) : wpOp P ops Q i K a w := by
  unfold wpOp
  rw [ho]
  simp only
  rw [if_pos (by simp [Region.wanted, hg])]
  exact .inl h

theorem cell_set_block (w : World) (a : Addr) (v : Value) (x : Addr) (h : x.block ≠ a.block) : (w.setCell a v).cell? x = w.cell? x := by
  simp [World.cell?, World.setCell, Array.getElem?_modify, Ne.symm h]
theorem cell_set_off (w : World) (b o : Nat) (v : Value) (q : Nat) (h : q ≠ o) : (w.setCell ⟨b, o, none⟩ v).cell? ⟨b, q, none⟩ = w.cell? ⟨b, q, none⟩ := by
  simp only [World.cell?, World.setCell, Array.getElem?_modify, if_true]
  cases w.heap[b]? with
  | none => rfl
  | some ob => cases ob <;> simp [Ne.symm h]
theorem frozen_set (w : World) (a : Addr) (v : Value) (x : Addr) : (w.setCell a v).frozen? x = w.frozen? x := by
  simp only [World.frozen?, World.setCell, Array.getElem?_modify]
  by_cases h : a.block = x.block
  · rw [if_pos h]
    cases w.heap[x.block]? with
    | none => rfl
    | some ob => cases ob <;> rfl
  · rw [if_neg h]

def detW (s1 s2 : Nat) (Q W1 W2 : World) (D : Nat → Bool) : World := if D s2 = true then W2 else if D s1 = true then W1 else Q
theorem detW_0 {s1 s2 : Nat} {Q W1 W2 : World} {D : Nat → Bool} (h2 : D s2 = false) (h1 : D s1 = false) : detW s1 s2 Q W1 W2 D = Q := by simp [detW, h1, h2]
theorem detW_1 {s1 s2 : Nat} {Q W1 W2 : World} {D : Nat → Bool} (h2 : D s2 = false) (h1 : D s1 = true) : detW s1 s2 Q W1 W2 D = W1 := by simp [detW, h1, h2]
theorem detW_2 {s1 s2 : Nat} {Q W1 W2 : World} {D : Nat → Bool} (h2 : D s2 = true) : detW s1 s2 Q W1 W2 D = W2 := by simp [detW, h2]
theorem detW_same {s1 s2 i : Nat} {Q W1 W2 : World} {D : Nat → Bool} (h1 : s1 ≠ i) (h2 : s2 ≠ i) : detW s1 s2 Q W1 W2 (fun j => D j || j == i) = detW s1 s2 Q W1 W2 D := by simp [detW, h1, h2]
theorem detW_cell {s1 s2 : Nat} {Q W1 W2 : World} {D : Nat → Bool} {x : Addr} {v : Value} (h0 : Q.cell? x = some v) (h1 : W1.cell? x = some v) (h2 : W2.cell? x = some v) : (detW s1 s2 Q W1 W2 D).cell? x = some v := by
  unfold detW
  split
  · exact h2
  · split
    · exact h1
    · exact h0

def DetPost (tm : Array Value) (df : List Deferred) (n lo hi : Nat) (W : World) : Exit → Act → World → Prop
  | .normal, a, w => a.defers = df ∧ a.tmps.size = n ∧ (∀ t, t < lo ∨ hi < t → a.tmps.getD t undef = tm.getD t undef) ∧ w = W
  | _, _, _ => False


def reg_list : Code := .region 5 #[{ dst := some 17, op := Go.Op.fieldAddr 25 (Go.Operand.tmp 1) 4, type := 0, pos := "law.go:38", after := #[], guard := none }, { dst := some 18, op := Go.Op.load 22 (Go.Operand.tmp 17), type := 22, pos := "law.go:38", after := #[{ on := 0, ground := Go.Ground.data }], guard := none }, { dst := some 19, op := Go.Op.move (Go.Operand.tmp 2), type := 3, pos := "law.go:38", after := #[], guard := none }, { dst := some 20, op := Go.Op.fieldAddr 25 (Go.Operand.tmp 1) 4, type := 0, pos := "law.go:38", after := #[{ on := 22, ground := Go.Ground.gcOnly Go.Departure.lateStores }], guard := none }, { dst := some 21, op := Go.Op.load 22 (Go.Operand.tmp 20), type := 22, pos := "law.go:38", after := #[{ on := 3, ground := Go.Ground.data }, { on := 22, ground := Go.Ground.gcOnly Go.Departure.lateStores }], guard := none }, { dst := some 22, op := Go.Op.move (Go.Operand.tmp 2), type := 3, pos := "law.go:38", after := #[{ on := 22, ground := Go.Ground.gcOnly Go.Departure.lateStores }], guard := none }, { dst := some 23, op := Go.Op.fieldAddr 25 (Go.Operand.tmp 1) 4, type := 0, pos := "law.go:38", after := #[], guard := none }, { dst := some 24, op := Go.Op.load 22 (Go.Operand.tmp 23), type := 22, pos := "law.go:38", after := #[{ on := 6, ground := Go.Ground.data }], guard := none }, { dst := some 25, op := Go.Op.move (Go.Operand.tmp 2), type := 3, pos := "law.go:38", after := #[], guard := none }, { dst := some 26, op := Go.Op.indexAddr 22 (Go.Operand.tmp 24) (Go.Operand.tmp 25), type := 0, pos := "law.go:38", after := #[{ on := 7, ground := Go.Ground.data }, { on := 8, ground := Go.Ground.data }], guard := none }, { dst := some 27, op := Go.Op.fieldAddr 25 (Go.Operand.tmp 26) 0, type := 0, pos := "law.go:38", after := #[{ on := 9, ground := Go.Ground.data }], guard := none }, { dst := some 28, op := Go.Op.load 3 (Go.Operand.tmp 27), type := 3, pos := "law.go:38", after := #[{ on := 10, ground := Go.Ground.data }], guard := none }, { dst := some 29, op := Go.Op.binOp Go.BinOp.xor 3 (Go.Operand.tmp 28) (Go.Operand.const (Go.Value.int Go.IntKind.i64 1)) 3, type := 3, pos := "law.go:38", after := #[{ on := 11, ground := Go.Ground.data }], guard := none }, { dst := some 30, op := Go.Op.fieldAddr 25 (Go.Operand.tmp 1) 4, type := 0, pos := "law.go:38", after := #[], guard := none }, { dst := some 31, op := Go.Op.load 22 (Go.Operand.tmp 30), type := 22, pos := "law.go:38", after := #[{ on := 13, ground := Go.Ground.data }], guard := none }, { dst := some 32, op := Go.Op.move (Go.Operand.tmp 2), type := 3, pos := "law.go:38", after := #[], guard := none }, { dst := some 33, op := Go.Op.indexAddr 22 (Go.Operand.tmp 31) (Go.Operand.tmp 32), type := 0, pos := "law.go:38", after := #[{ on := 14, ground := Go.Ground.data }, { on := 15, ground := Go.Ground.data }], guard := none }, { dst := some 34, op := Go.Op.fieldAddr 25 (Go.Operand.tmp 33) 3, type := 0, pos := "law.go:38", after := #[{ on := 16, ground := Go.Ground.data }], guard := none }, { dst := some 35, op := Go.Op.load 9 (Go.Operand.tmp 34), type := 9, pos := "law.go:38", after := #[{ on := 17, ground := Go.Ground.data }], guard := none }, { dst := some 36, op := Go.Op.binOp Go.BinOp.add 9 (Go.Operand.tmp 35) (Go.Operand.const (Go.Value.string { data := #[120] })) 9, type := 9, pos := "law.go:38", after := #[{ on := 18, ground := Go.Ground.data }], guard := none }, { dst := some 37, op := Go.Op.indexAddr 22 (Go.Operand.tmp 18) (Go.Operand.tmp 19), type := 0, pos := "law.go:38", after := #[{ on := 1, ground := Go.Ground.data }, { on := 2, ground := Go.Ground.data }, { on := 0, ground := Go.Ground.phase }, { on := 1, ground := Go.Ground.phase }, { on := 2, ground := Go.Ground.phase }, { on := 3, ground := Go.Ground.textOnly Go.Departure.lateStores }, { on := 4, ground := Go.Ground.textOnly Go.Departure.lateStores }, { on := 5, ground := Go.Ground.textOnly Go.Departure.lateStores }, { on := 6, ground := Go.Ground.phase }, { on := 7, ground := Go.Ground.phase }, { on := 8, ground := Go.Ground.phase }, { on := 9, ground := Go.Ground.phase }, { on := 10, ground := Go.Ground.phase }, { on := 11, ground := Go.Ground.phase }, { on := 12, ground := Go.Ground.phase }, { on := 13, ground := Go.Ground.textOnly Go.Departure.lateStores }, { on := 14, ground := Go.Ground.textOnly Go.Departure.lateStores }, { on := 15, ground := Go.Ground.textOnly Go.Departure.lateStores }, { on := 16, ground := Go.Ground.textOnly Go.Departure.lateStoresUnsure }, { on := 17, ground := Go.Ground.textOnly Go.Departure.lateStoresUnsure }, { on := 18, ground := Go.Ground.phase }, { on := 19, ground := Go.Ground.textOnly Go.Departure.lateStoresUnsure }], guard := none }, { dst := some 38, op := Go.Op.fieldAddr 25 (Go.Operand.tmp 37) 0, type := 0, pos := "law.go:38", after := #[{ on := 20, ground := Go.Ground.data }, { on := 0, ground := Go.Ground.phase }, { on := 1, ground := Go.Ground.phase }, { on := 2, ground := Go.Ground.phase }, { on := 3, ground := Go.Ground.textOnly Go.Departure.lateStores }, { on := 4, ground := Go.Ground.textOnly Go.Departure.lateStores }, { on := 5, ground := Go.Ground.textOnly Go.Departure.lateStores }, { on := 6, ground := Go.Ground.phase }, { on := 7, ground := Go.Ground.phase }, { on := 8, ground := Go.Ground.phase }, { on := 9, ground := Go.Ground.phase }, { on := 10, ground := Go.Ground.phase }, { on := 11, ground := Go.Ground.phase }, { on := 12, ground := Go.Ground.phase }, { on := 13, ground := Go.Ground.textOnly Go.Departure.lateStores }, { on := 14, ground := Go.Ground.textOnly Go.Departure.lateStores }, { on := 15, ground := Go.Ground.textOnly Go.Departure.lateStores }, { on := 16, ground := Go.Ground.textOnly Go.Departure.lateStoresUnsure }, { on := 17, ground := Go.Ground.textOnly Go.Departure.lateStoresUnsure }, { on := 18, ground := Go.Ground.phase }, { on := 19, ground := Go.Ground.textOnly Go.Departure.lateStoresUnsure }], guard := none }, { dst := none, op := Go.Op.store 3 (Go.Operand.tmp 38) (Go.Operand.tmp 29), type := 0, pos := "law.go:38", after := #[{ on := 21, ground := Go.Ground.data }, { on := 12, ground := Go.Ground.data }, { on := 0, ground := Go.Ground.phase }, { on := 1, ground := Go.Ground.phase }, { on := 2, ground := Go.Ground.phase }, { on := 3, ground := Go.Ground.textOnly Go.Departure.lateStores }, { on := 4, ground := Go.Ground.textOnly Go.Departure.lateStores }, { on := 5, ground := Go.Ground.textOnly Go.Departure.lateStores }, { on := 6, ground := Go.Ground.phase }, { on := 7, ground := Go.Ground.phase }, { on := 8, ground := Go.Ground.phase }, { on := 9, ground := Go.Ground.phase }, { on := 10, ground := Go.Ground.phase }, { on := 11, ground := Go.Ground.phase }, { on := 12, ground := Go.Ground.phase }, { on := 13, ground := Go.Ground.textOnly Go.Departure.lateStores }, { on := 14, ground := Go.Ground.textOnly Go.Departure.lateStores }, { on := 15, ground := Go.Ground.textOnly Go.Departure.lateStores }, { on := 16, ground := Go.Ground.textOnly Go.Departure.lateStoresUnsure }, { on := 17, ground := Go.Ground.textOnly Go.Departure.lateStoresUnsure }, { on := 18, ground := Go.Ground.phase }, { on := 19, ground := Go.Ground.textOnly Go.Departure.lateStoresUnsure }], guard := none }, { dst := some 39, op := Go.Op.indexAddr 22 (Go.Operand.tmp 21) (Go.Operand.tmp 22), type := 0, pos := "law.go:38", after := #[{ on := 4, ground := Go.Ground.data }, { on := 5, ground := Go.Ground.data }, { on := 0, ground := Go.Ground.phase }, { on := 1, ground := Go.Ground.phase }, { on := 2, ground := Go.Ground.phase }, { on := 3, ground := Go.Ground.phase }, { on := 4, ground := Go.Ground.phase }, { on := 5, ground := Go.Ground.phase }, { on := 6, ground := Go.Ground.phase }, { on := 7, ground := Go.Ground.phase }, { on := 8, ground := Go.Ground.phase }, { on := 9, ground := Go.Ground.phase }, { on := 10, ground := Go.Ground.phase }, { on := 11, ground := Go.Ground.phase }, { on := 12, ground := Go.Ground.phase }, { on := 13, ground := Go.Ground.phase }, { on := 14, ground := Go.Ground.phase }, { on := 15, ground := Go.Ground.phase }, { on := 16, ground := Go.Ground.phase }, { on := 17, ground := Go.Ground.phase }, { on := 18, ground := Go.Ground.phase }, { on := 19, ground := Go.Ground.phase }, { on := 20, ground := Go.Ground.phase }, { on := 21, ground := Go.Ground.phase }, { on := 22, ground := Go.Ground.phase }], guard := none }, { dst := some 40, op := Go.Op.fieldAddr 25 (Go.Operand.tmp 39) 3, type := 0, pos := "law.go:38", after := #[{ on := 23, ground := Go.Ground.data }, { on := 0, ground := Go.Ground.phase }, { on := 1, ground := Go.Ground.phase }, { on := 2, ground := Go.Ground.phase }, { on := 3, ground := Go.Ground.phase }, { on := 4, ground := Go.Ground.phase }, { on := 5, ground := Go.Ground.phase }, { on := 6, ground := Go.Ground.phase }, { on := 7, ground := Go.Ground.phase }, { on := 8, ground := Go.Ground.phase }, { on := 9, ground := Go.Ground.phase }, { on := 10, ground := Go.Ground.phase }, { on := 11, ground := Go.Ground.phase }, { on := 12, ground := Go.Ground.phase }, { on := 13, ground := Go.Ground.phase }, { on := 14, ground := Go.Ground.phase }, { on := 15, ground := Go.Ground.phase }, { on := 16, ground := Go.Ground.phase }, { on := 17, ground := Go.Ground.phase }, { on := 18, ground := Go.Ground.phase }, { on := 19, ground := Go.Ground.phase }, { on := 20, ground := Go.Ground.phase }, { on := 21, ground := Go.Ground.phase }, { on := 22, ground := Go.Ground.phase }], guard := none }, { dst := none, op := Go.Op.store 9 (Go.Operand.tmp 40) (Go.Operand.tmp 36), type := 0, pos := "law.go:38", after := #[{ on := 24, ground := Go.Ground.data }, { on := 19, ground := Go.Ground.data }, { on := 22, ground := Go.Ground.chain }, { on := 0, ground := Go.Ground.phase }, { on := 1, ground := Go.Ground.phase }, { on := 2, ground := Go.Ground.phase }, { on := 3, ground := Go.Ground.phase }, { on := 4, ground := Go.Ground.phase }, { on := 5, ground := Go.Ground.phase }, { on := 6, ground := Go.Ground.phase }, { on := 7, ground := Go.Ground.phase }, { on := 8, ground := Go.Ground.phase }, { on := 9, ground := Go.Ground.phase }, { on := 10, ground := Go.Ground.phase }, { on := 11, ground := Go.Ground.phase }, { on := 12, ground := Go.Ground.phase }, { on := 13, ground := Go.Ground.phase }, { on := 14, ground := Go.Ground.phase }, { on := 15, ground := Go.Ground.phase }, { on := 16, ground := Go.Ground.phase }, { on := 17, ground := Go.Ground.phase }, { on := 18, ground := Go.Ground.phase }, { on := 19, ground := Go.Ground.phase }, { on := 20, ground := Go.Ground.phase }, { on := 21, ground := Go.Ground.phase }, { on := 22, ground := Go.Ground.phase }], guard := none }] true

theorem list_run (tm : Array Value) (df : List Deferred) (htm : tm.size = 81) (b1 b o n cap i : Nat) (k : Int) (s : ByteArray) (Q : World) (w : World) (hQ : Q = w.drew) (h1 : tm.getD 1 undef = .pointer (some ⟨b1, 0, none⟩)) (h2 : tm.getD 2 undef = .int .i64 i) (hi : i < n) (hs : ¬ 9223372036854775807 < s.size + 1)
    (hb1 : b1 ≠ b) (hL : Q.cell? ⟨b1, 4, none⟩ = some (.slice (some ⟨b, o, none⟩) n cap)) (hk : Q.cell? ⟨b, o + i * 6, none⟩ = some (.int .i64 k)) (ht : Q.cell? ⟨b, o + i * 6 + 3, none⟩ = some (.string s)) (hfz : ∀ q, Q.frozen? ⟨b, q, none⟩ = false) :
    reg_list.wp Tryd.prog (DetPost tm df 81 17 40 ((Q.setCell ⟨b, o + i * 6, none⟩ (.int .i64 (Go.bits BinOp.xor IntKind.i64 k 1))).setCell ⟨b, o + i * 6 + 3, none⟩ (.string (s ++ { data := #[120] })))) ⟨tm, df⟩ w := by
  obtain ⟨l, hl⟩ : ∃ l : List (Nat × Value), l = [(17, .pointer (some ⟨b1, 4, none⟩)), (18, .slice (some ⟨b, o, none⟩) n cap), (19, .int .i64 i), (20, .pointer (some ⟨b1, 4, none⟩)), (21, .slice (some ⟨b, o, none⟩) n cap), (22, .int .i64 i), (23, .pointer (some ⟨b1, 4, none⟩)), (24, .slice (some ⟨b, o, none⟩) n cap), (25, .int .i64 i), (26, .pointer (some ⟨b, o + i * 6, none⟩)), (27, .pointer (some ⟨b, o + i * 6, none⟩)), (28, .int .i64 k), (29, .int .i64 (Go.bits BinOp.xor IntKind.i64 k 1)), (30, .pointer (some ⟨b1, 4, none⟩)), (31, .slice (some ⟨b, o, none⟩) n cap), (32, .int .i64 i), (33, .pointer (some ⟨b, o + i * 6, none⟩)), (34, .pointer (some ⟨b, o + i * 6 + 3, none⟩)), (35, .string s), (36, .string (s ++ { data := #[120] })), (37, .pointer (some ⟨b, o + i * 6, none⟩)), (38, .pointer (some ⟨b, o + i * 6, none⟩)), (1022, undef), (39, .pointer (some ⟨b, o + i * 6, none⟩)), (40, .pointer (some ⟨b, o + i * 6 + 3, none⟩)), (1025, undef)] := ⟨_, rfl⟩
  obtain ⟨W1, hW1⟩ : ∃ W1, W1 = Q.setCell ⟨b, o + i * 6, none⟩ (.int .i64 (Go.bits BinOp.xor IntKind.i64 k 1)) := ⟨_, rfl⟩
  obtain ⟨W2, hW2⟩ : ∃ W2, W2 = W1.setCell ⟨b, o + i * 6 + 3, none⟩ (.string (s ++ { data := #[120] })) := ⟨_, rfl⟩
  rw [← hW1, ← hW2]
  have hx1 : ∀ x, x.block ≠ b → W1.cell? x = Q.cell? x := fun x hx => by rw [hW1]; exact cell_set_block _ _ _ _ hx
  have hx2 : ∀ x, x.block ≠ b → W2.cell? x = Q.cell? x := fun x hx => by rw [hW2, cell_set_block _ _ _ _ hx]; exact hx1 x hx
  have hL1 : W1.cell? ⟨b1, 4, none⟩ = some (.slice (some ⟨b, o, none⟩) n cap) := by rw [hx1 _ hb1]; exact hL
  have hL2 : W2.cell? ⟨b1, 4, none⟩ = some (.slice (some ⟨b, o, none⟩) n cap) := by rw [hx2 _ hb1]; exact hL
  have hcell : W1.cell? ⟨b, o + i * 6 + 3, none⟩ = some (.string s) := by rw [hW1]; exact (cell_set_off _ _ _ _ _ (by omega)).trans ht
  have hf1 : W1.frozen? ⟨b, o + i * 6 + 3, none⟩ = false := by rw [hW1, frozen_set]; exact hfz _
  have hf0 : Q.frozen? ⟨b, o + i * 6, none⟩ = false := hfz _
  have hin : (i : Int) < (n : Int) := by omega
  refine region_det mixed4 (GG l tm df 81 (detW 22 25 Q W1 W2)) (by rfl) (fun D i' o' a w' ho hD hcl hpre hG => ?_) (fun D a w' hall hG => ?_) ⟨rfl, htm, fun _ _ => rfl, fun _ _ _ h => (by cases h), by rw [detW_0 rfl rfl, hQ]⟩
  · have hlt : i' < 26 := (Array.getElem?_eq_some_iff.1 ho).1
    refine wpOp_of ho ?_ ?_
    · match i', hlt with
      | 0, _ => cases ho; rfl
      | 1, _ => cases ho; rfl
      | 2, _ => cases ho; rfl
      | 3, _ => cases ho; rfl
      | 4, _ => cases ho; rfl
      | 5, _ => cases ho; rfl
      | 6, _ => cases ho; rfl
      | 7, _ => cases ho; rfl
      | 8, _ => cases ho; rfl
      | 9, _ => cases ho; rfl
      | 10, _ => cases ho; rfl
      | 11, _ => cases ho; rfl
      | 12, _ => cases ho; rfl
      | 13, _ => cases ho; rfl
      | 14, _ => cases ho; rfl
      | 15, _ => cases ho; rfl
      | 16, _ => cases ho; rfl
      | 17, _ => cases ho; rfl
      | 18, _ => cases ho; rfl
      | 19, _ => cases ho; rfl
      | 20, _ => cases ho; rfl
      | 21, _ => cases ho; rfl
      | 22, _ => cases ho; rfl
      | 23, _ => cases ho; rfl
      | 24, _ => cases ho; rfl
      | 25, _ => cases ho; rfl
    obtain ⟨K, hK⟩ : ∃ K, K = fun a' w' => GG l tm df 81 (detW 22 25 Q W1 W2) (fun j => D j || j == i') a' w' := ⟨_, rfl⟩
    rw [← hK]
    have hw := hG.world
    match i', hlt with
    | 0, _ =>
      cases ho
      have a1 := hG.old 1 _ h1 (by rw [hl]; rfl)
      clear hw hcl hpre hx1 hx2 hfz hQ
      clear hW1 hW2
      go_simp
      rw [← hl]
      exact hG.put 0 17 _ (by rw [hl]; rfl) (by decide) (by rw [hl]; rfl) (detW_same (by decide) (by decide))
    | 1, _ =>
      cases ho
      have a17 := hG.at 0 17 _ (by rw [hl]; rfl) (hpre _ (Array.mem_of_getElem? (i := 0) rfl) rfl) (by decide)
      have hc : w'.cell? ⟨b1, 4, none⟩ = some (.slice (some ⟨b, o, none⟩) n cap) := by rw [hw]; exact detW_cell hL hL1 hL2
      clear hw hcl hpre hx1 hx2 hfz hQ
      clear hW1 hW2
      go_simp
      rw [← hl]
      exact hG.put 1 18 _ (by rw [hl]; rfl) (by decide) (by rw [hl]; rfl) (detW_same (by decide) (by decide))
    | 2, _ =>
      cases ho
      have a2 := hG.old 2 _ h2 (by rw [hl]; rfl)
      clear hw hcl hpre hx1 hx2 hfz hQ
      clear hW1 hW2
      go_simp
      rw [← hl]
      exact hG.put 2 19 _ (by rw [hl]; rfl) (by decide) (by rw [hl]; rfl) (detW_same (by decide) (by decide))
    | 3, _ =>
      cases ho
      have a1 := hG.old 1 _ h1 (by rw [hl]; rfl)
      clear hw hcl hpre hx1 hx2 hfz hQ
      clear hW1 hW2
      go_simp
      rw [← hl]
      exact hG.put 3 20 _ (by rw [hl]; rfl) (by decide) (by rw [hl]; rfl) (detW_same (by decide) (by decide))
    | 4, _ =>
      cases ho
      have a20 := hG.at 3 20 _ (by rw [hl]; rfl) (hpre _ (Array.mem_of_getElem? (i := 0) rfl) rfl) (by decide)
      have hc : w'.cell? ⟨b1, 4, none⟩ = some (.slice (some ⟨b, o, none⟩) n cap) := by rw [hw]; exact detW_cell hL hL1 hL2
      clear hw hcl hpre hx1 hx2 hfz hQ
      clear hW1 hW2
      go_simp
      rw [← hl]
      exact hG.put 4 21 _ (by rw [hl]; rfl) (by decide) (by rw [hl]; rfl) (detW_same (by decide) (by decide))
    | 5, _ =>
      cases ho
      have a2 := hG.old 2 _ h2 (by rw [hl]; rfl)
      clear hw hcl hpre hx1 hx2 hfz hQ
      clear hW1 hW2
      go_simp
      rw [← hl]
      exact hG.put 5 22 _ (by rw [hl]; rfl) (by decide) (by rw [hl]; rfl) (detW_same (by decide) (by decide))
    | 6, _ =>
      cases ho
      have a1 := hG.old 1 _ h1 (by rw [hl]; rfl)
      clear hw hcl hpre hx1 hx2 hfz hQ
      clear hW1 hW2
      go_simp
      rw [← hl]
      exact hG.put 6 23 _ (by rw [hl]; rfl) (by decide) (by rw [hl]; rfl) (detW_same (by decide) (by decide))
    | 7, _ =>
      cases ho
      have a23 := hG.at 6 23 _ (by rw [hl]; rfl) (hpre _ (Array.mem_of_getElem? (i := 0) rfl) rfl) (by decide)
      have hc : w'.cell? ⟨b1, 4, none⟩ = some (.slice (some ⟨b, o, none⟩) n cap) := by rw [hw]; exact detW_cell hL hL1 hL2
      clear hw hcl hpre hx1 hx2 hfz hQ
      clear hW1 hW2
      go_simp
      rw [← hl]
      exact hG.put 7 24 _ (by rw [hl]; rfl) (by decide) (by rw [hl]; rfl) (detW_same (by decide) (by decide))
    | 8, _ =>
      cases ho
      have a2 := hG.old 2 _ h2 (by rw [hl]; rfl)
      clear hw hcl hpre hx1 hx2 hfz hQ
      clear hW1 hW2
      go_simp
      rw [← hl]
      exact hG.put 8 25 _ (by rw [hl]; rfl) (by decide) (by rw [hl]; rfl) (detW_same (by decide) (by decide))
    | 9, _ =>
      cases ho
      have a24 := hG.at 7 24 _ (by rw [hl]; rfl) (hpre _ (Array.mem_of_getElem? (i := 0) rfl) rfl) (by decide)
      have a25 := hG.at 8 25 _ (by rw [hl]; rfl) (hpre _ (Array.mem_of_getElem? (i := 1) rfl) rfl) (by decide)
      clear hw hcl hpre hx1 hx2 hfz hQ
      clear hW1 hW2
      go_simp
      rw [← hl]
      exact hG.put 9 26 _ (by rw [hl]; rfl) (by decide) (by rw [hl]; rfl) (detW_same (by decide) (by decide))
    | 10, _ =>
      cases ho
      have a26 := hG.at 9 26 _ (by rw [hl]; rfl) (hpre _ (Array.mem_of_getElem? (i := 0) rfl) rfl) (by decide)
      clear hw hcl hpre hx1 hx2 hfz hQ
      clear hW1 hW2
      go_simp
      rw [← hl]
      exact hG.put 10 27 _ (by rw [hl]; rfl) (by decide) (by rw [hl]; rfl) (detW_same (by decide) (by decide))
    | 11, _ =>
      cases ho
      have a27 := hG.at 10 27 _ (by rw [hl]; rfl) (hpre _ (Array.mem_of_getElem? (i := 0) rfl) rfl) (by decide)
      have n22 : D 22 = false := by cases q : D 22 with | false => rfl | true => exact absurd (hcl 22 _ rfl q _ (Array.mem_of_getElem? (i := 13) rfl) rfl) (by simp [hD])
      have n25 : D 25 = false := by cases q : D 25 with | false => rfl | true => exact absurd (hcl 25 _ rfl q _ (Array.mem_of_getElem? (i := 14) rfl) rfl) (by simp [hD])
      have hw0 : w' = Q := by rw [hw]; exact detW_0 n25 n22
      have hc := hk; rw [← hw0] at hc; clear hw0
      clear hw hcl hpre hx1 hx2 hfz hQ
      clear hW1 hW2
      go_simp
      rw [← hl]
      exact hG.put 11 28 _ (by rw [hl]; rfl) (by decide) (by rw [hl]; rfl) (detW_same (by decide) (by decide))
    | 12, _ =>
      cases ho
      have a28 := hG.at 11 28 _ (by rw [hl]; rfl) (hpre _ (Array.mem_of_getElem? (i := 0) rfl) rfl) (by decide)
      clear hw hcl hpre hx1 hx2 hfz hQ
      clear hW1 hW2
      go_simp
      rw [← hl]
      exact hG.put 12 29 _ (by rw [hl]; rfl) (by decide) (by rw [hl]; rfl) (detW_same (by decide) (by decide))
    | 13, _ =>
      cases ho
      have a1 := hG.old 1 _ h1 (by rw [hl]; rfl)
      clear hw hcl hpre hx1 hx2 hfz hQ
      clear hW1 hW2
      go_simp
      rw [← hl]
      exact hG.put 13 30 _ (by rw [hl]; rfl) (by decide) (by rw [hl]; rfl) (detW_same (by decide) (by decide))
    | 14, _ =>
      cases ho
      have a30 := hG.at 13 30 _ (by rw [hl]; rfl) (hpre _ (Array.mem_of_getElem? (i := 0) rfl) rfl) (by decide)
      have hc : w'.cell? ⟨b1, 4, none⟩ = some (.slice (some ⟨b, o, none⟩) n cap) := by rw [hw]; exact detW_cell hL hL1 hL2
      clear hw hcl hpre hx1 hx2 hfz hQ
      clear hW1 hW2
      go_simp
      rw [← hl]
      exact hG.put 14 31 _ (by rw [hl]; rfl) (by decide) (by rw [hl]; rfl) (detW_same (by decide) (by decide))
    | 15, _ =>
      cases ho
      have a2 := hG.old 2 _ h2 (by rw [hl]; rfl)
      clear hw hcl hpre hx1 hx2 hfz hQ
      clear hW1 hW2
      go_simp
      rw [← hl]
      exact hG.put 15 32 _ (by rw [hl]; rfl) (by decide) (by rw [hl]; rfl) (detW_same (by decide) (by decide))
    | 16, _ =>
      cases ho
      have a31 := hG.at 14 31 _ (by rw [hl]; rfl) (hpre _ (Array.mem_of_getElem? (i := 0) rfl) rfl) (by decide)
      have a32 := hG.at 15 32 _ (by rw [hl]; rfl) (hpre _ (Array.mem_of_getElem? (i := 1) rfl) rfl) (by decide)
      clear hw hcl hpre hx1 hx2 hfz hQ
      clear hW1 hW2
      go_simp
      rw [← hl]
      exact hG.put 16 33 _ (by rw [hl]; rfl) (by decide) (by rw [hl]; rfl) (detW_same (by decide) (by decide))
    | 17, _ =>
      cases ho
      have a33 := hG.at 16 33 _ (by rw [hl]; rfl) (hpre _ (Array.mem_of_getElem? (i := 0) rfl) rfl) (by decide)
      clear hw hcl hpre hx1 hx2 hfz hQ
      clear hW1 hW2
      go_simp
      rw [← hl]
      exact hG.put 17 34 _ (by rw [hl]; rfl) (by decide) (by rw [hl]; rfl) (detW_same (by decide) (by decide))
    | 18, _ =>
      cases ho
      have a34 := hG.at 17 34 _ (by rw [hl]; rfl) (hpre _ (Array.mem_of_getElem? (i := 0) rfl) rfl) (by decide)
      have n22 : D 22 = false := by cases q : D 22 with | false => rfl | true => exact absurd (hcl 22 _ rfl q _ (Array.mem_of_getElem? (i := 20) rfl) rfl) (by simp [hD])
      have n25 : D 25 = false := by cases q : D 25 with | false => rfl | true => exact absurd (hcl 25 _ rfl q _ (Array.mem_of_getElem? (i := 21) rfl) rfl) (by simp [hD])
      have hw0 : w' = Q := by rw [hw]; exact detW_0 n25 n22
      have hc := ht; rw [← hw0] at hc; clear hw0
      clear hw hcl hpre hx1 hx2 hfz hQ
      clear hW1 hW2
      go_simp
      rw [← hl]
      exact hG.put 18 35 _ (by rw [hl]; rfl) (by decide) (by rw [hl]; rfl) (detW_same (by decide) (by decide))
    | 19, _ =>
      cases ho
      have a35 := hG.at 18 35 _ (by rw [hl]; rfl) (hpre _ (Array.mem_of_getElem? (i := 0) rfl) rfl) (by decide)
      clear hw hcl hpre hx1 hx2 hfz hQ
      clear hW1 hW2
      go_simp
      rw [← hl]
      exact hG.put 19 36 _ (by rw [hl]; rfl) (by decide) (by rw [hl]; rfl) (detW_same (by decide) (by decide))
    | 20, _ =>
      cases ho
      have a18 := hG.at 1 18 _ (by rw [hl]; rfl) (hpre _ (Array.mem_of_getElem? (i := 0) rfl) rfl) (by decide)
      have a19 := hG.at 2 19 _ (by rw [hl]; rfl) (hpre _ (Array.mem_of_getElem? (i := 1) rfl) rfl) (by decide)
      clear hw hcl hpre hx1 hx2 hfz hQ
      clear hW1 hW2
      go_simp
      rw [← hl]
      exact hG.put 20 37 _ (by rw [hl]; rfl) (by decide) (by rw [hl]; rfl) (detW_same (by decide) (by decide))
    | 21, _ =>
      cases ho
      have a37 := hG.at 20 37 _ (by rw [hl]; rfl) (hpre _ (Array.mem_of_getElem? (i := 0) rfl) rfl) (by decide)
      clear hw hcl hpre hx1 hx2 hfz hQ
      clear hW1 hW2
      go_simp
      rw [← hl]
      exact hG.put 21 38 _ (by rw [hl]; rfl) (by decide) (by rw [hl]; rfl) (detW_same (by decide) (by decide))
    | 22, _ =>
      cases ho
      have a29 := hG.at 12 29 _ (by rw [hl]; rfl) (hpre _ (Array.mem_of_getElem? (i := 1) rfl) rfl) (by decide)
      have a38 := hG.at 21 38 _ (by rw [hl]; rfl) (hpre _ (Array.mem_of_getElem? (i := 0) rfl) rfl) (by decide)
      have n25 : D 25 = false := by cases q : D 25 with | false => rfl | true => exact absurd (hcl 25 _ rfl q _ (Array.mem_of_getElem? (i := 2) rfl) rfl) (by simp [hD])
      have hw0 : w' = Q := by rw [hw]; exact detW_0 n25 hD
      subst hw0
      have hc := hk
      clear hw hcl hpre hx1 hx2 hfz hQ
      go_simp
      rw [← hl, ← hW1, ← hW2]
      exact hG.turn 22 1022 _ (by rw [hl]; rfl) (by decide) (detW_1 (by simp [n25]) (by simp))
    | 23, _ =>
      cases ho
      have a21 := hG.at 4 21 _ (by rw [hl]; rfl) (hpre _ (Array.mem_of_getElem? (i := 0) rfl) rfl) (by decide)
      have a22 := hG.at 5 22 _ (by rw [hl]; rfl) (hpre _ (Array.mem_of_getElem? (i := 1) rfl) rfl) (by decide)
      clear hw hcl hpre hx1 hx2 hfz hQ
      clear hW1 hW2
      go_simp
      rw [← hl]
      exact hG.put 23 39 _ (by rw [hl]; rfl) (by decide) (by rw [hl]; rfl) (detW_same (by decide) (by decide))
    | 24, _ =>
      cases ho
      have a39 := hG.at 23 39 _ (by rw [hl]; rfl) (hpre _ (Array.mem_of_getElem? (i := 0) rfl) rfl) (by decide)
      clear hw hcl hpre hx1 hx2 hfz hQ
      clear hW1 hW2
      go_simp
      rw [← hl]
      exact hG.put 24 40 _ (by rw [hl]; rfl) (by decide) (by rw [hl]; rfl) (detW_same (by decide) (by decide))
    | 25, _ =>
      cases ho
      have a36 := hG.at 19 36 _ (by rw [hl]; rfl) (hpre _ (Array.mem_of_getElem? (i := 1) rfl) rfl) (by decide)
      have a40 := hG.at 24 40 _ (by rw [hl]; rfl) (hpre _ (Array.mem_of_getElem? (i := 0) rfl) rfl) (by decide)
      have y22 : D 22 = true := hpre _ (Array.mem_of_getElem? (i := 2) rfl) rfl
      have hw0 : w' = W1 := by rw [hw]; exact detW_1 hD y22
      subst hw0
      clear hw hcl hpre hx1 hx2 hfz hQ
      clear hW1
      go_simp
      rw [← hl, ← hW2]
      exact hG.turn 25 1025 _ (by rw [hl]; rfl) (by decide) (detW_2 (by simp))
  · refine ⟨hG.df, hG.size, fun t ht => ?_, ?_⟩
    · by_cases h81 : t < 81
      · refine hG.keep t (fun j p hp _ e => ?_)
        have h : (l.all fun p => (decide (17 ≤ p.1) && decide (p.1 ≤ 40)) || decide (1000 ≤ p.1)) = true := by rw [hl]; rfl
        have := List.all_eq_true.1 h p (List.mem_of_getElem? hp)
        simp only [Bool.or_eq_true, Bool.and_eq_true, decide_eq_true_eq] at this
        omega
      · have h3 := hG.size
        simp [Array.getD, h3, htm, h81]
    · rw [hG.world]; exact detW_2 (hall 25 (by decide))

def reg_flds : Code := .region 10 #[{ dst := some 55, op := Go.Op.fieldAddr 25 (Go.Operand.tmp 1) 5, type := 0, pos := "law.go:42", after := #[], guard := none }, { dst := some 56, op := Go.Op.load 23 (Go.Operand.tmp 55), type := 23, pos := "law.go:42", after := #[{ on := 0, ground := Go.Ground.data }], guard := none }, { dst := some 57, op := Go.Op.move (Go.Operand.tmp 3), type := 3, pos := "law.go:42", after := #[], guard := none }, { dst := some 58, op := Go.Op.fieldAddr 25 (Go.Operand.tmp 1) 5, type := 0, pos := "law.go:42", after := #[{ on := 23, ground := Go.Ground.gcOnly Go.Departure.lateStores }], guard := none }, { dst := some 59, op := Go.Op.load 23 (Go.Operand.tmp 58), type := 23, pos := "law.go:42", after := #[{ on := 3, ground := Go.Ground.data }, { on := 23, ground := Go.Ground.gcOnly Go.Departure.lateStores }], guard := none }, { dst := some 60, op := Go.Op.move (Go.Operand.tmp 3), type := 3, pos := "law.go:42", after := #[{ on := 23, ground := Go.Ground.gcOnly Go.Departure.lateStores }], guard := none }, { dst := some 61, op := Go.Op.fieldAddr 25 (Go.Operand.tmp 1) 5, type := 0, pos := "law.go:42", after := #[], guard := none }, { dst := some 62, op := Go.Op.load 23 (Go.Operand.tmp 61), type := 23, pos := "law.go:42", after := #[{ on := 6, ground := Go.Ground.data }], guard := none }, { dst := some 63, op := Go.Op.move (Go.Operand.tmp 3), type := 3, pos := "law.go:42", after := #[], guard := none }, { dst := some 64, op := Go.Op.indexAddr 23 (Go.Operand.tmp 62) (Go.Operand.tmp 63), type := 0, pos := "law.go:42", after := #[{ on := 7, ground := Go.Ground.data }, { on := 8, ground := Go.Ground.data }], guard := none }, { dst := some 65, op := Go.Op.fieldAddr 41 (Go.Operand.tmp 64) 0, type := 0, pos := "law.go:42", after := #[{ on := 9, ground := Go.Ground.data }], guard := none }, { dst := some 66, op := Go.Op.load 9 (Go.Operand.tmp 65), type := 9, pos := "law.go:42", after := #[{ on := 10, ground := Go.Ground.data }], guard := none }, { dst := some 67, op := Go.Op.binOp Go.BinOp.add 9 (Go.Operand.tmp 66) (Go.Operand.const (Go.Value.string { data := #[120] })) 9, type := 9, pos := "law.go:42", after := #[{ on := 11, ground := Go.Ground.data }], guard := none }, { dst := some 68, op := Go.Op.fieldAddr 25 (Go.Operand.tmp 1) 5, type := 0, pos := "law.go:42", after := #[], guard := none }, { dst := some 69, op := Go.Op.load 23 (Go.Operand.tmp 68), type := 23, pos := "law.go:42", after := #[{ on := 13, ground := Go.Ground.data }], guard := none }, { dst := some 70, op := Go.Op.move (Go.Operand.tmp 3), type := 3, pos := "law.go:42", after := #[], guard := none }, { dst := some 71, op := Go.Op.indexAddr 23 (Go.Operand.tmp 69) (Go.Operand.tmp 70), type := 0, pos := "law.go:42", after := #[{ on := 14, ground := Go.Ground.data }, { on := 15, ground := Go.Ground.data }], guard := none }, { dst := some 72, op := Go.Op.fieldAddr 41 (Go.Operand.tmp 71) 1, type := 0, pos := "law.go:42", after := #[{ on := 16, ground := Go.Ground.data }], guard := none }, { dst := some 73, op := Go.Op.fieldAddr 25 (Go.Operand.tmp 72) 0, type := 0, pos := "law.go:42", after := #[{ on := 17, ground := Go.Ground.data }], guard := none }, { dst := some 74, op := Go.Op.load 3 (Go.Operand.tmp 73), type := 3, pos := "law.go:42", after := #[{ on := 18, ground := Go.Ground.data }], guard := none }, { dst := some 75, op := Go.Op.binOp Go.BinOp.xor 3 (Go.Operand.tmp 74) (Go.Operand.const (Go.Value.int Go.IntKind.i64 1)) 3, type := 3, pos := "law.go:42", after := #[{ on := 19, ground := Go.Ground.data }], guard := none }, { dst := some 76, op := Go.Op.indexAddr 23 (Go.Operand.tmp 56) (Go.Operand.tmp 57), type := 0, pos := "law.go:42", after := #[{ on := 1, ground := Go.Ground.data }, { on := 2, ground := Go.Ground.data }, { on := 0, ground := Go.Ground.phase }, { on := 1, ground := Go.Ground.phase }, { on := 2, ground := Go.Ground.phase }, { on := 3, ground := Go.Ground.textOnly Go.Departure.lateStores }, { on := 4, ground := Go.Ground.textOnly Go.Departure.lateStores }, { on := 5, ground := Go.Ground.textOnly Go.Departure.lateStores }, { on := 6, ground := Go.Ground.phase }, { on := 7, ground := Go.Ground.phase }, { on := 8, ground := Go.Ground.phase }, { on := 9, ground := Go.Ground.phase }, { on := 10, ground := Go.Ground.phase }, { on := 11, ground := Go.Ground.phase }, { on := 12, ground := Go.Ground.phase }, { on := 13, ground := Go.Ground.textOnly Go.Departure.lateStores }, { on := 14, ground := Go.Ground.textOnly Go.Departure.lateStores }, { on := 15, ground := Go.Ground.textOnly Go.Departure.lateStores }, { on := 16, ground := Go.Ground.textOnly Go.Departure.lateStoresUnsure }, { on := 17, ground := Go.Ground.textOnly Go.Departure.lateStoresUnsure }, { on := 18, ground := Go.Ground.textOnly Go.Departure.lateStoresUnsure }, { on := 19, ground := Go.Ground.phase }, { on := 20, ground := Go.Ground.textOnly Go.Departure.lateStoresUnsure }], guard := none }, { dst := some 77, op := Go.Op.fieldAddr 41 (Go.Operand.tmp 76) 0, type := 0, pos := "law.go:42", after := #[{ on := 21, ground := Go.Ground.data }, { on := 0, ground := Go.Ground.phase }, { on := 1, ground := Go.Ground.phase }, { on := 2, ground := Go.Ground.phase }, { on := 3, ground := Go.Ground.textOnly Go.Departure.lateStores }, { on := 4, ground := Go.Ground.textOnly Go.Departure.lateStores }, { on := 5, ground := Go.Ground.textOnly Go.Departure.lateStores }, { on := 6, ground := Go.Ground.phase }, { on := 7, ground := Go.Ground.phase }, { on := 8, ground := Go.Ground.phase }, { on := 9, ground := Go.Ground.phase }, { on := 10, ground := Go.Ground.phase }, { on := 11, ground := Go.Ground.phase }, { on := 12, ground := Go.Ground.phase }, { on := 13, ground := Go.Ground.textOnly Go.Departure.lateStores }, { on := 14, ground := Go.Ground.textOnly Go.Departure.lateStores }, { on := 15, ground := Go.Ground.textOnly Go.Departure.lateStores }, { on := 16, ground := Go.Ground.textOnly Go.Departure.lateStoresUnsure }, { on := 17, ground := Go.Ground.textOnly Go.Departure.lateStoresUnsure }, { on := 18, ground := Go.Ground.textOnly Go.Departure.lateStoresUnsure }, { on := 19, ground := Go.Ground.phase }, { on := 20, ground := Go.Ground.textOnly Go.Departure.lateStoresUnsure }], guard := none }, { dst := none, op := Go.Op.store 9 (Go.Operand.tmp 77) (Go.Operand.tmp 67), type := 0, pos := "law.go:42", after := #[{ on := 22, ground := Go.Ground.data }, { on := 12, ground := Go.Ground.data }, { on := 0, ground := Go.Ground.phase }, { on := 1, ground := Go.Ground.phase }, { on := 2, ground := Go.Ground.phase }, { on := 3, ground := Go.Ground.textOnly Go.Departure.lateStores }, { on := 4, ground := Go.Ground.textOnly Go.Departure.lateStores }, { on := 5, ground := Go.Ground.textOnly Go.Departure.lateStores }, { on := 6, ground := Go.Ground.phase }, { on := 7, ground := Go.Ground.phase }, { on := 8, ground := Go.Ground.phase }, { on := 9, ground := Go.Ground.phase }, { on := 10, ground := Go.Ground.phase }, { on := 11, ground := Go.Ground.phase }, { on := 12, ground := Go.Ground.phase }, { on := 13, ground := Go.Ground.textOnly Go.Departure.lateStores }, { on := 14, ground := Go.Ground.textOnly Go.Departure.lateStores }, { on := 15, ground := Go.Ground.textOnly Go.Departure.lateStores }, { on := 16, ground := Go.Ground.textOnly Go.Departure.lateStoresUnsure }, { on := 17, ground := Go.Ground.textOnly Go.Departure.lateStoresUnsure }, { on := 18, ground := Go.Ground.textOnly Go.Departure.lateStoresUnsure }, { on := 19, ground := Go.Ground.phase }, { on := 20, ground := Go.Ground.textOnly Go.Departure.lateStoresUnsure }], guard := none }, { dst := some 78, op := Go.Op.indexAddr 23 (Go.Operand.tmp 59) (Go.Operand.tmp 60), type := 0, pos := "law.go:42", after := #[{ on := 4, ground := Go.Ground.data }, { on := 5, ground := Go.Ground.data }, { on := 0, ground := Go.Ground.phase }, { on := 1, ground := Go.Ground.phase }, { on := 2, ground := Go.Ground.phase }, { on := 3, ground := Go.Ground.phase }, { on := 4, ground := Go.Ground.phase }, { on := 5, ground := Go.Ground.phase }, { on := 6, ground := Go.Ground.phase }, { on := 7, ground := Go.Ground.phase }, { on := 8, ground := Go.Ground.phase }, { on := 9, ground := Go.Ground.phase }, { on := 10, ground := Go.Ground.phase }, { on := 11, ground := Go.Ground.phase }, { on := 12, ground := Go.Ground.phase }, { on := 13, ground := Go.Ground.phase }, { on := 14, ground := Go.Ground.phase }, { on := 15, ground := Go.Ground.phase }, { on := 16, ground := Go.Ground.phase }, { on := 17, ground := Go.Ground.phase }, { on := 18, ground := Go.Ground.phase }, { on := 19, ground := Go.Ground.phase }, { on := 20, ground := Go.Ground.phase }, { on := 21, ground := Go.Ground.phase }, { on := 22, ground := Go.Ground.phase }, { on := 23, ground := Go.Ground.phase }], guard := none }, { dst := some 79, op := Go.Op.fieldAddr 41 (Go.Operand.tmp 78) 1, type := 0, pos := "law.go:42", after := #[{ on := 24, ground := Go.Ground.data }, { on := 0, ground := Go.Ground.phase }, { on := 1, ground := Go.Ground.phase }, { on := 2, ground := Go.Ground.phase }, { on := 3, ground := Go.Ground.phase }, { on := 4, ground := Go.Ground.phase }, { on := 5, ground := Go.Ground.phase }, { on := 6, ground := Go.Ground.phase }, { on := 7, ground := Go.Ground.phase }, { on := 8, ground := Go.Ground.phase }, { on := 9, ground := Go.Ground.phase }, { on := 10, ground := Go.Ground.phase }, { on := 11, ground := Go.Ground.phase }, { on := 12, ground := Go.Ground.phase }, { on := 13, ground := Go.Ground.phase }, { on := 14, ground := Go.Ground.phase }, { on := 15, ground := Go.Ground.phase }, { on := 16, ground := Go.Ground.phase }, { on := 17, ground := Go.Ground.phase }, { on := 18, ground := Go.Ground.phase }, { on := 19, ground := Go.Ground.phase }, { on := 20, ground := Go.Ground.phase }, { on := 21, ground := Go.Ground.phase }, { on := 22, ground := Go.Ground.phase }, { on := 23, ground := Go.Ground.phase }], guard := none }, { dst := some 80, op := Go.Op.fieldAddr 25 (Go.Operand.tmp 79) 0, type := 0, pos := "law.go:42", after := #[{ on := 25, ground := Go.Ground.data }, { on := 0, ground := Go.Ground.phase }, { on := 1, ground := Go.Ground.phase }, { on := 2, ground := Go.Ground.phase }, { on := 3, ground := Go.Ground.phase }, { on := 4, ground := Go.Ground.phase }, { on := 5, ground := Go.Ground.phase }, { on := 6, ground := Go.Ground.phase }, { on := 7, ground := Go.Ground.phase }, { on := 8, ground := Go.Ground.phase }, { on := 9, ground := Go.Ground.phase }, { on := 10, ground := Go.Ground.phase }, { on := 11, ground := Go.Ground.phase }, { on := 12, ground := Go.Ground.phase }, { on := 13, ground := Go.Ground.phase }, { on := 14, ground := Go.Ground.phase }, { on := 15, ground := Go.Ground.phase }, { on := 16, ground := Go.Ground.phase }, { on := 17, ground := Go.Ground.phase }, { on := 18, ground := Go.Ground.phase }, { on := 19, ground := Go.Ground.phase }, { on := 20, ground := Go.Ground.phase }, { on := 21, ground := Go.Ground.phase }, { on := 22, ground := Go.Ground.phase }, { on := 23, ground := Go.Ground.phase }], guard := none }, { dst := none, op := Go.Op.store 3 (Go.Operand.tmp 80) (Go.Operand.tmp 75), type := 0, pos := "law.go:42", after := #[{ on := 26, ground := Go.Ground.data }, { on := 20, ground := Go.Ground.data }, { on := 23, ground := Go.Ground.chain }, { on := 0, ground := Go.Ground.phase }, { on := 1, ground := Go.Ground.phase }, { on := 2, ground := Go.Ground.phase }, { on := 3, ground := Go.Ground.phase }, { on := 4, ground := Go.Ground.phase }, { on := 5, ground := Go.Ground.phase }, { on := 6, ground := Go.Ground.phase }, { on := 7, ground := Go.Ground.phase }, { on := 8, ground := Go.Ground.phase }, { on := 9, ground := Go.Ground.phase }, { on := 10, ground := Go.Ground.phase }, { on := 11, ground := Go.Ground.phase }, { on := 12, ground := Go.Ground.phase }, { on := 13, ground := Go.Ground.phase }, { on := 14, ground := Go.Ground.phase }, { on := 15, ground := Go.Ground.phase }, { on := 16, ground := Go.Ground.phase }, { on := 17, ground := Go.Ground.phase }, { on := 18, ground := Go.Ground.phase }, { on := 19, ground := Go.Ground.phase }, { on := 20, ground := Go.Ground.phase }, { on := 21, ground := Go.Ground.phase }, { on := 22, ground := Go.Ground.phase }, { on := 23, ground := Go.Ground.phase }], guard := none }] true

theorem flds_run (tm : Array Value) (df : List Deferred) (htm : tm.size = 81) (b1 b o n cap i : Nat) (k : Int) (s : ByteArray) (Q : World) (w : World) (hQ : Q = w.drew) (h1 : tm.getD 1 undef = .pointer (some ⟨b1, 0, none⟩)) (h2 : tm.getD 3 undef = .int .i64 i) (hi : i < n) (hs : ¬ 9223372036854775807 < s.size + 1)
    (hb1 : b1 ≠ b) (hL : Q.cell? ⟨b1, 5, none⟩ = some (.slice (some ⟨b, o, none⟩) n cap)) (hk : Q.cell? ⟨b, o + i * 7 + 1, none⟩ = some (.int .i64 k)) (ht : Q.cell? ⟨b, o + i * 7, none⟩ = some (.string s)) (hfz : ∀ q, Q.frozen? ⟨b, q, none⟩ = false) :
    reg_flds.wp Tryd.prog (DetPost tm df 81 55 80 ((Q.setCell ⟨b, o + i * 7, none⟩ (.string (s ++ { data := #[120] }))).setCell ⟨b, o + i * 7 + 1, none⟩ (.int .i64 (Go.bits BinOp.xor IntKind.i64 k 1)))) ⟨tm, df⟩ w := by
  obtain ⟨l, hl⟩ : ∃ l : List (Nat × Value), l = [(55, .pointer (some ⟨b1, 5, none⟩)), (56, .slice (some ⟨b, o, none⟩) n cap), (57, .int .i64 i), (58, .pointer (some ⟨b1, 5, none⟩)), (59, .slice (some ⟨b, o, none⟩) n cap), (60, .int .i64 i), (61, .pointer (some ⟨b1, 5, none⟩)), (62, .slice (some ⟨b, o, none⟩) n cap), (63, .int .i64 i), (64, .pointer (some ⟨b, o + i * 7, none⟩)), (65, .pointer (some ⟨b, o + i * 7, none⟩)), (66, .string s), (67, .string (s ++ { data := #[120] })), (68, .pointer (some ⟨b1, 5, none⟩)), (69, .slice (some ⟨b, o, none⟩) n cap), (70, .int .i64 i), (71, .pointer (some ⟨b, o + i * 7, none⟩)), (72, .pointer (some ⟨b, o + i * 7 + 1, none⟩)), (73, .pointer (some ⟨b, o + i * 7 + 1, none⟩)), (74, .int .i64 k), (75, .int .i64 (Go.bits BinOp.xor IntKind.i64 k 1)), (76, .pointer (some ⟨b, o + i * 7, none⟩)), (77, .pointer (some ⟨b, o + i * 7, none⟩)), (1023, undef), (78, .pointer (some ⟨b, o + i * 7, none⟩)), (79, .pointer (some ⟨b, o + i * 7 + 1, none⟩)), (80, .pointer (some ⟨b, o + i * 7 + 1, none⟩)), (1027, undef)] := ⟨_, rfl⟩
  obtain ⟨W1, hW1⟩ : ∃ W1, W1 = Q.setCell ⟨b, o + i * 7, none⟩ (.string (s ++ { data := #[120] })) := ⟨_, rfl⟩
  obtain ⟨W2, hW2⟩ : ∃ W2, W2 = W1.setCell ⟨b, o + i * 7 + 1, none⟩ (.int .i64 (Go.bits BinOp.xor IntKind.i64 k 1)) := ⟨_, rfl⟩
  rw [← hW1, ← hW2]
  have hx1 : ∀ x, x.block ≠ b → W1.cell? x = Q.cell? x := fun x hx => by rw [hW1]; exact cell_set_block _ _ _ _ hx
  have hx2 : ∀ x, x.block ≠ b → W2.cell? x = Q.cell? x := fun x hx => by rw [hW2, cell_set_block _ _ _ _ hx]; exact hx1 x hx
  have hL1 : W1.cell? ⟨b1, 5, none⟩ = some (.slice (some ⟨b, o, none⟩) n cap) := by rw [hx1 _ hb1]; exact hL
  have hL2 : W2.cell? ⟨b1, 5, none⟩ = some (.slice (some ⟨b, o, none⟩) n cap) := by rw [hx2 _ hb1]; exact hL
  have hcell : W1.cell? ⟨b, o + i * 7 + 1, none⟩ = some (.int .i64 k) := by rw [hW1]; exact (cell_set_off _ _ _ _ _ (by omega)).trans hk
  have hf1 : W1.frozen? ⟨b, o + i * 7 + 1, none⟩ = false := by rw [hW1, frozen_set]; exact hfz _
  have hf0 : Q.frozen? ⟨b, o + i * 7, none⟩ = false := hfz _
  have hin : (i : Int) < (n : Int) := by omega
  refine region_det mixed4 (GG l tm df 81 (detW 23 27 Q W1 W2)) (by rfl) (fun D i' o' a w' ho hD hcl hpre hG => ?_) (fun D a w' hall hG => ?_) ⟨rfl, htm, fun _ _ => rfl, fun _ _ _ h => (by cases h), by rw [detW_0 rfl rfl, hQ]⟩
  · have hlt : i' < 28 := (Array.getElem?_eq_some_iff.1 ho).1
    refine wpOp_of ho ?_ ?_
    · match i', hlt with
      | 0, _ => cases ho; rfl
      | 1, _ => cases ho; rfl
      | 2, _ => cases ho; rfl
      | 3, _ => cases ho; rfl
      | 4, _ => cases ho; rfl
      | 5, _ => cases ho; rfl
      | 6, _ => cases ho; rfl
      | 7, _ => cases ho; rfl
      | 8, _ => cases ho; rfl
      | 9, _ => cases ho; rfl
      | 10, _ => cases ho; rfl
      | 11, _ => cases ho; rfl
      | 12, _ => cases ho; rfl
      | 13, _ => cases ho; rfl
      | 14, _ => cases ho; rfl
      | 15, _ => cases ho; rfl
      | 16, _ => cases ho; rfl
      | 17, _ => cases ho; rfl
      | 18, _ => cases ho; rfl
      | 19, _ => cases ho; rfl
      | 20, _ => cases ho; rfl
      | 21, _ => cases ho; rfl
      | 22, _ => cases ho; rfl
      | 23, _ => cases ho; rfl
      | 24, _ => cases ho; rfl
      | 25, _ => cases ho; rfl
      | 26, _ => cases ho; rfl
      | 27, _ => cases ho; rfl
    obtain ⟨K, hK⟩ : ∃ K, K = fun a' w' => GG l tm df 81 (detW 23 27 Q W1 W2) (fun j => D j || j == i') a' w' := ⟨_, rfl⟩
    rw [← hK]
    have hw := hG.world
    match i', hlt with
    | 0, _ =>
      cases ho
      have a1 := hG.old 1 _ h1 (by rw [hl]; rfl)
      clear hw hcl hpre hx1 hx2 hfz hQ
      clear hW1 hW2
      go_simp
      rw [← hl]
      exact hG.put 0 55 _ (by rw [hl]; rfl) (by decide) (by rw [hl]; rfl) (detW_same (by decide) (by decide))
    | 1, _ =>
      cases ho
      have a55 := hG.at 0 55 _ (by rw [hl]; rfl) (hpre _ (Array.mem_of_getElem? (i := 0) rfl) rfl) (by decide)
      have hc : w'.cell? ⟨b1, 5, none⟩ = some (.slice (some ⟨b, o, none⟩) n cap) := by rw [hw]; exact detW_cell hL hL1 hL2
      clear hw hcl hpre hx1 hx2 hfz hQ
      clear hW1 hW2
      go_simp
      rw [← hl]
      exact hG.put 1 56 _ (by rw [hl]; rfl) (by decide) (by rw [hl]; rfl) (detW_same (by decide) (by decide))
    | 2, _ =>
      cases ho
      have a3 := hG.old 3 _ h2 (by rw [hl]; rfl)
      clear hw hcl hpre hx1 hx2 hfz hQ
      clear hW1 hW2
      go_simp
      rw [← hl]
      exact hG.put 2 57 _ (by rw [hl]; rfl) (by decide) (by rw [hl]; rfl) (detW_same (by decide) (by decide))
    | 3, _ =>
      cases ho
      have a1 := hG.old 1 _ h1 (by rw [hl]; rfl)
      clear hw hcl hpre hx1 hx2 hfz hQ
      clear hW1 hW2
      go_simp
      rw [← hl]
      exact hG.put 3 58 _ (by rw [hl]; rfl) (by decide) (by rw [hl]; rfl) (detW_same (by decide) (by decide))
    | 4, _ =>
      cases ho
      have a58 := hG.at 3 58 _ (by rw [hl]; rfl) (hpre _ (Array.mem_of_getElem? (i := 0) rfl) rfl) (by decide)
      have hc : w'.cell? ⟨b1, 5, none⟩ = some (.slice (some ⟨b, o, none⟩) n cap) := by rw [hw]; exact detW_cell hL hL1 hL2
      clear hw hcl hpre hx1 hx2 hfz hQ
      clear hW1 hW2
      go_simp
      rw [← hl]
      exact hG.put 4 59 _ (by rw [hl]; rfl) (by decide) (by rw [hl]; rfl) (detW_same (by decide) (by decide))
    | 5, _ =>
      cases ho
      have a3 := hG.old 3 _ h2 (by rw [hl]; rfl)
      clear hw hcl hpre hx1 hx2 hfz hQ
      clear hW1 hW2
      go_simp
      rw [← hl]
      exact hG.put 5 60 _ (by rw [hl]; rfl) (by decide) (by rw [hl]; rfl) (detW_same (by decide) (by decide))
    | 6, _ =>
      cases ho
      have a1 := hG.old 1 _ h1 (by rw [hl]; rfl)
      clear hw hcl hpre hx1 hx2 hfz hQ
      clear hW1 hW2
      go_simp
      rw [← hl]
      exact hG.put 6 61 _ (by rw [hl]; rfl) (by decide) (by rw [hl]; rfl) (detW_same (by decide) (by decide))
    | 7, _ =>
      cases ho
      have a61 := hG.at 6 61 _ (by rw [hl]; rfl) (hpre _ (Array.mem_of_getElem? (i := 0) rfl) rfl) (by decide)
      have hc : w'.cell? ⟨b1, 5, none⟩ = some (.slice (some ⟨b, o, none⟩) n cap) := by rw [hw]; exact detW_cell hL hL1 hL2
      clear hw hcl hpre hx1 hx2 hfz hQ
      clear hW1 hW2
      go_simp
      rw [← hl]
      exact hG.put 7 62 _ (by rw [hl]; rfl) (by decide) (by rw [hl]; rfl) (detW_same (by decide) (by decide))
    | 8, _ =>
      cases ho
      have a3 := hG.old 3 _ h2 (by rw [hl]; rfl)
      clear hw hcl hpre hx1 hx2 hfz hQ
      clear hW1 hW2
      go_simp
      rw [← hl]
      exact hG.put 8 63 _ (by rw [hl]; rfl) (by decide) (by rw [hl]; rfl) (detW_same (by decide) (by decide))
    | 9, _ =>
      cases ho
      have a62 := hG.at 7 62 _ (by rw [hl]; rfl) (hpre _ (Array.mem_of_getElem? (i := 0) rfl) rfl) (by decide)
      have a63 := hG.at 8 63 _ (by rw [hl]; rfl) (hpre _ (Array.mem_of_getElem? (i := 1) rfl) rfl) (by decide)
      clear hw hcl hpre hx1 hx2 hfz hQ
      clear hW1 hW2
      go_simp
      rw [← hl]
      exact hG.put 9 64 _ (by rw [hl]; rfl) (by decide) (by rw [hl]; rfl) (detW_same (by decide) (by decide))
    | 10, _ =>
      cases ho
      have a64 := hG.at 9 64 _ (by rw [hl]; rfl) (hpre _ (Array.mem_of_getElem? (i := 0) rfl) rfl) (by decide)
      clear hw hcl hpre hx1 hx2 hfz hQ
      clear hW1 hW2
      go_simp
      rw [← hl]
      exact hG.put 10 65 _ (by rw [hl]; rfl) (by decide) (by rw [hl]; rfl) (detW_same (by decide) (by decide))
    | 11, _ =>
      cases ho
      have a65 := hG.at 10 65 _ (by rw [hl]; rfl) (hpre _ (Array.mem_of_getElem? (i := 0) rfl) rfl) (by decide)
      have n23 : D 23 = false := by cases q : D 23 with | false => rfl | true => exact absurd (hcl 23 _ rfl q _ (Array.mem_of_getElem? (i := 13) rfl) rfl) (by simp [hD])
      have n27 : D 27 = false := by cases q : D 27 with | false => rfl | true => exact absurd (hcl 27 _ rfl q _ (Array.mem_of_getElem? (i := 14) rfl) rfl) (by simp [hD])
      have hw0 : w' = Q := by rw [hw]; exact detW_0 n27 n23
      have hc := ht; rw [← hw0] at hc; clear hw0
      clear hw hcl hpre hx1 hx2 hfz hQ
      clear hW1 hW2
      go_simp
      rw [← hl]
      exact hG.put 11 66 _ (by rw [hl]; rfl) (by decide) (by rw [hl]; rfl) (detW_same (by decide) (by decide))
    | 12, _ =>
      cases ho
      have a66 := hG.at 11 66 _ (by rw [hl]; rfl) (hpre _ (Array.mem_of_getElem? (i := 0) rfl) rfl) (by decide)
      clear hw hcl hpre hx1 hx2 hfz hQ
      clear hW1 hW2
      go_simp
      rw [← hl]
      exact hG.put 12 67 _ (by rw [hl]; rfl) (by decide) (by rw [hl]; rfl) (detW_same (by decide) (by decide))
    | 13, _ =>
      cases ho
      have a1 := hG.old 1 _ h1 (by rw [hl]; rfl)
      clear hw hcl hpre hx1 hx2 hfz hQ
      clear hW1 hW2
      go_simp
      rw [← hl]
      exact hG.put 13 68 _ (by rw [hl]; rfl) (by decide) (by rw [hl]; rfl) (detW_same (by decide) (by decide))
    | 14, _ =>
      cases ho
      have a68 := hG.at 13 68 _ (by rw [hl]; rfl) (hpre _ (Array.mem_of_getElem? (i := 0) rfl) rfl) (by decide)
      have hc : w'.cell? ⟨b1, 5, none⟩ = some (.slice (some ⟨b, o, none⟩) n cap) := by rw [hw]; exact detW_cell hL hL1 hL2
      clear hw hcl hpre hx1 hx2 hfz hQ
      clear hW1 hW2
      go_simp
      rw [← hl]
      exact hG.put 14 69 _ (by rw [hl]; rfl) (by decide) (by rw [hl]; rfl) (detW_same (by decide) (by decide))
    | 15, _ =>
      cases ho
      have a3 := hG.old 3 _ h2 (by rw [hl]; rfl)
      clear hw hcl hpre hx1 hx2 hfz hQ
      clear hW1 hW2
      go_simp
      rw [← hl]
      exact hG.put 15 70 _ (by rw [hl]; rfl) (by decide) (by rw [hl]; rfl) (detW_same (by decide) (by decide))
    | 16, _ =>
      cases ho
      have a69 := hG.at 14 69 _ (by rw [hl]; rfl) (hpre _ (Array.mem_of_getElem? (i := 0) rfl) rfl) (by decide)
      have a70 := hG.at 15 70 _ (by rw [hl]; rfl) (hpre _ (Array.mem_of_getElem? (i := 1) rfl) rfl) (by decide)
      clear hw hcl hpre hx1 hx2 hfz hQ
      clear hW1 hW2
      go_simp
      rw [← hl]
      exact hG.put 16 71 _ (by rw [hl]; rfl) (by decide) (by rw [hl]; rfl) (detW_same (by decide) (by decide))
    | 17, _ =>
      cases ho
      have a71 := hG.at 16 71 _ (by rw [hl]; rfl) (hpre _ (Array.mem_of_getElem? (i := 0) rfl) rfl) (by decide)
      clear hw hcl hpre hx1 hx2 hfz hQ
      clear hW1 hW2
      go_simp
      rw [← hl]
      exact hG.put 17 72 _ (by rw [hl]; rfl) (by decide) (by rw [hl]; rfl) (detW_same (by decide) (by decide))
    | 18, _ =>
      cases ho
      have a72 := hG.at 17 72 _ (by rw [hl]; rfl) (hpre _ (Array.mem_of_getElem? (i := 0) rfl) rfl) (by decide)
      clear hw hcl hpre hx1 hx2 hfz hQ
      clear hW1 hW2
      go_simp
      rw [← hl]
      exact hG.put 18 73 _ (by rw [hl]; rfl) (by decide) (by rw [hl]; rfl) (detW_same (by decide) (by decide))
    | 19, _ =>
      cases ho
      have a73 := hG.at 18 73 _ (by rw [hl]; rfl) (hpre _ (Array.mem_of_getElem? (i := 0) rfl) rfl) (by decide)
      have n23 : D 23 = false := by cases q : D 23 with | false => rfl | true => exact absurd (hcl 23 _ rfl q _ (Array.mem_of_getElem? (i := 21) rfl) rfl) (by simp [hD])
      have n27 : D 27 = false := by cases q : D 27 with | false => rfl | true => exact absurd (hcl 27 _ rfl q _ (Array.mem_of_getElem? (i := 22) rfl) rfl) (by simp [hD])
      have hw0 : w' = Q := by rw [hw]; exact detW_0 n27 n23
      have hc := hk; rw [← hw0] at hc; clear hw0
      clear hw hcl hpre hx1 hx2 hfz hQ
      clear hW1 hW2
      go_simp
      rw [← hl]
      exact hG.put 19 74 _ (by rw [hl]; rfl) (by decide) (by rw [hl]; rfl) (detW_same (by decide) (by decide))
    | 20, _ =>
      cases ho
      have a74 := hG.at 19 74 _ (by rw [hl]; rfl) (hpre _ (Array.mem_of_getElem? (i := 0) rfl) rfl) (by decide)
      clear hw hcl hpre hx1 hx2 hfz hQ
      clear hW1 hW2
      go_simp
      rw [← hl]
      exact hG.put 20 75 _ (by rw [hl]; rfl) (by decide) (by rw [hl]; rfl) (detW_same (by decide) (by decide))
    | 21, _ =>
      cases ho
      have a56 := hG.at 1 56 _ (by rw [hl]; rfl) (hpre _ (Array.mem_of_getElem? (i := 0) rfl) rfl) (by decide)
      have a57 := hG.at 2 57 _ (by rw [hl]; rfl) (hpre _ (Array.mem_of_getElem? (i := 1) rfl) rfl) (by decide)
      clear hw hcl hpre hx1 hx2 hfz hQ
      clear hW1 hW2
      go_simp
      rw [← hl]
      exact hG.put 21 76 _ (by rw [hl]; rfl) (by decide) (by rw [hl]; rfl) (detW_same (by decide) (by decide))
    | 22, _ =>
      cases ho
      have a76 := hG.at 21 76 _ (by rw [hl]; rfl) (hpre _ (Array.mem_of_getElem? (i := 0) rfl) rfl) (by decide)
      clear hw hcl hpre hx1 hx2 hfz hQ
      clear hW1 hW2
      go_simp
      rw [← hl]
      exact hG.put 22 77 _ (by rw [hl]; rfl) (by decide) (by rw [hl]; rfl) (detW_same (by decide) (by decide))
    | 23, _ =>
      cases ho
      have a67 := hG.at 12 67 _ (by rw [hl]; rfl) (hpre _ (Array.mem_of_getElem? (i := 1) rfl) rfl) (by decide)
      have a77 := hG.at 22 77 _ (by rw [hl]; rfl) (hpre _ (Array.mem_of_getElem? (i := 0) rfl) rfl) (by decide)
      have n27 : D 27 = false := by cases q : D 27 with | false => rfl | true => exact absurd (hcl 27 _ rfl q _ (Array.mem_of_getElem? (i := 2) rfl) rfl) (by simp [hD])
      have hw0 : w' = Q := by rw [hw]; exact detW_0 n27 hD
      subst hw0
      have hc := ht
      clear hw hcl hpre hx1 hx2 hfz hQ
      go_simp
      rw [← hl, ← hW1, ← hW2]
      exact hG.turn 23 1023 _ (by rw [hl]; rfl) (by decide) (detW_1 (by simp [n27]) (by simp))
    | 24, _ =>
      cases ho
      have a59 := hG.at 4 59 _ (by rw [hl]; rfl) (hpre _ (Array.mem_of_getElem? (i := 0) rfl) rfl) (by decide)
      have a60 := hG.at 5 60 _ (by rw [hl]; rfl) (hpre _ (Array.mem_of_getElem? (i := 1) rfl) rfl) (by decide)
      clear hw hcl hpre hx1 hx2 hfz hQ
      clear hW1 hW2
      go_simp
      rw [← hl]
      exact hG.put 24 78 _ (by rw [hl]; rfl) (by decide) (by rw [hl]; rfl) (detW_same (by decide) (by decide))
    | 25, _ =>
      cases ho
      have a78 := hG.at 24 78 _ (by rw [hl]; rfl) (hpre _ (Array.mem_of_getElem? (i := 0) rfl) rfl) (by decide)
      clear hw hcl hpre hx1 hx2 hfz hQ
      clear hW1 hW2
      go_simp
      rw [← hl]
      exact hG.put 25 79 _ (by rw [hl]; rfl) (by decide) (by rw [hl]; rfl) (detW_same (by decide) (by decide))
    | 26, _ =>
      cases ho
      have a79 := hG.at 25 79 _ (by rw [hl]; rfl) (hpre _ (Array.mem_of_getElem? (i := 0) rfl) rfl) (by decide)
      clear hw hcl hpre hx1 hx2 hfz hQ
      clear hW1 hW2
      go_simp
      rw [← hl]
      exact hG.put 26 80 _ (by rw [hl]; rfl) (by decide) (by rw [hl]; rfl) (detW_same (by decide) (by decide))
    | 27, _ =>
      cases ho
      have a75 := hG.at 20 75 _ (by rw [hl]; rfl) (hpre _ (Array.mem_of_getElem? (i := 1) rfl) rfl) (by decide)
      have a80 := hG.at 26 80 _ (by rw [hl]; rfl) (hpre _ (Array.mem_of_getElem? (i := 0) rfl) rfl) (by decide)
      have y23 : D 23 = true := hpre _ (Array.mem_of_getElem? (i := 2) rfl) rfl
      have hw0 : w' = W1 := by rw [hw]; exact detW_1 hD y23
      subst hw0
      clear hw hcl hpre hx1 hx2 hfz hQ
      clear hW1
      go_simp
      rw [← hl, ← hW2]
      exact hG.turn 27 1027 _ (by rw [hl]; rfl) (by decide) (detW_2 (by simp))
  · refine ⟨hG.df, hG.size, fun t ht => ?_, ?_⟩
    · by_cases h81 : t < 81
      · refine hG.keep t (fun j p hp _ e => ?_)
        have h : (l.all fun p => (decide (55 ≤ p.1) && decide (p.1 ≤ 80)) || decide (1000 ≤ p.1)) = true := by rw [hl]; rfl
        have := List.all_eq_true.1 h p (List.mem_of_getElem? hp)
        simp only [Bool.or_eq_true, Bool.and_eq_true, decide_eq_true_eq] at this
        omega
      · have h3 := hG.size
        simp [Array.getD, h3, htm, h81]
    · rw [hG.world]; exact detW_2 (hall 27 (by decide))
end Go.Ai

namespace Go.Ai
open Go Go.Proofs Go.RowKit Go.Lib
set_option maxRecDepth 100000
set_option maxHeartbeats 4000000

def ShS (w : World) (R : Nat → Prop) (sz n : Nat) (P : Nat → List Value → Prop) (v : Value) : Prop :=
  (n = 0 ∧ ∃ p cap, v = .slice p 0 cap) ∨ ∃ b o cap vs ty, v = .slice (some ⟨b, o, none⟩) n cap ∧ R b ∧ w.heap[b]? = some (.cells vs ty (0, 0)) ∧ o + n * sz ≤ vs.size ∧ n < 9223372036854775807 ∧ ∀ i, i < n → P i ((vs.toList.drop (o + i * sz)).take sz)

def ShC (w : World) (R : Nat → Prop) (L : Nat) : Nat → V → List Value → Prop
  | 0, _, _ => False
  | d + 1, v, cs => ∃ k i s t sl sf, cs = [.int .i64 k, .int .i64 i, .int .i64 s, .string t, sl, sf] ∧ t.size ≤ L ∧ ShS w R 6 v.list.length (fun i r => ShC w R L d (v.list.getD i default) r) sl ∧
      ShS w R 7 v.fields.length (fun i r => ∃ nm r', r = .string nm :: r' ∧ nm.size ≤ L ∧ ShC w R L d (v.fields.getD i default).2 r') sf

def SimV (L : Nat) (x y : Value) : Prop := x = y ∨ (∃ k m, x = .int .i64 k ∧ y = .int .i64 m) ∨ ∃ s t, x = .string s ∧ y = .string t ∧ t.size ≤ L

structure Sim (R : Nat → Prop) (L : Nat) (w w' : World) : Prop where
  os : w'.os = w.os
  tape : w'.tape = w.tape
  output : w'.output = w.output
  size : w.heap.size ≤ w'.heap.size
  other : ∀ b, b < w.heap.size → ¬ R b → w'.heap[b]? = w.heap[b]?
  rows : ∀ (b : Nat) (vs : Array Value) (ty : TypeId), R b → w.heap[b]? = some (.cells vs ty (0, 0)) → ∃ vs' : Array Value, w'.heap[b]? = some (.cells vs' ty (0, 0)) ∧ vs'.size = vs.size ∧ ∀ (j : Nat) (x y : Value), vs[j]? = some x → vs'[j]? = some y → SimV L x y

theorem SimV.mono {L L' : Nat} {x y : Value} (h : SimV L x y) (hl : L ≤ L') : SimV L' x y := by
  rcases h with h | h | ⟨s, t, h1, h2, h3⟩
  · exact .inl h
  · exact .inr (.inl h)
  · exact .inr (.inr ⟨s, t, h1, h2, Nat.le_trans h3 hl⟩)

theorem SimV.trans {L : Nat} {x y z : Value} (h : SimV L x y) (g : SimV L y z) : SimV L x z := by
  rcases h with rfl | ⟨k, m, rfl, rfl⟩ | ⟨s, t, rfl, rfl, h3⟩
  · exact g
  · rcases g with rfl | ⟨k', m', h, rfl⟩ | ⟨s', t', h, _⟩
    · exact .inr (.inl ⟨_, _, rfl, rfl⟩)
    · exact .inr (.inl ⟨_, _, rfl, rfl⟩)
    · cases h
  · rcases g with rfl | ⟨k', m', h, _⟩ | ⟨s', t', h, rfl, h4⟩
    · exact .inr (.inr ⟨_, _, rfl, rfl, h3⟩)
    · cases h
    · exact .inr (.inr ⟨_, _, rfl, rfl, h4⟩)

theorem Sim.refl (R : Nat → Prop) (L : Nat) (w : World) : Sim R L w w := ⟨rfl, rfl, rfl, Nat.le_refl _, fun _ _ _ => rfl, fun b vs ty _ h => ⟨vs, h, rfl, fun j x y h1 h2 => .inl (by rw [h1] at h2; cases h2; rfl)⟩⟩

theorem Sim.mono {R : Nat → Prop} {L L' : Nat} {w w' : World} (h : Sim R L w w') (hl : L ≤ L') : Sim R L' w w' :=
  ⟨h.os, h.tape, h.output, h.size, h.other, fun b vs ty hr hb => let ⟨vs', h1, h2, h3⟩ := h.rows b vs ty hr hb; ⟨vs', h1, h2, fun j x y a b => (h3 j x y a b).mono hl⟩⟩

theorem Sim.trans {R : Nat → Prop} {L : Nat} {w w' w'' : World} (h : Sim R L w w') (g : Sim R L w' w'') : Sim R L w w'' :=
  ⟨g.os.trans h.os, g.tape.trans h.tape, g.output.trans h.output, Nat.le_trans h.size g.size, fun b hb hr => (g.other b (Nat.lt_of_lt_of_le hb h.size) hr).trans (h.other b hb hr), fun b vs ty hr hb => by
    obtain ⟨vs', h1, h2, h3⟩ := h.rows b vs ty hr hb
    obtain ⟨vs'', g1, g2, g3⟩ := g.rows b vs' ty hr h1
    refine ⟨vs'', g1, g2.trans h2, fun j x y a b => ?_⟩
    have hj : j < vs'.size := by have := (Array.getElem?_eq_some_iff.1 a).1; omega
    exact (h3 j x _ a (Array.getElem?_eq_getElem hj)).trans (g3 j _ y (Array.getElem?_eq_getElem hj) b)⟩

theorem Sim.grow {R : Nat → Prop} {L : Nat} {w w' : World} (hR : ∀ b, R b → b < w.heap.size) (h1 : w'.os = w.os) (h2 : w'.tape = w.tape) (h3 : w'.output = w.output) (h4 : w.heap.size ≤ w'.heap.size) (h5 : ∀ b, b < w.heap.size → w'.heap[b]? = w.heap[b]?) : Sim R L w w' :=
  ⟨h1, h2, h3, h4, fun b hb _ => h5 b hb, fun b vs ty hr hb => ⟨vs, by rw [h5 b (hR b hr)]; exact hb, rfl, fun j x y a b => .inl (by rw [a] at b; cases b; rfl)⟩⟩

theorem ShS.sim {w w' : World} {R : Nat → Prop} {L' sz n : Nat} {P P' : Nat → List Value → Prop} {v : Value} (h : ShS w R sz n P v) (hs : Sim R L' w w') (hP : ∀ i r r', i < n → P i r → r'.length = r.length → (∀ (j : Nat) x y, r[j]? = some x → r'[j]? = some y → SimV L' x y) → P' i r') : ShS w' R sz n P' v := by
  rcases h with h | ⟨b, o, cap, vs, ty, rfl, hr, hb, hsz, hn, hel⟩
  · exact .inl h
  · obtain ⟨vs', h1, h2, h3⟩ := hs.rows b vs ty hr hb
    refine .inr ⟨b, o, cap, vs', ty, rfl, hr, h1, by omega, hn, fun i hi => hP i _ _ hi (hel i hi) (by simp [h2]) fun j x y hx hy => ?_⟩
    rw [List.getElem?_take] at hx hy
    split at hx
    · rename_i hj
      rw [if_pos hj] at hy
      rw [List.getElem?_drop] at hx hy
      exact h3 _ x y (by simpa using hx) (by simpa using hy)
    · cases hx

theorem ShC.sim {w w' : World} {R : Nat → Prop} {L L' : Nat} (hs : Sim R L' w w') (hl : L ≤ L') : ∀ (d : Nat) (v : V) (cs cs' : List Value), ShC w R L d v cs → cs'.length = cs.length → (∀ (j : Nat) x y, cs[j]? = some x → cs'[j]? = some y → SimV L' x y) → ShC w' R L' d v cs'
  | 0, _, _, _, h, _, _ => h.elim
  | d + 1, v, cs, cs', h, hlen, hc => by
    obtain ⟨k, i, s, t, sl, sf, rfl, ht, h1, h2⟩ := h
    obtain ⟨c0, c1, c2, c3, c4, c5, rfl⟩ : ∃ c0 c1 c2 c3 c4 c5, cs' = [c0, c1, c2, c3, c4, c5] := by
      match cs', hlen with
      | [c0, c1, c2, c3, c4, c5], _ => exact ⟨_, _, _, _, _, _, rfl⟩
    have g0 := hc 0 _ _ rfl rfl
    have g1 := hc 1 _ _ rfl rfl
    have g2 := hc 2 _ _ rfl rfl
    have g3 := hc 3 _ _ rfl rfl
    have g4 := hc 4 _ _ rfl rfl
    have g5 := hc 5 _ _ rfl rfl
    have hint : ∀ {k : Int} {y : Value}, SimV L' (.int .i64 k) y → ∃ m, y = .int .i64 m := fun {k y} h => by
      rcases h with rfl | ⟨_, m, _, rfl⟩ | ⟨_, _, h, _⟩
      · exact ⟨_, rfl⟩
      · exact ⟨_, rfl⟩
      · cases h
    have hstr : ∀ {t : ByteArray} {y : Value}, t.size ≤ L → SimV L' (.string t) y → ∃ u, y = .string u ∧ u.size ≤ L' := fun {t y} ht h => by
      rcases h with rfl | ⟨_, m, h, _⟩ | ⟨_, u, _, rfl, hu⟩
      · exact ⟨_, rfl, Nat.le_trans ht hl⟩
      · cases h
      · exact ⟨_, rfl, hu⟩
    have hslc : ∀ {n sz : Nat} {P : Nat → List Value → Prop} {x y : Value}, ShS w R sz n P x → SimV L' x y → y = x := fun {n sz P x y} h g => by
      rcases h with ⟨_, p, cap, rfl⟩ | ⟨b, o, cap, vs, ty, rfl, _⟩ <;>
      · rcases g with rfl | ⟨_, _, h, _⟩ | ⟨_, _, h, _⟩
        · rfl
        · cases h
        · cases h
    obtain ⟨k', rfl⟩ := hint g0
    obtain ⟨i', rfl⟩ := hint g1
    obtain ⟨s', rfl⟩ := hint g2
    obtain ⟨t', rfl, ht'⟩ := hstr ht g3
    obtain rfl := hslc h1 g4
    obtain rfl := hslc h2 g5
    refine ⟨k', i', s', t', _, _, rfl, ht', h1.sim hs fun i r r' _ hp hl' hr => ShC.sim hs hl d _ r r' hp hl' hr, h2.sim hs fun i r r' _ hp hl' hr => ?_⟩
    obtain ⟨nm, q, rfl, hnm, hq⟩ := hp
    match r', hl' with
    | y :: q', hl' =>
      obtain ⟨nm', rfl, hnm'⟩ := hstr hnm (hr 0 _ _ rfl rfl)
      exact ⟨nm', q', rfl, hnm', ShC.sim hs hl d _ q q' hq (by simpa using hl') fun j x y h1 h2 => hr (j + 1) x y h1 h2⟩

def tot : Nat → V → Nat
  | 0, _ => 0
  | d + 1, v => (v.list.map fun x => tot d x + 1).sum + (v.fields.map fun x => tot d x.2 + 1).sum
end Go.Ai
