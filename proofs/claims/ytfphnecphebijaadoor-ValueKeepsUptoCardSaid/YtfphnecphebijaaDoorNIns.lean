/- slices.Insert at a record's fields: what it does in memory. -/
import Derived.Test.YtfphnecphebijaaDoorProg
import Derived.Shelf.Spec.SlicesInsertGrow
import Derived.KernelRfl
import Derived.Test.YtfphnecphebijaaDoorNEngA
namespace Go.Ai
open Go Go.Proofs Go.RowKit Go.Lib
set_option maxRecDepth 100000
set_option maxHeartbeats 4000000

theorem copyK_row {P : Program} (w : World) (dT sT ty elem : TypeId) (k g o dLen dCap : Nat) (a : Addr) (sLen sCap : Nat) (cur : Array Value) (t : TypeId) (cs : List Value)
    (hu : P.underlying dT = some (.slice elem)) (hs : (P.info? elem).map (·.size) = some k)
    (hg : w.heap[g]? = some (.cells cur t (0, 0))) (hn : cs.length = Nat.min sLen dLen * k)
    (hsrc : ∀ j v, cs[j]? = some v → w.cell? (a.add j) = some v) (hfit : o + cs.length ≤ cur.size) (h1 : ∀ v ∈ cs, v.oneCell' = true) :
    (Builtin.copy_ #[dT, sT] ty #[.slice (some ⟨g, o, none⟩) dLen dCap, .slice (some a) sLen sCap]).run P w =
      .ok (goInt (Nat.min sLen dLen)) (w.setRow g (cur.toList.take o ++ cs ++ cur.toList.drop (o + cs.length)).toArray) := by
  have hl := run_loadCells_list (P := P) w a cs hsrc
  have hst := run_storeCells_at P g o t cs 0 cur w hg (by simpa using hfit) h1
  cases hq : P.info? elem with
  | none => simp [hq] at hs
  | some i =>
    have hi : i.size = k := by simpa [hq] using hs
    simp [Builtin.copy_, run_underlying hu, Builtin.lenOf, Builtin.firstCells, sizeOf, typeInfo, hq, hi, ← hn, hl, hst]

theorem size41 : (Tryd.prog.info? 41).map (·.size) = some 7 := by kernel_rfl

theorem cell_of_row {w : World} {g : Nat} {cur : Array Value} {t : TypeId} (h : w.heap[g]? = some (.cells cur t (0, 0))) (j : Nat) : w.cell? ⟨g, j, none⟩ = cur[j]? := by
  simp [World.cell?, h]

def part (cur : Array Value) (o : Nat) (cs : List Value) : Array Value := (cur.toList.take o ++ cs ++ cur.toList.drop (o + cs.length)).toArray
theorem part_size {cur : Array Value} {o : Nat} {cs : List Value} (h : o + cs.length ≤ cur.size) : (part cur o cs).size = cur.size := by
  simp [part]; omega
theorem part_get {cur : Array Value} {o : Nat} {cs : List Value} (h : o + cs.length ≤ cur.size) (k : Nat) : (part cur o cs)[k]? = if o ≤ k ∧ k < o + cs.length then cs[k - o]? else cur[k]? := by
  simp only [part, List.getElem?_toArray]
  have hl : (cur.toList.take o).length = o := by simp; omega
  by_cases h1 : k < o
  · rw [List.append_assoc, List.getElem?_append_left (by rw [hl]; exact h1), if_neg (by omega), List.getElem?_take, if_pos h1, Array.getElem?_toList]
  · by_cases h2 : k < o + cs.length
    · rw [if_pos ⟨by omega, h2⟩, List.append_assoc, List.getElem?_append_right (by rw [hl]; omega), hl, List.getElem?_append_left (by omega)]
    · rw [if_neg (by omega), List.getElem?_append_right (by rw [List.length_append, hl]; omega), List.length_append, hl, List.getElem?_drop, Array.getElem?_toList]
      congr 1; omega

def seg (cur : Array Value) (o n : Nat) : List Value := (cur.toList.drop o).take n
theorem seg_len {cur : Array Value} {o n : Nat} (h : o + n ≤ cur.size) : (seg cur o n).length = n := by simp [seg]; omega
theorem seg_get {cur : Array Value} {o n : Nat} (j : Nat) : (seg cur o n)[j]? = if j < n then cur[o + j]? else none := by
  simp only [seg, List.getElem?_take, List.getElem?_drop, Array.getElem?_toList]
theorem seg_one {cur : Array Value} {m o n : Nat} (h : ∀ j v, j < m → cur[j]? = some v → v.oneCell' = true) (hm : o + n ≤ m) : ∀ v ∈ seg cur o n, v.oneCell' = true := by
  intro v hv
  obtain ⟨j, hj, e⟩ := List.getElem_of_mem hv
  have e2 : (seg cur o n)[j]? = some v := by rw [List.getElem?_eq_getElem hj, e]
  rw [seg_get] at e2
  split at e2
  · exact h _ v (by omega) e2
  · cases e2

theorem Ins_room (b n c i vb vc : Nat) (cur vcur : Array Value) (w : World) (hi : i < n) (hroom : n + 1 ≤ c) (hc63 : c ≤ 9223372036854775807) (hvb : vb ≠ b)
    (hb : w.heap[b]? = some (.cells cur 41 (0, 0))) (hsz : cur.size = c * 7) (hv : w.heap[vb]? = some (.cells vcur 41 (0, 0))) (hvs : 7 ≤ vcur.size)
    (h1c : ∀ j v, j < n * 7 → cur[j]? = some v → v.oneCell' = true) (h1v : ∀ j v, j < 7 → vcur[j]? = some v → v.oneCell' = true) :
    Calls Tryd.prog 57 #[.slice (some ⟨b, 0, none⟩) n c, .int .i64 i, .slice (some ⟨vb, 0, none⟩) 1 vc] w fun e w' =>
      e = .returned (.slice (some ⟨b, 0, none⟩) (n + 1) c) ∧ w' = (w.drew.setRow b (part (part cur ((i + 1) * 7) (seg cur (i * 7) ((n - i) * 7))) (i * 7) (seg vcur 0 7))) := by
  have hz2 : ¬ ((i : Int) = (n : Int)) := by omega
  have hov : ∀ lb cb, (callFunc 91 #[.slice (some ⟨vb, 0, none⟩) 1 vc, .slice (some ⟨b, (i + 1) * 7, none⟩) lb cb]).run Tryd.prog w = .ok (.value (.bool false)) w := fun lb cb => by
    rw [run_callFunc_extern Tryd.func91 (by kernel_rfl) (by kernel_rfl) (by kernel_rfl) (e := Extern.SlicesOverlaps.overlaps #[23, 23] #[4]) (by kernel_rfl),
      Lib.run_overlaps_apart w 23 4 41 Tryd.underlying23 7 (fun w => by kernel_rfl) ⟨vb, 0, none⟩ ⟨b, (i + 1) * 7, none⟩ 1 vc lb cb hvb 41 41 vcur.size cur.size (by simp [World.shape?, hv]) (by simp [World.shape?, hb]) (by omega) (by simp [World.frozen?, hv]) (by simp [World.frozen?, hv])]
    rfl
  have hcs : (seg cur (i * 7) ((n - i) * 7)).length = (n - i) * 7 := seg_len (by omega)
  have hcp1 : ∀ ty dc sc, (Builtin.copy_ #[23, 23] ty #[.slice (some ⟨b, (i + 1) * 7, none⟩) (n - i) dc, .slice (some ⟨b, i * 7, none⟩) (n + 1 - i) sc]).run Tryd.prog w.drew = .ok (goInt (Nat.min (n + 1 - i) (n - i))) (w.drew.setRow b (part cur ((i + 1) * 7) (seg cur (i * 7) ((n - i) * 7)))) := fun ty dc sc =>
    copyK_row w.drew _ _ ty 41 7 b ((i + 1) * 7) (n - i) dc ⟨b, i * 7, none⟩ (n + 1 - i) sc cur 41 (seg cur (i * 7) ((n - i) * 7)) Tryd.underlying23 size41 hb
      (by rw [hcs]; simp only [Nat.min_def]; split <;> omega)
      (fun j v hj => by rw [Addr.add_lit, cell_of_row (w := w.drew) hb]; rw [seg_get] at hj; split at hj; exact hj; cases hj) (by rw [hcs]; omega) (seg_one h1c (by omega))
  obtain ⟨W1, hW1⟩ : ∃ W1, W1 = w.drew.setRow b (part cur ((i + 1) * 7) (seg cur (i * 7) ((n - i) * 7))) := ⟨_, rfl⟩
  have hb1 : W1.heap[b]? = some (.cells (part cur ((i + 1) * 7) (seg cur (i * 7) ((n - i) * 7))) 41 (0, 0)) := by rw [hW1]; exact setRow_heap w.drew b cur _ 41 (0, 0) hb
  have hv1 : W1.heap[vb]? = some (.cells vcur 41 (0, 0)) := by rw [hW1, setRow_other _ _ _ _ hvb]; exact hv
  have hps : (part cur ((i + 1) * 7) (seg cur (i * 7) ((n - i) * 7))).size = cur.size := part_size (by rw [hcs]; omega)
  have hcp2 : ∀ (W : World), W.heap = W1.heap → ∀ ty dc, (Builtin.copy_ #[23, 23] ty #[.slice (some ⟨b, i * 7, none⟩) (n + 1 - i) dc, .slice (some ⟨vb, 0, none⟩) 1 vc]).run Tryd.prog W = .ok (goInt (Nat.min 1 (n + 1 - i))) (W.setRow b (part (part cur ((i + 1) * 7) (seg cur (i * 7) ((n - i) * 7))) (i * 7) (seg vcur 0 7))) := fun W hWh ty dc =>
    copyK_row W _ _ ty 41 7 b (i * 7) (n + 1 - i) dc ⟨vb, 0, none⟩ 1 vc _ 41 (seg vcur 0 7) Tryd.underlying23 size41 (by rw [hWh]; exact hb1)
      (by rw [seg_len (by omega)]; simp only [Nat.min_def]; split <;> omega)
      (fun j v hj => by rw [Addr.add_lit, cell_of_row (w := W) (by rw [hWh]; exact hv1)]; rw [seg_get] at hj; split at hj; exact hj; cases hj) (by rw [seg_len (by omega), hps]; omega) (seg_one h1v (by omega))
  rw [← hW1] at hcp1
  have hw1 : IntKind.i64.wrap ((i : Int) + 1) = (i : Int) + 1 := by rw [IntKind.wrap_i64]; omega
  have hw2 : IntKind.i64.wrap ((n : Int) + 1) = (n : Int) + 1 := by rw [IntKind.wrap_i64]; omega
  have hbn : (0 : Int) ≤ (i : Int) + 1 := by omega
  have hin : i ≤ n := by omega
  have htn : ((i : Int) + 1).toNat = i + 1 := by omega
  have hb2 : ¬ (c = i + 1) := by omega
  have hb3 : (i : Int) ≤ (n : Int) + 1 := by omega
  have hb4 : ¬ (c = i) := by omega
  have mixed : Tryd.prog.follows .mixedOrders = true := by kernel_rfl
  go_enter Tryd.func57, Tryd.ntmps57
  go_wp2_with (simp only [hov])
  go_region_law_o (refine step_copy_runI rfl _ _ 23 23 rfl _ _ (by simp [Act.eval, Act.put]) (by simp [Act.eval, Act.put]) (hcp1 _ _ _) ?_)
  go_wp2_with (at_builtin; refine wpList_copy_runI _ rfl _ _ 23 23 rfl _ _ rfl rfl (hcp2 _ rfl _ _) ?_)
  go_ret
  exact ⟨rfl, setRow_setRow _ _ _ _⟩

theorem info41 : ∃ i0 z, Tryd.prog.info? 41 = some i0 ∧ i0.size = 7 ∧ i0.bytes = 104 ∧ i0.zero = some z ∧ z.cells.size = 7 := by
  cases hq : Tryd.prog.info? 41 with
  | none => have := size41; rw [hq] at this; cases this
  | some i0 =>
    have h1 := size41
    have h2 : (Tryd.prog.info? 41).map (·.bytes) = some 104 := by kernel_rfl
    have h3 : ((Tryd.prog.info? 41).bind (·.zero)).map (·.cells.size) = some 7 := by kernel_rfl
    rw [hq] at h1 h2 h3
    simp at h1 h2 h3
    obtain ⟨z, hz, hz2⟩ := h3
    exact ⟨i0, z, rfl, h1, h2, hz, hz2⟩

theorem Ins_end_room (b n c vb vc : Nat) (cur vcur : Array Value) (w : World) (hroom : n + 1 ≤ c) (hc63 : c ≤ 9223372036854775807)
    (hb : w.heap[b]? = some (.cells cur 41 (0, 0))) (hsz : cur.size = c * 7) (hv : w.heap[vb]? = some (.cells vcur 41 (0, 0))) (hvs : 7 ≤ vcur.size)
    (h1v : ∀ j v, j < 7 → vcur[j]? = some v → v.oneCell' = true) :
    Calls Tryd.prog 57 #[.slice (some ⟨b, 0, none⟩) n c, .int .i64 n, .slice (some ⟨vb, 0, none⟩) 1 vc] w fun e w' =>
      e = .returned (.slice (some ⟨b, 0, none⟩) (n + 1) c) ∧ w' = w.setRow b (part cur (n * 7) (seg vcur 0 7)) := by
  obtain ⟨i0, z, hi, hs, hb2, hz, hzs⟩ := info41
  have hl : (seg vcur 0 7).length = 7 := seg_len (by omega)
  have hrun : ∀ ty, (Builtin.append_ #[23, 23] ty #[.slice (some ⟨b, 0, none⟩) n c, .slice (some ⟨vb, 0, none⟩) 1 vc]).run Tryd.prog w = .ok (.slice (some ⟨b, 0, none⟩) (n + 1) c) (w.setRow b (part cur (n * 7) (seg vcur 0 7))) := fun ty => by
    have := append_room_run (P := Tryd.prog) (ty := ty) (w := w) Tryd.underlying23 Tryd.underlying23 (.inl ⟨41, rfl⟩) hi (g := b) (n := n) (cap := c) (m := 1) (x := .slice (some ⟨vb, 0, none⟩) 1 vc) (cur := cur) (news := seg vcur 0 7) hb (fun w' => lenOf_slice _ _ _)
      (by rw [hs]; exact run_firstCells_some _ 7 1 ⟨vb, 0, none⟩ 1 vc (seg vcur 0 7) (by rw [hl]) (fun j v hj => by rw [Addr.add_lit, cell_of_row hv]; rw [seg_get] at hj; split at hj; simpa using hj; cases hj))
      (seg_one h1v (by omega)) hroom (by rw [hs, hl]; omega)
    rw [hs] at this
    exact this
  have mixed : Tryd.prog.follows .mixedOrders = true := by kernel_rfl
  go_enter Tryd.func57, Tryd.ntmps57
  go_wp2_with (at_builtin; refine Lib.wpList_append_run _ rfl _ _ _ _ rfl _ _ rfl rfl _ _ (hrun _) ?_)
  go_ret
  exact ⟨rfl, rfl⟩

theorem Ins_end_grow (base : Option Addr) (n c vb vc : Nat) (olds : List Value) (vcur : Array Value) (w : World) (hroom : c < n + 1) (hbig : (n + 1) * 104 ≤ 35184372088832)
    (hold : ∀ w' : World, w'.heap = w.heap → (Builtin.firstCells 7 n (.slice base n c)).run Tryd.prog w' = .ok olds.toArray w') (hv : w.heap[vb]? = some (.cells vcur 41 (0, 0))) (hvs : 7 ≤ vcur.size) (hnil : base = none → n = 0 ∧ c = 0) (hnc : n ≤ c) :
    ∃ z : Value, z.cells.size = 7 ∧ Calls Tryd.prog 57 #[.slice base n c, .int .i64 n, .slice (some ⟨vb, 0, none⟩) 1 vc] w fun e w' =>
      e = .returned (.slice (some ⟨w.heap.size, 0, none⟩) (n + 1) (grownCap w (n + 1) c 41)) ∧
      w' = w.drew.alloc (.cells (olds.toArray ++ (seg vcur 0 7).toArray ++ Builtin.zeroCells z.cells (grownCap w (n + 1) c 41 - (n + 1))) 41) := by
  obtain ⟨i0, z, hi, hs, hb2, hz, hzs⟩ := info41
  refine ⟨z, hzs, ?_⟩
  have hl : (seg vcur 0 7).length = 7 := seg_len (by omega)
  have hrun : ∀ ty, (Builtin.append_ #[23, 23] ty #[.slice base n c, .slice (some ⟨vb, 0, none⟩) 1 vc]).run Tryd.prog w = .ok (.slice (some ⟨w.heap.size, 0, none⟩) (n + 1) (grownCap w (n + 1) c 41)) (w.drew.alloc (.cells (olds.toArray ++ (seg vcur 0 7).toArray ++ Builtin.zeroCells z.cells (grownCap w (n + 1) c 41 - (n + 1))) 41)) := fun ty =>
    append_grow_run (P := Tryd.prog) (ty := ty) (w := w) Tryd.underlying23 Tryd.underlying23 (.inl ⟨41, rfl⟩) hi hz (base := base) (n := n) (cap := c) (m := 1) (x := .slice (some ⟨vb, 0, none⟩) 1 vc) (olds := olds) (news := seg vcur 0 7) (fun w' => lenOf_slice _ _ _)
      (fun w' hw => by rw [hs]; exact hold w' hw)
      (fun w' hw => by rw [hs]; exact run_firstCells_some _ 7 1 ⟨vb, 0, none⟩ 1 vc (seg vcur 0 7) (by rw [hl]) (fun j v hj => by rw [Addr.add_lit, cell_of_row (w := w') (by rw [hw]; exact hv)]; rw [seg_get] at hj; split at hj; simpa using hj; cases hj))
      hroom (by omega) (growslice_fits (by omega) (by rw [hb2]; omega))
  have mixed : Tryd.prog.follows .mixedOrders = true := by kernel_rfl
  generalize grownCap w (n + 1) c 41 = G at hrun ⊢
  generalize olds.toArray ++ (seg vcur 0 7).toArray ++ Builtin.zeroCells z.cells (G - (n + 1)) = ROW at hrun ⊢
  clear hi hz hzs hold
  cases base with
  | none =>
    obtain ⟨rfl, rfl⟩ := hnil rfl
    go_enter Tryd.func57, Tryd.ntmps57
    go_wp2_with (at_builtin; refine Lib.wpList_append_run _ rfl _ _ _ _ rfl _ _ rfl rfl _ _ (hrun _) ?_)
    go_ret
    exact ⟨rfl, rfl⟩
  | some a =>
    go_enter Tryd.func57, Tryd.ntmps57
    go_wp2_with (at_builtin; refine Lib.wpList_append_run _ rfl _ _ _ _ rfl _ _ rfl rfl _ _ (hrun _) ?_)
    go_ret
    exact ⟨rfl, rfl⟩

theorem Ins_grow (b n c i vb vc : Nat) (cur vcur : Array Value) (w : World) (hi : i < n) (hnc : n ≤ c) (hroom : c < n + 1) (hc63 : c ≤ 9223372036854775807) (hbig : (n + 1) * 104 ≤ 35184372088832)
    (hb : w.heap[b]? = some (.cells cur 41 (0, 0))) (hsz : cur.size = c * 7) (hv : w.heap[vb]? = some (.cells vcur 41 (0, 0))) (hvs : 7 ≤ vcur.size)
    (h1c : ∀ j v, j < n * 7 → cur[j]? = some v → v.oneCell' = true) (h1v : ∀ j v, j < 7 → vcur[j]? = some v → v.oneCell' = true) :
    ∃ ROW G, n + 1 ≤ G ∧ G ≤ maxLen ∧ ROW.size = G * 7 ∧ (∀ k, k < i * 7 → ROW[k]? = cur[k]?) ∧ Calls Tryd.prog 57 #[.slice (some ⟨b, 0, none⟩) n c, .int .i64 i, .slice (some ⟨vb, 0, none⟩) 1 vc] w fun e w' =>
      e = .returned (.slice (some ⟨w.heap.size, 0, none⟩) (n + 1) G) ∧
      w' = (((w.drew.alloc (.cells ROW 41)).setRow w.heap.size (part ROW (i * 7) (seg vcur 0 7))).drew).setRow w.heap.size (part (part ROW (i * 7) (seg vcur 0 7)) ((i + 1) * 7) (seg cur (i * 7) ((n - i) * 7))) := by
  obtain ⟨i0, z, hi0, hs0, hb0, hz0, hzs⟩ := info41
  have hz2 : ¬ ((i : Int) = (n : Int)) := by omega
  have hz3 : (c : Int) < (n : Int) + 1 := by omega
  have hkk : (n : Int) + 1 - (i : Int) = ((n + 1 - i : Nat) : Int) := by omega
  have hik : i + (n + 1 - i) = n + 1 := by omega
  have hold : (Builtin.firstCells i0.size i (.slice (some ⟨b, 0, none⟩) i c)).run Tryd.prog w.drew = .ok (seg cur 0 (i * 7)).toArray w.drew := by
    rw [hs0]
    exact run_firstCells_some w.drew 7 i ⟨b, 0, none⟩ i c (seg cur 0 (i * 7)) (by rw [seg_len (by omega)]) (fun j v hj => by
      rw [Addr.add_lit, cell_of_row (w := w.drew) hb]; rw [seg_get] at hj; split at hj; simpa using hj; cases hj)
  have hrz : ∀ ty, (Builtin.append_ #[23, 3] ty #[.slice (some ⟨b, 0, none⟩) i c, .int .i64 ((n : Int) + 1 - (i : Int))]).run Tryd.prog w =
      .ok (.slice (some ⟨w.heap.size, 0, none⟩) (n + 1) (grownCap w (n + 1) c 41)) (w.drew.alloc (.cells ((seg cur 0 (i * 7)).toArray ++ Builtin.zeroCells z.cells (n + 1 - i) ++ Builtin.zeroCells z.cells (grownCap w (n + 1) c 41 - (n + 1))) 41)) := fun ty => by
    have h := Lib.run_append_grow_zeros w 23 3 ty 41 i0 z .i64 .i64 Tryd.underlying23 Tryd.underlying3 hi0 hz0 (some ⟨b, 0, none⟩) i c (seg cur 0 (i * 7)) hold (n + 1 - i) (by omega) (by omega) (by omega) (by omega) (by rw [hb0]; omega) (by rw [hb0, hik]; exact growslice_fits hroom (by omega))
    rw [hik] at h
    rw [hkk]
    exact h
  have hGn : n + 1 ≤ grownCap w (n + 1) c 41 := grownCap_ge w _ _ _
  have hGm : grownCap w (n + 1) c 41 ≤ maxLen := grownCap_le_maxLen w (n + 1) c 41 (maxLen_big (by omega))
  have hG63 : grownCap w (n + 1) c 41 ≤ 9223372036854775807 := by unfold maxLen at hGm; omega
  have hRs : ((seg cur 0 (i * 7)).toArray ++ Builtin.zeroCells z.cells (n + 1 - i) ++ Builtin.zeroCells z.cells (grownCap w (n + 1) c 41 - (n + 1))).size = grownCap w (n + 1) c 41 * 7 := by
    rw [Array.size_append, Array.size_append, size_zc, size_zc, List.size_toArray, seg_len (by omega), hzs]; omega
  have hRg : ∀ k, k < i * 7 → ((seg cur 0 (i * 7)).toArray ++ Builtin.zeroCells z.cells (n + 1 - i) ++ Builtin.zeroCells z.cells (grownCap w (n + 1) c 41 - (n + 1)))[k]? = cur[k]? := fun k hk => by
    have hl : (seg cur 0 (i * 7)).length = i * 7 := seg_len (by omega)
    rw [Array.append_assoc, Array.getElem?_append_left (by simpa [hl] using hk), List.getElem?_toArray, seg_get, if_pos hk, Nat.zero_add]
  refine ⟨_, _, hGn, hGm, hRs, hRg, ?_⟩
  generalize grownCap w (n + 1) c 41 = G at *
  generalize (seg cur 0 (i * 7)).toArray ++ Builtin.zeroCells z.cells (n + 1 - i) ++ Builtin.zeroCells z.cells (G - (n + 1)) = ROW at *
  have hbw : b < w.heap.size := (Array.getElem?_eq_some_iff.1 hb).1
  have hvw : vb < w.heap.size := (Array.getElem?_eq_some_iff.1 hv).1
  have hbN : b ≠ w.heap.size := by omega
  have hvN : vb ≠ w.heap.size := by omega
  obtain ⟨W1, hW1⟩ : ∃ W1, W1 = w.drew.alloc (.cells ROW 41) := ⟨_, rfl⟩
  have hN1 : W1.heap[w.heap.size]? = some (.cells ROW 41 (0, 0)) := by rw [hW1]; exact heap_alloc_new w.drew _
  have hv1 : W1.heap[vb]? = some (.cells vcur 41 (0, 0)) := by rw [hW1, Go.RowKit.Below.heap_alloc w.drew _ vb hvw]; exact hv
  have hb1 : W1.heap[b]? = some (.cells cur 41 (0, 0)) := by rw [hW1, Go.RowKit.Below.heap_alloc w.drew _ b hbw]; exact hb
  have hvl : (seg vcur 0 7).length = 7 := seg_len (by omega)
  have hcs : (seg cur (i * 7) ((n - i) * 7)).length = (n - i) * 7 := seg_len (by omega)
  have hcpA : ∀ (W : World), W.heap = W1.heap → ∀ ty dc, (Builtin.copy_ #[23, 23] ty #[.slice (some ⟨w.heap.size, i * 7, none⟩) (n + 1 - i) dc, .slice (some ⟨vb, 0, none⟩) 1 vc]).run Tryd.prog W = .ok (goInt (Nat.min 1 (n + 1 - i))) (W.setRow w.heap.size (part ROW (i * 7) (seg vcur 0 7))) := fun W hWh ty dc =>
    copyK_row W _ _ ty 41 7 w.heap.size (i * 7) (n + 1 - i) dc ⟨vb, 0, none⟩ 1 vc ROW 41 (seg vcur 0 7) Tryd.underlying23 size41 (by rw [hWh]; exact hN1)
      (by rw [hvl]; simp only [Nat.min_def]; split <;> omega)
      (fun j v hj => by rw [Addr.add_lit, cell_of_row (w := W) (by rw [hWh]; exact hv1)]; rw [seg_get] at hj; split at hj; exact hj; cases hj) (by rw [hvl]; omega) (seg_one h1v (by omega))
  obtain ⟨W2, hW2⟩ : ∃ W2, W2 = W1.setRow w.heap.size (part ROW (i * 7) (seg vcur 0 7)) := ⟨_, rfl⟩
  have hN2 : W2.heap[w.heap.size]? = some (.cells (part ROW (i * 7) (seg vcur 0 7)) 41 (0, 0)) := by rw [hW2]; exact setRow_heap _ _ _ _ _ _ hN1
  have hb2 : W2.heap[b]? = some (.cells cur 41 (0, 0)) := by rw [hW2, setRow_other _ _ _ _ hbN]; exact hb1
  have hps : (part ROW (i * 7) (seg vcur 0 7)).size = ROW.size := part_size (by rw [hvl]; omega)
  have hcpB : ∀ (W : World), W.heap = W2.heap → ∀ ty dc sc, (Builtin.copy_ #[23, 23] ty #[.slice (some ⟨w.heap.size, (i + 1) * 7, none⟩) (n - i) dc, .slice (some ⟨b, i * 7, none⟩) (n - i) sc]).run Tryd.prog W = .ok (goInt (Nat.min (n - i) (n - i))) (W.setRow w.heap.size (part (part ROW (i * 7) (seg vcur 0 7)) ((i + 1) * 7) (seg cur (i * 7) ((n - i) * 7)))) := fun W hWh ty dc sc =>
    copyK_row W _ _ ty 41 7 w.heap.size ((i + 1) * 7) (n - i) dc ⟨b, i * 7, none⟩ (n - i) sc _ 41 (seg cur (i * 7) ((n - i) * 7)) Tryd.underlying23 size41 (by rw [hWh]; exact hN2)
      (by rw [hcs]; simp only [Nat.min_def]; split <;> omega)
      (fun j v hj => by rw [Addr.add_lit, cell_of_row (w := W) (by rw [hWh]; exact hb2)]; rw [seg_get] at hj; split at hj; exact hj; cases hj) (by rw [hcs, hps]; omega) (seg_one h1c (by omega))
  rw [← hW1] at hrz
  have hw1 : IntKind.i64.wrap ((i : Int) + 1) = (i : Int) + 1 := by rw [IntKind.wrap_i64]; omega
  have hw2 : IntKind.i64.wrap ((n : Int) + 1) = (n : Int) + 1 := by rw [IntKind.wrap_i64]; omega
  have hw3 : IntKind.i64.wrap ((n : Int) + 1 - (i : Int)) = (n : Int) + 1 - (i : Int) := by rw [IntKind.wrap_i64]; omega
  have hbn : (0 : Int) ≤ (i : Int) + 1 := by omega
  have hin : i ≤ n := by omega
  have htn : ((i : Int) + 1).toNat = i + 1 := by omega
  have hb3 : (i : Int) ≤ (n : Int) := by omega
  have hci : ¬ (c = i) := by omega
  have hGi : ¬ (G = i) := by omega
  have hGim : ¬ (G = i + 1) := by omega
  have mixed : Tryd.prog.follows .mixedOrders = true := by kernel_rfl
  have hWd : ∀ W : World, W.drew.heap = W.heap := fun _ => rfl
  clear hkk hik
  have hfin : ∀ W, W = ((W2.drew).setRow w.heap.size (part (part ROW (i * 7) (seg vcur 0 7)) ((i + 1) * 7) (seg cur (i * 7) ((n - i) * 7)))) → W = (((w.drew.alloc (.cells ROW 41)).setRow w.heap.size (part ROW (i * 7) (seg vcur 0 7))).drew).setRow w.heap.size (part (part ROW (i * 7) (seg vcur 0 7)) ((i + 1) * 7) (seg cur (i * 7) ((n - i) * 7))) := fun W h => by rw [h, hW2, hW1]
  refine Calls.mono ?_ fun e w' (h : e = .returned (.slice (some ⟨w.heap.size, 0, none⟩) (n + 1) G) ∧ w' = ((W2.drew).setRow w.heap.size (part (part ROW (i * 7) (seg vcur 0 7)) ((i + 1) * 7) (seg cur (i * 7) ((n - i) * 7))))) => ⟨h.1, hfin _ h.2⟩
  clear hfin
  go_enter Tryd.func57, Tryd.ntmps57
  go_wp2_with (first
    | (at_builtin; refine Lib.wpList_append_run _ rfl _ _ _ _ rfl _ _ rfl rfl _ _ (hrz _) ?_)
    | (at_builtin; refine wpList_copy_runI _ rfl _ _ 23 23 rfl _ _ rfl rfl (by rw [hW2]; exact hcpA W1 rfl _ _) ?_))
  go_region_law_o (refine step_copy_runI rfl _ _ 23 23 rfl _ _ (by simp [Act.eval, Act.put]) (by simp [Act.eval, Act.put]) (hcpB _ rfl _ _ _) ?_)
  go_wp2
  go_ret
  exact ⟨rfl, by rw [hW2, hW1]; rfl⟩
end Go.Ai
