/- poke: its contract in memory. -/
import Derived.Test.YtfphnecphebijaaDoorNPokeB
namespace Go.Ai
open Go Go.Proofs Go.RowKit Go.Lib
set_option maxRecDepth 100000
set_option maxHeartbeats 4000000

theorem Sim.drew (R : Nat → Prop) (L : Nat) (w : World) : Sim R L w w.drew := ⟨rfl, rfl, rfl, Nat.le_refl _, fun _ _ _ => rfl, fun b vs ty _ h => ⟨vs, h, rfl, fun j x y h1 h2 => .inl (by rw [h1] at h2; cases h2; rfl)⟩⟩

theorem Sim.set {R : Nat → Prop} {L : Nat} {w : World} {b o : Nat} {x y : Value} (hr : R b) (hx : w.cell? ⟨b, o, none⟩ = some x) (hxy : SimV L x y) : Sim R L w (w.setCell ⟨b, o, none⟩ y) := by
  refine ⟨rfl, rfl, rfl, by simp [World.setCell], fun k _ hk => ?_, fun k vs ty _ hk => ?_⟩
  · have : b ≠ k := fun e => hk (e ▸ hr)
    simp [World.setCell, Array.getElem?_modify, this]
  · by_cases e : b = k
    · subst e
      refine ⟨vs.setIfInBounds o y, by simp [World.setCell, Array.getElem?_modify, hk], by simp, fun j u v hu hv => ?_⟩
      rw [Array.getElem?_setIfInBounds] at hv
      split at hv
      · rename_i e2; subst e2
        split at hv
        · cases hv
          have : vs[o]? = some x := by
            have h2 := hx
            rw [cell_of_row hk] at h2; exact h2
          rw [this] at hu; cases hu
          exact hxy
        · cases hv
      · rw [hu] at hv; cases hv; exact .inl rfl
    · exact ⟨vs, by simp [World.setCell, Array.getElem?_modify, e, hk], rfl, fun j u v hu hv => .inl (by rw [hu] at hv; cases hv; rfl)⟩

theorem Sim.cell {R : Nat → Prop} {L : Nat} {w w' : World} (h : Sim R L w w') {b o : Nat} (hb : b < w.heap.size) (hr : ¬ R b) : w'.cell? ⟨b, o, none⟩ = w.cell? ⟨b, o, none⟩ := World.cell?_of_block (h.other b hb hr)

theorem sum_take_map (f : V → Nat) (l : List V) (i : Nat) (h : i < l.length) : ((l.take (i + 1)).map f).sum = ((l.take i).map f).sum + f (l.getD i default) := by
  have e : l.getD i default = l[i] := by simp [List.getD, h]
  rw [List.take_succ_eq_append_getElem h, List.map_append, List.sum_append, e]
  rfl
theorem sum_take_mapF (f : ByteArray × V → Nat) (l : List (ByteArray × V)) (i : Nat) (h : i < l.length) : ((l.take (i + 1)).map f).sum = ((l.take i).map f).sum + f (l.getD i default) := by
  have e : l.getD i default = l[i] := by simp [List.getD, h]
  rw [List.take_succ_eq_append_getElem h, List.map_append, List.sum_append, e]
  rfl
theorem sum_take_leN {α : Type} (f : α → Nat) (l : List α) (i : Nat) : ((l.take i).map f).sum ≤ (l.map f).sum := by
  conv => rhs; rw [← List.take_append_drop i l, List.map_append, List.sum_append]
  omega

theorem ShC.six {w : World} {R : Nat → Prop} {L d : Nat} {v : V} {cs : List Value} (h : ShC w R L d v cs) : ∃ k i s t sl sf, cs = [.int .i64 k, .int .i64 i, .int .i64 s, .string t, sl, sf] ∧ t.size ≤ L := by
  cases d with
  | zero => exact h.elim
  | succ d => obtain ⟨k, i, s, t, sl, sf, h1, h2, _⟩ := h; exact ⟨k, i, s, t, sl, sf, h1, h2⟩

theorem ShS.len {w : World} {R : Nat → Prop} {sz n : Nat} {P : Nat → List Value → Prop} {v : Value} (h : ShS w R sz n P v) : ∃ p cap, v = .slice p n cap := by
  rcases h with ⟨rfl, p, cap, rfl⟩ | ⟨b, o, cap, vs, ty, rfl, _⟩ <;> exact ⟨_, _, rfl⟩

def PokeAt (d : Nat) : Prop := ∀ (v : V) (R : Nat → Prop) (L : Nat) (cs : List Value) (w : World), ShC w R L d v cs → (∀ b, R b → b < w.heap.size) → L + tot d v < 9223372036854775807 →
    Calls Tryd.prog 25 #[.agg cs.toArray] w fun e w' => e = .returned (.tuple #[]) ∧ Sim R (L + tot d v) w w'

theorem row_cell {w : World} {b o i sz j : Nat} {vs : Array Value} {ty : TypeId} {r : List Value} {x : Value} (hb : w.heap[b]? = some (.cells vs ty (0, 0))) (hr : (vs.toList.drop (o + i * sz)).take sz = r) (hx : r[j]? = some x) : w.cell? ⟨b, o + i * sz + j, none⟩ = some x := by
  rw [cell_of_row hb]
  rw [← hr, List.getElem?_take] at hx
  split at hx
  · rw [List.getElem?_drop] at hx
    simpa using hx
  · cases hx

theorem loop25a_ok (d : Nat) (IH : PokeAt d) (R : Nat → Prop) (L b1 : Nat) (sl : Value) (l : List V) (W1 : World) (a0 : Act) (hl : ShS W1 R 6 l.length (fun i r => ShC W1 R L d (l.getD i default) r) sl) (hR : ∀ b, R b → b < W1.heap.size) (hb1 : ¬ R b1) (hb1' : b1 < W1.heap.size)
    (hc : W1.cell? ⟨b1, 4, none⟩ = some sl) (hL : L + (l.map fun x => tot d x + 1).sum < 9223372036854775807) (hfr : Fr25 b1 2 0 a0) {Q : Exit → Act → World → Prop}
    (hQ : ∀ a' w', a'.defers = [] → a'.tmps.size = 81 → a'.tmps.getD 1 undef = .pointer (some ⟨b1, 0, none⟩) → Sim R (L + (l.map fun x => tot d x + 1).sum) W1 w' → Q (.exit 0) a' w') : (Code.loop loop25a).wp Tryd.prog Q a0 W1 := by
  refine wp_loop (fun a w' => ∃ i, i ≤ l.length ∧ Fr25 b1 2 i a ∧ Sim R (L + ((l.take i).map fun x => tot d x + 1).sum) W1 w') (fun a _ => l.length - (RowKit.intOf (a.tmps.getD 2 undef)).toNat) ⟨0, Nat.zero_le _, hfr, Sim.refl _ _ _⟩ ?_
  rintro a w ⟨i, hi, hfr, hsim⟩
  have hsl : w.cell? ⟨b1, 4, none⟩ = some sl := (hsim.cell hb1' hb1).trans hc
  by_cases hlt : i < l.length
  · have hls := hl.sim hsim (P' := fun i r => ShC w R (L + ((l.take i).map fun x => tot d x + 1).sum + 0) d (l.getD i default) r ∨ True) fun i r r' _ _ _ _ => .inr trivial
    clear hls
    have hl2 : ShS w R 6 l.length (fun j r => ShC w R (L + ((l.take i).map fun x => tot d x + 1).sum) d (l.getD j default) r) sl := hl.sim hsim fun j r r' _ hp hlen hr => ShC.sim hsim (by omega) d _ r r' hp hlen hr
    have hsum := sum_take_map (fun x => tot d x + 1) l i hlt
    have hsum2 := sum_take_leN (fun x => tot d x + 1) l (i + 1)
    obtain ⟨Li, hLi⟩ : ∃ Li, Li = L + ((l.take i).map fun x => tot d x + 1).sum := ⟨_, rfl⟩
    rw [← hLi] at hl2 hsim
    rcases hl2 with ⟨h0, _⟩ | ⟨b, o, cap, vs, ty, rfl, hr, hb, hsz, hn63, hel⟩
    · omega
    obtain ⟨r, hrr⟩ : ∃ r, r = (vs.toList.drop (o + i * 6)).take 6 := ⟨_, rfl⟩
    have hel' := hel i hlt
    rw [← hrr] at hel'
    obtain ⟨k, i2, s, t, sl', sf', hr6, ht⟩ := hel'.six
    have hRw : ∀ b, R b → b < w.heap.size := fun b h => Nat.lt_of_lt_of_le (hR b h) hsim.size
    have hcall := IH _ R Li r w hel' hRw (by omega)
    subst hr6
    have hcell : ∀ j x, ([.int .i64 k, .int .i64 i2, .int .i64 s, .string t, sl', sf'] : List Value)[j]? = some x → w.cell? ⟨b, o + i * 6 + j, none⟩ = some x := fun j x hx => row_cell hb hrr.symm hx
    refine loop25a_round b1 i l.length b o cap _ _ _ _ _ _ a w (fun w1 => Sim R (Li + tot d (l.getD i default)) w w1) hfr (fun e => hb1 (e ▸ hr)) hsl hlt hn63 (hcell 0 _ rfl) (hcell 1 _ rfl) (hcell 2 _ rfl) (hcell 3 _ rfl) (hcell 4 _ rfl) (hcell 5 _ rfl) hcall (fun w1 hp => ?_) (fun a' w1 k' s' hp hk hs hfr' => ?_)
    · obtain ⟨vs', g1, g2, g3⟩ := hp.rows b vs ty hr hb
      have hrow : ShC w1 R (Li + tot d (l.getD i default)) d (l.getD i default) ((vs'.toList.drop (o + i * 6)).take 6) := by
        refine ShC.sim hp (by omega) d _ _ _ hel' (by rw [hrr]; simp [g2]) fun j x y hx hy => ?_
        rw [hrr, List.getElem?_take] at hx
        rw [List.getElem?_take] at hy
        split at hx
        · rename_i hj
          rw [if_pos hj, List.getElem?_drop] at hy
          rw [List.getElem?_drop] at hx
          exact g3 _ x y (by simpa using hx) (by simpa using hy)
        · cases hx
      obtain ⟨k', i', s', t', _, _, hr6', ht'⟩ := hrow.six
      refine ⟨(hp.cell (by have := hsim.size; omega) hb1).trans hsl, k', t', row_cell (j := 0) g1 hr6' rfl, row_cell (j := 3) g1 hr6' rfl, by omega, fun q => by simp [World.frozen?, g1]⟩
    · have hsz' : s'.size + 1 ≤ Li + tot d (l.getD i default) + 1 := by
        obtain ⟨vs', g1, g2, g3⟩ := hp.rows b vs ty hr hb
        have hrow : ShC w1 R (Li + tot d (l.getD i default)) d (l.getD i default) ((vs'.toList.drop (o + i * 6)).take 6) := by
          refine ShC.sim hp (by omega) d _ _ _ hel' (by rw [hrr]; simp [g2]) fun j x y hx hy => ?_
          rw [hrr, List.getElem?_take] at hx
          rw [List.getElem?_take] at hy
          split at hx
          · rename_i hj
            rw [if_pos hj, List.getElem?_drop] at hy
            rw [List.getElem?_drop] at hx
            exact g3 _ x y (by simpa using hx) (by simpa using hy)
          · cases hx
        obtain ⟨k', i', s2, t', _, _, hr6', ht'⟩ := hrow.six
        have := row_cell (j := 3) g1 hr6' rfl
        rw [hs] at this; cases this; omega
      refine ⟨⟨i + 1, hlt, hfr', ?_⟩, ?_⟩
      · rw [hsum]
        refine ((hsim.mono (by omega)).trans (hp.mono (by omega))).trans ?_
        refine (Sim.drew R _ w1).trans ((Sim.set (w := w1.drew) hr (x := .int .i64 k') hk (.inr (.inl ⟨_, _, rfl, rfl⟩))).trans (Sim.set hr (x := .string s') ?_ (.inr (.inr ⟨_, _, rfl, rfl, ?_⟩))))
        · exact (cell_set_off _ _ _ _ _ (by omega)).trans hs
        · show (s' ++ { data := #[120] }).size ≤ _
          rw [ByteArray.size_append]
          show s'.size + 1 ≤ _
          omega
      · show l.length - _ < l.length - _
        rw [hfr'.st, hfr.st]
        show l.length - (((i + 1 : Nat) : Int)).toNat < l.length - ((i : Int)).toNat
        omega
  · have hie : i = l.length := by omega
    subst hie
    refine loop25a_end b1 _ l.length sl a w hfr hsl hl.len (by omega) fun a' h1 h2 h3 => ?_
    rw [List.take_length] at hsim
    exact hQ a' w h1 h2 h3 hsim

theorem loop25b_ok (d : Nat) (IH : PokeAt d) (R : Nat → Prop) (L b1 : Nat) (sl : Value) (l : List (ByteArray × V)) (W1 : World) (a0 : Act) (hl : ShS W1 R 7 l.length (fun i r => ∃ nm r', r = Value.string nm :: r' ∧ nm.size ≤ L ∧ ShC W1 R L d (l.getD i default).2 r') sl) (hR : ∀ b, R b → b < W1.heap.size) (hb1 : ¬ R b1) (hb1' : b1 < W1.heap.size)
    (hc : W1.cell? ⟨b1, 5, none⟩ = some sl) (hL : L + (l.map fun x => tot d x.2 + 1).sum < 9223372036854775807) (hfr : Fr25 b1 3 0 a0) {Q : Exit → Act → World → Prop}
    (hQ : ∀ a' w', a'.defers = [] → a'.tmps.size = 81 → a'.tmps.getD 1 undef = .pointer (some ⟨b1, 0, none⟩) → Sim R (L + (l.map fun x => tot d x.2 + 1).sum) W1 w' → Q (.exit 2) a' w') : (Code.loop loop25b).wp Tryd.prog Q a0 W1 := by
  have simrow : ∀ {w w' : World} {L L' : Nat} {x : V} {r r' : List Value}, Sim R L' w w' → L ≤ L' → (∃ nm q, r = Value.string nm :: q ∧ nm.size ≤ L ∧ ShC w R L d x q) → r'.length = r.length → (∀ (j : Nat) x y, r[j]? = some x → r'[j]? = some y → SimV L' x y) → ∃ nm q, r' = Value.string nm :: q ∧ nm.size ≤ L' ∧ ShC w' R L' d x q := by
    intro w w' L L' x r r' hs hl hp hlen hr
    obtain ⟨nm, q, rfl, hnm, hq⟩ := hp
    match r', hlen with
    | y :: q', hlen =>
      have h0 := hr 0 _ _ rfl rfl
      have : ∃ nm', y = .string nm' ∧ nm'.size ≤ L' := by
        rcases h0 with rfl | ⟨_, m, h, _⟩ | ⟨_, u, _, rfl, hu⟩
        · exact ⟨_, rfl, Nat.le_trans hnm hl⟩
        · cases h
        · exact ⟨_, rfl, hu⟩
      obtain ⟨nm', rfl, hnm'⟩ := this
      exact ⟨nm', q', rfl, hnm', ShC.sim hs hl d _ q q' hq (by simpa using hlen) fun j x y h1 h2 => hr (j + 1) x y h1 h2⟩
  refine wp_loop (fun a w' => ∃ i, i ≤ l.length ∧ Fr25 b1 3 i a ∧ Sim R (L + ((l.take i).map fun x => tot d x.2 + 1).sum) W1 w') (fun a _ => l.length - (RowKit.intOf (a.tmps.getD 3 undef)).toNat) ⟨0, Nat.zero_le _, hfr, Sim.refl _ _ _⟩ ?_
  rintro a w ⟨i, hi, hfr, hsim⟩
  have hsl : w.cell? ⟨b1, 5, none⟩ = some sl := (hsim.cell hb1' hb1).trans hc
  by_cases hlt : i < l.length
  · have hl2 : ShS w R 7 l.length (fun j r => ∃ nm r', r = Value.string nm :: r' ∧ nm.size ≤ L + ((l.take i).map fun x => tot d x.2 + 1).sum ∧ ShC w R (L + ((l.take i).map fun x => tot d x.2 + 1).sum) d (l.getD j default).2 r') sl := hl.sim hsim fun j r r' _ hp hlen hr => simrow hsim (by omega) hp hlen hr
    have hsum := sum_take_mapF (fun x => tot d x.2 + 1) l i hlt
    have hsum2 := sum_take_leN (fun x : ByteArray × V => tot d x.2 + 1) l (i + 1)
    obtain ⟨Li, hLi⟩ : ∃ Li, Li = L + ((l.take i).map fun x => tot d x.2 + 1).sum := ⟨_, rfl⟩
    rw [← hLi] at hl2 hsim
    rcases hl2 with ⟨h0, _⟩ | ⟨b, o, cap, vs, ty, rfl, hr, hb, hsz, hn63, hel⟩
    · omega
    obtain ⟨r, hrr⟩ : ∃ r, r = (vs.toList.drop (o + i * 7)).take 7 := ⟨_, rfl⟩
    have hel' := hel i hlt
    rw [← hrr] at hel'
    have hel2 := hel'
    obtain ⟨nm, q, hrq, hnm, hq⟩ := hel'
    obtain ⟨k, i2, s, t, sl', sf', hr6, ht⟩ := hq.six
    have hRw : ∀ b, R b → b < w.heap.size := fun b h => Nat.lt_of_lt_of_le (hR b h) hsim.size
    have hcall := IH _ R Li q w hq hRw (by omega)
    subst hr6
    have hcell : ∀ j x, (Value.string nm :: [.int .i64 k, .int .i64 i2, .int .i64 s, .string t, sl', sf'] : List Value)[j]? = some x → w.cell? ⟨b, o + i * 7 + j, none⟩ = some x := fun j x hx => row_cell hb (hrr.symm.trans hrq) hx
    have hafter : ∀ w1, Sim R (Li + tot d (l.getD i default).2) w w1 → ∃ k' s', w1.cell? ⟨b, o + i * 7 + 1, none⟩ = some (.int .i64 k') ∧ w1.cell? ⟨b, o + i * 7, none⟩ = some (.string s') ∧ s'.size ≤ Li + tot d (l.getD i default).2 ∧ ∀ q, w1.frozen? ⟨b, q, none⟩ = false := by
      intro w1 hp
      obtain ⟨vs', g1, g2, g3⟩ := hp.rows b vs ty hr hb
      have hrow : ∃ nm q, (vs'.toList.drop (o + i * 7)).take 7 = Value.string nm :: q ∧ nm.size ≤ Li + tot d (l.getD i default).2 ∧ ShC w1 R (Li + tot d (l.getD i default).2) d (l.getD i default).2 q := by
        refine simrow hp (by omega) hel2 (by rw [hrr]; simp [g2]) fun j x y hx hy => ?_
        rw [hrr, List.getElem?_take] at hx
        rw [List.getElem?_take] at hy
        split at hx
        · rename_i hj
          rw [if_pos hj, List.getElem?_drop] at hy
          rw [List.getElem?_drop] at hx
          exact g3 _ x y (by simpa using hx) (by simpa using hy)
        · cases hx
      obtain ⟨nm', q', e1, e2, e3⟩ := hrow
      obtain ⟨k', i', s', t', _, _, hr6', ht'⟩ := e3.six
      subst hr6'
      exact ⟨k', nm', row_cell (j := 1) g1 e1 rfl, row_cell (j := 0) g1 e1 rfl, e2, fun q => by simp [World.frozen?, g1]⟩
    refine loop25b_round b1 i l.length b o cap _ _ _ _ _ _ a w (fun w1 => Sim R (Li + tot d (l.getD i default).2) w w1) hfr (fun e => hb1 (e ▸ hr)) hsl hlt hn63 (hcell 1 _ rfl) (hcell 2 _ rfl) (hcell 3 _ rfl) (hcell 4 _ rfl) (hcell 5 _ rfl) (hcell 6 _ rfl) hcall (fun w1 hp => ?_) (fun a' w1 k' s' hp hk hs hfr' => ?_)
    · obtain ⟨k', s', g1, g2, g3, g4⟩ := hafter w1 hp
      exact ⟨(hp.cell (by have := hsim.size; omega) hb1).trans hsl, k', s', g1, g2, by omega, g4⟩
    · obtain ⟨k2, s2, g1, g2, g3, g4⟩ := hafter w1 hp
      rw [hs] at g2; cases g2
      refine ⟨⟨i + 1, hlt, hfr', ?_⟩, ?_⟩
      · rw [hsum]
        refine ((hsim.mono (by omega)).trans (hp.mono (by omega))).trans ?_
        refine (Sim.drew R _ w1).trans ((Sim.set (w := w1.drew) hr (x := .string s') hs (.inr (.inr ⟨_, _, rfl, rfl, ?_⟩))).trans (Sim.set hr (x := .int .i64 k') ?_ (.inr (.inl ⟨_, _, rfl, rfl⟩))))
        · show (s' ++ { data := #[120] }).size ≤ _
          rw [ByteArray.size_append]
          show s'.size + 1 ≤ _
          omega
        · exact (cell_set_off _ _ _ _ _ (by omega)).trans hk
      · show l.length - _ < l.length - _
        rw [hfr'.st, hfr.st]
        show l.length - (((i + 1 : Nat) : Int)).toNat < l.length - ((i : Int)).toNat
        omega
  · have hie : i = l.length := by omega
    subst hie
    refine loop25b_end b1 _ l.length sl a w hfr hsl hl.len (by omega) fun a' h1 h2 h3 => ?_
    rw [List.take_length] at hsim
    exact hQ a' w h1 h2 h3 hsim

theorem poke_ok : ∀ (d : Nat), PokeAt d
  | 0, _, _, _, _, _, h, _, _ => h.elim
  | d + 1, v, R, L, cs, w, h, hR, hL => by
    obtain ⟨k0, i0, s0, t0, sl, sf, rfl, ht0, hl, hf⟩ := h
    refine calls_of_wp Tryd.func25 rfl ?_
    refine wp_seq ?_
    go_wp2
    rename_i Q' K hKQ
    obtain ⟨W1, hW1⟩ : ∃ W1, W1 = w.alloc (Obj.cells #[Value.int IntKind.i64 k0, Value.int IntKind.i64 i0, Value.int IntKind.i64 s0, Value.string t0, sl, sf] 25) := ⟨_, rfl⟩
    rw [← hW1]
    obtain ⟨b1, hb1⟩ : ∃ b1, b1 = w.heap.size := ⟨_, rfl⟩
    rw [← hb1]
    have hRb : ¬ R b1 := fun h => by have := hR _ h; omega
    have hs1 : W1.heap.size = b1 + 1 := by rw [hW1, hb1]; exact Array.size_push ..
    have hbx : W1.heap[b1]? = some (.cells #[Value.int IntKind.i64 k0, Value.int IntKind.i64 i0, Value.int IntKind.i64 s0, Value.string t0, sl, sf] 25 (0, 0)) := by
      rw [hW1, hb1]; show (w.heap.push _)[w.heap.size]? = _; exact Array.getElem?_push_size ..
    have hg1 : Sim R L w W1 := Sim.grow hR (by rw [hW1]; rfl) (by rw [hW1]; rfl) (by rw [hW1]; rfl) (by omega) (fun b hb => by rw [hW1]; exact Below.heap_alloc w _ b hb)
    clear hW1 hb1
    have hRw : ∀ b, R b → b < W1.heap.size := fun b h => Nat.lt_of_lt_of_le (hR b h) hg1.size
    have htot : tot (d + 1) v = (v.list.map fun x => tot d x + 1).sum + (v.fields.map fun x => tot d x.2 + 1).sum := rfl
    have hl1 : ShS W1 R 6 v.list.length (fun i r => ShC W1 R L d (v.list.getD i default) r) sl := hl.sim hg1 fun j r r' _ hp hlen hr => ShC.sim hg1 (Nat.le_refl _) d _ r r' hp hlen hr
    refine loop25a_ok d (poke_ok d) R L b1 sl v.list W1 _ hl1 hRw hRb (by omega) (by rw [cell_of_row hbx]; rfl) (by omega) ⟨rfl, by simp, by simp, by simp⟩ fun a' w' h1 h2 h3 hsim => ?_
    have hbx2 : w'.heap[b1]? = some (.cells #[Value.int IntKind.i64 k0, Value.int IntKind.i64 i0, Value.int IntKind.i64 s0, Value.string t0, sl, sf] 25 (0, 0)) := (hsim.other b1 (by omega) hRb).trans hbx
    have hcx := hbx2
    have hl2 : ShS w' R 7 v.fields.length (fun i r => ∃ nm r', r = Value.string nm :: r' ∧ nm.size ≤ L + (v.list.map fun x => tot d x + 1).sum ∧ ShC w' R (L + (v.list.map fun x => tot d x + 1).sum) d (v.fields.getD i default).2 r') sf := by
      refine hf.sim ((hg1.mono (by omega)).trans hsim) fun i r r' _ hp hlen hr => ?_
      obtain ⟨nm, q, rfl, hnm, hq⟩ := hp
      match r', hlen with
      | y :: q', hlen =>
        have h0 := hr 0 _ _ rfl rfl
        have : ∃ nm', y = .string nm' ∧ nm'.size ≤ L + (v.list.map fun x => tot d x + 1).sum := by
          rcases h0 with rfl | ⟨_, m, h, _⟩ | ⟨_, u, _, rfl, hu⟩
          · exact ⟨_, rfl, by omega⟩
          · cases h
          · exact ⟨_, rfl, hu⟩
        obtain ⟨nm', rfl, hnm'⟩ := this
        exact ⟨nm', q', rfl, hnm', ShC.sim ((hg1.mono (by omega)).trans hsim) (by omega) d _ q q' hq (by simpa using hlen) fun j x y h1 h2 => hr (j + 1) x y h1 h2⟩
    have hc5 : w'.cell? ⟨b1, 5, none⟩ = some sf := by rw [cell_of_row hbx2]; rfl
    have hfin : ∀ w'', Sim R (L + (v.list.map fun x => tot d x + 1).sum + (v.fields.map fun x => tot d x.2 + 1).sum) w' w'' → Sim R (L + tot (d + 1) v) w w'' := fun w'' h => by
      rw [htot, ← Nat.add_assoc]
      exact ((hg1.mono (by omega)).trans (hsim.mono (by omega))).trans h
    clear hbx2
    refine hKQ _ _ ?_
    obtain ⟨tm', df'⟩ := a'
    simp only at h1 h2 h3
    subst h1
    obtain ⟨x0, x1, x2, x3, x4, x5, x6, x7, x8, x9, x10, x11, x12, x13, x14, x15, x16, x17, x18, x19, x20, x21, x22, x23, x24, x25, x26, x27, x28, x29, x30, x31, x32, x33, x34, x35, x36, x37, x38, x39, x40, x41, x42, x43, x44, x45, x46, x47, x48, x49, x50, x51, x52, x53, x54, x55, x56, x57, x58, x59, x60, x61, x62, x63, x64, x65, x66, x67, x68, x69, x70, x71, x72, x73, x74, x75, x76, x77, x78, x79, x80, rfl⟩ := lit81 tm' h2
    obtain rfl : x1 = _ := h3
    clear h2 hbx hcx
    refine wp_seq ?_
    go_wp2
    refine loop25b_ok d (poke_ok d) R _ b1 sf v.fields w' _ hl2 (fun b h => Nat.lt_of_lt_of_le (hRw b h) hsim.size) hRb (by have := hsim.size; omega) hc5 (by omega) ⟨rfl, rfl, rfl, rfl⟩ fun a' w'' h1 h2 h3 hsim2 => ?_
    have hgoal : bodyPost Tryd.prog Tryd.f25 (fun e w' => e = Ending.returned (Value.tuple #[]) ∧ Sim R (L + tot (d + 1) v) w w') .normal a' w'' :=
      bodyPost_end (results_none rfl _ _ _) h1 ⟨rfl, hfin _ hsim2⟩
    exact hgoal
end Go.Ai
