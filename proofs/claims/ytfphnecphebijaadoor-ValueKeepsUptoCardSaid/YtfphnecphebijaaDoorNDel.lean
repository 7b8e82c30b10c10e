/- slices.Delete at a record's fields, one field: what it does in memory, its contract. -/
import Derived.Test.YtfphnecphebijaaDoorNInsB
namespace Go.Ai
open Go Go.Proofs Go.RowKit Go.Lib
set_option maxRecDepth 100000
set_option maxHeartbeats 4000000

theorem wpList_clear_run {P : Program} (w : World) {ops : Array Oper} {rest : List Oper} {o : Oper} {a : Act} {Q : Exit → Act → World → Prop} (hgd : o.guard = none) (d : Operand) (t : TypeId)
    (ho : o.op = .call { callee := .builtin .clear, args := #[d], argTypes := #[t] }) (v : Value) (hd : a.eval d = v) {v' : Value} {w' : World}
    (hr : (Builtin.clear_ #[t] o.type #[v]).run P w = .ok v' w') (h : wpList P ops Q rest (a.put o.dst v') w') : wpList P ops Q (o :: rest) a w :=
  wpList_plain hgd fun _ hK => by
    unfold Oper.wp execOp
    simp only [ho, resolve, invoke, builtin, Sem.run_bind, Sem.run_pure, Result.andThen_ok, List.map_toArray, List.map_cons, List.map_nil, hd, hr]
    exact hK _ _ h

theorem step_append_runI {P : Program} {ops : Array Oper} {o : Oper} {a : Act} {w : World} {K : Act → World → Prop} {Q : Exit → Act → World → Prop} {E : Prop}
    (hg : o.guard = none) (d x : Operand) (dT sT : TypeId) (hop : o.op = Op.call { callee := Callee.builtin Builtin.append, args := #[d, x], argTypes := #[dT, sT] })
    (v u : Value) (hd : a.eval d = v) (hx : a.eval x = u) {v' : Value} {w' : World} (hr : (Builtin.append_ #[dT, sT] o.type #[v, u]).run P w = .ok v' w') (hK : K (a.put o.dst v') w') :
    if Region.wanted o (yielded ops a.tmps) = true then Oper.wp P o a w K Q else E := by
  have hw : Region.wanted o (yielded ops a.tmps) = true := by simp [Region.wanted, hg]
  rw [if_pos hw]
  unfold Oper.wp
  simp [execOp, hop, resolve, invoke, builtin, hd, hx, hr, Result.andThen]
  exact hK

def delRow (cur : Array Value) (z : Array Value) (i n : Nat) : Array Value := part (part cur (i * 7) (seg cur ((i + 1) * 7) ((n - i - 1) * 7))) ((n - 1) * 7) (Builtin.zeroCells z 1).toList

theorem zc_one (z : Array Value) (h : z.size = 7) : (Builtin.zeroCells z 1).toList.length = 7 := by rw [Array.length_toList, size_zc, h]

theorem Del_raw (b n c i : Nat) (cur : Array Value) (w : World) (hi : i < n) (hc : n ≤ c) (hc63 : c ≤ 9223372036854775807)
    (hb : w.heap[b]? = some (.cells cur 41 (0, 0))) (hsz : cur.size = c * 7) (h1c : ∀ j v, j < n * 7 → cur[j]? = some v → v.oneCell' = true) :
    ∃ z : Array Value, z.size = 7 ∧ Calls Tryd.prog 70 #[.slice (some ⟨b, 0, none⟩) n c, .int .i64 i, .int .i64 ((i : Int) + 1)] w fun e w' =>
      e = .returned (.slice (some ⟨b, 0, none⟩) (n - 1) c) ∧ w' = w.drew.setRow b (delRow cur z i n) := by
  obtain ⟨i0, z, hi0, hs, hb2, hz, hzs⟩ := info41
  have hz1 : ∀ v ∈ z.cells.toList, v.oneCell' = true := by
    have : ((Tryd.prog.info? 41).bind (·.zero)).map (fun z => z.cells.toList.all Value.oneCell') = some true := by kernel_rfl
    rw [hi0] at this
    simp only [Option.bind_some, hz, Option.map_some, Option.some.injEq, List.all_eq_true] at this
    exact this
  refine ⟨z.cells, hzs, ?_⟩
  have hcs : (seg cur ((i + 1) * 7) ((n - i - 1) * 7)).length = (n - i - 1) * 7 := seg_len (by omega)
  have happ : ∀ ty p cc, (p = ⟨b, (i + 1) * 7, none⟩ ∨ n - i - 1 = 0) → (Builtin.append_ #[23, 23] ty #[.slice (some ⟨b, 0, none⟩) i c, .slice (some p) (n - (i + 1)) cc]).run Tryd.prog w.drew = .ok (.slice (some ⟨b, 0, none⟩) (n - 1) c) (w.drew.setRow b (part cur (i * 7) (seg cur ((i + 1) * 7) ((n - i - 1) * 7)))) := fun ty p cc hp => by
    have hnn : n - (i + 1) = n - i - 1 := by omega
    rw [hnn]
    have := append_room_run (P := Tryd.prog) (ty := ty) (w := w.drew) Tryd.underlying23 Tryd.underlying23 (.inl ⟨41, rfl⟩) hi0 (g := b) (n := i) (cap := c) (m := n - i - 1) (x := .slice (some p) (n - i - 1) cc) (cur := cur) (news := seg cur ((i + 1) * 7) ((n - i - 1) * 7)) hb (fun w' => lenOf_slice _ _ _)
      (by
        rw [hs]
        rcases hp with rfl | h0
        · exact run_firstCells_some _ 7 (n - i - 1) ⟨b, (i + 1) * 7, none⟩ _ cc _ (by rw [hcs]) (fun j v hj => by rw [Addr.add_lit, cell_of_row (w := w.drew) hb]; rw [seg_get] at hj; split at hj; exact hj; cases hj)
        · rw [h0]; simp [seg, Builtin.firstCells, loadCells, loadCellsFrom])
      (seg_one h1c (by omega)) (by omega) (by rw [hs, hcs]; omega)
    rw [hs, show i + (n - i - 1) = n - 1 by omega] at this
    exact this
  obtain ⟨W1, hW1⟩ : ∃ W1, W1 = w.drew.setRow b (part cur (i * 7) (seg cur ((i + 1) * 7) ((n - i - 1) * 7))) := ⟨_, rfl⟩
  have hb1 : W1.heap[b]? = some (.cells (part cur (i * 7) (seg cur ((i + 1) * 7) ((n - i - 1) * 7))) 41 (0, 0)) := by rw [hW1]; exact setRow_heap w.drew b cur _ 41 (0, 0) hb
  have hps : (part cur (i * 7) (seg cur ((i + 1) * 7) ((n - i - 1) * 7))).size = cur.size := part_size (by rw [hcs]; omega)
  have hzl := zc_one z.cells hzs
  have hclr : ∀ ty cc, (Builtin.clear_ #[23] ty #[.slice (some ⟨b, (n - 1) * 7, none⟩) 1 cc]).run Tryd.prog W1 = .ok (.tuple #[]) (W1.setRow b (delRow cur z.cells i n)) := fun ty cc => by
    have hst := run_storeCells_at Tryd.prog b ((n - 1) * 7) 41 (Builtin.zeroCells z.cells 1).toList 0 _ W1 hb1 (by rw [hzl, hps]; omega) (fun v hv => by
      simp only [Builtin.zeroCells, Array.toList_map, List.mem_map] at hv
      obtain ⟨k, hk, rfl⟩ := hv
      have hk2 : k < z.cells.size := by
        have := Array.mem_toList_iff.1 hk
        simpa [hzs] using this
      refine hz1 _ ?_
      rw [Nat.mod_eq_of_lt hk2, getElem!_pos z.cells k hk2]
      exact Array.mem_toList_iff.2 (Array.getElem_mem hk2))
    simp only [Nat.add_zero] at hst
    have hzv : ∀ w : World, (zeroValue 41).run Tryd.prog w = .ok z w := fun w => by simp [zeroValue, typeInfo, hi0, hz]
    simp only [Builtin.clear_]
    simp [run_underlying Tryd.underlying23, hzv, hst, delRow, part]
  rw [hW1] at hclr
  rw [← hW1] at happ
  have hw1 : IntKind.i64.wrap ((i : Int) + 1) = (i : Int) + 1 := by rw [IntKind.wrap_i64]; omega
  have hne : ¬ ((i : Int) = (i : Int) + 1) := by omega
  have h2 : (i : Int) ≤ (i : Int) + 1 := by omega
  have h3 : (i : Int) + 1 ≤ (n : Int) := by omega
  have h4 : (0 : Int) ≤ (i : Int) + 1 := by omega
  have h5 : ((i : Int) + 1).toNat = i + 1 := by omega
  have hin : i ≤ n := by omega
  have hic : (i : Int) ≤ (c : Int) := by omega
  have hnc2 : (n : Int) ≤ (c : Int) := by omega
  have hn1 : ((n - 1 : Nat) : Int) ≤ (n : Int) := by omega
  have hnn2 : n - (n - 1) = 1 := by omega
  have mixed : Tryd.prog.follows .mixedOrders = true := by kernel_rfl
  generalize delRow cur z.cells i n = ROW at hclr ⊢
  refine Calls.mono ?_ fun e w' (h : e = .returned (.slice (some ⟨b, 0, none⟩) (n - 1) c) ∧ w' = W1.setRow b ROW) => ⟨h.1, by rw [h.2, hW1]; exact setRow_setRow _ _ _ _⟩
  by_cases hcc : c = i + 1
  · subst hcc
    obtain rfl : n = i + 1 := by omega
    have e0 : part cur (i * 7) (seg cur ((i + 1) * 7) ((i + 1 - i - 1) * 7)) = cur := by
      have : (i + 1 - i - 1) * 7 = 0 := by omega
      rw [this]; simp [part, seg]
    have e1 : w.drew.setRow b cur = w.drew := setRow_self w.drew b cur 41 (0, 0) hb
    rw [e0] at hclr hW1
    rw [e1] at hclr hW1
    simp only [Nat.add_sub_cancel] at hclr
    go_enter Tryd.func70, Tryd.ntmps70
    go_wp2
    go_region_law_o (refine step_append_runI rfl _ _ 23 23 rfl _ _ (by simp [Act.eval, Act.put]) (by simp [Act.eval, Act.put]) (happ _ _ _ (.inr (by omega))) ?_)
    go_wp2_with (simp only [hclr])
    all_goals go_ret
    all_goals exact ⟨rfl, by rw [hW1]⟩
  · go_enter Tryd.func70, Tryd.ntmps70
    go_wp2
    go_region_law_o (refine step_append_runI rfl _ _ 23 23 rfl _ _ (by simp [Act.eval, Act.put]) (by simp [Act.eval, Act.put]) (happ 23 ⟨b, (i + 1) * 7, none⟩ (c - (i + 1)) (.inl rfl)) ?_)
    go_wp2_with (simp only [hclr])
    all_goals go_ret
    all_goals exact ⟨rfl, by rw [hW1]⟩
end Go.Ai

namespace Go.Ai
open Go Go.Proofs
set_option maxRecDepth 100000
set_option maxHeartbeats 2000000

def delF (i : Nat) (f : (Unit → Nat) → List AV) : (Unit → Nat) → List AV := fun j => if j () < i then f j else f (fun _ => j () + 1)

theorem Delete_ok (n i : Nat) (x : Bool) (f : (Unit → Nat) → List AV) (hi : i < n) (hbig : n ≤ 1073741824) :
    AFun Tryd.prog 70 [.aref 1000 0 fun _ => n, .int .i64 fun _ => i, .int .i64 fun _ => (i : Int) + 1] [(1000, .arr x 41 7 0 (fun _ => n) f)] (.aref 1000 1 fun _ => n - 1) [(1000, .arr x 41 7 1 (fun _ => n - 1) (delF i f))] := by
  refine ⟨ent_of Tryd.func70 (by kernel_rfl) rfl, fun E β vs hpin hdf hY h0 => ?_⟩
  have hv0 := h0.tmps 0 _ rfl
  have hv1 := (h0.tmps 1 _ rfl).int_inv
  have hv2 := (h0.tmps 2 _ rfl).int_inv
  have hsz := h0.size
  obtain ⟨_, q0⟩ := hv0.aref_inv
  have e0 := (q0 _ _ _ _ _ _ rfl).2 rfl
  have hvs : vs = #[β 1000, .int .i64 i, .int .i64 ((i : Int) + 1)] := by
    apply Array.ext (by simpa using hsz)
    intro k h1 h2
    have h3 : k = 0 ∨ k = 1 ∨ k = 2 := by simp at h2; omega
    rcases h3 with rfl | rfl | rfl
    · have := e0.2; simpa [Array.getD_eq_getD_getElem?, h1] using this
    · simpa [Array.getD_eq_getD_getElem?, h1] using hv1
    · simpa [Array.getD_eq_getD_getElem?, h1] using hv2
  subst hvs
  have o0 := h0.objs 1000
  change OR E E.w0 β _ 1000 (.arr x 41 7 0 (fun _ => n) f) at o0
  rcases o0 with ⟨_, hz⟩ | ⟨b, c, cur, hβ, hh, hc1, hc2, hcsz, hx1, hown, hel⟩
  · simp only at hz; omega
  simp only at hc1 hel
  rw [hβ]
  obtain ⟨z, hzs, hcall⟩ := Del_raw b n c i cur E.w0 hi hc1 (by unfold maxLen at hc2; omega) hh hcsz (els_one hcsz hc1 hel)
  refine hcall.mono fun e w' ⟨he, hw⟩ => ?_
  have hl1 : (seg cur ((i + 1) * 7) ((n - i - 1) * 7)).length = (n - i - 1) * 7 := seg_len (by omega)
  have hp1 : i * 7 + (seg cur ((i + 1) * 7) ((n - i - 1) * 7)).length ≤ cur.size := by omega
  have hzl := zc_one z hzs
  have hp2 : (n - 1) * 7 + (Builtin.zeroCells z 1).toList.length ≤ (part cur (i * 7) (seg cur ((i + 1) * 7) ((n - i - 1) * 7))).size := by rw [part_size hp1, hzl]; omega
  refine ⟨_, upd β 1000 (.slice (some ⟨b, 0, none⟩) (n - 1) c), he, ?_⟩
  refine turn_end (o := 1000) (ver2 := 1) (n2 := fun _ => n - 1) (f2 := delF i f) h0 hdf rfl (by rw [hw]; rfl) (by rw [hw]; rfl) (by rw [hw]; rfl) (by rw [hw]; simp) (fun k hk hkb => by rw [hw]; exact setRow_other _ _ _ _ (fun e => hkb (by rw [hβ, e]; rfl))) (v := .slice (some ⟨b, 0, none⟩) (n - 1) c) (fun b' hb' => .inl (by rw [hβ]; exact hb')) (.inr (by omega)) (fun hrd => ?_) ?_
  · refine .inr ⟨b, c, delRow cur z i n, by simp [upd], by rw [hw]; exact setRow_heap _ _ _ _ _ _ hh, by show n - 1 ≤ c; omega, hc2, by unfold delRow; rw [part_size hp2, part_size hp1, hcsz], hx1, hown, fun k hk => ?_⟩
    have hk2 : k < n - 1 := hk
    have hg : ∀ q, q < 7 → (delRow cur z i n)[k * 7 + q]? = if k < i then cur[k * 7 + q]? else cur[(k + 1) * 7 + q]? := fun q hq => by
      unfold delRow
      rw [part_get hp2, part_get hp1, hzl, hl1, if_neg (by omega)]
      by_cases h : k < i
      · rw [if_neg (by omega), if_pos h]
      · rw [if_pos (by omega), if_neg h, seg_get, if_pos (by omega)]
        congr 1; omega
    unfold delF
    by_cases h : k < i
    · simp only [h, if_true]
      obtain ⟨a1, a2, a3⟩ := hel k (by omega)
      refine ⟨a1, a2, fun j av v hj hv => hrd _ _ (a3 j av v hj ?_)⟩
      have hj7 : j < 7 := by have := (List.getElem?_eq_some_iff.1 hj).1; omega
      rw [hg j hj7, if_pos h] at hv; exact hv
    · simp only [h, if_false]
      obtain ⟨a1, a2, a3⟩ := hel (k + 1) (by omega)
      refine ⟨a1, a2, fun j av v hj hv => hrd _ _ (a3 j av v hj ?_)⟩
      have hj7 : j < 7 := by have := (List.getElem?_eq_some_iff.1 hj).1; omega
      rw [hg j hj7, if_neg h] at hv; exact hv
  · exact .aref _ _ _ _ (.inr ⟨b, c, rfl, by show n - 1 ≤ c; omega, hc2⟩) (fun x t sz' ver' n' f hH => by simp [upd] at hH; obtain ⟨_, _, _, rfl, rfl, _⟩ := hH; exact ⟨Nat.le_refl _, fun _ => ⟨rfl, by simp [upd]⟩⟩)
end Go.Ai
