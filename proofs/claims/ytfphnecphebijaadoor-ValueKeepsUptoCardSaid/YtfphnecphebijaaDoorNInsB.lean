/- slices.Insert at a record's fields: its contract. -/
import Derived.Test.YtfphnecphebijaaDoorNIns
import Derived.Test.YtfphnecphebijaaDoorNEngB
import Derived.Test.YtfphnecphebijaaDoorNFnA
namespace Go.Ai
open Go Go.Proofs
set_option maxRecDepth 100000

theorem turn_end {E : Env} {args : List AV} {objs : List (Nat × AO)} {vs : Array Value} {w w' : World} {β : Nat → Value} (h0 : RelB E args (olook objs) ⟨vs, []⟩ w β) (hdf : E.df = [])
    {o : Nat} {x : Bool} {t sz ver : Nat} {n : Unit → Nat} {f : (Unit → Nat) → List AV} (hold : olook objs o = .arr x t sz ver n f) (hos : w'.os = w.os) (htape : w'.tape = w.tape) (hout : w'.output = w.output) (hsize : w.heap.size ≤ w'.heap.size)
    (hheap : ∀ b, b < w.heap.size → blkOf (β o) ≠ some b → w'.heap[b]? = w.heap[b]?) {ver2 : Nat} {n2 : Unit → Nat} {f2 : (Unit → Nat) → List AV} {v : Value}
    (hb : ∀ b, blkOf v = some b → blkOf (β o) = some b ∨ w.heap.size ≤ b) (hver : (ver2 = ver ∧ n2 () = n () ∧ v = β o) ∨ ver < ver2)
    (ho : (∀ av u, RD w (E.D w β (olook objs)) E.B av u → RD w' (E.D w' (upd β o v) (upd (olook objs) o (.arr x t sz ver2 n2 f2))) E.B av u) → OR E w' (upd β o v) (upd (olook objs) o (.arr x t sz ver2 n2 f2)) o (.arr x t sz ver2 n2 f2))
    {res : AV} {u : Value} (hres : RX w' (E.D w' (upd β o v) (upd (olook objs) o (.arr x t sz ver2 n2 f2))) E.B (upd β o v) (upd (olook objs) o (.arr x t sz ver2 n2 f2)) res u) :
    RelB E [res] (olook (oset objs o (.arr x t sz ver2 n2 f2))) ⟨#[u], []⟩ w' (upd β o v) ∧ Link (olook objs) β (olook (oset objs o (.arr x t sz ver2 n2 f2))) (upd β o v) := by
  have hself := h0.objs o
  rw [hold] at hself
  have hnp : ∀ b, β o = .pointer (some ⟨b, 0, none⟩) → False := fun b hb => by
    rcases hself with ⟨h1, _⟩ | ⟨g, cap, cur, h1, _⟩ <;> rw [h1] at hb <;> cases hb
  obtain ⟨h1, h2⟩ := RelB.turn (S := ⟨args, objs⟩) h0 (o := o) (by show (olook objs o).is; rw [hold]; trivial) hos htape hout hsize hheap (ob := .arr x t sz ver2 n2 f2) trivial (v := v) hb (fun b hb => (hnp b hb).elim)
    (fun x1 t1 sz1 ver1 n1 f1 hf => by
      replace hf : olook objs o = _ := hf
      rw [hold] at hf; cases hf
      exact ⟨_, _, _, rfl, hver⟩) (fun cs hcs => by replace hcs : olook objs o = _ := hcs; rw [hold] at hcs; cases hcs) (fun _ hrd => ho hrd)
  rw [olook_oset]
  refine ⟨⟨hdf.symm, rfl, fun k av hk => ?_, h1.objs, h1.apart, h1.frame, h1.pin⟩, fun o' hi => ?_⟩
  · cases k with
    | zero => simp at hk; subst hk; exact hres
    | succ k => simp at hk
  · by_cases e : o' = o
    · subst e
      refine ⟨(by simp [upd, AO.is]), (fun cs hcs => by rw [hold] at hcs; cases hcs), fun x1 t1 sz1 ver1 n1 f1 hf => ?_⟩
      rw [hold] at hf; cases hf
      refine ⟨ver2, n2, f2, by simp [upd], ?_⟩
      rcases hver with ⟨a, b, c⟩ | h
      · exact .inl ⟨a, b, by simp [upd, c]⟩
      · exact .inr h
    · have q1 : upd (olook objs) o (.arr x t sz ver2 n2 f2) o' = olook objs o' := by simp [upd, e]
      have q2 : upd β o v o' = β o' := by simp [upd, e]
      rw [q1, q2]
      exact ⟨hi, fun cs h => ⟨⟨cs, h⟩, rfl⟩, fun x t sz ver n f h => ⟨ver, n, f, h, .inl ⟨rfl, rfl, rfl⟩⟩⟩

def insF (i : Nat) (f g : (Unit → Nat) → List AV) : (Unit → Nat) → List AV := fun j => if j () < i then f j else if j () = i then g (fun _ => 0) else f (fun _ => j () - 1)

theorem ins_els {w : World} {D : Nat → Prop} {B n i : Nat} {f g : (Unit → Nat) → List AV} {cur vcur new : Array Value} (hi : i ≤ n)
    (hel : ∀ k, k < n → (f fun _ => k).length = 7 ∧ (f fun _ => k).all AV.cell = true ∧ ∀ (j : Nat) (av : AV) (v : Value), (f fun _ => k)[j]? = some av → cur[k * 7 + j]? = some v → RD w D B av v)
    (gel : (g fun _ => 0).length = 7 ∧ (g fun _ => 0).all AV.cell = true ∧ ∀ (j : Nat) (av : AV) (v : Value), (g fun _ => 0)[j]? = some av → vcur[j]? = some v → RD w D B av v)
    (hnew : ∀ k, k < (n + 1) * 7 → new[k]? = if k < i * 7 then cur[k]? else if k < i * 7 + 7 then vcur[k - i * 7]? else cur[k - 7]?) :
    ∀ k, k < n + 1 → (insF i f g fun _ => k).length = 7 ∧ (insF i f g fun _ => k).all AV.cell = true ∧ ∀ (j : Nat) (av : AV) (v : Value), (insF i f g fun _ => k)[j]? = some av → new[k * 7 + j]? = some v → RD w D B av v := by
  intro k hk
  unfold insF
  by_cases h1 : k < i
  · simp only [h1, if_true]
    obtain ⟨a, b, c⟩ := hel k (by omega)
    refine ⟨a, b, fun j av v hj hv => c j av v hj ?_⟩
    have : j < 7 := by have := (List.getElem?_eq_some_iff.1 hj).1; omega
    rw [hnew _ (by omega), if_pos (by omega)] at hv
    exact hv
  · by_cases h2 : k = i
    · simp only [h2, if_true, if_false, Nat.lt_irrefl]
      obtain ⟨a, b, c⟩ := gel
      refine ⟨a, b, fun j av v hj hv => c j av v hj ?_⟩
      have : j < 7 := by have := (List.getElem?_eq_some_iff.1 hj).1; omega
      rw [hnew _ (by omega), if_neg (by omega), if_pos (by omega)] at hv
      rw [← hv]; congr 1; omega
    · simp only [h1, h2, if_false]
      obtain ⟨a, b, c⟩ := hel (k - 1) (by omega)
      refine ⟨a, b, fun j av v hj hv => c j av v hj ?_⟩
      have : j < 7 := by have := (List.getElem?_eq_some_iff.1 hj).1; omega
      rw [hnew _ (by omega), if_neg (by omega), if_neg (by omega)] at hv
      rw [← hv]; congr 1; omega

theorem els_one {w : World} {D : Nat → Prop} {B n : Nat} {f : (Unit → Nat) → List AV} {cur : Array Value} {c : Nat} (hsz : cur.size = c * 7) (hn : n ≤ c)
    (hel : ∀ k, k < n → (f fun _ => k).length = 7 ∧ (f fun _ => k).all AV.cell = true ∧ ∀ (j : Nat) (av : AV) (v : Value), (f fun _ => k)[j]? = some av → cur[k * 7 + j]? = some v → RD w D B av v) :
    ∀ j v, j < n * 7 → cur[j]? = some v → v.oneCell' = true := by
  intro j v hj hv
  have he : Els w D B 7 n f (cur.toList.take (n * 7)) := ⟨by simp; omega, fun k hk => let ⟨a, b, c⟩ := hel k hk; ⟨a, b, fun j av v h1 h2 => c j av v h1 (by
    rw [List.getElem?_take] at h2; split at h2; simpa using h2; cases h2)⟩⟩
  refine he.one v (List.mem_of_getElem? (i := j) ?_)
  rw [List.getElem?_take, if_pos hj]; simpa using hv

theorem Insert_ok (n i : Nat) (x y : Bool) (f g : (Unit → Nat) → List AV) (hi : i ≤ n) (hbig : n ≤ 1073741824) :
    AFun Tryd.prog 57 [.aref 1000 0 fun _ => n, .int .i64 fun _ => i, .aref 1002 0 fun _ => 1] [(1000, .arr x 41 7 0 (fun _ => n) f), (1002, .arr y 41 7 0 (fun _ => 1) g)]
      (.aref 1000 1 fun _ => n + 1) [(1000, .arr x 41 7 1 (fun _ => n + 1) (insF i f g)), (1002, .arr y 41 7 0 (fun _ => 1) g)] := by
  refine ⟨ent_of Tryd.func57 (by kernel_rfl) rfl, fun E β vs hpin hdf hY h0 => ?_⟩
  have hv0 := h0.tmps 0 _ rfl
  have hv1 := (h0.tmps 1 _ rfl).int_inv
  have hv2 := h0.tmps 2 _ rfl
  have hsz := h0.size
  obtain ⟨_, q0⟩ := hv0.aref_inv
  obtain ⟨_, q2⟩ := hv2.aref_inv
  have e0 := (q0 _ _ _ _ _ _ rfl).2 rfl
  have e2 := (q2 _ _ _ _ _ _ rfl).2 rfl
  have hvs : vs = #[β 1000, .int .i64 i, β 1002] := by
    apply Array.ext (by simpa using hsz)
    intro k h1 h2
    have h3 : k = 0 ∨ k = 1 ∨ k = 2 := by simp at h2; omega
    rcases h3 with rfl | rfl | rfl
    · have := e0.2; simpa [Array.getD_eq_getD_getElem?, h1] using this
    · simpa [Array.getD_eq_getD_getElem?, h1] using hv1
    · have := e2.2; simpa [Array.getD_eq_getD_getElem?, h1] using this
  subst hvs
  have o0 := h0.objs 1000
  have o2 := h0.objs 1002
  have hap := h0.apart 1000 1002
  change OR E E.w0 β _ 1000 (.arr x 41 7 0 (fun _ => n) f) at o0
  change OR E E.w0 β _ 1002 (.arr y 41 7 0 (fun _ => 1) g) at o2
  rcases o2 with ⟨_, hz⟩ | ⟨vb, vc, vcur, hβ2, hh2, hc2, hc2m, hvsz, hx2, hown2, hel2⟩
  · cases hz
  simp only at hc2 hel2
  have gel := hel2 0 (by omega)
  simp only [Nat.zero_mul, Nat.zero_add] at gel
  have h1v : ∀ j v, j < 7 → vcur[j]? = some v → v.oneCell' = true := els_one (n := 1) hvsz hc2 hel2
  have hvs7 : 7 ≤ vcur.size := by omega
  have hvlt : vb < E.w0.heap.size := (Array.getElem?_eq_some_iff.1 hh2).1
  have hfin : ∀ (w' : World) (v : Value) (G gb : Nat) (cur new : Array Value) (hn : n + 1 ≤ G) (hG : G ≤ maxLen) (hv : v = .slice (some ⟨gb, 0, none⟩) (n + 1) G) (hos : w'.os = E.w0.os) (htape : w'.tape = E.w0.tape) (hout : w'.output = E.w0.output) (hsize : E.w0.heap.size ≤ w'.heap.size)
      (hheap : ∀ b, b < E.w0.heap.size → blkOf (β 1000) ≠ some b → w'.heap[b]? = E.w0.heap[b]?) (hb : blkOf (β 1000) = some gb ∨ E.w0.heap.size ≤ gb) (hBx : x = false → E.B ≤ gb) (hO : E.own gb) (hg : w'.heap[gb]? = some (.cells new 41 (0, 0))) (hns : new.size = G * 7)
      (hel : ∀ k, k < n → (f fun _ => k).length = 7 ∧ (f fun _ => k).all AV.cell = true ∧ ∀ (j : Nat) (av : AV) (v : Value), (f fun _ => k)[j]? = some av → cur[k * 7 + j]? = some v → RD E.w0 (E.D E.w0 β (olook [(1000, .arr x 41 7 0 (fun _ => n) f), (1002, .arr y 41 7 0 (fun _ => 1) g)])) E.B av v)
      (hnew : ∀ k, k < (n + 1) * 7 → new[k]? = if k < i * 7 then cur[k]? else if k < i * 7 + 7 then vcur[k - i * 7]? else cur[k - 7]?),
      ∃ v2 β', Ending.returned v = .returned v2 ∧ RelB E [.aref 1000 1 fun _ => n + 1] (olook [(1000, .arr x 41 7 1 (fun _ => n + 1) (insF i f g)), (1002, .arr y 41 7 0 (fun _ => 1) g)]) ⟨#[v2], []⟩ w' β' ∧ Link (olook [(1000, .arr x 41 7 0 (fun _ => n) f), (1002, .arr y 41 7 0 (fun _ => 1) g)]) β (olook [(1000, .arr x 41 7 1 (fun _ => n + 1) (insF i f g)), (1002, .arr y 41 7 0 (fun _ => 1) g)]) β' := by
    intro w' v G gb cur new hn hG hv hos htape hout hsize hheap hb hBx hO hg hns hel hnew
    refine ⟨v, upd β 1000 v, rfl, ?_⟩
    refine turn_end (o := 1000) (ver2 := 1) (n2 := fun _ => n + 1) (f2 := insF i f g) h0 hdf rfl hos htape hout hsize hheap (v := v) (fun b hbb => by rw [hv] at hbb; simp [blkOf] at hbb; subst hbb; exact hb) (.inr (by omega)) (fun hrd => ?_) ?_
    · refine .inr ⟨gb, G, new, by simp [upd, hv], hg, hn, hG, hns, hBx, hO, ?_⟩
      exact ins_els hi (fun k hk => let ⟨a, b, c⟩ := hel k hk; ⟨a, b, fun j av v h1 h2 => hrd _ _ (c j av v h1 h2)⟩) ⟨gel.1, gel.2.1, fun j av v h1 h2 => hrd _ _ (gel.2.2 j av v h1 h2)⟩ hnew
    · exact .aref _ _ _ _ (.inr ⟨gb, G, hv, hn, hG⟩) (fun x t sz' ver' n' f hH => by simp [upd] at hH; obtain ⟨_, _, _, rfl, rfl, _⟩ := hH; exact ⟨Nat.le_refl _, fun _ => ⟨rfl, by simp [upd]⟩⟩)
  have hvl : (seg vcur 0 7).length = 7 := seg_len (by omega)
  have hvg : ∀ k, k < 7 → (seg vcur 0 7)[k]? = vcur[k]? := fun k hk => by rw [seg_get, if_pos hk, Nat.zero_add]
  rcases o0 with ⟨hβ, hz⟩ | ⟨b, c, cur, hβ, hh, hc1, hc2', hcsz, hx1, hown, hel⟩
  · -- nil
    simp only at hz
    subst hz
    obtain rfl : i = 0 := by omega
    rw [hβ, hβ2]
    obtain ⟨z, hz, hcall⟩ := Ins_end_grow none 0 0 vb vc [] vcur E.w0 (by omega) (by omega) (fun w' _ => by simp [Builtin.firstCells]) hh2 hvs7 (fun _ => ⟨rfl, rfl⟩) (Nat.le_refl _)
    refine hcall.mono fun e w' ⟨he, hw⟩ => ?_
    have hge := grownCap_ge E.w0 (0 + 1) 0 41
    have hle := grownCap_le_maxLen E.w0 (0 + 1) 0 41 (maxLen_big (by omega))
    generalize grownCap E.w0 (0 + 1) 0 41 = G at hge hle he hw
    have hgrow : Grow E.w0 w' := by rw [hw]; exact Grow.drew_alloc _ _
    have hg : w'.heap[E.w0.heap.size]? = some (.cells ((([] : List Value).toArray ++ (seg vcur 0 7).toArray) ++ Builtin.zeroCells z.cells (G - (0 + 1))) 41 (0, 0)) := by rw [hw]; exact heap_alloc_new E.w0.drew _
    rw [he]
    refine hfin w' _ G E.w0.heap.size #[] _ hge hle rfl hgrow.os hgrow.tape hgrow.output hgrow.size (fun b hb _ => hgrow.old b hb) (.inr (Nat.le_refl _)) (fun _ => E.hB) (.inr (Nat.le_refl _)) hg ?_ (fun k hk => absurd hk (by omega)) (fun k hk => ?_)
    · rw [Array.size_append, size_zc, hz]; simp [hvl]; omega
    · rw [if_neg (by omega), if_pos (by omega)]
      rw [Array.getElem?_append_left (by simp [hvl]; omega), Array.getElem?_append_right (by simp), List.getElem?_toArray]
      simp only [List.size_toArray, List.length_nil, Nat.sub_zero, Nat.zero_mul]
      exact hvg k (by omega)
  · simp only at hc1 hel
    have h1c : ∀ j v, j < n * 7 → cur[j]? = some v → v.oneCell' = true := els_one hcsz hc1 hel
    have hblt : b < E.w0.heap.size := (Array.getElem?_eq_some_iff.1 hh).1
    have hvb : vb ≠ b := fun e => hap b (by decide) trivial trivial (by rw [hβ]; rfl) (by rw [hβ2, e]; rfl)
    have hc63 : c ≤ 9223372036854775807 := by unfold maxLen at hc2'; omega
    rw [hβ, hβ2]
    by_cases hroom : n + 1 ≤ c
    · by_cases hin : i = n
      · subst hin
        refine (Ins_end_room b i c vb vc cur vcur E.w0 hroom hc63 hh hcsz hh2 hvs7 h1v).mono fun e w' ⟨he, hw⟩ => ?_
        have hps : i * 7 + (seg vcur 0 7).length ≤ cur.size := by omega
        rw [he]
        refine hfin w' _ c b cur _ hroom hc2' rfl (by rw [hw]; rfl) (by rw [hw]; rfl) (by rw [hw]; rfl) (by rw [hw]; simp) (fun b' _ hb' => by rw [hw]; exact setRow_other _ _ _ _ (fun e => hb' (by rw [hβ, e]; rfl))) (.inl (by rw [hβ]; rfl)) hx1 hown (by rw [hw]; exact setRow_heap _ _ _ _ _ _ hh) (by rw [part_size hps, hcsz]) hel (fun k hk => ?_)
        rw [part_get hps, hvl]
        by_cases h1 : k < i * 7
        · rw [if_neg (by omega), if_pos h1]
        · rw [if_pos (by omega), if_neg h1, if_pos (by omega), hvg _ (by omega)]
      · refine (Ins_room b n c i vb vc cur vcur E.w0 (by omega) hroom hc63 hvb hh hcsz hh2 hvs7 h1c h1v).mono fun e w' ⟨he, hw⟩ => ?_
        have hl1 : (seg cur (i * 7) ((n - i) * 7)).length = (n - i) * 7 := seg_len (by omega)
        have hp1 : (i + 1) * 7 + (seg cur (i * 7) ((n - i) * 7)).length ≤ cur.size := by omega
        have hp2 : i * 7 + (seg vcur 0 7).length ≤ (part cur ((i + 1) * 7) (seg cur (i * 7) ((n - i) * 7))).size := by rw [part_size hp1]; omega
        rw [he]
        refine hfin w' _ c b cur _ hroom hc2' rfl (by rw [hw]; rfl) (by rw [hw]; rfl) (by rw [hw]; rfl) (by rw [hw]; simp) (fun b' _ hb' => by rw [hw]; exact setRow_other _ _ _ _ (fun e => hb' (by rw [hβ, e]; rfl))) (.inl (by rw [hβ]; rfl)) hx1 hown (by rw [hw]; exact setRow_heap _ _ _ _ _ _ hh) (by rw [part_size hp2, part_size hp1, hcsz]) hel (fun k hk => ?_)
        rw [part_get hp2, part_get hp1, hl1, hvl]
        by_cases h1 : k < i * 7
        · rw [if_neg (by omega), if_neg (by omega), if_pos h1]
        · by_cases h2 : k < i * 7 + 7
          · rw [if_pos (by omega), if_neg h1, if_pos h2, hvg _ (by omega)]
          · rw [if_neg (by omega), if_pos (by omega), if_neg h1, if_neg h2, seg_get, if_pos (by omega)]
            congr 1; omega
    · by_cases hin : i = n
      · subst hin
        have hole : (cur.toList.take (i * 7)).length = i * 7 := by simp; omega
        obtain ⟨z, hz, hcall⟩ := Ins_end_grow (some ⟨b, 0, none⟩) i c vb vc (cur.toList.take (i * 7)) vcur E.w0 (by omega) (by omega) (fun w' hw' => run_firstCells_some w' 7 i ⟨b, 0, none⟩ i c _ hole (fun j v hj => by
          rw [Addr.add_lit, cell_of_row (w := w') (by rw [hw']; exact hh), Nat.zero_add]
          rw [List.getElem?_take] at hj; split at hj; simpa using hj; cases hj)) hh2 hvs7 (fun h => by cases h) hc1
        refine hcall.mono fun e w' ⟨he, hw⟩ => ?_
        have hge := grownCap_ge E.w0 (i + 1) c 41
        have hle := grownCap_le_maxLen E.w0 (i + 1) c 41 (maxLen_big (by omega))
        generalize grownCap E.w0 (i + 1) c 41 = G at hge hle he hw
        have hgrow : Grow E.w0 w' := by rw [hw]; exact Grow.drew_alloc _ _
        have hg : w'.heap[E.w0.heap.size]? = some (.cells (((cur.toList.take (i * 7)).toArray ++ (seg vcur 0 7).toArray) ++ Builtin.zeroCells z.cells (G - (i + 1))) 41 (0, 0)) := by rw [hw]; exact heap_alloc_new E.w0.drew _
        rw [he]
        refine hfin w' _ G E.w0.heap.size cur _ hge hle rfl hgrow.os hgrow.tape hgrow.output hgrow.size (fun b hb _ => hgrow.old b hb) (.inr (Nat.le_refl _)) (fun _ => E.hB) (.inr (Nat.le_refl _)) hg ?_ hel (fun k hk => ?_)
        · rw [Array.size_append, Array.size_append, size_zc, hz, List.size_toArray, List.size_toArray, hvl, hole]; omega
        · rw [Array.getElem?_append_left (by rw [Array.size_append, List.size_toArray, List.size_toArray, hvl, hole]; omega)]
          by_cases h1 : k < i * 7
          · rw [if_pos h1, Array.getElem?_append_left (by rw [List.size_toArray, hole]; exact h1), List.getElem?_toArray, List.getElem?_take, if_pos h1, Array.getElem?_toList]
          · rw [if_neg h1, if_pos (by omega), Array.getElem?_append_right (by rw [List.size_toArray, hole]; omega), List.getElem?_toArray, List.size_toArray, hole, hvg _ (by omega)]
      · obtain ⟨ROW, G, hge, hle, hRs, hRg, hcall⟩ := Ins_grow b n c i vb vc cur vcur E.w0 (by omega) hc1 (by omega) hc63 (by omega) hh hcsz hh2 hvs7 h1c h1v
        refine hcall.mono fun e w' ⟨he, hw⟩ => ?_
        have hl1 : (seg cur (i * 7) ((n - i) * 7)).length = (n - i) * 7 := seg_len (by omega)
        have hp1 : i * 7 + (seg vcur 0 7).length ≤ ROW.size := by omega
        have hp2 : (i + 1) * 7 + (seg cur (i * 7) ((n - i) * 7)).length ≤ (part ROW (i * 7) (seg vcur 0 7)).size := by rw [part_size hp1]; omega
        have hn1 : (E.w0.drew.alloc (.cells ROW 41)).heap[E.w0.heap.size]? = some (.cells ROW 41 (0, 0)) := heap_alloc_new E.w0.drew _
        rw [he]
        refine hfin w' _ G E.w0.heap.size cur (part (part ROW (i * 7) (seg vcur 0 7)) ((i + 1) * 7) (seg cur (i * 7) ((n - i) * 7))) hge hle rfl (by rw [hw]; rfl) (by rw [hw]; rfl) (by rw [hw]; rfl) (by rw [hw]; simp) (fun b' hb _ => ?_) (.inr (Nat.le_refl _)) (fun _ => E.hB) (.inr (Nat.le_refl _)) ?_ ?_ hel (fun k hk => ?_)
        · rw [hw, setRow_other _ _ _ _ (by omega)]
          show ((E.w0.drew.alloc (.cells ROW 41)).setRow _ _).heap[b']? = _
          rw [setRow_other _ _ _ _ (by omega)]
          exact Go.RowKit.Below.heap_alloc E.w0.drew _ b' hb
        · rw [hw]
          exact setRow_heap _ _ _ _ _ _ (setRow_heap (E.w0.drew.alloc (.cells ROW 41)) _ _ _ _ _ hn1)
        · rw [part_size hp2, part_size hp1, hRs]
        · rw [part_get hp2, part_get hp1, hl1, hvl]
          by_cases h1 : k < i * 7
          · rw [if_neg (by omega), if_neg (by omega), if_pos h1, hRg k h1]
          · by_cases h2 : k < i * 7 + 7
            · rw [if_neg (by omega), if_pos (by omega), if_neg h1, if_pos h2, hvg _ (by omega)]
            · rw [if_pos (by omega), if_neg h1, if_neg h2, seg_get, if_pos (by omega)]
              congr 1; omega
end Go.Ai
