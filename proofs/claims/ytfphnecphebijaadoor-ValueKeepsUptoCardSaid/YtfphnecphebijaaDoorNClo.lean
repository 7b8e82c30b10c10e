/- Values whose rows lie in one set of blocks; surroundings that begin anew; poke between two states. -/
import Derived.Test.YtfphnecphebijaaDoorNPokeC
import Derived.Test.YtfphnecphebijaaDoorNSetsL
import Derived.Test.YtfphnecphebijaaDoorNRead
import Derived.Test.YtfphnecphebijaaDoorNJoin
namespace Go.Ai
open Go Go.Proofs Go.RowKit Go.Lib
set_option maxRecDepth 100000
set_option maxHeartbeats 2000000

theorem cells_flag {fr fr' : FB} {w : World} {D D' : Nat → Prop} {B B' : Nat} (h : ∀ b, D b → fr.ok w B b → D' b ∧ fr'.ok w B' b) : ∀ (d : Nat) (v : Unit → V) (j : Nat) (av av' : AV) (u : Value), (cells d fr v)[j]? = some av → (cells d fr' v)[j]? = some av' → RD w D B av u → RD w D' B' av' u := by
  intro d
  induction d with
  | zero =>
    intro v j av av' u h1 h2 hr
    match j with
    | 0 | 1 | 2 => simp [cells, cellsG] at h1 h2; subst h1; subst h2; cases hr; exact .int _ _
    | 3 => simp [cells, cellsG] at h1 h2; subst h1; subst h2; cases hr; exact .str _
    | 4 | 5 =>
      simp [cells, cellsG] at h1 h2; subst h1; subst h2
      cases hr with
      | empty _ _ _ _ p cap h0 hc => exact .empty _ _ _ _ p cap h0 hc
      | slc _ _ _ _ b o cap c g1 g2 g3 g4 g5 g6 g7 g8 =>
        refine .slc _ _ _ _ b o cap c g1 g2 (h b g3 g4).1 (h b g3 g4).2 g5 (fun i hi => g6 i hi) (fun i hi => g7 i hi) (fun i j av hi hj => ?_)
        simp [sub] at hj
    | n + 6 => simp [cells, cellsG] at h1
  | succ d ih =>
    intro v j av av' u h1 h2 hr
    match j with
    | 0 | 1 | 2 => simp [cells, cellsG] at h1 h2; subst h1; subst h2; cases hr; exact .int _ _
    | 3 => simp [cells, cellsG] at h1 h2; subst h1; subst h2; cases hr; exact .str _
    | 4 =>
      simp [cells, cellsG] at h1 h2; subst h1; subst h2
      cases hr with
      | empty _ _ _ _ p cap h0 hc => exact .empty _ _ _ _ p cap h0 hc
      | slc _ _ _ _ b o cap c g1 g2 g3 g4 g5 g6 g7 g8 =>
        refine .slc _ _ _ _ b o cap c g1 g2 (h b g3 g4).1 (h b g3 g4).2 g5 (fun i hi => rfl) (fun i hi => rfl) (fun i j av hi hj => ?_)
        have hj6 : j < (cells d fr fun _ => (v ()).list.getD i default).length := (List.getElem?_eq_some_iff.1 (show (cells d fr' fun _ => (v ()).list.getD i default)[j]? = some av from hj)).1
        exact ih _ j _ av _ (List.getElem?_eq_getElem hj6) hj (g8 i j _ hi (List.getElem?_eq_getElem hj6))
    | 5 =>
      simp [cells, cellsG] at h1 h2; subst h1; subst h2
      cases hr with
      | empty _ _ _ _ p cap h0 hc => exact .empty _ _ _ _ p cap h0 hc
      | slc _ _ _ _ b o cap c g1 g2 g3 g4 g5 g6 g7 g8 =>
        refine .slc _ _ _ _ b o cap c g1 g2 (h b g3 g4).1 (h b g3 g4).2 g5 (fun i hi => rfl) (fun i hi => rfl) (fun i j av hi hj => ?_)
        cases j with
        | zero =>
          have := g8 i 0 _ hi rfl
          simp [sub] at hj
          subst hj
          generalize c (i * 7 + 0) = y at this ⊢
          cases this
          exact .str _
        | succ j =>
          have hj6 : j < (cells d fr fun _ => ((v ()).fields.getD i default).2).length := (List.getElem?_eq_some_iff.1 (show (cells d fr' fun _ => ((v ()).fields.getD i default).2)[j]? = some av from hj)).1
          exact ih _ j _ av _ (List.getElem?_eq_getElem hj6) hj (g8 i (j + 1) _ hi (List.getElem?_eq_getElem hj6))
    | n + 6 => simp [cells, cellsG] at h1

theorem le_any (d : Nat) (fr : FB) (v : Unit → V) : LeL (cells d fr v) (cells d .any v) := ⟨rfl, fun _ => rfl, fun _ _ _ j av av' u h1 h2 h => cells_flag (fr := fr) (fr' := .any) (fun _b hb _ => ⟨hb, trivial⟩) d v j av av' u h1 h2 h⟩

theorem sh_of {w : World} {D : Nat → Prop} {B : Nat} {fr : FB} {q : Nat → Prop} (hfr : ∀ b, fr.ok w B b → q b ∧ Plain w b) : ∀ (d : Nat) (v : V) (cs : List Value), V.le d v → cs.length = 6 → (∀ (j : Nat) (av : AV) (u : Value), (cells d fr fun _ => v)[j]? = some av → cs[j]? = some u → RD w D B av u) → ShC w (fun b => D b ∧ q b) 1073741824 d v cs
  | 0, _, _, h, _, _ => h.elim
  | d + 1, v, cs, hv, hl, hc => by
    obtain ⟨c0, c1, c2, c3, c4, c5, rfl⟩ : ∃ c0 c1 c2 c3 c4 c5, cs = [c0, c1, c2, c3, c4, c5] := by
      match cs, hl with
      | [c0, c1, c2, c3, c4, c5], _ => exact ⟨_, _, _, _, _, _, rfl⟩
    have g0 := hc 0 _ _ rfl rfl
    have g1 := hc 1 _ _ rfl rfl
    have g2 := hc 2 _ _ rfl rfl
    have g3 := hc 3 _ _ rfl rfl
    have g4 := hc 4 _ _ rfl rfl
    have g5 := hc 5 _ _ rfl rfl
    cases g0; cases g1; cases g2; cases g3
    refine ⟨_, _, _, _, c4, c5, rfl, hv.2.2.1, ?_, ?_⟩
    · cases g4 with
      | empty _ _ _ _ p cap h0 _ => exact .inl ⟨h0, p, cap, rfl⟩
      | slc _ _ _ _ b o cap c h1 h2 h3 h4 h5 h6 h7 h8 =>
        by_cases hz : v.list.length = 0
        · refine .inl ⟨hz, some ⟨b, o, none⟩, cap, ?_⟩
          show Value.slice _ v.list.length _ = _
          rw [hz]
        obtain ⟨hB, vs, ty, hh⟩ := hfr _ h4
        have hcell : ∀ k, k < v.list.length * 6 → vs[o + k]? = some (c k) := fun k hk => by have := h5 k hk; rwa [cell_of_row hh] at this
        have hlast := hcell (v.list.length * 6 - 1) (by omega)
        have hlt := (Array.getElem?_eq_some_iff.1 hlast).1
        refine .inr ⟨b, o, cap, vs, ty, rfl, ⟨h3, hB⟩, hh, by omega, by have := hv.1; omega, fun i hi => ?_⟩
        refine sh_of hfr d _ _ (V.le_list hv hi) (by simp; omega) fun j av u hj hu => ?_
        rw [List.getElem?_take] at hu
        split at hu
        · rename_i hj6
          rw [List.getElem?_drop] at hu
          have := hcell (i * 6 + j) (by omega)
          rw [show o + (i * 6 + j) = o + i * 6 + j by omega] at this
          have hu' : vs[o + i * 6 + j]? = some u := by simpa using hu
          rw [this] at hu'; cases hu'
          exact h8 i j av hi hj
        · cases hu
    · cases g5 with
      | empty _ _ _ _ p cap h0 _ => exact .inl ⟨h0, p, cap, rfl⟩
      | slc _ _ _ _ b o cap c h1 h2 h3 h4 h5 h6 h7 h8 =>
        by_cases hz : v.fields.length = 0
        · refine .inl ⟨hz, some ⟨b, o, none⟩, cap, ?_⟩
          show Value.slice _ v.fields.length _ = _
          rw [hz]
        obtain ⟨hB, vs, ty, hh⟩ := hfr _ h4
        have hcell : ∀ k, k < v.fields.length * 7 → vs[o + k]? = some (c k) := fun k hk => by have := h5 k hk; rwa [cell_of_row hh] at this
        have hlast := hcell (v.fields.length * 7 - 1) (by omega)
        have hlt := (Array.getElem?_eq_some_iff.1 hlast).1
        refine .inr ⟨b, o, cap, vs, ty, rfl, ⟨h3, hB⟩, hh, by omega, by have := hv.2.1; omega, fun i hi => ?_⟩
        have hrow : ∀ j, j < 7 → ((vs.toList.drop (o + i * 7)).take 7)[j]? = some (c (i * 7 + j)) := fun j hj => by
          rw [List.getElem?_take, if_pos hj, List.getElem?_drop]
          have := hcell (i * 7 + j) (by omega)
          rw [show o + (i * 7 + j) = o + i * 7 + j by omega] at this
          simpa using this
        have hlen : ((vs.toList.drop (o + i * 7)).take 7).length = 7 := by simp; omega
        obtain ⟨r, hr⟩ : ∃ r, r = (vs.toList.drop (o + i * 7)).take 7 := ⟨_, rfl⟩
        rw [← hr] at hrow hlen ⊢
        match r, hlen with
        | x :: rr, hlen =>
          have hx : x = c (i * 7 + 0) := by have := hrow 0 (by decide); simpa using this
          have n0 := h8 i 0 _ hi rfl
          have hnm : (v.fields.getD i default).1.size ≤ 1073741824 := by
            have e : v.fields.getD i default = v.fields[i] := by simp [List.getD, hi]
            rw [e]; exact (hv.2.2.2.2 _ (List.getElem_mem hi)).1
          have hx2 : x = .string (v.fields.getD i default).1 := by
            rw [hx]
            generalize c (i * 7 + 0) = y at n0
            cases n0; rfl
          refine ⟨_, rr, by rw [hx2], hnm, sh_of hfr d _ _ (V.le_field hv hi) (by simpa using hlen) fun j av u hj hu => ?_⟩
          have hj6 : j + 1 < 7 := by have := (List.getElem?_eq_some_iff.1 hu).1; simp at hlen; omega
          have := hrow (j + 1) hj6
          simp only [List.getElem?_cons_succ] at this
          rw [hu] at this; cases this
          exact h8 i (j + 1) av hi hj
end Go.Ai

namespace Go.Ai
open Go Go.Proofs Go.RowKit Go.Lib
set_option maxRecDepth 100000
set_option maxHeartbeats 2000000

theorem tot_all : ∀ (d : Nat) (v : V), V.le d v → tot d v + 1 ≤ allV d v
  | 0, _, h => h.elim
  | d + 1, v, h => by
    have e1 : ∀ (l : List V), (∀ x ∈ l, V.le d x) → (l.map fun x => tot d x + 1).sum ≤ (l.map (allV d)).sum := by
      intro l
      induction l with
      | nil => intro _; simp
      | cons x r ih =>
        intro h
        simp only [List.map_cons, List.sum_cons]
        have := tot_all d x (h x (List.mem_cons_self ..))
        have := ih fun y hy => h y (List.mem_cons_of_mem _ hy)
        omega
    have e2 : ∀ (l : List (ByteArray × V)), (∀ x ∈ l, V.le d x.2) → (l.map fun x => tot d x.2 + 1).sum ≤ (l.map fun x => allV d x.2).sum := by
      intro l
      induction l with
      | nil => intro _; simp
      | cons x r ih =>
        intro h
        simp only [List.map_cons, List.sum_cons]
        have := tot_all d x.2 (h x (List.mem_cons_self ..))
        have := ih fun y hy => h y (List.mem_cons_of_mem _ hy)
        omega
    have h1 := e1 v.list h.2.2.2.1
    have h2 := e2 v.fields fun x hx => (h.2.2.2.2 x hx).2
    simp only [tot, allV]
    omega

def simpleA : AV → Bool
  | .any | .int .. | .bool _ | .str _ | .ptr .. => true
  | _ => false

theorem rx_simple {w w' : World} {D D' : Nat → Prop} {B B' : Nat} {β : Nat → Value} {H H' : Nat → AO} {av : AV} {v : Value} (hs : simpleA av = true) (h : RX w D B β H av v) : RX w' D' B' β H' av v := by
  cases h with
  | d h => cases h <;> first | exact .d (.any _) | exact .d (.int _ _) | exact .d (.bool _) | exact .d (.str _) | cases hs
  | ptr o off b h => exact .ptr o off b h
  | _ => cases hs

def BoxMap (p : Nat → Prop) (H H' : Nat → AO) : Prop := ∀ o, (H o = .none ∧ H' o = .none) ∨ ∃ (d : Nat) (fr : FB) (v : V), H o = .box (cells d fr fun _ => v) ∧ H' o = .box (cells d (.sat p) fun _ => v)

theorem rebase_boxes {E : Env} {tmps : List AV} {H : Nat → AO} {a : Act} {w : World} {β : Nat → Value} (h : RelB E tmps H a w β) (hs : ∀ (t : Nat) (av : AV), tmps[t]? = some av → simpleA av = true) (H' : (Nat → Prop) → Nat → AO) (hH : ∀ p, BoxMap p H (H' p)) :
    ∃ E', Ext E E' ∧ E'.B = E'.N ∧ RelB E' tmps (H' fun b => b < E'.N) a w β := by
  have hown : ∀ b, (∃ o, (H o).is ∧ blkOf (β o) = some b) → b < w.heap.size ∧ E.own b := fun b ⟨o, hi, hb⟩ => (h.objs o).lt hb hi
  let E' : Env := {
    w0 := w
    B := w.heap.size
    D0 := fun b => E.D w β H b
    X := fun b => ∃ o, (H o).is ∧ blkOf (β o) = some b
    pin := E.pin
    hpin := E.hpin
    Y := E.Y
    df := E.df
    hB := Nat.le_refl _
    hD := fun b hb => ⟨hb.2.1, fun ⟨o, hi, hq⟩ => hb.2.2 o hi hq⟩
    hX := fun b hb => (hown b hb).1
    hY := fun b hy => ⟨Nat.lt_of_lt_of_le (E.hY b hy).1 h.frame.size, fun hd => noY_D hd hy, fun hx => noY E (hown b hx).2 hy⟩
    hdf := fun d hd => by
      obtain ⟨b, rfl, hx, hy, hh⟩ := E.hdf d hd
      have hbl : b < E.N := (Array.getElem?_eq_some_iff.1 hh).1
      refine ⟨b, rfl, fun hq => ?_, hy, ?_⟩
      · exact (hown b hq).2.elim hx fun q => by omega
      · rw [h.frame.block b hbl hx]; exact hh
    ndf := E.ndf
    hT := h.tab
    hTD := ⟨h.dIn E.hTD.1, h.dIn E.hTD.2⟩ }
  have hN : E'.N = w.heap.size := rfl
  have his : ∀ p o, (H' p o).is ↔ (H o).is := fun p o => by
    rcases hH p o with ⟨h1, h2⟩ | ⟨d, fr, v, h1, h2⟩ <;> rw [h1, h2] <;> simp [AO.is]
  have hDD : ∀ b, E.D w β H b → E'.D w β (H' fun b => b < E'.N) b ∧ b < E'.N := fun b hb => ⟨⟨.inl hb, hb.2.1, fun o ho => hb.2.2 o ((his _ o).1 ho)⟩, hb.2.1⟩
  refine ⟨E', ⟨Nat.le_trans E.hB h.frame.size, rfl, rfl, h.frame.os, h.frame.tape, h.frame.output, h.frame.size, fun b hb => (hown b hb).2, fun b hb => hb.1, fun b hb hx _ => h.frame.block b hb hx, fun b hb => .inl hb⟩, rfl,
    h.defers, h.size, fun t av ht => rx_simple (hs t av ht) (h.tmps t av ht), fun o => ?_, fun o o' b hne h1 h2 => h.apart o o' b hne ((his _ o).1 h1) ((his _ o').1 h2), ⟨rfl, rfl, rfl, Nat.le_refl _, fun _ _ _ => rfl⟩, fun o v n0 hp => ?_⟩
  · rcases hH (fun b => b < E'.N) o with ⟨h1, h2⟩ | ⟨d, fr, v, h1, h2⟩
    · rw [h2]; trivial
    · rw [h2]
      have ho := h.objs o
      rw [h1] at ho
      obtain ⟨b, vs, ty, q1, q2, q3, q4, q5⟩ := ho
      refine ⟨b, vs, ty, q1, q2, .inl ⟨o, by rw [h1]; trivial, by rw [q1]; rfl⟩, q4, fun j av u hj hu => ?_⟩
      have hj6 : j < (cells d fr fun _ => v).length := (List.getElem?_eq_some_iff.1 (show (cells d (.sat fun b => b < E'.N) fun _ => v)[j]? = some av from hj)).1
      have := (q5 j _ u (List.getElem?_eq_getElem hj6) hu).pure (pureL_get (show AV.pureL (cells d fr fun _ => v) = true by simp [cells, cellsG, AV.pureL]) j _ (List.getElem?_eq_getElem hj6))
      exact .d (cells_flag (fr := fr) (fr' := .sat fun b => b < E'.N) (fun b hb _ => hDD b hb) d (fun _ => v) j _ av u (List.getElem?_eq_getElem hj6) hj this)
  · obtain ⟨p1, p2⟩ := h.pin o v n0 hp
    refine ⟨fun cs hc => ?_, fun x t sz ver n f hf => ?_⟩
    · rcases hH (fun b => b < E'.N) o with ⟨h1, h2⟩ | ⟨d, fr, v, h1, h2⟩
      · rw [h2] at hc; cases hc
      · exact p1 _ h1
    · rcases hH (fun b => b < E'.N) o with ⟨h1, h2⟩ | ⟨d, fr, v, h1, h2⟩ <;> rw [h2] at hf <;> cases hf

theorem LpVC.rebase {P : Program} {E : Env} {c : Code} {k : KS} {s : SS} (s' : (Nat → Prop) → SS) (hl : ∀ p, (s' p).l = s.l ∧ (s' p).n = s.n) (hs : (s.l.all fun q => simpleA q.2) = true) (hH : ∀ p, BoxMap p (olook s.objs) (olook (s' p).objs))
    (h : ∀ E', Ext E E' → E'.B = E'.N → AWp none P E' c (fun e E S => ∃ s, S = s.st ∧ s.ok ∧ k e E s) (s' fun b => b < E'.N).st) : LpVC none (fun _ => P) E c k s := by
  refine ⟨fun hok a w ⟨β, hr⟩ => ?_⟩
  have hsm : ∀ (t : Nat) (av : AV), s.st.tmps[t]? = some av → simpleA av = true := fun t av ht => by
    have hlt : t < s.n := by rw [← s.as_len]; exact (List.getElem?_eq_some_iff.1 ht).1
    rw [s.as_get hlt] at ht
    cases ht
    rcases alook_mem (l := s.l) (t := t) with q | q
    · rw [q]; rfl
    · exact List.all_eq_true.1 hs _ q
  obtain ⟨E', h1, h2, h3⟩ := rebase_boxes hr hsm (fun p => olook (s' p).objs) hH
  have hst : ∀ p, (s' p).st.tmps = s.st.tmps := fun p => by simp only [SS.st, (hl p).1, (hl p).2]
  refine Go.wpIn_mono (h E' h1 h2 a w ⟨β, ?_⟩) fun e a' w' ⟨E2, S, g0, g1, g2⟩ => ⟨E2, S, h1.trans g0, g1, g2⟩
  rw [hst]
  exact h3

def SatBox (p : Nat → Prop) (H : Nat → AO) : Prop := ∀ o, H o = .none ∨ ∃ (d : Nat) (v : V), H o = .box (cells d (.sat p) fun _ => v)

theorem poke_rel {E : Env} {tmps tmps' : List AV} {H H' : Nat → AO} {a a' : Act} {w w1 : World} {β : Nat → Value} (h : RelB E tmps H a w β) {p : Nat → Prop} {R : Nat → Prop} {L : Nat} (hsim : Sim R L w w1) (hR : ∀ b, R b → ¬ p b ∧ E.D w β H b ∧ E.own b)
    (hH : ∀ o, H' o = .none ∨ H' o = H o) (hsat : SatBox p H') (hdf : a'.defers = a.defers) (hsz : a'.tmps.size = tmps'.length) (ht : ∀ (t : Nat) (av : AV), tmps'[t]? = some av → simpleA av = true ∧ (av = .any ∨ (tmps[t]? = some av ∧ a'.tmps.getD t undef = a.tmps.getD t undef)))
    (hx : ∀ b, E.own b → ¬ b < E.N ∨ E.X b) : RelB E tmps' H' a' w1 β := by
  have hi : ∀ o, (H' o).is → H' o = H o := fun o q => (hH o).elim (fun e => by rw [e] at q; exact q.elim) id
  refine ⟨hdf.trans h.defers, hsz, fun t av q => ?_, fun o => ?_, fun o o' b hne h1 h2 => h.apart o o' b hne (by rw [← hi o h1]; exact h1) (by rw [← hi o' h2]; exact h2), ⟨hsim.os.trans h.frame.os, hsim.tape.trans h.frame.tape, hsim.output.trans h.frame.output, Nat.le_trans h.frame.size hsim.size, fun b hb hbx => ?_⟩, fun o v n0 hp => ?_⟩
  · obtain ⟨q1, q2⟩ := ht t av q
    rcases q2 with rfl | ⟨q2, q3⟩
    · exact .d (.any _)
    · rw [q3]; exact rx_simple q1 (h.tmps t av q2)
  · rcases hsat o with e | ⟨d, v, e⟩
    · rw [e]; trivial
    · have he : H o = .box (cells d (.sat p) fun _ => v) := by rw [← hi o (by rw [e]; trivial)]; exact e
      have ho := h.objs o
      rw [he] at ho
      rw [e]
      obtain ⟨b, vs, ty, q1, q2, q3, q4, q5⟩ := ho
      have hnR : ¬ R b := fun q => (hR b q).2.1.2.2 o (by rw [he]; trivial) (by rw [q1]; rfl)
      have hb : b < w.heap.size := (Array.getElem?_eq_some_iff.1 q2).1
      refine ⟨b, vs, ty, q1, (hsim.other b hb hnR).trans q2, q3, q4, fun j av u hj hu => ?_⟩
      have hpu := (q5 j av u hj hu).pure (pureL_get (show AV.pureL (cells d (.sat p) fun _ => v) = true by simp [cells, cellsG, AV.pureL]) j _ hj)
      have hin := cells_flag (fr := .sat p) (fr' := .sat p) (D' := fun b => E.D w β H b ∧ p b) (B' := E.B) (fun b hb hq => ⟨⟨hb, hq⟩, hq⟩) d (fun _ => v) j av av u hj hj hpu
      exact .d (hin.mono (fun b hb => hsim.other b hb.1.2.1 fun q => (hR b q).1 hb.2) (fun b hb => ⟨hb.1.1, Nat.lt_of_lt_of_le hb.1.2.1 hsim.size, fun o2 ho2 => hb.1.2.2 o2 (by rw [← hi o2 ho2]; exact ho2)⟩) (Nat.le_refl _))
  · rw [hsim.other b (Nat.lt_of_lt_of_le hb h.frame.size) fun q => ?_]
    · exact h.frame.block b hb hbx
    · exact (hx b (hR b q).2.2).elim (fun q => q hb) hbx
  · obtain ⟨p1, p2⟩ := h.pin o v n0 hp
    exact ⟨fun cs hc => p1 cs (by rw [← hi o (by rw [hc]; trivial)]; exact hc), fun x t sz ver n f hf => p2 x t sz ver n f (by rw [← hi o (by rw [hf]; trivial)]; exact hf)⟩
end Go.Ai

namespace Go.Ai
open Go Go.Proofs Go.RowKit Go.Lib
set_option maxRecDepth 100000
set_option maxHeartbeats 2000000

theorem AFun.mem {f : FuncId} {av res : AV} (h : AFun Tryd.prog f [av] [] res []) (hp : AV.pureL [res] = true) (hfr : FreshR res) {W : World} {val : Value} (hT : Lib.Utf8Tabs 0 1 W) (ha : RD W (fun b => b < W.heap.size) W.heap.size av val) :
    Calls Tryd.prog f #[val] W fun e w' => ∃ c, e = .returned c ∧ Below W.heap.size W w' ∧ RD w' (fun b => W.heap.size ≤ b ∧ b < w'.heap.size) W.heap.size res c := by
  let E : Env := { w0 := W, B := W.heap.size, D0 := fun b => b < W.heap.size, X := fun _ => False, pin := fun _ => none, hpin := fun o p q => by (cases q), Y := fun _ => False, df := [], hB := Nat.le_refl _, hD := fun b hb => ⟨hb, fun q => q⟩, hX := fun b q => q.elim, hY := fun b q => q.elim, hdf := fun d hd => (by cases hd), ndf := .nil, hT := hT, hTD := ⟨tab_lt0 hT, tab_lt1 hT⟩ }
  have hr : RelB E [av] (olook []) ⟨#[val], []⟩ E.w0 (fun _ => undef) := by
    refine ⟨rfl, rfl, fun t av' ht => ?_, fun o => trivial, fun o o' b _ hi => hi.elim, ⟨rfl, rfl, rfl, Nat.le_refl _, fun _ _ _ => rfl⟩, fun o v n0 q => by cases q⟩
    cases t with
    | zero => simp at ht; subst ht; exact .d (ha.mono (fun _ _ => rfl) (fun b hb => ⟨.inl hb, hb, fun o hi => hi.elim⟩) (Nat.le_refl _))
    | succ t => simp at ht
  refine (h.calls E _ _ (fun o => rfl) rfl (fun b q => q) hr).mono fun e w' hx => ?_
  obtain ⟨v, β', he, hr2, _⟩ := hx
  refine ⟨v, he, ⟨hr2.frame.os, hr2.frame.tape, hr2.frame.output, hr2.frame.size, fun k hk => hr2.frame.block k hk fun q => q⟩, ?_⟩
  have q := (hr2.tmps 0 _ rfl).pure hp
  have q2 := hfr _ _ _ _ q
  exact q2.mono (fun _ _ => rfl) (fun b hb => ⟨hb.2, hb.1.2.1⟩) (Nat.le_refl _)

def copies8 : Code := .region 1 #[{ dst := some 5, op := Go.Op.load 25 (Go.Operand.tmp 1), type := 25, pos := "law.go:68", after := #[], guard := none }, { dst := some 6, op := Go.Op.call { callee := Go.Callee.value (Go.Operand.func 32), args := #[Go.Operand.tmp 5], argTypes := #[25] }, type := 25, pos := "law.go:68", after := #[{ on := 0, ground := Go.Ground.data }], guard := none }, { dst := some 7, op := Go.Op.load 25 (Go.Operand.tmp 1), type := 25, pos := "law.go:68", after := #[], guard := none }, { dst := some 8, op := Go.Op.call { callee := Go.Callee.value (Go.Operand.func 21), args := #[Go.Operand.tmp 7], argTypes := #[25] }, type := 25, pos := "law.go:68", after := #[{ on := 2, ground := Go.Ground.data }, { on := 1, ground := Go.Ground.chain }], guard := none }, { dst := some 3, op := Go.Op.alloc 25, type := 0, pos := "law.go:68", after := #[], guard := none }, { dst := some 4, op := Go.Op.alloc 25, type := 0, pos := "law.go:68", after := #[], guard := none }, { dst := none, op := Go.Op.store 25 (Go.Operand.tmp 3) (Go.Operand.tmp 6), type := 0, pos := "law.go:68", after := #[{ on := 4, ground := Go.Ground.data }, { on := 1, ground := Go.Ground.data }, { on := 3, ground := Go.Ground.chain }, { on := 0, ground := Go.Ground.phase }, { on := 1, ground := Go.Ground.phase }, { on := 2, ground := Go.Ground.textOnly Go.Departure.lateStores }, { on := 3, ground := Go.Ground.textOnly Go.Departure.lateStoresUnsure }, { on := 4, ground := Go.Ground.phase }, { on := 5, ground := Go.Ground.phase }], guard := none }, { dst := none, op := Go.Op.store 25 (Go.Operand.tmp 4) (Go.Operand.tmp 8), type := 0, pos := "law.go:68", after := #[{ on := 5, ground := Go.Ground.data }, { on := 3, ground := Go.Ground.data }, { on := 6, ground := Go.Ground.chain }, { on := 0, ground := Go.Ground.phase }, { on := 1, ground := Go.Ground.phase }, { on := 2, ground := Go.Ground.phase }, { on := 3, ground := Go.Ground.phase }, { on := 4, ground := Go.Ground.phase }, { on := 5, ground := Go.Ground.phase }, { on := 6, ground := Go.Ground.phase }], guard := none }] true

structure Two (d : Nat) (v : V) (w0 : World) (V0 : Value) (b1 : Nat) (DF : List Deferred) (D : Nat → Bool) (a : Act) (w : World) (m1 M1 m2 M2 b3 b4 : Nat) : Prop where
  df : a.defers = DF
  size : a.tmps.size = 28
  s1 : a.tmps.getD 1 undef = .pointer (some ⟨b1, 0, none⟩)
  grow : Below w0.heap.size w0 w
  d0 : D 0 = true → a.tmps.getD 5 undef = V0
  d2 : D 2 = true → a.tmps.getD 7 undef = V0
  d1 : D 1 = true → w0.heap.size ≤ m1 ∧ m1 ≤ M1 ∧ M1 ≤ w.heap.size ∧ RD w (fun b => m1 ≤ b ∧ b < M1) m1 (encV d .new fun _ => v) (a.tmps.getD 6 undef)
  d3 : D 3 = true → M1 ≤ m2 ∧ m2 ≤ M2 ∧ M2 ≤ w.heap.size ∧ RD w (fun b => m2 ≤ b ∧ b < M2) m2 (encV d .new fun _ => v) (a.tmps.getD 8 undef)
  d4 : D 4 = true → a.tmps.getD 3 undef = .pointer (some ⟨b3, 0, none⟩) ∧ w0.heap.size ≤ b3 ∧ b3 < w.heap.size ∧ (∃ vs, w.heap[b3]? = some (.cells vs 25 (0, 0)) ∧ vs.size = 6) ∧ (D 1 = true → ¬ (m1 ≤ b3 ∧ b3 < M1)) ∧ (D 3 = true → ¬ (m2 ≤ b3 ∧ b3 < M2))
  d5 : D 5 = true → a.tmps.getD 4 undef = .pointer (some ⟨b4, 0, none⟩) ∧ w0.heap.size ≤ b4 ∧ b4 < w.heap.size ∧ (∃ vs, w.heap[b4]? = some (.cells vs 25 (0, 0)) ∧ vs.size = 6) ∧ (D 1 = true → ¬ (m1 ≤ b4 ∧ b4 < M1)) ∧ (D 3 = true → ¬ (m2 ≤ b4 ∧ b4 < M2)) ∧ (D 4 = true → b3 ≠ b4)

theorem get_set {tm : Array Value} {t k : Nat} {x : Value} (h : k ≠ t) : (tm.setIfInBounds t x).getD k undef = tm.getD k undef := by
  simp [Array.getD_eq_getD_getElem?, Array.getElem?_setIfInBounds_ne (Ne.symm h)]
theorem get_own {tm : Array Value} {t : Nat} {x : Value} (h : t < tm.size) : (tm.setIfInBounds t x).getD t undef = x := by
  simp [Array.getD_eq_getD_getElem?, h]

section
variable {d : Nat} {v : V} {w0 : World} {V0 : Value} {b1 : Nat} {DF : List Deferred} {D : Nat → Bool} {a : Act} {w w' : World} {m1 M1 m2 M2 b3 b4 : Nat}

theorem Two.up (h : Two d v w0 V0 b1 DF D a w m1 M1 m2 M2 b3 b4) (hb : Below w.heap.size w w') (t : Nat) (x : Value) (ht1 : t ≠ 1) (ht : (D 0 = true → 5 ≠ t) ∧ (D 1 = true → 6 ≠ t) ∧ (D 2 = true → 7 ≠ t) ∧ (D 3 = true → 8 ≠ t) ∧ (D 4 = true → 3 ≠ t) ∧ (D 5 = true → 4 ≠ t)) :
    Two d v w0 V0 b1 DF D ⟨a.tmps.setIfInBounds t x, a.defers⟩ w' m1 M1 m2 M2 b3 b4 := by
  obtain ⟨t0, t1, t2, t3, t4, t5⟩ := ht
  have hold : ∀ b, b < w.heap.size → w'.heap[b]? = w.heap[b]? := hb.block
  have hsz := hb.size
  refine ⟨h.df, by simp [h.size], by rw [get_set (Ne.symm ht1)]; exact h.s1, h.grow.trans (hb.mono h.grow.size), fun q => by rw [get_set (t0 q)]; exact h.d0 q, fun q => by rw [get_set (t2 q)]; exact h.d2 q, fun q => ?_, fun q => ?_, fun q => ?_, fun q => ?_⟩
  · obtain ⟨g1, g2, g3, g4⟩ := h.d1 q
    rw [get_set (t1 q)]
    exact ⟨g1, g2, Nat.le_trans g3 hsz, g4.mono (fun b hb => hold b (Nat.lt_of_lt_of_le hb.2 g3)) (fun _ hb => hb) (Nat.le_refl _)⟩
  · obtain ⟨g1, g2, g3, g4⟩ := h.d3 q
    rw [get_set (t3 q)]
    exact ⟨g1, g2, Nat.le_trans g3 hsz, g4.mono (fun b hb => hold b (Nat.lt_of_lt_of_le hb.2 g3)) (fun _ hb => hb) (Nat.le_refl _)⟩
  · obtain ⟨g1, g2, g3, ⟨vs, g4, g5⟩, g6⟩ := h.d4 q
    rw [get_set (t4 q)]
    exact ⟨g1, g2, Nat.lt_of_lt_of_le g3 hsz, ⟨vs, (hold _ g3).trans g4, g5⟩, g6⟩
  · obtain ⟨g1, g2, g3, ⟨vs, g4, g5⟩, g6⟩ := h.d5 q
    rw [get_set (t5 q)]
    exact ⟨g1, g2, Nat.lt_of_lt_of_le g3 hsz, ⟨vs, (hold _ g3).trans g4, g5⟩, g6⟩

theorem Two.op0 (h : Two d v w0 V0 b1 DF D a w m1 M1 m2 M2 b3 b4) (hD : D 0 = false) : Two d v w0 V0 b1 DF (fun j => D j || j == 0) ⟨a.tmps.setIfInBounds 5 V0, a.defers⟩ w m1 M1 m2 M2 b3 b4 := by
  have u := h.up (Below.refl _ _) 5 V0 (by decide) (by refine ⟨fun q => ?_, fun q => ?_, fun q => ?_, fun q => ?_, fun q => ?_, fun q => ?_⟩ <;> first | decide | (rw [hD] at q; cases q))
  exact ⟨u.df, u.size, u.s1, u.grow, fun _ => get_own (by rw [h.size]; decide), fun q => u.d2 (by simpa using q), fun q => u.d1 (by simpa using q), fun q => u.d3 (by simpa using q), fun q => let ⟨g1, g2, g3, g4, g5, g6⟩ := u.d4 (by simpa using q); ⟨g1, g2, g3, g4, fun q => g5 (by simpa using q), fun q => g6 (by simpa using q)⟩, fun q => let ⟨g1, g2, g3, g4, g5, g6, g7⟩ := u.d5 (by simpa using q); ⟨g1, g2, g3, g4, fun q => g5 (by simpa using q), fun q => g6 (by simpa using q), fun q => g7 (by simpa using q)⟩⟩

theorem Two.op2 (h : Two d v w0 V0 b1 DF D a w m1 M1 m2 M2 b3 b4) (hD : D 2 = false) : Two d v w0 V0 b1 DF (fun j => D j || j == 2) ⟨a.tmps.setIfInBounds 7 V0, a.defers⟩ w m1 M1 m2 M2 b3 b4 := by
  have u := h.up (Below.refl _ _) 7 V0 (by decide) (by refine ⟨fun q => ?_, fun q => ?_, fun q => ?_, fun q => ?_, fun q => ?_, fun q => ?_⟩ <;> first | decide | (rw [hD] at q; cases q))
  exact ⟨u.df, u.size, u.s1, u.grow, fun q => u.d0 (by simpa using q), fun _ => get_own (by rw [h.size]; decide), fun q => u.d1 (by simpa using q), fun q => u.d3 (by simpa using q), fun q => let ⟨g1, g2, g3, g4, g5, g6⟩ := u.d4 (by simpa using q); ⟨g1, g2, g3, g4, fun q => g5 (by simpa using q), fun q => g6 (by simpa using q)⟩, fun q => let ⟨g1, g2, g3, g4, g5, g6, g7⟩ := u.d5 (by simpa using q); ⟨g1, g2, g3, g4, fun q => g5 (by simpa using q), fun q => g6 (by simpa using q), fun q => g7 (by simpa using q)⟩⟩

theorem Two.op1 (h : Two d v w0 V0 b1 DF D a w m1 M1 m2 M2 b3 b4) (hD : D 1 = false) (h3 : D 3 = false) {c : Value} (hb : Below w.heap.size w w') (hc : RD w' (fun b => w.heap.size ≤ b ∧ b < w'.heap.size) w.heap.size (encV d .new fun _ => v) c) : Two d v w0 V0 b1 DF (fun j => D j || j == 1) ⟨a.tmps.setIfInBounds 6 c, a.defers⟩ w' w.heap.size w'.heap.size m2 M2 b3 b4 := by
  have u := h.up (hb) 6 c (by decide) (by refine ⟨fun q => ?_, fun q => ?_, fun q => ?_, fun q => ?_, fun q => ?_, fun q => ?_⟩ <;> first | decide | (rw [hD] at q; cases q))
  exact ⟨u.df, u.size, u.s1, u.grow, fun q => u.d0 (by simpa using q), fun q => u.d2 (by simpa using q), fun _ => ⟨h.grow.size, hb.size, Nat.le_refl _, by rw [get_own (by rw [h.size]; decide)]; exact hc⟩, fun q => (by simp [h3] at q), fun q => let ⟨g1, g2, g3, g4, g5, g6⟩ := u.d4 (by simpa using q); ⟨g1, g2, g3, g4, fun _ e => (by have := (h.d4 (by simpa using q)).2.2.1; omega), fun q => (by simp [h3] at q)⟩, fun q => let ⟨g1, g2, g3, g4, g5, g6, g7⟩ := u.d5 (by simpa using q); ⟨g1, g2, g3, g4, fun _ e => (by have := (h.d5 (by simpa using q)).2.2.1; omega), fun q => (by simp [h3] at q), fun q => g7 (by simpa using q)⟩⟩

theorem Two.op3 (h : Two d v w0 V0 b1 DF D a w m1 M1 m2 M2 b3 b4) (hD : D 3 = false) (h1 : D 1 = true) {c : Value} (hb : Below w.heap.size w w') (hc : RD w' (fun b => w.heap.size ≤ b ∧ b < w'.heap.size) w.heap.size (encV d .new fun _ => v) c) : Two d v w0 V0 b1 DF (fun j => D j || j == 3) ⟨a.tmps.setIfInBounds 8 c, a.defers⟩ w' m1 M1 w.heap.size w'.heap.size b3 b4 := by
  have u := h.up (hb) 8 c (by decide) (by refine ⟨fun q => ?_, fun q => ?_, fun q => ?_, fun q => ?_, fun q => ?_, fun q => ?_⟩ <;> first | decide | (rw [hD] at q; cases q))
  exact ⟨u.df, u.size, u.s1, u.grow, fun q => u.d0 (by simpa using q), fun q => u.d2 (by simpa using q), fun q => u.d1 (by simpa using q), fun _ => ⟨(h.d1 h1).2.2.1, hb.size, Nat.le_refl _, by rw [get_own (by rw [h.size]; decide)]; exact hc⟩, fun q => let ⟨g1, g2, g3, g4, g5, g6⟩ := u.d4 (by simpa using q); ⟨g1, g2, g3, g4, fun q => g5 (by simpa using q), fun _ e => (by have := (h.d4 (by simpa using q)).2.2.1; omega)⟩, fun q => let ⟨g1, g2, g3, g4, g5, g6, g7⟩ := u.d5 (by simpa using q); ⟨g1, g2, g3, g4, fun q => g5 (by simpa using q), fun _ e => (by have := (h.d5 (by simpa using q)).2.2.1; omega), fun q => g7 (by simpa using q)⟩⟩

theorem Two.op4 (h : Two d v w0 V0 b1 DF D a w m1 M1 m2 M2 b3 b4) (hD : D 4 = false) {vs : Array Value} (hvs : vs.size = 6) : Two d v w0 V0 b1 DF (fun j => D j || j == 4) ⟨a.tmps.setIfInBounds 3 (.pointer (some ⟨w.heap.size, 0, none⟩)), a.defers⟩ (w.alloc (.cells vs 25)) m1 M1 m2 M2 w.heap.size b4 := by
  have u := h.up (Below.alloc (Below.refl _ _) (Nat.le_refl _) (.cells vs 25)) 3 (.pointer (some ⟨w.heap.size, 0, none⟩)) (by decide) (by refine ⟨fun q => ?_, fun q => ?_, fun q => ?_, fun q => ?_, fun q => ?_, fun q => ?_⟩ <;> first | decide | (rw [hD] at q; cases q))
  exact ⟨u.df, u.size, u.s1, u.grow, fun q => u.d0 (by simpa using q), fun q => u.d2 (by simpa using q), fun q => u.d1 (by simpa using q), fun q => u.d3 (by simpa using q), fun _ => ⟨get_own (by rw [h.size]; decide), h.grow.size, by show _ < (w.heap.push _).size; rw [Array.size_push]; omega, ⟨vs, by show (w.heap.push _)[w.heap.size]? = _; exact Array.getElem?_push_size .., hvs⟩, fun q e => (by have := (h.d1 (by simpa using q)).2.2.1; omega), fun q e => (by have := (h.d3 (by simpa using q)).2.2.1; omega)⟩, fun q => let ⟨g1, g2, g3, g4, g5, g6, g7⟩ := u.d5 (by simpa using q); ⟨g1, g2, g3, g4, fun q => g5 (by simpa using q), fun q => g6 (by simpa using q), fun _ e => (by have := (h.d5 (by simpa using q)).2.2.1; omega)⟩⟩

theorem Two.op5 (h : Two d v w0 V0 b1 DF D a w m1 M1 m2 M2 b3 b4) (hD : D 5 = false) {vs : Array Value} (hvs : vs.size = 6) : Two d v w0 V0 b1 DF (fun j => D j || j == 5) ⟨a.tmps.setIfInBounds 4 (.pointer (some ⟨w.heap.size, 0, none⟩)), a.defers⟩ (w.alloc (.cells vs 25)) m1 M1 m2 M2 b3 w.heap.size := by
  have u := h.up (Below.alloc (Below.refl _ _) (Nat.le_refl _) (.cells vs 25)) 4 (.pointer (some ⟨w.heap.size, 0, none⟩)) (by decide) (by refine ⟨fun q => ?_, fun q => ?_, fun q => ?_, fun q => ?_, fun q => ?_, fun q => ?_⟩ <;> first | decide | (rw [hD] at q; cases q))
  exact ⟨u.df, u.size, u.s1, u.grow, fun q => u.d0 (by simpa using q), fun q => u.d2 (by simpa using q), fun q => u.d1 (by simpa using q), fun q => u.d3 (by simpa using q), fun q => let ⟨g1, g2, g3, g4, g5, g6⟩ := u.d4 (by simpa using q); ⟨g1, g2, g3, g4, fun q => g5 (by simpa using q), fun q => g6 (by simpa using q)⟩, fun _ => ⟨get_own (by rw [h.size]; decide), h.grow.size, by show _ < (w.heap.push _).size; rw [Array.size_push]; omega, ⟨vs, by show (w.heap.push _)[w.heap.size]? = _; exact Array.getElem?_push_size .., hvs⟩, fun q e => (by have := (h.d1 (by simpa using q)).2.2.1; omega), fun q e => (by have := (h.d3 (by simpa using q)).2.2.1; omega), fun q e => (by have := (h.d4 (by simpa using q)).2.2.1; omega)⟩⟩

structure TwoEnd (d : Nat) (v : V) (w0 : World) (V0 : Value) (b1 : Nat) (DF : List Deferred) (n6 n7 : Bool) (a : Act) (w : World) (m1 M1 m2 M2 b3 b4 : Nat) (c o : Array Value) : Prop where
  df : a.defers = DF
  size : a.tmps.size = 28
  s1 : a.tmps.getD 1 undef = .pointer (some ⟨b1, 0, none⟩)
  s3 : a.tmps.getD 3 undef = .pointer (some ⟨b3, 0, none⟩)
  s4 : a.tmps.getD 4 undef = .pointer (some ⟨b4, 0, none⟩)
  s8 : a.tmps.getD 8 undef = .agg o
  grow : Below w0.heap.size w0 w
  lt : w0.heap.size ≤ m1 ∧ m1 ≤ M1 ∧ M1 ≤ m2 ∧ m2 ≤ M2 ∧ M2 ≤ w.heap.size
  l3 : w0.heap.size ≤ b3 ∧ b3 < w.heap.size ∧ ¬ (m1 ≤ b3 ∧ b3 < M1) ∧ ¬ (m2 ≤ b3 ∧ b3 < M2)
  l4 : w0.heap.size ≤ b4 ∧ b4 < w.heap.size ∧ ¬ (m1 ≤ b4 ∧ b4 < M1) ∧ ¬ (m2 ≤ b4 ∧ b4 < M2)
  ne : b3 ≠ b4
  rc : RD w (fun b => m1 ≤ b ∧ b < M1) m1 (encV d .new fun _ => v) (.agg c)
  ro : RD w (fun b => m2 ≤ b ∧ b < M2) m2 (encV d .new fun _ => v) (.agg o)
  h3 : n6 = true → w.heap[b3]? = some (.cells c 25 (0, 0))
  h4 : ∃ vs, w.heap[b4]? = some (.cells vs 25 (0, 0)) ∧ vs.size = 6
  h4' : n7 = true → w.heap[b4]? = some (.cells o 25 (0, 0))
end

section
variable {d : Nat} {v : V} {w0 : World} {V0 : Value} {b1 : Nat} {DF : List Deferred} {D : Nat → Bool} {a : Act} {w w' : World} {m1 M1 m2 M2 b3 b4 : Nat} {c o : Array Value}

theorem rd_one {w : World} {D : Nat → Prop} {B : Nat} {fr : FB} {d : Nat} {v : Unit → V} {c : Array Value} (h : RD w D B (encV d fr v) (.agg c)) : c.size = 6 ∧ ∀ x ∈ c.toList, x.oneCell' = true := by
  cases h with
  | agg _ vs hl hx =>
    have hl6 : c.size = 6 := hl.symm
    refine ⟨hl6, fun x hx' => ?_⟩
    obtain ⟨i, hi⟩ := List.getElem?_of_mem hx'
    have hlt : i < (cells d fr v).length := by have := (List.getElem?_eq_some_iff.1 hi).1; simp at this; show i < 6; omega
    have q := hx i _ x (List.getElem?_eq_getElem hlt) (by simpa using hi)
    refine cell_one (β := fun _ => undef) (H := fun _ => .none) (.d q) ?_
    have : (cells d fr v).all AV.cell = true := rfl
    exact List.all_eq_true.1 this _ (List.getElem_mem hlt)

theorem store_box (P : Program) {t : TypeId} (hs : ∀ w : World, (sizeOf t).run P w = .ok 6 w) {w : World} {b : Nat} {cur c : Array Value} {ty : TypeId} (hb : w.heap[b]? = some (.cells cur ty (0, 0))) (hc : cur.size = 6) (h6 : c.size = 6) (h1 : ∀ x ∈ c.toList, x.oneCell' = true) :
    (Instr.storeAt t (.pointer (some ⟨b, 0, none⟩)) (.agg c)).run P w = .ok () (w.setRow b c) := by
  have := run_storeCells_at P b 0 ty c.toList 0 cur w hb (by simp [hc, h6]) h1
  simp only [Nat.add_zero, List.take_zero, List.nil_append, Nat.zero_add] at this
  rw [List.drop_eq_nil_of_le (by simp [hc, h6]), List.append_nil] at this
  simp only [Instr.storeAt, Instr.sureAddr, pure_bind, storeVar, Sem.run_bind, hs, Result.andThen_ok]
  rw [if_neg (by simp [Value.cells, h6])]
  simpa [Value.cells] using this

theorem TwoEnd.one (h : Two d v w0 V0 b1 DF D a w m1 M1 m2 M2 b3 b4) (h1 : D 1 = true) (h3 : D 3 = true) (h4 : D 4 = true) (h5 : D 5 = true) (hc : a.tmps.getD 6 undef = .agg c) (ho : a.tmps.getD 8 undef = .agg o) : TwoEnd d v w0 V0 b1 DF true false a (w.setRow b3 c) m1 M1 m2 M2 b3 b4 c o := by
  obtain ⟨p1, p2, p3, p4⟩ := h.d1 h1
  obtain ⟨q1, q2, q3, q4⟩ := h.d3 h3
  obtain ⟨r1, r2, r3, ⟨vs, r4, r5⟩, r6, r7⟩ := h.d4 h4
  obtain ⟨s1, s2, s3, ⟨us, s4, s5⟩, s6, s7, s8⟩ := h.d5 h5
  rw [hc] at p4
  rw [ho] at q4
  have hne := s8 h4
  have hold : ∀ b, b ≠ b3 → (w.setRow b3 c).heap[b]? = w.heap[b]? := fun b hb => setRow_other _ _ _ _ hb
  refine ⟨h.df, h.size, h.s1, r1, s1, ho, ⟨h.grow.os, h.grow.tape, h.grow.output, by simpa using h.grow.size, fun k hk => (hold k (by omega)).trans (h.grow.block k hk)⟩, ⟨p1, p2, q1, q2, by simpa using q3⟩, ⟨r2, by simpa using r3, r6 h1, r7 h3⟩, ⟨s2, by simpa using s3, s6 h1, s7 h3⟩, hne,
    p4.mono (fun b hb => hold b (fun e => r6 h1 (e ▸ hb))) (fun _ hb => hb) (Nat.le_refl _), q4.mono (fun b hb => hold b (fun e => r7 h3 (e ▸ hb))) (fun _ hb => hb) (Nat.le_refl _), fun _ => setRow_heap _ _ _ _ _ _ r4, ⟨us, (hold b4 (Ne.symm hne)).trans s4, s5⟩, fun e => by cases e⟩

theorem TwoEnd.two (h : TwoEnd d v w0 V0 b1 DF true false a w m1 M1 m2 M2 b3 b4 c o) : TwoEnd d v w0 V0 b1 DF true true a (w.setRow b4 o) m1 M1 m2 M2 b3 b4 c o := by
  obtain ⟨us, s4, s5⟩ := h.h4
  have hold : ∀ b, b ≠ b4 → (w.setRow b4 o).heap[b]? = w.heap[b]? := fun b hb => setRow_other _ _ _ _ hb
  have hnew : (w.setRow b4 o).heap[b4]? = some (.cells o 25 (0, 0)) := setRow_heap _ _ _ _ _ _ s4
  exact ⟨h.df, h.size, h.s1, h.s3, h.s4, h.s8, ⟨h.grow.os, h.grow.tape, h.grow.output, by simpa using h.grow.size, fun k hk => (hold k (by have := h.l4.1; omega)).trans (h.grow.block k hk)⟩, ⟨h.lt.1, h.lt.2.1, h.lt.2.2.1, h.lt.2.2.2.1, by simpa using h.lt.2.2.2.2⟩, ⟨h.l3.1, by simpa using h.l3.2.1, h.l3.2.2⟩, ⟨h.l4.1, by simpa using h.l4.2.1, h.l4.2.2⟩, h.ne,
    h.rc.mono (fun b hb => hold b (fun e => h.l4.2.2.1 (e ▸ hb))) (fun _ hb => hb) (Nat.le_refl _), h.ro.mono (fun b hb => hold b (fun e => h.l4.2.2.2 (e ▸ hb))) (fun _ hb => hb) (Nat.le_refl _), fun e => (hold b3 h.ne).trans (h.h3 e), ⟨o, hnew, (rd_one h.ro).1⟩, fun _ => hnew⟩

def GC (d : Nat) (v : V) (w0 : World) (V0 : Value) (b1 : Nat) (DF : List Deferred) (D : Nat → Bool) (a : Act) (w : World) : Prop := ∃ m1 M1 m2 M2 b3 b4, (D 6 = false ∧ D 7 = false ∧ Two d v w0 V0 b1 DF D a w m1 M1 m2 M2 b3 b4) ∨ (D 6 = true ∧ ∃ c o, TwoEnd d v w0 V0 b1 DF true (D 7) a w m1 M1 m2 M2 b3 b4 c o)
end

theorem wp_store {P : Program} {o : Oper} {a : Act} {w w2 : World} {K : Act → World → Prop} {Q : Exit → Act → World → Prop} {t : TypeId} {p x : Operand} (ho : o.op = .store t p x) (hr : (Instr.storeAt t (a.eval p) (a.eval x)).run P w = .ok () w2) (h : K (a.put o.dst undef) w2) : o.wp P a w K Q := by
  unfold Oper.wp
  have he : (execOp a.eval o).run P w = .ok .skip w2 := by
    simp only [execOp, ho]
    simp [hr]
  rw [he]
  exact h

def PostC (d : Nat) (v : V) (w0 : World) (V0 : Value) (b1 : Nat) (DF : List Deferred) : Exit → Act → World → Prop
  | .normal, a, w => ∃ m1 M1 m2 M2 b3 b4 c o, TwoEnd d v w0 V0 b1 DF true true a w m1 M1 m2 M2 b3 b4 c o
  | _, _, _ => False

theorem copies_run (d : Nat) (v : V) (hv : V.le d v) (tm : Array Value) (DF : List Deferred) (htm : tm.size = 28) (b1 : Nat) (u0 u1 u2 u3 u4 u5 : Value) (ty : TypeId) (w : World) (hT : Lib.Utf8Tabs 0 1 w) (h1 : tm.getD 1 undef = .pointer (some ⟨b1, 0, none⟩)) (hb : w.heap[b1]? = some (.cells #[u0, u1, u2, u3, u4, u5] ty (0, 0)))
    (hd : RD w (fun b => b < w.heap.size) w.heap.size (encV d .any fun _ => v) (.agg #[u0, u1, u2, u3, u4, u5])) : copies8.wp Tryd.prog (PostC d v w.drew (.agg #[u0, u1, u2, u3, u4, u5]) b1 DF) ⟨tm, DF⟩ w := by
  have hlt1 : b1 < w.heap.size := (Array.getElem?_eq_some_iff.1 hb).1
  have hsz25 : ∀ w : World, (sizeOf 25).run Tryd.prog w = .ok 6 w := fun w => by
    have := (T4_ok.at 25 (by rfl)).sizeOf (w := w)
    exact this
  refine region_det mixed4 (GC d v w.drew (.agg #[u0, u1, u2, u3, u4, u5]) b1 DF) (by rfl) (fun D i' o' a w' ho hD hcl hpre hG => ?_) (fun D a w' hall hG => ?_) ⟨0, 0, 0, 0, 0, 0, .inl ⟨rfl, rfl, rfl, htm, h1, Below.refl _ _, fun h => (by cases h), fun h => (by cases h), fun h => (by cases h), fun h => (by cases h), fun h => (by cases h), fun h => (by cases h)⟩⟩
  · have hlt : i' < 8 := (Array.getElem?_eq_some_iff.1 ho).1
    have cl6 : D 6 = true → D 4 = true ∧ D 1 = true ∧ D 3 = true ∧ D 0 = true ∧ D 5 = true ∧ D 2 = true := fun q => by
      have e3 := hcl 6 _ rfl q _ (Array.mem_of_getElem? (i := 2) rfl) rfl
      exact ⟨hcl 6 _ rfl q _ (Array.mem_of_getElem? (i := 0) rfl) rfl, hcl 6 _ rfl q _ (Array.mem_of_getElem? (i := 1) rfl) rfl, e3, hcl 6 _ rfl q _ (Array.mem_of_getElem? (i := 3) rfl) rfl, hcl 6 _ rfl q _ (Array.mem_of_getElem? (i := 8) rfl) rfl, hcl 3 _ rfl e3 _ (Array.mem_of_getElem? (i := 0) rfl) rfl⟩
    have cl7 : D 7 = true → D 6 = true := fun q => hcl 7 _ rfl q _ (Array.mem_of_getElem? (i := 2) rfl) rfl
    have cl3 : D 3 = true → D 1 = true := fun q => hcl 3 _ rfl q _ (Array.mem_of_getElem? (i := 1) rfl) rfl
    refine wpOp_of ho ?_ ?_
    · match i', hlt with
      | 0, _ => cases ho; rfl
      | 1, _ => cases ho; rfl
      | 2, _ => cases ho; rfl
      | 3, _ => cases ho; rfl
      | 4, _ => cases ho; rfl
      | 5, _ => cases ho; rfl
      | 6, _ => cases ho; rfl
      | 7, _ => cases ho; rfl
    obtain ⟨m1, M1, m2, M2, b3, b4, hG⟩ := hG
    have hcells : ∀ {w' : World}, Below w.drew.heap.size w.drew w' → w'.cell? ⟨b1, 0, none⟩ = some u0 ∧ w'.cell? ⟨b1, 1, none⟩ = some u1 ∧ w'.cell? ⟨b1, 2, none⟩ = some u2 ∧ w'.cell? ⟨b1, 3, none⟩ = some u3 ∧ w'.cell? ⟨b1, 4, none⟩ = some u4 ∧ w'.cell? ⟨b1, 5, none⟩ = some u5 := fun g => by
      have hh : w'.heap[b1]? = w'.heap[b1]? := rfl
      have := (g.block b1 hlt1).trans hb
      exact ⟨by rw [cell_of_row this]; rfl, by rw [cell_of_row this]; rfl, by rw [cell_of_row this]; rfl, by rw [cell_of_row this]; rfl, by rw [cell_of_row this]; rfl, by rw [cell_of_row this]; rfl⟩
    have hmem : ∀ {w' : World}, Below w.drew.heap.size w.drew w' → Lib.Utf8Tabs 0 1 w' ∧ RD w' (fun b => b < w'.heap.size) w'.heap.size (encV d .any fun _ => v) (.agg #[u0, u1, u2, u3, u4, u5]) := fun {w'} g => by
      have l0 := tab_lt0 hT
      have l1 := tab_lt1 hT
      refine ⟨tab_of hT (g.block 0 l0) (g.block 1 l1), ?_⟩
      cases hd with
      | agg _ vs hl hx =>
        refine .agg _ _ hl fun i av u g1 g2 => ?_
        have := cells_flag (fr := .any) (fr' := .any) (D' := fun b => b < w.heap.size) (B' := w'.heap.size) (fun b hb _ => ⟨hb, trivial⟩) d (fun _ => v) i av av u g1 g1 (hx i av u g1 g2)
        exact RD.mono (w := w.drew) (D := fun b => b < w.heap.size) (fun b hb => g.block b hb) (fun b hb => Nat.lt_of_lt_of_le hb g.size) (Nat.le_refl _) (RD.mono (w := w) (w' := w.drew) (fun _ _ => rfl) (fun _ h => h) (Nat.le_refl _) this)
    match i', hlt with
    | 0, _ =>
      cases ho
      have n6 : D 6 = false := by cases q : D 6 with | false => rfl | true => exact absurd (cl6 q).2.2.2.1 (by simp [hD])
      have n7 : D 7 = false := by cases q : D 7 with | false => rfl | true => exact absurd (cl7 q) (by simp [n6])
      have h := hG.elim (fun q => q.2.2) (fun q => absurd q.1 (by simp [n6]))
      have hgr := h.grow
      obtain ⟨c0, c1, c2, c3, c4, c5⟩ := hcells hgr
      have s1 := h.s1
      have hres := h.op0 hD
      clear hcl hpre hG cl6 cl7 cl3 hcells hmem hgr hd hsz25
      go_simp
      exact ⟨m1, M1, m2, M2, b3, b4, .inl ⟨by simp [n6], by simp [n7], hres⟩⟩
    | 1, _ =>
      cases ho
      have n6 : D 6 = false := by cases q : D 6 with | false => rfl | true => exact absurd (cl6 q).2.1 (by simp [hD])
      have n7 : D 7 = false := by cases q : D 7 with | false => rfl | true => exact absurd (cl7 q) (by simp [n6])
      have h := hG.elim (fun q => q.2.2) (fun q => absurd q.1 (by simp [n6]))
      have hgr := h.grow
      have y0 : D 0 = true := hpre _ (Array.mem_of_getElem? (i := 0) rfl) rfl
      have s5 := h.d0 y0
      obtain ⟨g1, g2⟩ := hmem hgr
      have hcall := (Clone_ok d v hv).mem (pure_cells _ _ _) (fresh_encV _ _) g1 g2
      have n3 : D 3 = false := by cases q : D 3 with | false => rfl | true => exact absurd (cl3 q) (by simp [hD])
      clear hcl hpre hG cl6 cl7 cl3 hcells hmem hgr hd hsz25 g1 g2
      go_simp
      refine hcall.mono fun e w1 hx => ?_
      obtain ⟨c, rfl, q1, q2⟩ := hx
      exact ⟨_, _, _, _, _, _, .inl ⟨by simp [n6], by simp [n7], h.op1 hD n3 q1 q2⟩⟩
    | 2, _ =>
      cases ho
      have n6 : D 6 = false := by cases q : D 6 with | false => rfl | true => exact absurd (cl6 q).2.2.2.2.2 (by simp [hD])
      have n7 : D 7 = false := by cases q : D 7 with | false => rfl | true => exact absurd (cl7 q) (by simp [n6])
      have h := hG.elim (fun q => q.2.2) (fun q => absurd q.1 (by simp [n6]))
      have hgr := h.grow
      obtain ⟨c0, c1, c2, c3, c4, c5⟩ := hcells hgr
      have s1 := h.s1
      have hres := h.op2 hD
      clear hcl hpre hG cl6 cl7 cl3 hcells hmem hgr hd hsz25
      go_simp
      exact ⟨m1, M1, m2, M2, b3, b4, .inl ⟨by simp [n6], by simp [n7], hres⟩⟩
    | 3, _ =>
      cases ho
      have n6 : D 6 = false := by cases q : D 6 with | false => rfl | true => exact absurd (cl6 q).2.2.1 (by simp [hD])
      have n7 : D 7 = false := by cases q : D 7 with | false => rfl | true => exact absurd (cl7 q) (by simp [n6])
      have h := hG.elim (fun q => q.2.2) (fun q => absurd q.1 (by simp [n6]))
      have hgr := h.grow
      have y2 : D 2 = true := hpre _ (Array.mem_of_getElem? (i := 0) rfl) rfl
      have s5 := h.d2 y2
      obtain ⟨g1, g2⟩ := hmem hgr
      have hcall := (copied_ok d v hv).mem (pure_cells _ _ _) (fresh_encV _ _) g1 g2
      have n3 : D 1 = true := hpre _ (Array.mem_of_getElem? (i := 1) rfl) rfl
      clear hcl hpre hG cl6 cl7 cl3 hcells hmem hgr hd hsz25 g1 g2
      go_simp
      refine hcall.mono fun e w1 hx => ?_
      obtain ⟨c, rfl, q1, q2⟩ := hx
      exact ⟨_, _, _, _, _, _, .inl ⟨by simp [n6], by simp [n7], h.op3 hD n3 q1 q2⟩⟩
    | 4, _ =>
      cases ho
      have n6 : D 6 = false := by cases q : D 6 with | false => rfl | true => exact absurd (cl6 q).1 (by simp [hD])
      have n7 : D 7 = false := by cases q : D 7 with | false => rfl | true => exact absurd (cl7 q) (by simp [n6])
      have h := hG.elim (fun q => q.2.2) (fun q => absurd q.1 (by simp [n6]))
      have hgr := h.grow
      have hres := h.op4 hD (vs := #[.int .i64 0, .int .i64 0, .int .i64 0, .string ⟨#[]⟩, .slice none 0 0, .slice none 0 0]) rfl
      clear hcl hpre hG cl6 cl7 cl3 hcells hmem hgr hd hsz25
      go_simp
      exact ⟨_, _, _, _, _, _, .inl ⟨by simp [n6], by simp [n7], hres⟩⟩
    | 5, _ =>
      cases ho
      have n6 : D 6 = false := by cases q : D 6 with | false => rfl | true => exact absurd (cl6 q).2.2.2.2.1 (by simp [hD])
      have n7 : D 7 = false := by cases q : D 7 with | false => rfl | true => exact absurd (cl7 q) (by simp [n6])
      have h := hG.elim (fun q => q.2.2) (fun q => absurd q.1 (by simp [n6]))
      have hgr := h.grow
      have hres := h.op5 hD (vs := #[.int .i64 0, .int .i64 0, .int .i64 0, .string ⟨#[]⟩, .slice none 0 0, .slice none 0 0]) rfl
      clear hcl hpre hG cl6 cl7 cl3 hcells hmem hgr hd hsz25
      go_simp
      exact ⟨_, _, _, _, _, _, .inl ⟨by simp [n6], by simp [n7], hres⟩⟩
    | 6, _ =>
      cases ho
      have y4 : D 4 = true := hpre _ (Array.mem_of_getElem? (i := 0) rfl) rfl
      have y1 : D 1 = true := hpre _ (Array.mem_of_getElem? (i := 1) rfl) rfl
      have y3 : D 3 = true := hpre _ (Array.mem_of_getElem? (i := 2) rfl) rfl
      have y5 : D 5 = true := hpre _ (Array.mem_of_getElem? (i := 8) rfl) rfl
      have n7 : D 7 = false := by cases q : D 7 with | false => rfl | true => exact absurd (cl7 q) (by simp [hD])
      have h := hG.elim (fun q => q.2.2) (fun q => absurd q.1 (by simp [hD]))
      have hc := (h.d1 y1).2.2.2
      have ho := (h.d3 y3).2.2.2
      obtain ⟨c, ec⟩ : ∃ c, a.tmps.getD 6 undef = .agg c := by
        generalize a.tmps.getD 6 undef = x at hc
        cases hc with | agg _ vs _ _ => exact ⟨vs, rfl⟩
      obtain ⟨o, eo⟩ : ∃ o, a.tmps.getD 8 undef = .agg o := by
        generalize a.tmps.getD 8 undef = x at ho
        cases ho with | agg _ vs _ _ => exact ⟨vs, rfl⟩
      obtain ⟨e3, _, _, ⟨vs, g1, g2⟩, _⟩ := h.d4 y4
      rw [ec] at hc
      obtain ⟨o1, o2⟩ := rd_one hc
      have hrun := store_box Tryd.prog hsz25 g1 g2 o1 o2
      have hres := TwoEnd.one h y1 y3 y4 y5 ec eo
      refine wp_store (p := .tmp 3) (x := .tmp 6) rfl (w2 := w'.setRow b3 c) (by show (Instr.storeAt 25 (a.tmps.getD 3 undef) (a.tmps.getD 6 undef)).run Tryd.prog w' = _; rw [e3, ec]; exact hrun) ?_
      exact ⟨m1, M1, m2, M2, b3, b4, .inr ⟨by simp, c, o, by show TwoEnd _ _ _ _ _ _ true (D 7 || 7 == 6) a _ _ _ _ _ _ _ c o; simpa [n7] using hres⟩⟩
    | 7, _ =>
      cases ho
      have y6 : D 6 = true := hpre _ (Array.mem_of_getElem? (i := 2) rfl) rfl
      obtain ⟨c, o, h⟩ := hG.elim (fun q => absurd q.1 (by simp [y6])) (fun q => q.2)
      rw [hD] at h
      obtain ⟨vs, g1, g2⟩ := h.h4
      obtain ⟨o1, o2⟩ := rd_one h.ro
      have hrun := store_box Tryd.prog hsz25 g1 g2 o1 o2
      have hres := h.two
      have e4 := h.s4
      have e8 := h.s8
      refine wp_store (p := .tmp 4) (x := .tmp 8) rfl (w2 := w'.setRow b4 o) (by show (Instr.storeAt 25 (a.tmps.getD 4 undef) (a.tmps.getD 8 undef)).run Tryd.prog w' = _; rw [e4, e8]; exact hrun) ?_
      exact ⟨m1, M1, m2, M2, b3, b4, .inr ⟨by simp [y6], c, o, by show TwoEnd _ _ _ _ _ _ true (D 7 || 7 == 7) a _ _ _ _ _ _ _ c o; simpa using hres⟩⟩
  · obtain ⟨m1, M1, m2, M2, b3, b4, hG⟩ := hG
    rcases hG with ⟨q, _⟩ | ⟨_, c, o, q⟩
    · rw [hall 6 (by decide)] at q; cases q
    · rw [hall 7 (by decide)] at q
      exact ⟨m1, M1, m2, M2, b3, b4, c, o, q⟩
end Go.Ai

namespace Go.Ai
open Go Go.Proofs Go.RowKit Go.Lib
set_option maxRecDepth 100000
set_option maxHeartbeats 2000000

def s8a (d : Nat) (v : V) : SS := ⟨28, [(1, .ptr 1 0)], [(1, .box (cells d .any fun _ => v))]⟩
def s8b (d : Nat) (v : V) (R : Nat → Prop) : SS := ⟨28, [(4, .ptr 4 0), (3, .ptr 3 0), (1, .ptr 1 0)], [(1, .box (cells d (.sat fun b => ¬ R b) fun _ => v)), (3, .box (cells d (.own R) fun _ => v)), (4, .box (cells d (.sat fun b => ¬ R b) fun _ => v))]⟩

theorem six_of (vs : Array Value) (h : vs.size = 6) : ∃ u0 u1 u2 u3 u4 u5, vs = #[u0, u1, u2, u3, u4, u5] := by
  obtain ⟨l⟩ := vs
  match l, h with
  | [u0, u1, u2, u3, u4, u5], _ => exact ⟨_, _, _, _, _, _, rfl⟩

theorem agg_six {w : World} {D : Nat → Prop} {B : Nat} {fr : FB} {d : Nat} {v : Unit → V} {c : Array Value} (h : RD w D B (encV d fr v) (.agg c)) (j : Nat) (av : AV) (u : Value) (h1 : (cells d fr v)[j]? = some av) (h2 : c[j]? = some u) : RD w D B av u := by
  cases h with
  | agg _ vs _ hx => exact hx j av u h1 h2

theorem copies_awp {E : Env} {K : Exit → Env → AS → Prop} (d : Nat) (v : V) (hv : V.le d v) (hK : ∀ E' R, Ext E E' → (∀ b, R b → E'.X b) → K .normal E' (s8b d v R).st) : AWp none Tryd.prog E copies8 K (s8a d v).st := by
  refine .of_wp fun a w ⟨β, h⟩ => ?_
  have hsz : a.tmps.size = 28 := h.size
  have q1 := h.tmps 1 (.ptr 1 0) rfl
  obtain ⟨b1, hβ1, e1⟩ := q1.ptr_inv
  have ho := h.objs 1
  change OR E w β (s8a d v).st.obj 1 (.box (cells d .any fun _ => v)) at ho
  obtain ⟨b1', vs, ty, hβ', hh, hown, hvl, hcells⟩ := ho
  rw [hβ1] at hβ'
  simp at hβ'; subst hβ'
  have hD : ∀ b, E.D w β (s8a d v).st.obj b → b < w.heap.size ∧ b ≠ b1 := fun b hb => ⟨hb.2.1, fun e => hb.2.2 1 trivial (by rw [hβ1, e]; rfl)⟩
  have hdata : RD w (E.D w β (s8a d v).st.obj) w.heap.size (encV d .any fun _ => v) (.agg vs) := .agg _ _ hvl fun i av u g1 g2 => by
    have := (hcells i av u g1 g2).pure (pureL_get (show AV.pureL (cells d .any fun _ => v) = true by simp [cells, cellsG, AV.pureL]) i _ g1)
    exact cells_flag (fr := .any) (fr' := .any) (D' := E.D w β (s8a d v).st.obj) (B' := w.heap.size) (fun b hb _ => ⟨hb, trivial⟩) d (fun _ => v) i av av u g1 g1 this
  have hlt1 : b1 < w.heap.size := (Array.getElem?_eq_some_iff.1 hh).1
  have hvs6 : vs.size = 6 := hvl.symm
  obtain ⟨u0, u1, u2, u3, u4, u5, rfl⟩ := six_of vs hvs6
  obtain ⟨tm, df⟩ := a
  obtain rfl : df = E.df := h.defers
  have hRD : RD w (fun b => b < w.heap.size) w.heap.size (encV d .any fun _ => v) (.agg #[u0, u1, u2, u3, u4, u5]) := hdata.mono (fun _ _ => rfl) (fun b hb => (hD b hb).1) (Nat.le_refl _)
  refine wp_mono (copies_run d v hv tm E.df hsz b1 u0 u1 u2 u3 u4 u5 ty w h.tab e1 hh hRD) fun e a' w' hp => ?_
  cases e with
  | normal =>
    obtain ⟨m1, M1, m2, M2, b3, b4, c, o, T⟩ := hp
    have hN : w.drew.heap.size = w.heap.size := rfl
    have hblk : ∀ b, b < w.heap.size → w'.heap[b]? = w.heap[b]? := fun b hb => T.grow.block b hb
    have hsize : w.heap.size ≤ w'.heap.size := T.grow.size
    obtain ⟨l1, l2, l3, l4, l5⟩ := T.lt
    obtain ⟨x1, x2, x3, x4⟩ := T.l3
    obtain ⟨y1, y2, y3, y4⟩ := T.l4
    have hNle : E.N ≤ w.heap.size := h.frame.size
    rw [hN] at l1 x1 y1
    let R : Nat → Prop := fun b => m1 ≤ b ∧ b < M1
    let E' : Env := {
      w0 := w'
      B := E.B
      D0 := fun b => E.D w β (s8a d v).st.obj b ∨ (m2 ≤ b ∧ b < M2)
      X := fun b => b = b1 ∨ b = b3 ∨ b = b4 ∨ R b
      pin := E.pin
      hpin := E.hpin
      Y := E.Y
      df := E.df
      hB := Nat.le_trans E.hB (Nat.le_trans h.frame.size hsize)
      hD := fun b hb => by
        rcases hb with hb | hb
        · have := hD b hb
          exact ⟨by omega, fun q => by rcases q with q | q | q | ⟨q, _⟩ <;> omega⟩
        · exact ⟨by omega, fun q => by rcases q with q | q | q | ⟨_, q⟩ <;> first | omega | (subst q; first | exact x4 hb | exact y4 hb)⟩
      hX := fun b hb => by rcases hb with q | q | q | ⟨_, q⟩ <;> omega
      hY := fun b hy => by
        have hyN := (E.hY b hy).1
        have hyN' : b < E.N := hyN
        refine ⟨by omega, fun q => ?_, fun q => ?_⟩
        · rcases q with q | q
          · exact noY_D q hy
          · omega
        · rcases q with q | q | q | ⟨q, _⟩
          · subst q; exact noY E hown hy
          · omega
          · omega
          · omega
      hdf := fun d hd => by
        obtain ⟨b, rfl, hx, hy, hh'⟩ := E.hdf d hd
        have hbl : b < E.N := (Array.getElem?_eq_some_iff.1 hh').1
        refine ⟨b, rfl, fun q => ?_, hy, ?_⟩
        · rcases q with q | q | q | ⟨q, _⟩
          · subst q; exact hown.elim hx fun q => by omega
          · omega
          · omega
          · omega
        · rw [hblk b (by omega), h.frame.block b hbl hx]; exact hh'
      ndf := E.ndf
      hT := tab_of h.tab (hblk 0 (h.dIn E.hTD.1).2.1) (hblk 1 (h.dIn E.hTD.2).2.1)
      hTD := ⟨.inl (h.dIn E.hTD.1), .inl (h.dIn E.hTD.2)⟩ }
    have hExt : Ext E E' := ⟨Nat.le_refl _, rfl, rfl, T.grow.os.trans h.frame.os, T.grow.tape.trans h.frame.tape, T.grow.output.trans h.frame.output, Nat.le_trans hNle hsize, fun b hb => by
        rcases hb with q | q | q | ⟨q, _⟩
        · subst q; exact hown
        · exact .inr (by show E.N ≤ b; omega)
        · exact .inr (by show E.N ≤ b; omega)
        · exact .inr (by show E.N ≤ b; omega), fun b hb => hb.elim (fun q => q.1) fun q => .inr (.inr (by omega)), fun b hb hx _ => (hblk b (by have : b < E.N := hb; omega)).trans (h.frame.block b hb hx), fun b hb => .inl hb⟩
    refine ⟨E', (s8b d v R).st, hExt, hK E' R hExt (fun b hb => .inr (.inr (.inr hb))), fun k => if k = 1 then .pointer (some ⟨b1, 0, none⟩) else if k = 3 then .pointer (some ⟨b3, 0, none⟩) else if k = 4 then .pointer (some ⟨b4, 0, none⟩) else undef, ?_⟩
    have hblkβ : ∀ (k b : Nat), ((s8b d v R).st.obj k).is → blkOf (if k = 1 then .pointer (some ⟨b1, 0, none⟩) else if k = 3 then .pointer (some ⟨b3, 0, none⟩) else if k = 4 then .pointer (some ⟨b4, 0, none⟩) else undef) = some b → (k = 1 ∧ b = b1) ∨ (k = 3 ∧ b = b3) ∨ (k = 4 ∧ b = b4) := by
      intro k b hi hb
      by_cases k1 : k = 1
      · rw [if_pos k1] at hb; simp [blkOf] at hb; exact .inl ⟨k1, hb.symm⟩
      · by_cases k3 : k = 3
        · rw [if_neg k1, if_pos k3] at hb; simp [blkOf] at hb; exact .inr (.inl ⟨k3, hb.symm⟩)
        · by_cases k4 : k = 4
          · rw [if_neg k1, if_neg k3, if_pos k4] at hb; simp [blkOf] at hb; exact .inr (.inr ⟨k4, hb.symm⟩)
          · rw [if_neg k1, if_neg k3, if_neg k4] at hb; simp [undef, blkOf] at hb
    have hE'D : ∀ b, (E'.D0 b ∨ E'.X b) → b < w'.heap.size → b ≠ b1 → b ≠ b3 → b ≠ b4 → E'.D w' (fun k => if k = 1 then .pointer (some ⟨b1, 0, none⟩) else if k = 3 then .pointer (some ⟨b3, 0, none⟩) else if k = 4 then .pointer (some ⟨b4, 0, none⟩) else undef) (s8b d v R).st.obj b := fun b hb hlt n1 n3 n4 => ⟨hb.elim .inl fun q => .inr (.inl q), hlt, fun k hi hq => by rcases hblkβ k b hi hq with ⟨_, q⟩ | ⟨_, q⟩ | ⟨_, q⟩ <;> contradiction⟩
    have hr1 : ∀ (j : Nat) (av : AV) (u : Value), (cells d (.sat fun b => ¬ R b) fun _ => v)[j]? = some av → (#[u0, u1, u2, u3, u4, u5] : Array Value)[j]? = some u → RD w' (E'.D w' (fun k => if k = 1 then .pointer (some ⟨b1, 0, none⟩) else if k = 3 then .pointer (some ⟨b3, 0, none⟩) else if k = 4 then .pointer (some ⟨b4, 0, none⟩) else undef) (s8b d v R).st.obj) E'.B av u := fun j av u hj hu => by
      have hj6 : j < (cells d .any fun _ => v).length := (List.getElem?_eq_some_iff.1 (show (cells d (.sat fun b => ¬ R b) fun _ => v)[j]? = some av from hj)).1
      have q := (agg_six hdata j _ u (List.getElem?_eq_getElem hj6) hu).mono (w' := w') (D' := E.D w β (s8a d v).st.obj) (fun b hb => hblk b (hD b hb).1) (fun _ hb => hb) (Nat.le_refl _)
      refine cells_flag (fr := .any) (fr' := .sat fun b => ¬ R b) (fun b hb _ => ⟨hE'D b (.inl (.inl hb)) ?_ (hD b hb).2 ?_ ?_, ?_⟩) d (fun _ => v) j _ av u (List.getElem?_eq_getElem hj6) hj q
      · have := (hD b hb).1; omega
      · have := (hD b hb).1; omega
      · have := (hD b hb).1; omega
      · have := (hD b hb).1
        rintro ⟨q1, _⟩; omega
    have hr3 : ∀ (j : Nat) (av : AV) (u : Value), (cells d (.own R) fun _ => v)[j]? = some av → c[j]? = some u → RD w' (E'.D w' (fun k => if k = 1 then .pointer (some ⟨b1, 0, none⟩) else if k = 3 then .pointer (some ⟨b3, 0, none⟩) else if k = 4 then .pointer (some ⟨b4, 0, none⟩) else undef) (s8b d v R).st.obj) E'.B av u := fun j av u hj hu => by
      have hj6 : j < (cells d .new fun _ => v).length := (List.getElem?_eq_some_iff.1 (show (cells d (.own R) fun _ => v)[j]? = some av from hj)).1
      have q := agg_six T.rc j _ u (List.getElem?_eq_getElem hj6) hu
      refine cells_flag (fr := .new) (fr' := .own R) (fun b hb hp => ⟨hE'D b (.inr (.inr (.inr (.inr hb)))) ?_ ?_ ?_ ?_, hb, hp.2⟩) d (fun _ => v) j _ av u (List.getElem?_eq_getElem hj6) hj q
      · omega
      · omega
      · rintro rfl; exact x3 hb
      · rintro rfl; exact y3 hb
    have hr4 : ∀ (j : Nat) (av : AV) (u : Value), (cells d (.sat fun b => ¬ R b) fun _ => v)[j]? = some av → o[j]? = some u → RD w' (E'.D w' (fun k => if k = 1 then .pointer (some ⟨b1, 0, none⟩) else if k = 3 then .pointer (some ⟨b3, 0, none⟩) else if k = 4 then .pointer (some ⟨b4, 0, none⟩) else undef) (s8b d v R).st.obj) E'.B av u := fun j av u hj hu => by
      have hj6 : j < (cells d .new fun _ => v).length := (List.getElem?_eq_some_iff.1 (show (cells d (.sat fun b => ¬ R b) fun _ => v)[j]? = some av from hj)).1
      have q := agg_six T.ro j _ u (List.getElem?_eq_getElem hj6) hu
      refine cells_flag (fr := .new) (fr' := .sat fun b => ¬ R b) (fun b hb hp => ⟨hE'D b (.inl (.inr hb)) ?_ ?_ ?_ ?_, ?_⟩) d (fun _ => v) j _ av u (List.getElem?_eq_getElem hj6) hj q
      · omega
      · omega
      · rintro rfl; exact x4 hb
      · rintro rfl; exact y4 hb
      · rintro ⟨_, q2⟩; omega
    refine ⟨T.df, T.size, fun t av ht => ?_, fun k => ?_, fun k k' b hne h1 h2 h3 h4 => ?_, ⟨rfl, rfl, rfl, Nat.le_refl _, fun _ _ _ => rfl⟩, fun k u n0 hp => ?_⟩
    · have hlt : t < 28 := by have := (List.getElem?_eq_some_iff.1 ht).1; simpa [s8b, SS.st] using this
      rw [(s8b d v R).as_get hlt] at ht
      cases ht
      by_cases t4 : t = 4
      · subst t4; show RX _ _ _ _ _ (.ptr 4 0) _; rw [T.s4]; exact .ptr _ _ b4 rfl
      · by_cases t3 : t = 3
        · subst t3; show RX _ _ _ _ _ (.ptr 3 0) _; rw [T.s3]; exact .ptr _ _ b3 rfl
        · by_cases t1 : t = 1
          · subst t1; show RX _ _ _ _ _ (.ptr 1 0) _; rw [T.s1]; exact .ptr _ _ b1 rfl
          · have : alook (s8b d v R).l t = .any := by
              show alook [(4, .ptr 4 0), (3, .ptr 3 0), (1, .ptr 1 0)] t = .any
              rw [alook_ne (Ne.symm t4), alook_ne (Ne.symm t3), alook_ne (Ne.symm t1)]; rfl
            rw [this]; exact .d (.any _)
    · by_cases k1 : k = 1
      · subst k1
        exact ⟨b1, _, ty, rfl, (hblk b1 hlt1).trans hh, .inl (.inl rfl), rfl, fun j av u hj hu => .d (hr1 j av u hj hu)⟩
      · by_cases k3 : k = 3
        · subst k3
          exact ⟨b3, c, 25, rfl, T.h3 rfl, .inl (.inr (.inl rfl)), (rd_one T.rc).1.symm, fun j av u hj hu => .d (hr3 j av u hj hu)⟩
        · by_cases k4 : k = 4
          · subst k4
            exact ⟨b4, o, 25, rfl, T.h4' rfl, .inl (.inr (.inr (.inl rfl))), (rd_one T.ro).1.symm, fun j av u hj hu => .d (hr4 j av u hj hu)⟩
          · have : (s8b d v R).st.obj k = .none := by
              show olook [(1, _), (3, _), (4, _)] k = .none
              simp only [olook]; rw [if_neg (Ne.symm k1), if_neg (Ne.symm k3), if_neg (Ne.symm k4)]
            rw [this]; trivial
    · rcases hblkβ k b h1 h3 with ⟨p1, p2⟩ | ⟨p1, p2⟩ | ⟨p1, p2⟩ <;> rcases hblkβ k' b h2 h4 with ⟨r1, r2⟩ | ⟨r1, r2⟩ | ⟨r1, r2⟩ <;> first | omega | (exact absurd (p2.symm.trans r2) T.ne) | (exact absurd (r2.symm.trans p2) T.ne)
    · have hpass := E.hpin k _ hp
      have : (s8b d v R).st.obj k = .none := by
        show olook [(1, _), (3, _), (4, _)] k = .none
        have k1 : 1 ≠ k := fun e => by subst e; simp [isPass] at hpass
        have k3 : 3 ≠ k := fun e => by subst e; simp [isPass] at hpass
        have k4 : 4 ≠ k := fun e => by subst e; simp [isPass] at hpass
        simp only [olook]; rw [if_neg k1, if_neg k3, if_neg k4]
      rw [this]
      exact ⟨fun _ q => (by cases q), fun _ _ _ _ _ _ q => (by cases q)⟩
  | _ => exact hp.elim

def poke8 : Code := .region 4 #[{ dst := some 23, op := Go.Op.load 25 (Go.Operand.tmp 3), type := 25, pos := "law.go:72", after := #[], guard := none }, { dst := some 24, op := Go.Op.call { callee := Go.Callee.value (Go.Operand.func 25), args := #[Go.Operand.tmp 23], argTypes := #[25] }, type := 0, pos := "law.go:72", after := #[{ on := 0, ground := Go.Ground.data }], guard := none }] false

def s8c (d : Nat) (v : V) (R : Nat → Prop) : SS := ⟨28, [(4, .ptr 4 0), (1, .ptr 1 0)], [(1, .box (cells d (.sat fun b => ¬ R b) fun _ => v)), (4, .box (cells d (.sat fun b => ¬ R b) fun _ => v))]⟩

theorem poke8_awp {E : Env} (d : Nat) (v : V) (hv : V.le d v) (ht : 1073741824 + tot d v < 9223372036854775807) (R : Nat → Prop) (hRX : ∀ b, R b → E.X b) : AWp none Tryd.prog E poke8 (thenK (fun E' S' => E' = E ∧ S' = (s8c d v R).st) (fun _ _ _ => False)) (s8b d v R).st := by
  refine .of_wp fun a w ⟨β, h⟩ => ?_
  have hsz : a.tmps.size = 28 := h.size
  have q3 := h.tmps 3 (.ptr 3 0) rfl
  obtain ⟨b3, hβ3, e3⟩ := q3.ptr_inv
  have ho := h.objs 3
  change OR E w β (s8b d v R).st.obj 3 (.box (cells d (.own R) fun _ => v)) at ho
  obtain ⟨b3', vs, ty, hβ', hh, hown, hvl, hcells⟩ := ho
  rw [hβ3] at hβ'
  simp at hβ'; subst hβ'
  have hrd : ∀ (j : Nat) (av : AV) (u : Value), (cells d (.own R) fun _ => v)[j]? = some av → vs.toList[j]? = some u → RD w (E.D w β (s8b d v R).st.obj) E.B av u := fun j av u hj hu =>
    (hcells j av u hj (by simpa using hu)).pure (pureL_get (show AV.pureL (cells d (.own R) fun _ => v) = true by simp [cells, cellsG, AV.pureL]) j _ hj)
  have hsh := sh_of (fr := .own R) (q := R) (fun b hb => hb) d v vs.toList hv (by rw [Array.length_toList]; exact hvl.symm) hrd
  have hcall := poke_ok d v _ _ vs.toList w hsh (fun b hb => hb.1.2.1) ht
  have hvs6 : vs.size = 6 := hvl.symm
  obtain ⟨u0, u1, u2, u3, u4, u5, rfl⟩ := six_of vs hvs6
  have c0 : w.cell? ⟨b3, 0, none⟩ = some u0 := by rw [cell_of_row hh]; rfl
  have c1 : w.cell? ⟨b3, 1, none⟩ = some u1 := by rw [cell_of_row hh]; rfl
  have c2 : w.cell? ⟨b3, 2, none⟩ = some u2 := by rw [cell_of_row hh]; rfl
  have c3 : w.cell? ⟨b3, 3, none⟩ = some u3 := by rw [cell_of_row hh]; rfl
  have c4 : w.cell? ⟨b3, 4, none⟩ = some u4 := by rw [cell_of_row hh]; rfl
  have c5 : w.cell? ⟨b3, 5, none⟩ = some u5 := by rw [cell_of_row hh]; rfl
  obtain ⟨Q, hQ⟩ : ∃ Q : Exit → Act → World → Prop, Q = fun e a' w' => ∃ E' S', Ext E E' ∧ thenK (fun E' S' => E' = E ∧ S' = (s8c d v R).st) (fun _ _ _ => False) e E' S' ∧ Rel E' S' a' w' := ⟨_, rfl⟩
  have hend : ∀ (x y : Value) (w1 : World), Sim (fun b => E.D w β (s8b d v R).st.obj b ∧ R b) (1073741824 + tot d v) w w1 → Q .normal ⟨(a.tmps.setIfInBounds 23 x).setIfInBounds 24 y, a.defers⟩ w1 := fun x y w1 hs => by
    rw [hQ]
    refine ⟨E, (s8c d v R).st, .refl E, ⟨rfl, rfl⟩, β, ?_⟩
    refine poke_rel (p := fun b => ¬ R b) h hs (fun b hb => ⟨fun q => q hb.2, hb.1, .inl (hRX b hb.2)⟩) (fun o => ?_) (fun o => ?_) rfl (by simp [hsz, s8c, SS.st]) (fun t av q => ?_) (fun b hb => hb.elim .inr fun q => .inl (Nat.not_lt.2 q))
    · by_cases k1 : o = 1
      · subst k1; exact .inr rfl
      · by_cases k4 : o = 4
        · subst k4; exact .inr rfl
        · left; show olook [(1, _), (4, _)] o = .none; simp only [olook]; rw [if_neg (Ne.symm k1), if_neg (Ne.symm k4)]
    · by_cases k1 : o = 1
      · subst k1; exact .inr ⟨d, v, rfl⟩
      · by_cases k4 : o = 4
        · subst k4; exact .inr ⟨d, v, rfl⟩
        · left; show olook [(1, _), (4, _)] o = .none; simp only [olook]; rw [if_neg (Ne.symm k1), if_neg (Ne.symm k4)]
    · have hlt : t < 28 := by have := (List.getElem?_eq_some_iff.1 q).1; simpa [s8c, SS.st] using this
      rw [(s8c d v R).as_get hlt] at q
      cases q
      by_cases t4 : t = 4
      · subst t4; exact ⟨rfl, .inr ⟨rfl, by rw [get_set (by decide), get_set (by decide)]⟩⟩
      · by_cases t1 : t = 1
        · subst t1; exact ⟨rfl, .inr ⟨rfl, by rw [get_set (by decide), get_set (by decide)]⟩⟩
        · have : alook (s8c d v R).l t = .any := by
            show alook [(4, .ptr 4 0), (1, .ptr 1 0)] t = .any
            rw [alook_ne (Ne.symm t4), alook_ne (Ne.symm t1)]; rfl
          rw [this]; exact ⟨rfl, .inl rfl⟩
  rw [← hQ]
  clear hQ hrd hsh hcells q3 hRX
  unfold poke8
  refine wp_region_lit ?_
  refine wpList_plain rfl fun K hK => ?_
  go_simp
  refine hK _ _ ?_
  refine wpList_plain rfl fun K' hK' => ?_
  have e23 : (a.tmps.setIfInBounds 23 (.agg #[u0, u1, u2, u3, u4, u5])).getD 23 undef = .agg #[u0, u1, u2, u3, u4, u5] := get_own (by rw [hsz]; decide)
  go_simp
  refine hcall.mono fun e w1 hx => ?_
  obtain ⟨rfl, hs⟩ := hx
  exact hK' _ _ (wpList_nil (hend _ _ w1 hs))


theorem le_subF (d : Nat) (fr : FB) (v : Unit → V) (b : Bool) (i : Unit → Nat) : LeL (sub d fr v b i) (sub d .any v b i) := by
  cases d with
  | zero => exact LeL.of_eq rfl
  | succ d => cases b with
    | true => exact le_any d fr _
    | false => exact LeL.cons' (le_any d fr _)

theorem law_clones (d : Nat) (v : V) (hv : V.le d v) (ht : 1073741824 + tot d v < 9223372036854775807) : AFun Tryd.prog 8 [encV d .any fun _ => v] [] (.bool fun _ => true) [] := by
  have hS := same_ok d v hv
  have hE : AFun Tryd.prog 31 [encV d .any fun _ => v, encV d .any fun _ => v] [] (.bool fun _ => true) [] := by
    have := Equal_ok d v v hv hv
    rwa [(cmpV_cmp d).refl] at this
  have hP := fun (E : Env) (R : Nat → Prop) (h : ∀ b, R b → E.X b) => poke8_awp (E := E) d v hv ht R h
  clear ht
  apply AFun.ofH T4_ok mixed4 1 [.tmp 2] kp8 [] Tryd.func8 (fun E => ?_)
  (any_goals ((with_reducible refine wkH_id ?_); cbv; (try dsimp only [nc] at *); (repeat' (with_reducible first | exact all_nil.2 trivial | exact ob_nil | refine ob_cons ?_ ?_ | refine VC.mk rfl ?_ ?_ ?_ | (refine CondVC.mk ?_ ?_ <;> intro hz <;> (try simp only [nc, bytes_empty, if_or, if_and] at hz) <;> (try simp only [Bool.false_eq_true, Bool.true_eq_false, Bool.and_eq_true, Bool.or_eq_true, Bool.not_eq_true', Bool.not_eq_true, Bool.and_eq_false_iff, Bool.or_eq_false_iff, Bool.not_eq_false', beq_iff_eq, beq_eq_false_iff_ne, bne_iff_ne, bne_eq_false_iff_eq, dec_t, dec_f, ne_eq, Decidable.not_not, Int.ofNat_lt, Int.ofNat_le, Int.toNat_natCast, Int.not_lt, Int.not_le, Nat.not_lt, Nat.not_le] at hz) <;> (revert hz; intro _)) | (refine end_exit ?_; cbv; (try dsimp only [nc] at *)) | (refine end_out ?_; cbv; (try dsimp only [nc] at *))))))
  ((all_goals (try (with_reducible first | (refine end_ret ?_; (focus (cbv; (try dsimp only [nc] at *); (try simp only [all_nil, all_cons, and_true, true_and, nc]); (try (repeat' (with_reducible apply And.intro))); (all_goals (try first | rfl | exact fun _ _ => LeL.of_eq rfl | exact LeL.of_eq rfl | trivial | omega))))) | (refine end_normal ?_; (focus (cbv; (try dsimp only [nc] at *); (try simp only [all_nil, all_cons, and_true, true_and, nc]); (try (repeat' (with_reducible apply And.intro))); (all_goals (try first | rfl | exact fun _ _ => LeL.of_eq rfl | exact LeL.of_eq rfl | trivial | omega)))))))); (all_goals (try (focus ((with_reducible rw [all_cons]); (try simp only [all_cons, all_nil, and_true, nc]); (repeat' (with_reducible apply And.intro)); (all_goals (try first | exact fun _ _ h => h | exact fun _ h => h | exact fun h => h | exact pick_t | exact pick_f | omega | (focus (intros; (try simp only [nc, bytes_empty, if_or, if_and] at *); (try simp only [Bool.false_eq_true, Bool.true_eq_false, Bool.and_eq_true, Bool.or_eq_true, Bool.not_eq_true', Bool.not_eq_true, Bool.and_eq_false_iff, Bool.or_eq_false_iff, Bool.not_eq_false', beq_iff_eq, beq_eq_false_iff_ne, bne_iff_ne, bne_eq_false_iff_eq, beq_true, beq_false, dec_t, dec_f, ne_eq, Decidable.not_not, Int.ofNat_lt, Int.ofNat_le, Int.toNat_natCast, Int.not_lt, Int.not_le, Nat.not_lt, Nat.not_le] at *); (try simp (disch := omega) only [w64] at *); (first | omega | assumption | ((repeat' (with_reducible apply And.intro)) <;> first | omega | assumption)))))))))))
  refine ⟨fun hok => .seq ?_⟩
  refine copies_awp d v hv fun E' R hEx hR => ?_
  refine AWp.wkH_end T4_ok mixed4 1 [(2, [(0, known_ok.out), (5, .bool fun _ => true, []), (11, .bool fun _ => true, [])])] kp8 ?_ (SS.ok_of rfl)
  (any_goals ((with_reducible refine wkH_id ?_); cbv; (try dsimp only [nc] at *); (repeat' (with_reducible first | exact all_nil.2 trivial | exact ob_nil | refine ob_cons ?_ ?_ | refine VC.mk rfl ?_ ?_ ?_ | (refine CondVC.mk ?_ ?_ <;> intro hz <;> (try simp only [if_or] at hz) <;> (try simp only [Bool.true_eq_false, Bool.or_eq_true, Bool.not_eq_true', Bool.or_eq_false_iff, Bool.not_eq_false'] at hz) <;> (revert hz; intro _)) | (refine end_exit ?_; cbv; (try dsimp only [nc] at *)) | (refine end_out ?_; cbv; (try dsimp only [nc] at *))))))
  (any_goals ((with_reducible first | refine hob_none ?_ | refine hob_some (fun _ => ?_)) <;> exact known_ok))
  any_goals (first | ((with_reducible first | refine hob_none ?_ | refine hob_some (fun _ => ?_)); (try dsimp only); refine AFun.weak_in hS ?_; (focus (cbv; (try dsimp only [nc] at *); (try simp only [all_nil, all_cons, and_true, true_and]); (try (repeat' (with_reducible apply And.intro))); (all_goals (try first | rfl | exact fun _ _ => LeL.of_eq rfl | exact LeL.of_eq rfl | trivial | omega)))); all_goals (try exact fun i _ => le_subF _ _ _ _ _); done) | fail)
  any_goals (first | ((with_reducible first | refine hob_none ?_ | refine hob_some (fun _ => ?_)); (try dsimp only); refine AFun.weak_in hE ?_; (focus (cbv; (try dsimp only [nc] at *); (try simp only [all_nil, all_cons, and_true, true_and]); (try (repeat' (with_reducible apply And.intro))); (all_goals (try first | rfl | exact fun _ _ => LeL.of_eq rfl | exact LeL.of_eq rfl | trivial | omega)))); all_goals (try exact fun i _ => le_subF _ _ _ _ _); done) | fail)
  ((all_goals (try (with_reducible first | (refine end_ret ?_; (focus (cbv; (try dsimp only [nc] at *); (try simp only [all_nil, all_cons, and_true]); (try (repeat' (with_reducible apply And.intro))); (all_goals (try first | rfl | exact fun _ _ => LeL.of_eq rfl | exact LeL.of_eq rfl | trivial | omega))))) | (refine end_normal ?_; (focus (cbv; (try dsimp only [nc] at *); (try simp only [all_nil, all_cons, and_true, true_and, nc]); (try (repeat' (with_reducible apply And.intro))); (all_goals (try first | rfl | exact fun _ _ => LeL.of_eq rfl | exact LeL.of_eq rfl | trivial | omega)))))))); (all_goals (try (focus ((with_reducible rw [all_cons]); (try simp only [all_cons, all_nil, and_true]); (repeat' (with_reducible apply And.intro)); (all_goals (try first | exact fun _ _ h => h | exact fun _ h => h | exact fun h => h | exact pick_t | exact pick_f | omega | (focus (intros; (try simp only [nc, bytes_empty, if_or, if_and] at *); (try simp only [Bool.false_eq_true, Bool.true_eq_false, Bool.and_eq_true, Bool.or_eq_true, Bool.not_eq_true', Bool.not_eq_true, Bool.and_eq_false_iff, Bool.or_eq_false_iff, Bool.not_eq_false', beq_iff_eq, beq_eq_false_iff_ne, bne_iff_ne, bne_eq_false_iff_eq, beq_true, beq_false, dec_t, dec_f, ne_eq, Decidable.not_not, Int.ofNat_lt, Int.ofNat_le, Int.toNat_natCast, Int.not_lt, Int.not_le, Nat.not_lt, Nat.not_le] at *); (try simp (disch := omega) only [w64] at *); (first | omega | assumption | ((repeat' (with_reducible apply And.intro)) <;> first | omega | assumption)))))))))))
  refine ⟨fun hok2 => .seq (.weak (weakS_of (s' := s8b d v R) ?_) ((hP E' R hR).mono fun e E2 S2 _ hk => ?_))⟩
  · (focus (cbv; (try dsimp only [nc] at *); (try simp only [all_nil, all_cons, and_true, true_and]); (try (repeat' (with_reducible apply And.intro))); (all_goals (try first | rfl | exact fun _ _ => LeL.of_eq rfl | exact LeL.of_eq rfl | trivial | omega))))
    all_goals (first | exact fun _ h => h | exact fun _ _ => LeL.of_eq rfl)
  cases e with
  | normal =>
    obtain ⟨rfl, rfl⟩ := hk
    refine AWp.wk_end T4_ok mixed4 [(5, [(2, .bool fun _ => true, [])])] kp8 ?_ (SS.ok_of rfl)
    (any_goals ((with_reducible refine wk_id ?_); cbv; (try dsimp only [nc] at *); (repeat' (with_reducible first | exact all_nil.2 trivial | exact ob_nil | refine ob_cons ?_ ?_ | refine VC.mk rfl ?_ ?_ ?_ | (refine CondVC.mk ?_ ?_ <;> intro hz <;> (try simp only [nc, bytes_empty, if_or, if_and] at hz) <;> (try simp only [Bool.false_eq_true, Bool.true_eq_false, Bool.and_eq_true, Bool.or_eq_true, Bool.not_eq_true', Bool.not_eq_true, Bool.and_eq_false_iff, Bool.or_eq_false_iff, Bool.not_eq_false', beq_iff_eq, beq_eq_false_iff_ne, bne_iff_ne, bne_eq_false_iff_eq, dec_t, dec_f, ne_eq, Decidable.not_not, Int.ofNat_lt, Int.ofNat_le, Int.toNat_natCast, Int.not_lt, Int.not_le, Nat.not_lt, Nat.not_le] at hz) <;> (revert hz; intro _)) | (refine end_exit ?_; cbv; (try dsimp only [nc] at *)) | (refine end_out ?_; cbv; (try dsimp only [nc] at *))))))
    any_goals (first | ((with_reducible first | refine hob_none ?_ | refine hob_some (fun _ => ?_)); (try dsimp only); refine AFun.weak_in hS ?_; (focus (cbv; (try dsimp only [nc] at *); (try simp only [all_nil, all_cons, and_true, true_and]); (try (repeat' (with_reducible apply And.intro))); (all_goals (try first | rfl | exact fun _ _ => LeL.of_eq rfl | exact LeL.of_eq rfl | trivial | omega)))); all_goals (try exact fun i _ => le_subF _ _ _ _ _); done) | fail)
    ((all_goals (try (with_reducible first | (refine end_ret ?_; (focus (cbv; (try dsimp only [nc] at *); (try simp only [all_nil, all_cons, and_true]); (try (repeat' (with_reducible apply And.intro))); (all_goals (try first | rfl | exact fun _ _ => LeL.of_eq rfl | exact LeL.of_eq rfl | trivial | omega))))) | (refine end_normal ?_; (focus (cbv; (try dsimp only [nc] at *); (try simp only [all_nil, all_cons, and_true, true_and, nc]); (try (repeat' (with_reducible apply And.intro))); (all_goals (try first | rfl | exact fun _ _ => LeL.of_eq rfl | exact LeL.of_eq rfl | trivial | omega)))))))); (all_goals (try (focus ((with_reducible rw [all_cons]); (try simp only [all_cons, all_nil, and_true, nc]); (repeat' (with_reducible apply And.intro)); (all_goals (try first | exact fun _ _ h => h | exact fun _ h => h | exact fun h => h | exact pick_t | exact pick_f | omega | (focus (intros; (try simp only [nc, bytes_empty, if_or, if_and] at *); (try simp only [Bool.false_eq_true, Bool.true_eq_false, Bool.and_eq_true, Bool.or_eq_true, Bool.not_eq_true', Bool.not_eq_true, Bool.and_eq_false_iff, Bool.or_eq_false_iff, Bool.not_eq_false', beq_iff_eq, beq_eq_false_iff_ne, bne_iff_ne, bne_eq_false_iff_eq, beq_true, beq_false, dec_t, dec_f, ne_eq, Decidable.not_not, Int.ofNat_lt, Int.ofNat_le, Int.toNat_natCast, Int.not_lt, Int.not_le, Nat.not_lt, Nat.not_le] at *); (try simp (disch := omega) only [w64] at *); (first | omega | assumption | ((repeat' (with_reducible apply And.intro)) <;> first | omega | assumption)))))))))))
  | _ => exact hk.elim
end Go.Ai
