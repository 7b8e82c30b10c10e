/- Chapter 10: Unknown. -/
import Derived.Test.YtlplmdipoacnlaaGreatDoorDecB
import Derived.Test.YtlplmdipoacnlaaGreatDoorDecA
import Derived.Test.YtlplmdipoacnlaaGreatDoorTyD
import Derived.Test.YtlplmdipoacnlaaGreatDoorEncE
import Derived.Test.YtlplmdipoacnlaaGreatDoorWrB
import Derived.Test.YtlplmdipoacnlaaGreatDoorJoin
import Derived.Test.YtlplmdipoacnlaaGreatDoorReadT
set_option linter.all false
namespace Go.Ai
open Go Go.Proofs
set_option maxRecDepth 100000
set_option maxHeartbeats 4000000
def rowsI (l : Unit → List Int) : (Unit → Nat) → List AV := fun i => [.int .i64 fun _ => (l ()).getD (i ()) 0]
def slcI (l : Unit → List Int) : AV := .slc .any 1 (fun _ => (l ()).length) (rowsI l)
def unkL (t : Ty) (l : PL) : List Int := (l.map Prod.fst).filter fun n => decide (idxI (byNum n) t.fields < 0)
def unkV (t : Ty) (u : ByteArray) : List Int × Int := if t.kind ≠ 9 then ([], 11) else if (partsV u).2.2 ≠ 0 then ([], (partsV u).2.2) else (unkL t (partsV u).1, 0)
theorem rowsI_app {l : List Int} {a : Int} : ∀ k, k < l.length + 1 → LeL (catF (fun _ => l.length) (rowsI fun _ => l) (litArr [[AV.int .i64 fun _ => a]]) fun _ => k) (rowsI (fun _ => l ++ [a]) fun _ => k) := by
  refine cat_le (n := fun _ => l.length) (m := 1) (fun k hk => LeL.of_eq ?_) (fun k hk => LeL.of_eq ?_)
  · have hk : k < l.length := hk
    simp only [rowsI, List.getD_eq_getElem?_getD, List.getElem?_append_left hk]
  · have : k = 0 := by omega
    subst this
    simp [rowsI, litArr]
theorem Unknown_ok (e d : Nat) (t : Ty) (ht : Ty.le e (d + 1) t) (u : ByteArray) (hu : u.size ≤ 1073741824) (hl : (partsV u).2.2 = 0 → (partsV u).1.length ≤ u.size) :
    AFun Tryz.prog 32 [encT e (d + 1) .any fun _ => t, .str fun _ => u] [] (.tup [slcI fun _ => (unkV t u).1, .int .i64 fun _ => (unkV t u).2]) [] := by
  have hP := Parts_ok u hu
  obtain ⟨U, hU⟩ : ∃ U, U = unkV t u := ⟨_, rfl⟩
  have hUe := hU
  unfold unkV at hUe
  obtain ⟨P, hPe⟩ : ∃ P, P = partsV u := ⟨_, rfl⟩
  rw [← hPe] at hP hl hUe
  rw [← hU]
  clear hU hPe
  (apply AFun.of T4_ok mixed4 [.tmp 4, .tmp 5] kq32 [(3, [(1, .tup [slcP fun _ => P.1, .int .i64 fun _ => P.2.1, .int .i64 fun _ => P.2.2], [])])] Tryz.func32 (fun _ => ?_); (any_goals ((with_reducible refine wk_id ?_); cbv; (try dsimp only [nc] at *); (repeat' (with_reducible first | exact all_nil.2 trivial | exact ob_nil | refine ob_cons ?_ ?_ | refine VC.mk rfl ?_ ?_ ?_ | refine CondAny.mk (fun _ => ?_) (fun _ => ?_) | (refine CondVC.mk ?_ ?_ <;> intro zq <;> (try simp only [nc, cl] at zq) <;> (try simp only [bl, dl] at zq) <;> (revert zq; intro _)) | ((first | refine end_exit ?_ | refine end_out ?_); cbv; (try dsimp only [nc] at *)))))))
  (any_goals ((with_reducible first | refine hob_none ?_ | refine hob_some (fun _ => ?_)) <;> exact hP))
  ((all_goals (try (with_reducible ((first | refine end_ret ?_ | refine end_normal ?_); (focus (cbv; (try dsimp only [nc] at *); (try simp only [wl, nc]); (repeat' (with_reducible apply And.intro)); all_goals (try first | rfl | exact fun _ _ => lr rfl | exact lr rfl | trivial | omega))))))); (all_goals (try ((with_reducible rw [all_cons]); (try simp only [wl, nc]); (repeat' (with_reducible apply And.intro)); (all_goals (try first | exact True.intro | exact fun _ _ h => h | exact fun _ h => h | exact fun h => h | exact pick_t | exact pick_f | omega | (focus (intros; (try simp only [nc, cl] at *); (try simp only [bl, el, dl] at *); (try simp (disch := omega) only [w64] at *); (first | omega | assumption | ((repeat' (with_reducible apply And.intro)) <;> first | omega | assumption))))))))))
  · rw [hUe, if_pos ‹¬ t.kind = 9›]; rfl
  · rw [hUe, if_pos ‹¬ t.kind = 9›]
  · rw [hUe, if_neg (fun z => z ‹t.kind = 9›), if_pos ‹¬ P.2.2 = 0›]; rfl
  · rw [hUe, if_neg (fun z => z ‹t.kind = 9›), if_pos ‹¬ P.2.2 = 0›]
  rw [if_neg (fun z => z ‹t.kind = 9›), if_neg (fun z => z ‹P.2.2 = 0›)] at hUe
  have hl := hl ‹P.2.2 = 0›
  have hk9 := ‹t.kind = 9›
  refine .loop (fun p : Nat × List Int => ⟨48, [(28, .int .i64 fun _ => p.1), (27, .int .i64 fun _ => P.1.length), (26, slcP fun _ => P.1), (9, .aref 200 1 fun _ => p.2.length), (2, boxT e (d + 1) fun _ => t)], [(200, .arr false 3 1 1 (fun _ => p.2.length) (rowsI fun _ => p.2))]⟩)
    (fun p => p.1 ≤ P.1.length ∧ p.2.length ≤ p.1 ∧ U = (p.2 ++ unkL t (P.1.drop p.1), 0)) (fun p => P.1.length - p.1) (0, []) ⟨Nat.zero_le _, Nat.le_refl _, by rw [hUe]; rfl⟩ ?_ fun p E hi => ?_
  · (focus (cbv; (try dsimp only [nc] at *); (try simp only [wl, nc]); (repeat' (with_reducible apply And.intro)); all_goals (try first | rfl | exact fun _ _ => lr rfl | exact lr rfl | trivial | omega)))
  obtain ⟨i1, i2, i3⟩ := hi
  by_cases h : p.1 < P.1.length
  · obtain ⟨x, hx⟩ : ∃ x, x = P.1.getD p.1 default := ⟨_, rfl⟩
    have hd : P.1.drop p.1 = x :: P.1.drop (p.1 + 1) := by
      rw [List.drop_eq_getElem_cons h, hx, List.getD_eq_getElem?_getD, List.getElem?_eq_getElem h, Option.getD_some]
    rw [hd] at i3
    by_cases hh : idxI (byNum x.1) t.fields < 0
    · have hN := Numbered_no e d t ht x.1 (fun q => by have := q.2; omega)
      have i4 : U = (p.2 ++ [x.1] ++ unkL t (P.1.drop (p.1 + 1)), 0) := by
        rw [i3]; simp only [unkL, List.map_cons, List.filter_cons, hh, decide_true, if_true, List.append_assoc, List.cons_append, List.nil_append]
      apply AWp.wk T4_ok mixed4 [(10, [(3, .tup [encTF e d .any fun _ => default, .bool fun _ => false], [])])] kq32 ?_
      (any_goals ((with_reducible refine wk_id ?_); cbv; (try dsimp only [nc] at *); (repeat' (with_reducible first | exact all_nil.2 trivial | exact ob_nil | refine ob_cons ?_ ?_ | refine VC.mk rfl ?_ ?_ ?_ | refine CondAny.mk (fun _ => ?_) (fun _ => ?_) | (refine CondVC.mk ?_ ?_ <;> intro zq <;> (try simp only [nc, cl] at zq) <;> (try simp only [bl, dl] at zq) <;> (revert zq; intro _)) | ((first | refine end_exit ?_ | refine end_out ?_); cbv; (try dsimp only [nc] at *))))))
      all_goals (try exact absurd h (Nat.not_lt.2 ‹P.1.length ≤ p.1›))
      all_goals (try simp only [Int.toNat_natCast, ← hx] at *)
      (any_goals ((with_reducible first | refine hob_none ?_ | refine hob_some (fun _ => ?_)) <;> exact hN))
      ((all_goals (try (with_reducible ((first | refine end_ret ?_ | refine end_normal ?_); (focus (cbv; (try dsimp only [nc] at *); (try simp only [wl, nc]); (repeat' (with_reducible apply And.intro)); all_goals (try first | rfl | exact fun _ _ => lr rfl | exact lr rfl | trivial | omega))))))); (all_goals (try ((with_reducible rw [all_cons]); (try simp only [wl, nc]); (repeat' (with_reducible apply And.intro)); (all_goals (try first | exact True.intro | exact fun _ _ h => h | exact fun _ h => h | exact fun h => h | exact pick_t | exact pick_f | omega | (focus (intros; (try simp only [nc, cl] at *); (try simp only [bl, el, dl] at *); (try simp (disch := omega) only [w64] at *); (first | omega | assumption | ((repeat' (with_reducible apply And.intro)) <;> first | omega | assumption))))))))))
      refine end_round (p.1 + 1, p.2 ++ [x.1]) ⟨⟨by show p.1 + 1 ≤ _; omega, by show (p.2 ++ [x.1]).length ≤ p.1 + 1; rw [List.length_append]; simp only [List.length_cons, List.length_nil]; omega, i4⟩, by show _ - (p.1 + 1) < _ - p.1; omega⟩ ?_
      (focus (cbv; (try dsimp only [nc] at *); (try simp only [wl, nc]); (repeat' (with_reducible apply And.intro)); all_goals (try first | rfl | exact fun _ _ => lr rfl | exact lr rfl | trivial | omega)))
      · exact w64n (by omega)
      all_goals first
        | (rw [List.length_append]; rfl)
        | (rw [List.length_append]; exact rowsI_app)
        | exact rowsI_app
        | trace_state
    · have hN := Numbered_yes e d t ht x.1 ⟨.inl hk9, by omega⟩
      have i4 : U = (p.2 ++ unkL t (P.1.drop (p.1 + 1)), 0) := by
        rw [i3]; simp only [unkL, List.map_cons, List.filter_cons, hh, decide_false, Bool.false_eq_true, if_false]
      apply AWp.wk T4_ok mixed4 [(10, [(3, .tup [encTF e d .any fun _ => getTF t (byNum x.1), .bool fun _ => true], [])])] kq32 ?_
      (any_goals ((with_reducible refine wk_id ?_); cbv; (try dsimp only [nc] at *); (repeat' (with_reducible first | exact all_nil.2 trivial | exact ob_nil | refine ob_cons ?_ ?_ | refine VC.mk rfl ?_ ?_ ?_ | refine CondAny.mk (fun _ => ?_) (fun _ => ?_) | (refine CondVC.mk ?_ ?_ <;> intro zq <;> (try simp only [nc, cl] at zq) <;> (try simp only [bl, dl] at zq) <;> (revert zq; intro _)) | ((first | refine end_exit ?_ | refine end_out ?_); cbv; (try dsimp only [nc] at *))))))
      all_goals (try exact absurd h (Nat.not_lt.2 ‹P.1.length ≤ p.1›))
      all_goals (try simp only [Int.toNat_natCast, ← hx] at *)
      (any_goals ((with_reducible first | refine hob_none ?_ | refine hob_some (fun _ => ?_)) <;> exact hN))
      ((all_goals (try (with_reducible ((first | refine end_ret ?_ | refine end_normal ?_); (focus (cbv; (try dsimp only [nc] at *); (try simp only [wl, nc]); (repeat' (with_reducible apply And.intro)); all_goals (try first | rfl | exact fun _ _ => lr rfl | exact lr rfl | trivial | omega))))))); (all_goals (try ((with_reducible rw [all_cons]); (try simp only [wl, nc]); (repeat' (with_reducible apply And.intro)); (all_goals (try first | exact True.intro | exact fun _ _ h => h | exact fun _ h => h | exact fun h => h | exact pick_t | exact pick_f | omega | (focus (intros; (try simp only [nc, cl] at *); (try simp only [bl, el, dl] at *); (try simp (disch := omega) only [w64] at *); (first | omega | assumption | ((repeat' (with_reducible apply And.intro)) <;> first | omega | assumption))))))))))
      refine end_round (p.1 + 1, p.2) ⟨⟨by show p.1 + 1 ≤ _; omega, by show p.2.length ≤ p.1 + 1; omega, i4⟩, by show _ - (p.1 + 1) < _ - p.1; omega⟩ ?_
      (focus (cbv; (try dsimp only [nc] at *); (try simp only [wl, nc]); (repeat' (with_reducible apply And.intro)); all_goals (try first | rfl | exact fun _ _ => lr rfl | exact lr rfl | trivial | omega)))
      all_goals first
        | exact w64n (by omega)
        | trace_state
  · rw [List.drop_eq_nil_of_le (by omega)] at i3
    have i4 : U = (p.2, 0) := by rw [i3]; simp [unkL]
    apply AWp.wk T4_ok mixed4 [(10, [(3, .any, [])])] kq32 ?_
    (any_goals ((with_reducible refine wk_id ?_); cbv; (try dsimp only [nc] at *); (repeat' (with_reducible first | exact all_nil.2 trivial | exact ob_nil | refine ob_cons ?_ ?_ | refine VC.mk rfl ?_ ?_ ?_ | refine CondAny.mk (fun _ => ?_) (fun _ => ?_) | (refine CondVC.mk ?_ ?_ <;> intro zq <;> (try simp only [nc, cl] at zq) <;> (try simp only [bl, dl] at zq) <;> (revert zq; intro _)) | ((first | refine end_exit ?_ | refine end_out ?_); cbv; (try dsimp only [nc] at *))))))
    all_goals (try exact absurd ‹p.1 < P.1.length› h)
    ((all_goals (try (with_reducible ((first | refine end_ret ?_ | refine end_normal ?_); (focus (cbv; (try dsimp only [nc] at *); (try simp only [wl, nc]); (repeat' (with_reducible apply And.intro)); all_goals (try first | rfl | exact fun _ _ => lr rfl | exact lr rfl | trivial | omega))))))); (all_goals (try ((with_reducible rw [all_cons]); (try simp only [wl, nc]); (repeat' (with_reducible apply And.intro)); (all_goals (try first | exact True.intro | exact fun _ _ h => h | exact fun _ h => h | exact fun h => h | exact pick_t | exact pick_f | omega | (focus (intros; (try simp only [nc, cl] at *); (try simp only [bl, el, dl] at *); (try simp (disch := omega) only [w64] at *); (first | omega | assumption | ((repeat' (with_reducible apply And.intro)) <;> first | omega | assumption))))))))))
    all_goals rw [i4]
    all_goals (try exact fun i _ => LeL.of_eq rfl)
end Go.Ai

namespace Go.Ai
open Go Go.Proofs
set_option maxRecDepth 100000
set_option maxHeartbeats 4000000
theorem Kinds_ok (e d : Nat) (t : Ty) (ht : Ty.le e d t) (s : ByteArray) (hs : s.size ≤ 35184372088832) : AFun Tryz.prog 8 [encT e d .any fun _ => t, .str fun _ => s] [] (.bool fun _ => true) [] := by
  obtain ⟨u, hu⟩ : ∃ u, u = s.extract 0 (min s.size 200) := ⟨_, rfl⟩
  have hul : u.size ≤ 200 := by rw [hu]; simp [ByteArray.size_extract]; omega
  have hu2 : s.extract (Int.toNat 0) (if 200 < (s.size : Int) then 200 else (s.size : Int)).toNat = u := by
    rw [hu, show Int.toNat 0 = 0 from rfl, show (if 200 < (s.size : Int) then 200 else (s.size : Int)).toNat = min s.size 200 by split <;> omega]
  have hS := Small_ok e d t ht
  obtain ⟨a, ha⟩ : ∃ a, a = (smallT e d 12 t 200).1 := ⟨_, rfl⟩
  rw [← ha] at hS
  obtain ⟨d, rfl⟩ := Ty.le_pos ht
  have hX := parts_same u (by omega)
  have hD := Decode0_ok u (by omega)
  have hU := Unknown_ok e d t ht u (by omega) (fun z => by
    rcases hX with ⟨q, h⟩ | ⟨h, k, k2, k3⟩
    · rw [h] at z; exact absurd z q
    · exact k2)
  have hU1 : ¬ t.kind = 9 → unkV t u = ([], 11) := fun z => if_pos z
  have hU2 : t.kind = 9 → (unkV t u).2 = (decE u).2 ∧ ((decE u).2 = 0 ∨ (unkV t u).1 = []) := fun z => by
    have hv : unkV t u = if (partsV u).2.2 ≠ 0 then ([], (partsV u).2.2) else (unkL t (partsV u).1, 0) := if_neg (fun q => q z)
    rw [hv]
    rcases hX with ⟨q, h⟩ | ⟨h, k, k2, k3⟩
    · rw [h, if_pos q]; exact ⟨rfl, .inr rfl⟩
    · rw [k, h]; exact ⟨rfl, .inl rfl⟩
  obtain ⟨U, hUe⟩ : ∃ U, U = unkV t u := ⟨_, rfl⟩
  obtain ⟨D, hDe⟩ : ∃ P, P = decE u := ⟨_, rfl⟩
  rw [← hUe] at hU hU1 hU2
  rw [← hDe] at hD hU2
  clear hUe hDe hX ha hu
  (apply AFun.of T4_ok mixed4 [.tmp 4] kq8 [(0, [(0, .nil, [])]), (2, [(0, .bool fun _ => true, []), (4, .bool fun _ => a, [])]), (3, [(0, .bool fun _ => true, [])]),
    (4, [(2, .tup [slcI fun _ => U.1, .int .i64 fun _ => U.2], [])]), (7, [(2, .tup [encV 1 .any fun _ => if D.2 = 0 then recN else default, .int .i64 fun _ => D.1, .int .i64 fun _ => D.2], [])])] Tryz.func8 (fun _ => ?_); (any_goals ((with_reducible refine wk_id ?_); cbv; (try dsimp only [nc] at *); (repeat' (with_reducible first | exact all_nil.2 trivial | exact ob_nil | refine ob_cons ?_ ?_ | refine VC.mk rfl ?_ ?_ ?_ | refine CondAny.mk (fun _ => ?_) (fun _ => ?_) | (refine CondVC.mk ?_ ?_ <;> intro zq <;> (try simp only [nc, cl] at zq) <;> (try simp only [bl, dl] at zq) <;> (revert zq; intro _)) | ((first | refine end_exit ?_ | refine end_out ?_); cbv; (try dsimp only [nc] at *)))))))
  all_goals (try simp only [Bool.false_eq_true, if_false, hu2] at *)
  (any_goals ((with_reducible first | refine hob_none ?_ | refine hob_some (fun _ => ?_)) <;> exact known_ok))
  (any_goals ((with_reducible first | refine hob_none ?_ | refine hob_some (fun _ => ?_)) <;> exact hS))
  (any_goals ((with_reducible first | refine hob_none ?_ | refine hob_some (fun _ => ?_)) <;> exact hU))
  (any_goals ((with_reducible first | refine hob_none ?_ | refine hob_some (fun _ => ?_)); (try dsimp only); (have q := hD; refine AFun.weak_in q ?_; clear q); (focus (cbv; (try dsimp only [nc] at *); (try simp only [wl, nc]); (repeat' (with_reducible apply And.intro)); all_goals (try first | rfl | exact fun _ _ => lr rfl | exact lr rfl | trivial | omega)))))
  ((all_goals (try (with_reducible ((first | refine end_ret ?_ | refine end_normal ?_); (focus (cbv; (try dsimp only [nc] at *); (try simp only [wl, nc]); (repeat' (with_reducible apply And.intro)); all_goals (try first | rfl | exact fun _ _ => lr rfl | exact lr rfl | trivial | omega))))))); (all_goals (try ((with_reducible rw [all_cons]); (try simp only [wl, nc]); (repeat' (with_reducible apply And.intro)); (all_goals (try first | exact True.intro | exact fun _ _ h => h | exact fun _ h => h | exact fun h => h | exact pick_t | exact pick_f | omega | (focus (intros; (try simp only [nc, cl] at *); (try simp only [bl, el, dl] at *); (try simp (disch := omega) only [w64] at *); (first | omega | assumption | ((repeat' (with_reducible apply And.intro)) <;> first | omega | assumption))))))))))
  · rw [hU1 ‹¬ t.kind = 9›]; rfl
  · obtain ⟨q1, q2⟩ := hU2 ‹t.kind = 9›
    rw [q1]
    rcases q2 with q | q <;> simp [q]
end Go.Ai

namespace Go.Proofs.YtlplmdipoacnlaaGreatDoor
open Go Go.Ai Go.RowKit Go.ChangeShapes Go.WideShapes Go.ChangeAt
set_option maxRecDepth 100000
theorem kinds_contract (H : Type) (enc : TypeId × Value → H) (W : World) (base : Nat) (args : Array Value) (ds gs : List (DataW H)) (before : List MemPlace)
    (hval : ∀ (j : Nat) t v, Tryz.f8.params[j]? = some t → args[j]? = some v → Value.okWide Tryz.prog W .any base t v)
    (hW : DataW.Whole enc Tryz.prog Tryz.f8.params.toList Rows.taggedKindsSpec.vars false W args.toList ds gs before) (hk : Rows.uptoSmall H (ds ++ gs) = true) (hL : laidMetH Tryz.prog Rows.taggedKindsUptoRow.laid W) :
    Calls Tryz.prog 8 args W fun e W' => ∃ v, e = .returned v ∧ Rows.taggedKindsSpec.post enc Tryz.prog Tryz.f8 false true false false W args v W' := by
  have hW' := hW
  obtain ⟨p, q, hA, hV, rfl, _, _⟩ := hW
  obtain rfl := vars_nil hV
  rw [Tryz.params8] at hA hval
  obtain ⟨v0, vs0, d0, ds0, pa0, pb0, hargs, rfl, rfl, t0, r0⟩ := trodAll_cons hA
  obtain ⟨v1, vs1, d1, ds1, pa1, pb1, rfl, rfl, rfl, t1, r1⟩ := trodAll_cons r0
  obtain ⟨rfl, rfl, rfl⟩ := trodAll_nil r1
  obtain rfl : args = #[v0, v1] := by cases args; simp_all
  have hb : Rows.uptoBulkAll ([d0, d1] ++ []) ≤ 1048576 := of_decide_eq_true hk
  simp only [List.append_nil, Rows.uptoBulkAll] at hb
  obtain ⟨x0, h0, z0, a0⟩ := open_type t0 (by omega)
  obtain ⟨x1, rfl, rfl, _, _⟩ := Go.ChangeMaps.open_string Tryz.underlying9 (hval 1 9 v1 rfl rfl) t1
  have h1 : x1.size ≤ 1048576 := by simp only [Rows.uptoBulk, len_bytes] at hb; omega
  have a1 : RD W (fun b => b < W.heap.size) W.heap.size (.str fun _ => x1) (.string x1) := .str _
  refine (calls_law (Kinds_ok 1048576 1048576 x0 h0 x1 (by omega)) rfl (tabs_of hL) fun i av hi => ?_).mono fun e W' ⟨he, hbel⟩ => ⟨_, he, ?_⟩
  · match i with
    | 0 => simp only [List.getElem?_cons_zero, Option.some.injEq] at hi; subst hi; exact a0
    | 1 => simp only [List.getElem?_cons_zero, List.getElem?_cons_succ, Option.some.injEq] at hi; subst hi; exact a1
    | i + 2 => simp at hi
  · refine post_law (s := Rows.taggedKindsSpec) rfl (by kernel_rfl) rfl ?_ hW' hbel
    rw [Tryz.params8]
    intro t ht
    have : t = 26 ∨ t = 9 := by simp at ht; grind
    rcases this with rfl | rfl
    · exact ⟨by kernel_rfl, of_decide_eq_true (by kernel_rfl)⟩
    · exact ⟨by kernel_rfl, of_decide_eq_true (by kernel_rfl)⟩
theorem kinds_reads (os : Os) {H : Type} (enc : TypeId × Value → H) : ∃ places, DataW.whole enc Tryz.prog ((laidWorld os).forCall (fun _ _ => 0) ⟨#[], #[.agg #[.int .i64 0, .int .i64 0, .int .i64 0, .int .i64 0, .slice none 0 0, .slice none 0 0, .slice none 0 0], .string ⟨#[]⟩], []⟩).memory Tryz.f8.params.toList Rows.taggedKindsSpec.vars false (#[.agg #[.int .i64 0, .int .i64 0, .int .i64 0, .int .i64 0, .slice none 0 0, .slice none 0 0, .slice none 0 0], .string ⟨#[]⟩] : Array Value).toList 8 = some ([.agg [.lit (.int .i64 0), .lit (.int .i64 0), .lit (.int .i64 0), .lit (.int .i64 0), .nil, .nil, .nil], .lit (.string [])], [], places) :=
  ⟨[], by kernel_rfl⟩
theorem kinds_laid (os : Os) : laidMet Tryz.prog Rows.taggedKindsUptoRow.laid ((laidWorld os).forCall (fun _ _ => 0) ⟨#[], #[.agg #[.int .i64 0, .int .i64 0, .int .i64 0, .int .i64 0, .slice none 0 0, .slice none 0 0, .slice none 0 0], .string ⟨#[]⟩], []⟩).memory :=
  laidMet_of_run' 8 (by kernel_rfl) (by kernel_rfl)
theorem kinds_lifted (os : Os) (started : os.Started) (H : Type) (enc : TypeId × Value → H) (F : Stop.Interp) :
    ReturnsInHanded {} Tryz.checked os 8 .any ((Rows.OpenSpec.upto Rows.taggedKindsSpec).preRow enc Tryz.prog Tryz.f8 Rows.taggedKindsUptoRow.domain false Rows.taggedKindsUptoRow.laid) (((Rows.OpenSpec.upto Rows.taggedKindsSpec).at F).post enc Tryz.prog Tryz.f8 false true false false) := by
  obtain ⟨places, hx⟩ := kinds_reads os enc
  refine returnsInHanded_of_row (C := Tryz.checked) (s := Rows.OpenSpec.upto Rows.taggedKindsSpec) own4 started (by kernel_rfl) Tryz.func8
    (witness_row_at (enc := enc) (C := Tryz.checked) false (laidWorld os) #[.agg #[.int .i64 0, .int .i64 0, .int .i64 0, .int .i64 0, .slice none 0 0, .slice none 0 0, .slice none 0 0], .string ⟨#[]⟩] rfl (by kernel_rfl) (by kernel_rfl) (by kernel_rfl)
      (OpenSpec.preRow_of_cond 8 hx (by kernel_rfl) (fun k hk => by cases hk; kernel_rfl) (by kernel_rfl) (kinds_laid os))) ?_
  intro W base args ds gs before hval hW _ hcond _ hL _ _
  exact kinds_contract H enc W base args ds gs before hval hW (hcond _ rfl) hL
theorem kinds_said : Rows.TaggedKindsUptoSaid :=
  OpenClaim.holds_of_cond 8 Tryz.f8 rfl rfl rfl rfl rfl rfl rfl ⟨rfl, rfl, rfl, rfl, rfl⟩ rfl rfl rfl rfl rfl (by kernel_rfl) Tryz.func8 (by kernel_rfl)
    (of_decide_eq_true (by kernel_rfl)) (by unfold Func.isWrapper; first | (rw [if_pos (by decide +kernel)]; kernel_rfl) | (rw [if_neg (by decide +kernel)]; exact ⟨rfl, rfl⟩))
    (fun os started H enc _ F => by rw [OpenClaim.pre_eq_preRow]; exact kinds_lifted os started H enc F)
theorem kinds_plain (f : FuncId) (fn : Func) (hf : Tryz.pinned.checked.prog.funcNamed Rows.taggedKindsUptoRow.func = some f) (hfn : Tryz.pinned.checked.prog.funcs[f]? = some fn) :
    false = Tryz.pinned.checked.prog.looks [] ∧ ∀ (j : Nat) t, fn.params[j]? = some t → Tryz.pinned.checked.prog.wantsStandIn t = false := by
  obtain rfl : f = 8 := Option.some.inj ((show Tryz.prog.funcNamed Rows.taggedKindsUptoRow.func = some 8 by kernel_rfl).symm.trans hf) |>.symm
  obtain rfl : fn = Tryz.f8 := (Option.some.inj (Tryz.func8.symm.trans hfn)).symm
  refine ⟨by kernel_rfl, fun j t ht => ?_⟩
  rw [Tryz.params8] at ht
  have hm := Array.mem_of_getElem? ht
  have : t = 26 ∨ t = 9 := by simp at hm; grind
  rcases this with rfl | rfl
  · exact (show Tryz.prog.wantsStandIn 26 = false by kernel_rfl)
  · exact (show Tryz.prog.wantsStandIn 9 = false by kernel_rfl)
theorem taggedKinds_holds : Rows.TaggedKindsUptoCardSaid :=
  Claim7.holds_tied_plain_at .later [] _ _ _ _ kinds_said (fun _ h => by cases h) (by kernel_rfl) (fun _ h => by cases h) taggedKindsUpto_row_tie rfl ⟨rfl, rfl⟩ (by kernel_rfl) rfl kinds_plain (by kernel_rfl)
#print axioms taggedKinds_holds
end Go.Proofs.YtlplmdipoacnlaaGreatDoor
