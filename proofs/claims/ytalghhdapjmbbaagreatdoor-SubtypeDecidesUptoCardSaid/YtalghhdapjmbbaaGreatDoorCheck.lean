/- Chapter 4: the document's Check. -/
import Derived.Test.YtalghhdapjmbbaaGreatDoorFnG
set_option linter.all false
namespace Go.Ai
open Go Go.Proofs
set_option maxRecDepth 100000
set_option maxHeartbeats 2000000
theorem V.le_up:∀ {d:Nat} {v:V},V.le d v→V.le (d+1) v
  | 0,_,h=>h.elim
  | _+1,_,h=>⟨h.1,h.2.1,h.2.2.1,fun x hx=>V.le_up (h.2.2.2.1 x hx),fun x hx=>⟨(h.2.2.2.2 x hx).1,V.le_up (h.2.2.2.2 x hx).2⟩⟩
theorem V.le_mono {d e:Nat} {v:V} (h:V.le d v) (he:d≤e):V.le e v:=by
  induction he with
  | refl=>exact h
  | step _ ih=>exact V.le_up ih
theorem cells_up:∀ (d:Nat) (v:Unit→V),V.le d (v ())→LeL (cells d .any v) (cells (d+1) .any v):=by
  have key:∀ (d:Nat) (v:Unit→V),V.le d (v ())→∀ (w:World) (D:Nat→Prop) (B j:Nat) (av av':AV) (u:Value),(cells d .any v)[j]? = some av→(cells (d+1) .any v)[j]? = some av'→RD w D B av u→RD w D B av' u:=by
    intro d
    induction d with
    | zero=>intro v hv;exact hv.elim
    | succ d ih =>
      intro v hv w D B j av av' u h1 h2 h
      match j with
      | 0|1|2|3=>simp [cells,cellsG] at h1 h2;subst h1;subst h2;exact h
      | 4 =>
        simp [cells,cellsG] at h1 h2;subst h1;subst h2
        exact rd_slc h (fun _ _=>trivial) rfl fun i hi=>⟨rfl,fun _=>rfl,fun w D B j av av' u h1 h2 h=>ih _ (V.le_list hv hi) w D B j av av' u h1 h2 h⟩
      | 5 =>
        simp [cells,cellsG] at h1 h2;subst h1;subst h2
        refine rd_slc h (fun _ _=>trivial) rfl fun i hi=>⟨rfl,fun _=>rfl,fun w D B j av av' u h1 h2 h=>?_⟩
        cases j with
        | zero=>simp [sub] at h1 h2;subst h1;subst h2;exact h
        | succ j=>exact ih _ (V.le_field hv hi) w D B j av av' u h1 h2 h
      | n+6=>simp [cells,cellsG] at h1
  exact fun d v hv=>⟨rfl,fun _=>rfl,fun w D B j av av' u h1 h2 h=>key d v hv w D B j av av' u h1 h2 h⟩
theorem LeL.app {l m:List AV} (h:LeL l m) (a:AV):LeL (l++[a]) (m++[a]):=by
  obtain ⟨h1,h2,h3⟩:=h
  refine ⟨by simp [h1],fun hc=>?_,fun w D B j av av' u q1 q2 q=>?_⟩
  · simp only [List.all_append,Bool.and_eq_true] at hc ⊢
    exact ⟨h2 hc.1,hc.2⟩
  · by_cases hj:j<l.length
    · rw [List.getElem?_append_left hj] at q1
      rw [List.getElem?_append_left (by omega)] at q2
      exact h3 w D B j av av' u q1 q2 q
    · rw [List.getElem?_append_right (by omega)] at q1 q2
      rw [← h1,q1] at q2
      cases q2;exact q
end Go.Ai
