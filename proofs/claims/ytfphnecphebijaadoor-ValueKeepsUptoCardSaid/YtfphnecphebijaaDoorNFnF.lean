/- Chapter 4: fields that are set. -/
import Derived.Test.YtfphnecphebijaaDoorNFnE
import Derived.Test.YtfphnecphebijaaDoorNInsB
import Derived.Test.YtfphnecphebijaaDoorNSrt
import Derived.Test.YtfphnecphebijaaDoorNFnB
namespace Go.Ai
open Go Go.Proofs
set_option maxRecDepth 100000
set_option maxHeartbeats 2000000

def withE (v : V) (s : ByteArray) (x : V) : Int := if v.kind ≠ 9 then 11 else if isName s = false then 12 else if isNull x = true then 19 else if findI v s < 0 ∧ 64 ≤ v.fields.length then 9 else 0

theorem With_err (d e : Nat) (v x : V) (s : ByteArray) (hv : V.le (d + 1) v) (hs : s.size ≤ 35184372088832) (h : withE v s x ≠ 0) :
    AFun Tryd.prog 22 [encV (d + 1) .any fun _ => v, .str fun _ => s, encV e .any fun _ => x] [] (.tup [encV (d + 1) .new fun _ => default, .int .i64 fun _ => withE v s x]) [] := by
  (apply AFun.of T4_ok mixed4 [.cell 6 25, .tmp 7] kp22 [(1, [(2, .int .i64 (fun _ => ?_), [])]), (4, [(1, .bool (fun _ => ?_), [])]), (6, [(1, .bool (fun _ => ?_), [])])] Tryd.func22 (fun _ => ?_); (any_goals ((with_reducible refine wk_id ?_); cbv; (try dsimp only [nc] at *); (repeat' (with_reducible first | exact all_nil.2 trivial | exact ob_nil | refine ob_cons ?_ ?_ | refine VC.mk rfl ?_ ?_ ?_ | (refine CondVC.mk ?_ ?_ <;> intro hz <;> (try simp only [nc, bytes_empty, if_or, if_and] at hz) <;> (try simp only [Bool.not_eq_true', Bool.not_eq_false', bne_iff_ne, bne_eq_false_iff_eq, ne_eq] at hz) <;> (revert hz; intro _)) | (refine end_exit ?_; cbv; (try dsimp only [nc] at *)) | (refine end_out ?_; cbv; (try dsimp only [nc] at *)))))))
  (any_goals ((with_reducible first | refine hob_none ?_ | refine hob_some (fun _ => ?_)) <;> exact (index_ok d v s hv.2.1)))
  (any_goals ((with_reducible first | refine hob_none ?_ | refine hob_some (fun _ => ?_)) <;> exact (IsName_ok s hs)))
  (any_goals ((with_reducible first | refine hob_none ?_ | refine hob_some (fun _ => ?_)) <;> exact (IsNull_ok e x)))
  (all_goals (try simp only [dec_t] at *))
  ((all_goals (try (with_reducible first | (refine end_ret ?_; (focus (cbv; (try dsimp only [nc] at *); (try simp only [all_nil, all_cons, and_true]); (try (repeat' (with_reducible apply And.intro))); (all_goals (try first | rfl | exact fun _ _ => LeL.of_eq rfl | exact LeL.of_eq rfl | trivial | omega))))) | (refine end_normal ?_; (focus (cbv; (try dsimp only [nc] at *); (try simp only [all_nil, all_cons, and_true, true_and, nc]); (try (repeat' (with_reducible apply And.intro))); (all_goals (try first | rfl | exact fun _ _ => LeL.of_eq rfl | exact LeL.of_eq rfl | trivial | omega)))))))); (all_goals (try (focus ((with_reducible rw [all_cons]); (try simp only [all_cons, all_nil, and_true]); (repeat' (with_reducible apply And.intro)); (all_goals (try first | exact fun _ _ h => h | exact fun _ h => h | exact fun h => h | exact pick_t | exact pick_f | omega | (focus (intros; (try simp only [nc, bytes_empty, if_or, if_and] at *); (try simp only [beq_true, dec_t] at *); (try simp (disch := omega) only [w64] at *); (first | omega | assumption | ((repeat' (with_reducible apply And.intro)) <;> first | omega | assumption)))))))))))
  · simp [withE, *]
  · simp [withE, *]
  · simp [withE, *]
  · simp only [withE, ne_eq, *]; simp_all; omega
  · exfalso; apply h; simp_all [withE]; omega

def setFs (v : V) (f : List (ByteArray × V)) : V := .mk v.kind v.int v.scale v.text v.list f
def repV (v : V) (s : ByteArray) (x : V) : V := setFs v (v.fields.set (findI v s).toNat ((v.fields.getD (findI v s).toNat default).1, x))
def atI (v : V) (s : ByteArray) : Nat := v.fields.findIdx fun y => gtB y.1 s
def insV (v : V) (s : ByteArray) (x : V) : V := setFs v (v.fields.insertIdx (atI v s) (s, x))

theorem withE_zero {v x : V} {s : ByteArray} (h : withE v s x = 0) : v.kind = 9 ∧ ¬ isName s = false ∧ ¬ isNull x = true ∧ ¬ (findI v s < 0 ∧ 64 ≤ v.fields.length) := by
  unfold withE at h
  by_cases h1 : v.kind = 9
  · by_cases h2 : isName s = false
    · rw [if_neg (by simp [h1]), if_pos h2] at h; cases h
    · by_cases h3 : isNull x = true
      · rw [if_neg (by simp [h1]), if_neg h2, if_pos h3] at h; cases h
      · by_cases h4 : findI v s < 0 ∧ 64 ≤ v.fields.length
        · rw [if_neg (by simp [h1]), if_neg h2, if_neg h3, if_pos h4] at h; cases h
        · exact ⟨h1, h2, h3, h4⟩
  · rw [if_pos h1] at h; cases h

theorem kill_if {c : Prop} [Decidable c] {b : Bool} (h : (if c then b else false) = true) (hn : ¬ c) : False := by rw [if_neg hn] at h; cases h

theorem fupd_set {d k i : Nat} {l : List (ByteArray × V)} {y : ByteArray × V} (hk : k < l.length) : LeL (fupd (fieldF d .new fun _ => l) (fun _ => k) (rowT d y) fun _ => i) (rowT d ((l.set k y).getD i default)) := by
  refine LeL.of_eq ?_
  unfold fupd
  by_cases h : i = k
  · subst h
    simp only [if_true]
    have : (l.set i y).getD i default = y := by simp [List.getD, hk]
    rw [this]
  · simp only [h, if_false]
    have : (l.set k y).getD i default = l.getD i default := by
      simp only [List.getD_eq_getElem?_getD, List.getElem?_set, if_neg (Ne.symm h)]
    rw [this]
    rfl

theorem With_rep (d : Nat) (v x : V) (s : ByteArray) (hv : V.le (d + 1) v) (hx : V.le d x) (hs : s.size ≤ 35184372088832) (h : withE v s x = 0) (hi : 0 ≤ findI v s) :
    AFun Tryd.prog 22 [encV (d + 1) .any fun _ => v, .str fun _ => s, encV d .any fun _ => x] [] (.tup [encV (d + 1) .new fun _ => repV v s x, .int .i64 fun _ => 0]) [] := by
  have hlt : findI v s < v.fields.length := idxI_lt
  obtain ⟨h9, hn, hx0, hlim⟩ := withE_zero h
  have hC := Clone_own d v hv (Clone_ok d)
  (apply AFun.of T4_ok mixed4 [.cell 6 25, .tmp 7] kp22 [(1, [(2, .int .i64 (fun _ => ?_), [])]), (4, [(1, .bool (fun _ => ?_), [])]), (6, [(1, .bool (fun _ => ?_), [])]), (10, [(1, hC.out)]), (12, [(4, encV d .new fun _ => ?_, [])])] Tryd.func22 (fun _ => ?_); (any_goals ((with_reducible refine wk_id ?_); cbv; (try dsimp only [nc] at *); (repeat' (with_reducible first | exact all_nil.2 trivial | exact ob_nil | refine ob_cons ?_ ?_ | refine VC.mk rfl ?_ ?_ ?_ | (refine CondVC.mk ?_ ?_ <;> intro hz <;> (try simp only [nc, bytes_empty, if_or, if_and] at hz) <;> (try simp only [Bool.not_eq_true', Bool.not_eq_false', bne_iff_ne, bne_eq_false_iff_eq, ne_eq] at hz) <;> (revert hz; intro _)) | (refine end_exit ?_; cbv; (try dsimp only [nc] at *)) | (refine end_out ?_; cbv; (try dsimp only [nc] at *)))))))
  (any_goals ((with_reducible first | refine hob_none ?_ | refine hob_some (fun _ => ?_)) <;> exact (index_ok d v s hv.2.1)))
  (any_goals ((with_reducible first | refine hob_none ?_ | refine hob_some (fun _ => ?_)) <;> exact (IsName_ok s hs)))
  (any_goals ((with_reducible first | refine hob_none ?_ | refine hob_some (fun _ => ?_)) <;> exact (IsNull_ok d x)))
  (any_goals ((with_reducible first | refine hob_none ?_ | refine hob_some (fun _ => ?_)) <;> exact hC))
  (any_goals ((with_reducible first | refine hob_none ?_ | refine hob_some (fun _ => ?_)) <;> exact (Clone_ok d x hx)))
  all_goals (try first | exact absurd h9 ‹¬v.kind = 9› | exact absurd ‹isName s = false› hn | exact absurd ‹isNull x = true› hx0 | exact absurd ‹findI v s < 0› (by omega))
  (all_goals (try simp only [dec_t, dec_f, Int.not_le] at *))
  all_goals (try first | exact absurd ‹findI v s < 0› (by omega) | (rename_i q; exact (kill_if q (by omega)).elim))
  ((all_goals (try (with_reducible first | (refine end_ret ?_; (focus (cbv; (try dsimp only [nc] at *); (try simp only [all_nil, all_cons, and_true]); (try (repeat' (with_reducible apply And.intro))); (all_goals (try first | rfl | exact fun _ _ => LeL.of_eq rfl | exact LeL.of_eq rfl | trivial | omega))))) | (refine end_normal ?_; (focus (cbv; (try dsimp only [nc] at *); (try simp only [all_nil, all_cons, and_true, true_and, nc]); (try (repeat' (with_reducible apply And.intro))); (all_goals (try first | rfl | exact fun _ _ => LeL.of_eq rfl | exact LeL.of_eq rfl | trivial | omega)))))))); (all_goals (try (focus ((with_reducible rw [all_cons]); (try simp only [all_cons, all_nil, and_true]); (repeat' (with_reducible apply And.intro)); (all_goals (try first | exact fun _ _ h => h | exact fun _ h => h | exact fun h => h | exact pick_t | exact pick_f | omega | (focus (intros; (try simp only [nc, bytes_empty, if_or, if_and] at *); (try simp only [Bool.false_eq_true, Bool.true_eq_false, Bool.and_eq_true, Bool.or_eq_true, Bool.not_eq_true', Bool.not_eq_true, Bool.and_eq_false_iff, Bool.or_eq_false_iff, Bool.not_eq_false', beq_iff_eq, beq_eq_false_iff_ne, bne_iff_ne, bne_eq_false_iff_eq, beq_true, beq_false, dec_t, dec_f, ne_eq, Decidable.not_not, Int.ofNat_lt, Int.ofNat_le, Int.toNat_natCast, Int.not_lt, Int.not_le, Nat.not_lt, Nat.not_le] at *); (try simp (disch := omega) only [w64] at *); (first | omega | assumption | ((repeat' (with_reducible apply And.intro)) <;> first | omega | assumption)))))))))))
  all_goals (try rfl)
  · simp [repV, setFs, V.fields]
  · exact fun i _ => fupd_set (d := d) (l := v.fields) (k := (findI v s).toNat) (y := ((v.fields.getD (findI v s).toNat default).1, x)) (by omega)

theorem insF_le {d a i : Nat} {l : List (ByteArray × V)} {y : ByteArray × V} {g : (Unit → Nat) → List AV} (ha : a ≤ l.length) (_hi : i < l.length + 1) (hg : LeL (g fun _ => 0) (rowT d y)) :
    LeL (insF a (fieldF d .new fun _ => l) g fun _ => i) (rowT d ((l.insertIdx a y).getD i default)) := by
  have hl : (l.insertIdx a y).length = l.length + 1 := by rw [List.length_insertIdx, if_pos ha]
  have he : (l.insertIdx a y).getD i default = if i < a then l.getD i default else if i = a then y else l.getD (i - 1) default := by
    simp only [List.getD_eq_getElem?_getD, List.getElem?_insertIdx]
    split
    · rfl
    · split
      · rename_i h1 h2; simp [h2, ha]
      · rfl
  rw [he]
  unfold insF
  by_cases h1 : i < a
  · simp only [h1, if_true]; exact LeL.of_eq rfl
  · by_cases h2 : i = a
    · simp only [h2, if_true, if_false, Nat.lt_irrefl]; exact hg
    · simp only [h1, h2, if_false]; exact LeL.of_eq rfl

theorem atI_idx {v : V} {s : ByteArray} (h : 0 ≤ idxI (fun y : ByteArray × V => gtB y.1 s) v.fields) : idxI (fun y : ByteArray × V => gtB y.1 s) v.fields = (atI v s : Int) := by
  unfold idxI at h ⊢
  unfold atI
  split
  · rfl
  · rename_i q; rw [if_neg q] at h; omega
theorem atI_none {v : V} {s : ByteArray} (h : idxI (fun y : ByteArray × V => gtB y.1 s) v.fields < 0) : atI v s = v.fields.length := by
  unfold idxI at h
  have := List.findIdx_le_length (p := fun y : ByteArray × V => gtB y.1 s) (xs := v.fields)
  unfold atI
  split at h
  · omega
  · omega
theorem atI_le (v : V) (s : ByteArray) : atI v s ≤ v.fields.length := List.findIdx_le_length

theorem With_ins (d : Nat) (v x : V) (s : ByteArray) (hv : V.le (d + 1) v) (hx : V.le d x) (hs : s.size ≤ 35184372088832) (h : withE v s x = 0) (hi : findI v s < 0) :
    AFun Tryd.prog 22 [encV (d + 1) .any fun _ => v, .str fun _ => s, encV d .any fun _ => x] [] (.tup [encV (d + 1) .new fun _ => insV v s x, .int .i64 fun _ => 0]) [] := by
  obtain ⟨h9, hn, hx0, hlim⟩ := withE_zero h
  have hC := Clone_own d v hv (Clone_ok d)
  have hI := IndexFuncO_ok d 56 (fun y => gtB y.1 s) v.fields s hv.2.1 fun y _ => With1_ok d y s
  have hal := atI_le v s
  obtain ⟨a, ha⟩ : ∃ a, a = atI v s := ⟨_, rfl⟩
  rw [← ha] at hal
  have hN := Insert_ok v.fields.length a false false (fieldF d .new fun _ => v.fields) (fun _ => rowT d (s, x)) hal hv.2.1
  (apply AFun.of T4_ok mixed4 [.cell 6 25, .tmp 7] kp22 [(1, [(2, .int .i64 (fun _ => ?_), [])]), (4, [(1, .bool (fun _ => ?_), [])]), (6, [(1, .bool (fun _ => ?_), [])]), (10, [(1, hC.out)]), (14, [(3, hI.out)]), (17, [(5, encV d .new fun _ => ?_, []), (8, hN.out)])] Tryd.func22 (fun _ => ?_); (any_goals ((with_reducible refine wk_id ?_); cbv; (try dsimp only [nc] at *); (repeat' (with_reducible first | exact all_nil.2 trivial | exact ob_nil | refine ob_cons ?_ ?_ | refine VC.mk rfl ?_ ?_ ?_ | (refine CondVC.mk ?_ ?_ <;> intro hz <;> (try simp only [nc, bytes_empty, if_or, if_and] at hz) <;> (try simp only [Bool.not_eq_true', Bool.not_eq_false', bne_iff_ne, bne_eq_false_iff_eq, dec_t, dec_f, ne_eq, Int.not_lt] at hz) <;> (revert hz; intro _)) | (refine end_exit ?_; cbv; (try dsimp only [nc] at *)) | (refine end_out ?_; cbv; (try dsimp only [nc] at *)))))))
  (any_goals ((with_reducible first | refine hob_none ?_ | refine hob_some (fun _ => ?_)) <;> exact (index_ok d v s hv.2.1)))
  (any_goals ((with_reducible first | refine hob_none ?_ | refine hob_some (fun _ => ?_)) <;> exact (IsName_ok s hs)))
  (any_goals ((with_reducible first | refine hob_none ?_ | refine hob_some (fun _ => ?_)) <;> exact (IsNull_ok d x)))
  (any_goals ((with_reducible first | refine hob_none ?_ | refine hob_some (fun _ => ?_)) <;> exact hC))
  (any_goals ((with_reducible first | refine hob_none ?_ | refine hob_some (fun _ => ?_)) <;> exact hI))
  (any_goals ((with_reducible first | refine hob_none ?_ | refine hob_some (fun _ => ?_)) <;> exact (Clone_ok d x hx)))
  all_goals (try first | exact absurd h9 ‹¬v.kind = 9› | exact absurd ‹isName s = false› hn | exact absurd ‹isNull x = true› hx0 | exact absurd ‹0 ≤ findI v s› (by omega))
  (all_goals (try simp only [dec_t, dec_f, Int.not_le] at *))
  all_goals (try first | exact absurd ‹0 ≤ findI v s› (by omega) | (rename_i q; rw [if_pos hi] at q; exact absurd (of_decide_eq_true q) (by omega)))
  any_goals (refine hob_none ?_; (try dsimp only); refine AFun.weak_in hN ?_; (focus (cbv; (try dsimp only [nc] at *); (try simp only [all_nil, all_cons, and_true, true_and]); (try (repeat' (with_reducible apply And.intro))); (all_goals (try first | rfl | exact fun _ _ => LeL.of_eq rfl | exact LeL.of_eq rfl | trivial | omega)))))
  ((all_goals (try (with_reducible first | (refine end_ret ?_; (focus (cbv; (try dsimp only [nc] at *); (try simp only [all_nil, all_cons, and_true]); (try (repeat' (with_reducible apply And.intro))); (all_goals (try first | rfl | exact fun _ _ => LeL.of_eq rfl | exact LeL.of_eq rfl | trivial | omega))))) | (refine end_normal ?_; (focus (cbv; (try dsimp only [nc] at *); (try simp only [all_nil, all_cons, and_true, true_and, nc]); (try (repeat' (with_reducible apply And.intro))); (all_goals (try first | rfl | exact fun _ _ => LeL.of_eq rfl | exact LeL.of_eq rfl | trivial | omega)))))))); (all_goals (try (focus ((with_reducible rw [all_cons]); (try simp only [all_cons, all_nil, and_true]); (repeat' (with_reducible apply And.intro)); (all_goals (try first | exact fun _ _ h => h | exact fun _ h => h | exact fun h => h | exact pick_t | exact pick_f | omega | (focus (intros; (try simp only [nc, bytes_empty, if_or, if_and] at *); (try simp only [Bool.not_eq_true, beq_true, dec_t] at *); (try simp (disch := omega) only [w64] at *); (first | omega | assumption | ((repeat' (with_reducible apply And.intro)) <;> first | omega | assumption)))))))))))
  all_goals (try rfl)
  all_goals (try (rw [ha, atI_none ‹_›]; done))
  all_goals (try (rw [ha, atI_idx ‹_›]; done))
  all_goals (try (intro k hk; have : k = 0 := by omega
                  subst this; exact LeL.of_eq rfl))
  all_goals (try (show v.fields.length + 1 = (v.fields.insertIdx (atI v s) (s, x)).length
                  rw [List.length_insertIdx, ← ha, if_pos hal]))
  all_goals
    intro k hk
    have := insF_le (d := d) (a := a) (i := k) (l := v.fields) (y := (s, x)) (g := fun _ => rowT d (s, x)) hal hk (LeL.of_eq rfl)
    rw [ha] at this ⊢
    exact this
end Go.Ai

namespace Go.Ai
open Go Go.Proofs
set_option maxRecDepth 100000
set_option maxHeartbeats 2000000

def laterB (x : ByteArray × V) (r : List (ByteArray × V)) : Bool := r.any fun y => decide (y.1 = x.1) && !isNull y.2
def keepR : List (ByteArray × V) → List (ByteArray × V)
  | [] => []
  | x :: r => if !isNull x.2 && !laterB x r then x :: keepR r else keepR r

def recV (l : List (ByteArray × V)) : V := .mk 9 0 0 ⟨#[]⟩ [] (sortN (keepR l))

theorem keepR_sub : ∀ (l : List (ByteArray × V)), ∀ x ∈ keepR l, x ∈ l ∧ isNull x.2 = false
  | [], x, h => by simp [keepR] at h
  | y :: r, x, h => by
    simp only [keepR] at h
    split at h
    · rename_i q
      rcases List.mem_cons.1 h with rfl | h
      · exact ⟨List.mem_cons_self .., by simpa using (Bool.and_eq_true_iff.1 q).1⟩
      · have := keepR_sub r x h; exact ⟨List.mem_cons_of_mem _ this.1, this.2⟩
    · have := keepR_sub r x h; exact ⟨List.mem_cons_of_mem _ this.1, this.2⟩

theorem keepR_len : ∀ (l : List (ByteArray × V)), (keepR l).length ≤ l.length
  | [] => by simp [keepR]
  | y :: r => by
    have := keepR_len r
    simp only [keepR]
    split <;> simp <;> omega

theorem keepR_nodup : ∀ (l : List (ByteArray × V)), ((keepR l).map (·.1)).Nodup
  | [] => by simp [keepR]
  | y :: r => by
    have ih := keepR_nodup r
    simp only [keepR]
    split
    · rename_i q
      rw [List.map_cons, List.nodup_cons]
      refine ⟨fun hm => ?_, ih⟩
      obtain ⟨x, hx, e⟩ := List.mem_map.1 hm
      obtain ⟨h1, h2⟩ := keepR_sub r x hx
      have h3 : laterB y r = true := List.any_eq_true.2 ⟨x, h1, by simp [e, h2]⟩
      rw [h3] at q; simp at q
    · exact ih

theorem sortN_mem {l : List (ByteArray × V)} {x : ByteArray × V} : x ∈ sortN l ↔ x ∈ l := (List.mergeSort_perm l leN).mem_iff

theorem recV_le {d : Nat} {l : List (ByteArray × V)} (hl : l.length ≤ 1073741824) (hv : ∀ x ∈ l, x.1.size ≤ 1073741824 ∧ V.le d x.2) : V.le (d + 1) (recV l) := by
  refine ⟨by simp [recV, V.list], ?_, (by show (0:Nat) ≤ _; omega), fun x h => by simp [recV, V.list] at h, fun x h => ?_⟩
  · have := keepR_len l
    simp only [recV, V.fields, sortN_len]; omega
  · simp only [recV, V.fields] at h
    exact hv x (keepR_sub l x (sortN_mem.1 h)).1

theorem Record_ok (d : Nat) (l : List (ByteArray × V)) (hl : l.length ≤ 1073741824) (hv : ∀ x ∈ l, x.1.size ≤ 1073741824 ∧ V.le d x.2) :
    AFun Tryd.prog 27 [slcF d .any fun _ => l] [] (encV (d + 1) .new fun _ => recV l) [] := by
  have hkl := keepR_len l
  have hS := Sort_ok d .any false (keepR l) (by omega) (keepR_nodup l)
  have hle := recV_le hl hv
  (apply AFun.of T4_ok mixed4 [.cell 2 25] kp27 [(9, [(2, hS.out)]), (10, [(1, encV (d + 1) .new fun _ => recV l, [(1001000005, .arr false 41 7 0 (fun _ => (keepR l).length) (fieldF d .any fun _ => sortN (keepR l)))])])] Tryd.func27 (fun _ => ?_); (any_goals ((with_reducible refine wk_id ?_); cbv; (try dsimp only [nc] at *); (repeat' (with_reducible first | exact all_nil.2 trivial | exact ob_nil | refine ob_cons ?_ ?_ | refine VC.mk rfl ?_ ?_ ?_ | (refine CondVC.mk ?_ ?_ <;> intro hz <;> (try simp only [nc, bytes_empty, if_or, if_and] at hz) <;> (try simp only [Bool.false_eq_true, Bool.true_eq_false, Bool.and_eq_true, Bool.or_eq_true, Bool.not_eq_true', Bool.not_eq_true, Bool.and_eq_false_iff, Bool.or_eq_false_iff, Bool.not_eq_false', beq_iff_eq, beq_eq_false_iff_ne, bne_iff_ne, bne_eq_false_iff_eq, dec_t, dec_f, ne_eq, Decidable.not_not, Int.ofNat_lt, Int.ofNat_le, Int.toNat_natCast, Int.not_lt, Int.not_le, Nat.not_lt, Nat.not_le] at hz) <;> (revert hz; intro _)) | (refine end_exit ?_; cbv; (try dsimp only [nc] at *)) | (refine end_out ?_; cbv; (try dsimp only [nc] at *)))))))
  ((all_goals (try (with_reducible first | (refine end_ret ?_; (focus (cbv; (try dsimp only [nc] at *); (try simp only [all_nil, all_cons, and_true, true_and, nc]); (try (repeat' (with_reducible apply And.intro))); (all_goals (try first | rfl | exact fun _ _ => LeL.of_eq rfl | exact LeL.of_eq rfl | trivial | omega))))) | (refine end_normal ?_; (focus (cbv; (try dsimp only [nc] at *); (try simp only [all_nil, all_cons, and_true, true_and, nc]); (try (repeat' (with_reducible apply And.intro))); (all_goals (try first | rfl | exact fun _ _ => LeL.of_eq rfl | exact LeL.of_eq rfl | trivial | omega)))))))); (all_goals (try (focus ((with_reducible rw [all_cons]); (try simp only [all_cons, all_nil, and_true, nc]); (repeat' (with_reducible apply And.intro)); (all_goals (try first | exact fun _ _ h => h | exact fun _ h => h | exact fun h => h | exact pick_t | exact pick_f | omega | (focus (intros; (try simp only [nc, bytes_empty, if_or, if_and] at *); (try simp only [Bool.false_eq_true, Bool.true_eq_false, Bool.and_eq_true, Bool.or_eq_true, Bool.not_eq_true', Bool.not_eq_true, Bool.and_eq_false_iff, Bool.or_eq_false_iff, Bool.not_eq_false', beq_iff_eq, beq_eq_false_iff_ne, bne_iff_ne, bne_eq_false_iff_eq, beq_true, beq_false, dec_t, dec_f, ne_eq, Decidable.not_not, Int.ofNat_lt, Int.ofNat_le, Int.toNat_natCast, Int.not_lt, Int.not_le, Nat.not_lt, Nat.not_le] at *); (try simp (disch := omega) only [w64] at *); (first | omega | assumption | ((repeat' (with_reducible apply And.intro)) <;> first | omega | assumption)))))))))))
  refine .loop (fun p : Nat × List (ByteArray × V) => ⟨41, [(10, .int .i64 fun _ => p.1), (9, .int .i64 fun _ => l.length), (8, slcF d .any fun _ => l), (3, .ptr 3 0), (2, .ptr 2 0), (0, slcF d .any fun _ => l)],
      [(2, .box (cells 1 .any fun _ => default)), (3, .box [.int .i64 fun _ => 9, .int .i64 fun _ => 0, .int .i64 fun _ => 0, .str fun _ => ⟨#[]⟩, .nil, .aref 33 0 fun _ => p.2.length]), (33, .arr false 41 7 0 (fun _ => p.2.length) (fieldF d .any fun _ => p.2))]⟩)
    (fun p => p.1 ≤ l.length ∧ p.2 ++ keepR (l.drop p.1) = keepR l) (fun p => l.length - p.1) (0, []) (by simp) ?_ fun p E hi => ?_
  · (focus (cbv; (try dsimp only [nc] at *); (try simp only [all_nil, all_cons, and_true, true_and]); (try (repeat' (with_reducible apply And.intro))); (all_goals (try first | rfl | exact fun _ _ => LeL.of_eq rfl | exact LeL.of_eq rfl | trivial | omega))))
  have hi1 : p.1 ≤ l.length := hi.1
  have hi2 : p.2 ++ keepR (l.drop p.1) = keepR l := hi.2
  have hKl : p.2.length ≤ l.length := by
    have := congrArg List.length hi2
    have := keepR_len l
    rw [List.length_append] at *; omega
  by_cases h : p.1 < l.length
  · have hx := hv _ (getD_mem (d := default) h)
    have hdrop : l.drop p.1 = l.getD p.1 default :: l.drop (p.1 + 1) := by
      rw [List.drop_eq_getElem_cons h]; simp [List.getD, h]
    rw [hdrop] at hi2
    obtain ⟨y, hy⟩ : ∃ y, y = l.getD p.1 default := ⟨_, rfl⟩
    rw [← hy] at hi2 hx
    obtain ⟨r, hr⟩ : ∃ r, r = l.drop (p.1 + 1) := ⟨_, rfl⟩
    rw [← hr] at hi2
    have hrl : r.length = l.length - (p.1 + 1) := by rw [hr]; simp
    have hrg : ∀ j, r.getD j default = l.getD (p.1 + 1 + j) default := fun j => by rw [hr]; simp [List.getD]
    have hC := contains_ok d y (fun z => decide (z.1 = y.1) && !isNull z.2) r 59 (by omega) fun z _ => Record1_ok d z y
    obtain ⟨e, rfl⟩ := V.le_pos hx.2
    apply AWp.wk T4_ok mixed4 [(5, [(5, hC.out)]), (6, [(2, .bool (fun _ => ?_), [])])] kp27 ?_
    (any_goals ((with_reducible refine wk_id ?_); cbv; (try dsimp only [nc] at *); (repeat' (with_reducible first | exact all_nil.2 trivial | exact ob_nil | refine ob_cons ?_ ?_ | refine VC.mk rfl ?_ ?_ ?_ | (refine CondVC.mk ?_ ?_ <;> intro hz <;> (try simp only [nc, bytes_empty, if_or, if_and] at hz) <;> (try simp only [Bool.not_eq_true', dec_t, dec_f, Int.ofNat_lt, Nat.not_lt] at hz) <;> (revert hz; intro _)) | (refine end_exit ?_; cbv; (try dsimp only [nc] at *)) | (refine end_out ?_; cbv; (try dsimp only [nc] at *))))))
    all_goals (try exact absurd h (Nat.not_lt.2 ‹l.length ≤ p.1›))
    (any_goals ((with_reducible first | refine hob_none ?_ | refine hob_some (fun _ => ?_)) <;> exact (IsNull_ok _ _)))
    any_goals (refine hob_none ?_; (try dsimp only); refine AFun.weak_in hC ?_; (focus (cbv; (try dsimp only [nc] at *); (try simp only [all_nil, all_cons, and_true]); (try (repeat' (with_reducible apply And.intro))); (all_goals (try first | rfl | exact fun _ _ => LeL.of_eq rfl | exact LeL.of_eq rfl | trivial | omega)))))
    ((all_goals (try (with_reducible first | (refine end_ret ?_; (focus (cbv; (try dsimp only [nc] at *); (try simp only [all_nil, all_cons, and_true, true_and, nc]); (try (repeat' (with_reducible apply And.intro))); (all_goals (try first | rfl | exact fun _ _ => LeL.of_eq rfl | exact LeL.of_eq rfl | trivial | omega))))) | (refine end_normal ?_; (focus (cbv; (try dsimp only [nc] at *); (try simp only [all_nil, all_cons, and_true, true_and, nc]); (try (repeat' (with_reducible apply And.intro))); (all_goals (try first | rfl | exact fun _ _ => LeL.of_eq rfl | exact LeL.of_eq rfl | trivial | omega)))))))); (all_goals (try (focus ((with_reducible rw [all_cons]); (try simp only [all_cons, all_nil, and_true]); (repeat' (with_reducible apply And.intro)); (all_goals (try first | exact fun _ _ h => h | exact fun _ h => h | exact fun h => h | exact pick_t | exact pick_f | omega | (focus (intros; (try simp only [nc, bytes_empty, if_or, if_and] at *); (try simp only [Bool.false_eq_true, Bool.true_eq_false, Bool.and_eq_true, Bool.or_eq_true, Bool.not_eq_true', Bool.not_eq_true, Bool.and_eq_false_iff, Bool.or_eq_false_iff, Bool.not_eq_false', beq_iff_eq, beq_eq_false_iff_ne, bne_iff_ne, bne_eq_false_iff_eq, beq_true, beq_false, dec_t, dec_f, ne_eq, Decidable.not_not, Int.ofNat_lt, Int.ofNat_le, Int.toNat_natCast, Int.not_lt, Int.not_le, Nat.not_lt, Nat.not_le] at *); (try simp (disch := omega) only [w64] at *); (first | omega | assumption | ((repeat' (with_reducible apply And.intro)) <;> first | omega | assumption)))))))))))
    all_goals (try simp only [Int.toNat_natCast, ← hy])
    · rw [w64 (by omega) (by omega)]; omega
    · intro j hj
      rw [w64 (by omega) (by omega)]
      refine LeL.of_eq ?_
      rw [hrg, show ((p.1 : Int) + 1).toNat = p.1 + 1 by omega]
    all_goals (try exact fun _ _ => LeL.of_eq rfl)
    · rename_i q
      have q2 : (!isNull y.2 && !laterB y r) = true := by
        by_cases h1 : isNull y.2 = false
        · rw [if_pos h1] at q; rw [h1]; exact q
        · rw [if_neg h1] at q; cases q
      refine end_round (p.1 + 1, p.2 ++ [y]) ?_ ?_
      · refine ⟨⟨by simp only; omega, ?_⟩, by simp only; omega⟩
        simp only [List.append_assoc, List.singleton_append, ← hr]
        rw [← hi2, keepR, if_pos q2]
      (focus (cbv; (try dsimp only [nc] at *); (try simp only [all_nil, all_cons, and_true, true_and]); (try (repeat' (with_reducible apply And.intro))); (all_goals (try first | rfl | exact fun _ _ => LeL.of_eq rfl | exact LeL.of_eq rfl | trivial | omega))))
      · exact w64n (by omega)
      all_goals (try (simp; done))
      exact cat_le (n := fun _ => p.2.length) (m := 1) (F := fieldF (e + 1) .any fun _ => p.2 ++ [y]) (fun k hk => LeL.of_eq (by simp only [fieldF, List.getD_eq_getElem?_getD]; rw [List.getElem?_append_left hk])) (fun k hk => by
        have : k = 0 := by omega
        subst this
        refine LeL.of_eq ?_
        simp only [fieldF, List.getD_eq_getElem?_getD]
        rw [List.getElem?_append_right (by omega)]
        simp
        rfl)
    · rename_i q
      have q2 : ¬ (!isNull y.2 && !laterB y r) = true := by
        by_cases h1 : isNull y.2 = false
        · rw [if_pos h1] at q; rw [h1]
          intro h2
          have h3 : (!laterB y r) = true := by simpa using h2
          unfold laterB at h3; rw [h3] at q; cases q
        · simp [h1]
      refine end_round (p.1 + 1, p.2) ?_ ?_
      · refine ⟨⟨by simp only; omega, ?_⟩, by simp only; omega⟩
        simp only [← hr]
        rw [← hi2, keepR, if_neg q2]
      (focus (cbv; (try dsimp only [nc] at *); (try simp only [all_nil, all_cons, and_true, true_and]); (try (repeat' (with_reducible apply And.intro))); (all_goals (try first | rfl | exact fun _ _ => LeL.of_eq rfl | exact LeL.of_eq rfl | trivial | omega))))
      · exact w64n (by omega)
  have hK : p.2 = keepR l := by
    rw [← hi2, List.drop_eq_nil_iff.2 (by omega), keepR, List.append_nil]
  apply AWp.wk T4_ok mixed4 [] kp27 ?_
  (any_goals ((with_reducible refine wk_id ?_); cbv; (try dsimp only [nc] at *); (repeat' (with_reducible first | exact all_nil.2 trivial | exact ob_nil | refine ob_cons ?_ ?_ | refine VC.mk rfl ?_ ?_ ?_ | (refine CondVC.mk ?_ ?_ <;> intro hz <;> (try simp only [nc, bytes_empty, if_or, if_and] at hz) <;> (try simp only [dec_t, dec_f, Int.ofNat_lt, Nat.not_lt] at hz) <;> (revert hz; intro _)) | (refine end_exit ?_; cbv; (try dsimp only [nc] at *)) | (refine end_out ?_; cbv; (try dsimp only [nc] at *))))))
  all_goals (try exact absurd ‹p.1 < l.length› h)
  · refine hob_none ?_
    dsimp only
    refine AFun.weak_in hS ?_
    (focus (cbv; (try dsimp only [nc] at *); (try simp only [all_nil, all_cons, and_true]); (try (repeat' (with_reducible apply And.intro))); (all_goals (try first | rfl | exact fun _ _ => LeL.of_eq rfl | exact LeL.of_eq rfl | trivial | omega))))
    all_goals (first | (rw [hK]; done) | (intro j hj; rw [hK]; exact LeL.of_eq rfl))
  · refine hob_none ?_
    dsimp only
    refine (Clone_ok (d + 1) (recV l) hle).borrow ?_ (pure_cells _ _ _) (fun av h => ?_) (pure_cells _ _ _) (fresh_encV _ _)
    · (focus (cbv; (try dsimp only [nc] at *); (try simp only [all_nil, all_cons, and_true]); (try (repeat' (with_reducible apply And.intro))); (all_goals (try first | rfl | exact fun _ _ => LeL.of_eq rfl | exact LeL.of_eq rfl | trivial | omega))))
      rw [hK]
      exact (sortN_len _).symm
    · simp at h; subst h
      exact nf_encV _ _
  ((all_goals (try (with_reducible first | (refine end_ret ?_; (focus (cbv; (try dsimp only [nc] at *); (try simp only [all_nil, all_cons, and_true, true_and]); (try (repeat' (with_reducible apply And.intro))); (all_goals (try first | rfl | exact fun _ _ => LeL.of_eq rfl | exact LeL.of_eq rfl | trivial | omega))))) | (refine end_normal ?_; (focus (cbv; (try dsimp only [nc] at *); (try simp only [all_nil, all_cons, and_true, true_and, nc]); (try (repeat' (with_reducible apply And.intro))); (all_goals (try first | rfl | exact fun _ _ => LeL.of_eq rfl | exact LeL.of_eq rfl | trivial | omega)))))))); (all_goals (try (focus ((with_reducible rw [all_cons]); (try simp only [all_cons, all_nil, and_true, nc]); (repeat' (with_reducible apply And.intro)); (all_goals (try first | exact fun _ _ h => h | exact fun _ h => h | exact fun h => h | exact pick_t | exact pick_f | omega | (focus (intros; (try simp only [nc, bytes_empty, if_or, if_and] at *); (try simp only [Bool.false_eq_true, Bool.true_eq_false, Bool.and_eq_true, Bool.or_eq_true, Bool.not_eq_true', Bool.not_eq_true, Bool.and_eq_false_iff, Bool.or_eq_false_iff, Bool.not_eq_false', beq_iff_eq, beq_eq_false_iff_ne, bne_iff_ne, bne_eq_false_iff_eq, beq_true, beq_false, dec_t, dec_f, ne_eq, Decidable.not_not, Int.ofNat_lt, Int.ofNat_le, Int.toNat_natCast, Int.not_lt, Int.not_le, Nat.not_lt, Nat.not_le] at *); (try simp (disch := omega) only [w64] at *); (first | omega | assumption | ((repeat' (with_reducible apply And.intro)) <;> first | omega | assumption)))))))))))
end Go.Ai

namespace Go.Ai
open Go Go.Proofs
set_option maxRecDepth 100000
set_option maxHeartbeats 2000000

theorem Record_own (d : Nat) (l : List (ByteArray × V)) (hl : l.length ≤ 1073741824) (hv : ∀ x ∈ l, x.1.size ≤ 1073741824 ∧ V.le d x.2) (F : (Unit → Nat) → List AV) (hF : ∀ i, i < l.length → LeL (F fun _ => i) (fieldF d .any (fun _ => l) fun _ => i)) (x : Bool) :
    AFun Tryd.prog 27 [.aref 1000 0 fun _ => l.length] [(1000, .arr x 41 7 0 (fun _ => l.length) F)] (encV (d + 1) .new fun _ => recV l) [(1000, .arr x 41 7 0 (fun _ => l.length) F)] := by
  refine (Record_ok d l hl hv).borrow ?_ (by simp [slcF, AV.pureL]) (fun av h => ?_) (pure_cells _ _ _) (fresh_encV _ _)
  · (focus (cbv; (try dsimp only [nc] at *); (try simp only [all_nil, all_cons, and_true, true_and]); (try (repeat' (with_reducible apply And.intro))); (all_goals (try first | rfl | exact fun _ _ => LeL.of_eq rfl | exact LeL.of_eq rfl | trivial | omega))))
    try exact hF
  · simp at h; subst h
    refine .slc fun i _ av h => ?_
    rcases List.mem_cons.1 h with rfl | h
    · exact .str _
    · exact nf_cells d _ av h

theorem LeL.cons' {a : AV} {l m : List AV} (h : LeL l m) : LeL (a :: l) (a :: m) := by
  obtain ⟨h1, h2, h3⟩ := h
  refine ⟨by simp [h1], fun hc => ?_, fun w D B j av av' u q1 q2 q => ?_⟩
  · simp only [List.all_cons, Bool.and_eq_true] at hc ⊢
    exact ⟨hc.1, h2 hc.2⟩
  · cases j with
    | zero => simp at q1 q2; subst q1; subst q2; exact q
    | succ j => exact h3 w D B j av av' u (by simpa using q1) (by simpa using q2) q

theorem le_sub : ∀ (d : Nat) (v : Unit → V) (b : Bool) (i : Unit → Nat), LeL (sub d .new v b i) (sub d .any v b i)
  | 0, _, _, _ => LeL.of_eq rfl
  | d + 1, _v, true, _i => le_cells d _
  | d + 1, v, false, i => LeL.cons' (le_cells d fun _ => ((v ()).fields.getD (i ()) default).2)

def eB : ByteArray := ⟨#[]⟩
def kL : List (ByteArray × V) := [(⟨#[98]⟩, mkV 2 1 0 eB), (⟨#[97]⟩, mkV 4 0 0 ⟨#[120]⟩)]
def kA : V := .mk 9 0 0 eB [] [(⟨#[97]⟩, mkV 4 0 0 ⟨#[120]⟩), (⟨#[98]⟩, mkV 2 1 0 eB)]
def kB : V := .mk 9 0 0 eB [] [(⟨#[97]⟩, mkV 4 0 0 ⟨#[120]⟩), (⟨#[97, 97]⟩, mkV 2 2 0 eB), (⟨#[98]⟩, mkV 2 1 0 eB)]

theorem recV_k : recV kL = kA := by
  have : keepR kL = kL := by rfl
  unfold recV
  rw [this]
  simp [sortN, kL, kA, List.mergeSort, List.MergeSort.Internal.splitInTwo, leN, cmpS, Lib.compareBytes, eB]

theorem gtB_lt (a b : List UInt8) : gtB ⟨⟨a⟩⟩ ⟨⟨b⟩⟩ = decide (b < a) := by
  rw [Bool.eq_iff_iff, gtB_iff, decide_eq_true_eq]; rfl
theorem findI_k : findI kA ⟨#[97, 97]⟩ = -1 := by rfl
theorem insV_k : insV kA ⟨#[97, 97]⟩ (mkV 2 2 0 eB) = kB := by
  have : atI kA ⟨#[97, 97]⟩ = 1 := by
    unfold atI kA V.fields
    simp only [List.findIdx_cons, gtB_lt, List.findIdx_nil]
    rfl
  unfold insV
  rw [this]; rfl
theorem hasF_k : hasF kB ⟨#[97, 97]⟩ := ⟨rfl, by decide⟩
theorem fieldV_k : fieldV kB ⟨#[97, 97]⟩ = mkV 2 2 0 eB := by rfl
theorem cmp_k : cmpV 1 (mkV 3 150 2 eB) (mkV 3 15 1 eB) = 1 := by rfl

theorem mkV_le (k i s : Int) (t : ByteArray) (ht : t.size ≤ 1073741824) (d : Nat) : V.le (d + 1) (mkV k i s t) := ⟨Nat.zero_le _, Nat.zero_le _, ht, fun x h => by simp [mkV, V.list] at h, fun x h => by simp [mkV, V.fields] at h⟩
theorem kL_le : ∀ x ∈ kL, x.1.size ≤ 1073741824 ∧ V.le 1 x.2 := by
  intro x hx
  simp only [kL, List.mem_cons, List.not_mem_nil, or_false] at hx
  rcases hx with rfl | rfl
  · exact ⟨by decide, mkV_le _ _ _ _ (by decide) _⟩
  · exact ⟨by decide, mkV_le _ _ _ _ (by decide) _⟩
theorem kA_le : V.le 2 kA := by rw [← recV_k]; exact recV_le (by decide) kL_le
theorem kB_le : V.le 2 kB := by
  refine ⟨by decide, by decide, by decide, fun x h => by simp [kB, V.list] at h, fun x hx => ?_⟩
  simp only [kB, V.fields, List.mem_cons, List.not_mem_nil, or_false] at hx
  rcases hx with rfl | rfl | rfl
  · exact ⟨by decide, mkV_le _ _ _ _ (by decide) _⟩
  · exact ⟨by decide, mkV_le _ _ _ _ (by decide) _⟩
  · exact ⟨by decide, mkV_le _ _ _ _ (by decide) _⟩

theorem Check_k : AFun Tryd.prog 15 [encV 1 .any fun _ => mkV 2 1000000000000000 0 eB] [] (.int .i64 fun _ => 2) [] := by
  have h := Check_ok (fun _ => true) 0 (mkV 2 1000000000000000 0 eB) (mkV_le _ _ _ _ (by decide) _) (by decide) (fun p hp hk => by
    simp only [preV, kids, mkV, V.kind, V.list, V.fields] at hp
    simp at hp; subst hp; cases hk)
  exact h

theorem With_k : AFun Tryd.prog 22 [encV 2 .any fun _ => kA, .str fun _ => ⟨#[97, 97]⟩, encV 1 .any fun _ => mkV 2 2 0 eB] [] (.tup [encV 2 .new fun _ => kB, .int .i64 fun _ => 0]) [] := by
  have h := With_ins 1 kA (mkV 2 2 0 eB) ⟨#[97, 97]⟩ kA_le (mkV_le _ _ _ _ (by decide) _) (by decide) (by decide) (by rw [findI_k]; decide)
  rw [insV_k] at h
  exact h

theorem Field_k : AFun Tryd.prog 45 [encV 2 .any fun _ => kB, .str fun _ => ⟨#[97, 97]⟩] [] (.tup [encV 1 .new fun _ => mkV 2 2 0 eB, .bool fun _ => true]) [] := by
  have h := Field_yes 1 kB kB_le ⟨#[97, 97]⟩ hasF_k
  rw [fieldV_k] at h
  exact h

theorem Compare_k : AFun Tryd.prog 29 [encV 1 .any fun _ => mkV 3 150 2 eB, encV 1 .any fun _ => mkV 3 15 1 eB] [] (.int .i64 fun _ => 1) [] := by
  have h := Compare_ok 1 (mkV 3 150 2 eB) (mkV 3 15 1 eB) (mkV_le _ _ _ _ (by decide) _) (mkV_le _ _ _ _ (by decide) _)
  rw [cmp_k] at h
  exact h

theorem Record_k (F : (Unit → Nat) → List AV) (hF : ∀ i, i < 2 → LeL (F fun _ => i) (fieldF 1 .any (fun _ => kL) fun _ => i)) (x : Bool) : AFun Tryd.prog 27 [.aref 1000 0 fun _ => 2] [(1000, .arr x 41 7 0 (fun _ => 2) F)] (encV 2 .new fun _ => kA) [(1000, .arr x 41 7 0 (fun _ => 2) F)] := by
  have h := Record_own 1 kL (by decide) kL_le F hF x
  rw [recV_k] at h
  exact h

theorem known_ok : AFun Tryd.prog 14 [] [] (.bool fun _ => true) [] := by
  have hR := Record_k (fun i => rowT 1 (kL.getD (i ()) default)) (fun i hi => LeL.cons' (le_cells 1 _)) false
  (apply AFun.of T4_ok mixed4 [.tmp 0] kp14 [(1, [(0, encV 1 .new fun _ => mkV 2 1 0 eB, []), (2, encV 1 .new fun _ => mkV 4 0 0 ⟨#[120]⟩, []), (5, hR.out)]), (2, [(1, encV 1 .new fun _ => mkV 2 2 0 eB, []), (2, With_k.out)]), (3, [(1, Field_k.out)]),
    (4, [(31, encV 1 .new fun _ => mkV 2 1000000000000000 0 eB, []), (32, Check_k.out), (36, encV 1 .new fun _ => mkV 3 150 2 eB, []), (37, encV 1 .new fun _ => mkV 3 15 1 eB, []), (38, Compare_k.out)])] Tryd.func14 (fun _ => ?_); (any_goals ((with_reducible refine wk_id ?_); cbv; (try dsimp only [nc] at *); (repeat' (with_reducible first | exact all_nil.2 trivial | exact ob_nil | refine ob_cons ?_ ?_ | refine VC.mk rfl ?_ ?_ ?_ | (refine CondVC.mk ?_ ?_ <;> intro hz <;> (try simp only [nc, bytes_empty, if_or, if_and] at hz) <;> (try simp only [Bool.false_eq_true, Bool.true_eq_false, Bool.and_eq_true, Bool.or_eq_true, Bool.not_eq_true', Bool.not_eq_true, Bool.and_eq_false_iff, Bool.or_eq_false_iff, Bool.not_eq_false', beq_iff_eq, beq_eq_false_iff_ne, bne_iff_ne, bne_eq_false_iff_eq, dec_t, dec_f, ne_eq, Decidable.not_not, Int.ofNat_lt, Int.ofNat_le, Int.toNat_natCast, Int.not_lt, Int.not_le, Nat.not_lt, Nat.not_le] at hz) <;> (revert hz; intro _)) | (refine end_exit ?_; cbv; (try dsimp only [nc] at *)) | (refine end_out ?_; cbv; (try dsimp only [nc] at *)))))))
  (any_goals ((with_reducible first | refine hob_none ?_ | refine hob_some (fun _ => ?_)) <;> exact (Int_ok _ 0)))
  (any_goals ((with_reducible first | refine hob_none ?_ | refine hob_some (fun _ => ?_)) <;> exact (Text_ok _ 0)))
  (any_goals ((with_reducible first | refine hob_none ?_ | refine hob_some (fun _ => ?_)) <;> exact (Decimal_ok _ _ 0)))
  (any_goals ((with_reducible first | refine hob_none ?_ | refine hob_some (fun _ => ?_)); (try dsimp only); (refine AFun.weak_in hR ?_); (focus (cbv; (try dsimp only [nc] at *); (try simp only [all_nil, all_cons, and_true, true_and]); (try (repeat' (with_reducible apply And.intro))); (all_goals (try first | rfl | exact fun _ _ => LeL.of_eq rfl | exact LeL.of_eq rfl | trivial | omega))))))
  (any_goals ((with_reducible first | refine hob_none ?_ | refine hob_some (fun _ => ?_)); (try dsimp only); (refine AFun.weak_in With_k ?_); (focus (cbv; (try dsimp only [nc] at *); (try simp only [all_nil, all_cons, and_true, true_and]); (try (repeat' (with_reducible apply And.intro))); (all_goals (try first | rfl | exact fun _ _ => LeL.of_eq rfl | exact LeL.of_eq rfl | trivial | omega))))))
  (any_goals ((with_reducible first | refine hob_none ?_ | refine hob_some (fun _ => ?_)); (try dsimp only); (refine AFun.weak_in Field_k ?_); (focus (cbv; (try dsimp only [nc] at *); (try simp only [all_nil, all_cons, and_true, true_and]); (try (repeat' (with_reducible apply And.intro))); (all_goals (try first | rfl | exact fun _ _ => LeL.of_eq rfl | exact LeL.of_eq rfl | trivial | omega))))))
  (any_goals ((with_reducible first | refine hob_none ?_ | refine hob_some (fun _ => ?_)); (try dsimp only); (refine AFun.weak_in Check_k ?_); (focus (cbv; (try dsimp only [nc] at *); (try simp only [all_nil, all_cons, and_true, true_and]); (try (repeat' (with_reducible apply And.intro))); (all_goals (try first | rfl | exact fun _ _ => LeL.of_eq rfl | exact LeL.of_eq rfl | trivial | omega))))))
  (any_goals ((with_reducible first | refine hob_none ?_ | refine hob_some (fun _ => ?_)); (try dsimp only); (refine AFun.weak_in Compare_k ?_); (focus (cbv; (try dsimp only [nc] at *); (try simp only [all_nil, all_cons, and_true, true_and]); (try (repeat' (with_reducible apply And.intro))); (all_goals (try first | rfl | exact fun _ _ => LeL.of_eq rfl | exact LeL.of_eq rfl | trivial | omega))))))
  all_goals (try exact fun i _ => le_sub _ _ _ _)
  ((all_goals (try (with_reducible first | (refine end_ret ?_; (focus (cbv; (try dsimp only [nc] at *); (try simp only [all_nil, all_cons, and_true]); (try (repeat' (with_reducible apply And.intro))); (all_goals (try first | rfl | exact fun _ _ => LeL.of_eq rfl | exact LeL.of_eq rfl | trivial | omega))))) | (refine end_normal ?_; (focus (cbv; (try dsimp only [nc] at *); (try simp only [all_nil, all_cons, and_true, true_and, nc]); (try (repeat' (with_reducible apply And.intro))); (all_goals (try first | rfl | exact fun _ _ => LeL.of_eq rfl | exact LeL.of_eq rfl | trivial | omega)))))))); (all_goals (try (focus ((with_reducible rw [all_cons]); (try simp only [all_cons, all_nil, and_true]); (repeat' (with_reducible apply And.intro)); (all_goals (try first | exact fun _ _ h => h | exact fun _ h => h | exact fun h => h | exact pick_t | exact pick_f | omega | (focus (intros; (try simp only [nc, bytes_empty, if_or, if_and] at *); (try simp only [beq_iff_eq, beq_true] at *); (try simp (disch := omega) only [w64] at *); (first | omega | assumption | ((repeat' (with_reducible apply And.intro)) <;> first | omega | assumption)))))))))))
  · intro i hi
    have : i = 0 ∨ i = 1 := by omega
    rcases this with rfl | rfl <;> exact LeL.of_eq rfl
end Go.Ai
