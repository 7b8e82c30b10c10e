/- The first parts of a body by what must be shown of them; the rest as one goal. -/
import Derived.Test.YtfphnecphebijaaDoorEngC
import Derived.Test.YtfphnecphebijaaDoorDel
import Derived.Test.YtfphnecphebijaaDoorSetsL
namespace Go.Ai
open Go

def wkH (ro : Option Nat) (P : Unit → Program) (T : Unit → List (Nat × TI)) (orc : Unit → List (Nat × Orc)) (kp : Unit → List Nat) : Nat → Code → KS → Env → SS → Prop
  | 0, c, k, E, s => LpVC ro P E c k s
  | n + 1, .seq a b, k, E, s => wk ro P T orc kp a (fun e E' s' => match e with | .normal => wkH ro P T orc kp n b k E' s' | e => k e E' s') E s
  | _ + 1, c, k, E, s => wk ro P T orc kp c k E s

section
variable {ro : Option Nat} {P : Program} {T : List (Nat × TI)}

theorem wkH_sound (hT : TOk P T) (hm : P.follows .mixedOrders = true) (orc : Unit → List (Nat × Orc)) (kp : Unit → List Nat) : ∀ (n : Nat) (c : Code) (k : KS) (K : KK) (E : Env) (s : SS),
    s.ok → (∀ e E' s', s'.ok → k e E' s' → K e E' s'.st) → wkH ro (fun _ => P) (fun _ => T) orc kp n c k E s → AWp ro P E c K s.st := by
  intro n
  induction n with
  | zero =>
    intro c k K E s hs hk h
    exact AWp.mono (h.h hs) fun e E' S' _ ⟨s', h0, h1, h2⟩ => by rw [h0]; exact hk _ _ _ h1 h2
  | succ n ih =>
    intro c k K E s hs hk h
    cases c with
    | seq a b =>
      refine .seq (wk_sound hT hm orc kp a _ _ E s hs (fun e E' s' hs' h1 => ?_) h)
      cases e with
      | normal => exact ih b k K E' s' hs' hk h1
      | _ => exact hk _ _ _ hs' h1
    | _ => exact wk_sound hT hm orc kp _ _ _ E s hs hk h

theorem AFun.ofH {T : List (Nat × TI)} (hT : TOk P T) (hm : P.follows .mixedOrders = true) {f : FuncId} {fn : Func} {c : Code} {args : List AV} {objs objs' : List (Nat × AO)} {res : AV} (n : Nat) (rs : List ResultVar) (kp : List Nat) (orc : List (Nat × Orc)) (hf : P.funcs[f]? = some fn)
    (h : ∀ E, wkH none (fun _ => P) (fun _ => T) (fun _ => orc) (fun _ => kp) n c (fun e E s => EndVC (fun e E S => retK T rs res objs' e E S) e E s) E (SS.ini fn.ntmps args objs))
    (hname : (fn.name == "runtime.NumGoroutine") = false := by rfl) (hb : fn.body = some c := by rfl) (hr : fn.results = rs.toArray := by rfl) (hl : linkB objs' objs = true := by rfl) (hn : Nat.ble args.length fn.ntmps = true := by rfl) : AFun P f args objs res objs' := by
  have hn : args.length ≤ fn.ntmps := Nat.le_of_ble_eq_true hn
  refine afun_of (rs := rs) hT hf hname hb hr hl fun E => ?_
  rw [← SS.ini_as objs hn]
  exact wkH_sound hT hm (fun _ => orc) (fun _ => kp) n c _ _ E _ (SS.ini_ok objs hn) (fun _ _ _ hs' h => h.h hs') (h E)

theorem wkH_id {ro : Option Nat} {P : Unit → Program} {T : Unit → List (Nat × TI)} {orc : Unit → List (Nat × Orc)} {kp : Unit → List Nat} {n : Nat} {c : Code} {k : KS} {E : Env} {s : SS} (h : wkH ro P T orc kp n c k E s) : wkH ro P T orc kp n c k E s := h

theorem LpVC.raw {x y : Code} {k : KS} {E : Env} {s s' : SS} (hs' : s'.okB = true) (h : s.ok → AWp none P E x (thenK (fun E' S' => E' = E ∧ S' = s'.st) (fun _ _ _ => False)) s.st) (h2 : s'.ok → AWp none P E y (fun e E S => ∃ s, S = s.st ∧ s.ok ∧ k e E s) s'.st) : LpVC none (fun _ => P) E (.seq x y) k s :=
  ⟨fun hs => .seq ((h hs).mono fun e E' S' _ hk => by
    cases e with
    | normal => obtain ⟨rfl, rfl⟩ := hk; exact h2 (SS.ok_of hs')
    | _ => exact hk.elim)⟩

theorem AWp.wk_end (hT : TOk P T) (hm : P.follows .mixedOrders = true) (orc : List (Nat × Orc)) (kp : List Nat) {c : Code} {k : KS} {E : Env} {s : SS}
    (h : Go.Ai.wk ro (fun _ => P) (fun _ => T) (fun _ => orc) (fun _ => kp) c k E s) (hs : s.ok) : AWp ro P E c (fun e E S => ∃ s, S = s.st ∧ s.ok ∧ k e E s) s.st :=
  wk_sound hT hm (fun _ => orc) (fun _ => kp) c k _ E s hs (fun _ _ s' hs' h => ⟨s', rfl, hs', h⟩) h
end

theorem arr_lit (tm : Array Value) (n : Nat) (h : tm.size = n) : tm = ((List.range n).map fun i => tm.getD i undef).toArray := by
  subst h
  apply Array.ext
  · simp
  · intro i h1 h2
    simp [Array.getD, h1]

theorem AWp.of_wp {P : Program} {E : Env} {c : Code} {K : Exit → Env → AS → Prop} {S : AS} (h : ∀ a w, Rel E S a w → c.wp P (fun e a' w' => ∃ E' S', Ext E E' ∧ K e E' S' ∧ Rel E' S' a' w') a w) : AWp none P E c K S :=
  fun a w hr => wpIn_wide.2 (h a w hr)
end Go.Ai

namespace Go.Ai
open Go
end Go.Ai

namespace Go.Ai
open Go Go.Proofs Go.RowKit Go.Lib
set_option maxRecDepth 100000
set_option maxHeartbeats 4000000

def cut12 : Code := .region 11 #[{ dst := some 63, op := Go.Op.fieldAddr 25 (Go.Operand.tmp 10) 5, type := 0, pos := "law.go:96", after := #[], guard := none }, { dst := some 64, op := Go.Op.load 23 (Go.Operand.tmp 63), type := 23, pos := "law.go:96", after := #[{ on := 0, ground := Go.Ground.data }], guard := none }, { dst := some 65, op := Go.Op.move (Go.Operand.tmp 9), type := 3, pos := "law.go:96", after := #[], guard := none }, { dst := some 66, op := Go.Op.slice 23 (Go.Operand.tmp 64) none (some (Go.Operand.tmp 65)) none, type := 23, pos := "law.go:96", after := #[{ on := 1, ground := Go.Ground.data }, { on := 2, ground := Go.Ground.data }], guard := none }, { dst := some 67, op := Go.Op.fieldAddr 25 (Go.Operand.tmp 10) 5, type := 0, pos := "law.go:96", after := #[], guard := none }, { dst := some 68, op := Go.Op.load 23 (Go.Operand.tmp 67), type := 23, pos := "law.go:96", after := #[{ on := 4, ground := Go.Ground.data }], guard := none }, { dst := some 69, op := Go.Op.move (Go.Operand.tmp 9), type := 3, pos := "law.go:96", after := #[], guard := none }, { dst := some 70, op := Go.Op.binOp Go.BinOp.add 3 (Go.Operand.tmp 69) (Go.Operand.const (Go.Value.int Go.IntKind.i64 1)) 3, type := 3, pos := "law.go:96", after := #[{ on := 6, ground := Go.Ground.data }], guard := none }, { dst := some 71, op := Go.Op.slice 23 (Go.Operand.tmp 68) (some (Go.Operand.tmp 70)) none none, type := 23, pos := "law.go:96", after := #[{ on := 5, ground := Go.Ground.data }, { on := 7, ground := Go.Ground.data }], guard := none }, { dst := some 72, op := Go.Op.call { callee := Go.Callee.builtin Go.Builtin.append, args := #[Go.Operand.tmp 66, Go.Operand.tmp 71], argTypes := #[23, 23] }, type := 23, pos := "law.go:96", after := #[{ on := 3, ground := Go.Ground.data }, { on := 8, ground := Go.Ground.data }], guard := none }, { dst := some 73, op := Go.Op.fieldAddr 25 (Go.Operand.tmp 10) 5, type := 0, pos := "law.go:96", after := #[{ on := 0, ground := Go.Ground.phase }, { on := 1, ground := Go.Ground.phase }, { on := 2, ground := Go.Ground.phase }, { on := 3, ground := Go.Ground.phase }, { on := 4, ground := Go.Ground.phase }, { on := 5, ground := Go.Ground.phase }, { on := 6, ground := Go.Ground.phase }, { on := 7, ground := Go.Ground.phase }, { on := 8, ground := Go.Ground.phase }, { on := 9, ground := Go.Ground.phase }], guard := none }, { dst := none, op := Go.Op.store 23 (Go.Operand.tmp 73) (Go.Operand.tmp 72), type := 0, pos := "law.go:96", after := #[{ on := 10, ground := Go.Ground.data }, { on := 9, ground := Go.Ground.data }, { on := 9, ground := Go.Ground.chain }, { on := 0, ground := Go.Ground.phase }, { on := 1, ground := Go.Ground.phase }, { on := 2, ground := Go.Ground.phase }, { on := 3, ground := Go.Ground.phase }, { on := 4, ground := Go.Ground.phase }, { on := 5, ground := Go.Ground.phase }, { on := 6, ground := Go.Ground.phase }, { on := 7, ground := Go.Ground.phase }, { on := 8, ground := Go.Ground.phase }, { on := 9, ground := Go.Ground.phase }], guard := none }] true

def cutRow (cur : Array Value) (i n : Nat) : Array Value := part cur (i * 7) (seg cur ((i + 1) * 7) ((n - i - 1) * 7))

def CutPost (df : List Deferred) (tm : Array Value) (W : World) : Exit → Act → World → Prop
  | .normal, a', w' => a'.defers = df ∧ a'.tmps.size = 91 ∧ a'.tmps.toList.take 63 = tm.toList.take 63 ∧ a'.tmps.toList.drop 74 = tm.toList.drop 74 ∧ w' = W
  | _, _, _ => False

theorem cut_run (tm0 tm : Array Value) (h0 : tm0 = tm) (df : List Deferred) (htm : tm.size = 91) (b g n c i : Nat) (vs cur : Array Value) (ty : TypeId) (w : World) (h10 : tm.getD 10 undef = .pointer (some ⟨b, 0, none⟩)) (h9 : tm.getD 9 undef = .int .i64 i)
    (hbg : b ≠ g) (hi : i < n) (hc : n ≤ c) (hc63 : c ≤ 9223372036854775807)
    (hb : w.heap[b]? = some (.cells vs ty (0, 0))) (h5 : vs[5]? = some (.slice (some ⟨g, 0, none⟩) n c)) (hg : w.heap[g]? = some (.cells cur 41 (0, 0))) (hsz : cur.size = c * 7) (h1c : ∀ j v, j < n * 7 → cur[j]? = some v → v.oneCell' = true) :
    cut12.wp Tryd.prog (CutPost df tm0 ((w.drew.setRow g (cutRow cur i n)).setCell ⟨b, 5, none⟩ (.slice (some ⟨g, 0, none⟩) (n - 1) c))) ⟨tm, df⟩ w := by
  obtain ⟨i0, z, hi0, hs, hb2, hz, hzs⟩ := info41
  have hcs : (seg cur ((i + 1) * 7) ((n - i - 1) * 7)).length = (n - i - 1) * 7 := seg_len (by omega)
  have happ : ∀ ty p cc, (p = ⟨g, (i + 1) * 7, none⟩ ∨ n - i - 1 = 0) → (Builtin.append_ #[23, 23] ty #[.slice (some ⟨g, 0, none⟩) i c, .slice (some p) (n - (i + 1)) cc]).run Tryd.prog w.drew = .ok (.slice (some ⟨g, 0, none⟩) (n - 1) c) (w.drew.setRow g (cutRow cur i n)) := fun ty p cc hp => by
    have hnn : n - (i + 1) = n - i - 1 := by omega
    rw [hnn]
    have := append_room_run (P := Tryd.prog) (ty := ty) (w := w.drew) Tryd.underlying23 Tryd.underlying23 (.inl ⟨41, rfl⟩) hi0 (g := g) (n := i) (cap := c) (m := n - i - 1) (x := .slice (some p) (n - i - 1) cc) (cur := cur) (news := seg cur ((i + 1) * 7) ((n - i - 1) * 7)) hg (fun w' => lenOf_slice _ _ _)
      (by
        rw [hs]
        rcases hp with rfl | h0
        · exact run_firstCells_some _ 7 (n - i - 1) ⟨g, (i + 1) * 7, none⟩ _ cc _ (by rw [hcs]) (fun j v hj => by rw [Addr.add_lit, cell_of_row (w := w.drew) hg]; rw [seg_get] at hj; split at hj; exact hj; cases hj)
        · rw [h0]; simp [seg, Builtin.firstCells, loadCells, loadCellsFrom])
      (seg_one h1c (by omega)) (by omega) (by rw [hs, hcs]; omega)
    rw [hs, show i + (n - i - 1) = n - 1 by omega] at this
    exact this
  have hcell : w.cell? ⟨b, 5, none⟩ = some (.slice (some ⟨g, 0, none⟩) n c) := by rw [cell_of_row hb]; exact h5
  obtain ⟨W1, hW1⟩ : ∃ W1, W1 = w.drew.setRow g (cutRow cur i n) := ⟨_, rfl⟩
  rw [← hW1] at happ ⊢
  have hb1 : W1.heap[b]? = some (.cells vs ty (0, 0)) := by rw [hW1]; rw [setRow_other _ _ _ _ hbg]; exact hb
  have hc1 : W1.cell? ⟨b, 5, none⟩ = some (.slice (some ⟨g, 0, none⟩) n c) := by rw [cell_of_row hb1]; exact h5
  have hf1 : W1.frozen? ⟨b, 5, none⟩ = false := by simp [World.frozen?, hb1]
  have hf0 : w.frozen? ⟨b, 5, none⟩ = false := by simp [World.frozen?, hb]
  have hsame : c = i + 1 → W1 = w.drew := fun hcc => by
    have e0 : cutRow cur i n = cur := by
      unfold cutRow
      have : (n - i - 1) * 7 = 0 := by omega
      rw [this]; simp [part, seg]
    rw [hW1, e0]
    exact setRow_self w.drew g cur 41 (0, 0) hg
  clear hW1 hb1
  have hw1 : IntKind.i64.wrap ((i : Int) + 1) = (i : Int) + 1 := by rw [IntKind.wrap_i64]; omega
  have hne : ¬ ((i : Int) = (i : Int) + 1) := by omega
  have h2 : (i : Int) ≤ (i : Int) + 1 := by omega
  have h3 : (i : Int) + 1 ≤ (n : Int) := by omega
  have h4 : (0 : Int) ≤ (i : Int) + 1 := by omega
  have h6 : ((i : Int) + 1).toNat = i + 1 := by omega
  have hin : i ≤ n := by omega
  have hic : (i : Int) ≤ (c : Int) := by omega
  have hnc2 : (n : Int) ≤ (c : Int) := by omega
  have hic2 : i ≤ c := by omega
  have hlit : tm = #[tm.getD 0 undef, tm.getD 1 undef, tm.getD 2 undef, tm.getD 3 undef, tm.getD 4 undef, tm.getD 5 undef, tm.getD 6 undef, tm.getD 7 undef, tm.getD 8 undef, tm.getD 9 undef, tm.getD 10 undef, tm.getD 11 undef, tm.getD 12 undef, tm.getD 13 undef, tm.getD 14 undef, tm.getD 15 undef, tm.getD 16 undef, tm.getD 17 undef, tm.getD 18 undef, tm.getD 19 undef, tm.getD 20 undef, tm.getD 21 undef, tm.getD 22 undef, tm.getD 23 undef, tm.getD 24 undef, tm.getD 25 undef, tm.getD 26 undef, tm.getD 27 undef, tm.getD 28 undef, tm.getD 29 undef, tm.getD 30 undef, tm.getD 31 undef, tm.getD 32 undef, tm.getD 33 undef, tm.getD 34 undef, tm.getD 35 undef, tm.getD 36 undef, tm.getD 37 undef, tm.getD 38 undef, tm.getD 39 undef, tm.getD 40 undef, tm.getD 41 undef, tm.getD 42 undef, tm.getD 43 undef, tm.getD 44 undef, tm.getD 45 undef, tm.getD 46 undef, tm.getD 47 undef, tm.getD 48 undef, tm.getD 49 undef, tm.getD 50 undef, tm.getD 51 undef, tm.getD 52 undef, tm.getD 53 undef, tm.getD 54 undef, tm.getD 55 undef, tm.getD 56 undef, tm.getD 57 undef, tm.getD 58 undef, tm.getD 59 undef, tm.getD 60 undef, tm.getD 61 undef, tm.getD 62 undef, tm.getD 63 undef, tm.getD 64 undef, tm.getD 65 undef, tm.getD 66 undef, tm.getD 67 undef, tm.getD 68 undef, tm.getD 69 undef, tm.getD 70 undef, tm.getD 71 undef, tm.getD 72 undef, tm.getD 73 undef, tm.getD 74 undef, tm.getD 75 undef, tm.getD 76 undef, tm.getD 77 undef, tm.getD 78 undef, tm.getD 79 undef, tm.getD 80 undef, tm.getD 81 undef, tm.getD 82 undef, tm.getD 83 undef, tm.getD 84 undef, tm.getD 85 undef, tm.getD 86 undef, tm.getD 87 undef, tm.getD 88 undef, tm.getD 89 undef, tm.getD 90 undef] := arr_lit tm 91 htm
  rw [h9, h10] at hlit
  clear h9 h10 htm
  generalize tm.getD 0 undef = x0 at hlit
  generalize tm.getD 1 undef = x1 at hlit
  generalize tm.getD 2 undef = x2 at hlit
  generalize tm.getD 3 undef = x3 at hlit
  generalize tm.getD 4 undef = x4 at hlit
  generalize tm.getD 5 undef = x5 at hlit
  generalize tm.getD 6 undef = x6 at hlit
  generalize tm.getD 7 undef = x7 at hlit
  generalize tm.getD 8 undef = x8 at hlit
  generalize tm.getD 11 undef = x11 at hlit
  generalize tm.getD 12 undef = x12 at hlit
  generalize tm.getD 13 undef = x13 at hlit
  generalize tm.getD 14 undef = x14 at hlit
  generalize tm.getD 15 undef = x15 at hlit
  generalize tm.getD 16 undef = x16 at hlit
  generalize tm.getD 17 undef = x17 at hlit
  generalize tm.getD 18 undef = x18 at hlit
  generalize tm.getD 19 undef = x19 at hlit
  generalize tm.getD 20 undef = x20 at hlit
  generalize tm.getD 21 undef = x21 at hlit
  generalize tm.getD 22 undef = x22 at hlit
  generalize tm.getD 23 undef = x23 at hlit
  generalize tm.getD 24 undef = x24 at hlit
  generalize tm.getD 25 undef = x25 at hlit
  generalize tm.getD 26 undef = x26 at hlit
  generalize tm.getD 27 undef = x27 at hlit
  generalize tm.getD 28 undef = x28 at hlit
  generalize tm.getD 29 undef = x29 at hlit
  generalize tm.getD 30 undef = x30 at hlit
  generalize tm.getD 31 undef = x31 at hlit
  generalize tm.getD 32 undef = x32 at hlit
  generalize tm.getD 33 undef = x33 at hlit
  generalize tm.getD 34 undef = x34 at hlit
  generalize tm.getD 35 undef = x35 at hlit
  generalize tm.getD 36 undef = x36 at hlit
  generalize tm.getD 37 undef = x37 at hlit
  generalize tm.getD 38 undef = x38 at hlit
  generalize tm.getD 39 undef = x39 at hlit
  generalize tm.getD 40 undef = x40 at hlit
  generalize tm.getD 41 undef = x41 at hlit
  generalize tm.getD 42 undef = x42 at hlit
  generalize tm.getD 43 undef = x43 at hlit
  generalize tm.getD 44 undef = x44 at hlit
  generalize tm.getD 45 undef = x45 at hlit
  generalize tm.getD 46 undef = x46 at hlit
  generalize tm.getD 47 undef = x47 at hlit
  generalize tm.getD 48 undef = x48 at hlit
  generalize tm.getD 49 undef = x49 at hlit
  generalize tm.getD 50 undef = x50 at hlit
  generalize tm.getD 51 undef = x51 at hlit
  generalize tm.getD 52 undef = x52 at hlit
  generalize tm.getD 53 undef = x53 at hlit
  generalize tm.getD 54 undef = x54 at hlit
  generalize tm.getD 55 undef = x55 at hlit
  generalize tm.getD 56 undef = x56 at hlit
  generalize tm.getD 57 undef = x57 at hlit
  generalize tm.getD 58 undef = x58 at hlit
  generalize tm.getD 59 undef = x59 at hlit
  generalize tm.getD 60 undef = x60 at hlit
  generalize tm.getD 61 undef = x61 at hlit
  generalize tm.getD 62 undef = x62 at hlit
  generalize tm.getD 63 undef = x63 at hlit
  generalize tm.getD 64 undef = x64 at hlit
  generalize tm.getD 65 undef = x65 at hlit
  generalize tm.getD 66 undef = x66 at hlit
  generalize tm.getD 67 undef = x67 at hlit
  generalize tm.getD 68 undef = x68 at hlit
  generalize tm.getD 69 undef = x69 at hlit
  generalize tm.getD 70 undef = x70 at hlit
  generalize tm.getD 71 undef = x71 at hlit
  generalize tm.getD 72 undef = x72 at hlit
  generalize tm.getD 73 undef = x73 at hlit
  generalize tm.getD 74 undef = x74 at hlit
  generalize tm.getD 75 undef = x75 at hlit
  generalize tm.getD 76 undef = x76 at hlit
  generalize tm.getD 77 undef = x77 at hlit
  generalize tm.getD 78 undef = x78 at hlit
  generalize tm.getD 79 undef = x79 at hlit
  generalize tm.getD 80 undef = x80 at hlit
  generalize tm.getD 81 undef = x81 at hlit
  generalize tm.getD 82 undef = x82 at hlit
  generalize tm.getD 83 undef = x83 at hlit
  generalize tm.getD 84 undef = x84 at hlit
  generalize tm.getD 85 undef = x85 at hlit
  generalize tm.getD 86 undef = x86 at hlit
  generalize tm.getD 87 undef = x87 at hlit
  generalize tm.getD 88 undef = x88 at hlit
  generalize tm.getD 89 undef = x89 at hlit
  generalize tm.getD 90 undef = x90 at hlit
  rw [hlit] at h0
  subst hlit
  unfold cut12
  have mixed : Tryd.prog.follows .mixedOrders = true := mixed4
  by_cases hcc : c = i + 1
  · have hsm := hsame hcc
    clear hsame
    subst hcc
    obtain rfl : n = i + 1 := by omega
    subst hsm
    clear happ
    go_region_law_o (fail)
    all_goals (subst h0; exact ⟨rfl, rfl, rfl, rfl, rfl⟩)
  · clear hsame
    go_region_law_o (refine step_append_runI rfl _ _ 23 23 rfl _ _ (by simp [Act.eval, Act.put]) (by simp [Act.eval, Act.put]) (happ 23 ⟨g, (i + 1) * 7, none⟩ (c - (i + 1)) (.inl rfl)) ?_)
    all_goals (subst h0; exact ⟨rfl, rfl, rfl, rfl, rfl⟩)

theorem setCell_row {w : World} {b o : Nat} {v : Value} {vs : Array Value} {ty : TypeId} (hb : w.heap[b]? = some (.cells vs ty (0, 0))) : w.setCell ⟨b, o, none⟩ v = w.setRow b (vs.setIfInBounds o v) := by
  have hlt : b < w.heap.size := (Array.getElem?_eq_some_iff.1 hb).1
  have : (w.setCell ⟨b, o, none⟩ v).heap = (w.setRow b (vs.setIfInBounds o v)).heap := by
    apply Array.ext_getElem?
    intro k
    by_cases e : k = b
    · subst e
      rw [setRow_heap w k vs _ ty (0, 0) hb]
      simp [World.setCell, Array.getElem?_modify, hb]
    · rw [setRow_other _ _ _ _ e]
      simp [World.setCell, Array.getElem?_modify, Ne.symm e]
  cases w
  simp only [World.setCell, World.setRow] at this ⊢
  simp only [World.mk.injEq, and_true]
  exact this

theorem get_take {a b : Array Value} {k t : Nat} (h : a.toList.take k = b.toList.take k) (ht : t < k) : a.getD t undef = b.getD t undef := by
  have := congrArg (fun l : List Value => l[t]?) h
  simp only [List.getElem?_take, if_pos ht, Array.getElem?_toList] at this
  simp [Array.getD_eq_getD_getElem?, this]
theorem get_drop {a b : Array Value} {k t : Nat} (h : a.toList.drop (k + 1) = b.toList.drop (k + 1)) (ht : k < t) : a.getD t undef = b.getD t undef := by
  have := congrArg (fun l : List Value => l[t - (k + 1)]?) h
  simp only [List.getElem?_drop, show k + 1 + (t - (k + 1)) = t by omega, Array.getElem?_toList] at this
  simp [Array.getD_eq_getD_getElem?, this]

theorem cut_ok {E : Env} {S S' : AS} {ob oF ver i n : Nat} {x : Bool} {cs : List AV} {f : (Unit → Nat) → List AV} {z : Unit → Int} {nn nF : Unit → Nat} (hl : S.tmps.length = 91) (h10 : S.tmp 10 = .ptr ob 0) (h9 : S.tmp 9 = .int .i64 z) (hz : z () = i) (hi : i < n)
    (hob : S.obj ob = .box cs) (hcs : cs.length = 6) (hc5 : cs[5]? = some (.aref oF ver nn)) (hnn : nn () = n) (hF : S.obj oF = .arr x 41 7 ver nF f)
    (hl' : S'.tmps.length = 91) (ht' : ∀ t, t < 91 → S'.tmp t = .any ∨ ((t < 63 ∨ 73 < t) ∧ S'.tmp t = S.tmp t))
    (ho' : ∀ o, S'.obj o = upd (upd S.obj oF (.arr x 41 7 (ver + 1) (fun _ => n - 1) (delF i f))) ob (.box (cs.set 5 (.aref oF (ver + 1) fun _ => n - 1))) o) :
    AWp none Tryd.prog E cut12 (thenK (fun E' S'' => E' = E ∧ S'' = S') (fun _ _ _ => False)) S := by
  refine .of_wp fun a w ⟨β, h⟩ => ?_
  have hsz : a.tmps.size = 91 := h.size.trans hl
  have q10 := h.at 10
  rw [h10] at q10
  obtain ⟨b, hβb, e10⟩ := q10.ptr_inv
  have q9 := h.at 9
  rw [h9] at q9
  have e9 := q9.int_inv
  rw [hz] at e9
  have hbo := h.objs ob
  rw [hob] at hbo
  obtain ⟨b', vs, ty, hβ', hh, hown, hvl, hcells⟩ := hbo
  rw [hβb] at hβ'
  simp at hβ'; subst hβ'
  have hvs : 5 < vs.size := by omega
  have h5 : vs[5]? = some vs[5] := by simp [hvs]
  obtain ⟨_, hq⟩ := (hcells 5 _ _ hc5 h5).aref_inv
  obtain ⟨hnF, hv5⟩ := (hq _ _ _ _ _ _ hF).2 rfl
  rw [hnn] at hnF
  have hFo := h.objs oF
  rw [hF] at hFo
  rcases hFo with ⟨_, h0⟩ | ⟨g, cap, cur, hβF, hg, hc1, hc2, hc3, hx1, hownF, hel⟩
  · omega
  rw [← hnF] at hβF hc1 hel
  have hne : ob ≠ oF := fun e => by rw [e, hF] at hob; cases hob
  have hbg : b ≠ g := fun e => h.apart ob oF b hne (by rw [hob]; trivial) (by rw [hF]; trivial) (by rw [hβb]; rfl) (by rw [hβF, e]; rfl)
  have h1c := els_one hc3 hc1 hel
  obtain ⟨tm, df⟩ := a
  have hrun := cut_run tm tm rfl df hsz b g n cap i vs cur ty w e10 e9 hbg hi hc1 (by unfold maxLen at hc2; omega) hh (by rw [h5, hv5, hβF]) hg hc3 h1c
  refine wp_mono hrun fun e a' w' hp => ?_
  cases e with
  | normal =>
    obtain ⟨p1, p2, p3, p4, p5⟩ := hp
    refine ⟨E, S', .refl E, ⟨rfl, rfl⟩, ?_⟩
    -- the array
    have hl1 : (seg cur ((i + 1) * 7) ((n - i - 1) * 7)).length = (n - i - 1) * 7 := seg_len (by omega)
    have hp1 : i * 7 + (seg cur ((i + 1) * 7) ((n - i - 1) * 7)).length ≤ cur.size := by omega
    obtain ⟨W1, hW1⟩ : ∃ W1, W1 = w.drew.setRow g (cutRow cur i n) := ⟨_, rfl⟩
    obtain ⟨t1, t2⟩ := h.turn (w := w) (o := oF) (w' := W1) (by rw [hF]; trivial) (by rw [hW1]; rfl) (by rw [hW1]; rfl) (by rw [hW1]; rfl) (by rw [hW1]; simp)
      (fun k _ hk => by rw [hW1]; exact setRow_other w.drew g k _ (fun e => hk (by rw [hβF, e]; rfl))) (ob := .arr x 41 7 (ver + 1) (fun _ => n - 1) (delF i f)) trivial (v := .slice (some ⟨g, 0, none⟩) (n - 1) cap)
      (fun b' hb' => .inl (by rw [hβF]; exact hb')) (fun b' hb' => by rw [hβF] at hb'; cases hb') (fun x1 t1 sz1 ver1 n1 f1 hf => by rw [hF] at hf; cases hf; exact ⟨_, _, _, rfl, .inr (by omega)⟩) (fun cs' hf => by rw [hF] at hf; cases hf)
      (fun _ hrd => by
        refine .inr ⟨g, cap, cutRow cur i n, by simp [upd], by rw [hW1]; exact setRow_heap w.drew _ _ _ _ _ hg, by show n - 1 ≤ cap; omega, hc2, by unfold cutRow; rw [part_size hp1, hc3], hx1, hownF, fun k hk => ?_⟩
        have hk2 : k < n - 1 := hk
        have hgt : ∀ q, q < 7 → (cutRow cur i n)[k * 7 + q]? = if k < i then cur[k * 7 + q]? else cur[(k + 1) * 7 + q]? := fun q hq => by
          unfold cutRow
          rw [part_get hp1, hl1]
          by_cases h : k < i
          · rw [if_neg (by omega), if_pos h]
          · rw [if_pos (by omega), if_neg h, seg_get, if_pos (by omega)]
            congr 1; omega
        unfold delF
        by_cases h : k < i
        · simp only [h, if_true]
          obtain ⟨a1, a2, a3⟩ := hel k (by omega)
          refine ⟨a1, a2, fun j av v hj hv => hrd _ _ (a3 j av v hj ?_)⟩
          have hj7 : j < 7 := by have := (List.getElem?_eq_some_iff.1 hj).1; omega
          rw [hgt j hj7, if_pos h] at hv; exact hv
        · simp only [h, if_false]
          obtain ⟨a1, a2, a3⟩ := hel (k + 1) (by omega)
          refine ⟨a1, a2, fun j av v hj hv => hrd _ _ (a3 j av v hj ?_)⟩
          have hj7 : j < 7 := by have := (List.getElem?_eq_some_iff.1 hj).1; omega
          rw [hgt j hj7, if_neg h] at hv; exact hv)
    have hb1 : W1.heap[b]? = some (.cells vs ty (0, 0)) := by rw [hW1, setRow_other _ _ _ _ hbg]; exact hh
    -- the box
    have hS1 : ∀ o, (⟨S.tmps, oset S.objs oF (.arr x 41 7 (ver + 1) (fun _ => n - 1) (delF i f))⟩ : AS).obj o = upd S.obj oF (.arr x 41 7 (ver + 1) (fun _ => n - 1) (delF i f)) o := fun o => by
      show olook _ o = _; rw [olook_oset]; rfl
    have hS1' : (⟨S.tmps, oset S.objs oF (.arr x 41 7 (ver + 1) (fun _ => n - 1) (delF i f))⟩ : AS).obj = upd S.obj oF (.arr x 41 7 (ver + 1) (fun _ => n - 1) (delF i f)) := funext hS1
    rw [← hS1'] at t1 t2
    have hβ1 : upd β oF (.slice (some ⟨g, 0, none⟩) (n - 1) cap) ob = .pointer (some ⟨b, 0, none⟩) := by simp [upd, hne, hβb]
    have hob1 : (⟨S.tmps, oset S.objs oF (.arr x 41 7 (ver + 1) (fun _ => n - 1) (delF i f))⟩ : AS).obj ob = .box cs := by rw [hS1]; simp [upd, hne, hob]
    rw [setCell_row (by rw [← hW1]; exact hb1), ← hW1] at p5
    obtain ⟨u1, u2⟩ := t1.turn (S := ⟨S.tmps, oset S.objs oF (.arr x 41 7 (ver + 1) (fun _ => n - 1) (delF i f))⟩) (w := W1) (o := ob) (w' := w') (by rw [hob1]; trivial) (by rw [p5]; rfl) (by rw [p5]; rfl) (by rw [p5]; rfl) (by rw [p5]; simp)
      (fun k _ hk => by rw [p5]; exact setRow_other _ _ _ _ (fun e => hk (by rw [hβ1, e]; rfl))) (ob := .box (cs.set 5 (.aref oF (ver + 1) fun _ => n - 1))) trivial (v := .pointer (some ⟨b, 0, none⟩))
      (fun b' hb' => .inl (by rw [hβ1]; exact hb')) (fun b' hb' => hβ1.symm) (fun x1 t1 sz1 ver1 n1 f1 hf => by rw [hob1] at hf; cases hf) (fun cs' hf => ⟨_, rfl⟩)
      (fun hrx _ => by
        refine ⟨b, _, ty, by simp [upd], by rw [p5]; exact setRow_heap _ _ _ _ _ _ hb1, hown, by simp [hvl], fun j av v hj hv => ?_⟩
        rw [List.getElem?_set] at hj
        rw [Array.getElem?_setIfInBounds] at hv
        by_cases hj5 : 5 = j
        · rw [if_pos hj5] at hj hv
          subst hj5
          rw [if_pos (by omega)] at hj
          rw [if_pos hvs] at hv
          cases hj; cases hv
          refine .aref _ _ _ _ (.inr ⟨g, cap, rfl, by show n - 1 ≤ cap; omega, hc2⟩) (fun x1 t1 sz1 ver1 n1 f1 hH => ?_)
          rw [hS1'] at hH
          simp only [upd, Ne.symm hne, if_false, if_true] at hH
          cases hH
          exact ⟨Nat.le_refl _, fun _ => ⟨rfl, by simp [upd, Ne.symm hne]⟩⟩
        · rw [if_neg hj5] at hj hv
          exact hrx _ _ (t2 _ _ (hcells j av v hj hv)))
    have hH : S'.obj = upd (⟨S.tmps, oset S.objs oF (.arr x 41 7 (ver + 1) (fun _ => n - 1) (delF i f))⟩ : AS).obj ob (.box (cs.set 5 (.aref oF (ver + 1) fun _ => n - 1))) := funext fun o => by rw [ho' o, hS1']
    refine ⟨upd (upd β oF (.slice (some ⟨g, 0, none⟩) (n - 1) cap)) ob (.pointer (some ⟨b, 0, none⟩)), ?_⟩
    rw [hH]
    refine ⟨p1.trans h.defers, by rw [p2, hl'], fun t av ht => ?_, u1.objs, u1.apart, u1.frame, u1.pin⟩
    have ht91 : t < 91 := by rw [← hl']; exact (List.getElem?_eq_some_iff.1 ht).1
    have hav : S'.tmp t = av := by unfold AS.tmp; rw [List.getD_eq_getElem?_getD, ht]; rfl
    rcases ht' t ht91 with hq | ⟨hq1, hq⟩
    · rw [← hav, hq]; exact .d (.any _)
    · have hS : S.tmps[t]? = some av := by
        rw [← hav, hq]
        unfold AS.tmp
        have : t < S.tmps.length := by omega
        simp [this]
      have hg : a'.tmps.getD t undef = tm.getD t undef := by
        rcases hq1 with hq1 | hq1
        · exact get_take p3 hq1
        · exact get_drop p4 hq1
      rw [hg]
      exact u1.tmps t av hS
  | _ => exact hp.elim

theorem cut_hole {E : Env} {k : KS} {y : Code} {s : SS} {ob oF ver i n : Nat} {x : Bool} {cs : List AV} {f : (Unit → Nat) → List AV} {z : Unit → Int} {nn nF : Unit → Nat} (hn : s.n = 91) (h10 : alook s.l 10 = .ptr ob 0) (h9 : alook s.l 9 = .int .i64 z) (hz : z () = i) (hi : i < n)
    (hob : olook s.objs ob = .box cs) (hcs : cs.length = 6) (hc5 : cs[5]? = some (.aref oF ver nn)) (hnn : nn () = n) (hF : olook s.objs oF = .arr x 41 7 ver nF f) (hk : (s.l.all fun p => Nat.blt p.1 63) = true)
    (h2 : AWp none Tryd.prog E y (fun e E S => ∃ s, S = s.st ∧ s.ok ∧ k e E s) (⟨91, s.l, oset (oset s.objs oF (.arr x 41 7 (ver + 1) (fun _ => n - 1) (delF i f))) ob (.box (cs.set 5 (.aref oF (ver + 1) fun _ => n - 1)))⟩ : SS).st) :
    LpVC none (fun _ => Tryd.prog) E (.seq cut12 y) k s := by
  have hlt : ∀ p ∈ s.l, p.1 < 63 := fun p hp => by have := List.all_eq_true.1 hk p hp; rwa [Nat.blt_eq] at this
  have hok' : ∀ o, (⟨91, s.l, o⟩ : SS).ok := fun o p hp => Nat.lt_trans (hlt p hp) (by show 63 < 91; decide)
  refine ⟨fun hs => .seq ((cut_ok (S := s.st) (S' := (⟨91, s.l, oset (oset s.objs oF (.arr x 41 7 (ver + 1) (fun _ => n - 1) (delF i f))) ob (.box (cs.set 5 (.aref oF (ver + 1) fun _ => n - 1)))⟩ : SS).st) (by rw [SS.as_len, hn]) (by rw [SS.as_tmp hs, h10]) (by rw [SS.as_tmp hs, h9]) hz hi hob hcs hc5 hnn hF (by rw [SS.as_len]) (fun t ht => ?_) (fun o => ?_)).mono fun e E' S' _ hq => ?_)⟩
  · rw [SS.as_tmp (hok' _), SS.as_tmp hs]
    by_cases h : t < 63
    · exact .inr ⟨.inl h, rfl⟩
    · left
      rcases alook_mem (l := s.l) (t := t) with q | q
      · exact q
      · exact absurd (hlt _ q) h
  · show olook (oset (oset s.objs oF (.arr x 41 7 (ver + 1) (fun _ => n - 1) (delF i f))) ob (.box (cs.set 5 (.aref oF (ver + 1) fun _ => n - 1)))) o = _
    rw [olook_oset, olook_oset]; rfl
  · cases e with
    | normal => obtain ⟨rfl, rfl⟩ := hq; exact h2
    | _ => exact hq.elim
end Go.Ai

namespace Go.Ai
open Go Go.Proofs
set_option maxRecDepth 100000
set_option maxHeartbeats 2000000

theorem isNull_def : isNull default = true := by decide

theorem law_fields_no (d : Nat) (v : V) (s : ByteArray) (hv : V.le (d + 1) v) (h : ¬ hasF v s) : AFun Tryd.prog 12 [encV (d + 1) false fun _ => v, .str fun _ => s] [] (.bool fun _ => true) [] := by
  have hG := Field_no d v hv s h
  have hw0 : withoutE v s ≠ 0 := by
    unfold withoutE
    by_cases q : v.kind = 9
    · rw [if_neg (by simp [q]), if_pos (Int.not_le.1 fun q2 => h ⟨q, q2⟩)]; decide
    · rw [if_pos q]; decide
  have hW := Without_err d v s hv hw0
  have hF := Find_ok d v s hv.2.1
  obtain ⟨f, hf⟩ : ∃ f, f = if v.kind = 9 then findI v s else -1 := ⟨_, rfl⟩
  rw [← hf] at hF
  have hf0 : f < 0 := by
    rw [hf]; split
    · rename_i q; exact Int.not_le.1 fun q2 => h ⟨q, q2⟩
    · decide
  have hN : AFun Tryd.prog 18 [encV (d + 1) false fun _ => default] [] (.bool fun _ => true) [] := by have := Null_ok (d + 1) default; rwa [isNull_def] at this
  have hN2 : AFun Tryd.prog 18 [encV d false fun _ => default] [] (.bool fun _ => true) [] := by have := Null_ok d default; rwa [isNull_def] at this
  have he : withoutE v s = if v.kind = 9 then 8 else 11 := by
    unfold withoutE
    by_cases q : v.kind = 9
    · rw [if_neg (by simp [q]), if_pos (Int.not_le.1 fun q2 => h ⟨q, q2⟩), if_pos q]
    · rw [if_pos q, if_neg q]
  obtain ⟨e, hee⟩ : ∃ e, e = withoutE v s := ⟨_, rfl⟩
  rw [← hee] at hW he
  (apply AFun.of T4_ok mixed4 [.tmp 4] kp12 [(1, [(2, hG.out)]), (2, [(2, hW.out)]), (3, [(2, hF.out)]), (4, [(0, known_ok.out)]), (7, [(4, .bool fun _ => true, []), (8, .bool fun _ => true, [])]), (9, [(4, .bool fun _ => true, []), (8, .bool fun _ => true, [])])] Tryd.func12 (fun _ => ?_); (any_goals ((with_reducible refine wk_id ?_); cbv; (try dsimp only [nc] at *); (repeat' (with_reducible first | exact all_nil.2 trivial | exact ob_nil | refine ob_cons ?_ ?_ | refine VC.mk rfl ?_ ?_ ?_ | (refine CondVC.mk ?_ ?_ <;> intro hz <;> (try simp only [if_or] at hz) <;> (try simp only [Bool.true_eq_false, Bool.or_eq_true, Bool.not_eq_true', Bool.or_eq_false_iff, Bool.not_eq_false', bne_iff_ne, bne_eq_false_iff_eq, dec_t, dec_f, ne_eq, Int.not_lt] at hz) <;> (revert hz; intro _)) | (refine end_exit ?_; cbv; (try dsimp only [nc] at *)) | (refine end_out ?_; cbv; (try dsimp only [nc] at *)))))))
  (any_goals ((with_reducible first | refine hob_none ?_ | refine hob_some (fun _ => ?_)) <;> exact hG))
  (any_goals ((with_reducible first | refine hob_none ?_ | refine hob_some (fun _ => ?_)) <;> exact hW))
  (any_goals ((with_reducible first | refine hob_none ?_ | refine hob_some (fun _ => ?_)) <;> exact hF))
  (any_goals ((with_reducible first | refine hob_none ?_ | refine hob_some (fun _ => ?_)) <;> exact known_ok))
  all_goals (try exact absurd ‹0 ≤ f› (by omega))
  any_goals (first | ((with_reducible first | refine hob_none ?_ | refine hob_some (fun _ => ?_)); (try dsimp only); refine AFun.weak_in hN ?_; (focus (cbv; (try dsimp only [nc] at *); (try simp only [all_nil, all_cons, and_true, true_and]); (try (repeat' (with_reducible apply And.intro))); (all_goals (try first | rfl | exact fun _ _ => LeL.of_eq rfl | exact LeL.of_eq rfl | trivial | omega)))); all_goals (try exact fun i _ => le_sub _ _ _ _); done) | fail)
  any_goals (first | ((with_reducible first | refine hob_none ?_ | refine hob_some (fun _ => ?_)); (try dsimp only); refine AFun.weak_in hN2 ?_; (focus (cbv; (try dsimp only [nc] at *); (try simp only [all_nil, all_cons, and_true, true_and]); (try (repeat' (with_reducible apply And.intro))); (all_goals (try first | rfl | exact fun _ _ => LeL.of_eq rfl | exact LeL.of_eq rfl | trivial | omega)))); all_goals (try exact fun i _ => le_sub _ _ _ _); done) | fail)
  ((all_goals (try (with_reducible first | (refine end_ret ?_; (focus (cbv; (try dsimp only [nc] at *); (try simp only [all_nil, all_cons, and_true]); (try (repeat' (with_reducible apply And.intro))); (all_goals (try first | rfl | exact fun _ _ => LeL.of_eq rfl | exact LeL.of_eq rfl | trivial | omega))))) | (refine end_normal ?_; (focus (cbv; (try dsimp only [nc] at *); (try simp only [all_nil, all_cons, and_true, true_and, nc]); (try (repeat' (with_reducible apply And.intro))); (all_goals (try first | rfl | exact fun _ _ => LeL.of_eq rfl | exact LeL.of_eq rfl | trivial | omega)))))))); (all_goals (try (focus ((with_reducible rw [all_cons]); (try simp only [all_cons, all_nil, and_true]); (repeat' (with_reducible apply And.intro)); (all_goals (try first | exact fun _ _ h => h | exact fun _ h => h | exact fun h => h | exact pick_t | exact pick_f | omega | (focus (intros; (try simp only [nc, bytes_empty, if_or, if_and] at *); (try simp only [Bool.false_eq_true, Bool.true_eq_false, Bool.and_eq_true, Bool.or_eq_true, Bool.not_eq_true', Bool.not_eq_true, Bool.and_eq_false_iff, Bool.or_eq_false_iff, Bool.not_eq_false', beq_iff_eq, beq_eq_false_iff_ne, bne_iff_ne, bne_eq_false_iff_eq, beq_true, beq_false, dec_t, dec_f, ne_eq, Decidable.not_not, Int.ofNat_lt, Int.ofNat_le, Int.toNat_natCast, Int.not_lt, Int.not_le, Nat.not_lt, Nat.not_le] at *); (try simp (disch := omega) only [w64] at *); (first | omega | assumption | ((repeat' (with_reducible apply And.intro)) <;> first | omega | assumption)))))))))))
  · rename_i q
    rw [decide_eq_false (by omega)] at q
    simp at q
  · rename_i q1 q2
    rw [he, if_neg q2]; rfl
  · rename_i q1 q2 q3
    rw [he, if_pos q2]; rfl
end Go.Ai

namespace Go.Ai
open Go Go.Proofs
set_option maxRecDepth 100000
set_option maxHeartbeats 2000000

theorem LeL.tr {l m n : List AV} (h : LeL l m) (g : LeL m n) : LeL l n :=
  ⟨h.1.trans g.1, fun q => g.2.1 (h.2.1 q), fun w D B j av av' v h1 h2 h3 => by
    have hj : j < m.length := by have := (List.getElem?_eq_some_iff.1 h1).1; have := h.1; omega
    exact g.2.2 w D B j m[j] av' v (List.getElem?_eq_getElem hj) h2 (h.2.2 w D B j av m[j] v h1 (List.getElem?_eq_getElem hj) h3)⟩

theorem same_del (d : Nat) (v : V) (s : ByteArray) (hv : V.le (d + 1) v) (a : Nat) (ha : a = (findI v s).toNat) (hlt : a < v.fields.length) :
    AFun Tryd.prog 26 [encV (d + 1) true fun _ => delV v s, .agg [.int .i64 fun _ => v.kind, .int .i64 fun _ => v.int, .int .i64 fun _ => v.scale, .str fun _ => v.text, .aref 1001001004 0 fun _ => v.list.length, .aref 1001001005 0 fun _ => v.fields.length - 1]]
      [(1001001004, .arr false 25 6 0 (fun _ => v.list.length) (listF d true fun _ => v.list)), (1001001005, .arr false 41 7 0 (fun _ => v.fields.length - 1) (delF a (fieldF d true fun _ => v.fields)))] (.bool fun _ => true)
      [(1001001004, .arr false 25 6 0 (fun _ => v.list.length) (listF d true fun _ => v.list)), (1001001005, .arr false 41 7 0 (fun _ => v.fields.length - 1) (delF a (fieldF d true fun _ => v.fields)))] := by
  refine (same_ok (d + 1) (delV v s) (delV_le hv)).borrow ?_ (by simp [encV, cells, cellsG, AV.pureL]) (fun av h => ?_) (by simp [AV.pureL]) (.bool _)
  · (focus (cbv; (try dsimp only [nc] at *); (try simp only [all_nil, all_cons, and_true, true_and]); (try (repeat' (with_reducible apply And.intro))); (all_goals (try first | rfl | exact fun _ _ => LeL.of_eq rfl | exact LeL.of_eq rfl | trivial | omega))))
    · exact fun i _ => le_sub _ _ _ _
    · exact fun i _ => le_sub _ _ _ _
    · exact fun i _ => le_cells d _
    · show v.fields.length - 1 = (v.fields.eraseIdx (findI v s).toNat).length
      rw [List.length_eraseIdx, if_pos (by omega)]
    · intro k hk
      have := (delF_le (d := d) (a := a) (i := k) (l := v.fields)).tr (LeL.cons' (le_cells d _))
      rw [ha] at this ⊢
      exact this
  · simp at h; subst h
    exact nf_encV _ _

theorem law_fields_yes (d : Nat) (v : V) (s : ByteArray) (hv : V.le (d + 1) v) (h : hasF v s) : AFun Tryd.prog 12 [encV (d + 1) false fun _ => v, .str fun _ => s] [] (.bool fun _ => true) [] := by
  have hG := Field_yes d v hv s h
  have hw0 : withoutE v s = 0 := by
    unfold withoutE
    rw [if_neg (by simp [h.1]), if_neg (by have := h.2; omega)]
  have hW := Without_yes d v s hv hw0
  have hF := Find_ok d v s hv.2.1
  rw [if_pos h.1] at hF
  obtain ⟨a, ha⟩ : ∃ a, a = (findI v s).toNat := ⟨_, rfl⟩
  have hia : findI v s = (a : Int) := by have := h.2; omega
  have hlt : a < v.fields.length := by have : findI v s < v.fields.length := idxI_lt; omega
  have hD := same_del d v s hv a ha hlt
  have hC := copied_own d v hv (copied_ok d)
  apply AFun.ofH T4_ok mixed4 7 [.tmp 4] kp12 [(1, [(2, hG.out)]), (2, [(2, hW.out)]), (3, [(2, hF.out)]), (4, [(0, known_ok.out)]), (10, [(1, hC.out)])] Tryd.func12 (fun E => ?_)
  (any_goals ((with_reducible refine wkH_id ?_); cbv; (try dsimp only [nc] at *); (repeat' (with_reducible first | exact all_nil.2 trivial | exact ob_nil | refine ob_cons ?_ ?_ | refine VC.mk rfl ?_ ?_ ?_ | (refine CondVC.mk ?_ ?_ <;> intro hz <;> (try simp only [if_or] at hz) <;> (try simp only [Bool.true_eq_false, Bool.or_eq_true, Bool.not_eq_true', Bool.or_eq_false_iff, Bool.not_eq_false', bne_iff_ne, bne_eq_false_iff_eq, dec_t, dec_f, ne_eq, Int.not_lt] at hz) <;> (revert hz; intro _)) | (refine end_exit ?_; cbv; (try dsimp only [nc] at *)) | (refine end_out ?_; cbv; (try dsimp only [nc] at *))))))
  (any_goals ((with_reducible first | refine hob_none ?_ | refine hob_some (fun _ => ?_)) <;> exact hG))
  (any_goals ((with_reducible first | refine hob_none ?_ | refine hob_some (fun _ => ?_)) <;> exact hW))
  (any_goals ((with_reducible first | refine hob_none ?_ | refine hob_some (fun _ => ?_)) <;> exact hF))
  (any_goals ((with_reducible first | refine hob_none ?_ | refine hob_some (fun _ => ?_)) <;> exact known_ok))
  (any_goals ((with_reducible first | refine hob_none ?_ | refine hob_some (fun _ => ?_)) <;> exact hC))
  ((all_goals (try (with_reducible first | (refine end_ret ?_; (focus (cbv; (try dsimp only [nc] at *); (try simp only [all_nil, all_cons, and_true]); (try (repeat' (with_reducible apply And.intro))); (all_goals (try first | rfl | exact fun _ _ => LeL.of_eq rfl | exact LeL.of_eq rfl | trivial | omega))))) | (refine end_normal ?_; (focus (cbv; (try dsimp only [nc] at *); (try simp only [all_nil, all_cons, and_true, true_and, nc]); (try (repeat' (with_reducible apply And.intro))); (all_goals (try first | rfl | exact fun _ _ => LeL.of_eq rfl | exact LeL.of_eq rfl | trivial | omega)))))))); (all_goals (try (focus ((with_reducible rw [all_cons]); (try simp only [all_cons, all_nil, and_true]); (repeat' (with_reducible apply And.intro)); (all_goals (try first | exact fun _ _ h => h | exact fun _ h => h | exact fun h => h | exact pick_t | exact pick_f | omega | (focus (intros; (try simp only [nc, bytes_empty, if_or, if_and] at *); (try simp only [Bool.false_eq_true, Bool.true_eq_false, Bool.and_eq_true, Bool.or_eq_true, Bool.not_eq_true', Bool.not_eq_true, Bool.and_eq_false_iff, Bool.or_eq_false_iff, Bool.not_eq_false', beq_iff_eq, beq_eq_false_iff_ne, bne_iff_ne, bne_eq_false_iff_eq, beq_true, beq_false, dec_t, dec_f, ne_eq, Decidable.not_not, Int.ofNat_lt, Int.ofNat_le, Int.toNat_natCast, Int.not_lt, Int.not_le, Nat.not_lt, Nat.not_le] at *); (try simp (disch := omega) only [w64] at *); (first | omega | assumption | ((repeat' (with_reducible apply And.intro)) <;> first | omega | assumption)))))))))))
  all_goals (try exact absurd h.1 ‹¬v.kind = 9›)
  all_goals (try exact absurd h.2 (Int.not_le.2 ‹findI v s < 0›))
  · rename_i q
    rw [decide_eq_true h.2] at q
    simp at q
  refine cut_hole (i := a) (n := v.fields.length) rfl rfl rfl hia hlt rfl rfl rfl rfl rfl rfl ?_
  refine AWp.wk_end T4_ok mixed4 [(12, [(5, hD.out), (15, .bool fun _ => true, [])])] kp12 ?_ (SS.ok_of rfl)
  (any_goals ((with_reducible refine wk_id ?_); cbv; (try dsimp only [nc] at *); (repeat' (with_reducible first | exact all_nil.2 trivial | exact ob_nil | refine ob_cons ?_ ?_ | refine VC.mk rfl ?_ ?_ ?_ | (refine CondVC.mk ?_ ?_ <;> intro hz <;> (try simp only [nc, bytes_empty, if_or, if_and] at hz) <;> (try simp only [Bool.false_eq_true, Bool.true_eq_false, Bool.and_eq_true, Bool.or_eq_true, Bool.not_eq_true', Bool.not_eq_true, Bool.and_eq_false_iff, Bool.or_eq_false_iff, Bool.not_eq_false', beq_iff_eq, beq_eq_false_iff_ne, bne_iff_ne, bne_eq_false_iff_eq, dec_t, dec_f, ne_eq, Decidable.not_not, Int.ofNat_lt, Int.ofNat_le, Int.toNat_natCast, Int.not_lt, Int.not_le, Nat.not_lt, Nat.not_le] at hz) <;> (revert hz; intro _)) | (refine end_exit ?_; cbv; (try dsimp only [nc] at *)) | (refine end_out ?_; cbv; (try dsimp only [nc] at *))))))
  (any_goals ((with_reducible first | refine hob_none ?_ | refine hob_some (fun _ => ?_)) <;> exact hD))
  (any_goals ((with_reducible first | refine hob_none ?_ | refine hob_some (fun _ => ?_)); (try dsimp only); (refine AFun.weak_in (same_ok d (fieldV v s) (V.le_field hv (by omega))) ?_); (focus (cbv; (try dsimp only [nc] at *); (try simp only [all_nil, all_cons, and_true, true_and]); (try (repeat' (with_reducible apply And.intro))); (all_goals (try first | rfl | exact fun _ _ => LeL.of_eq rfl | exact LeL.of_eq rfl | trivial | omega))))))
  ((all_goals (try (with_reducible first | (refine end_ret ?_; (focus (cbv; (try dsimp only [nc] at *); (try simp only [all_nil, all_cons, and_true]); (try (repeat' (with_reducible apply And.intro))); (all_goals (try first | rfl | exact fun _ _ => LeL.of_eq rfl | exact LeL.of_eq rfl | trivial | omega))))) | (refine end_normal ?_; (focus (cbv; (try dsimp only [nc] at *); (try simp only [all_nil, all_cons, and_true, true_and, nc]); (try (repeat' (with_reducible apply And.intro))); (all_goals (try first | rfl | exact fun _ _ => LeL.of_eq rfl | exact LeL.of_eq rfl | trivial | omega)))))))); (all_goals (try (focus ((with_reducible rw [all_cons]); (try simp only [all_cons, all_nil, and_true]); (repeat' (with_reducible apply And.intro)); (all_goals (try first | exact fun _ _ h => h | exact fun _ h => h | exact fun h => h | exact pick_t | exact pick_f | omega | (focus (intros; (try simp only [nc, bytes_empty, if_or, if_and] at *); (try simp only [beq_iff_eq, beq_true] at *); (try simp (disch := omega) only [w64] at *); (first | omega | assumption | ((repeat' (with_reducible apply And.intro)) <;> first | omega | assumption)))))))))))
  all_goals (try first | rfl | exact fun i _ => le_sub _ _ _ _)

theorem law_fields (d : Nat) (v : V) (s : ByteArray) (hv : V.le (d + 1) v) : AFun Tryd.prog 12 [encV (d + 1) false fun _ => v, .str fun _ => s] [] (.bool fun _ => true) [] := by
  by_cases h : hasF v s
  · exact law_fields_yes d v s hv h
  · exact law_fields_no d v s hv h
end Go.Ai
