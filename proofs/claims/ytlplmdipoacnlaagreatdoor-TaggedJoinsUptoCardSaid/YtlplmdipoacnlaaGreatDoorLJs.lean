/- Arguments of a law, opened: the parts of a record. -/
import Derived.Test.YtlplmdipoacnlaaGreatDoorJoin
import Derived.Test.YtlplmdipoacnlaaGreatDoorDecA
import Derived.ChangeMaps5
set_option linter.all false
namespace Go.Ai
open Go Go.Proofs Go.Proofs.YtlplmdipoacnlaaGreatDoor Go.ChangeShapes
set_option maxRecDepth 100000
section
variable {H : Type} {enc : TypeId × Value → H} {W : World} {v : Value} {d : DataW H} {p : List MemPlace}
theorem row_P (x : Int × ByteArray) : ([AV.int .i64 fun _ => x.1, AV.str fun _ => x.2]).length = 2 ∧ ([AV.int .i64 fun _ => x.1, AV.str fun _ => x.2]).all AV.cell = true := ⟨rfl, rfl⟩
theorem open_parts {base : Nat} (hval : Value.okWide Tryz.prog W .any base 52 v) (hd : DataW.Trod enc Tryz.prog W 0 (fun _ => true) true 52 v d p) (hb : Rows.uptoBulk d ≤ 1048576) :
    ∃ l : PL, l.length ≤ 1048576 ∧ (∀ x ∈ l, x.2.size ≤ 1048576) ∧ RD W (fun b => b < W.heap.size) W.heap.size (.slc .any 2 (fun _ => l.length) (rowsP fun _ => l)) v := by
  obtain ⟨fuel, ht⟩ := hd
  have c3 : Tryz.prog.cellsOf 3 = 1 := by kernel_rfl
  have c9 : Tryz.prog.cellsOf 9 = 1 := by kernel_rfl
  have c60 : Tryz.prog.cellsOf 60 = 2 := by kernel_rfl
  obtain ⟨l, D, vl, el, hP, hbl, hrl⟩ := readSlc (M := 1048577) (B := W.heap.size) Tryz.underlying52 c60 (by omega) (fun x : Int × ByteArray => [AV.int .i64 fun _ => x.1, AV.str fun _ => x.2]) row_P (P := fun x d => x.2.size ≤ 1048576)
    (fun f cs z hz ht => by
      obtain ⟨xs, n, rfl, hz2, hl, hxl, hf⟩ := DataW.trod_struct Tryz.underlying60 ht
      rw [c60] at hl
      obtain ⟨x0, r0, rfl, l0⟩ := list_split (n := 1) (l := xs) (by simpa using hxl)
      obtain ⟨x1, r1, rfl, l1⟩ := list_split l0
      obtain rfl := List.eq_nil_of_length_eq_zero l1
      obtain ⟨v0, s0, rfl, m0⟩ := list_split hl
      obtain ⟨v1, s1, rfl, m1⟩ := list_split m0
      obtain rfl := List.eq_nil_of_length_eq_zero m1
      have f0 := hf 0 _ rfl
      have f1 := hf 1 _ rfl
      simp only [c3, c9, List.drop_zero, List.drop_succ_cons, List.take_succ_cons, List.take_zero, List.getElem?_cons_zero, List.getElem?_cons_succ] at f0 f1
      obtain ⟨a0, e0, _, _⟩ := DataW.trod_int Tryz.underlying3 f0
      obtain ⟨a1, e1, ha1, _⟩ := DataW.trod_string Tryz.underlying9 f1
      cases e0; cases e1
      have hb : Rows.uptoBulk z.1 = Rows.uptoBulkAll [x0.1, x1.1] + 1 := by rw [hz2]; simp [Rows.uptoBulk]
      simp only [Rows.uptoBulkAll] at hb
      have htb : Rows.uptoBulk x1.1 = a1.size + 1 := by rw [ha1]; simp [Rows.uptoBulk, len_bytes]
      refine ⟨(a0, a1), by simp only; omega, rfl, ?_⟩
      intro j av v h1 h2
      match j with
      | 0 => simp at h1 h2; subst h1; subst h2; exact .int _ _
      | 1 => simp at h1 h2; subst h1; subst h2; exact .str _
      | n + 2 => simp at h1) (z := (d, p)) (by simp only; omega) ht
  have hll : l.length ≤ Rows.uptoBulkAll ((List.range l.length).map D) := by have := bulk_len ((List.range l.length).map D); simpa using this
  simp only at hbl
  refine ⟨l, by omega, fun x hx => ?_, ?_⟩
  · obtain ⟨i, hi, rfl⟩ := List.getElem_of_mem hx
    have := hP i hi
    rwa [show l.getD i default = l[i] by simp [List.getD, hi]] at this
  · have hv : v = vl := by
      have hl : v.cells.toList = [vl] := el
      cases v with
      | agg vs =>
        simp [Value.okWide, Tryz.underlying52, Cell.okWide, Cell.ok] at hval
      | _ => simpa [Value.cells] using hl
    rw [hv]
    exact hrl
end
end Go.Ai

namespace Go.Proofs.YtlplmdipoacnlaaGreatDoor
open Go Go.Ai Go.RowKit Go.ChangeShapes Go.WideShapes Go.ChangeAt
set_option maxRecDepth 100000
def JoinsOK : Prop := ∀ (l : PL), l.length ≤ 1048576 → (∀ x ∈ l, x.2.size ≤ 1048576) → AFun Tryz.prog 7 [.slc .any 2 (fun _ => l.length) (rowsP fun _ => l)] [] (.bool fun _ => true) []
theorem joins_contract (hJ : JoinsOK) (H : Type) (enc : TypeId × Value → H) (W : World) (base : Nat) (args : Array Value) (ds gs : List (DataW H)) (before : List MemPlace)
    (hval : ∀ (j : Nat) t v, Tryz.f7.params[j]? = some t → args[j]? = some v → Value.okWide Tryz.prog W .any base t v)
    (hW : DataW.Whole enc Tryz.prog Tryz.f7.params.toList Rows.taggedJoinsSpec.vars false W args.toList ds gs before) (hk : Rows.uptoSmall H (ds ++ gs) = true) (hL : laidMetH Tryz.prog Rows.taggedJoinsUptoRow.laid W) :
    Calls Tryz.prog 7 args W fun e W' => ∃ v, e = .returned v ∧ Rows.taggedJoinsSpec.post enc Tryz.prog Tryz.f7 false true false false W args v W' := by
  have hW' := hW
  obtain ⟨p, q, hA, hV, rfl, _, _⟩ := hW
  obtain rfl := vars_nil hV
  rw [Tryz.params7] at hA hval
  obtain ⟨v0, vs0, d0, ds0, pa0, pb0, hargs, rfl, rfl, t0, r0⟩ := trodAll_cons hA
  obtain ⟨rfl, rfl, rfl⟩ := trodAll_nil r0
  obtain rfl : args = #[v0] := by cases args; simp_all
  have hb : Rows.uptoBulkAll ([d0] ++ []) ≤ 1048576 := of_decide_eq_true hk
  simp only [List.append_nil, Rows.uptoBulkAll] at hb
  obtain ⟨x0, l0, h0, a0⟩ := open_parts (hval 0 52 v0 rfl rfl) t0 (by omega)
  refine (calls_law (hJ x0 l0 h0) rfl (tabs_of hL) fun i av hi => ?_).mono fun e W' ⟨he, hbel⟩ => ⟨_, he, ?_⟩
  · match i with
    | 0 => simp only [List.getElem?_cons_zero, Option.some.injEq] at hi; subst hi; exact a0
    | i + 1 => simp at hi
  · refine post_law (s := Rows.taggedJoinsSpec) rfl (by kernel_rfl) rfl ?_ hW' hbel
    rw [Tryz.params7]
    intro t ht
    obtain rfl : t = 52 := by simpa using ht
    exact ⟨by kernel_rfl, of_decide_eq_true (by kernel_rfl)⟩
theorem joins_reads (os : Os) {H : Type} (enc : TypeId × Value → H) : ∃ places, DataW.whole enc Tryz.prog ((laidWorld os).forCall (fun _ _ => 0) ⟨#[], #[.slice none 0 0], []⟩).memory Tryz.f7.params.toList Rows.taggedJoinsSpec.vars false (#[.slice none 0 0] : Array Value).toList 8 = some ([.nil], [], places) :=
  ⟨[], by kernel_rfl⟩
theorem joins_laid (os : Os) : laidMet Tryz.prog Rows.taggedJoinsUptoRow.laid ((laidWorld os).forCall (fun _ _ => 0) ⟨#[], #[.slice none 0 0], []⟩).memory :=
  laidMet_of_run' 8 (by kernel_rfl) (by kernel_rfl)
theorem joins_lifted (hJ : JoinsOK) (os : Os) (started : os.Started) (H : Type) (enc : TypeId × Value → H) (F : Stop.Interp) :
    ReturnsInHanded {} Tryz.checked os 7 .any ((Rows.OpenSpec.upto Rows.taggedJoinsSpec).preRow enc Tryz.prog Tryz.f7 Rows.taggedJoinsUptoRow.domain false Rows.taggedJoinsUptoRow.laid) (((Rows.OpenSpec.upto Rows.taggedJoinsSpec).at F).post enc Tryz.prog Tryz.f7 false true false false) := by
  obtain ⟨places, hx⟩ := joins_reads os enc
  refine returnsInHanded_of_row (C := Tryz.checked) (s := Rows.OpenSpec.upto Rows.taggedJoinsSpec) own4 started (by kernel_rfl) Tryz.func7
    (witness_row_at (enc := enc) (C := Tryz.checked) false (laidWorld os) #[.slice none 0 0] rfl (by kernel_rfl) (by kernel_rfl) (by kernel_rfl)
      (OpenSpec.preRow_of_cond 8 hx (by kernel_rfl) (fun k hk => by cases hk; kernel_rfl) (by kernel_rfl) (joins_laid os))) ?_
  intro W base args ds gs before hval hW _ hcond _ hL _ _
  exact joins_contract hJ H enc W base args ds gs before hval hW (hcond _ rfl) hL
theorem joins_said (hJ : JoinsOK) : Rows.TaggedJoinsUptoSaid :=
  OpenClaim.holds_of_cond 7 Tryz.f7 rfl rfl rfl rfl rfl rfl rfl ⟨rfl, rfl, rfl, rfl, rfl⟩ rfl rfl rfl rfl rfl (by kernel_rfl) Tryz.func7 (by kernel_rfl)
    (of_decide_eq_true (by kernel_rfl)) (by unfold Func.isWrapper; first | (rw [if_pos (by decide +kernel)]; kernel_rfl) | (rw [if_neg (by decide +kernel)]; exact ⟨rfl, rfl⟩))
    (fun os started H enc _ F => by rw [OpenClaim.pre_eq_preRow]; exact joins_lifted hJ os started H enc F)
theorem joins_plain (f : FuncId) (fn : Func) (hf : Tryz.pinned.checked.prog.funcNamed Rows.taggedJoinsUptoRow.func = some f) (hfn : Tryz.pinned.checked.prog.funcs[f]? = some fn) :
    false = Tryz.pinned.checked.prog.looks [] ∧ ∀ (j : Nat) t, fn.params[j]? = some t → Tryz.pinned.checked.prog.wantsStandIn t = false := by
  obtain rfl : f = 7 := Option.some.inj ((show Tryz.prog.funcNamed Rows.taggedJoinsUptoRow.func = some 7 by kernel_rfl).symm.trans hf) |>.symm
  obtain rfl : fn = Tryz.f7 := (Option.some.inj (Tryz.func7.symm.trans hfn)).symm
  refine ⟨by kernel_rfl, fun j t ht => ?_⟩
  rw [Tryz.params7] at ht
  have hm := Array.mem_of_getElem? ht
  obtain rfl : t = 52 := by simpa using hm
  exact (show Tryz.prog.wantsStandIn 52 = false by kernel_rfl)
theorem joins_holds_of (hJ : JoinsOK) : Rows.TaggedJoinsUptoCardSaid :=
  Claim7.holds_tied_plain_at .later [] _ _ _ _ (joins_said hJ) (fun _ h => by cases h) (by kernel_rfl) (fun _ h => by cases h) taggedJoinsUpto_row_tie rfl ⟨rfl, rfl⟩ (by kernel_rfl) rfl joins_plain (by kernel_rfl)
end Go.Proofs.YtlplmdipoacnlaaGreatDoor
