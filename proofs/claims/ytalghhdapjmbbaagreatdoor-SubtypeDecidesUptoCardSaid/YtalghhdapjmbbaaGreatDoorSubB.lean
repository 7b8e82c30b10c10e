/- Chapter 8: the laws of joins. -/
import Derived.Test.YtalghhdapjmbbaaGreatDoorSubA
import Derived.Test.YtalghhdapjmbbaaGreatDoorEncC
set_option linter.all false
namespace Go.Ai
open Go Go.Proofs
set_option maxRecDepth 100000
set_option maxHeartbeats 1000000
theorem leastT_plain {e d:Nat} {t:Ty} (h8:t.kind≠8) (h9:t.kind≠9) (h10:t.kind≠10):leastT e (d+1) t=1:=by
  simp only [leastT];rw [if_neg h8,if_neg h10,if_neg h9];decide
theorem greatT_leaf {e d:Nat} {t:Ty} (he:t.elem.length=0) (hf:t.fields.length=0):greatT e (d+1) t=leastT e (d+1) t:=by
  simp only [greatT];rw [he,hf];rfl
theorem greatT_least {e d:Nat} {t:Ty}:leastT e (d+1) t≤greatT e (d+1) t:=by
  simp only [greatT]
  exact Int.le_trans (maxTo_base _) (maxTo_base _)
theorem withinB_list {d:Nat} {s t:Ty} (hk:s.kind=t.kind) (h8:s.kind=8):withinB (d+1) s t=(bndB s t && (decide (s.max=0) || withinB d (s.elem.getD 0 default) (t.elem.getD 0 default))):=by
  simp only [withinB];rw [if_neg (by omega),if_neg (by omega),if_neg (by omega),if_pos h8]
theorem withinB_num {d:Nat} {s t:Ty} (hk:s.kind=t.kind) (h4:s.kind≠4) (h8:s.kind≠8) (h9:s.kind≠9) (h10:s.kind≠10) (hsc:s.scale=t.scale):withinB (d+1) s t=(decide (s.kind=1) || bndB s t):=by
  simp only [withinB];rw [if_neg (by omega)]
  by_cases h1:s.kind=1
  · rw [if_pos h1];simp [h1]
  rw [if_neg h1,if_neg h4,if_neg h8,if_neg h9,if_neg h10,decide_eq_false h1]
  split
  · simp [hsc]
  · simp
end Go.Ai
