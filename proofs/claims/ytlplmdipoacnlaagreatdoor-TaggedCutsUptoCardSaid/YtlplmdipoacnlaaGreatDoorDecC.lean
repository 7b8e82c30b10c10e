/- Chapter 10: Parts undoes Join. -/
import Derived.Test.YtlplmdipoacnlaaGreatDoorDecB
set_option linter.all false
namespace Go.Ai
open Go Go.Proofs
set_option maxRecDepth 100000
set_option maxHeartbeats 2000000
theorem strN_of {l:List Nat} (h:∀ x ∈ l,x<256):strN (baL l)=l:=by
  simp only [strN,baL,List.map_map]
  conv=>rhs;rw [← List.map_id l]
  refine List.map_congr_left fun x hx=>?_
  simp [UInt8.toNat_ofNat',Nat.mod_eq_of_lt (h x hx)]
theorem putN_256:∀ (n:Nat),∀ x ∈ putN n,x<256:=by
  intro n
  induction n using Nat.strongRecOn with
  | _ n ih =>
    intro x hx
    rw [putN] at hx
    split at hx
    · simp at hx;omega
    · rcases List.mem_cons.1 hx with rfl|hx
      · omega
      · exact ih (n / 128) (by omega) x hx
end Go.Ai
