/- Chapter 10: Parts undoes Join. -/
import Derived.Test.YtlplmdipoacnlaaGreatDoorDecB
set_option linter.all false
namespace Go.Ai
open Go Go.Proofs
set_option maxRecDepth 100000
set_option maxHeartbeats 2000000
theorem strN_of {l:List Nat} (h:∀ x ∈ l,x<256):strN (baL l)=l:=by
  simp only [strN,baL,List.map_map]
  conv=>rhs;rw [← List.map_id l]
  refine List.map_congr_left fun x hx=>?_
  simp [UInt8.toNat_ofNat',Nat.mod_eq_of_lt (h x hx)]
theorem putN_256:∀ (n:Nat),∀ x ∈ putN n,x<256:=by
  intro n
  induction n using Nat.strongRecOn with
  | _ n ih =>
    intro x hx
    rw [putN] at hx
    split at hx
    · simp at hx;omega
    · rcases List.mem_cons.1 hx with rfl|hx
      · omega
      · exact ih (n / 128) (by omega) x hx
def bytesP (l:PL):List Nat:=(l.map partN).flatten
theorem bytesP_cons (x:Int×ByteArray) (l:PL):bytesP (x :: l)=partN x++bytesP l:=rfl
theorem bytesP_byte (l:PL):∀ b ∈ bytesP l,b<256:=by
  intro b hb
  obtain ⟨y,hy,hyb⟩:=List.mem_flatten.1 hb
  obtain ⟨x,hx,rfl⟩:=List.mem_map.1 hy
  simp only [partN,List.mem_append] at hyb
  rcases hyb with h|h|h
  · exact putN_256 _ _ h
  · exact putN_256 _ _ h
  · obtain ⟨z,_,rfl⟩:=List.mem_map.1 h
    exact z.toNat_lt
theorem joinL_one:∀ (l:PL) (last:Int) (out:List Nat),(joinL l last out).2=0→(joinL l last out).1=out++bytesP l
  | [],_,out,_=>by simp [joinL,bytesP]
  | x :: m,last,out,hj=>by
    rw [joinL] at hj ⊢
    by_cases c1:x.1<1∨9999<x.1
    · rw [if_pos c1] at hj;exact absurd (show (2:Int)=0 from hj) (by decide)
    rw [if_neg c1] at hj ⊢
    by_cases c2:x.1≤last
    · rw [if_pos c2] at hj;exact absurd (show (24:Int)=0 from hj) (by decide)
    rw [if_neg c2] at hj ⊢
    rw [joinL_one m x.1 _ hj,bytesP_cons,List.append_assoc]
end Go.Ai
