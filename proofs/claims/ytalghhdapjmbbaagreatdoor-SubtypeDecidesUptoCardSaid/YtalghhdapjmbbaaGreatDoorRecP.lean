/- Records of fields, in plain words. -/
import Derived.Test.YtalghhdapjmbbaaGreatDoorOrd
import Derived.Test.YtalghhdapjmbbaaGreatDoorFnD
set_option linter.all false
namespace Go.Ai
open Go Go.Proofs
set_option maxRecDepth 100000
set_option maxHeartbeats 2000000
def leN (x y:ByteArray×V):Bool:=!(decide (cmpS y.1 x.1<0))
def sortN (l:List (ByteArray×V)):List (ByteArray×V):=l.mergeSort leN
theorem sortN_len (l:List (ByteArray×V)):(sortN l).length=l.length:=List.length_mergeSort _
def laterB (x:ByteArray×V) (r:List (ByteArray×V)):Bool:=r.any fun y=>decide (y.1=x.1) && !isNull y.2
def keepR:List (ByteArray×V)→List (ByteArray×V)
  | []=>[]
  | x :: r=>if !isNull x.2 && !laterB x r then x :: keepR r else keepR r
def recV (l:List (ByteArray×V)):V:=.mk 9 0 0 ⟨#[]⟩ [] (sortN (keepR l))
theorem keepR_sub:∀ (l:List (ByteArray×V)),∀ x ∈ keepR l,x ∈ l∧isNull x.2=false
  | [],x,h=>by simp [keepR] at h
  | y :: r,x,h=>by
    simp only [keepR] at h
    split at h
    · rename_i q
      rcases List.mem_cons.1 h with rfl|h
      · exact ⟨List.mem_cons_self ..,by simpa using (Bool.and_eq_true_iff.1 q).1⟩
      · have:=keepR_sub r x h;exact ⟨List.mem_cons_of_mem _ this.1,this.2⟩
    · have:=keepR_sub r x h;exact ⟨List.mem_cons_of_mem _ this.1,this.2⟩
theorem keepR_len:∀ (l:List (ByteArray×V)),(keepR l).length≤l.length
  | []=>by simp [keepR]
  | y :: r=>by
    have:=keepR_len r
    simp only [keepR]
    split<;>simp<;>omega
theorem keepR_nodup:∀ (l:List (ByteArray×V)),((keepR l).map (·.1)).Nodup
  | []=>by simp [keepR]
  | y :: r=>by
    have ih:=keepR_nodup r
    simp only [keepR]
    split
    · rename_i q
      rw [List.map_cons,List.nodup_cons]
      refine ⟨fun hm=>?_,ih⟩
      obtain ⟨x,hx,e⟩:=List.mem_map.1 hm
      obtain ⟨h1,h2⟩:=keepR_sub r x hx
      have h3:laterB y r=true:=List.any_eq_true.2 ⟨x,h1,by simp [e,h2]⟩
      rw [h3] at q;simp at q
    · exact ih
theorem sortN_mem {l:List (ByteArray×V)} {x:ByteArray×V}:x ∈ sortN l↔x ∈ l:=(List.mergeSort_perm l leN).mem_iff
theorem recV_le {d:Nat} {l:List (ByteArray×V)} (hl:l.length≤1073741824) (hv:∀ x ∈ l,x.1.size≤1073741824∧V.le d x.2):V.le (d+1) (recV l):=by
  refine ⟨by simp [recV,V.list],?_,(by show (0:Nat)≤_;omega),fun x h=>by simp [recV,V.list] at h,fun x h=>?_⟩
  · have:=keepR_len l
    simp only [recV,V.fields,sortN_len];omega
  · simp only [recV,V.fields] at h
    exact hv x (keepR_sub l x (sortN_mem.1 h)).1
end Go.Ai
