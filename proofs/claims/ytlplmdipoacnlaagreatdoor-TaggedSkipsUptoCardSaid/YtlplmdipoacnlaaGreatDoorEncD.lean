/- Chapter 10: the fields in the order of their numbers, found one after another. -/
import Derived.Test.YtlplmdipoacnlaaGreatDoorWrA
import Derived.Test.YtlplmdipoacnlaaGreatDoorEncA
import Derived.Test.YtlplmdipoacnlaaGreatDoorWrB
set_option linter.all false
namespace Go.Ai
open Go Go.Proofs Go.Lib
set_option maxRecDepth 100000
set_option maxHeartbeats 4000000
theorem compareInt_lt {a b:Int}:compareInt a b<0↔a<b:=by
  unfold compareInt
  split
  · simp;omega
  · split
    · simp;omega
    · simp;omega
theorem leF_iff (x y:TF):leF x y=true↔fNum x≤fNum y:=by
  simp only [leF,Bool.not_eq_true',decide_eq_false_iff_not,compareInt_lt];omega
theorem sortT_lt {l:List TF} (hn:(l.map fNum).Nodup) {i j:Nat} (hij:i<j) (hj:j<(sortT l).length):fNum ((sortT l).getD i default)<fNum ((sortT l).getD j default):=by
  have hs:(sortT l).Pairwise (fun a b=>leF a b=true):=by
    unfold sortT
    exact List.pairwise_mergeSort (fun a b c h1 h2=>by rw [leF_iff] at *;omega) (fun a b=>by
      rw [Bool.or_eq_true,leF_iff,leF_iff];omega) l
  have hp:(sortT l).Perm l:=by unfold sortT;exact List.mergeSort_perm ..
  have hd:((sortT l).map fNum).Nodup:=(hp.map fNum).nodup_iff.2 hn
  have hi:i<(sortT l).length:=by omega
  have h1:=List.pairwise_iff_getElem.1 hs i j hi hj hij
  rw [leF_iff] at h1
  have h2:fNum (sortT l)[i]≠fNum (sortT l)[j]:=by
    have:=(List.pairwise_map.1 hd)
    exact List.pairwise_iff_getElem.1 this i j hi hj hij
  simp only [List.getD_eq_getElem?_getD,List.getElem?_eq_getElem hi,List.getElem?_eq_getElem hj,Option.getD_some]
  omega
end Go.Ai

namespace Go.Ai
open Go Go.Proofs
set_option maxRecDepth 100000
set_option maxHeartbeats 4000000
end Go.Ai
