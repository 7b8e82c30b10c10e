/- Chapter 10: Parts, Join. -/
import Derived.Test.YtlplmdipoacnlaaGreatDoorDecA
import Derived.Test.YtlplmdipoacnlaaGreatDoorWrA
import Derived.Test.YtlplmdipoacnlaaGreatDoorEncC
set_option linter.all false
namespace Go.Ai
open Go Go.Proofs
set_option maxRecDepth 100000
set_option maxHeartbeats 4000000
theorem refNumber_ok (e d:Nat) (t:Ty) (ht:Ty.le e (d+1) t) (n:Int):Af Tryz.prog 76 [encT e (d+1) .any fun _=>t,.int .i64 fun _=>n] [] (.int .i64 fun _=>iI (byNo n) t.fields) []:=by
  have hl:=ht.2.2.2.1
  (apply Af.of tF mF [.tmp 4] kq76 [(0,[(0,.nil,[])])] Tryz.func76 (fun _=>?_);(any_goals ((with_reducible refine wI ?_);cbv;(try dsimp only [nc] at *);(repeat' (with_reducible first|exact aO|exact oN|refine oC ?_ ?_|refine VC.mk rfl ?_ ?_ ?_|(apply Ca.mk<;>intro _)|(apply Cv.mk<;>intro zq<;>(try simp only [nc,cl] at zq)<;>(try simp only [bl,dl] at zq)<;>(revert zq;intro _))|((first|apply xE|apply uE);cbv;(try dsimp only [nc] at *)))))))
  ((all_goals (try (with_reducible ((first|refine rE ?_|refine nE ?_);(focus (cbv;(try dsimp only [nc] at *);(try simp only [wl,nc]);(repeat' (with_reducible apply And.intro));all_goals (try exact wZ)))))));(all_goals (try ((with_reducible rw [aC]);(try simp only [wl,nc]);(repeat' (with_reducible apply And.intro));(all_goals (try exact cZ))))))
  refine .loop (fun i:Nat=>⟨22,[(5,.int .i64 fun _=>i),(2,boxT e (d+1) fun _=>t),(1,.int .i64 fun _=>n)],[]⟩)
    (fun i=>i≤t.fields.length∧∀ j,j<i→byNo n (t.fields.getD j default)=false) (fun i=>t.fields.length - i) 0 (by simp) ?_ fun i E hi=>?_
  · (focus (cbv;(try dsimp only [nc] at *);(try simp only [wl,nc]);(repeat' (with_reducible apply And.intro));all_goals (try exact wZ)))
  apply AWp.wk tF mF [] kq76 ?_
  (any_goals ((with_reducible refine wI ?_);cbv;(try dsimp only [nc] at *);(repeat' (with_reducible first|exact aO|exact oN|refine oC ?_ ?_|refine VC.mk rfl ?_ ?_ ?_|(apply Ca.mk<;>intro _)|(apply Cv.mk<;>intro zq<;>(try simp only [nc,cl] at zq)<;>(try simp only [bl,dl] at zq)<;>(revert zq;intro _))|((first|apply xE|apply uE);cbv;(try dsimp only [nc] at *))))))
  ((all_goals (try (with_reducible ((first|refine rE ?_|refine nE ?_);(focus (cbv;(try dsimp only [nc] at *);(try simp only [wl,nc]);(repeat' (with_reducible apply And.intro));all_goals (try exact wZ)))))));(all_goals (try ((with_reducible rw [aC]);(try simp only [wl,nc]);(repeat' (with_reducible apply And.intro));(all_goals (try exact cZ))))))
  · exact (idxI_at (p:=byNo n) ‹_› (by simp only [byNo,beq_iff_eq];assumption) hi.2).symm
  · refine dE (i+1) ⟨⟨by omega,fun j hj=>?_⟩,by omega⟩ ?_
    · rcases Nat.lt_succ_iff_lt_or_eq.1 hj with hj|rfl
      · exact hi.2 j hj
      · simp only [byNo,beq_eq_false_iff_ne];assumption
    · (focus (cbv;(try dsimp only [nc] at *);(try simp only [wl,nc]);(repeat' (with_reducible apply And.intro));all_goals (try exact wZ)))
      exact w64n (by omega)
  · exact (idxI_none fun j hj=>hi.2 j (by omega)).symm
theorem refTakeV_good {s:ByteArray} {a:Int} (h0:0≤a) (h1:a≤s.size) (hs:s.size≤35184372088832) (he:(tV s a).2.2.2=0):a<(tV s a).2.1∧(tV s a).2.1≤s.size∧0≤(tV s a).1∧(tV s a).1≤4611686018427387903:=by
  have hg:=rdAt_good h0 h1 hs
  cases hk:takeN (rdAt s a).room 0 0 with
  | ok p =>
    obtain ⟨n,k⟩:=p
    obtain ⟨q1,q2,q3⟩:=take_len (room_byte _) hk
    have hl:=Rd.room_len hg
    have hm:=take_most _ _ _ _ _ hk
    rw [refTake_get hk]
    simp only [rdAt] at hl q3 ⊢
    omega
  | error k =>
    simp only [tV,hk] at he
    split at he<;>cases he
end Go.Ai

namespace Go.Ai
open Go Go.Proofs
set_option maxRecDepth 100000
set_option maxHeartbeats 2000000
def sgm (s:ByteArray) (a b:Nat):List Nat:=((strN s).take b).drop a
theorem strN_ext (s:ByteArray) {a b:Nat}:strN (s.extract a b)=sgm s a b:=by
  unfold sgm strN
  rw [ByteArray.data_extract,Array.toList_extract,← List.map_take,← List.map_drop]
  congr 1
  rw [List.extract_eq_drop_take,List.drop_take]
theorem sub2_err {r:Rd} (h:r.e≠0):sub2 r=r:=by
  have:nR r=(0,r):=by simp [nR,h]
  unfold sub2
  rw [this]
  show (bR r 0).2=r
  rw [bR,if_pos h]
end Go.Ai
