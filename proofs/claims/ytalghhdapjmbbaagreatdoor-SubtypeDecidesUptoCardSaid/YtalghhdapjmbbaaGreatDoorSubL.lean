/- Chapter 8: the first example. -/
import Derived.Test.YtalghhdapjmbbaaGreatDoorSubK
import Derived.Test.YtalghhdapjmbbaaGreatDoorSubQ
import Derived.Test.YtalghhdapjmbbaaGreatDoorSubB
set_option linter.all false
namespace Go.Ai
open Go Go.Proofs
set_option maxRecDepth 100000
set_option maxHeartbeats 4000000
theorem chk2_num {e d:Nat} {a b x y:Int} (h1:a≤b ∧ -999999999999999≤a∧b≤999999999999999) (h2:x≤y ∧ -999999999999999≤x∧y≤999999999999999):chk2 (e+1) (d+1) (numT a b) (numT x y)=0 :=
  chk2_zero.2 ⟨by rw [chkT_num,if_pos h1],by rw [chkT_num,if_pos h2]⟩
theorem within_num (d:Nat) (a b x y:Int):withinB (d+1) (numT a b) (numT x y)=bndB (numT a b) (numT x y):=by
  have k:(numT a b).kind=2:=rfl
  rw [withinB_num (d:=d) (s:=numT a b) (t:=numT x y) rfl (by omega) (by omega) (by omega) (by omega) rfl,decide_eq_false (by omega)];rfl
theorem bnd_num (a b x y:Int):bndB (numT a b) (numT x y)=decide (x≤a∧b≤y):=rfl
theorem join_num {d:Nat} {a b x y:Int} (h:¬ (a=x∧b=y)):joinT (d+1) (numT a b) (numT x y)=(numT (Min.min a x) (Max.max b y),0):=by
  have k:(numT a b).kind=2:=rfl
  have k2:(numT x y).kind=2:=rfl
  have k3:(numT a b).scale=(numT x y).scale:=rfl
  simp only [joinT]
  rw [if_neg (fun q=>by
    have:=Ty.eq_iff.1 q
    exact h ⟨this.2.1,this.2.2.1⟩),if_neg (by omega),if_neg (by omega),if_neg (by omega)]
  rfl
theorem known_ok:Af Tryz.prog 12 [] [] (.bool fun _=>true) []:=by
  have w1:=Within_ok 0 1 (numT 1 5) (numT 0 5) (by omega) (numT_le _ _ _ _) (numT_le _ _ _ _)
  rw [chk2_num (by omega) (by omega),within_num,bnd_num] at w1
  have w2:=Within_ok 0 1 (numT 1 5) (numT 2 5) (by omega) (numT_le _ _ _ _) (numT_le _ _ _ _)
  rw [chk2_num (by omega) (by omega),within_num,bnd_num] at w2
  have w3:=Witness_of 0 1 1 (numT 1 5) (numT 2 5) (numW (numT 1 5) (numT 2 5)) true (by omega) (numT_le _ _ _ _) (numT_le _ _ _ _) (by exact numV_le 0 1) fun _ _=>witness2_ok 1 1 0 _ _ rfl rfl
  have hw3:witE 1 1 1 (numT 1 5) (numT 2 5) (numW (numT 1 5) (numT 2 5)) true=(numV 1,0):=by
    unfold witE
    rw [chk2_num (by omega) (by omega),within_num,bnd_num]
    rfl
  rw [hw3] at w3
  have w4:=Join_ok 0 1 (numT 1 5) (numT 2 9) (by omega) (numT_le _ _ _ _) (numT_le _ _ _ _)
  have hw4:joinE 1 1 (numT 1 5) (numT 2 9)=(numT 1 9,0):=by
    unfold joinE
    rw [chk2_num (by omega) (by omega),if_neg (by omega),join_num (by omega)];rfl
  rw [hw4] at w4
  have w5:=refEqualT_ok 1 1 (numT 1 9) (numT 1 9) (numT_le _ _ _ _) (numT_le _ _ _ _)
  rw [decide_eq_true rfl] at w5
  (apply Af.of tF mF [.tmp 0] kp12 [(1,[(0,encT 1 1 .any fun _=>numT 1 5,[]),(1,encT 1 1 .any fun _=>numT 0 5,[]),(2,.tup [.bool fun _=>true,.int .i64 fun _=>0],[])]),
    (2,[(0,encT 1 1 .any fun _=>numT 1 5,[]),(1,encT 1 1 .any fun _=>numT 2 5,[]),(2,.tup [.bool fun _=>false,.int .i64 fun _=>0],[])]),
    (3,[(0,encT 1 1 .any fun _=>numT 1 5,[]),(1,encT 1 1 .any fun _=>numT 2 5,[]),(2,.tup [encV 1 .any fun _=>numV 1,.int .i64 fun _=>0],[])]),
    (4,[(0,encT 1 1 .any fun _=>numT 1 5,[]),(1,encT 1 1 .any fun _=>numT 2 9,[]),(2,.tup [encT 1 1 .any fun _=>numT 1 9,.int .i64 fun _=>0],[])]),
    (5,[(33,encT 1 1 .any fun _=>numT 1 9,[]),(34,.bool fun _=>true,[])])] Tryz.func12 (fun _=>?_);(any_goals ((with_reducible refine wI ?_);cbv;(try dsimp only [nc] at *);(repeat' (with_reducible first|exact aO|exact oN|refine oC ?_ ?_|refine VC.mk rfl ?_ ?_ ?_|(apply Ca.mk<;>intro _)|(apply Cv.mk<;>intro zq<;>(try simp only [nc,cl] at zq)<;>(try simp only [bl,dl] at zq)<;>(revert zq;intro _))|((first|apply xE|apply uE);cbv;(try dsimp only [nc] at *)))))))
  any_goals (refine nO ?_;first
    | exact number_ok 1 0 _ _
    | exact w1
    | exact w2
    | exact w3
    | exact w4)
  any_goals ((with_reducible refine sO (fun _=>?_));first
    | exact number_ok 1 0 _ _
    | exact w5)
  ((all_goals (try (with_reducible ((first|refine rE ?_|refine nE ?_);(focus (cbv;(try dsimp only [nc] at *);(try simp only [wl,nc]);(repeat' (with_reducible apply And.intro));all_goals (try exact wZ)))))));(all_goals (try ((with_reducible rw [aC]);(try simp only [wl,nc]);(repeat' (with_reducible apply And.intro));(all_goals (try exact cZ))))))
end Go.Ai
