/- Chapter 15: the scanner: bytes, blanks, words. -/
import Derived.Test.YtbagpkiomjlhkaaGreatDoorLexA
set_option linter.all false
namespace Go.Ai
open Go Go.Proofs
set_option maxRecDepth 100000
set_option maxHeartbeats 4000000
theorem adx (c:Int):Af Tryz.prog 166 [.int .u8 fun _=>c] [] (.bool fun _=>digB c) []:=by
 (apply Af.of tF mF [.tmp 2] kp166 [] Tryz.func166 (fun _=>?_);(any_goals ((with_reducible refine wI ?_);cbv;(try dsimp only [nc] at *);(repeat' (with_reducible first|exact ‹False›.elim|exact nZ|refine oC ?_ ?_|refine VC.mk rfl ?_ ?_ ?_|(apply Ca.mk<;>intro _)|refine cV (fun _=>?_) fun _=>?_|((first|apply xE|apply uE);cbv;(try dsimp only [nc] at *)))))))
 ((all_goals (try (with_reducible ((first|refine rE ?_|refine nE ?_);cbv;(try dsimp only [nc] at *);(try simp only [wl,nc]);(repeat' apply And.intro);all_goals (try exact wZ)))));(all_goals (try ((with_reducible rw [aC]);(try simp only [wl,nc]);(repeat' (with_reducible apply And.intro));(all_goals (try exact cZ))))))
 simp only [digB];((((try simp only [nc,cl] at *)<;>(try rw [Bool.eq_iff_iff]))<;>(try simp only [bl,false_iff,true_iff,iff_true,iff_false,aja,ajb,ne_eq,Decidable.not_not] at *))<;>(first|omega|grind))
theorem aeM (c:Int):Af Tryz.prog 164 [.int .u8 fun _=>c] [] (.bool fun _=>letB c) []:=by
 (apply Af.of tF mF [.tmp 2] kp164 [] Tryz.func164 (fun _=>?_);(any_goals ((with_reducible refine wI ?_);cbv;(try dsimp only [nc] at *);(repeat' (with_reducible first|exact ‹False›.elim|exact nZ|refine oC ?_ ?_|refine VC.mk rfl ?_ ?_ ?_|(apply Ca.mk<;>intro _)|refine cV (fun _=>?_) fun _=>?_|((first|apply xE|apply uE);cbv;(try dsimp only [nc] at *)))))))
 ((all_goals (try (with_reducible ((first|refine rE ?_|refine nE ?_);cbv;(try dsimp only [nc] at *);(try simp only [wl,nc]);(repeat' apply And.intro);all_goals (try exact wZ)))));(all_goals (try ((with_reducible rw [aC]);(try simp only [wl,nc]);(repeat' (with_reducible apply And.intro));(all_goals (try exact cZ))))))
 all_goals (try simp only [letB])
 all_goals ((((try simp only [nc,cl] at *)<;>(try rw [Bool.eq_iff_iff]))<;>(try simp only [bl,false_iff,true_iff,iff_true,iff_false,aja,ajb,ne_eq,Decidable.not_not] at *))<;>(first|omega|grind))
theorem amg (c:Int):Af Tryz.prog 165 [.int .u8 fun _=>c] [] (.bool fun _=>adM c) []:=by
 have h1:=aeM c
 have h2:=adx c
 unfold adM
 generalize letB c=a at h1 ⊢
 generalize digB c=b at h2 ⊢
 (apply Af.of tF mF [.tmp 2] kp165 [(1,[(1,.bool fun _=>a,[]),(4,.bool fun _=>b,[])])] Tryz.func165 (fun _=>?_);(any_goals ((with_reducible refine wI ?_);cbv;(try dsimp only [nc] at *);(repeat' (with_reducible first|exact ‹False›.elim|exact nZ|refine oC ?_ ?_|refine VC.mk rfl ?_ ?_ ?_|(apply Ca.mk<;>intro _)|refine cV (fun _=>?_) fun _=>?_|((first|apply xE|apply uE);cbv;(try dsimp only [nc] at *)))))))
 any_goals (refine nO ?_;exact h1)
 any_goals ((with_reducible refine sO (fun _=>?_));exact h2)
 ((all_goals (try (with_reducible ((first|refine rE ?_|refine nE ?_);cbv;(try dsimp only [nc] at *);(try simp only [wl,nc]);(repeat' apply And.intro);all_goals (try exact wZ)))));(all_goals (try ((with_reducible rw [aC]);(try simp only [wl,nc]);(repeat' (with_reducible apply And.intro));(all_goals (try exact cZ))))))
 by_cases k:c=95<;>cases a<;>cases b<;>simp [k]
def boxC (s:ByteArray) (at_:Nat) (w e:Int):AO:=.box [.str fun _=>s,.int .i64 fun _=>at_,.int .i64 fun _=>w,.int .i64 fun _=>e]
theorem afa {s:ByteArray} {i:Nat} (h:s.size≤i):byt s i=0:=by
 have h1:s.data.size≤i:=h
 simp [byt,Array.getElem?_eq_none h1]
theorem aaH (s:ByteArray) (i off:Nat) (w e:Int) (hi:i≤1073741824) (ho:off≤4):Af Tryz.prog 157 [.ptr 1000 0,.int .i64 fun _=>off] [(1000,boxC s i w e)] (.int .u8 fun _=>byt s (i+off)) [(1000,boxC s i w e)]:=by
 (apply Af.of tF mF [.tmp 4] kp157 [] Tryz.func157 (fun _=>?_);(any_goals ((with_reducible refine wI ?_);cbv;(try dsimp only [nc] at *);(repeat' (with_reducible first|exact ‹False›.elim|exact nZ|refine oC ?_ ?_|refine VC.mk rfl ?_ ?_ ?_|(apply Ca.mk<;>intro _)|refine cV (fun _=>?_) fun _=>?_|((first|apply xE|apply uE);cbv;(try dsimp only [nc] at *)))))))
 ((all_goals (try (with_reducible ((first|refine rE ?_|refine nE ?_);cbv;(try dsimp only [nc] at *);(try simp only [wl,nc]);(repeat' apply And.intro);all_goals (try exact wZ)))));(all_goals (try ((with_reducible rw [aC]);(try simp only [wl,nc]);(repeat' (with_reducible apply And.intro));(all_goals (try exact cZ))))))
 ·rename_i h
  rw [w64 (by omega) (by omega)] at h
  exact (afa (by omega)).symm
 ·rw [w64 (by omega) (by omega),show ((i:Int)+(off:Int)).toNat=i+off by omega];rfl
theorem sfail_ok (s:ByteArray) (i:Nat) (w e p q:Int):Af Tryz.prog 109 [.ptr 1000 0,.int .i64 fun _=>p,.int .i64 fun _=>q] [(1000,boxC s i w e)] (.tup []) [(1000,boxC s i (if e=0 then p else w) (if e=0 then q else e))]:=by
 (apply Af.of tF mF [] kp109 [] Tryz.func109 (fun _=>?_);(any_goals ((with_reducible refine wI ?_);cbv;(try dsimp only [nc] at *);(repeat' (with_reducible first|exact ‹False›.elim|exact nZ|refine oC ?_ ?_|refine VC.mk rfl ?_ ?_ ?_|(apply Ca.mk<;>intro _)|refine cV (fun _=>?_) fun _=>?_|((first|apply xE|apply uE);cbv;(try dsimp only [nc] at *)))))))
 (all_goals exact eZ)
theorem ajp (s:ByteArray) (i:Nat) (w e:Int) (hs:s.size≤1073741824) (hi:i≤s.size) (fn:FuncId) (p:Int→Bool) (hp:∀ c,Af Tryz.prog fn [.int .u8 fun _=>c] [] (.bool fun _=>p c) []) :
 Af Tryz.prog 158 [.ptr 1000 0,.func fn []] [(1000,boxC s i w e)] (.str fun _=>s.extract i (aag s p i)) [(1000,boxC s (aag s p i) w e)]:=by
 obtain ⟨W,hW⟩:∃ W,W=aag s p i:=⟨_,rfl⟩
 rw [← hW]
 (apply Af.of tF mF [.tmp 4] kp158 [] Tryz.func158 (fun _=>?_);(any_goals ((with_reducible refine wI ?_);cbv;(try dsimp only [nc] at *);(repeat' (with_reducible first|exact ‹False›.elim|exact nZ|refine oC ?_ ?_|refine VC.mk rfl ?_ ?_ ?_|(apply Ca.mk<;>intro _)|refine cV (fun _=>?_) fun _=>?_|((first|apply xE|apply uE);cbv;(try dsimp only [nc] at *)))))))
 ((all_goals (try (with_reducible ((first|refine rE ?_|refine nE ?_);cbv;(try dsimp only [nc] at *);(try simp only [wl,nc]);(repeat' apply And.intro);all_goals (try exact wZ)))));(all_goals (try ((with_reducible rw [aC]);(try simp only [wl,nc]);(repeat' (with_reducible apply And.intro));(all_goals (try exact cZ))))))
 refine .loop (fun j:Nat=>⟨50,[(5,.int .i64 fun _=>i),(0,.ptr 1000 0),(1,.func fn [])],[(1000,boxC s j w e)]⟩)
  (fun j=>i≤j∧j≤s.size∧W=aag s p j) (fun j=>s.size - j) i ⟨Nat.le_refl _,hi,hW⟩ ?_ fun j E hj=>?_
 ·(exact aZ)
 obtain ⟨j1,j2,j3⟩:=hj
 have hpj:=hp (byt s j)
 by_cases q:j<s.size∧p (byt s j)=true
 ·rw [abw q] at j3
  rw [q.2] at hpj
  have q1:=q.1
  apply AWp.wk tF mF [(2,[(21,.bool fun _=>true,[])])] kp158 ?_
  (any_goals ((with_reducible refine wI ?_);cbv;(try dsimp only [nc] at *);(repeat' (with_reducible first|exact ‹False›.elim|exact nZ|refine oC ?_ ?_|refine VC.mk rfl ?_ ?_ ?_|(apply Ca.mk<;>intro _)|refine cV (fun _=>?_) fun _=>?_|((first|apply xE|apply uE);cbv;(try dsimp only [nc] at *))))))
  any_goals ((with_reducible refine sO (fun _=>?_));exact hpj)
  all_goals (try (exact absurd (‹s.size≤j∨False›.resolve_right id) (by omega)))
  ((all_goals (try (with_reducible ((first|refine rE ?_|refine nE ?_);cbv;(try dsimp only [nc] at *);(try simp only [wl,nc]);(repeat' apply And.intro);all_goals (try exact wZ)))));(all_goals (try ((with_reducible rw [aC]);(try simp only [wl,nc]);(repeat' (with_reducible apply And.intro));(all_goals (try exact cZ))))))
  refine dE (j+1) ⟨⟨by omega,by omega,j3⟩,by omega⟩ ?_
  (focus (cbv;(try dsimp only [nc] at *);(try simp only [wl,nc]);(repeat' (with_reducible apply And.intro));all_goals (try exact wZ)))
  exact w64n (by omega)
 ·rw [abv q] at j3
  subst j3
  apply AWp.wk tF mF [(2,[(21,.bool fun _=>p (byt s W),[])])] kp158 ?_
  (any_goals ((with_reducible refine wI ?_);cbv;(try dsimp only [nc] at *);(repeat' (with_reducible first|exact ‹False›.elim|exact nZ|refine oC ?_ ?_|refine VC.mk rfl ?_ ?_ ?_|(apply Ca.mk<;>intro _)|refine cV (fun _=>?_) fun _=>?_|((first|apply xE|apply uE);cbv;(try dsimp only [nc] at *))))))
  any_goals ((with_reducible refine sO (fun _=>?_));exact hpj)
  all_goals (try (exact absurd ‹W<s.size∧p (byt s W)=true› q))
  ((all_goals (try (with_reducible ((first|refine rE ?_|refine nE ?_);cbv;(try dsimp only [nc] at *);(try simp only [wl,nc]);(repeat' apply And.intro);all_goals (try exact wZ)))));(all_goals (try ((with_reducible rw [aC]);(try simp only [wl,nc]);(repeat' (with_reducible apply And.intro));(all_goals (try exact cZ))))))
  all_goals rfl
theorem afe {s:ByteArray}:∀ n i,i≤s.size→i≤abM s n i∧abM s n i≤s.size
 | 0,i,h=>⟨Nat.le_refl _,h⟩
 | n + 1,i,h=>by
  simp only [abM]
  split
  ·split
   ·have:=afe (s:=s) n (i+1) (by omega);omega
   split
   ·have h1:=abb (s:=s) (p:=fun c=>c != 10) h
    have:=afe (s:=s) n (aag s (fun c=>c != 10) i) h1.2
    omega
   ·exact ⟨Nat.le_refl _,h⟩
  ·exact ⟨Nat.le_refl _,h⟩
end Go.Ai
