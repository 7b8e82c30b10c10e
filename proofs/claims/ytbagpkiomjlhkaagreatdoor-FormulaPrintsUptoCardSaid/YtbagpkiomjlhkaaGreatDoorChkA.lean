/- Chapter 17: expr: one operation. -/
import Derived.Test.YtbagpkiomjlhkaaGreatDoorPthB
import Derived.Test.YtbagpkiomjlhkaaGreatDoorLexA
set_option linter.all false
namespace Go.Ai
open Go Go.Proofs
set_option maxRecDepth 100000
set_option maxHeartbeats 4000000
def lowX (o:Int):Int:=if o=1∨o=2∨o=22∨o=26 then 0 else if o=3∨o=16∨o=18∨o=19∨o=20∨o=27∨o=28 then 1 else if o=21∨o=24 then 3 else 2
def afs (o:Int):Int:=if o=25 then 256 else lowX o
def abJ (o:Int):Bool:=o == 2 || o == 22 || o == 26
def aec (o:Int):Bool:=o == 15 || o == 26
def abA (k:Int):Bool:=decide (1≤k∧k≤7)
theorem arity_ok (o:Int):Af Tryz.prog 91 [.int .i64 fun _=>o] [] (.tup [.int .i64 fun _=>lowX o,.int .i64 fun _=>afs o]) []:=by
 obtain ⟨a,ha⟩:∃ a,a=lowX o:=⟨_,rfl⟩
 obtain ⟨b,hb⟩:∃ b,b=afs o:=⟨_,rfl⟩
 rw [← ha,← hb]
 (apply Af.of tF mF [.tmp 2,.tmp 3] kp91 [] Tryz.func91 (fun _=>?_);(any_goals ((with_reducible refine wI ?_);cbv;(try dsimp only [nc] at *);(repeat' (with_reducible first|exact ‹False›.elim|exact nZ|refine oC ?_ ?_|refine VC.mk rfl ?_ ?_ ?_|(apply Ca.mk<;>intro _)|refine cV (fun _=>?_) fun _=>?_|((first|apply xE|apply uE);cbv;(try dsimp only [nc] at *)))))))
 ((all_goals (try (with_reducible ((first|refine rE ?_|refine nE ?_);cbv;(try dsimp only [nc] at *);(try simp only [wl,nc]);(repeat' apply And.intro);all_goals (try exact wZ)))));(all_goals (try ((with_reducible rw [aC]);(try simp only [wl,nc]);(repeat' (with_reducible apply And.intro));(all_goals (try exact cZ))))))
 all_goals (first|rw [ha]|rw [hb])
 all_goals (try unfold afs)
 all_goals (unfold lowX;repeat' split)
 all_goals omega
theorem amb (o:Int):Af Tryz.prog 92 [.int .i64 fun _=>o] [] (.bool fun _=>abJ o) []:=by
 obtain ⟨a,ha⟩:∃ a,a=abJ o:=⟨_,rfl⟩
 rw [← ha]
 (apply Af.of tF mF [.tmp 2] kp92 [] Tryz.func92 (fun _=>?_);(any_goals ((with_reducible refine wI ?_);cbv;(try dsimp only [nc] at *);(repeat' (with_reducible first|exact ‹False›.elim|exact nZ|refine oC ?_ ?_|refine VC.mk rfl ?_ ?_ ?_|(apply Ca.mk<;>intro _)|refine cV (fun _=>?_) fun _=>?_|((first|apply xE|apply uE);cbv;(try dsimp only [nc] at *)))))))
 ((all_goals (try (with_reducible ((first|refine rE ?_|refine nE ?_);cbv;(try dsimp only [nc] at *);(try simp only [wl,nc]);(repeat' apply And.intro);all_goals (try exact wZ)))));(all_goals (try ((with_reducible rw [aC]);(try simp only [wl,nc]);(repeat' (with_reducible apply And.intro));(all_goals (try exact cZ))))))
 all_goals (rw [ha];unfold abJ;by_cases h1:o=2<;>by_cases h2:o=22<;>by_cases h3:o=26<;>simp [h1,h2,h3])
theorem alO (o:Int):Af Tryz.prog 93 [.int .i64 fun _=>o] [] (.bool fun _=>aec o) []:=by
 obtain ⟨a,ha⟩:∃ a,a=aec o:=⟨_,rfl⟩
 rw [← ha]
 (apply Af.of tF mF [.tmp 2] kp93 [] Tryz.func93 (fun _=>?_);(any_goals ((with_reducible refine wI ?_);cbv;(try dsimp only [nc] at *);(repeat' (with_reducible first|exact ‹False›.elim|exact nZ|refine oC ?_ ?_|refine VC.mk rfl ?_ ?_ ?_|(apply Ca.mk<;>intro _)|refine cV (fun _=>?_) fun _=>?_|((first|apply xE|apply uE);cbv;(try dsimp only [nc] at *)))))))
 ((all_goals (try (with_reducible ((first|refine rE ?_|refine nE ?_);cbv;(try dsimp only [nc] at *);(try simp only [wl,nc]);(repeat' apply And.intro);all_goals (try exact wZ)))));(all_goals (try ((with_reducible rw [aC]);(try simp only [wl,nc]);(repeat' (with_reducible apply And.intro));(all_goals (try exact cZ))))))
 all_goals (rw [ha];unfold aec;by_cases h1:o=15<;>by_cases h2:o=26<;>simp [h1,h2])
theorem alP (o:Int):Af Tryz.prog 140 [.int .i64 fun _=>o] [] (.bool fun _=>abA o) []:=by
 obtain ⟨a,ha⟩:∃ a,a=abA o:=⟨_,rfl⟩
 rw [← ha]
 (apply Af.of tF mF [.tmp 2] kp140 [] Tryz.func140 (fun _=>?_);(any_goals ((with_reducible refine wI ?_);cbv;(try dsimp only [nc] at *);(repeat' (with_reducible first|exact ‹False›.elim|exact nZ|refine oC ?_ ?_|refine VC.mk rfl ?_ ?_ ?_|(apply Ca.mk<;>intro _)|refine cV (fun _=>?_) fun _=>?_|((first|apply xE|apply uE);cbv;(try dsimp only [nc] at *)))))))
 ((all_goals (try (with_reducible ((first|refine rE ?_|refine nE ?_);cbv;(try dsimp only [nc] at *);(try simp only [wl,nc]);(repeat' apply And.intro);all_goals (try exact wZ)))));(all_goals (try ((with_reducible rw [aC]);(try simp only [wl,nc]);(repeat' (with_reducible apply And.intro));(all_goals (try exact cZ))))))
 all_goals (rw [ha];unfold abA;by_cases h1:1≤o<;>by_cases h2:o≤7<;>simp [h1,h2])
def allP (p:Prt):Bool:=p.1 == 3
theorem allP_ok (p:Prt):Af Tryz.prog 96 [encP fun _=>p] [] (.bool fun _=>allP p) []:=by
 obtain ⟨a,ha⟩:∃ a,a=allP p:=⟨_,rfl⟩
 rw [← ha]
 (apply Af.of tF mF [.tmp 2] kp96 [] Tryz.func96 (fun _=>?_);(any_goals ((with_reducible refine wI ?_);cbv;(try dsimp only [nc] at *);(repeat' (with_reducible first|exact ‹False›.elim|exact nZ|refine oC ?_ ?_|refine VC.mk rfl ?_ ?_ ?_|(apply Ca.mk<;>intro _)|refine cV (fun _=>?_) fun _=>?_|((first|apply xE|apply uE);cbv;(try dsimp only [nc] at *)))))))
 ((all_goals (try (with_reducible ((first|refine rE ?_|refine nE ?_);cbv;(try dsimp only [nc] at *);(try simp only [wl,nc]);(repeat' apply And.intro);all_goals (try exact wZ)))));(all_goals (try ((with_reducible rw [aC]);(try simp only [wl,nc]);(repeat' (with_reducible apply And.intro));(all_goals (try exact cZ))))))
 rw [ha];rfl
def idxP (p:Prt→Bool):List Prt→Nat→Int
 | [],_ => -1
 | x :: r,i=>if p x=true then i else idxP p r (i+1)
theorem ak0 (p:Prt→Bool):∀ (l:List Prt) (i:Nat),decide (0≤idxP p l i)=l.any p
 | [],_=>by simp [idxP]
 | x :: r,i=>by
  unfold idxP
  by_cases q:p x=true
  ·rw [if_pos q];simp [q]
  ·rw [if_neg q,ak0 p r (i+1)];simp [q]
theorem an0 (l:List Prt) (hl:l.length≤1000000):Af Tryz.prog 141 [slcP fun _=>l,.func 96 []] [] (.int .i64 fun _=>idxP allP l 0) []:=by
 obtain ⟨Z,hZ⟩:∃ Z,Z=idxP allP l 0:=⟨_,rfl⟩
 rw [← hZ]
 unfold slcP
 (apply Af.of tF mF [.tmp 4] kp141 [] Tryz.func141 (fun _=>?_);(any_goals ((with_reducible refine wI ?_);cbv;(try dsimp only [nc] at *);(repeat' (with_reducible first|exact ‹False›.elim|exact nZ|refine oC ?_ ?_|refine VC.mk rfl ?_ ?_ ?_|(apply Ca.mk<;>intro _)|refine cV (fun _=>?_) fun _=>?_|((first|apply xE|apply uE);cbv;(try dsimp only [nc] at *)))))))
 refine .loop (fun i:Nat=>⟨19,[(8,.int .i64 fun _=>(i:Int)),(7,.int .i64 fun _=>(l.length:Int)),(0,.slc .any 3 (fun _=>l.length) (alT fun _=>l)),(1,.func 96 [])],[]⟩)
  (fun i=>i≤l.length∧idxP allP (l.drop i) i=Z) (fun i=>l.length - i) 0 ⟨Nat.zero_le _,hZ.symm⟩ ?_ fun i E hi=>?_
 ·(exact aZ)
 obtain ⟨h1,h2⟩:=hi
 by_cases hi:i<l.length
 ·rw [List.drop_eq_getElem_cons hi] at h2
  unfold idxP at h2
  have h3:=allP_ok (l.getD i (0,0,⟨#[]⟩))
  have e1:l.getD i (0,0,⟨#[]⟩)=l[i]:=by simp [List.getD,hi]
  rw [← e1] at h2
  obtain ⟨b,hb⟩:∃ b,b=allP (l.getD i (0,0,⟨#[]⟩)):=⟨_,rfl⟩
  rw [← hb] at h2 h3
  apply AWp.wk tF mF [(4,[(5,.bool fun _=>b,[])])] kp141 ?_
  (any_goals ((with_reducible refine wI ?_);cbv;(try dsimp only [nc] at *);(repeat' (with_reducible first|exact ‹False›.elim|exact nZ|refine oC ?_ ?_|refine VC.mk rfl ?_ ?_ ?_|(apply Ca.mk<;>intro _)|refine cV (fun _=>?_) fun _=>?_|((first|apply xE|apply uE);cbv;(try dsimp only [nc] at *))))))
  all_goals (try simp only [Int.toNat_natCast])
  any_goals ((with_reducible refine nO ?_);exact h3)
  all_goals (try (exact absurd hi ‹¬i<l.length›))
  ((all_goals (try (with_reducible ((first|refine rE ?_|refine nE ?_);cbv;(try dsimp only [nc] at *);(try simp only [wl,nc]);(repeat' apply And.intro);all_goals (try exact wZ)))));(all_goals (try ((with_reducible rw [aC]);(try simp only [wl,nc]);(repeat' (with_reducible apply And.intro));(all_goals (try exact cZ))))))
  ·rw [if_pos ‹b=true›] at h2;exact h2
  ·rw [if_neg (fun g=>Bool.noConfusion (g.symm.trans ‹b=false›))] at h2
   refine dE (i+1) ⟨⟨by omega,h2⟩,by omega⟩ ?_
   (focus (cbv;(try dsimp only [nc] at *);(try simp only [wl,nc]);(repeat' (with_reducible apply And.intro));all_goals (try exact wZ)))
   exact w64n (by omega)
 ·have e:l.drop i=[]:=List.drop_eq_nil_of_le (by omega)
  rw [e] at h2
  apply AWp.wk tF mF [(4,[(5,.any,[])])] kp141 ?_
  (any_goals ((with_reducible refine wI ?_);cbv;(try dsimp only [nc] at *);(repeat' (with_reducible first|exact ‹False›.elim|exact nZ|refine oC ?_ ?_|refine VC.mk rfl ?_ ?_ ?_|(apply Ca.mk<;>intro _)|refine cV (fun _=>?_) fun _=>?_|((first|apply xE|apply uE);cbv;(try dsimp only [nc] at *))))))
  all_goals (try (exact absurd ‹i<l.length› hi))
  ((all_goals (try (with_reducible ((first|refine rE ?_|refine nE ?_);cbv;(try dsimp only [nc] at *);(try simp only [wl,nc]);(repeat' apply And.intro);all_goals (try exact wZ)))));(all_goals (try ((with_reducible rw [aC]);(try simp only [wl,nc]);(repeat' (with_reducible apply And.intro));(all_goals (try exact cZ))))))
  rw [idxP] at h2
  first|exact h2|exact h2.symm
theorem ai0 (l:List Prt) (hl:l.length≤1000000):Af Tryz.prog 95 [slcP fun _=>l,.func 96 []] [] (.bool fun _=>l.any allP) []:=by
 have h:=an0 l hl
 rw [← ak0 allP l 0]
 generalize idxP allP l 0=n at *
 unfold slcP at *
 (apply Af.of tF mF [.tmp 4] kp95 [(1,[(2,.int .i64 fun _=>n,[])])] Tryz.func95 (fun _=>?_);(any_goals ((with_reducible refine wI ?_);cbv;(try dsimp only [nc] at *);(repeat' (with_reducible first|exact ‹False›.elim|exact nZ|refine oC ?_ ?_|refine VC.mk rfl ?_ ?_ ?_|(apply Ca.mk<;>intro _)|refine cV (fun _=>?_) fun _=>?_|((first|apply xE|apply uE);cbv;(try dsimp only [nc] at *)))))))
 any_goals ((with_reducible refine nO ?_);exact h)
 ((all_goals (try (with_reducible ((first|refine rE ?_|refine nE ?_);cbv;(try dsimp only [nc] at *);(try simp only [wl,nc]);(repeat' apply And.intro);all_goals (try exact wZ)))));(all_goals (try ((with_reducible rw [aC]);(try simp only [wl,nc]);(repeat' (with_reducible apply And.intro));(all_goals (try exact cZ))))))
 all_goals trace_state
def aea (ckv:V→Int) (l:List V):Int:=if l.length=0 then 4 else if l.length=1 then (if ckv (l.getD 0 default)≠0 then ckv (l.getD 0 default) else if abA (l.getD 0 default).kind=true then 0 else 18) else 3
theorem ani (ckv:V→Int) (e:Nat) (l:List V) (hl:l.length≤1073741824) (h:l.length=1→Af Tryz.prog 99 [encV (e+1) .any fun _=>l.getD 0 default] [] (.int .i64 fun _=>ckv (l.getD 0 default)) []) :
 Af Tryz.prog 94 [slcV (e+1) .any fun _=>l] [] (.int .i64 fun _=>aea ckv l) []:=by
 have h2:=alP (l.getD 0 default).kind
 obtain ⟨Z,hZ⟩:∃ Z,Z=aea ckv l:=⟨_,rfl⟩
 rw [← hZ]
 unfold aea at hZ
 generalize abA (l.getD 0 default).kind=b at *
 obtain ⟨c,hc⟩:∃ c,c=ckv (l.getD 0 default):=⟨_,rfl⟩
 rw [← hc] at h hZ
 unfold slcV
 (apply Af.of tF mF [.tmp 2] kp94 [(5,[(3,.int .i64 fun _=>c,[])]),(8,[(4,.bool fun _=>b,[])])] Tryz.func94 (fun _=>?_);(any_goals ((with_reducible refine wI ?_);cbv;(try dsimp only [nc] at *);(repeat' (with_reducible first|exact ‹False›.elim|exact nZ|refine oC ?_ ?_|refine VC.mk rfl ?_ ?_ ?_|(apply Ca.mk<;>intro _)|refine cV (fun _=>?_) fun _=>?_|((first|apply xE|apply uE);cbv;(try dsimp only [nc] at *)))))))
 any_goals ((with_reducible refine nO ?_);first|exact h (by omega)|exact h2)
 ((all_goals (try (with_reducible ((first|refine rE ?_|refine nE ?_);cbv;(try dsimp only [nc] at *);(try simp only [wl,nc]);(repeat' apply And.intro);all_goals (try exact wZ)))));(all_goals (try ((with_reducible rw [aC]);(try simp only [wl,nc]);(repeat' (with_reducible apply And.intro));(all_goals (try exact cZ))))))
 all_goals (rw [hZ])
 all_goals (repeat' split)
 all_goals (first|rfl|omega|simp_all)
end Go.Ai
