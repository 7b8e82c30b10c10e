/- Chapter 17: the reader: errors, parentheses, operators. -/
import Derived.Test.YtbagpkiomjlhkaaGreatDoorMp
set_option linter.all false
namespace Go.Ai
open Go Go.Proofs
set_option maxRecDepth 100000
set_option maxHeartbeats 4000000
theorem abp (s:St):Af Tryz.prog 52 [.ptr 1000 0] [(1000,boxS fun _=>s)] (.bool fun _=>s.e != 0) [(1000,boxS fun _=>s)]:=by
 have h1:=ana s
 (apply Af.of tF mF [.tmp 2] kp52 [(1,[(1,.tup [.int .i64 fun _=>s.line,.int .i64 fun _=>s.col,.int .i64 fun _=>s.e],[(1000,boxS fun _=>s)])])] Tryz.func52 (fun _=>?_);(any_goals ((with_reducible refine wI ?_);cbv;(try dsimp only [nc] at *);(repeat' (with_reducible first|exact ‹False›.elim|exact nZ|refine oC ?_ ?_|refine VC.mk rfl ?_ ?_ ?_|(apply Ca.mk<;>intro _)|refine cV (fun _=>?_) fun _=>?_|((first|apply xE|apply uE);cbv;(try dsimp only [nc] at *)))))))
 any_goals ((with_reducible refine nO ?_);exact h1)
 (all_goals exact eZ)
theorem abq (r:Rd):Af Tryz.prog 68 [.ptr 1000 0] [(1000,boxR r),(1001000000,boxS fun _=>r.s)] (.bool fun _=>r.bad) [(1000,boxR r),(1001000000,boxS fun _=>r.s)]:=by
 have h1:=ana r.s
 unfold Rd.bad
 generalize r.s=s at h1 ⊢
 (apply Af.of tF mF [.tmp 2] kp68 [(1,[(4,.tup [.int .i64 fun _=>s.line,.int .i64 fun _=>s.col,.int .i64 fun _=>s.e],[(1000,boxS fun _=>s)])])] Tryz.func68 (fun _=>?_);(any_goals ((with_reducible refine wI ?_);cbv;(try dsimp only [nc] at *);(repeat' (with_reducible first|exact ‹False›.elim|exact nZ|refine oC ?_ ?_|refine VC.mk rfl ?_ ?_ ?_|(apply Ca.mk<;>intro _)|refine cV (fun _=>?_) fun _=>?_|((first|apply xE|apply uE);cbv;(try dsimp only [nc] at *)))))))
 any_goals ((with_reducible refine nO ?_);exact h1)
 (all_goals exact eZ)
def boxO (o:Int):AO:=.box [.ptr 1001000000 0,.int .i64 fun _=>o]
theorem aa0 (r:Rd):boxR r=boxO r.o:=rfl
theorem agK (r:Rd) (ho : -1073741824≤r.o∧r.o≤1073741824):Af Tryz.prog 233 [.ptr 1000 0] [(1000,boxR r),(1001000000,boxS fun _=>r.s)] (.tup []) [(1000,boxR r.enter),(1001000000,boxS fun _=>r.enter.s)]:=by
 have h1:=abE r.s 23
 have h2:r.enter.o=r.o+1:=rfl
 have h3:r.enter.s=if r.o=32 then r.s.fail 23 else r.s:=rfl
 rw [aa0,aa0,h2,h3]
 clear h2 h3
 generalize r.s.fail 23=f at h1 ⊢
 generalize r.s=s at h1 ⊢
 generalize r.o=o at ho ⊢
 by_cases q:o=32
 ·rw [if_pos q]
  subst q
  (apply Af.of tF mF [] kp233 [(1,[(4,.tup [],[(1000,boxS fun _=>f)])])] Tryz.func233 (fun _=>?_);(any_goals ((with_reducible refine wI ?_);cbv;(try dsimp only [nc] at *);(repeat' (with_reducible first|exact ‹False›.elim|exact nZ|refine oC ?_ ?_|refine VC.mk rfl ?_ ?_ ?_|(apply Ca.mk<;>intro _)|refine cV (fun _=>?_) fun _=>?_|((first|apply xE|apply uE);cbv;(try dsimp only [nc] at *)))))))
  any_goals ((with_reducible refine nO ?_);exact h1)
  all_goals (try (exact absurd trivial ‹¬True›))
  (all_goals exact eZ)
 ·rw [if_neg q]
  obtain ⟨o1,h2⟩:∃ o1,o1=o+1:=⟨_,rfl⟩
  rw [← h2]
  (apply Af.of tF mF [] kp233 [] Tryz.func233 (fun _=>?_);(any_goals ((with_reducible refine wI ?_);cbv;(try dsimp only [nc] at *);(repeat' (with_reducible first|exact ‹False›.elim|exact nZ|refine oC ?_ ?_|refine VC.mk rfl ?_ ?_ ?_|(apply Ca.mk<;>intro _)|refine cV (fun _=>?_) fun _=>?_|((first|apply xE|apply uE);cbv;(try dsimp only [nc] at *)))))))
  all_goals (try (exact absurd ‹o=32› q))
  ((all_goals (try (with_reducible ((first|refine rE ?_|refine nE ?_);cbv;(try dsimp only [nc] at *);(try simp only [wl,nc]);(repeat' apply And.intro);all_goals (try exact wZ)))));(all_goals (try ((with_reducible rw [aC]);(try simp only [wl,nc]);(repeat' (with_reducible apply And.intro));(all_goals (try exact cZ))))))
  all_goals (rw [w64 (by omega) (by omega),h2])
theorem ady (r:Rd) (ho : -1073741824≤r.o∧r.o≤1073741824) (hl:r.s.l.length≤1073741824):Af Tryz.prog 273 [.ptr 1000 0] [(1000,boxR r),(1001000000,boxS fun _=>r.s)] (.tup []) [(1000,boxR r.close),(1001000000,boxS fun _=>r.close.s)]:=by
 have h1:=abZ r.s ⟨#[41]⟩ hl
 have h2:r.close.o=r.o - 1:=rfl
 have h3:r.close.s=r.s.expect ⟨#[41]⟩:=rfl
 rw [aa0,aa0,h2,h3]
 clear h2 h3
 generalize r.s.expect ⟨#[41]⟩=f at h1 ⊢
 generalize r.s=s at h1 ⊢
 generalize r.o=o at ho ⊢
 obtain ⟨o1,h2⟩:∃ o1,o1=o - 1:=⟨_,rfl⟩
 rw [← h2]
 (apply Af.of tF mF [] kp273 [(0,[(4,.tup [],[(1000,boxS fun _=>f)])])] Tryz.func273 (fun _=>?_);(any_goals ((with_reducible refine wI ?_);cbv;(try dsimp only [nc] at *);(repeat' (with_reducible first|exact ‹False›.elim|exact nZ|refine oC ?_ ?_|refine VC.mk rfl ?_ ?_ ?_|(apply Ca.mk<;>intro _)|refine cV (fun _=>?_) fun _=>?_|((first|apply xE|apply uE);cbv;(try dsimp only [nc] at *)))))))
 any_goals ((with_reducible refine nO ?_);exact h1)
 ((all_goals (try (with_reducible ((first|refine rE ?_|refine nE ?_);cbv;(try dsimp only [nc] at *);(try simp only [wl,nc]);(repeat' apply And.intro);all_goals (try exact wZ)))));(all_goals (try ((with_reducible rw [aC]);(try simp only [wl,nc]);(repeat' (with_reducible apply And.intro));(all_goals (try exact cZ))))))
 all_goals (rw [w64 (by omega) (by omega),h2])
theorem ael (r:Rd) (ho : -1073741824≤r.o∧r.o≤1073741824) (hl:r.s.l.length≤1073741824):Af Tryz.prog 271 [.ptr 1000 0] [(1000,boxR r),(1001000000,boxS fun _=>r.s)] (.tup []) [(1000,boxR r.paren),(1001000000,boxS fun _=>r.paren.s)]:=by
 have h0:=aef r.s ⟨#[40]⟩
 cases q:r.s.isT ⟨#[40]⟩ with
 | true =>
  rw [q] at h0
  have h1:=agK r ho
  have h2:r.paren.o=r.enter.o:=by unfold Rd.paren;rw [if_pos q];rfl
  have h3:r.paren.s=r.enter.s.expect ⟨#[40]⟩:=by unfold Rd.paren;rw [if_pos q];rfl
  have hl2:r.enter.s.l.length≤1073741824:=by
   show (if r.o=32 then r.s.fail 23 else r.s).l.length≤_
   split
   ·rw [afW];exact hl
   ·exact hl
  have h4:=abZ r.enter.s ⟨#[40]⟩ hl2
  rw [aa0,aa0,h2,h3]
  rw [aa0,aa0] at h1
  clear h2 h3 hl2
  generalize r.enter.s.expect ⟨#[40]⟩=f at h4 ⊢
  generalize r.enter.s=s' at h4 h1 ⊢
  generalize r.enter.o=o' at h1 ⊢
  generalize r.s=s at h0 h1 ⊢
  generalize r.o=o at h1 ⊢
  (apply Af.of tF mF [] kp271 [(0,[(4,.bool fun _=>true,[(1000,boxS fun _=>s)])]),(1,[(1,.tup [],[(1000,boxO o'),(1001000000,boxS fun _=>s')])]),(2,[(4,.tup [],[(1000,boxS fun _=>f)])])] Tryz.func271 (fun _=>?_);(any_goals ((with_reducible refine wI ?_);cbv;(try dsimp only [nc] at *);(repeat' (with_reducible first|exact ‹False›.elim|exact nZ|refine oC ?_ ?_|refine VC.mk rfl ?_ ?_ ?_|(apply Ca.mk<;>intro _)|refine cV (fun _=>?_) fun _=>?_|((first|apply xE|apply uE);cbv;(try dsimp only [nc] at *)))))))
  any_goals ((with_reducible refine nO ?_);first|exact h0|exact h1|exact h4)
  all_goals (try (exact absurd trivial ‹¬True›))
  (all_goals exact eZ)
 | false =>
  rw [q] at h0
  have h2:r.paren.o=r.o:=by unfold Rd.paren;rw [if_neg (by rw [q];simp)];rfl
  have h3:r.paren.s=r.s.expect ⟨#[40]⟩:=by unfold Rd.paren;rw [if_neg (by rw [q];simp)];rfl
  have h4:=abZ r.s ⟨#[40]⟩ hl
  rw [aa0,aa0,h2,h3]
  clear h2 h3
  generalize r.s.expect ⟨#[40]⟩=f at h4 ⊢
  generalize r.s=s at h0 h4 ⊢
  generalize r.o=o
  (apply Af.of tF mF [] kp271 [(0,[(4,.bool fun _=>false,[(1000,boxS fun _=>s)])]),(2,[(4,.tup [],[(1000,boxS fun _=>f)])])] Tryz.func271 (fun _=>?_);(any_goals ((with_reducible refine wI ?_);cbv;(try dsimp only [nc] at *);(repeat' (with_reducible first|exact ‹False›.elim|exact nZ|refine oC ?_ ?_|refine VC.mk rfl ?_ ?_ ?_|(apply Ca.mk<;>intro _)|refine cV (fun _=>?_) fun _=>?_|((first|apply xE|apply uE);cbv;(try dsimp only [nc] at *)))))))
  any_goals ((with_reducible refine nO ?_);first|exact h0|exact h4)
  all_goals (try (exact absurd ‹False› id))
  (all_goals exact eZ)
theorem op_no (r:Rd) (b:Int) (h:r.s.peek.kind≠1∧r.s.peek.kind≠5):Af Tryz.prog 184 [.ptr 1000 0,.int .i64 fun _=>b] [(1000,boxR r),(1001000000,boxS fun _=>r.s)] (.tup [.int .i64 fun _=>0,.bool fun _=>false]) [(1000,boxR r),(1001000000,boxS fun _=>r.s)]:=by
 have h1:=aal r.s
 generalize r.s.peek=p at h h1
 generalize r.s=s at h1 ⊢
 (apply Af.of tF mF [.tmp 4,.tmp 5] adO [(1,[(4,encK fun _=>p,[(1000,boxS fun _=>s)])])] Tryz.func184 (fun _=>?_);(any_goals ((with_reducible refine wI ?_);cbv;(try dsimp only [nc] at *);(repeat' (with_reducible first|exact ‹False›.elim|exact nZ|refine oC ?_ ?_|refine VC.mk rfl ?_ ?_ ?_|(apply Ca.mk<;>intro _)|refine cV (fun _=>?_) fun _=>?_|((first|apply xE|apply uE);cbv;(try dsimp only [nc] at *)))))))
 any_goals ((with_reducible refine nO ?_);exact h1)
 all_goals (try (exact absurd ‹p.kind=1∨p.kind=5› (by omega)))
 (all_goals exact eZ)
theorem aat {α:Type} (t:ByteArray):∀ l:List (ByteArray×α),kHas (l.map Prod.fst) t=(ab5 t l).isSome
 | []=>rfl
 | (k,v) :: r=>by
  unfold ab5
  by_cases q:k=t
  ·rw [if_pos q];simp [kHas,q]
  ·rw [if_neg q,← aat t r];simp [kHas,q]
theorem abh {α:Type} [Inhabited α] (t:ByteArray):∀ (l:List (ByteArray×α)) (v:α),ab5 t l=some v→(l.getD (kIdx (l.map Prod.fst) t) default).2=v
 | [],v,h=>by cases h
 | (k,u) :: r,v,h=>by
  unfold ab5 at h
  by_cases q:k=t
  ·rw [if_pos q] at h
   cases h
   simp [kIdx,q,List.findIdx_cons]
  ·rw [if_neg q] at h
   have:=abh t r v h
   rw [← this]
   have e:kIdx (((k,u) :: r).map Prod.fst) t=kIdx (r.map Prod.fst) t+1:=by simp [kIdx,q,List.findIdx_cons]
   rw [e];rfl
theorem op1_yes (r:Rd) (hl:r.s.l.length≤1073741824) (h:¬ (r.s.peek.kind≠1∧r.s.peek.kind≠5)) (o:Int) (ho:ab5 r.s.peek.text (opsL 1)=some o):Af Tryz.prog 184 [.ptr 1000 0,.int .i64 fun _=>1] [(1000,boxR r),(1001000000,boxS fun _=>r.s)] (.tup [.int .i64 fun _=>o,.bool fun _=>true]) [(1000,boxR r),(1001000000,boxS fun _=>r.s.next)]:=by
 have h1:=aal r.s
 have h2:=aap r.s hl
 have h3:=aa7
 have hk:=aat r.s.peek.text (opsL 1)
 have hv:=abh r.s.peek.text (opsL 1) o ho
 rw [ho] at hk
 clear ho
 generalize r.s.peek=p at *
 generalize r.s.next=n at *
 generalize r.s=s at *
 (apply Af.of tF mF [.tmp 4,.tmp 5] adO [(1,[(4,encK fun _=>p,[(1000,boxS fun _=>s)])]),(4,[(0,.agg opsA,[])]),(6,[(4,encK fun _=>p,[(1000,boxS fun _=>n)])])] Tryz.func184 (fun _=>?_);(any_goals ((with_reducible refine wI ?_);cbv;(try dsimp only [nc] at *);(repeat' (with_reducible first|exact ‹False›.elim|exact nZ|refine oC ?_ ?_|refine VC.mk rfl ?_ ?_ ?_|(apply Ca.mk<;>intro _)|refine cV (fun _=>?_) fun _=>?_|((first|apply xE|apply uE);cbv;(try dsimp only [nc] at *)))))))
 any_goals ((with_reducible refine nO ?_);first|exact h1|exact h2|exact h3)
 all_goals (try (exact absurd ‹¬p.kind=1∧¬p.kind=5› h))
 all_goals (try (exact absurd (hk.symm.trans ‹kHas _ p.text=false›) (by simp)))
 ((all_goals (try (with_reducible ((first|refine rE ?_|refine nE ?_);cbv;(try dsimp only [nc] at *);(try simp only [wl,nc]);(repeat' apply And.intro);all_goals (try exact wZ)))));(all_goals (try ((with_reducible rw [aC]);(try simp only [wl,nc]);(repeat' (with_reducible apply And.intro));(all_goals (try exact cZ))))))
 all_goals first
  | exact hk
  | (exact (if_pos hk).trans hv)
theorem op1_no (r:Rd) (hl:r.s.l.length≤1073741824) (h:¬ (r.s.peek.kind≠1∧r.s.peek.kind≠5)) (ho:ab5 r.s.peek.text (opsL 1)=none):Af Tryz.prog 184 [.ptr 1000 0,.int .i64 fun _=>1] [(1000,boxR r),(1001000000,boxS fun _=>r.s)] (.tup [.int .i64 fun _=>0,.bool fun _=>false]) [(1000,boxR r),(1001000000,boxS fun _=>r.s)]:=by
 have h1:=aal r.s
 have h2:=aap r.s hl
 have h3:=aa7
 have hk:=aat r.s.peek.text (opsL 1)
 rw [ho] at hk
 clear ho
 generalize r.s.peek=p at *
 generalize r.s.next=n at *
 generalize r.s=s at *
 (apply Af.of tF mF [.tmp 4,.tmp 5] adO [(1,[(4,encK fun _=>p,[(1000,boxS fun _=>s)])]),(4,[(0,.agg opsA,[])]),(6,[(4,encK fun _=>p,[(1000,boxS fun _=>n)])])] Tryz.func184 (fun _=>?_);(any_goals ((with_reducible refine wI ?_);cbv;(try dsimp only [nc] at *);(repeat' (with_reducible first|exact ‹False›.elim|exact nZ|refine oC ?_ ?_|refine VC.mk rfl ?_ ?_ ?_|(apply Ca.mk<;>intro _)|refine cV (fun _=>?_) fun _=>?_|((first|apply xE|apply uE);cbv;(try dsimp only [nc] at *)))))))
 any_goals ((with_reducible refine nO ?_);first|exact h1|exact h2|exact h3)
 all_goals (try (exact absurd ‹¬p.kind=1∧¬p.kind=5› h))
 all_goals (try (exact absurd (hk.symm.trans ‹kHas _ p.text=true›) (by simp)))
 ((all_goals (try (with_reducible ((first|refine rE ?_|refine nE ?_);cbv;(try dsimp only [nc] at *);(try simp only [wl,nc]);(repeat' apply And.intro);all_goals (try exact wZ)))));(all_goals (try ((with_reducible rw [aC]);(try simp only [wl,nc]);(repeat' (with_reducible apply And.intro));(all_goals (try exact cZ))))))
 all_goals first
  | exact hk
  | (exact if_neg (fun q=>absurd (q.symm.trans hk) (by simp)))
theorem op2_yes (r:Rd) (hl:r.s.l.length≤1073741824) (h:¬ (r.s.peek.kind≠1∧r.s.peek.kind≠5)) (o:Int) (ho:ab5 r.s.peek.text (opsL 2)=some o):Af Tryz.prog 184 [.ptr 1000 0,.int .i64 fun _=>2] [(1000,boxR r),(1001000000,boxS fun _=>r.s)] (.tup [.int .i64 fun _=>o,.bool fun _=>true]) [(1000,boxR r),(1001000000,boxS fun _=>r.s.next)]:=by
 have h1:=aal r.s
 have h2:=aap r.s hl
 have h3:=aa7
 have hk:=aat r.s.peek.text (opsL 2)
 have hv:=abh r.s.peek.text (opsL 2) o ho
 rw [ho] at hk
 clear ho
 generalize r.s.peek=p at *
 generalize r.s.next=n at *
 generalize r.s=s at *
 (apply Af.of tF mF [.tmp 4,.tmp 5] adO [(1,[(4,encK fun _=>p,[(1000,boxS fun _=>s)])]),(4,[(0,.agg opsA,[])]),(6,[(4,encK fun _=>p,[(1000,boxS fun _=>n)])])] Tryz.func184 (fun _=>?_);(any_goals ((with_reducible refine wI ?_);cbv;(try dsimp only [nc] at *);(repeat' (with_reducible first|exact ‹False›.elim|exact nZ|refine oC ?_ ?_|refine VC.mk rfl ?_ ?_ ?_|(apply Ca.mk<;>intro _)|refine cV (fun _=>?_) fun _=>?_|((first|apply xE|apply uE);cbv;(try dsimp only [nc] at *)))))))
 any_goals ((with_reducible refine nO ?_);first|exact h1|exact h2|exact h3)
 all_goals (try (exact absurd ‹¬p.kind=1∧¬p.kind=5› h))
 all_goals (try (exact absurd (hk.symm.trans ‹kHas _ p.text=false›) (by simp)))
 ((all_goals (try (with_reducible ((first|refine rE ?_|refine nE ?_);cbv;(try dsimp only [nc] at *);(try simp only [wl,nc]);(repeat' apply And.intro);all_goals (try exact wZ)))));(all_goals (try ((with_reducible rw [aC]);(try simp only [wl,nc]);(repeat' (with_reducible apply And.intro));(all_goals (try exact cZ))))))
 all_goals first
  | exact hk
  | (exact (if_pos hk).trans hv)
theorem op2_no (r:Rd) (hl:r.s.l.length≤1073741824) (h:¬ (r.s.peek.kind≠1∧r.s.peek.kind≠5)) (ho:ab5 r.s.peek.text (opsL 2)=none):Af Tryz.prog 184 [.ptr 1000 0,.int .i64 fun _=>2] [(1000,boxR r),(1001000000,boxS fun _=>r.s)] (.tup [.int .i64 fun _=>0,.bool fun _=>false]) [(1000,boxR r),(1001000000,boxS fun _=>r.s)]:=by
 have h1:=aal r.s
 have h2:=aap r.s hl
 have h3:=aa7
 have hk:=aat r.s.peek.text (opsL 2)
 rw [ho] at hk
 clear ho
 generalize r.s.peek=p at *
 generalize r.s.next=n at *
 generalize r.s=s at *
 (apply Af.of tF mF [.tmp 4,.tmp 5] adO [(1,[(4,encK fun _=>p,[(1000,boxS fun _=>s)])]),(4,[(0,.agg opsA,[])]),(6,[(4,encK fun _=>p,[(1000,boxS fun _=>n)])])] Tryz.func184 (fun _=>?_);(any_goals ((with_reducible refine wI ?_);cbv;(try dsimp only [nc] at *);(repeat' (with_reducible first|exact ‹False›.elim|exact nZ|refine oC ?_ ?_|refine VC.mk rfl ?_ ?_ ?_|(apply Ca.mk<;>intro _)|refine cV (fun _=>?_) fun _=>?_|((first|apply xE|apply uE);cbv;(try dsimp only [nc] at *)))))))
 any_goals ((with_reducible refine nO ?_);first|exact h1|exact h2|exact h3)
 all_goals (try (exact absurd ‹¬p.kind=1∧¬p.kind=5› h))
 all_goals (try (exact absurd (hk.symm.trans ‹kHas _ p.text=true›) (by simp)))
 ((all_goals (try (with_reducible ((first|refine rE ?_|refine nE ?_);cbv;(try dsimp only [nc] at *);(try simp only [wl,nc]);(repeat' apply And.intro);all_goals (try exact wZ)))));(all_goals (try ((with_reducible rw [aC]);(try simp only [wl,nc]);(repeat' (with_reducible apply And.intro));(all_goals (try exact cZ))))))
 all_goals first
  | exact hk
  | (exact if_neg (fun q=>absurd (q.symm.trans hk) (by simp)))
theorem op4_yes (r:Rd) (hl:r.s.l.length≤1073741824) (h:¬ (r.s.peek.kind≠1∧r.s.peek.kind≠5)) (o:Int) (ho:ab5 r.s.peek.text (opsL 4)=some o):Af Tryz.prog 184 [.ptr 1000 0,.int .i64 fun _=>4] [(1000,boxR r),(1001000000,boxS fun _=>r.s)] (.tup [.int .i64 fun _=>o,.bool fun _=>true]) [(1000,boxR r),(1001000000,boxS fun _=>r.s.next)]:=by
 have h1:=aal r.s
 have h2:=aap r.s hl
 have h3:=aa7
 have hk:=aat r.s.peek.text (opsL 4)
 have hv:=abh r.s.peek.text (opsL 4) o ho
 rw [ho] at hk
 clear ho
 generalize r.s.peek=p at *
 generalize r.s.next=n at *
 generalize r.s=s at *
 (apply Af.of tF mF [.tmp 4,.tmp 5] adO [(1,[(4,encK fun _=>p,[(1000,boxS fun _=>s)])]),(4,[(0,.agg opsA,[])]),(6,[(4,encK fun _=>p,[(1000,boxS fun _=>n)])])] Tryz.func184 (fun _=>?_);(any_goals ((with_reducible refine wI ?_);cbv;(try dsimp only [nc] at *);(repeat' (with_reducible first|exact ‹False›.elim|exact nZ|refine oC ?_ ?_|refine VC.mk rfl ?_ ?_ ?_|(apply Ca.mk<;>intro _)|refine cV (fun _=>?_) fun _=>?_|((first|apply xE|apply uE);cbv;(try dsimp only [nc] at *)))))))
 any_goals ((with_reducible refine nO ?_);first|exact h1|exact h2|exact h3)
 all_goals (try (exact absurd ‹¬p.kind=1∧¬p.kind=5› h))
 all_goals (try (exact absurd (hk.symm.trans ‹kHas _ p.text=false›) (by simp)))
 ((all_goals (try (with_reducible ((first|refine rE ?_|refine nE ?_);cbv;(try dsimp only [nc] at *);(try simp only [wl,nc]);(repeat' apply And.intro);all_goals (try exact wZ)))));(all_goals (try ((with_reducible rw [aC]);(try simp only [wl,nc]);(repeat' (with_reducible apply And.intro));(all_goals (try exact cZ))))))
 all_goals first
  | exact hk
  | (exact (if_pos hk).trans hv)
theorem op4_no (r:Rd) (hl:r.s.l.length≤1073741824) (h:¬ (r.s.peek.kind≠1∧r.s.peek.kind≠5)) (ho:ab5 r.s.peek.text (opsL 4)=none):Af Tryz.prog 184 [.ptr 1000 0,.int .i64 fun _=>4] [(1000,boxR r),(1001000000,boxS fun _=>r.s)] (.tup [.int .i64 fun _=>0,.bool fun _=>false]) [(1000,boxR r),(1001000000,boxS fun _=>r.s)]:=by
 have h1:=aal r.s
 have h2:=aap r.s hl
 have h3:=aa7
 have hk:=aat r.s.peek.text (opsL 4)
 rw [ho] at hk
 clear ho
 generalize r.s.peek=p at *
 generalize r.s.next=n at *
 generalize r.s=s at *
 (apply Af.of tF mF [.tmp 4,.tmp 5] adO [(1,[(4,encK fun _=>p,[(1000,boxS fun _=>s)])]),(4,[(0,.agg opsA,[])]),(6,[(4,encK fun _=>p,[(1000,boxS fun _=>n)])])] Tryz.func184 (fun _=>?_);(any_goals ((with_reducible refine wI ?_);cbv;(try dsimp only [nc] at *);(repeat' (with_reducible first|exact ‹False›.elim|exact nZ|refine oC ?_ ?_|refine VC.mk rfl ?_ ?_ ?_|(apply Ca.mk<;>intro _)|refine cV (fun _=>?_) fun _=>?_|((first|apply xE|apply uE);cbv;(try dsimp only [nc] at *)))))))
 any_goals ((with_reducible refine nO ?_);first|exact h1|exact h2|exact h3)
 all_goals (try (exact absurd ‹¬p.kind=1∧¬p.kind=5› h))
 all_goals (try (exact absurd (hk.symm.trans ‹kHas _ p.text=true›) (by simp)))
 ((all_goals (try (with_reducible ((first|refine rE ?_|refine nE ?_);cbv;(try dsimp only [nc] at *);(try simp only [wl,nc]);(repeat' apply And.intro);all_goals (try exact wZ)))));(all_goals (try ((with_reducible rw [aC]);(try simp only [wl,nc]);(repeat' (with_reducible apply And.intro));(all_goals (try exact cZ))))))
 all_goals first
  | exact hk
  | (exact if_neg (fun q=>absurd (q.symm.trans hk) (by simp)))
theorem op5_yes (r:Rd) (hl:r.s.l.length≤1073741824) (h:¬ (r.s.peek.kind≠1∧r.s.peek.kind≠5)) (o:Int) (ho:ab5 r.s.peek.text (opsL 5)=some o):Af Tryz.prog 184 [.ptr 1000 0,.int .i64 fun _=>5] [(1000,boxR r),(1001000000,boxS fun _=>r.s)] (.tup [.int .i64 fun _=>o,.bool fun _=>true]) [(1000,boxR r),(1001000000,boxS fun _=>r.s.next)]:=by
 have h1:=aal r.s
 have h2:=aap r.s hl
 have h3:=aa7
 have hk:=aat r.s.peek.text (opsL 5)
 have hv:=abh r.s.peek.text (opsL 5) o ho
 rw [ho] at hk
 clear ho
 generalize r.s.peek=p at *
 generalize r.s.next=n at *
 generalize r.s=s at *
 (apply Af.of tF mF [.tmp 4,.tmp 5] adO [(1,[(4,encK fun _=>p,[(1000,boxS fun _=>s)])]),(4,[(0,.agg opsA,[])]),(6,[(4,encK fun _=>p,[(1000,boxS fun _=>n)])])] Tryz.func184 (fun _=>?_);(any_goals ((with_reducible refine wI ?_);cbv;(try dsimp only [nc] at *);(repeat' (with_reducible first|exact ‹False›.elim|exact nZ|refine oC ?_ ?_|refine VC.mk rfl ?_ ?_ ?_|(apply Ca.mk<;>intro _)|refine cV (fun _=>?_) fun _=>?_|((first|apply xE|apply uE);cbv;(try dsimp only [nc] at *)))))))
 any_goals ((with_reducible refine nO ?_);first|exact h1|exact h2|exact h3)
 all_goals (try (exact absurd ‹¬p.kind=1∧¬p.kind=5› h))
 all_goals (try (exact absurd (hk.symm.trans ‹kHas _ p.text=false›) (by simp)))
 ((all_goals (try (with_reducible ((first|refine rE ?_|refine nE ?_);cbv;(try dsimp only [nc] at *);(try simp only [wl,nc]);(repeat' apply And.intro);all_goals (try exact wZ)))));(all_goals (try ((with_reducible rw [aC]);(try simp only [wl,nc]);(repeat' (with_reducible apply And.intro));(all_goals (try exact cZ))))))
 all_goals first
  | exact hk
  | (exact (if_pos hk).trans hv)
theorem op5_no (r:Rd) (hl:r.s.l.length≤1073741824) (h:¬ (r.s.peek.kind≠1∧r.s.peek.kind≠5)) (ho:ab5 r.s.peek.text (opsL 5)=none):Af Tryz.prog 184 [.ptr 1000 0,.int .i64 fun _=>5] [(1000,boxR r),(1001000000,boxS fun _=>r.s)] (.tup [.int .i64 fun _=>0,.bool fun _=>false]) [(1000,boxR r),(1001000000,boxS fun _=>r.s)]:=by
 have h1:=aal r.s
 have h2:=aap r.s hl
 have h3:=aa7
 have hk:=aat r.s.peek.text (opsL 5)
 rw [ho] at hk
 clear ho
 generalize r.s.peek=p at *
 generalize r.s.next=n at *
 generalize r.s=s at *
 (apply Af.of tF mF [.tmp 4,.tmp 5] adO [(1,[(4,encK fun _=>p,[(1000,boxS fun _=>s)])]),(4,[(0,.agg opsA,[])]),(6,[(4,encK fun _=>p,[(1000,boxS fun _=>n)])])] Tryz.func184 (fun _=>?_);(any_goals ((with_reducible refine wI ?_);cbv;(try dsimp only [nc] at *);(repeat' (with_reducible first|exact ‹False›.elim|exact nZ|refine oC ?_ ?_|refine VC.mk rfl ?_ ?_ ?_|(apply Ca.mk<;>intro _)|refine cV (fun _=>?_) fun _=>?_|((first|apply xE|apply uE);cbv;(try dsimp only [nc] at *)))))))
 any_goals ((with_reducible refine nO ?_);first|exact h1|exact h2|exact h3)
 all_goals (try (exact absurd ‹¬p.kind=1∧¬p.kind=5› h))
 all_goals (try (exact absurd (hk.symm.trans ‹kHas _ p.text=true›) (by simp)))
 ((all_goals (try (with_reducible ((first|refine rE ?_|refine nE ?_);cbv;(try dsimp only [nc] at *);(try simp only [wl,nc]);(repeat' apply And.intro);all_goals (try exact wZ)))));(all_goals (try ((with_reducible rw [aC]);(try simp only [wl,nc]);(repeat' (with_reducible apply And.intro));(all_goals (try exact cZ))))))
 all_goals first
  | exact hk
  | (exact if_neg (fun q=>absurd (q.symm.trans hk) (by simp)))
theorem op6_yes (r:Rd) (hl:r.s.l.length≤1073741824) (h:¬ (r.s.peek.kind≠1∧r.s.peek.kind≠5)) (o:Int) (ho:ab5 r.s.peek.text (opsL 6)=some o):Af Tryz.prog 184 [.ptr 1000 0,.int .i64 fun _=>6] [(1000,boxR r),(1001000000,boxS fun _=>r.s)] (.tup [.int .i64 fun _=>o,.bool fun _=>true]) [(1000,boxR r),(1001000000,boxS fun _=>r.s.next)]:=by
 have h1:=aal r.s
 have h2:=aap r.s hl
 have h3:=aa7
 have hk:=aat r.s.peek.text (opsL 6)
 have hv:=abh r.s.peek.text (opsL 6) o ho
 rw [ho] at hk
 clear ho
 generalize r.s.peek=p at *
 generalize r.s.next=n at *
 generalize r.s=s at *
 (apply Af.of tF mF [.tmp 4,.tmp 5] adO [(1,[(4,encK fun _=>p,[(1000,boxS fun _=>s)])]),(4,[(0,.agg opsA,[])]),(6,[(4,encK fun _=>p,[(1000,boxS fun _=>n)])])] Tryz.func184 (fun _=>?_);(any_goals ((with_reducible refine wI ?_);cbv;(try dsimp only [nc] at *);(repeat' (with_reducible first|exact ‹False›.elim|exact nZ|refine oC ?_ ?_|refine VC.mk rfl ?_ ?_ ?_|(apply Ca.mk<;>intro _)|refine cV (fun _=>?_) fun _=>?_|((first|apply xE|apply uE);cbv;(try dsimp only [nc] at *)))))))
 any_goals ((with_reducible refine nO ?_);first|exact h1|exact h2|exact h3)
 all_goals (try (exact absurd ‹¬p.kind=1∧¬p.kind=5› h))
 all_goals (try (exact absurd (hk.symm.trans ‹kHas _ p.text=false›) (by simp)))
 ((all_goals (try (with_reducible ((first|refine rE ?_|refine nE ?_);cbv;(try dsimp only [nc] at *);(try simp only [wl,nc]);(repeat' apply And.intro);all_goals (try exact wZ)))));(all_goals (try ((with_reducible rw [aC]);(try simp only [wl,nc]);(repeat' (with_reducible apply And.intro));(all_goals (try exact cZ))))))
 all_goals first
  | exact hk
  | (exact (if_pos hk).trans hv)
theorem op6_no (r:Rd) (hl:r.s.l.length≤1073741824) (h:¬ (r.s.peek.kind≠1∧r.s.peek.kind≠5)) (ho:ab5 r.s.peek.text (opsL 6)=none):Af Tryz.prog 184 [.ptr 1000 0,.int .i64 fun _=>6] [(1000,boxR r),(1001000000,boxS fun _=>r.s)] (.tup [.int .i64 fun _=>0,.bool fun _=>false]) [(1000,boxR r),(1001000000,boxS fun _=>r.s)]:=by
 have h1:=aal r.s
 have h2:=aap r.s hl
 have h3:=aa7
 have hk:=aat r.s.peek.text (opsL 6)
 rw [ho] at hk
 clear ho
 generalize r.s.peek=p at *
 generalize r.s.next=n at *
 generalize r.s=s at *
 (apply Af.of tF mF [.tmp 4,.tmp 5] adO [(1,[(4,encK fun _=>p,[(1000,boxS fun _=>s)])]),(4,[(0,.agg opsA,[])]),(6,[(4,encK fun _=>p,[(1000,boxS fun _=>n)])])] Tryz.func184 (fun _=>?_);(any_goals ((with_reducible refine wI ?_);cbv;(try dsimp only [nc] at *);(repeat' (with_reducible first|exact ‹False›.elim|exact nZ|refine oC ?_ ?_|refine VC.mk rfl ?_ ?_ ?_|(apply Ca.mk<;>intro _)|refine cV (fun _=>?_) fun _=>?_|((first|apply xE|apply uE);cbv;(try dsimp only [nc] at *)))))))
 any_goals ((with_reducible refine nO ?_);first|exact h1|exact h2|exact h3)
 all_goals (try (exact absurd ‹¬p.kind=1∧¬p.kind=5› h))
 all_goals (try (exact absurd (hk.symm.trans ‹kHas _ p.text=true›) (by simp)))
 ((all_goals (try (with_reducible ((first|refine rE ?_|refine nE ?_);cbv;(try dsimp only [nc] at *);(try simp only [wl,nc]);(repeat' apply And.intro);all_goals (try exact wZ)))));(all_goals (try ((with_reducible rw [aC]);(try simp only [wl,nc]);(repeat' (with_reducible apply And.intro));(all_goals (try exact cZ))))))
 all_goals first
  | exact hk
  | (exact if_neg (fun q=>absurd (q.symm.trans hk) (by simp)))
theorem op7_yes (r:Rd) (hl:r.s.l.length≤1073741824) (h:¬ (r.s.peek.kind≠1∧r.s.peek.kind≠5)) (o:Int) (ho:ab5 r.s.peek.text (opsL 7)=some o):Af Tryz.prog 184 [.ptr 1000 0,.int .i64 fun _=>7] [(1000,boxR r),(1001000000,boxS fun _=>r.s)] (.tup [.int .i64 fun _=>o,.bool fun _=>true]) [(1000,boxR r),(1001000000,boxS fun _=>r.s.next)]:=by
 have h1:=aal r.s
 have h2:=aap r.s hl
 have h3:=aa7
 have hk:=aat r.s.peek.text (opsL 7)
 have hv:=abh r.s.peek.text (opsL 7) o ho
 rw [ho] at hk
 clear ho
 generalize r.s.peek=p at *
 generalize r.s.next=n at *
 generalize r.s=s at *
 (apply Af.of tF mF [.tmp 4,.tmp 5] adO [(1,[(4,encK fun _=>p,[(1000,boxS fun _=>s)])]),(4,[(0,.agg opsA,[])]),(6,[(4,encK fun _=>p,[(1000,boxS fun _=>n)])])] Tryz.func184 (fun _=>?_);(any_goals ((with_reducible refine wI ?_);cbv;(try dsimp only [nc] at *);(repeat' (with_reducible first|exact ‹False›.elim|exact nZ|refine oC ?_ ?_|refine VC.mk rfl ?_ ?_ ?_|(apply Ca.mk<;>intro _)|refine cV (fun _=>?_) fun _=>?_|((first|apply xE|apply uE);cbv;(try dsimp only [nc] at *)))))))
 any_goals ((with_reducible refine nO ?_);first|exact h1|exact h2|exact h3)
 all_goals (try (exact absurd ‹¬p.kind=1∧¬p.kind=5› h))
 all_goals (try (exact absurd (hk.symm.trans ‹kHas _ p.text=false›) (by simp)))
 ((all_goals (try (with_reducible ((first|refine rE ?_|refine nE ?_);cbv;(try dsimp only [nc] at *);(try simp only [wl,nc]);(repeat' apply And.intro);all_goals (try exact wZ)))));(all_goals (try ((with_reducible rw [aC]);(try simp only [wl,nc]);(repeat' (with_reducible apply And.intro));(all_goals (try exact cZ))))))
 all_goals first
  | exact hk
  | (exact (if_pos hk).trans hv)
theorem op7_no (r:Rd) (hl:r.s.l.length≤1073741824) (h:¬ (r.s.peek.kind≠1∧r.s.peek.kind≠5)) (ho:ab5 r.s.peek.text (opsL 7)=none):Af Tryz.prog 184 [.ptr 1000 0,.int .i64 fun _=>7] [(1000,boxR r),(1001000000,boxS fun _=>r.s)] (.tup [.int .i64 fun _=>0,.bool fun _=>false]) [(1000,boxR r),(1001000000,boxS fun _=>r.s)]:=by
 have h1:=aal r.s
 have h2:=aap r.s hl
 have h3:=aa7
 have hk:=aat r.s.peek.text (opsL 7)
 rw [ho] at hk
 clear ho
 generalize r.s.peek=p at *
 generalize r.s.next=n at *
 generalize r.s=s at *
 (apply Af.of tF mF [.tmp 4,.tmp 5] adO [(1,[(4,encK fun _=>p,[(1000,boxS fun _=>s)])]),(4,[(0,.agg opsA,[])]),(6,[(4,encK fun _=>p,[(1000,boxS fun _=>n)])])] Tryz.func184 (fun _=>?_);(any_goals ((with_reducible refine wI ?_);cbv;(try dsimp only [nc] at *);(repeat' (with_reducible first|exact ‹False›.elim|exact nZ|refine oC ?_ ?_|refine VC.mk rfl ?_ ?_ ?_|(apply Ca.mk<;>intro _)|refine cV (fun _=>?_) fun _=>?_|((first|apply xE|apply uE);cbv;(try dsimp only [nc] at *)))))))
 any_goals ((with_reducible refine nO ?_);first|exact h1|exact h2|exact h3)
 all_goals (try (exact absurd ‹¬p.kind=1∧¬p.kind=5› h))
 all_goals (try (exact absurd (hk.symm.trans ‹kHas _ p.text=true›) (by simp)))
 ((all_goals (try (with_reducible ((first|refine rE ?_|refine nE ?_);cbv;(try dsimp only [nc] at *);(try simp only [wl,nc]);(repeat' apply And.intro);all_goals (try exact wZ)))));(all_goals (try ((with_reducible rw [aC]);(try simp only [wl,nc]);(repeat' (with_reducible apply And.intro));(all_goals (try exact cZ))))))
 all_goals first
  | exact hk
  | (exact if_neg (fun q=>absurd (q.symm.trans hk) (by simp)))
def isB (b:Nat):Prop:=b=1∨b=2∨b=4∨b=5∨b=6∨b=7
theorem op_some {r:Rd} {b:Nat} (hb:isB b) (hl:r.s.l.length≤1073741824) {o:Int} (h:r.op b=some o):Af Tryz.prog 184 [.ptr 1000 0,.int .i64 fun _=>(b:Int)] [(1000,boxR r),(1001000000,boxS fun _=>r.s)] (.tup [.int .i64 fun _=>o,.bool fun _=>true]) [(1000,boxR r),(1001000000,boxS fun _=>r.s.next)]:=by
 unfold Rd.op at h
 split at h
 ·cases h
 ·rename_i q
  rcases hb with rfl|rfl|rfl|rfl|rfl|rfl
  ·exact op1_yes r hl q o h
  ·exact op2_yes r hl q o h
  ·exact op4_yes r hl q o h
  ·exact op5_yes r hl q o h
  ·exact op6_yes r hl q o h
  ·exact op7_yes r hl q o h
theorem op_none {r:Rd} {b:Nat} (hb:isB b) (hl:r.s.l.length≤1073741824) (h:r.op b=none):Af Tryz.prog 184 [.ptr 1000 0,.int .i64 fun _=>(b:Int)] [(1000,boxR r),(1001000000,boxS fun _=>r.s)] (.tup [.int .i64 fun _=>0,.bool fun _=>false]) [(1000,boxR r),(1001000000,boxS fun _=>r.s)]:=by
 unfold Rd.op at h
 split at h
 ·rename_i q;exact op_no r b q
 ·rename_i q
  rcases hb with rfl|rfl|rfl|rfl|rfl|rfl
  ·exact op1_no r hl q h
  ·exact op2_no r hl q h
  ·exact op4_no r hl q h
  ·exact op5_no r hl q h
  ·exact op6_no r hl q h
  ·exact op7_no r hl q h
end Go.Ai
