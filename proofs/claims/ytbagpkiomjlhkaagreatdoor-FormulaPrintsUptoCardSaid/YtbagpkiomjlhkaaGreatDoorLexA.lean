/- Chapter 15: streams of tokens. -/
import Derived.Test.YtbagpkiomjlhkaaGreatDoorV
set_option linter.all false
namespace Go.Ai
open Go Go.Proofs
set_option maxRecDepth 100000
set_option maxHeartbeats 4000000
inductive St where
 | mk (l:List Tok) (line col e:Int)
namespace St
def l:St→List Tok|mk l _ _ _=>l
def line:St→Int|mk _ n _ _=>n
def col:St→Int|mk _ _ n _=>n
def e:St→Int|mk _ _ _ e=>e
def ok (s:St):Bool:=decide (s.e=0) && decide (0<s.l.length)
def peek (s:St):Tok:=if s.ok=true then s.l.getD 0 default else default
def next (s:St):St:=if s.ok=true∧1<s.l.length then mk (s.l.drop 1) s.line s.col s.e else s
def isT (s:St) (t:ByteArray):Bool:=s.ok && ((decide (s.peek.kind=1) || decide (s.peek.kind=5)) && decide (s.peek.text=t))
def fail (s:St) (e:Int):St:=if s.ok=true∧e≠0 then mk s.l s.peek.line s.peek.col e else s
def accept (s:St) (t:ByteArray):St:=if s.isT t=true then s.next else s
def expect (s:St) (t:ByteArray):St:=if s.isT t=true then s.next else s.fail 13
def takes (s:St) (k:Int):Bool:=s.ok && decide (s.peek.kind=k)
end St
def boxS (s:Unit→St):AO:=.box [slcK fun _=>(s ()).l,.int .i64 fun _=>(s ()).line,.int .i64 fun _=>(s ()).col,.int .i64 fun _=>(s ()).e]
theorem ah7 (s:St):Af Tryz.prog 69 [.ptr 1000 0] [(1000,boxS fun _=>s)] (.bool fun _=>s.ok) [(1000,boxS fun _=>s)]:=by
 (apply Af.of tF mF [.tmp 2] kp69 [] Tryz.func69 (fun _=>?_);(any_goals ((with_reducible refine wI ?_);cbv;(try dsimp only [nc] at *);(repeat' (with_reducible first|exact ‹False›.elim|exact nZ|refine oC ?_ ?_|refine VC.mk rfl ?_ ?_ ?_|(apply Ca.mk<;>intro _)|refine cV (fun _=>?_) fun _=>?_|((first|apply xE|apply uE);cbv;(try dsimp only [nc] at *)))))))
 ((all_goals (try (with_reducible ((first|refine rE ?_|refine nE ?_);cbv;(try dsimp only [nc] at *);(try simp only [wl,nc]);(repeat' apply And.intro);all_goals (try exact wZ)))));(all_goals (try ((with_reducible rw [aC]);(try simp only [wl,nc]);(repeat' (with_reducible apply And.intro));(all_goals (try exact cZ))))))
 ·exact fun _=>rfl
 ·by_cases h:s.e=0<;>simp [St.ok,h]
theorem abk {s:St} (h:s.ok=true):s.e=0∧0<s.l.length:=by simpa [St.ok] using h
theorem aal (s:St):Af Tryz.prog 53 [.ptr 1000 0] [(1000,boxS fun _=>s)] (encK fun _=>s.peek) [(1000,boxS fun _=>s)]:=by
 have h1:=ah7 s
 cases q:s.ok with
 | false =>
  have hp:s.peek=default:=by unfold St.peek;rw [if_neg (by rw [q];simp)]
  rw [hp]
  rw [q] at h1
  (apply Af.of tF mF [.cell 2 52] kp53 [(1,[(1,.bool fun _=>false,[(1000,boxS fun _=>s)])])] Tryz.func53 (fun _=>?_);(any_goals ((with_reducible refine wI ?_);cbv;(try dsimp only [nc] at *);(repeat' (with_reducible first|exact ‹False›.elim|exact nZ|refine oC ?_ ?_|refine VC.mk rfl ?_ ?_ ?_|(apply Ca.mk<;>intro _)|refine cV (fun _=>?_) fun _=>?_|((first|apply xE|apply uE);cbv;(try dsimp only [nc] at *)))))))
  any_goals (refine nO ?_;exact h1)
  ((all_goals (try (with_reducible ((first|refine rE ?_|refine nE ?_);cbv;(try dsimp only [nc] at *);(try simp only [wl,nc]);(repeat' apply And.intro);all_goals (try exact wZ)))));(all_goals (try ((with_reducible rw [aC]);(try simp only [wl,nc]);(repeat' (with_reducible apply And.intro));(all_goals (try exact cZ))))))
  all_goals (try (exact absurd ‹false=true› (by simp)))
  all_goals rfl
 | true =>
  have hp:s.peek=s.l.getD 0 default:=by unfold St.peek;rw [if_pos q]
  obtain ⟨_,hl⟩:=abk q
  rw [hp]
  rw [q] at h1
  (apply Af.of tF mF [.cell 2 52] kp53 [(1,[(1,.bool fun _=>true,[(1000,boxS fun _=>s)])])] Tryz.func53 (fun _=>?_);(any_goals ((with_reducible refine wI ?_);cbv;(try dsimp only [nc] at *);(repeat' (with_reducible first|exact ‹False›.elim|exact nZ|refine oC ?_ ?_|refine VC.mk rfl ?_ ?_ ?_|(apply Ca.mk<;>intro _)|refine cV (fun _=>?_) fun _=>?_|((first|apply xE|apply uE);cbv;(try dsimp only [nc] at *)))))))
  any_goals (refine nO ?_;exact h1)
  ((all_goals (try (with_reducible ((first|refine rE ?_|refine nE ?_);cbv;(try dsimp only [nc] at *);(try simp only [wl,nc]);(repeat' apply And.intro);all_goals (try exact wZ)))));(all_goals (try ((with_reducible rw [aC]);(try simp only [wl,nc]);(repeat' (with_reducible apply And.intro));(all_goals (try exact cZ))))))
  all_goals rfl
theorem aap (s:St) (hl:s.l.length≤1073741824):Af Tryz.prog 29 [.ptr 1000 0] [(1000,boxS fun _=>s)] (encK fun _=>s.peek) [(1000,boxS fun _=>s.next)]:=by
 have h1:=ah7 s
 have h2:=aal s
 generalize s.peek=p at h2 ⊢
 by_cases q:s.ok=true∧1<s.l.length
 ·have hn:s.next=.mk (s.l.drop 1) s.line s.col s.e:=by unfold St.next;rw [if_pos q]
  rw [hn]
  rw [q.1] at h1
  have q2:=q.2
  (apply Af.of tF mF [.cell 2 52] kp29 [(1,[(1,encK fun _=>p,[(1000,boxS fun _=>s)])]),(2,[(1,.bool fun _=>true,[(1000,boxS fun _=>s)])])] Tryz.func29 (fun _=>?_);(any_goals ((with_reducible refine wI ?_);cbv;(try dsimp only [nc] at *);(repeat' (with_reducible first|exact ‹False›.elim|exact nZ|refine oC ?_ ?_|refine VC.mk rfl ?_ ?_ ?_|(apply Ca.mk<;>intro _)|refine cV (fun _=>?_) fun _=>?_|((first|apply xE|apply uE);cbv;(try dsimp only [nc] at *)))))))
  any_goals (refine nO ?_;first|exact h1|exact h2)
  all_goals (try (exfalso;omega))
  ((all_goals (try (with_reducible ((first|refine rE ?_|refine nE ?_);cbv;(try dsimp only [nc] at *);(try simp only [wl,nc]);(repeat' apply And.intro);all_goals (try exact wZ)))));(all_goals (try ((with_reducible rw [aC]);(try simp only [wl,nc]);(repeat' (with_reducible apply And.intro));(all_goals (try exact cZ))))))
  all_goals (try (exfalso;(have h:=‹(if True then decide (1<(s.l.length:Int)) else false)=false›);rw [if_pos trivial] at h;have:=of_decide_eq_false h;omega))
  ·exact fun _=>rfl
  ·show _=(s.l.drop 1).length
   rw [List.length_drop];simp
  ·intro i _
   refine LeL.of_eq ?_
   have e:∀ a b:Tok,a=b→(acT fun _=>a)=acT fun _=>b:=fun a b h=>by rw [h]
   refine e _ _ ?_
   show s.l.getD (1+i) default=(s.l.drop 1).getD i default
   simp [List.getD,Nat.add_comm]
  all_goals rfl
 ·have hn:s.next=s:=by unfold St.next;rw [if_neg q]
  rw [hn]
  (apply Af.of tF mF [.cell 2 52] kp29 [(1,[(1,encK fun _=>p,[(1000,boxS fun _=>s)])]),(2,[(1,.bool fun _=>s.ok,[(1000,boxS fun _=>s)])])] Tryz.func29 (fun _=>?_);(any_goals ((with_reducible refine wI ?_);cbv;(try dsimp only [nc] at *);(repeat' (with_reducible first|exact ‹False›.elim|exact nZ|refine oC ?_ ?_|refine VC.mk rfl ?_ ?_ ?_|(apply Ca.mk<;>intro _)|refine cV (fun _=>?_) fun _=>?_|((first|apply xE|apply uE);cbv;(try dsimp only [nc] at *)))))))
  any_goals (refine nO ?_;first|exact h1|exact h2)
  ((all_goals (try (with_reducible ((first|refine rE ?_|refine nE ?_);cbv;(try dsimp only [nc] at *);(try simp only [wl,nc]);(repeat' apply And.intro);all_goals (try exact wZ)))));(all_goals (try ((with_reducible rw [aC]);(try simp only [wl,nc]);(repeat' (with_reducible apply And.intro));(all_goals (try exact cZ))))))
  all_goals (try (exact absurd ⟨‹s.ok=true∧1<(s.l.length:Int)›.1,by (have:=‹s.ok=true∧1<(s.l.length:Int)›.2;omega)⟩ q))
theorem aef (s:St) (t:ByteArray):Af Tryz.prog 57 [.ptr 1000 0,.str fun _=>t] [(1000,boxS fun _=>s)] (.bool fun _=>s.isT t) [(1000,boxS fun _=>s)]:=by
 have h1:=ah7 s
 have h2:=aal s
 unfold St.isT
 generalize s.peek=p at h2 ⊢
 generalize s.ok=o at h1 ⊢
 (apply Af.of tF mF [.tmp 4] kp57 [(1,[(1,encK fun _=>p,[(1000,boxS fun _=>s)])]),(2,[(1,.bool fun _=>o,[(1000,boxS fun _=>s)])])] Tryz.func57 (fun _=>?_);(any_goals ((with_reducible refine wI ?_);cbv;(try dsimp only [nc] at *);(repeat' (with_reducible first|exact ‹False›.elim|exact nZ|refine oC ?_ ?_|refine VC.mk rfl ?_ ?_ ?_|(apply Ca.mk<;>intro _)|refine cV (fun _=>?_) fun _=>?_|((first|apply xE|apply uE);cbv;(try dsimp only [nc] at *)))))))
 any_goals (refine nO ?_;first|exact h1|exact h2)
 ((all_goals (try (with_reducible ((first|refine rE ?_|refine nE ?_);cbv;(try dsimp only [nc] at *);(try simp only [wl,nc]);(repeat' apply And.intro);all_goals (try exact wZ)))));(all_goals (try ((with_reducible rw [aC]);(try simp only [wl,nc]);(repeat' (with_reducible apply And.intro));(all_goals (try exact cZ))))))
 by_cases k1:p.kind=1<;>by_cases k5:p.kind=5<;>cases o<;>simp [k1,k5]
theorem adG (s:St) (t:ByteArray) (hl:s.l.length≤1073741824):Af Tryz.prog 71 [.ptr 1000 0,.str fun _=>t] [(1000,boxS fun _=>s)] (.bool fun _=>s.isT t) [(1000,boxS fun _=>s.accept t)]:=by
 have h1:=aef s t
 have h2:=aap s hl
 generalize s.peek=p at h2
 obtain ⟨A,hA⟩:∃ A,A=s.accept t:=⟨_,rfl⟩
 rw [← hA]
 unfold St.accept at hA
 cases q:s.isT t with
 | true =>
  rw [q,if_pos rfl] at hA
  rw [hA]
  rw [q] at h1
  (apply Af.of tF mF [.tmp 4] kp71 [(1,[(2,.bool fun _=>true,[(1000,boxS fun _=>s)])]),(3,[(1,encK fun _=>p,[(1000,boxS fun _=>s.next)])])] Tryz.func71 (fun _=>?_);(any_goals ((with_reducible refine wI ?_);cbv;(try dsimp only [nc] at *);(repeat' (with_reducible first|exact ‹False›.elim|exact nZ|refine oC ?_ ?_|refine VC.mk rfl ?_ ?_ ?_|(apply Ca.mk<;>intro _)|refine cV (fun _=>?_) fun _=>?_|((first|apply xE|apply uE);cbv;(try dsimp only [nc] at *)))))))
  all_goals (try (exact absurd trivial ‹¬True›))
  any_goals (refine nO ?_;first|exact h1|exact h2)
  (all_goals exact eZ)
 | false =>
  rw [q,if_neg (by simp)] at hA
  rw [hA]
  rw [q] at h1
  (apply Af.of tF mF [.tmp 4] kp71 [(1,[(2,.bool fun _=>false,[(1000,boxS fun _=>s)])]),(3,[(1,encK fun _=>p,[(1000,boxS fun _=>s.next)])])] Tryz.func71 (fun _=>?_);(any_goals ((with_reducible refine wI ?_);cbv;(try dsimp only [nc] at *);(repeat' (with_reducible first|exact ‹False›.elim|exact nZ|refine oC ?_ ?_|refine VC.mk rfl ?_ ?_ ?_|(apply Ca.mk<;>intro _)|refine cV (fun _=>?_) fun _=>?_|((first|apply xE|apply uE);cbv;(try dsimp only [nc] at *)))))))
  any_goals (refine nO ?_;first|exact h1)
  all_goals (try (exact absurd ‹False› id))
  (all_goals exact eZ)
theorem abE (s:St) (e:Int):Af Tryz.prog 55 [.ptr 1000 0,.int .i64 fun _=>e] [(1000,boxS fun _=>s)] (.tup []) [(1000,boxS fun _=>s.fail e)]:=by
 have h1:=ah7 s
 have h2:=aal s
 obtain ⟨A,hA⟩:∃ A,A=s.fail e:=⟨_,rfl⟩
 rw [← hA]
 unfold St.fail at hA
 generalize s.peek=p at h2 hA
 by_cases q:s.ok=true∧e≠0
 ·rw [if_pos q] at hA
  rw [hA]
  rw [q.1] at h1
  (apply Af.of tF mF [] kp55 [(0,[(1,.bool fun _=>true,[(1000,boxS fun _=>s)])]),(1,[(1,encK fun _=>p,[(1000,boxS fun _=>s)])])] Tryz.func55 (fun _=>?_);(any_goals ((with_reducible refine wI ?_);cbv;(try dsimp only [nc] at *);(repeat' (with_reducible first|exact ‹False›.elim|exact nZ|refine oC ?_ ?_|refine VC.mk rfl ?_ ?_ ?_|(apply Ca.mk<;>intro _)|refine cV (fun _=>?_) fun _=>?_|((first|apply xE|apply uE);cbv;(try dsimp only [nc] at *)))))))
  any_goals (refine nO ?_;first|exact h1|exact h2)
  ((all_goals (try (with_reducible ((first|refine rE ?_|refine nE ?_);cbv;(try dsimp only [nc] at *);(try simp only [wl,nc]);(repeat' apply And.intro);all_goals (try exact wZ)))));(all_goals (try ((with_reducible rw [aC]);(try simp only [wl,nc]);(repeat' (with_reducible apply And.intro));(all_goals (try exact cZ))))))
  all_goals (try (exfalso;(have h:=‹(if True then e != 0 else false)=false›);rw [if_pos trivial] at h;simp at h;exact q.2 h))
  all_goals first|rfl|exact fun _=>rfl|exact fun _ _=>LeL.of_eq rfl
 ·rw [if_neg q] at hA
  rw [hA]
  (apply Af.of tF mF [] kp55 [(0,[(1,.bool fun _=>s.ok,[(1000,boxS fun _=>s)])]),(1,[(1,encK fun _=>p,[(1000,boxS fun _=>s)])])] Tryz.func55 (fun _=>?_);(any_goals ((with_reducible refine wI ?_);cbv;(try dsimp only [nc] at *);(repeat' (with_reducible first|exact ‹False›.elim|exact nZ|refine oC ?_ ?_|refine VC.mk rfl ?_ ?_ ?_|(apply Ca.mk<;>intro _)|refine cV (fun _=>?_) fun _=>?_|((first|apply xE|apply uE);cbv;(try dsimp only [nc] at *)))))))
  any_goals (refine nO ?_;first|exact h1|exact h2)
  (all_goals exact eZ)
theorem ana (s:St):Af Tryz.prog 22 [.ptr 1000 0] [(1000,boxS fun _=>s)] (.tup [.int .i64 fun _=>s.line,.int .i64 fun _=>s.col,.int .i64 fun _=>s.e]) [(1000,boxS fun _=>s)]:=by
 (apply Af.of tF mF [.tmp 2,.tmp 3,.tmp 4] kp22 [] Tryz.func22 (fun _=>?_);(any_goals ((with_reducible refine wI ?_);cbv;(try dsimp only [nc] at *);(repeat' (with_reducible first|exact ‹False›.elim|exact nZ|refine oC ?_ ?_|refine VC.mk rfl ?_ ?_ ?_|(apply Ca.mk<;>intro _)|refine cV (fun _=>?_) fun _=>?_|((first|apply xE|apply uE);cbv;(try dsimp only [nc] at *)))))))
 (all_goals exact eZ)
theorem abZ (s:St) (t:ByteArray) (hl:s.l.length≤1073741824):Af Tryz.prog 272 [.ptr 1000 0,.str fun _=>t] [(1000,boxS fun _=>s)] (.tup []) [(1000,boxS fun _=>s.expect t)]:=by
 have h1:=adG s t hl
 obtain ⟨A,hA⟩:∃ A,A=s.expect t:=⟨_,rfl⟩
 rw [← hA]
 unfold St.expect at hA
 unfold St.accept at h1
 cases q:s.isT t with
 | true =>
  rw [q,if_pos rfl] at h1
  rw [q,if_pos rfl] at hA
  rw [hA]
  (apply Af.of tF mF [] kp272 [(0,[(2,.bool fun _=>true,[(1000,boxS fun _=>s.next)])])] Tryz.func272 (fun _=>?_);(any_goals ((with_reducible refine wI ?_);cbv;(try dsimp only [nc] at *);(repeat' (with_reducible first|exact ‹False›.elim|exact nZ|refine oC ?_ ?_|refine VC.mk rfl ?_ ?_ ?_|(apply Ca.mk<;>intro _)|refine cV (fun _=>?_) fun _=>?_|((first|apply xE|apply uE);cbv;(try dsimp only [nc] at *)))))))
  any_goals (refine nO ?_;exact h1)
  all_goals (try (exact absurd ‹False› id))
  (all_goals exact eZ)
 | false =>
  rw [q,if_neg (by simp)] at h1
  rw [q,if_neg (by simp)] at hA
  rw [hA]
  have h2:=abE s 13
  (apply Af.of tF mF [] kp272 [(0,[(2,.bool fun _=>false,[(1000,boxS fun _=>s)])]),(1,[(1,.tup [],[(1000,boxS fun _=>s.fail 13)])])] Tryz.func272 (fun _=>?_);(any_goals ((with_reducible refine wI ?_);cbv;(try dsimp only [nc] at *);(repeat' (with_reducible first|exact ‹False›.elim|exact nZ|refine oC ?_ ?_|refine VC.mk rfl ?_ ?_ ?_|(apply Ca.mk<;>intro _)|refine cV (fun _=>?_) fun _=>?_|((first|apply xE|apply uE);cbv;(try dsimp only [nc] at *)))))))
  any_goals (refine nO ?_;first|exact h1|exact h2)
  all_goals (try (exact absurd trivial ‹¬True›))
  (all_goals exact eZ)
def St.take (s:St) (k:Int):St:=if s.takes k=true then s.next else s.fail 13
end Go.Ai

namespace Go.Ai
open Go Go.Proofs
set_option maxRecDepth 100000
set_option maxHeartbeats 1000000
def opsL (b:Nat):List (ByteArray×Int) :=
 if b=1 then [(⟨#[111,114]⟩,5)] else
 if b=2 then [(⟨#[97,110,100]⟩,4)] else
 if b=4 then [(⟨#[61]⟩,6),(⟨#[33,61]⟩,7),(⟨#[60]⟩,8),(⟨#[60,61]⟩,9),(⟨#[62]⟩,10),(⟨#[62,61]⟩,11)] else
 if b=5 then [(⟨#[101,108,115,101]⟩,23)] else
 if b=6 then [(⟨#[43]⟩,12),(⟨#[45]⟩,13),(⟨#[38]⟩,17)] else
 if b=7 then [(⟨#[42]⟩,14)] else
 []
def ab5 {α:Type} (t:ByteArray):List (ByteArray×α)→Option α
 | []=>none
 | (k,v) :: r=>if k=t then some v else ab5 t r
def aa2:List (ByteArray×Int×Int):=[(⟨#[108,101,110,103,116,104]⟩,18,1),(⟨#[108,111,119,101,114]⟩,19,1),(⟨#[117,112,112,101,114]⟩,20,1),(⟨#[116,101,120,116]⟩,27,1),(⟨#[110,117,109,98,101,114]⟩,28,1),(⟨#[115,108,105,99,101]⟩,21,3),(⟨#[105,102]⟩,24,3),(⟨#[100,105,118,105,100,101]⟩,15,2),(⟨#[104,97,115]⟩,22,0),(⟨#[115,117,109]⟩,26,0)]
def rwL:List ByteArray:=[⟨#[97,110,100]⟩,⟨#[100,97,116,101]⟩,⟨#[100,105,118,105,100,101]⟩,⟨#[101,108,115,101]⟩,⟨#[102,97,108,115,101]⟩,⟨#[104,97,115]⟩,⟨#[105,102]⟩,⟨#[105,110]⟩,⟨#[108,101,110,103,116,104]⟩,⟨#[108,111,119,101,114]⟩,⟨#[110,111,116]⟩,⟨#[110,117,109,98,101,114]⟩,⟨#[111,114]⟩,⟨#[115,108,105,99,101]⟩,⟨#[115,117,109]⟩,⟨#[116,101,120,116]⟩,⟨#[116,105,109,101]⟩,⟨#[116,114,117,101]⟩,⟨#[117,112,112,101,114]⟩]
def resB (t:ByteArray):Bool:=kHas rwL t
theorem afW (s:St) (e:Int):(s.fail e).l=s.l:=by unfold St.fail;split<;>rfl
inductive Rd where
 | mk (s:St) (o:Int)
namespace Rd
def s:Rd→St|mk s _=>s
def o:Rd→Int|mk _ o=>o
def to (r:Rd) (s:St):Rd:=mk s r.o
def bad (r:Rd):Bool:=r.s.e != 0
def enter (r:Rd):Rd:=mk (if r.o=32 then r.s.fail 23 else r.s) (r.o+1)
def paren (r:Rd):Rd:=if r.s.isT ⟨#[40]⟩=true then mk (r.enter.s.expect ⟨#[40]⟩) r.enter.o else mk (r.s.expect ⟨#[40]⟩) r.o
def close (r:Rd):Rd:=mk (r.s.expect ⟨#[41]⟩) (r.o - 1)
def down (r:Rd):Rd:=mk r.s (r.o - 1)
def op (r:Rd) (b:Nat):Option Int:=if r.s.peek.kind≠1∧r.s.peek.kind≠5 then none else ab5 r.s.peek.text (opsL b)
end Rd
def boxR (r:Rd):AO:=.box [.ptr 1001000000 0,.int .i64 fun _=>r.o]
def bin (op:Int) (x y:X):X:=.mk op 0 ⟨#[]⟩ [] [x,y]
def af7 (b:Nat) (f:Rd→X×Rd):Nat→X→Rd→X×Rd
 | 0,x,r=>(x,r)
 | n+1,x,r=>match r.op b with
  | some op=>af7 b f n (bin op x (f (r.to r.s.next)).1) (f (r.to r.s.next)).2
  | none=>(x,r)
def aaT (b:Nat) (f:Rd→X×Rd) (r:Rd):X×Rd:=af7 b f (f r).2.s.l.length (f r).1 (f r).2
def St.neg (s:St):Bool:=s.isT ⟨#[45]⟩ && (decide (s.next.peek.kind=2) && s.next.peek.joined)
def valL:List ByteArray:=[⟨#[116,114,117,101]⟩,⟨#[102,97,108,115,101]⟩,⟨#[100,97,116,101]⟩,⟨#[116,105,109,101]⟩]
def St.val (s:St):Bool :=
 if s.peek.kind=2∨s.peek.kind=3∨s.peek.kind=4 then true
 else if s.peek.kind=1 then kHas valL s.peek.text
 else s.neg
end Go.Ai

namespace Go.Ai
open Go Go.Proofs
set_option maxRecDepth 100000
set_option maxHeartbeats 2000000
theorem am0 {w:World} {D:Nat→Prop} {B sz:Nat} {n n':Unit→Nat} {f f':(Unit→Nat)→List AV} {v:Value} (h:RD w D B (.slc .any sz n f) v) (hn:n ()=n' ()) (hl:∀ i,i<n ()→LeL (f fun _=>i) (f' fun _=>i)):RD w D B (.slc .any sz n' f') v:=by
 cases h with
 | empty _ _ _ _ p cap h0 hc=>exact .empty _ _ _ _ p cap (by omega) hc
 | slc _ _ _ _ b o cap c h1 hc hD hB hcell hlen hone hel =>
  rw [hn] at h1 hcell ⊢
  refine .slc _ _ _ _ b o cap c h1 hc hD trivial hcell (fun i hi=>?_) (fun i hi=>?_) (fun i j av hi hj=>?_)
  ·rw [← (hl i (by omega)).1];exact hlen i (by omega)
  ·exact (hl i (by omega)).2.1 (hone i (by omega))
  ·have hlen1:=hlen i (by omega)
   have hj2:j<(f fun _=>i).length:=by rw [(hl i (by omega)).1];exact (List.getElem?_eq_some_iff.1 hj).1
   exact (hl i (by omega)).2.2 w D B j _ _ _ (List.getElem?_eq_getElem hj2) hj (hel i j _ (by omega) (List.getElem?_eq_getElem hj2))
theorem X.le_up:∀ {e d:Nat} {x:X},X.le e d x→X.le e (d+1) x
 | _,0,_,h=>h.elim
 | _,_+1,_,h=>⟨h.1,h.2.1,h.2.2.1,h.2.2.2.1,fun y hy=>X.le_up (h.2.2.2.2 y hy)⟩
theorem X.aa4 {e c d:Nat} {x:X} (h:X.le e c x) (hd:c≤d):X.le e d x:=by
 induction hd with
 | refl=>exact h
 | step _ ih=>exact X.le_up ih
theorem X.abm {e d:Nat} {x:X} (h:X.le e (d+1) x) {i:Nat} (hi:i<x.args.length):X.le e d (x.args.getD i default):=by
 have:x.args.getD i default=x.args[i]:=by simp [List.getD,hi]
 rw [this];exact h.2.2.2.2 _ (List.getElem_mem hi)
theorem abF {e:Nat}:∀ (c:Nat) (x:Unit→X),X.le e c (x ())→∀ d d',c≤d→c≤d'→LeL (aa8 e d .any x) (aa8 e d' .any x):=by
 have key:∀ (c:Nat) (x:Unit→X),X.le e c (x ())→∀ d d',c≤d→c≤d'→∀ (w:World) (D:Nat→Prop) (B j:Nat) (av av':AV) (u:Value),(aa8 e d .any x)[j]? = some av→(aa8 e d' .any x)[j]? = some av'→RD w D B av u→RD w D B av' u:=by
  intro c
  induction c with
  | zero=>intro x hx;exact hx.elim
  | succ c ih =>
   intro x hx d d' hd hd' w D B j av av' u h1 h2 h
   obtain ⟨d,rfl⟩:∃ k,d=k+1:=⟨d - 1,by omega⟩
   obtain ⟨d',rfl⟩:∃ k,d'=k+1:=⟨d' - 1,by omega⟩
   match j with
   | 0|1|2|3=>simp [aa8,abG] at h1 h2;subst h1;subst h2;exact h
   | 4 =>
    simp [aa8,abG] at h1 h2;subst h1;subst h2
    exact am0 h rfl fun i hi=>⟨rfl,fun _=>rfl,fun w D B j av av' u h1 h2 h=>ih _ (X.abm hx hi) d d' (by omega) (by omega) w D B j av av' u h1 h2 h⟩
   | n+5=>simp [aa8,abG] at h1
 exact fun c x hx d d' hd hd'=>⟨rfl,fun _=>rfl,fun w D B j av av' u h1 h2 h=>key c x hx d d' hd hd' w D B j av av' u h1 h2 h⟩
end Go.Ai
