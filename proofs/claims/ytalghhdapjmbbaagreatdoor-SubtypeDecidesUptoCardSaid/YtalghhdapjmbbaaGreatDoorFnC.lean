/- Chapter 4: copies. -/
import Derived.Test.YtalghhdapjmbbaaGreatDoorFnA
set_option linter.all false
namespace Go.Ai
open Go Go.Proofs
set_option maxRecDepth 100000
set_option maxHeartbeats 2000000
def listF (d:Nat) (fr:FB) (l:Unit→List V):(Unit→Nat)→List AV:=fun i=>cells d fr fun _=>(l ()).getD (i ()) default
def fF (d:Nat) (fr:FB) (l:Unit→List (ByteArray×V)):(Unit→Nat)→List AV:=fun i=>.str (fun _=>((l ()).getD (i ()) default).1) :: cells d fr fun _=>((l ()).getD (i ()) default).2
def encO (o1 o2:Nat) (v:V):AV:=.agg [.int .i64 fun _=>v.kind,.int .i64 fun _=>v.int,.int .i64 fun _=>v.scale,.str fun _=>v.text,.aref o1 0 fun _=>v.list.length,.aref o2 0 fun _=>v.fields.length]
def objsO (o1 o2 d:Nat) (v:V):List (Nat×AO):=[(o1,.arr false 33 6 0 (fun _=>v.list.length) (listF d .new fun _=>v.list)),(o2,.arr false 50 7 0 (fun _=>v.fields.length) (fF d .new fun _=>v.fields))]
theorem catL_le {d i:Nat} {l:List V} {g:(Unit→Nat)→List AV} (hg:LeL (g fun _=>0) (cells d .new fun _=>l.getD i default)):∀ k,k<i+1→LeL (catF (fun _=>i) (listF d .new fun _=>l) g fun _=>k) (listF d .new (fun _=>l) fun _=>k) :=
  cat_le (n:=fun _=>i) (m:=1) (fun k _=>LeL.of_eq rfl) fun k hk=>by
    have:k=0:=by omega
    subst this
    exact hg
theorem catF_le {d i:Nat} {l:List (ByteArray×V)} {g:(Unit→Nat)→List AV} (hg:LeL (g fun _=>0) (.str (fun _=>(l.getD i default).1) :: cells d .new fun _=>(l.getD i default).2)):∀ k,k<i+1→LeL (catF (fun _=>i) (fF d .new fun _=>l) g fun _=>k) (fF d .new (fun _=>l) fun _=>k) :=
  cat_le (n:=fun _=>i) (m:=1) (fun k _=>LeL.of_eq rfl) fun k hk=>by
    have:k=0:=by omega
    subst this
    exact hg
theorem Clone_own (d:Nat) (v:V) (hv:V.le (d+1) v) (ih:∀ x,V.le d x→Af Tryz.prog 79 [encV d .any fun _=>x] [] (encV d .new fun _=>x) []) :
    Af Tryz.prog 79 [encV (d+1) .any fun _=>v] [] (encO 23 42 v) (objsO 23 42 d v):=by
  have h1:=hv.1
  have h2:=hv.2.1
  (apply Af.of tF mF [.cell 2 33] kp79 [] Tryz.func79 (fun _=>?_);(any_goals ((with_reducible refine wI ?_);cbv;(try dsimp only [nc] at *);(repeat' (with_reducible first|exact aO|exact oN|refine oC ?_ ?_|refine VC.mk rfl ?_ ?_ ?_|(apply Ca.mk<;>intro _)|(apply Cv.mk<;>intro zq<;>(try simp only [nc,cl] at zq)<;>(try simp only [bl,dl] at zq)<;>(revert zq;intro _))|((first|apply xE|apply uE);cbv;(try dsimp only [nc] at *)))))))
  ((all_goals (try (with_reducible ((first|refine rE ?_|refine nE ?_);(focus (cbv;(try dsimp only [nc] at *);(try simp only [wl,nc]);(repeat' (with_reducible apply And.intro));all_goals (try exact wZ)))))));(all_goals (try ((with_reducible rw [aC]);(try simp only [wl,nc]);(repeat' (with_reducible apply And.intro));(all_goals (try exact cZ))))))
  refine .loop (fun i:Nat=>⟨46,[(14,.int .i64 fun _=>i),(13,.int .i64 fun _=>v.list.length),(12,.slc .any 6 (fun _=>v.list.length) (listF d .any fun _=>v.list)),(3,.ptr 3 0),(2,.ptr 2 0),(1,.ptr 1 0)],
      [(1,.box (cells (d+1) .any fun _=>v)),(2,.box (cells 1 .any fun _=>default)),(3,.box [.int .i64 fun _=>v.kind,.int .i64 fun _=>v.int,.int .i64 fun _=>v.scale,.str fun _=>v.text,.aref 23 0 fun _=>i,.nil]),
       (23,.arr false 33 6 0 (fun _=>i) (listF d .new fun _=>v.list))]⟩) (fun i=>i≤v.list.length) (fun i=>v.list.length - i) 0 (by simp) ?_ fun i E hi=>?_
  · (focus (cbv;(try dsimp only [nc] at *);(try simp only [wl,nc]);(repeat' (with_reducible apply And.intro));all_goals (try exact wZ)))
  by_cases h:i<v.list.length
  · have hx:=V.le_list hv h
    obtain ⟨d,rfl⟩:=V.lP hx
    apply AWp.wk tF mF [(6,[(3,encV (d+1) .new fun _=>?_,[])])] kp79 ?_
    (any_goals ((with_reducible refine wI ?_);cbv;(try dsimp only [nc] at *);(repeat' (with_reducible first|exact aO|exact oN|refine oC ?_ ?_|refine VC.mk rfl ?_ ?_ ?_|(apply Ca.mk<;>intro _)|(apply Cv.mk<;>intro zq<;>(try simp only [nc,cl] at zq)<;>(try simp only [bl,dl] at zq)<;>(revert zq;intro _))|((first|apply xE|apply uE);cbv;(try dsimp only [nc] at *))))))
    all_goals (try exact absurd h (Nat.not_lt.2 ‹v.list.length≤i›))
    (any_goals ((with_reducible refine bZ ?_)<;>exact (ih _ hx)))
    ((all_goals (try (with_reducible ((first|refine rE ?_|refine nE ?_);(focus (cbv;(try dsimp only [nc] at *);(try simp only [wl,nc]);(repeat' (with_reducible apply And.intro));all_goals (try exact wZ)))))));(all_goals (try ((with_reducible rw [aC]);(try simp only [wl,nc]);(repeat' (with_reducible apply And.intro));(all_goals (try exact cZ))))))
    refine dE (i+1) ⟨by omega,by omega⟩ ?_
    (focus (cbv;(try dsimp only [nc] at *);(try simp only [wl,nc]);(repeat' (with_reducible apply And.intro));all_goals (try exact wZ)))
    · exact w64n (by omega)
    · exact catL_le (LeL.of_eq rfl)
  apply AWp.wk tF mF [(6,[(3,encV d .new fun _=>?_,[])])] kp79 ?_
  (any_goals ((with_reducible refine wI ?_);cbv;(try dsimp only [nc] at *);(repeat' (with_reducible first|exact aO|exact oN|refine oC ?_ ?_|refine VC.mk rfl ?_ ?_ ?_|(apply Ca.mk<;>intro _)|(apply Cv.mk<;>intro zq<;>(try simp only [nc,cl] at zq)<;>(try simp only [bl,dl] at zq)<;>(revert zq;intro _))|((first|apply xE|apply uE);cbv;(try dsimp only [nc] at *))))))
  all_goals (try exact absurd ‹i<v.list.length› h)
  have hi2:i=v.list.length:=by omega
  subst hi2
  refine .loop (fun i:Nat=>⟨46,[(29,.int .i64 fun _=>i),(28,.int .i64 fun _=>v.fields.length),(27,.slc .any 7 (fun _=>v.fields.length) (fF d .any fun _=>v.fields)),(3,.ptr 3 0),(2,.ptr 2 0)],
      [(2,.box (cells 1 .any fun _=>default)),(3,.box [.int .i64 fun _=>v.kind,.int .i64 fun _=>v.int,.int .i64 fun _=>v.scale,.str fun _=>v.text,.aref 23 0 fun _=>v.list.length,.aref 42 0 fun _=>i]),
       (23,.arr false 33 6 0 (fun _=>v.list.length) (listF d .new fun _=>v.list)),(42,.arr false 50 7 0 (fun _=>i) (fF d .new fun _=>v.fields))]⟩) (fun i=>i≤v.fields.length) (fun i=>v.fields.length - i) 0 (by simp) ?_ fun i E hi=>?_
  · (focus (cbv;(try dsimp only [nc] at *);(try simp only [wl,nc]);(repeat' (with_reducible apply And.intro));all_goals (try exact wZ)))
  by_cases h:i<v.fields.length
  · have hx:=V.le_field hv h
    obtain ⟨d,rfl⟩:=V.lP hx
    apply AWp.wk tF mF [(11,[(6,encV (d+1) .new fun _=>?_,[])])] kp79 ?_
    (any_goals ((with_reducible refine wI ?_);cbv;(try dsimp only [nc] at *);(repeat' (with_reducible first|exact aO|exact oN|refine oC ?_ ?_|refine VC.mk rfl ?_ ?_ ?_|(apply Ca.mk<;>intro _)|(apply Cv.mk<;>intro zq<;>(try simp only [nc,cl] at zq)<;>(try simp only [bl,dl] at zq)<;>(revert zq;intro _))|((first|apply xE|apply uE);cbv;(try dsimp only [nc] at *))))))
    all_goals (try exact absurd h (Nat.not_lt.2 ‹v.fields.length≤i›))
    (any_goals ((with_reducible refine bZ ?_)<;>exact (ih _ hx)))
    ((all_goals (try (with_reducible ((first|refine rE ?_|refine nE ?_);(focus (cbv;(try dsimp only [nc] at *);(try simp only [wl,nc]);(repeat' (with_reducible apply And.intro));all_goals (try exact wZ)))))));(all_goals (try ((with_reducible rw [aC]);(try simp only [wl,nc]);(repeat' (with_reducible apply And.intro));(all_goals (try exact cZ))))))
    refine dE (i+1) ⟨by omega,by omega⟩ ?_
    (focus (cbv;(try dsimp only [nc] at *);(try simp only [wl,nc]);(repeat' (with_reducible apply And.intro));all_goals (try exact wZ)))
    · exact w64n (by omega)
    · exact catF_le (LeL.of_eq rfl)
  apply AWp.wk tF mF [(11,[(6,encV d .new fun _=>?_,[])])] kp79 ?_
  (any_goals ((with_reducible refine wI ?_);cbv;(try dsimp only [nc] at *);(repeat' (with_reducible first|exact aO|exact oN|refine oC ?_ ?_|refine VC.mk rfl ?_ ?_ ?_|(apply Ca.mk<;>intro _)|(apply Cv.mk<;>intro zq<;>(try simp only [nc,cl] at zq)<;>(try simp only [bl,dl] at zq)<;>(revert zq;intro _))|((first|apply xE|apply uE);cbv;(try dsimp only [nc] at *))))))
  all_goals (try exact absurd ‹i<v.fields.length› h)
  ((all_goals (try (with_reducible ((first|refine rE ?_|refine nE ?_);(focus (cbv;(try dsimp only [nc] at *);(try simp only [wl,nc]);(repeat' (with_reducible apply And.intro));all_goals (try exact wZ)))))));(all_goals (try ((with_reducible rw [aC]);(try simp only [wl,nc]);(repeat' (with_reducible apply And.intro));(all_goals (try exact cZ))))))
  all_goals exact default
theorem Clone_ok:∀ (d:Nat) (v:V),V.le d v→Af Tryz.prog 79 [encV d .any fun _=>v] [] (encV d .new fun _=>v) []
  | 0,_,h=>h.elim
  | d+1,v,h=>by
    refine (Clone_own d v h (Clone_ok d)).weak_out ?_
    (focus (cbv;(try dsimp only [nc] at *);(try simp only [wl,nc]);(repeat' (with_reducible apply And.intro));all_goals (try exact wZ)))
def mkV (kind int scale:Int) (text:ByteArray):V:=.mk kind int scale text [] []
theorem Text_ok (s:ByteArray) (d:Nat):Af Tryz.prog 43 [.str fun _=>s] [] (encV (d+1) .new fun _=>mkV 4 0 0 s) []:=by
  (apply Af.of tF mF [.cell 2 33] kp43 [] Tryz.func43 (fun _=>?_);(any_goals ((with_reducible refine wI ?_);cbv;(try dsimp only [nc] at *);(repeat' (with_reducible first|exact aO|exact oN|refine oC ?_ ?_|refine VC.mk rfl ?_ ?_ ?_|(apply Ca.mk<;>intro _)|(apply Cv.mk<;>intro zq<;>(try simp only [nc,cl] at zq)<;>(try simp only [bl,dl] at zq)<;>(revert zq;intro _))|((first|apply xE|apply uE);cbv;(try dsimp only [nc] at *)))))))
  ((all_goals (try (with_reducible ((first|refine rE ?_|refine nE ?_);(focus (cbv;(try dsimp only [nc] at *);(try simp only [wl,nc]);(repeat' (with_reducible apply And.intro));all_goals (try exact wZ)))))));(all_goals (try ((with_reducible rw [aC]);(try simp only [wl,nc]);(repeat' (with_reducible apply And.intro));(all_goals (try exact cZ))))))
  all_goals rfl
end Go.Ai
