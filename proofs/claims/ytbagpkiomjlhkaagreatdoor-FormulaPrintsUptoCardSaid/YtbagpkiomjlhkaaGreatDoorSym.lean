/- Chapter 17: the printer: symbols of operations. -/
import Derived.Test.YtbagpkiomjlhkaaGreatDoorMp
import Derived.Test.YtbagpkiomjlhkaaGreatDoorEngC
set_option linter.all false
namespace Go.Ai
open Go Go.Proofs
set_option maxRecDepth 100000
set_option maxHeartbeats 4000000
def unseen (n:Nat) (l:List Nat):Nat:=((List.range n).filter fun i=>decide (i ∉ l)).length
theorem aaz {n:Nat} {l:List Nat} {i:Nat} (h1:i<n) (h2:i ∉ l):unseen n (l++[i])<unseen n l:=by
 unfold unseen
 have e:(List.range n).filter (fun j=>decide (j ∉ l++[i]))=((List.range n).filter fun j=>decide (j ∉ l)).filter fun j=>decide (j≠i):=by
  rw [List.filter_filter]
  refine List.filter_congr fun j _=>?_
  by_cases q1:j ∈ l<;>by_cases q2:j=i<;>simp [q1,q2]
 rw [e]
 refine List.length_filter_lt_length_iff_exists.2 ⟨i,?_,by simp⟩
 simp [h1,h2]
def symV (op:Int) (b:Nat):ByteArray:=((opsL b).find? fun p=>p.2 == op).elim ⟨#[]⟩ (·.1)
theorem adH {op:Int} {b i:Nat} (hb:b<10) (hi:i<(opsL b).length) (h:((opsL b).getD i default).2=op):((opsL b).map (·.1)).getD i ⟨#[]⟩=symV op b:=by
 have key:∀ b,b<10→∀ i,i<(opsL b).length→((opsL b).map (·.1)).getD i ⟨#[]⟩=symV ((opsL b).getD i default).2 b:=by decide
 rw [← h];exact key b hb i hi
theorem abS {op:Int} {b:Nat} (h:∀ i,i<(opsL b).length→((opsL b).getD i default).2≠op):symV op b=⟨#[]⟩:=by
 have:(opsL b).find? (fun p=>p.2 == op)=none:=by
  rw [List.find?_eq_none]
  intro p hp
  obtain ⟨i,hi,rfl⟩:=List.getElem_of_mem hp
  have:=h i hi
  simpa [List.getD,hi] using this
 unfold symV;rw [this];rfl
def opsB (L1 L2 L4 L5 L6 L7:List (ByteArray×Int)):AV:=.agg [.nilm,oMap L1,oMap L2,.nilm,oMap L4,oMap L5,oMap L6,oMap L7,.nilm,.nilm]
theorem ab0:∃ L1 L2 L4 L5 L6 L7,L1=opsL 1∧L2=opsL 2∧L4=opsL 4∧L5=opsL 5∧L6=opsL 6∧L7=opsL 7∧Af Tryz.prog 137 [] [] (opsB L1 L2 L4 L5 L6 L7) [] :=
 ⟨_,_,_,_,_,_,rfl,rfl,rfl,rfl,rfl,rfl,aa7⟩
theorem akv (op:Int):Af Tryz.prog 88 [.int .i64 fun _=>op,.int .i64 fun _=>1] [] (.str fun _=>symV op 1) []:=by
 obtain ⟨L1,L2,L4,L5,L6,L7,e1,e2,e4,e5,e6,e7,h1⟩:=ab0
 have hat:=fun i=>adH (op:=op) (b:=1) (i:=i) (by decide)
 have hno:=abS (op:=op) (b:=1)
 rw [← e1] at hat hno
 generalize symV op 1=z at *
 clear e1 e2 e4 e5 e6 e7
 (apply Af.of tF mF [.tmp 4] kp88 [(1,[(0,opsB L1 L2 L4 L5 L6 L7,[])])] Tryz.func88 (fun _=>?_);(any_goals ((with_reducible refine wI ?_);cbv;(try dsimp only [nc] at *);(repeat' (with_reducible first|exact ‹False›.elim|exact nZ|refine oC ?_ ?_|refine VC.mk rfl ?_ ?_ ?_|(apply Ca.mk<;>intro _)|refine cV (fun _=>?_) fun _=>?_|((first|apply xE|apply uE);cbv;(try dsimp only [nc] at *)))))))
 any_goals ((with_reducible refine nO ?_);exact h1)
 refine .loop (fun seen:List Nat=>⟨20,[(10,.ptr 10 0),(0,.int .i64 fun _=>op)],[(10,.it (fun _=>L1.map (·.1)) (fun i=>.int .i64 fun _=>(L1.getD (i ()) default).2) (fun _=>seen) false)]⟩)
  (fun seen=>∀ i ∈ seen,(L1.getD i default).2≠op) (fun seen=>unseen L1.length seen) [] (fun i hi=>by cases hi) ?_ fun seen E hs=>?_
 ·(exact aZ)
 apply AWp.wkG tF mF 2 [] kp88 ?_
 (any_goals ((with_reducible refine ab9 ?_);cbv;(try dsimp only [nc] at *);(repeat' (with_reducible first|exact ‹False›.elim|exact nZ|refine oC ?_ ?_|refine VC.mk rfl ?_ ?_ ?_|(apply Ca.mk<;>intro _)|refine cV (fun _=>?_) fun _=>?_))))
 ·refine LpVC.pick tF mF (fun _=>[]) kp88 10 rfl ‹_› (fun i hi hn=>?_)
  (any_goals ((with_reducible refine wI ?_);cbv;(try dsimp only [nc] at *);(repeat' (with_reducible first|exact ‹False›.elim|exact nZ|refine oC ?_ ?_|refine VC.mk rfl ?_ ?_ ?_|(apply Ca.mk<;>intro _)|refine cV (fun _=>?_) fun _=>?_|((first|apply xE|apply uE);cbv;(try dsimp only [nc] at *))))))
  all_goals (try simp only [List.getLastD_concat,List.length_map] at *)
  ((all_goals (try (with_reducible ((first|refine rE ?_|refine nE ?_);cbv;(try dsimp only [nc] at *);(try simp only [wl,nc]);(repeat' apply And.intro);all_goals (try exact wZ)))));(all_goals (try ((with_reducible rw [aC]);(try simp only [wl,nc]);(repeat' (with_reducible apply And.intro));(all_goals (try exact cZ))))))
  ·exact hat i hi ‹_›
  ·refine dE (ι:=List Nat) (μ:=fun seen=>unseen L1.length seen) (i:=seen) (seen++[i]) ⟨fun j hj=>?_,aaz hi hn⟩ ?_
   ·rcases List.mem_append.1 hj with hj|hj
    ·exact hs j hj
    ·rw [List.mem_singleton.1 hj];assumption
   ·(exact aZ)
 ·(any_goals (repeat' (with_reducible first|exact ‹False›.elim|exact nZ|refine oC ?_ ?_|refine VC.mk rfl ?_ ?_ ?_|(apply Ca.mk<;>intro _)|refine cV (fun _=>?_) fun _=>?_|((first|apply xE|apply uE);cbv;(try dsimp only [nc] at *)))))
  ((all_goals (try (with_reducible ((first|refine rE ?_|refine nE ?_);cbv;(try dsimp only [nc] at *);(try simp only [wl,nc]);(repeat' apply And.intro);all_goals (try exact wZ)))));(all_goals (try ((with_reducible rw [aC]);(try simp only [wl,nc]);(repeat' (with_reducible apply And.intro));(all_goals (try exact cZ))))))
  rename_i hall
  exact (hno fun i hi=>hs i (hall i (by rw [List.length_map];exact hi))).symm
theorem aku (op:Int):Af Tryz.prog 88 [.int .i64 fun _=>op,.int .i64 fun _=>2] [] (.str fun _=>symV op 2) []:=by
 obtain ⟨L1,L2,L4,L5,L6,L7,e1,e2,e4,e5,e6,e7,h1⟩:=ab0
 have hat:=fun i=>adH (op:=op) (b:=2) (i:=i) (by decide)
 have hno:=abS (op:=op) (b:=2)
 rw [← e2] at hat hno
 generalize symV op 2=z at *
 clear e1 e2 e4 e5 e6 e7
 (apply Af.of tF mF [.tmp 4] kp88 [(1,[(0,opsB L1 L2 L4 L5 L6 L7,[])])] Tryz.func88 (fun _=>?_);(any_goals ((with_reducible refine wI ?_);cbv;(try dsimp only [nc] at *);(repeat' (with_reducible first|exact ‹False›.elim|exact nZ|refine oC ?_ ?_|refine VC.mk rfl ?_ ?_ ?_|(apply Ca.mk<;>intro _)|refine cV (fun _=>?_) fun _=>?_|((first|apply xE|apply uE);cbv;(try dsimp only [nc] at *)))))))
 any_goals ((with_reducible refine nO ?_);exact h1)
 refine .loop (fun seen:List Nat=>⟨20,[(10,.ptr 10 0),(0,.int .i64 fun _=>op)],[(10,.it (fun _=>L2.map (·.1)) (fun i=>.int .i64 fun _=>(L2.getD (i ()) default).2) (fun _=>seen) false)]⟩)
  (fun seen=>∀ i ∈ seen,(L2.getD i default).2≠op) (fun seen=>unseen L2.length seen) [] (fun i hi=>by cases hi) ?_ fun seen E hs=>?_
 ·(exact aZ)
 apply AWp.wkG tF mF 2 [] kp88 ?_
 (any_goals ((with_reducible refine ab9 ?_);cbv;(try dsimp only [nc] at *);(repeat' (with_reducible first|exact ‹False›.elim|exact nZ|refine oC ?_ ?_|refine VC.mk rfl ?_ ?_ ?_|(apply Ca.mk<;>intro _)|refine cV (fun _=>?_) fun _=>?_))))
 ·refine LpVC.pick tF mF (fun _=>[]) kp88 10 rfl ‹_› (fun i hi hn=>?_)
  (any_goals ((with_reducible refine wI ?_);cbv;(try dsimp only [nc] at *);(repeat' (with_reducible first|exact ‹False›.elim|exact nZ|refine oC ?_ ?_|refine VC.mk rfl ?_ ?_ ?_|(apply Ca.mk<;>intro _)|refine cV (fun _=>?_) fun _=>?_|((first|apply xE|apply uE);cbv;(try dsimp only [nc] at *))))))
  all_goals (try simp only [List.getLastD_concat,List.length_map] at *)
  ((all_goals (try (with_reducible ((first|refine rE ?_|refine nE ?_);cbv;(try dsimp only [nc] at *);(try simp only [wl,nc]);(repeat' apply And.intro);all_goals (try exact wZ)))));(all_goals (try ((with_reducible rw [aC]);(try simp only [wl,nc]);(repeat' (with_reducible apply And.intro));(all_goals (try exact cZ))))))
  ·exact hat i hi ‹_›
  ·refine dE (ι:=List Nat) (μ:=fun seen=>unseen L2.length seen) (i:=seen) (seen++[i]) ⟨fun j hj=>?_,aaz hi hn⟩ ?_
   ·rcases List.mem_append.1 hj with hj|hj
    ·exact hs j hj
    ·rw [List.mem_singleton.1 hj];assumption
   ·(exact aZ)
 ·(any_goals (repeat' (with_reducible first|exact ‹False›.elim|exact nZ|refine oC ?_ ?_|refine VC.mk rfl ?_ ?_ ?_|(apply Ca.mk<;>intro _)|refine cV (fun _=>?_) fun _=>?_|((first|apply xE|apply uE);cbv;(try dsimp only [nc] at *)))))
  ((all_goals (try (with_reducible ((first|refine rE ?_|refine nE ?_);cbv;(try dsimp only [nc] at *);(try simp only [wl,nc]);(repeat' apply And.intro);all_goals (try exact wZ)))));(all_goals (try ((with_reducible rw [aC]);(try simp only [wl,nc]);(repeat' (with_reducible apply And.intro));(all_goals (try exact cZ))))))
  rename_i hall
  exact (hno fun i hi=>hs i (hall i (by rw [List.length_map];exact hi))).symm
theorem akt (op:Int):Af Tryz.prog 88 [.int .i64 fun _=>op,.int .i64 fun _=>4] [] (.str fun _=>symV op 4) []:=by
 obtain ⟨L1,L2,L4,L5,L6,L7,e1,e2,e4,e5,e6,e7,h1⟩:=ab0
 have hat:=fun i=>adH (op:=op) (b:=4) (i:=i) (by decide)
 have hno:=abS (op:=op) (b:=4)
 rw [← e4] at hat hno
 generalize symV op 4=z at *
 clear e1 e2 e4 e5 e6 e7
 (apply Af.of tF mF [.tmp 4] kp88 [(1,[(0,opsB L1 L2 L4 L5 L6 L7,[])])] Tryz.func88 (fun _=>?_);(any_goals ((with_reducible refine wI ?_);cbv;(try dsimp only [nc] at *);(repeat' (with_reducible first|exact ‹False›.elim|exact nZ|refine oC ?_ ?_|refine VC.mk rfl ?_ ?_ ?_|(apply Ca.mk<;>intro _)|refine cV (fun _=>?_) fun _=>?_|((first|apply xE|apply uE);cbv;(try dsimp only [nc] at *)))))))
 any_goals ((with_reducible refine nO ?_);exact h1)
 refine .loop (fun seen:List Nat=>⟨20,[(10,.ptr 10 0),(0,.int .i64 fun _=>op)],[(10,.it (fun _=>L4.map (·.1)) (fun i=>.int .i64 fun _=>(L4.getD (i ()) default).2) (fun _=>seen) false)]⟩)
  (fun seen=>∀ i ∈ seen,(L4.getD i default).2≠op) (fun seen=>unseen L4.length seen) [] (fun i hi=>by cases hi) ?_ fun seen E hs=>?_
 ·(exact aZ)
 apply AWp.wkG tF mF 2 [] kp88 ?_
 (any_goals ((with_reducible refine ab9 ?_);cbv;(try dsimp only [nc] at *);(repeat' (with_reducible first|exact ‹False›.elim|exact nZ|refine oC ?_ ?_|refine VC.mk rfl ?_ ?_ ?_|(apply Ca.mk<;>intro _)|refine cV (fun _=>?_) fun _=>?_))))
 ·refine LpVC.pick tF mF (fun _=>[]) kp88 10 rfl ‹_› (fun i hi hn=>?_)
  (any_goals ((with_reducible refine wI ?_);cbv;(try dsimp only [nc] at *);(repeat' (with_reducible first|exact ‹False›.elim|exact nZ|refine oC ?_ ?_|refine VC.mk rfl ?_ ?_ ?_|(apply Ca.mk<;>intro _)|refine cV (fun _=>?_) fun _=>?_|((first|apply xE|apply uE);cbv;(try dsimp only [nc] at *))))))
  all_goals (try simp only [List.getLastD_concat,List.length_map] at *)
  ((all_goals (try (with_reducible ((first|refine rE ?_|refine nE ?_);cbv;(try dsimp only [nc] at *);(try simp only [wl,nc]);(repeat' apply And.intro);all_goals (try exact wZ)))));(all_goals (try ((with_reducible rw [aC]);(try simp only [wl,nc]);(repeat' (with_reducible apply And.intro));(all_goals (try exact cZ))))))
  ·exact hat i hi ‹_›
  ·refine dE (ι:=List Nat) (μ:=fun seen=>unseen L4.length seen) (i:=seen) (seen++[i]) ⟨fun j hj=>?_,aaz hi hn⟩ ?_
   ·rcases List.mem_append.1 hj with hj|hj
    ·exact hs j hj
    ·rw [List.mem_singleton.1 hj];assumption
   ·(exact aZ)
 ·(any_goals (repeat' (with_reducible first|exact ‹False›.elim|exact nZ|refine oC ?_ ?_|refine VC.mk rfl ?_ ?_ ?_|(apply Ca.mk<;>intro _)|refine cV (fun _=>?_) fun _=>?_|((first|apply xE|apply uE);cbv;(try dsimp only [nc] at *)))))
  ((all_goals (try (with_reducible ((first|refine rE ?_|refine nE ?_);cbv;(try dsimp only [nc] at *);(try simp only [wl,nc]);(repeat' apply And.intro);all_goals (try exact wZ)))));(all_goals (try ((with_reducible rw [aC]);(try simp only [wl,nc]);(repeat' (with_reducible apply And.intro));(all_goals (try exact cZ))))))
  rename_i hall
  exact (hno fun i hi=>hs i (hall i (by rw [List.length_map];exact hi))).symm
theorem aks (op:Int):Af Tryz.prog 88 [.int .i64 fun _=>op,.int .i64 fun _=>5] [] (.str fun _=>symV op 5) []:=by
 obtain ⟨L1,L2,L4,L5,L6,L7,e1,e2,e4,e5,e6,e7,h1⟩:=ab0
 have hat:=fun i=>adH (op:=op) (b:=5) (i:=i) (by decide)
 have hno:=abS (op:=op) (b:=5)
 rw [← e5] at hat hno
 generalize symV op 5=z at *
 clear e1 e2 e4 e5 e6 e7
 (apply Af.of tF mF [.tmp 4] kp88 [(1,[(0,opsB L1 L2 L4 L5 L6 L7,[])])] Tryz.func88 (fun _=>?_);(any_goals ((with_reducible refine wI ?_);cbv;(try dsimp only [nc] at *);(repeat' (with_reducible first|exact ‹False›.elim|exact nZ|refine oC ?_ ?_|refine VC.mk rfl ?_ ?_ ?_|(apply Ca.mk<;>intro _)|refine cV (fun _=>?_) fun _=>?_|((first|apply xE|apply uE);cbv;(try dsimp only [nc] at *)))))))
 any_goals ((with_reducible refine nO ?_);exact h1)
 refine .loop (fun seen:List Nat=>⟨20,[(10,.ptr 10 0),(0,.int .i64 fun _=>op)],[(10,.it (fun _=>L5.map (·.1)) (fun i=>.int .i64 fun _=>(L5.getD (i ()) default).2) (fun _=>seen) false)]⟩)
  (fun seen=>∀ i ∈ seen,(L5.getD i default).2≠op) (fun seen=>unseen L5.length seen) [] (fun i hi=>by cases hi) ?_ fun seen E hs=>?_
 ·(exact aZ)
 apply AWp.wkG tF mF 2 [] kp88 ?_
 (any_goals ((with_reducible refine ab9 ?_);cbv;(try dsimp only [nc] at *);(repeat' (with_reducible first|exact ‹False›.elim|exact nZ|refine oC ?_ ?_|refine VC.mk rfl ?_ ?_ ?_|(apply Ca.mk<;>intro _)|refine cV (fun _=>?_) fun _=>?_))))
 ·refine LpVC.pick tF mF (fun _=>[]) kp88 10 rfl ‹_› (fun i hi hn=>?_)
  (any_goals ((with_reducible refine wI ?_);cbv;(try dsimp only [nc] at *);(repeat' (with_reducible first|exact ‹False›.elim|exact nZ|refine oC ?_ ?_|refine VC.mk rfl ?_ ?_ ?_|(apply Ca.mk<;>intro _)|refine cV (fun _=>?_) fun _=>?_|((first|apply xE|apply uE);cbv;(try dsimp only [nc] at *))))))
  all_goals (try simp only [List.getLastD_concat,List.length_map] at *)
  ((all_goals (try (with_reducible ((first|refine rE ?_|refine nE ?_);cbv;(try dsimp only [nc] at *);(try simp only [wl,nc]);(repeat' apply And.intro);all_goals (try exact wZ)))));(all_goals (try ((with_reducible rw [aC]);(try simp only [wl,nc]);(repeat' (with_reducible apply And.intro));(all_goals (try exact cZ))))))
  ·exact hat i hi ‹_›
  ·refine dE (ι:=List Nat) (μ:=fun seen=>unseen L5.length seen) (i:=seen) (seen++[i]) ⟨fun j hj=>?_,aaz hi hn⟩ ?_
   ·rcases List.mem_append.1 hj with hj|hj
    ·exact hs j hj
    ·rw [List.mem_singleton.1 hj];assumption
   ·(exact aZ)
 ·(any_goals (repeat' (with_reducible first|exact ‹False›.elim|exact nZ|refine oC ?_ ?_|refine VC.mk rfl ?_ ?_ ?_|(apply Ca.mk<;>intro _)|refine cV (fun _=>?_) fun _=>?_|((first|apply xE|apply uE);cbv;(try dsimp only [nc] at *)))))
  ((all_goals (try (with_reducible ((first|refine rE ?_|refine nE ?_);cbv;(try dsimp only [nc] at *);(try simp only [wl,nc]);(repeat' apply And.intro);all_goals (try exact wZ)))));(all_goals (try ((with_reducible rw [aC]);(try simp only [wl,nc]);(repeat' (with_reducible apply And.intro));(all_goals (try exact cZ))))))
  rename_i hall
  exact (hno fun i hi=>hs i (hall i (by rw [List.length_map];exact hi))).symm
theorem akr (op:Int):Af Tryz.prog 88 [.int .i64 fun _=>op,.int .i64 fun _=>6] [] (.str fun _=>symV op 6) []:=by
 obtain ⟨L1,L2,L4,L5,L6,L7,e1,e2,e4,e5,e6,e7,h1⟩:=ab0
 have hat:=fun i=>adH (op:=op) (b:=6) (i:=i) (by decide)
 have hno:=abS (op:=op) (b:=6)
 rw [← e6] at hat hno
 generalize symV op 6=z at *
 clear e1 e2 e4 e5 e6 e7
 (apply Af.of tF mF [.tmp 4] kp88 [(1,[(0,opsB L1 L2 L4 L5 L6 L7,[])])] Tryz.func88 (fun _=>?_);(any_goals ((with_reducible refine wI ?_);cbv;(try dsimp only [nc] at *);(repeat' (with_reducible first|exact ‹False›.elim|exact nZ|refine oC ?_ ?_|refine VC.mk rfl ?_ ?_ ?_|(apply Ca.mk<;>intro _)|refine cV (fun _=>?_) fun _=>?_|((first|apply xE|apply uE);cbv;(try dsimp only [nc] at *)))))))
 any_goals ((with_reducible refine nO ?_);exact h1)
 refine .loop (fun seen:List Nat=>⟨20,[(10,.ptr 10 0),(0,.int .i64 fun _=>op)],[(10,.it (fun _=>L6.map (·.1)) (fun i=>.int .i64 fun _=>(L6.getD (i ()) default).2) (fun _=>seen) false)]⟩)
  (fun seen=>∀ i ∈ seen,(L6.getD i default).2≠op) (fun seen=>unseen L6.length seen) [] (fun i hi=>by cases hi) ?_ fun seen E hs=>?_
 ·(exact aZ)
 apply AWp.wkG tF mF 2 [] kp88 ?_
 (any_goals ((with_reducible refine ab9 ?_);cbv;(try dsimp only [nc] at *);(repeat' (with_reducible first|exact ‹False›.elim|exact nZ|refine oC ?_ ?_|refine VC.mk rfl ?_ ?_ ?_|(apply Ca.mk<;>intro _)|refine cV (fun _=>?_) fun _=>?_))))
 ·refine LpVC.pick tF mF (fun _=>[]) kp88 10 rfl ‹_› (fun i hi hn=>?_)
  (any_goals ((with_reducible refine wI ?_);cbv;(try dsimp only [nc] at *);(repeat' (with_reducible first|exact ‹False›.elim|exact nZ|refine oC ?_ ?_|refine VC.mk rfl ?_ ?_ ?_|(apply Ca.mk<;>intro _)|refine cV (fun _=>?_) fun _=>?_|((first|apply xE|apply uE);cbv;(try dsimp only [nc] at *))))))
  all_goals (try simp only [List.getLastD_concat,List.length_map] at *)
  ((all_goals (try (with_reducible ((first|refine rE ?_|refine nE ?_);cbv;(try dsimp only [nc] at *);(try simp only [wl,nc]);(repeat' apply And.intro);all_goals (try exact wZ)))));(all_goals (try ((with_reducible rw [aC]);(try simp only [wl,nc]);(repeat' (with_reducible apply And.intro));(all_goals (try exact cZ))))))
  ·exact hat i hi ‹_›
  ·refine dE (ι:=List Nat) (μ:=fun seen=>unseen L6.length seen) (i:=seen) (seen++[i]) ⟨fun j hj=>?_,aaz hi hn⟩ ?_
   ·rcases List.mem_append.1 hj with hj|hj
    ·exact hs j hj
    ·rw [List.mem_singleton.1 hj];assumption
   ·(exact aZ)
 ·(any_goals (repeat' (with_reducible first|exact ‹False›.elim|exact nZ|refine oC ?_ ?_|refine VC.mk rfl ?_ ?_ ?_|(apply Ca.mk<;>intro _)|refine cV (fun _=>?_) fun _=>?_|((first|apply xE|apply uE);cbv;(try dsimp only [nc] at *)))))
  ((all_goals (try (with_reducible ((first|refine rE ?_|refine nE ?_);cbv;(try dsimp only [nc] at *);(try simp only [wl,nc]);(repeat' apply And.intro);all_goals (try exact wZ)))));(all_goals (try ((with_reducible rw [aC]);(try simp only [wl,nc]);(repeat' (with_reducible apply And.intro));(all_goals (try exact cZ))))))
  rename_i hall
  exact (hno fun i hi=>hs i (hall i (by rw [List.length_map];exact hi))).symm
theorem akq (op:Int):Af Tryz.prog 88 [.int .i64 fun _=>op,.int .i64 fun _=>7] [] (.str fun _=>symV op 7) []:=by
 obtain ⟨L1,L2,L4,L5,L6,L7,e1,e2,e4,e5,e6,e7,h1⟩:=ab0
 have hat:=fun i=>adH (op:=op) (b:=7) (i:=i) (by decide)
 have hno:=abS (op:=op) (b:=7)
 rw [← e7] at hat hno
 generalize symV op 7=z at *
 clear e1 e2 e4 e5 e6 e7
 (apply Af.of tF mF [.tmp 4] kp88 [(1,[(0,opsB L1 L2 L4 L5 L6 L7,[])])] Tryz.func88 (fun _=>?_);(any_goals ((with_reducible refine wI ?_);cbv;(try dsimp only [nc] at *);(repeat' (with_reducible first|exact ‹False›.elim|exact nZ|refine oC ?_ ?_|refine VC.mk rfl ?_ ?_ ?_|(apply Ca.mk<;>intro _)|refine cV (fun _=>?_) fun _=>?_|((first|apply xE|apply uE);cbv;(try dsimp only [nc] at *)))))))
 any_goals ((with_reducible refine nO ?_);exact h1)
 refine .loop (fun seen:List Nat=>⟨20,[(10,.ptr 10 0),(0,.int .i64 fun _=>op)],[(10,.it (fun _=>L7.map (·.1)) (fun i=>.int .i64 fun _=>(L7.getD (i ()) default).2) (fun _=>seen) false)]⟩)
  (fun seen=>∀ i ∈ seen,(L7.getD i default).2≠op) (fun seen=>unseen L7.length seen) [] (fun i hi=>by cases hi) ?_ fun seen E hs=>?_
 ·(exact aZ)
 apply AWp.wkG tF mF 2 [] kp88 ?_
 (any_goals ((with_reducible refine ab9 ?_);cbv;(try dsimp only [nc] at *);(repeat' (with_reducible first|exact ‹False›.elim|exact nZ|refine oC ?_ ?_|refine VC.mk rfl ?_ ?_ ?_|(apply Ca.mk<;>intro _)|refine cV (fun _=>?_) fun _=>?_))))
 ·refine LpVC.pick tF mF (fun _=>[]) kp88 10 rfl ‹_› (fun i hi hn=>?_)
  (any_goals ((with_reducible refine wI ?_);cbv;(try dsimp only [nc] at *);(repeat' (with_reducible first|exact ‹False›.elim|exact nZ|refine oC ?_ ?_|refine VC.mk rfl ?_ ?_ ?_|(apply Ca.mk<;>intro _)|refine cV (fun _=>?_) fun _=>?_|((first|apply xE|apply uE);cbv;(try dsimp only [nc] at *))))))
  all_goals (try simp only [List.getLastD_concat,List.length_map] at *)
  ((all_goals (try (with_reducible ((first|refine rE ?_|refine nE ?_);cbv;(try dsimp only [nc] at *);(try simp only [wl,nc]);(repeat' apply And.intro);all_goals (try exact wZ)))));(all_goals (try ((with_reducible rw [aC]);(try simp only [wl,nc]);(repeat' (with_reducible apply And.intro));(all_goals (try exact cZ))))))
  ·exact hat i hi ‹_›
  ·refine dE (ι:=List Nat) (μ:=fun seen=>unseen L7.length seen) (i:=seen) (seen++[i]) ⟨fun j hj=>?_,aaz hi hn⟩ ?_
   ·rcases List.mem_append.1 hj with hj|hj
    ·exact hs j hj
    ·rw [List.mem_singleton.1 hj];assumption
   ·(exact aZ)
 ·(any_goals (repeat' (with_reducible first|exact ‹False›.elim|exact nZ|refine oC ?_ ?_|refine VC.mk rfl ?_ ?_ ?_|(apply Ca.mk<;>intro _)|refine cV (fun _=>?_) fun _=>?_|((first|apply xE|apply uE);cbv;(try dsimp only [nc] at *)))))
  ((all_goals (try (with_reducible ((first|refine rE ?_|refine nE ?_);cbv;(try dsimp only [nc] at *);(try simp only [wl,nc]);(repeat' apply And.intro);all_goals (try exact wZ)))));(all_goals (try ((with_reducible rw [aC]);(try simp only [wl,nc]);(repeat' (with_reducible apply And.intro));(all_goals (try exact cZ))))))
  rename_i hall
  exact (hno fun i hi=>hs i (hall i (by rw [List.length_map];exact hi))).symm
end Go.Ai
