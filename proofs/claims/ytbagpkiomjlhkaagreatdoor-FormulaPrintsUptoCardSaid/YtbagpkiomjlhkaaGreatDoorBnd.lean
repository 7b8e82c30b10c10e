/- Chapter 17: the printer: bindings of operations. (Printed by mkq2.py.) -/
import Derived.Test.YtbagpkiomjlhkaaGreatDoorSym
import Derived.Test.YtbagpkiomjlhkaaGreatDoorLexA
set_option linter.all false
namespace Go.Ai
open Go Go.Proofs
set_option maxRecDepth 100000
set_option maxHeartbeats 4000000
def afg (op:Int):Nat→Nat→Int
 | 0,_=>9
 | n+1,j=>if (opsL j).any (fun p=>p.2 == op)=true then j else afg op n (j+1)
def aa1 (op:Int):Int:=if op=3 then 3 else if op=25 then 4 else if op=16 then 8 else afg op 10 0
theorem adX {op:Int} {n j:Nat} {Z:Int} {L:List (ByteArray×Int)} (e:L=opsL j) {i:Nat} (hi:i<L.length) (h:(L.getD i default).2=op) (hZ:afg op (n+1) j=Z):(j:Int)=Z:=by
 subst e
 have:(opsL j).any (fun p=>p.2 == op)=true:=by
  rw [List.any_eq_true]
  exact ⟨(opsL j).getD i default,by simp only [List.getD,List.getElem?_eq_getElem hi];exact List.getElem_mem hi,by simpa using h⟩
 rw [afg,if_pos this] at hZ;exact hZ
theorem ab8 {op:Int} {n j:Nat} {Z:Int} {L:List (ByteArray×Int)} (e:L=opsL j) (h:∀ i,i<L.length→(L.getD i default).2≠op) (hZ:afg op (n+1) j=Z):afg op n (j+1)=Z:=by
 subst e
 have:¬ (opsL j).any (fun p=>p.2 == op)=true:=by
  rw [List.any_eq_true]
  rintro ⟨p,hp,hq⟩
  obtain ⟨i,hi,rfl⟩:=List.getElem_of_mem hp
  exact h i hi (by simpa [List.getD,hi] using hq)
 rw [afg,if_neg this] at hZ;exact hZ
def boxQ (op:Int):AO:=.box [.int .i64 fun _=>op,.any,.any,.any,.any]
theorem aan (x:X) (e D:Nat):Af Tryz.prog 86 [encX (e+1) D .any fun _=>x] [] (.int .i64 fun _=>aa1 x.op) []:=by
 obtain ⟨L1,L2,L4,L5,L6,L7,e1,e2,e4,e5,e6,e7,h1⟩:=ab0
 obtain ⟨L0,e0⟩:∃ L:List (ByteArray×Int),L=opsL 0:=⟨_,rfl⟩
 have n0:L0=[]:=by rw [e0];rfl
 have e3:L0=opsL 3:=by rw [n0];rfl
 have e8:L0=opsL 8:=by rw [n0];rfl
 have e9:L0=opsL 9:=by rw [n0];rfl
 have z0:L0.length=0:=by rw [n0];rfl
 clear n0
 obtain ⟨Z,hZ⟩:∃ Z,Z=aa1 x.op:=⟨_,rfl⟩
 rw [← hZ]
 unfold aa1 at hZ
 generalize hF:(afg x.op)=F at *
 (apply Af.of tF mF [.tmp 2] kp86 [(8,[(0,opsB L1 L2 L4 L5 L6 L7,[])])] Tryz.func86 (fun _=>?_);(any_goals ((with_reducible refine wI ?_);cbv;(try dsimp only [nc] at *);(repeat' (with_reducible first|exact ‹False›.elim|exact nZ|refine oC ?_ ?_|refine VC.mk rfl ?_ ?_ ?_|(apply Ca.mk<;>intro _)|refine cV (fun _=>?_) fun _=>?_|((first|apply xE|apply uE);cbv;(try dsimp only [nc] at *)))))))
 any_goals ((with_reducible refine nO ?_);exact h1)
 ((all_goals (try (with_reducible ((first|refine rE ?_|refine nE ?_);cbv;(try dsimp only [nc] at *);(try simp only [wl,nc]);(repeat' apply And.intro);all_goals (try exact wZ)))));(all_goals (try ((with_reducible rw [aC]);(try simp only [wl,nc]);(repeat' (with_reducible apply And.intro));(all_goals (try exact cZ))))))
 all_goals (try first|(rw [hZ,if_pos ‹_›];done)|(rw [hZ,if_neg ‹_›,if_pos ‹_›];done)|(rw [hZ,if_neg ‹_›,if_neg ‹_›,if_pos ‹_›];done))
 rw [if_neg ‹_›,if_neg ‹_›,if_neg ‹_›] at hZ
 refine .loop (fun j:Nat=>⟨32,[(16,.int .i64 fun _=>(j:Int)),(15,opsB L1 L2 L4 L5 L6 L7),(1,.ptr 1 0)],[(1,boxQ x.op)]⟩)
  (fun j=>j≤10∧F (10 - j) j=Z) (fun j=>10 - j) 0 ⟨Nat.zero_le _,hZ.symm⟩ ?_ fun j E hj=>?_
 ·(exact aZ)
 obtain ⟨j1,j2⟩:=hj
 clear hZ
 obtain ⟨op,hop⟩:∃ op,op=x.op:=⟨_,rfl⟩
 rw [← hop] at hF ⊢
 clear hop
 rcases j with _|_|_|_|_|_|_|_|_|_|_|j
 ·show AWp _ _ _ _ _ (SS.st ⟨32,[(16,.int .i64 fun _=>0),(15,opsB L1 L2 L4 L5 L6 L7),(1,.ptr 1 0)],[(1,boxQ op)]⟩)
  rw [← hF] at j2
  apply AWp.wk tF mF [] kp86 ?_
  (any_goals ((with_reducible refine wI ?_);cbv;(try dsimp only [nc] at *);(repeat' (with_reducible first|exact ‹False›.elim|exact nZ|refine oC ?_ ?_|refine VC.mk rfl ?_ ?_ ?_|(apply Ca.mk<;>intro _)|refine cV (fun _=>?_) fun _=>?_|((first|apply xE|apply uE);cbv;(try dsimp only [nc] at *))))))
  all_goals (try (exact absurd ‹(10:Int)≤0› (by decide)))
  refine .loop (fun seen:List Nat=>⟨32,[(21,.ptr 21 0),(3,.int .i64 fun _=>0),(16,.int .i64 fun _=>0),(15,opsB L1 L2 L4 L5 L6 L7),(1,.ptr 1 0)],[(21,.it (fun _=>[]) (fun _=>.any) (fun _=>seen) false),(1,boxQ op)]⟩)
   (fun seen=>∀ i ∈ seen,i<L0.length∧(L0.getD i default).2≠op) (fun seen=>unseen L0.length seen) [] (fun i hi=>by cases hi) ?_ fun seen E hs=>?_
  ·(exact aZ)
  apply AWp.wkG tF mF 2 [] kp86 ?_
  (any_goals ((with_reducible refine ab9 ?_);cbv;(try dsimp only [nc] at *);(repeat' (with_reducible first|exact ‹False›.elim|exact nZ|refine oC ?_ ?_|refine VC.mk rfl ?_ ?_ ?_|(apply Ca.mk<;>intro _)|refine cV (fun _=>?_) fun _=>?_))))
  ·rename_i hex
   obtain ⟨i,hi,_⟩:=hex
   exact absurd hi (Nat.not_lt_zero _)
  ·(any_goals (repeat' (with_reducible first|exact ‹False›.elim|exact nZ|refine oC ?_ ?_|refine VC.mk rfl ?_ ?_ ?_|(apply Ca.mk<;>intro _)|refine cV (fun _=>?_) fun _=>?_|((first|apply xE|apply uE);cbv;(try dsimp only [nc] at *)))))
   ((all_goals (try (with_reducible ((first|refine rE ?_|refine nE ?_);cbv;(try dsimp only [nc] at *);(try simp only [wl,nc]);(repeat' apply And.intro);all_goals (try exact wZ)))));(all_goals (try ((with_reducible rw [aC]);(try simp only [wl,nc]);(repeat' (with_reducible apply And.intro));(all_goals (try exact cZ))))))
   rename_i hall
   refine dE (ι:=Nat) (μ:=fun j=>10 - j) (i:=0) 1 ⟨⟨by decide,?_⟩,by decide⟩ ?_
   ·rw [← hF]
    exact ab8 (n:=9) e0 (fun i hi=>absurd hi (by omega)) j2
   ·(exact aZ)
 ·show AWp _ _ _ _ _ (SS.st ⟨32,[(16,.int .i64 fun _=>1),(15,opsB L1 L2 L4 L5 L6 L7),(1,.ptr 1 0)],[(1,boxQ op)]⟩)
  rw [← hF] at j2
  apply AWp.wk tF mF [] kp86 ?_
  (any_goals ((with_reducible refine wI ?_);cbv;(try dsimp only [nc] at *);(repeat' (with_reducible first|exact ‹False›.elim|exact nZ|refine oC ?_ ?_|refine VC.mk rfl ?_ ?_ ?_|(apply Ca.mk<;>intro _)|refine cV (fun _=>?_) fun _=>?_|((first|apply xE|apply uE);cbv;(try dsimp only [nc] at *))))))
  all_goals (try (exact absurd ‹(10:Int)≤1› (by decide)))
  refine .loop (fun seen:List Nat=>⟨32,[(21,.ptr 21 0),(3,.int .i64 fun _=>1),(16,.int .i64 fun _=>1),(15,opsB L1 L2 L4 L5 L6 L7),(1,.ptr 1 0)],[(21,.it (fun _=>L1.map (·.1)) (fun i=>.int .i64 fun _=>(L1.getD (i ()) default).2) (fun _=>seen) false),(1,boxQ op)]⟩)
   (fun seen=>∀ i ∈ seen,i<L1.length∧(L1.getD i default).2≠op) (fun seen=>unseen L1.length seen) [] (fun i hi=>by cases hi) ?_ fun seen E hs=>?_
  ·(exact aZ)
  apply AWp.wkG tF mF 2 [] kp86 ?_
  (any_goals ((with_reducible refine ab9 ?_);cbv;(try dsimp only [nc] at *);(repeat' (with_reducible first|exact ‹False›.elim|exact nZ|refine oC ?_ ?_|refine VC.mk rfl ?_ ?_ ?_|(apply Ca.mk<;>intro _)|refine cV (fun _=>?_) fun _=>?_))))
  ·refine LpVC.pick tF mF (fun _=>[]) kp86 21 rfl ‹_› (fun i hi hn=>?_)
   (any_goals ((with_reducible refine wI ?_);cbv;(try dsimp only [nc] at *);(repeat' (with_reducible first|exact ‹False›.elim|exact nZ|refine oC ?_ ?_|refine VC.mk rfl ?_ ?_ ?_|(apply Ca.mk<;>intro _)|refine cV (fun _=>?_) fun _=>?_|((first|apply xE|apply uE);cbv;(try dsimp only [nc] at *))))))
   all_goals (try simp only [List.getLastD_concat,List.length_map] at *)
   ((all_goals (try (with_reducible ((first|refine rE ?_|refine nE ?_);cbv;(try dsimp only [nc] at *);(try simp only [wl,nc]);(repeat' apply And.intro);all_goals (try exact wZ)))));(all_goals (try ((with_reducible rw [aC]);(try simp only [wl,nc]);(repeat' (with_reducible apply And.intro));(all_goals (try exact cZ))))))
   ·exact adX e1 hi ‹_› j2
   ·refine dE (ι:=List Nat) (μ:=fun seen=>unseen L1.length seen) (i:=seen) (seen++[i]) ⟨fun j hj=>?_,aaz hi hn⟩ ?_
    ·rcases List.mem_append.1 hj with hj|hj
     ·exact hs j hj
     ·rw [List.mem_singleton.1 hj];exact ⟨hi,by assumption⟩
    ·(exact aZ)
  ·(any_goals (repeat' (with_reducible first|exact ‹False›.elim|exact nZ|refine oC ?_ ?_|refine VC.mk rfl ?_ ?_ ?_|(apply Ca.mk<;>intro _)|refine cV (fun _=>?_) fun _=>?_|((first|apply xE|apply uE);cbv;(try dsimp only [nc] at *)))))
   ((all_goals (try (with_reducible ((first|refine rE ?_|refine nE ?_);cbv;(try dsimp only [nc] at *);(try simp only [wl,nc]);(repeat' apply And.intro);all_goals (try exact wZ)))));(all_goals (try ((with_reducible rw [aC]);(try simp only [wl,nc]);(repeat' (with_reducible apply And.intro));(all_goals (try exact cZ))))))
   rename_i hall
   refine dE (ι:=Nat) (μ:=fun j=>10 - j) (i:=1) 2 ⟨⟨by decide,?_⟩,by decide⟩ ?_
   ·rw [← hF]
    exact ab8 (n:=8) e1 (fun i hi=>(hs i (hall i (by rw [List.length_map];exact hi))).2) j2
   ·(exact aZ)
 ·show AWp _ _ _ _ _ (SS.st ⟨32,[(16,.int .i64 fun _=>2),(15,opsB L1 L2 L4 L5 L6 L7),(1,.ptr 1 0)],[(1,boxQ op)]⟩)
  rw [← hF] at j2
  apply AWp.wk tF mF [] kp86 ?_
  (any_goals ((with_reducible refine wI ?_);cbv;(try dsimp only [nc] at *);(repeat' (with_reducible first|exact ‹False›.elim|exact nZ|refine oC ?_ ?_|refine VC.mk rfl ?_ ?_ ?_|(apply Ca.mk<;>intro _)|refine cV (fun _=>?_) fun _=>?_|((first|apply xE|apply uE);cbv;(try dsimp only [nc] at *))))))
  all_goals (try (exact absurd ‹(10:Int)≤2› (by decide)))
  refine .loop (fun seen:List Nat=>⟨32,[(21,.ptr 21 0),(3,.int .i64 fun _=>2),(16,.int .i64 fun _=>2),(15,opsB L1 L2 L4 L5 L6 L7),(1,.ptr 1 0)],[(21,.it (fun _=>L2.map (·.1)) (fun i=>.int .i64 fun _=>(L2.getD (i ()) default).2) (fun _=>seen) false),(1,boxQ op)]⟩)
   (fun seen=>∀ i ∈ seen,i<L2.length∧(L2.getD i default).2≠op) (fun seen=>unseen L2.length seen) [] (fun i hi=>by cases hi) ?_ fun seen E hs=>?_
  ·(exact aZ)
  apply AWp.wkG tF mF 2 [] kp86 ?_
  (any_goals ((with_reducible refine ab9 ?_);cbv;(try dsimp only [nc] at *);(repeat' (with_reducible first|exact ‹False›.elim|exact nZ|refine oC ?_ ?_|refine VC.mk rfl ?_ ?_ ?_|(apply Ca.mk<;>intro _)|refine cV (fun _=>?_) fun _=>?_))))
  ·refine LpVC.pick tF mF (fun _=>[]) kp86 21 rfl ‹_› (fun i hi hn=>?_)
   (any_goals ((with_reducible refine wI ?_);cbv;(try dsimp only [nc] at *);(repeat' (with_reducible first|exact ‹False›.elim|exact nZ|refine oC ?_ ?_|refine VC.mk rfl ?_ ?_ ?_|(apply Ca.mk<;>intro _)|refine cV (fun _=>?_) fun _=>?_|((first|apply xE|apply uE);cbv;(try dsimp only [nc] at *))))))
   all_goals (try simp only [List.getLastD_concat,List.length_map] at *)
   ((all_goals (try (with_reducible ((first|refine rE ?_|refine nE ?_);cbv;(try dsimp only [nc] at *);(try simp only [wl,nc]);(repeat' apply And.intro);all_goals (try exact wZ)))));(all_goals (try ((with_reducible rw [aC]);(try simp only [wl,nc]);(repeat' (with_reducible apply And.intro));(all_goals (try exact cZ))))))
   ·exact adX e2 hi ‹_› j2
   ·refine dE (ι:=List Nat) (μ:=fun seen=>unseen L2.length seen) (i:=seen) (seen++[i]) ⟨fun j hj=>?_,aaz hi hn⟩ ?_
    ·rcases List.mem_append.1 hj with hj|hj
     ·exact hs j hj
     ·rw [List.mem_singleton.1 hj];exact ⟨hi,by assumption⟩
    ·(exact aZ)
  ·(any_goals (repeat' (with_reducible first|exact ‹False›.elim|exact nZ|refine oC ?_ ?_|refine VC.mk rfl ?_ ?_ ?_|(apply Ca.mk<;>intro _)|refine cV (fun _=>?_) fun _=>?_|((first|apply xE|apply uE);cbv;(try dsimp only [nc] at *)))))
   ((all_goals (try (with_reducible ((first|refine rE ?_|refine nE ?_);cbv;(try dsimp only [nc] at *);(try simp only [wl,nc]);(repeat' apply And.intro);all_goals (try exact wZ)))));(all_goals (try ((with_reducible rw [aC]);(try simp only [wl,nc]);(repeat' (with_reducible apply And.intro));(all_goals (try exact cZ))))))
   rename_i hall
   refine dE (ι:=Nat) (μ:=fun j=>10 - j) (i:=2) 3 ⟨⟨by decide,?_⟩,by decide⟩ ?_
   ·rw [← hF]
    exact ab8 (n:=7) e2 (fun i hi=>(hs i (hall i (by rw [List.length_map];exact hi))).2) j2
   ·(exact aZ)
 ·show AWp _ _ _ _ _ (SS.st ⟨32,[(16,.int .i64 fun _=>3),(15,opsB L1 L2 L4 L5 L6 L7),(1,.ptr 1 0)],[(1,boxQ op)]⟩)
  rw [← hF] at j2
  apply AWp.wk tF mF [] kp86 ?_
  (any_goals ((with_reducible refine wI ?_);cbv;(try dsimp only [nc] at *);(repeat' (with_reducible first|exact ‹False›.elim|exact nZ|refine oC ?_ ?_|refine VC.mk rfl ?_ ?_ ?_|(apply Ca.mk<;>intro _)|refine cV (fun _=>?_) fun _=>?_|((first|apply xE|apply uE);cbv;(try dsimp only [nc] at *))))))
  all_goals (try (exact absurd ‹(10:Int)≤3› (by decide)))
  refine .loop (fun seen:List Nat=>⟨32,[(21,.ptr 21 0),(3,.int .i64 fun _=>3),(16,.int .i64 fun _=>3),(15,opsB L1 L2 L4 L5 L6 L7),(1,.ptr 1 0)],[(21,.it (fun _=>[]) (fun _=>.any) (fun _=>seen) false),(1,boxQ op)]⟩)
   (fun seen=>∀ i ∈ seen,i<L0.length∧(L0.getD i default).2≠op) (fun seen=>unseen L0.length seen) [] (fun i hi=>by cases hi) ?_ fun seen E hs=>?_
  ·(exact aZ)
  apply AWp.wkG tF mF 2 [] kp86 ?_
  (any_goals ((with_reducible refine ab9 ?_);cbv;(try dsimp only [nc] at *);(repeat' (with_reducible first|exact ‹False›.elim|exact nZ|refine oC ?_ ?_|refine VC.mk rfl ?_ ?_ ?_|(apply Ca.mk<;>intro _)|refine cV (fun _=>?_) fun _=>?_))))
  ·rename_i hex
   obtain ⟨i,hi,_⟩:=hex
   exact absurd hi (Nat.not_lt_zero _)
  ·(any_goals (repeat' (with_reducible first|exact ‹False›.elim|exact nZ|refine oC ?_ ?_|refine VC.mk rfl ?_ ?_ ?_|(apply Ca.mk<;>intro _)|refine cV (fun _=>?_) fun _=>?_|((first|apply xE|apply uE);cbv;(try dsimp only [nc] at *)))))
   ((all_goals (try (with_reducible ((first|refine rE ?_|refine nE ?_);cbv;(try dsimp only [nc] at *);(try simp only [wl,nc]);(repeat' apply And.intro);all_goals (try exact wZ)))));(all_goals (try ((with_reducible rw [aC]);(try simp only [wl,nc]);(repeat' (with_reducible apply And.intro));(all_goals (try exact cZ))))))
   rename_i hall
   refine dE (ι:=Nat) (μ:=fun j=>10 - j) (i:=3) 4 ⟨⟨by decide,?_⟩,by decide⟩ ?_
   ·rw [← hF]
    exact ab8 (n:=6) e3 (fun i hi=>absurd hi (by omega)) j2
   ·(exact aZ)
 ·show AWp _ _ _ _ _ (SS.st ⟨32,[(16,.int .i64 fun _=>4),(15,opsB L1 L2 L4 L5 L6 L7),(1,.ptr 1 0)],[(1,boxQ op)]⟩)
  rw [← hF] at j2
  apply AWp.wk tF mF [] kp86 ?_
  (any_goals ((with_reducible refine wI ?_);cbv;(try dsimp only [nc] at *);(repeat' (with_reducible first|exact ‹False›.elim|exact nZ|refine oC ?_ ?_|refine VC.mk rfl ?_ ?_ ?_|(apply Ca.mk<;>intro _)|refine cV (fun _=>?_) fun _=>?_|((first|apply xE|apply uE);cbv;(try dsimp only [nc] at *))))))
  all_goals (try (exact absurd ‹(10:Int)≤4› (by decide)))
  refine .loop (fun seen:List Nat=>⟨32,[(21,.ptr 21 0),(3,.int .i64 fun _=>4),(16,.int .i64 fun _=>4),(15,opsB L1 L2 L4 L5 L6 L7),(1,.ptr 1 0)],[(21,.it (fun _=>L4.map (·.1)) (fun i=>.int .i64 fun _=>(L4.getD (i ()) default).2) (fun _=>seen) false),(1,boxQ op)]⟩)
   (fun seen=>∀ i ∈ seen,i<L4.length∧(L4.getD i default).2≠op) (fun seen=>unseen L4.length seen) [] (fun i hi=>by cases hi) ?_ fun seen E hs=>?_
  ·(exact aZ)
  apply AWp.wkG tF mF 2 [] kp86 ?_
  (any_goals ((with_reducible refine ab9 ?_);cbv;(try dsimp only [nc] at *);(repeat' (with_reducible first|exact ‹False›.elim|exact nZ|refine oC ?_ ?_|refine VC.mk rfl ?_ ?_ ?_|(apply Ca.mk<;>intro _)|refine cV (fun _=>?_) fun _=>?_))))
  ·refine LpVC.pick tF mF (fun _=>[]) kp86 21 rfl ‹_› (fun i hi hn=>?_)
   (any_goals ((with_reducible refine wI ?_);cbv;(try dsimp only [nc] at *);(repeat' (with_reducible first|exact ‹False›.elim|exact nZ|refine oC ?_ ?_|refine VC.mk rfl ?_ ?_ ?_|(apply Ca.mk<;>intro _)|refine cV (fun _=>?_) fun _=>?_|((first|apply xE|apply uE);cbv;(try dsimp only [nc] at *))))))
   all_goals (try simp only [List.getLastD_concat,List.length_map] at *)
   ((all_goals (try (with_reducible ((first|refine rE ?_|refine nE ?_);cbv;(try dsimp only [nc] at *);(try simp only [wl,nc]);(repeat' apply And.intro);all_goals (try exact wZ)))));(all_goals (try ((with_reducible rw [aC]);(try simp only [wl,nc]);(repeat' (with_reducible apply And.intro));(all_goals (try exact cZ))))))
   ·exact adX e4 hi ‹_› j2
   ·refine dE (ι:=List Nat) (μ:=fun seen=>unseen L4.length seen) (i:=seen) (seen++[i]) ⟨fun j hj=>?_,aaz hi hn⟩ ?_
    ·rcases List.mem_append.1 hj with hj|hj
     ·exact hs j hj
     ·rw [List.mem_singleton.1 hj];exact ⟨hi,by assumption⟩
    ·(exact aZ)
  ·(any_goals (repeat' (with_reducible first|exact ‹False›.elim|exact nZ|refine oC ?_ ?_|refine VC.mk rfl ?_ ?_ ?_|(apply Ca.mk<;>intro _)|refine cV (fun _=>?_) fun _=>?_|((first|apply xE|apply uE);cbv;(try dsimp only [nc] at *)))))
   ((all_goals (try (with_reducible ((first|refine rE ?_|refine nE ?_);cbv;(try dsimp only [nc] at *);(try simp only [wl,nc]);(repeat' apply And.intro);all_goals (try exact wZ)))));(all_goals (try ((with_reducible rw [aC]);(try simp only [wl,nc]);(repeat' (with_reducible apply And.intro));(all_goals (try exact cZ))))))
   rename_i hall
   refine dE (ι:=Nat) (μ:=fun j=>10 - j) (i:=4) 5 ⟨⟨by decide,?_⟩,by decide⟩ ?_
   ·rw [← hF]
    exact ab8 (n:=5) e4 (fun i hi=>(hs i (hall i (by rw [List.length_map];exact hi))).2) j2
   ·(exact aZ)
 ·show AWp _ _ _ _ _ (SS.st ⟨32,[(16,.int .i64 fun _=>5),(15,opsB L1 L2 L4 L5 L6 L7),(1,.ptr 1 0)],[(1,boxQ op)]⟩)
  rw [← hF] at j2
  apply AWp.wk tF mF [] kp86 ?_
  (any_goals ((with_reducible refine wI ?_);cbv;(try dsimp only [nc] at *);(repeat' (with_reducible first|exact ‹False›.elim|exact nZ|refine oC ?_ ?_|refine VC.mk rfl ?_ ?_ ?_|(apply Ca.mk<;>intro _)|refine cV (fun _=>?_) fun _=>?_|((first|apply xE|apply uE);cbv;(try dsimp only [nc] at *))))))
  all_goals (try (exact absurd ‹(10:Int)≤5› (by decide)))
  refine .loop (fun seen:List Nat=>⟨32,[(21,.ptr 21 0),(3,.int .i64 fun _=>5),(16,.int .i64 fun _=>5),(15,opsB L1 L2 L4 L5 L6 L7),(1,.ptr 1 0)],[(21,.it (fun _=>L5.map (·.1)) (fun i=>.int .i64 fun _=>(L5.getD (i ()) default).2) (fun _=>seen) false),(1,boxQ op)]⟩)
   (fun seen=>∀ i ∈ seen,i<L5.length∧(L5.getD i default).2≠op) (fun seen=>unseen L5.length seen) [] (fun i hi=>by cases hi) ?_ fun seen E hs=>?_
  ·(exact aZ)
  apply AWp.wkG tF mF 2 [] kp86 ?_
  (any_goals ((with_reducible refine ab9 ?_);cbv;(try dsimp only [nc] at *);(repeat' (with_reducible first|exact ‹False›.elim|exact nZ|refine oC ?_ ?_|refine VC.mk rfl ?_ ?_ ?_|(apply Ca.mk<;>intro _)|refine cV (fun _=>?_) fun _=>?_))))
  ·refine LpVC.pick tF mF (fun _=>[]) kp86 21 rfl ‹_› (fun i hi hn=>?_)
   (any_goals ((with_reducible refine wI ?_);cbv;(try dsimp only [nc] at *);(repeat' (with_reducible first|exact ‹False›.elim|exact nZ|refine oC ?_ ?_|refine VC.mk rfl ?_ ?_ ?_|(apply Ca.mk<;>intro _)|refine cV (fun _=>?_) fun _=>?_|((first|apply xE|apply uE);cbv;(try dsimp only [nc] at *))))))
   all_goals (try simp only [List.getLastD_concat,List.length_map] at *)
   ((all_goals (try (with_reducible ((first|refine rE ?_|refine nE ?_);cbv;(try dsimp only [nc] at *);(try simp only [wl,nc]);(repeat' apply And.intro);all_goals (try exact wZ)))));(all_goals (try ((with_reducible rw [aC]);(try simp only [wl,nc]);(repeat' (with_reducible apply And.intro));(all_goals (try exact cZ))))))
   ·exact adX e5 hi ‹_› j2
   ·refine dE (ι:=List Nat) (μ:=fun seen=>unseen L5.length seen) (i:=seen) (seen++[i]) ⟨fun j hj=>?_,aaz hi hn⟩ ?_
    ·rcases List.mem_append.1 hj with hj|hj
     ·exact hs j hj
     ·rw [List.mem_singleton.1 hj];exact ⟨hi,by assumption⟩
    ·(exact aZ)
  ·(any_goals (repeat' (with_reducible first|exact ‹False›.elim|exact nZ|refine oC ?_ ?_|refine VC.mk rfl ?_ ?_ ?_|(apply Ca.mk<;>intro _)|refine cV (fun _=>?_) fun _=>?_|((first|apply xE|apply uE);cbv;(try dsimp only [nc] at *)))))
   ((all_goals (try (with_reducible ((first|refine rE ?_|refine nE ?_);cbv;(try dsimp only [nc] at *);(try simp only [wl,nc]);(repeat' apply And.intro);all_goals (try exact wZ)))));(all_goals (try ((with_reducible rw [aC]);(try simp only [wl,nc]);(repeat' (with_reducible apply And.intro));(all_goals (try exact cZ))))))
   rename_i hall
   refine dE (ι:=Nat) (μ:=fun j=>10 - j) (i:=5) 6 ⟨⟨by decide,?_⟩,by decide⟩ ?_
   ·rw [← hF]
    exact ab8 (n:=4) e5 (fun i hi=>(hs i (hall i (by rw [List.length_map];exact hi))).2) j2
   ·(exact aZ)
 ·show AWp _ _ _ _ _ (SS.st ⟨32,[(16,.int .i64 fun _=>6),(15,opsB L1 L2 L4 L5 L6 L7),(1,.ptr 1 0)],[(1,boxQ op)]⟩)
  rw [← hF] at j2
  apply AWp.wk tF mF [] kp86 ?_
  (any_goals ((with_reducible refine wI ?_);cbv;(try dsimp only [nc] at *);(repeat' (with_reducible first|exact ‹False›.elim|exact nZ|refine oC ?_ ?_|refine VC.mk rfl ?_ ?_ ?_|(apply Ca.mk<;>intro _)|refine cV (fun _=>?_) fun _=>?_|((first|apply xE|apply uE);cbv;(try dsimp only [nc] at *))))))
  all_goals (try (exact absurd ‹(10:Int)≤6› (by decide)))
  refine .loop (fun seen:List Nat=>⟨32,[(21,.ptr 21 0),(3,.int .i64 fun _=>6),(16,.int .i64 fun _=>6),(15,opsB L1 L2 L4 L5 L6 L7),(1,.ptr 1 0)],[(21,.it (fun _=>L6.map (·.1)) (fun i=>.int .i64 fun _=>(L6.getD (i ()) default).2) (fun _=>seen) false),(1,boxQ op)]⟩)
   (fun seen=>∀ i ∈ seen,i<L6.length∧(L6.getD i default).2≠op) (fun seen=>unseen L6.length seen) [] (fun i hi=>by cases hi) ?_ fun seen E hs=>?_
  ·(exact aZ)
  apply AWp.wkG tF mF 2 [] kp86 ?_
  (any_goals ((with_reducible refine ab9 ?_);cbv;(try dsimp only [nc] at *);(repeat' (with_reducible first|exact ‹False›.elim|exact nZ|refine oC ?_ ?_|refine VC.mk rfl ?_ ?_ ?_|(apply Ca.mk<;>intro _)|refine cV (fun _=>?_) fun _=>?_))))
  ·refine LpVC.pick tF mF (fun _=>[]) kp86 21 rfl ‹_› (fun i hi hn=>?_)
   (any_goals ((with_reducible refine wI ?_);cbv;(try dsimp only [nc] at *);(repeat' (with_reducible first|exact ‹False›.elim|exact nZ|refine oC ?_ ?_|refine VC.mk rfl ?_ ?_ ?_|(apply Ca.mk<;>intro _)|refine cV (fun _=>?_) fun _=>?_|((first|apply xE|apply uE);cbv;(try dsimp only [nc] at *))))))
   all_goals (try simp only [List.getLastD_concat,List.length_map] at *)
   ((all_goals (try (with_reducible ((first|refine rE ?_|refine nE ?_);cbv;(try dsimp only [nc] at *);(try simp only [wl,nc]);(repeat' apply And.intro);all_goals (try exact wZ)))));(all_goals (try ((with_reducible rw [aC]);(try simp only [wl,nc]);(repeat' (with_reducible apply And.intro));(all_goals (try exact cZ))))))
   ·exact adX e6 hi ‹_› j2
   ·refine dE (ι:=List Nat) (μ:=fun seen=>unseen L6.length seen) (i:=seen) (seen++[i]) ⟨fun j hj=>?_,aaz hi hn⟩ ?_
    ·rcases List.mem_append.1 hj with hj|hj
     ·exact hs j hj
     ·rw [List.mem_singleton.1 hj];exact ⟨hi,by assumption⟩
    ·(exact aZ)
  ·(any_goals (repeat' (with_reducible first|exact ‹False›.elim|exact nZ|refine oC ?_ ?_|refine VC.mk rfl ?_ ?_ ?_|(apply Ca.mk<;>intro _)|refine cV (fun _=>?_) fun _=>?_|((first|apply xE|apply uE);cbv;(try dsimp only [nc] at *)))))
   ((all_goals (try (with_reducible ((first|refine rE ?_|refine nE ?_);cbv;(try dsimp only [nc] at *);(try simp only [wl,nc]);(repeat' apply And.intro);all_goals (try exact wZ)))));(all_goals (try ((with_reducible rw [aC]);(try simp only [wl,nc]);(repeat' (with_reducible apply And.intro));(all_goals (try exact cZ))))))
   rename_i hall
   refine dE (ι:=Nat) (μ:=fun j=>10 - j) (i:=6) 7 ⟨⟨by decide,?_⟩,by decide⟩ ?_
   ·rw [← hF]
    exact ab8 (n:=3) e6 (fun i hi=>(hs i (hall i (by rw [List.length_map];exact hi))).2) j2
   ·(exact aZ)
 ·show AWp _ _ _ _ _ (SS.st ⟨32,[(16,.int .i64 fun _=>7),(15,opsB L1 L2 L4 L5 L6 L7),(1,.ptr 1 0)],[(1,boxQ op)]⟩)
  rw [← hF] at j2
  apply AWp.wk tF mF [] kp86 ?_
  (any_goals ((with_reducible refine wI ?_);cbv;(try dsimp only [nc] at *);(repeat' (with_reducible first|exact ‹False›.elim|exact nZ|refine oC ?_ ?_|refine VC.mk rfl ?_ ?_ ?_|(apply Ca.mk<;>intro _)|refine cV (fun _=>?_) fun _=>?_|((first|apply xE|apply uE);cbv;(try dsimp only [nc] at *))))))
  all_goals (try (exact absurd ‹(10:Int)≤7› (by decide)))
  refine .loop (fun seen:List Nat=>⟨32,[(21,.ptr 21 0),(3,.int .i64 fun _=>7),(16,.int .i64 fun _=>7),(15,opsB L1 L2 L4 L5 L6 L7),(1,.ptr 1 0)],[(21,.it (fun _=>L7.map (·.1)) (fun i=>.int .i64 fun _=>(L7.getD (i ()) default).2) (fun _=>seen) false),(1,boxQ op)]⟩)
   (fun seen=>∀ i ∈ seen,i<L7.length∧(L7.getD i default).2≠op) (fun seen=>unseen L7.length seen) [] (fun i hi=>by cases hi) ?_ fun seen E hs=>?_
  ·(exact aZ)
  apply AWp.wkG tF mF 2 [] kp86 ?_
  (any_goals ((with_reducible refine ab9 ?_);cbv;(try dsimp only [nc] at *);(repeat' (with_reducible first|exact ‹False›.elim|exact nZ|refine oC ?_ ?_|refine VC.mk rfl ?_ ?_ ?_|(apply Ca.mk<;>intro _)|refine cV (fun _=>?_) fun _=>?_))))
  ·refine LpVC.pick tF mF (fun _=>[]) kp86 21 rfl ‹_› (fun i hi hn=>?_)
   (any_goals ((with_reducible refine wI ?_);cbv;(try dsimp only [nc] at *);(repeat' (with_reducible first|exact ‹False›.elim|exact nZ|refine oC ?_ ?_|refine VC.mk rfl ?_ ?_ ?_|(apply Ca.mk<;>intro _)|refine cV (fun _=>?_) fun _=>?_|((first|apply xE|apply uE);cbv;(try dsimp only [nc] at *))))))
   all_goals (try simp only [List.getLastD_concat,List.length_map] at *)
   ((all_goals (try (with_reducible ((first|refine rE ?_|refine nE ?_);cbv;(try dsimp only [nc] at *);(try simp only [wl,nc]);(repeat' apply And.intro);all_goals (try exact wZ)))));(all_goals (try ((with_reducible rw [aC]);(try simp only [wl,nc]);(repeat' (with_reducible apply And.intro));(all_goals (try exact cZ))))))
   ·exact adX e7 hi ‹_› j2
   ·refine dE (ι:=List Nat) (μ:=fun seen=>unseen L7.length seen) (i:=seen) (seen++[i]) ⟨fun j hj=>?_,aaz hi hn⟩ ?_
    ·rcases List.mem_append.1 hj with hj|hj
     ·exact hs j hj
     ·rw [List.mem_singleton.1 hj];exact ⟨hi,by assumption⟩
    ·(exact aZ)
  ·(any_goals (repeat' (with_reducible first|exact ‹False›.elim|exact nZ|refine oC ?_ ?_|refine VC.mk rfl ?_ ?_ ?_|(apply Ca.mk<;>intro _)|refine cV (fun _=>?_) fun _=>?_|((first|apply xE|apply uE);cbv;(try dsimp only [nc] at *)))))
   ((all_goals (try (with_reducible ((first|refine rE ?_|refine nE ?_);cbv;(try dsimp only [nc] at *);(try simp only [wl,nc]);(repeat' apply And.intro);all_goals (try exact wZ)))));(all_goals (try ((with_reducible rw [aC]);(try simp only [wl,nc]);(repeat' (with_reducible apply And.intro));(all_goals (try exact cZ))))))
   rename_i hall
   refine dE (ι:=Nat) (μ:=fun j=>10 - j) (i:=7) 8 ⟨⟨by decide,?_⟩,by decide⟩ ?_
   ·rw [← hF]
    exact ab8 (n:=2) e7 (fun i hi=>(hs i (hall i (by rw [List.length_map];exact hi))).2) j2
   ·(exact aZ)
 ·show AWp _ _ _ _ _ (SS.st ⟨32,[(16,.int .i64 fun _=>8),(15,opsB L1 L2 L4 L5 L6 L7),(1,.ptr 1 0)],[(1,boxQ op)]⟩)
  rw [← hF] at j2
  apply AWp.wk tF mF [] kp86 ?_
  (any_goals ((with_reducible refine wI ?_);cbv;(try dsimp only [nc] at *);(repeat' (with_reducible first|exact ‹False›.elim|exact nZ|refine oC ?_ ?_|refine VC.mk rfl ?_ ?_ ?_|(apply Ca.mk<;>intro _)|refine cV (fun _=>?_) fun _=>?_|((first|apply xE|apply uE);cbv;(try dsimp only [nc] at *))))))
  all_goals (try (exact absurd ‹(10:Int)≤8› (by decide)))
  refine .loop (fun seen:List Nat=>⟨32,[(21,.ptr 21 0),(3,.int .i64 fun _=>8),(16,.int .i64 fun _=>8),(15,opsB L1 L2 L4 L5 L6 L7),(1,.ptr 1 0)],[(21,.it (fun _=>[]) (fun _=>.any) (fun _=>seen) false),(1,boxQ op)]⟩)
   (fun seen=>∀ i ∈ seen,i<L0.length∧(L0.getD i default).2≠op) (fun seen=>unseen L0.length seen) [] (fun i hi=>by cases hi) ?_ fun seen E hs=>?_
  ·(exact aZ)
  apply AWp.wkG tF mF 2 [] kp86 ?_
  (any_goals ((with_reducible refine ab9 ?_);cbv;(try dsimp only [nc] at *);(repeat' (with_reducible first|exact ‹False›.elim|exact nZ|refine oC ?_ ?_|refine VC.mk rfl ?_ ?_ ?_|(apply Ca.mk<;>intro _)|refine cV (fun _=>?_) fun _=>?_))))
  ·rename_i hex
   obtain ⟨i,hi,_⟩:=hex
   exact absurd hi (Nat.not_lt_zero _)
  ·(any_goals (repeat' (with_reducible first|exact ‹False›.elim|exact nZ|refine oC ?_ ?_|refine VC.mk rfl ?_ ?_ ?_|(apply Ca.mk<;>intro _)|refine cV (fun _=>?_) fun _=>?_|((first|apply xE|apply uE);cbv;(try dsimp only [nc] at *)))))
   ((all_goals (try (with_reducible ((first|refine rE ?_|refine nE ?_);cbv;(try dsimp only [nc] at *);(try simp only [wl,nc]);(repeat' apply And.intro);all_goals (try exact wZ)))));(all_goals (try ((with_reducible rw [aC]);(try simp only [wl,nc]);(repeat' (with_reducible apply And.intro));(all_goals (try exact cZ))))))
   rename_i hall
   refine dE (ι:=Nat) (μ:=fun j=>10 - j) (i:=8) 9 ⟨⟨by decide,?_⟩,by decide⟩ ?_
   ·rw [← hF]
    exact ab8 (n:=1) e8 (fun i hi=>absurd hi (by omega)) j2
   ·(exact aZ)
 ·show AWp _ _ _ _ _ (SS.st ⟨32,[(16,.int .i64 fun _=>9),(15,opsB L1 L2 L4 L5 L6 L7),(1,.ptr 1 0)],[(1,boxQ op)]⟩)
  rw [← hF] at j2
  apply AWp.wk tF mF [] kp86 ?_
  (any_goals ((with_reducible refine wI ?_);cbv;(try dsimp only [nc] at *);(repeat' (with_reducible first|exact ‹False›.elim|exact nZ|refine oC ?_ ?_|refine VC.mk rfl ?_ ?_ ?_|(apply Ca.mk<;>intro _)|refine cV (fun _=>?_) fun _=>?_|((first|apply xE|apply uE);cbv;(try dsimp only [nc] at *))))))
  all_goals (try (exact absurd ‹(10:Int)≤9› (by decide)))
  refine .loop (fun seen:List Nat=>⟨32,[(21,.ptr 21 0),(3,.int .i64 fun _=>9),(16,.int .i64 fun _=>9),(15,opsB L1 L2 L4 L5 L6 L7),(1,.ptr 1 0)],[(21,.it (fun _=>[]) (fun _=>.any) (fun _=>seen) false),(1,boxQ op)]⟩)
   (fun seen=>∀ i ∈ seen,i<L0.length∧(L0.getD i default).2≠op) (fun seen=>unseen L0.length seen) [] (fun i hi=>by cases hi) ?_ fun seen E hs=>?_
  ·(exact aZ)
  apply AWp.wkG tF mF 2 [] kp86 ?_
  (any_goals ((with_reducible refine ab9 ?_);cbv;(try dsimp only [nc] at *);(repeat' (with_reducible first|exact ‹False›.elim|exact nZ|refine oC ?_ ?_|refine VC.mk rfl ?_ ?_ ?_|(apply Ca.mk<;>intro _)|refine cV (fun _=>?_) fun _=>?_))))
  ·rename_i hex
   obtain ⟨i,hi,_⟩:=hex
   exact absurd hi (Nat.not_lt_zero _)
  ·(any_goals (repeat' (with_reducible first|exact ‹False›.elim|exact nZ|refine oC ?_ ?_|refine VC.mk rfl ?_ ?_ ?_|(apply Ca.mk<;>intro _)|refine cV (fun _=>?_) fun _=>?_|((first|apply xE|apply uE);cbv;(try dsimp only [nc] at *)))))
   ((all_goals (try (with_reducible ((first|refine rE ?_|refine nE ?_);cbv;(try dsimp only [nc] at *);(try simp only [wl,nc]);(repeat' apply And.intro);all_goals (try exact wZ)))));(all_goals (try ((with_reducible rw [aC]);(try simp only [wl,nc]);(repeat' (with_reducible apply And.intro));(all_goals (try exact cZ))))))
   rename_i hall
   refine dE (ι:=Nat) (μ:=fun j=>10 - j) (i:=9) 10 ⟨⟨by decide,?_⟩,by decide⟩ ?_
   ·rw [← hF]
    exact ab8 (n:=0) e9 (fun i hi=>absurd hi (by omega)) j2
   ·(exact aZ)
 ·show AWp _ _ _ _ _ (SS.st ⟨32,[(16,.int .i64 fun _=>10),(15,opsB L1 L2 L4 L5 L6 L7),(1,.ptr 1 0)],[(1,boxQ op)]⟩)
  rw [← hF] at j2
  apply AWp.wk tF mF [] kp86 ?_
  (any_goals ((with_reducible refine wI ?_);cbv;(try dsimp only [nc] at *);(repeat' (with_reducible first|exact ‹False›.elim|exact nZ|refine oC ?_ ?_|refine VC.mk rfl ?_ ?_ ?_|(apply Ca.mk<;>intro _)|refine cV (fun _=>?_) fun _=>?_|((first|apply xE|apply uE);cbv;(try dsimp only [nc] at *))))))
  all_goals (try (exact absurd ‹(10:Int)<10› (by decide)))
  ((all_goals (try (with_reducible ((first|refine rE ?_|refine nE ?_);cbv;(try dsimp only [nc] at *);(try simp only [wl,nc]);(repeat' apply And.intro);all_goals (try exact wZ)))));(all_goals (try ((with_reducible rw [aC]);(try simp only [wl,nc]);(repeat' (with_reducible apply And.intro));(all_goals (try exact cZ))))))
  exact j2
 ·omega
end Go.Ai
