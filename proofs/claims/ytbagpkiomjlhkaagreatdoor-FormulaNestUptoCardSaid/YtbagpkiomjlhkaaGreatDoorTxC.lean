/- Chapter 17: the printer: calls. -/
import Derived.Test.YtbagpkiomjlhkaaGreatDoorTxB
import Derived.Test.YtbagpkiomjlhkaaGreatDoorDec
set_option linter.all false
namespace Go.Ai
open Go Go.Proofs
set_option maxRecDepth 100000
set_option maxHeartbeats 4000000
theorem callB_at {x:X} {I:ByteArray} {i:Nat} (hi:i<callsL.length) (h:(callsL.getD i default).2.1=x.op) :
    (callsL.map (·.1)).getD i ⟨#[]⟩++⟨#[40]⟩++I++⟨#[41]⟩=(callsL.find? fun p=>p.2.1 == x.op).elim ⟨#[]⟩ fun p=>p.1++⟨#[40]⟩++I++⟨#[41]⟩:=by
  have key:∀ i,i<callsL.length→∃ p,(callsL.find? fun p=>p.2.1 == (callsL.getD i default).2.1)=some p∧p.1=(callsL.map (·.1)).getD i ⟨#[]⟩:=by
    have:=(by decide:∀ i,i<callsL.length→(callsL.find? fun p=>p.2.1 == (callsL.getD i default).2.1)=some (callsL.getD i default)∧(callsL.getD i default).1=(callsL.map (·.1)).getD i ⟨#[]⟩)
    exact fun i hi=>⟨_,(this i hi).1,(this i hi).2⟩
  obtain ⟨p,h1,h2⟩:=key i hi
  rw [h] at h1
  rw [h1,← h2];rfl
theorem callB_none {x:X} {I:ByteArray} (h:∀ i,i<callsL.length→(callsL.getD i default).2.1≠x.op):((callsL.find? fun p=>p.2.1 == x.op).elim ⟨#[]⟩ fun p=>p.1++⟨#[40]⟩++I++⟨#[41]⟩)=⟨#[]⟩:=by
  have:callsL.find? (fun p=>p.2.1 == x.op)=none:=by
    rw [List.find?_eq_none]
    intro p hp
    obtain ⟨i,hi,rfl⟩:=List.getElem_of_mem hp
    have:=h i hi
    simpa [List.getD,hi] using this
  rw [this];rfl
theorem calls_named:∃ L,L=callsL∧Af Tryz.prog 90 [] [] (cMap L) []:=⟨_,rfl,calls_ok⟩
theorem text_call (lit:V→ByteArray) (T:X→Int→ByteArray) (e D:Nat) (x:X) (need:Int) (hT:∀ i,i<x.args.length→ArgT T e D (x.args.getD i default)) (hm:x.args.length≤1073741824) (ht:x.text.size≤1099511627776)
    (hb:need≤bindV x.op) (e1:bindV x.op=9) (o1:¬x.op=1) (o2:¬x.op=2) (o3:¬x.op=3) (o16:¬x.op=16) (o25:¬x.op=25) (hn:0≤x.int∧x.int≤1000)
    (hs:(joinB (x.args.map fun y=>T y 0) commaB).size≤1099511627776) (hj:∀ (ts:List ByteArray) (t:ByteArray),t ∈ ts→t.size≤(joinB ts commaB).size) :
    Af Tryz.prog 40 [encX (e+1) (D+1) .any fun _=>x,.int .i64 fun _=>need] [] (.str fun _=>stepB lit T x) []:=by
  have h1:=binding_ok x e (D+1)
  have h2:=list_ok (fun y=>T y 0) e D x.args hm (fun i hi=>by
    refine hT i hi 0 (by decide) (by decide) ?_
    have:=hj (x.args.map fun y=>T y 0) (T (x.args.getD i default) 0) (List.mem_map.2 ⟨_,by simp [List.getD,hi],rfl⟩)
    omega) (by omega)
  have h3:=Itoa_ok x.int (by omega) (by omega)
  have hi:=itoaB_size x.int (by omega) (by omega)
  obtain ⟨L,eL,h4⟩:=calls_named
  unfold stepB
  rw [if_neg o3,if_neg o16,if_neg o25,e1,if_neg (by decide),if_neg (by decide),if_neg o1,if_neg o2]
  rw [e1] at h1 hb
  unfold callB innerV
  obtain ⟨I,hI⟩:∃ I,I=(if x.op=15∨(x.op=26∧x.int≠0) then (if 0<x.args.length then joinB (x.args.map fun y=>T y 0) commaB else x.text)++(⟨#[44,32]⟩++itoaB x.int) else if 0<x.args.length then joinB (x.args.map fun y=>T y 0) commaB else x.text):=⟨_,rfl⟩
  rw [← hI]
  have hat:=fun i=>callB_at (x:=x) (I:=I) (i:=i)
  have hno:=callB_none (x:=x) (I:=I)
  rw [← eL] at hat hno ⊢
  have hsz:∀ i,i<L.length→((L.map (fun p:ByteArray×Int×Int=>p.1)).getD i (⟨#[]⟩:ByteArray)).size≤100:=by rw [eL];decide
  generalize itoaB x.int=it at *
  generalize joinB (x.args.map fun y=>T y 0) commaB=js at *
  generalize ((L.find? fun p=>p.2.1 == x.op).elim (⟨#[]⟩:ByteArray) fun p=>p.1++⟨#[40]⟩++I++⟨#[41]⟩)=z at *
  have hz:I.size≤1099511627876:=by
    rw [hI]
    repeat' split
    all_goals (try simp only [ByteArray.size_append,bszL,List.length_cons,List.length_nil])
    all_goals omega
  unfold slcX at h2
  clear e1 hT hj eL
  by_cases c1:0<x.args.length<;>by_cases c2:x.op=15∨(x.op=26∧x.int≠0)
  all_goals (simp only [c1,c2,if_true,if_false] at hI)
  all_goals ((apply Af.of tF mF [.tmp 4] kp40 [(1,[(1,.int .i64 fun _=>9,[])]),(3,[(1,.any,[])]),(5,[(5,.any,[])]),(7,[(4,.any,[])]),(13,[(4,.any,[]),(9,.any,[])]),(15,[(4,.any,[]),(9,.any,[]),(16,.any,[])]),(17,[(5,.any,[]),(10,.any,[]),(19,.any,[])]),(19,[(4,.any,[])]),(25,[(2,.str fun _=>js,[])]),(27,[(3,.str fun _=>it,[])]),(28,[(0,cMap L,[])])] Tryz.func40 (fun _=>?_);(any_goals ((with_reducible refine wI ?_);cbv;(try dsimp only [nc] at *);(repeat' (with_reducible first|exact aO|exact oN|refine oC ?_ ?_|refine VC.mk rfl ?_ ?_ ?_|(apply Ca.mk<;>intro _)|(apply Cv.mk<;>intro zq<;>(try simp only [nc,cl] at zq)<;>(try simp only [bl,dl] at zq)<;>(revert zq;intro _))|((first|apply xE|apply uE);cbv;(try dsimp only [nc] at *))))))))
  all_goals (try (exact absurd ‹(9:Int)<need› (by omega)))
  all_goals (try (exfalso;omega))
  any_goals ((with_reducible refine nO ?_);first|exact h1|exact h2|exact h3|exact h4)
  all_goals (try (focus (((all_goals (try (with_reducible ((first|refine rE ?_|refine nE ?_);(focus (cbv;(try dsimp only [nc] at *);(try simp only [wl,nc]);(repeat' (with_reducible apply And.intro));all_goals (try exact wZ)))))));(all_goals (try ((with_reducible rw [aC]);(try simp only [wl,nc]);(repeat' (with_reducible apply And.intro));(all_goals (try exact cZ))))));done)))
  all_goals (try (focus ((try simp only [aC,aN,and_true]);simp only [ByteArray.size_append,bszL,List.length_cons,List.length_nil];(repeat' (with_reducible apply And.intro))<;>omega)))
  all_goals (refine .loop (fun seen:List Nat=>⟨195,[(179,.ptr 179 0),(10,.str fun _=>I),(2,.ptr 2 0)],[(179,.it (fun _=>L.map (·.1)) (fun i=>.agg [.int .i64 fun _=>(L.getD (i ()) default).2.1,.int .i64 fun _=>(L.getD (i ()) default).2.2]) (fun _=>seen) false),(2,boxQ x.op)]⟩) (fun seen=>∀ i ∈ seen,(L.getD i default).2.1≠x.op) (fun seen=>unseen L.length seen) [] (fun i hi=>by cases hi) ?_ fun seen E hs=>?_)
  all_goals (try (focus ((focus (cbv;(try dsimp only [nc] at *);(try simp only [wl,nc]);(repeat' (with_reducible apply And.intro));all_goals (try exact wZ)));first|exact hI.symm|skip;done)))
  all_goals (
    apply AWp.wkG tF mF 2 [] kp40 ?_
    (any_goals ((with_reducible refine wkG_id ?_);cbv;(try dsimp only [nc] at *);(repeat' (with_reducible first|exact aO|exact oN|refine oC ?_ ?_|refine VC.mk rfl ?_ ?_ ?_|(apply Ca.mk<;>intro _)|(apply Cv.mk<;>intro zq<;>(try simp only [nc,cl] at zq)<;>(try simp only [bl,dl] at zq)<;>(revert zq;intro _))))))
    · refine LpVC.pick tF mF (fun _=>[]) kp40 179 rfl ‹_› (fun i hi hn=>?_)
      (any_goals ((with_reducible refine wI ?_);cbv;(try dsimp only [nc] at *);(repeat' (with_reducible first|exact aO|exact oN|refine oC ?_ ?_|refine VC.mk rfl ?_ ?_ ?_|(apply Ca.mk<;>intro _)|(apply Cv.mk<;>intro zq<;>(try simp only [nc,cl] at zq)<;>(try simp only [bl,dl] at zq)<;>(revert zq;intro _))|((first|apply xE|apply uE);cbv;(try dsimp only [nc] at *))))))
      all_goals (try simp only [List.getLastD_concat,List.length_map] at *)
      ((all_goals (try (with_reducible ((first|refine rE ?_|refine nE ?_);(focus (cbv;(try dsimp only [nc] at *);(try simp only [wl,nc]);(repeat' (with_reducible apply And.intro));all_goals (try exact wZ)))))));(all_goals (try ((with_reducible rw [aC]);(try simp only [wl,nc]);(repeat' (with_reducible apply And.intro));(all_goals (try exact cZ))))))
      iterate 3 (first|(focus (have q:=hsz i hi;simp only [ByteArray.size_append,bszL,List.length_cons,List.length_nil];omega))|skip)
      · exact hat i hi ‹_›
      · refine dE (ι:=List Nat) (μ:=fun seen=>unseen L.length seen) (i:=seen) (seen++[i]) ⟨fun j hj=>?_,unseen_lt hi hn⟩ ?_
        · rcases List.mem_append.1 hj with hj|hj
          · exact hs j hj
          · rw [List.mem_singleton.1 hj];assumption
        · (focus (cbv;(try dsimp only [nc] at *);(try simp only [wl,nc]);(repeat' (with_reducible apply And.intro));all_goals (try exact wZ)))
    · (any_goals (repeat' (with_reducible first|exact aO|exact oN|refine oC ?_ ?_|refine VC.mk rfl ?_ ?_ ?_|(apply Ca.mk<;>intro _)|(apply Cv.mk<;>intro zq<;>(try simp only [nc,cl] at zq)<;>(try simp only [bl,dl] at zq)<;>(revert zq;intro _))|((first|apply xE|apply uE);cbv;(try dsimp only [nc] at *)))))
      ((all_goals (try (with_reducible ((first|refine rE ?_|refine nE ?_);(focus (cbv;(try dsimp only [nc] at *);(try simp only [wl,nc]);(repeat' (with_reducible apply And.intro));all_goals (try exact wZ)))))));(all_goals (try ((with_reducible rw [aC]);(try simp only [wl,nc]);(repeat' (with_reducible apply And.intro));(all_goals (try exact cZ))))))
      rename_i hall
      exact (hno fun i hi=>hs i (hall i (by rw [List.length_map];exact hi))).symm)
end Go.Ai
