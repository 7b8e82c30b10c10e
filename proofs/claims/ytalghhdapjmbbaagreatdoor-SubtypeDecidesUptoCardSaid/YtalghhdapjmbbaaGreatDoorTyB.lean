/- Chapter 6: the rules of one type. -/
import Derived.Test.YtalghhdapjmbbaaGreatDoorTyA
import Derived.Test.YtalghhdapjmbbaaGreatDoorCheck
import Derived.Test.YtalghhdapjmbbaaGreatDoorVal
set_option linter.all false
namespace Go.Ai
open Go Go.Proofs
set_option maxRecDepth 100000
set_option maxHeartbeats 4000000
def vsD (s:ByteArray):Bool:=Lib.validD s.data.toList
def chk (e:Nat) (v:V):Int:=checkE vsD (preV e 1 v)
theorem valCheck_ok (d:Nat) (v:V) (hv:V.le (d+1) v) (hd:d+1≤1073741824):Af Tryz.prog 140 [encV (d+1) .any fun _=>v] [] (.int .i64 fun _=>chk (d+1) v) [] :=
  Check_ok vsD d v hv hd fun p hp _=>valid_ok p.2.2.text (Nat.le_trans (preV_le (d+1) 1 v hv p hp).2.2.1 (by decide))
def limC (nm:ByteArray) (lo hi:Int) (b s t l f:Bool):List AV:=[.str fun _=>nm,.int .i64 fun _=>lo,.int .i64 fun _=>hi,.bool fun _=>b,.bool fun _=>s,.bool fun _=>t,.bool fun _=>l,.bool fun _=>f]
def kindsC:List AV :=
  limC ⟨#[]⟩ 0 0 false false false false false ++
  limC ⟨#[98,111,111,108]⟩ 0 0 false false false false false ++
  limC ⟨#[105,110,116]⟩ (-999999999999999) 999999999999999 true false false false false ++
  limC ⟨#[100,101,99,105,109,97,108]⟩ (-999999999999999) 999999999999999 true true false false false ++
  limC ⟨#[116,101,120,116]⟩ 0 1024 true false true false false ++
  limC ⟨#[98,121,116,101,115]⟩ 0 1024 true false false false false ++
  limC ⟨#[100,97,116,101]⟩ (-719162) 2932896 true false false false false ++
  limC ⟨#[116,105,109,101]⟩ (-62135596800000) 253402300799999 true false false false false ++
  limC ⟨#[108,105,115,116]⟩ 0 256 true false false true false ++
  limC ⟨#[114,101,99,111,114,100]⟩ 0 0 false false false false true ++
  limC ⟨#[118,97,114,105,97,110,116]⟩ 0 0 false false false false true
theorem kinds_ok:Af Tryz.prog 136 [] [] (.agg kindsC) []:=by
  (apply Af.of tF mF [.cell 0 157] kp136 [] Tryz.func136 (fun _=>?_);(any_goals ((with_reducible refine wI ?_);cbv;(try dsimp only [nc] at *);(repeat' (with_reducible first|exact aO|exact oN|refine oC ?_ ?_|refine VC.mk rfl ?_ ?_ ?_|(apply Ca.mk<;>intro _)|(apply Cv.mk<;>intro zq<;>(try simp only [nc,cl] at zq)<;>(try simp only [bl,dl] at zq)<;>(revert zq;intro _))|((first|apply xE|apply uE);cbv;(try dsimp only [nc] at *)))))))
  ((all_goals (try (with_reducible ((first|refine rE ?_|refine nE ?_);(focus (cbv;(try dsimp only [nc] at *);(try simp only [wl,nc]);(repeat' (with_reducible apply And.intro));all_goals (try exact wZ)))))));(all_goals (try ((with_reducible rw [aC]);(try simp only [wl,nc]);(repeat' (with_reducible apply And.intro));(all_goals (try exact cZ))))))
def formE (t:Ty) (b s x l f:Bool):Int :=
  if (b=false∧(t.min≠0∨t.max≠0))∨(s=false∧t.scale≠0)∨(x=false∧0<t.words.length)∨(l=false∧0<t.elem.length)∨(f=false∧0<t.fields.length) then 3 else 0
theorem form_ok (e d:Nat) (t:Ty) (nm:ByteArray) (lo hi:Int) (b s x l f:Bool):Af Tryz.prog 137 [encT e d .any fun _=>t,.agg (limC nm lo hi b s x l f)] [] (.int .i64 fun _=>formE t b s x l f) []:=by
  (apply Af.of tF mF [.tmp 4] kp137 [] Tryz.func137 (fun _=>?_);(any_goals ((with_reducible refine wI ?_);cbv;(try dsimp only [nc] at *);(repeat' (with_reducible first|exact aO|exact oN|refine oC ?_ ?_|refine VC.mk rfl ?_ ?_ ?_|(apply Ca.mk<;>intro _)|(apply Cv.mk<;>intro zq<;>(try simp only [nc,cl] at zq)<;>(try simp only [bl,dl] at zq)<;>(revert zq;intro _))|((first|apply xE|apply uE);cbv;(try dsimp only [nc] at *)))))))
  ((all_goals (try (with_reducible ((first|refine rE ?_|refine nE ?_);(focus (cbv;(try dsimp only [nc] at *);(try simp only [wl,nc]);(repeat' (with_reducible apply And.intro));all_goals (try exact wZ)))))));(all_goals (try ((with_reducible rw [aC]);(try simp only [wl,nc]);(repeat' (with_reducible apply And.intro));(all_goals (try exact cZ))))))
  all_goals simp only [formE]
  all_goals first
    | (rw [if_pos (by simp only [not_or,Nat.not_lt] at *;omega)];done)
    | (rw [if_neg (by simp only [not_or,Nat.not_lt] at *;omega)];done)
    | (rw [if_pos (by grind)];done)
    | (rw [if_neg (by grind)];done)
def txtE (w:ByteArray):Int:=chk 1 (mkV 4 0 0 w)
def wordE (l:List ByteArray) (i:Nat):Int :=
  if txtE (l.getD i ⟨#[]⟩)≠0 then txtE (l.getD i ⟨#[]⟩) else
  if 0<i∧l.getD i ⟨#[]⟩=l.getD (i - 1) ⟨#[]⟩ then 7 else
  if 0<i∧Op.bytesLess (l.getD i ⟨#[]⟩).toList (l.getD (i - 1) ⟨#[]⟩).toList=true then 24 else 0
def wordsE (t:Ty):Int:=if t.min≠0∨t.max≠0 then 3 else if 64<t.words.length then 9 else fI (wordE t.words) t.words.length
theorem mkV_le (k:Int) (s:ByteArray) (h:s.size≤1073741824) (d:Nat):V.le (d+1) (mkV k 0 0 s):=⟨by simp [mkV,V.list],by simp [mkV,V.fields],h,by simp [mkV,V.list],by simp [mkV,V.fields]⟩
theorem words_ok (e d:Nat) (t:Ty) (ht:Ty.le e (d+1) t):Af Tryz.prog 138 [encT e (d+1) .any fun _=>t] [] (.int .i64 fun _=>wordsE t) []:=by
  (apply Af.of tF mF [.tmp 2] kp138 [] Tryz.func138 (fun _=>?_);(any_goals ((with_reducible refine wI ?_);cbv;(try dsimp only [nc] at *);(repeat' (with_reducible first|exact aO|exact oN|refine oC ?_ ?_|refine VC.mk rfl ?_ ?_ ?_|(apply Ca.mk<;>intro _)|(apply Cv.mk<;>intro zq<;>(try simp only [nc,cl] at zq)<;>(try simp only [bl,dl] at zq)<;>(revert zq;intro _))|((first|apply xE|apply uE);cbv;(try dsimp only [nc] at *)))))))
  ((all_goals (try (with_reducible ((first|refine rE ?_|refine nE ?_);(focus (cbv;(try dsimp only [nc] at *);(try simp only [wl,nc]);(repeat' (with_reducible apply And.intro));all_goals (try exact wZ)))))));(all_goals (try ((with_reducible rw [aC]);(try simp only [wl,nc]);(repeat' (with_reducible apply And.intro));(all_goals (try exact cZ))))))
  · simp only [wordsE];rw [if_pos (by omega)]
  · simp only [wordsE];rw [if_neg (by omega),if_pos (by omega)]
  have hW:wordsE t=fI (wordE t.words) t.words.length:=by simp only [wordsE];rw [if_neg (by omega),if_neg (by omega)]
  rw [hW]
  refine .loop (fun i:Nat=>⟨59,[(23,.int .i64 fun _=>i),(22,.int .i64 fun _=>t.words.length),(21,.slc .any 1 (fun _=>t.words.length) (wordsF fun _=>t.words)),(1,.ptr 1 0)],[(1,.box (cl' e (d+1) .any fun _=>t))]⟩)
    (fun i=>i≤t.words.length∧fI (wordE t.words) i=0) (fun i=>t.words.length - i) 0 (by simp [fI]) ?_ fun i E hi=>?_
  · (focus (cbv;(try dsimp only [nc] at *);(try simp only [wl,nc]);(repeat' (with_reducible apply And.intro));all_goals (try exact wZ)))
  obtain ⟨s,hs⟩:∃ s,s=t.words.getD i ⟨#[]⟩:=⟨_,rfl⟩
  have hs2:s.size≤1073741824:=by
    rw [hs]
    by_cases h:i<t.words.length
    · exact ht.2.1 _ (gD h)
    · simp [List.getD,Nat.le_of_not_lt h];decide
  apply AWp.wk tF mF [(8,[(1,encV 1 .new fun _=>mkV 4 0 0 s,[]),(2,.int .i64 fun _=>txtE s,[])])] kp138 ?_
  (any_goals ((with_reducible refine wI ?_);cbv;(try dsimp only [nc] at *);(repeat' (with_reducible first|exact aO|exact oN|refine oC ?_ ?_|refine VC.mk rfl ?_ ?_ ?_|(apply Ca.mk<;>intro _)|(apply Cv.mk<;>intro zq<;>(try simp only [nc,cl] at zq)<;>(try simp only [bl,dl] at zq)<;>(revert zq;intro _))|((first|apply xE|apply uE);cbv;(try dsimp only [nc] at *))))))
  (any_goals ((with_reducible refine bZ ?_);(try dsimp only);(have q:=(Text_ok s 0);refine Af.wN q ?_;clear q);(focus (cbv;(try dsimp only [nc] at *);(try simp only [wl,nc]);(repeat' (with_reducible apply And.intro));all_goals (try exact wZ)))))
  (any_goals ((with_reducible refine bZ ?_);(try dsimp only);(have q:=(valCheck_ok 0 (mkV 4 0 0 s) (mkV_le 4 s hs2 0) (by decide));refine Af.wN q ?_;clear q);(focus (cbv;(try dsimp only [nc] at *);(try simp only [wl,nc]);(repeat' (with_reducible apply And.intro));all_goals (try exact wZ)))))
  ((all_goals (try (with_reducible ((first|refine rE ?_|refine nE ?_);(focus (cbv;(try dsimp only [nc] at *);(try simp only [wl,nc]);(repeat' (with_reducible apply And.intro));all_goals (try exact wZ)))))));(all_goals (try ((with_reducible rw [aC]);(try simp only [wl,nc]);(repeat' (with_reducible apply And.intro));(all_goals (try exact cZ))))))
  · exact hs.symm
  · exact fun i hi=>absurd hi (Nat.not_lt_zero _)
  · exact fun i hi=>absurd hi (Nat.not_lt_zero _)
  all_goals have hw:(IntKind.i64.wrap ((i:Int) - 1)).toNat=i - 1:=by rw [w64 (by omega) (by omega)];omega
  all_goals (try simp only [hw] at *)
  all_goals
    obtain ⟨q,hq⟩:∃ q,q=t.words.getD (i - 1) ⟨#[]⟩:=⟨_,rfl⟩
    have hE:wordE t.words i=if txtE s≠0 then txtE s else if 0<i∧s=q then 7 else if 0<i∧Op.bytesLess s.toList q.toList=true then 24 else 0:=by simp only [wordE,← hs,← hq]
    have hs':t.words.getD i (ByteArray.mk (Array.mk []))=s:=hs.symm
    have hq':t.words.getD (i - 1) (ByteArray.mk (Array.mk []))=q:=hq.symm
    (try simp only [hs',hq'] at *)
  · refine ((firstI_at ‹_› hi.2 ?_).trans ?_).symm
    · rw [hE,if_pos ‹_›];assumption
    · rw [hE,if_pos ‹_›]
  · refine ((firstI_at ‹_› hi.2 ?_).trans ?_).symm
    · rw [hE,if_neg (fun q=>q ‹_›),if_pos (by grind)];decide
    · rw [hE,if_neg (fun q=>q ‹_›),if_pos (by grind)]
  · refine ((firstI_at ‹_› hi.2 ?_).trans ?_).symm
    · rw [hE,if_neg (fun q=>q ‹_›),if_neg (by grind),if_pos (by grind)];decide
    · rw [hE,if_neg (fun q=>q ‹_›),if_neg (by grind),if_pos (by grind)]
  · refine dE (i+1) ⟨⟨by omega,?_⟩,by omega⟩ ?_
    · have:wordE t.words i=0:=by rw [hE,if_neg (fun q=>q ‹_›),if_neg (by grind),if_neg (by grind)]
      simp [fI,hi.2,this]
    · (focus (cbv;(try dsimp only [nc] at *);(try simp only [wl,nc]);(repeat' (with_reducible apply And.intro));all_goals (try exact wZ)))
      exact w64n (by omega)
  · have:i=t.words.length:=by omega
    rw [← this];exact hi.2.symm
end Go.Ai
