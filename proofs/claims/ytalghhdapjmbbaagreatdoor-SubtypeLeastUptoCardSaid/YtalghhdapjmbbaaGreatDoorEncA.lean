/- Chapter 6: the reference's rules of a type: unused, limits, bounds. -/
import Derived.Test.YtalghhdapjmbbaaGreatDoorTyC
import Derived.Test.YtalghhdapjmbbaaGreatDoorTyE
import Derived.Test.YtalghhdapjmbbaaGreatDoorTyF
set_option linter.all false
namespace Go.Ai
open Go Go.Proofs
set_option maxRecDepth 100000
set_option maxHeartbeats 4000000
def formK (t:Ty):Int:=formE t (decide (2≤t.kind∧t.kind≤8)) (decide (t.kind=3)) (decide (t.kind=4)) (decide (t.kind=8)) (decide (t.kind=9∨t.kind=10))
theorem formK_ne (t:Ty):¬ formK t=0↔((¬(2≤t.kind∧t.kind≤8)∧(t.min≠0∨t.max≠0))∨(t.kind≠3∧t.scale≠0)∨(t.kind≠4∧0<t.words.length)∨(t.kind≠8∧0<t.elem.length)∨(¬(t.kind=9∨t.kind=10)∧0<t.fields.length)):=by
  simp only [formK,formE,decide_eq_false_iff_not]
  split<;>simp_all
theorem refUnused_ok (e d:Nat) (t:Ty):Af Tryz.prog 96 [encT e d .any fun _=>t] [] (.bool fun _=>decide (formK t≠0)) []:=by
  obtain ⟨u,hu⟩:∃ u,u=decide (formK t≠0):=⟨_,rfl⟩
  rw [← hu]
  (apply Af.of tF mF [.tmp 2] kp96 [(1,[(2,.bool fun _=>decide (2≤t.kind∧t.kind≤8),[])])] Tryz.func96 (fun _=>?_);(any_goals ((with_reducible refine wI ?_);cbv;(try dsimp only [nc] at *);(repeat' (with_reducible first|exact aO|exact oN|refine oC ?_ ?_|refine VC.mk rfl ?_ ?_ ?_|(apply Ca.mk<;>intro _)|(apply Cv.mk<;>intro zq<;>(try simp only [nc,cl] at zq)<;>(try simp only [bl,dl] at zq)<;>(revert zq;intro _))|((first|apply xE|apply uE);cbv;(try dsimp only [nc] at *)))))))
  (any_goals ((with_reducible refine bZ ?_)<;>exact (refIn_ok _ _ _)))
  ((all_goals (try (with_reducible ((first|refine rE ?_|refine nE ?_);(focus (cbv;(try dsimp only [nc] at *);(try simp only [wl,nc]);(repeat' (with_reducible apply And.intro));all_goals (try exact wZ)))))));(all_goals (try ((with_reducible rw [aC]);(try simp only [wl,nc]);(repeat' (with_reducible apply And.intro));(all_goals (try exact cZ))))))
  rw [hu,Bool.eq_iff_iff,decide_eq_true_eq,formK_ne]
  simp
  by_cases h1:t.kind=3<;>by_cases h2:t.kind=4<;>by_cases h3:t.kind=8<;>by_cases h4:t.kind=9<;>by_cases h5:t.kind=10<;>by_cases h6:t.min=0<;>by_cases h7:t.max=0<;>by_cases h8:t.scale=0<;>simp [*]<;>omega
theorem refLimits_ok (k:Int):Af Tryz.prog 98 [.int .i64 fun _=>k] [] (.tup [.int .i64 fun _=>kLo k,.int .i64 fun _=>if 2≤k∧k≤7 then kHi k else 256]) []:=by
  (apply Af.of tF mF [.tmp 2,.tmp 3] kp98 [] Tryz.func98 (fun _=>?_);(any_goals ((with_reducible refine wI ?_);cbv;(try dsimp only [nc] at *);(repeat' (with_reducible first|exact aO|exact oN|refine oC ?_ ?_|refine VC.mk rfl ?_ ?_ ?_|(apply Ca.mk<;>intro _)|(apply Cv.mk<;>intro zq<;>(try simp only [nc,cl] at zq)<;>(try simp only [bl,dl] at zq)<;>(revert zq;intro _))|((first|apply xE|apply uE);cbv;(try dsimp only [nc] at *)))))))
  ((all_goals (try (with_reducible ((first|refine rE ?_|refine nE ?_);(focus (cbv;(try dsimp only [nc] at *);(try simp only [wl,nc]);(repeat' (with_reducible apply And.intro));all_goals (try exact wZ)))))));(all_goals (try ((with_reducible rw [aC]);(try simp only [wl,nc]);(repeat' (with_reducible apply And.intro));(all_goals (try exact cZ))))))
  all_goals simp only [kLo,kHi]
  all_goals grind
theorem refBounds_ok (e d:Nat) (t:Ty) (a b:Int):Af Tryz.prog 99 [encT e d .any fun _=>t,.int .i64 fun _=>a,.int .i64 fun _=>b] [] (.bool fun _=>decide (a≤t.min∧t.max≤b∧t.min≤t.max)) []:=by
  (apply Af.of tF mF [.tmp 6] kp99 [] Tryz.func99 (fun _=>?_);(any_goals ((with_reducible refine wI ?_);cbv;(try dsimp only [nc] at *);(repeat' (with_reducible first|exact aO|exact oN|refine oC ?_ ?_|refine VC.mk rfl ?_ ?_ ?_|(apply Ca.mk<;>intro _)|(apply Cv.mk<;>intro zq<;>(try simp only [nc,cl] at zq)<;>(try simp only [bl,dl] at zq)<;>(revert zq;intro _))|((first|apply xE|apply uE);cbv;(try dsimp only [nc] at *)))))))
  ((all_goals (try (with_reducible ((first|refine rE ?_|refine nE ?_);(focus (cbv;(try dsimp only [nc] at *);(try simp only [wl,nc]);(repeat' (with_reducible apply And.intro));all_goals (try exact wZ)))))));(all_goals (try ((with_reducible rw [aC]);(try simp only [wl,nc]);(repeat' (with_reducible apply And.intro));(all_goals (try exact cZ))))))
  rw [Bool.eq_iff_iff]
  grind
theorem refWords_ok (e d:Nat) (t:Ty) (ht:Ty.le e (d+1) t):Af Tryz.prog 97 [encT e (d+1) .any fun _=>t] [] (.int .i64 fun _=>wordsE t) []:=by
  (apply Af.of tF mF [.tmp 2] kp97 [(0,[(0,.nil,[])])] Tryz.func97 (fun _=>?_);(any_goals ((with_reducible refine wI ?_);cbv;(try dsimp only [nc] at *);(repeat' (with_reducible first|exact aO|exact oN|refine oC ?_ ?_|refine VC.mk rfl ?_ ?_ ?_|(apply Ca.mk<;>intro _)|(apply Cv.mk<;>intro zq<;>(try simp only [nc,cl] at zq)<;>(try simp only [bl,dl] at zq)<;>(revert zq;intro _))|((first|apply xE|apply uE);cbv;(try dsimp only [nc] at *)))))))
  ((all_goals (try (with_reducible ((first|refine rE ?_|refine nE ?_);(focus (cbv;(try dsimp only [nc] at *);(try simp only [wl,nc]);(repeat' (with_reducible apply And.intro));all_goals (try exact wZ)))))));(all_goals (try ((with_reducible rw [aC]);(try simp only [wl,nc]);(repeat' (with_reducible apply And.intro));(all_goals (try exact cZ))))))
  · simp only [wordsE];rw [if_pos (by omega)]
  · simp only [wordsE];rw [if_neg (by omega),if_pos (by omega)]
  have hW:wordsE t=fI (wordE t.words) t.words.length:=by simp only [wordsE];rw [if_neg (by omega),if_neg (by omega)]
  rw [hW]
  refine .loop (fun i:Nat=>⟨66,[(3,.int .i64 fun _=>i),(1,boxT e (d+1) fun _=>t)],[]⟩)
    (fun i=>i≤t.words.length∧fI (wordE t.words) i=0) (fun i=>t.words.length - i) 0 (by simp [fI]) ?_ fun i E hi=>?_
  · (focus (cbv;(try dsimp only [nc] at *);(try simp only [wl,nc]);(repeat' (with_reducible apply And.intro));all_goals (try exact wZ)))
  obtain ⟨s,hs⟩:∃ s,s=t.words.getD i ⟨#[]⟩:=⟨_,rfl⟩
  have hs2:s.size≤1073741824:=by
    rw [hs]
    by_cases h:i<t.words.length
    · exact ht.2.1 _ (gD h)
    · simp [List.getD,Nat.le_of_not_lt h];decide
  apply AWp.wk tF mF [(8,[(6,.int .i64 fun _=>txtE s,[])])] kp97 ?_
  (any_goals ((with_reducible refine wI ?_);cbv;(try dsimp only [nc] at *);(repeat' (with_reducible first|exact aO|exact oN|refine oC ?_ ?_|refine VC.mk rfl ?_ ?_ ?_|(apply Ca.mk<;>intro _)|(apply Cv.mk<;>intro zq<;>(try simp only [nc,cl] at zq)<;>(try simp only [bl,dl] at zq)<;>(revert zq;intro _))|((first|apply xE|apply uE);cbv;(try dsimp only [nc] at *))))))
  all_goals (try simp only [Int.toNat_natCast] at *)
  (any_goals ((with_reducible refine bZ ?_);(try dsimp only);(have q:=(valRefCheck_ok 0 (mkV 4 0 0 s) (mkV_le 4 s hs2 0) (by decide) (by simp [sV,kz,mkV,V.kind]));refine Af.wN q ?_;clear q);(focus (cbv;(try dsimp only [nc] at *);(try simp only [wl,nc]);(repeat' (with_reducible apply And.intro));all_goals (try exact wZ)))))
  ((all_goals (try (with_reducible ((first|refine rE ?_|refine nE ?_);(focus (cbv;(try dsimp only [nc] at *);(try simp only [wl,nc]);(repeat' (with_reducible apply And.intro));all_goals (try exact wZ)))))));(all_goals (try ((with_reducible rw [aC]);(try simp only [wl,nc]);(repeat' (with_reducible apply And.intro));(all_goals (try exact cZ))))))
  · exact hs.symm
  all_goals have hw:(IntKind.i64.wrap ((i:Int) - 1)).toNat=i - 1:=by rw [w64 (by omega) (by omega)];omega
  all_goals (try simp only [hw] at *)
  all_goals
    obtain ⟨q,hq⟩:∃ q,q=t.words.getD (i - 1) ⟨#[]⟩:=⟨_,rfl⟩
    have hE:wordE t.words i=if txtE s≠0 then txtE s else if 0<i∧s=q then 7 else if 0<i∧Op.bytesLess s.toList q.toList=true then 24 else 0:=by simp only [wordE,← hs,← hq]
    have hs':t.words.getD i (ByteArray.mk (Array.mk []))=s:=hs.symm
    have hq':t.words.getD (i - 1) (ByteArray.mk (Array.mk []))=q:=hq.symm
    (try simp only [hs',hq'] at *)
  · refine ((firstI_at ‹_› hi.2 ?_).trans ?_).symm
    · rw [hE,if_pos ‹_›];assumption
    · rw [hE,if_pos ‹_›]
  · refine ((firstI_at ‹_› hi.2 ?_).trans ?_).symm
    · rw [hE,if_neg (fun q=>q ‹_›),if_pos (by grind)];decide
    · rw [hE,if_neg (fun q=>q ‹_›),if_pos (by grind)]
  · refine ((firstI_at ‹_› hi.2 ?_).trans ?_).symm
    · rw [hE,if_neg (fun q=>q ‹_›),if_neg (by grind),if_pos (by grind)];decide
    · rw [hE,if_neg (fun q=>q ‹_›),if_neg (by grind),if_pos (by grind)]
  · refine dE (i+1) ⟨⟨by omega,?_⟩,by omega⟩ ?_
    · have:wordE t.words i=0:=by rw [hE,if_neg (fun q=>q ‹_›),if_neg (by grind),if_neg (by grind)]
      simp [fI,hi.2,this]
    · (focus (cbv;(try dsimp only [nc] at *);(try simp only [wl,nc]);(repeat' (with_reducible apply And.intro));all_goals (try exact wZ)))
      exact w64n (by omega)
  · have:i=t.words.length:=by omega
    rw [← this];exact hi.2.symm
def fieldsTE (t:Ty):Int:=if 64<t.fields.length then 9 else fI (fieldE t) t.fields.length
theorem dupB_true {l:List TF} {i j:Nat} {f:TF} (hj:j<i) (hl:i≤l.length) (h:fM (l.getD j default)=fM f∨fNum (l.getD j default)=fNum f):dupB l i f=true:=by
  simp only [dupB,List.any_eq_true]
  refine ⟨l.getD j default,?_,by simpa using h⟩
  rw [← take_getD l i j default hj]
  exact gD (by rw [List.length_take];omega)
theorem dupB_false {l:List TF} {i:Nat} {f:TF} (h:∀ k,k<i→fM (l.getD k default)≠fM f∧fNum (l.getD k default)≠fNum f):dupB l i f=false:=by
  simp only [dupB,List.any_eq_false]
  intro x hx
  obtain ⟨k,hk,rfl⟩:=List.getElem_of_mem hx
  have hk2:k<i:=by rw [List.length_take] at hk;omega
  have:=h k hk2
  rw [← take_getD l i k default hk2,List.getD_eq_getElem?_getD,List.getElem?_eq_getElem hk,Option.getD_some] at this
  simpa using this
theorem refFields_ok (e d:Nat) (t:Ty) (ht:Ty.le e (d+1) t):Af Tryz.prog 100 [encT e (d+1) .any fun _=>t] [] (.int .i64 fun _=>fieldsTE t) []:=by
  (apply Af.of tF mF [.tmp 2] kp100 [(0,[(0,.nil,[])])] Tryz.func100 (fun _=>?_);(any_goals ((with_reducible refine wI ?_);cbv;(try dsimp only [nc] at *);(repeat' (with_reducible first|exact aO|exact oN|refine oC ?_ ?_|refine VC.mk rfl ?_ ?_ ?_|(apply Ca.mk<;>intro _)|(apply Cv.mk<;>intro zq<;>(try simp only [nc,cl] at zq)<;>(try simp only [bl,dl] at zq)<;>(revert zq;intro _))|((first|apply xE|apply uE);cbv;(try dsimp only [nc] at *)))))))
  ((all_goals (try (with_reducible ((first|refine rE ?_|refine nE ?_);(focus (cbv;(try dsimp only [nc] at *);(try simp only [wl,nc]);(repeat' (with_reducible apply And.intro));all_goals (try exact wZ)))))));(all_goals (try ((with_reducible rw [aC]);(try simp only [wl,nc]);(repeat' (with_reducible apply And.intro));(all_goals (try exact cZ))))))
  · simp only [fieldsTE];rw [if_pos (by omega)]
  have hR:fieldsTE t=fI (fieldE t) t.fields.length:=by simp only [fieldsTE];rw [if_neg (by omega)]
  rw [hR]
  refine .loop (fun i:Nat=>⟨93,[(3,.int .i64 fun _=>i),(1,boxT e (d+1) fun _=>t)],[]⟩)
    (fun i=>i≤t.fields.length∧fI (fieldE t) i=0) (fun i=>t.fields.length - i) 0 (by simp [fI]) ?_ fun i E hi=>?_
  · (focus (cbv;(try dsimp only [nc] at *);(try simp only [wl,nc]);(repeat' (with_reducible apply And.intro));all_goals (try exact wZ)))
  by_cases h:i<t.fields.length
  · obtain ⟨f,hf⟩:∃ f,f=t.fields.getD i default:=⟨_,rfl⟩
    have hfm:f ∈ t.fields:=by rw [hf];exact gD h
    have hfE:fieldE t i=fldE t.kind (dupB t.fields i f) f:=by rw [fieldE,← hf]
    have hfin:∀ c,fldE t.kind (dupB t.fields i f) f=c→c≠0→fI (fieldE t) t.fields.length=c:=fun c h1 h2=>by
      rw [← hfE] at h1;subst h1;exact firstI_at h hi.2 h2
    have hfl:=ht.2.2.2.2.2 _ hfm
    apply AWp.wk tF mF [(7,[(2,.bool fun _=>isName (fM f),[])]),(9,[(2,.bool fun _=>decide (1≤fNum f∧fNum f≤9999),[])]),(16,[(2,.bool fun _=>decide (1≤fN f∧fN f≤3),[])])] kp100 ?_
    (any_goals ((with_reducible refine wI ?_);cbv;(try dsimp only [nc] at *);(repeat' (with_reducible first|exact aO|exact oN|refine oC ?_ ?_|refine VC.mk rfl ?_ ?_ ?_|(apply Ca.mk<;>intro _)|(apply Cv.mk<;>intro zq<;>(try simp only [nc,cl] at zq)<;>(try simp only [bl,dl] at zq)<;>(revert zq;intro _))|((first|apply xE|apply uE);cbv;(try dsimp only [nc] at *))))))
    all_goals (try exact absurd h (Nat.not_lt.2 ‹t.fields.length≤i›))
    all_goals (try simp only [Int.toNat_natCast,← hf])
    (any_goals ((with_reducible refine bZ ?_)<;>exact (Name_ok (fM f) (Nat.le_trans hfl.1 (by decide)))))
    (any_goals ((with_reducible refine bZ ?_)<;>exact (refIn_ok _ _ _)))
    ((all_goals (try (with_reducible ((first|refine rE ?_|refine nE ?_);(focus (cbv;(try dsimp only [nc] at *);(try simp only [wl,nc]);(repeat' (with_reducible apply And.intro));all_goals (try exact wZ)))))));(all_goals (try ((with_reducible rw [aC]);(try simp only [wl,nc]);(repeat' (with_reducible apply And.intro));(all_goals (try exact cZ))))))
    · exact (hfin 12 (by simp only [fldE];rw [if_pos ‹isName (fM f)=false›]) (by decide)).symm
    · exact (hfin 2 (by simp only [fldE];rw [if_neg (by rw [‹isName (fM f)=true›];simp),if_pos (by omega)]) (by decide)).symm
    have hnm:isName (fM f)=true:=‹_›
    have hnum:1≤fNum f∧fNum f≤9999:=‹_›
    refine .loop (fun j:Nat=>⟨93,[(5,.int .i64 fun _=>j),(3,.int .i64 fun _=>i),(1,boxT e (d+1) fun _=>t),(4,.ptr 4 0)],[(4,.box (cF e d .any fun _=>f))]⟩)
      (fun j=>j≤i∧∀ k,k<j→fM (t.fields.getD k default)≠fM f∧fNum (t.fields.getD k default)≠fNum f) (fun j=>i - j) 0 (by simp) ?_ fun j E hj=>?_
    · (focus (cbv;(try dsimp only [nc] at *);(try simp only [wl,nc]);(repeat' (with_reducible apply And.intro));all_goals (try exact wZ)))
    by_cases hji:j<i
    · obtain ⟨g,hg⟩:∃ g,g=t.fields.getD j default:=⟨_,rfl⟩
      apply AWp.wk tF mF [(16,[(2,.bool fun _=>true,[])])] kp100 ?_
      (any_goals ((with_reducible refine wI ?_);cbv;(try dsimp only [nc] at *);(repeat' (with_reducible first|exact aO|exact oN|refine oC ?_ ?_|refine VC.mk rfl ?_ ?_ ?_|(apply Ca.mk<;>intro _)|(apply Cv.mk<;>intro zq<;>(try simp only [nc,cl] at zq)<;>(try simp only [bl,dl] at zq)<;>(revert zq;intro _))|((first|apply xE|apply uE);cbv;(try dsimp only [nc] at *))))))
      all_goals (try exact absurd hji (Nat.not_lt.2 ‹i≤j›))
      all_goals (try simp only [Int.toNat_natCast,← hg])
      ((all_goals (try (with_reducible ((first|refine rE ?_|refine nE ?_);(focus (cbv;(try dsimp only [nc] at *);(try simp only [wl,nc]);(repeat' (with_reducible apply And.intro));all_goals (try exact wZ)))))));(all_goals (try ((with_reducible rw [aC]);(try simp only [wl,nc]);(repeat' (with_reducible apply And.intro));(all_goals (try exact cZ))))))
      · have hdup:=dupB_true hji (Nat.le_of_lt h) ‹_∨_›
        exact (hfin 7 (by simp only [fldE];rw [if_neg (by rw [hnm];simp),if_neg (by omega),if_pos hdup]) (by decide)).symm
      · have hno:=‹¬ _∧¬ _›
        refine dE (j+1) ⟨⟨by omega,fun k hk=>?_⟩,by omega⟩ ?_
        · rcases Nat.lt_succ_iff_lt_or_eq.1 hk with hk|rfl
          · exact hj.2 k hk
          · exact hno
        · (focus (cbv;(try dsimp only [nc] at *);(try simp only [wl,nc]);(repeat' (with_reducible apply And.intro));all_goals (try exact wZ)))
          exact w64n (by omega)
    · apply AWp.wk tF mF [(16,[(2,.bool fun _=>decide (1≤fN f∧fN f≤3),[])])] kp100 ?_
      (any_goals ((with_reducible refine wI ?_);cbv;(try dsimp only [nc] at *);(repeat' (with_reducible first|exact aO|exact oN|refine oC ?_ ?_|refine VC.mk rfl ?_ ?_ ?_|(apply Ca.mk<;>intro _)|(apply Cv.mk<;>intro zq<;>(try simp only [nc,cl] at zq)<;>(try simp only [bl,dl] at zq)<;>(revert zq;intro _))|((first|apply xE|apply uE);cbv;(try dsimp only [nc] at *))))))
      all_goals (try exact absurd ‹j<i› hji)
      (any_goals ((with_reducible refine bZ ?_)<;>exact (refIn_ok _ _ _)))
      ((all_goals (try (with_reducible ((first|refine rE ?_|refine nE ?_);(focus (cbv;(try dsimp only [nc] at *);(try simp only [wl,nc]);(repeat' (with_reducible apply And.intro));all_goals (try exact wZ)))))));(all_goals (try ((with_reducible rw [aC]);(try simp only [wl,nc]);(repeat' (with_reducible apply And.intro));(all_goals (try exact cZ))))))
      all_goals
        have hje:j=i:=by omega
        have hndup:dupB t.fields i f=false:=dupB_false (by rw [← hje];exact hj.2)
        have hA:fldE t.kind (dupB t.fields i f) f=if (fN f<1∨3<fN f)∨(t.kind=10∧fN f≠1) then 11 else if fN f=3∧(fDef f).length=0 then 4 else if 1<(fDef f).length∨(fN f≠3∧0<(fDef f).length) then 3 else 0:=by
          simp only [fldE];rw [if_neg (by rw [hnm];simp),if_neg (by omega),if_neg (by rw [hndup];simp)]
      · exact (hfin 11 (by rw [hA,if_pos (by omega)]) (by decide)).symm
      · exact (hfin 4 (by rw [hA,if_neg (by omega),if_pos (by omega)]) (by decide)).symm
      · exact (hfin 3 (by rw [hA,if_neg (by omega),if_neg (by omega),if_pos (by omega)]) (by decide)).symm
      · have h0:fieldE t i=0:=by rw [hfE,hA,if_neg (by omega),if_neg (by omega),if_neg (by omega)]
        refine dE (i+1) ⟨⟨by omega,by simp [fI,hi.2,h0]⟩,by omega⟩ ?_
        (focus (cbv;(try dsimp only [nc] at *);(try simp only [wl,nc]);(repeat' (with_reducible apply And.intro));all_goals (try exact wZ)))
        exact w64n (by omega)
  · apply AWp.wk tF mF [(7,[(2,.bool fun _=>true,[])]),(9,[(2,.bool fun _=>true,[])]),(16,[(2,.bool fun _=>true,[])])] kp100 ?_
    (any_goals ((with_reducible refine wI ?_);cbv;(try dsimp only [nc] at *);(repeat' (with_reducible first|exact aO|exact oN|refine oC ?_ ?_|refine VC.mk rfl ?_ ?_ ?_|(apply Ca.mk<;>intro _)|(apply Cv.mk<;>intro zq<;>(try simp only [nc,cl] at zq)<;>(try simp only [bl,dl] at zq)<;>(revert zq;intro _))|((first|apply xE|apply uE);cbv;(try dsimp only [nc] at *))))))
    all_goals (try exact absurd ‹i<t.fields.length› h)
    ((all_goals (try (with_reducible ((first|refine rE ?_|refine nE ?_);(focus (cbv;(try dsimp only [nc] at *);(try simp only [wl,nc]);(repeat' (with_reducible apply And.intro));all_goals (try exact wZ)))))));(all_goals (try ((with_reducible rw [aC]);(try simp only [wl,nc]);(repeat' (with_reducible apply And.intro));(all_goals (try exact cZ))))))
    have:i=t.fields.length:=by omega
    rw [← this];exact hi.2.symm
theorem refOwn_ok (e d:Nat) (t:Ty) (ht:Ty.le e (d+1) t):Af Tryz.prog 54 [encT e (d+1) .any fun _=>t] [] (.int .i64 fun _=>ownT t) []:=by
  obtain ⟨R,hR⟩:∃ R,R=ownT t:=⟨_,rfl⟩
  obtain ⟨K,hK⟩:∃ K,K=formK t:=⟨_,rfl⟩
  obtain ⟨W,hW⟩:∃ W,W=wordsE t:=⟨_,rfl⟩
  obtain ⟨F,hF⟩:∃ F,F=fieldsTE t:=⟨_,rfl⟩
  obtain ⟨lo,hlo⟩:∃ lo,lo=kLo t.kind:=⟨_,rfl⟩
  obtain ⟨hi,hhi⟩:∃ hi,hi=(if 2≤t.kind∧t.kind≤7 then kHi t.kind else 256):=⟨_,rfl⟩
  have hU:=refUnused_ok e (d+1) t
  have hLm:=refLimits_ok t.kind
  have hWd:=refWords_ok e d t ht
  have hFl:=refFields_ok e d t ht
  rw [← hK] at hU
  rw [← hlo,← hhi] at hLm
  rw [← hW] at hWd
  rw [← hF] at hFl
  rw [← hR]
  have hRe:R=if t.kind<1∨10<t.kind then 11 else if K≠0 then 3 else if t.kind=4∧0<t.words.length then W else
      if ((2≤t.kind∧t.kind≤8)∧(t.max<t.min∨t.min<kLo t.kind∨kHi t.kind<t.max))∨(t.kind=3∧(t.scale<0∨12<t.scale)) then 2 else
      if (t.kind=8∧t.elem.length=0)∨(t.kind=10∧t.fields.length=0) then 4 else if t.kind=8∧1<t.elem.length then 3 else F:=by rw [hR,hK,hW,hF];rfl
  have hhk:2≤t.kind∧t.kind≤8→hi=kHi t.kind:=fun h=>by
    rw [hhi]
    split
    · rfl
    · have:t.kind=8:=by omega
      rw [this];decide
  have hK0:=formK_ne t
  rw [← hK] at hK0
  have hsc:K=0→t.kind≠3→t.scale=0:=fun h h3=>by grind
  have hel:K=0→t.kind≠8→t.elem.length=0:=fun h h3=>by grind
  clear hK0 hK hW hF hR
  (apply Af.of tF mF [.tmp 2] kp54 [(0,[(0,.nil,[])]),(1,[(2,.bool fun _=>decide (1≤t.kind∧t.kind≤10),[])]),(3,[(1,.bool fun _=>decide (K≠0),[])]),(6,[(1,.int .i64 fun _=>W,[])]),(7,[(2,.tup [.int .i64 fun _=>lo,.int .i64 fun _=>hi],[])]),
    (8,[(2,.bool fun _=>decide (2≤t.kind∧t.kind≤8),[]),(7,.bool fun _=>decide (lo≤t.min∧t.max≤hi∧t.min≤t.max),[]),(13,.bool fun _=>decide (0≤t.scale∧t.scale≤12),[])]),(14,[(1,.int .i64 fun _=>F,[])])] Tryz.func54 (fun _=>?_);(any_goals ((with_reducible refine wI ?_);cbv;(try dsimp only [nc] at *);(repeat' (with_reducible first|exact aO|exact oN|refine oC ?_ ?_|refine VC.mk rfl ?_ ?_ ?_|(apply Ca.mk<;>intro _)|(apply Cv.mk<;>intro zq<;>(try simp only [nc,cl] at zq)<;>(try simp only [bl,dl] at zq)<;>(revert zq;intro _))|((first|apply xE|apply uE);cbv;(try dsimp only [nc] at *)))))))
  (any_goals ((with_reducible refine bZ ?_)<;>exact (refIn_ok _ _ _)))
  (any_goals ((with_reducible refine bZ ?_)<;>exact hU))
  (any_goals ((with_reducible refine bZ ?_)<;>exact hWd))
  (any_goals ((with_reducible refine bZ ?_)<;>exact hLm))
  (any_goals ((with_reducible refine bZ ?_)<;>exact (refBounds_ok e (d+1) t lo hi)))
  (any_goals ((with_reducible refine bZ ?_)<;>exact hFl))
  ((all_goals (try (with_reducible ((first|refine rE ?_|refine nE ?_);(focus (cbv;(try dsimp only [nc] at *);(try simp only [wl,nc]);(repeat' (with_reducible apply And.intro));all_goals (try exact wZ)))))));(all_goals (try ((with_reducible rw [aC]);(try simp only [wl,nc]);(repeat' (with_reducible apply And.intro));(all_goals (try exact cZ))))))
theorem refFieldT_ok (e d:Nat) (t:Ty) (ht:Ty.le e (d+1) t) (s:ByteArray):Af Tryz.prog 34 [encT e (d+1) .any fun _=>t,.str fun _=>s] [] (.int .i64 fun _=>iI (bQ s) t.fields) []:=by
  have hl:=ht.2.2.2.1
  (apply Af.of tF mF [.tmp 4] kp34 [(0,[(0,.nil,[])])] Tryz.func34 (fun _=>?_);(any_goals ((with_reducible refine wI ?_);cbv;(try dsimp only [nc] at *);(repeat' (with_reducible first|exact aO|exact oN|refine oC ?_ ?_|refine VC.mk rfl ?_ ?_ ?_|(apply Ca.mk<;>intro _)|(apply Cv.mk<;>intro zq<;>(try simp only [nc,cl] at zq)<;>(try simp only [bl,dl] at zq)<;>(revert zq;intro _))|((first|apply xE|apply uE);cbv;(try dsimp only [nc] at *)))))))
  ((all_goals (try (with_reducible ((first|refine rE ?_|refine nE ?_);(focus (cbv;(try dsimp only [nc] at *);(try simp only [wl,nc]);(repeat' (with_reducible apply And.intro));all_goals (try exact wZ)))))));(all_goals (try ((with_reducible rw [aC]);(try simp only [wl,nc]);(repeat' (with_reducible apply And.intro));(all_goals (try exact cZ))))))
  refine .loop (fun i:Nat=>⟨22,[(5,.int .i64 fun _=>i),(2,boxT e (d+1) fun _=>t),(1,.str fun _=>s)],[]⟩)
    (fun i=>i≤t.fields.length∧∀ j,j<i→bQ s (t.fields.getD j default)=false) (fun i=>t.fields.length - i) 0 (by simp) ?_ fun i E hi=>?_
  · (focus (cbv;(try dsimp only [nc] at *);(try simp only [wl,nc]);(repeat' (with_reducible apply And.intro));all_goals (try exact wZ)))
  apply AWp.wk tF mF [] kp34 ?_
  (any_goals ((with_reducible refine wI ?_);cbv;(try dsimp only [nc] at *);(repeat' (with_reducible first|exact aO|exact oN|refine oC ?_ ?_|refine VC.mk rfl ?_ ?_ ?_|(apply Ca.mk<;>intro _)|(apply Cv.mk<;>intro zq<;>(try simp only [nc,cl] at zq)<;>(try simp only [bl,dl] at zq)<;>(revert zq;intro _))|((first|apply xE|apply uE);cbv;(try dsimp only [nc] at *))))))
  ((all_goals (try (with_reducible ((first|refine rE ?_|refine nE ?_);(focus (cbv;(try dsimp only [nc] at *);(try simp only [wl,nc]);(repeat' (with_reducible apply And.intro));all_goals (try exact wZ)))))));(all_goals (try ((with_reducible rw [aC]);(try simp only [wl,nc]);(repeat' (with_reducible apply And.intro));(all_goals (try exact cZ))))))
  · exact (idxI_at (p:=bQ s) ‹_› (by simp only [bQ,decide_eq_true_eq];assumption) hi.2).symm
  · refine dE (i+1) ⟨⟨by omega,fun j hj=>?_⟩,by omega⟩ ?_
    · rcases Nat.lt_succ_iff_lt_or_eq.1 hj with hj|rfl
      · exact hi.2 j hj
      · simp only [bQ,decide_eq_false_iff_not];assumption
    · (focus (cbv;(try dsimp only [nc] at *);(try simp only [wl,nc]);(repeat' (with_reducible apply And.intro));all_goals (try exact wZ)))
      exact w64n (by omega)
  · exact (idxI_none fun j hj=>hi.2 j (by omega)).symm
end Go.Ai
