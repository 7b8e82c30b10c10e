/- Chapter 8: the reference's equality of types. -/
import Derived.Test.YtalghhdapjmbbaaGreatDoorSubG
import Derived.Test.YtalghhdapjmbbaaGreatDoorFnE
set_option linter.all false
namespace Go.Ai
open Go Go.Proofs
set_option maxRecDepth 100000
set_option maxHeartbeats 4000000
theorem refValSame_ok (d:Nat) (a b:V) (ha:V.le d a) (hb:V.le d b):Af Tryz.prog 25 [encV d .any fun _=>a,encV d .any fun _=>b] [] (.bool fun _=>decide (a=b)) []:=by
  have h:=refEqual_ok d a b ha hb
  have e:(cmpV d a b == 0)=decide (a=b):=by
    rw [Bool.eq_iff_iff,beq_iff_eq,decide_eq_true_eq];exact cmpV_zero ha hb
  rw [e] at h
  exact h
theorem refEqualT_step (e d:Nat) (s t:Ty) (hs:Ty.le e (d+1) s) (ht:Ty.le e (d+1) t) (ih:∀ x y,Ty.le e d x→Ty.le e d y→Af Tryz.prog 13 [encT e d .any fun _=>x,encT e d .any fun _=>y] [] (.bool fun _=>decide (x=y)) []) :
    Af Tryz.prog 13 [encT e (d+1) .any fun _=>s,encT e (d+1) .any fun _=>t] [] (.bool fun _=>decide (s=t)) []:=by
  obtain ⟨hsw,_,hse,hsf,hs5,hs6⟩:=hs
  obtain ⟨htw,_,hte,htf,ht5,ht6⟩:=ht
  have hR:decide (s=t)=true↔(s.kind=t.kind∧s.min=t.min∧s.max=t.max∧s.scale=t.scale∧s.words=t.words∧s.elem=t.elem∧s.fields=t.fields):=by rw [decide_eq_true_eq];exact Ty.eq_iff
  generalize decide (s=t)=R at hR ⊢
  (apply Af.of tF mF [.tmp 4] kp13 [] Tryz.func13 (fun _=>?_);(any_goals ((with_reducible refine wI ?_);cbv;(try dsimp only [nc] at *);(repeat' (with_reducible first|exact aO|exact oN|refine oC ?_ ?_|refine VC.mk rfl ?_ ?_ ?_|(apply Ca.mk<;>intro _)|(apply Cv.mk<;>intro zq<;>(try simp only [nc,cl] at zq)<;>(try simp only [bl,dl] at zq)<;>(revert zq;intro _))|((first|apply xE|apply uE);cbv;(try dsimp only [nc] at *)))))))
  ((all_goals (try (with_reducible ((first|refine rE ?_|refine nE ?_);(focus (cbv;(try dsimp only [nc] at *);(try simp only [wl,nc]);(repeat' (with_reducible apply And.intro));all_goals (try exact wZ)))))));(all_goals (try ((with_reducible rw [aC]);(try simp only [wl,nc]);(repeat' (with_reducible apply And.intro));(all_goals (try exact cZ))))))
  · rename_i h
    symm
    rw [← Bool.not_eq_true,hR]
    rintro ⟨h1,h2,h3,h4,h5,h6,h7⟩
    rw [h5,h6,h7] at h
    grind
  rename_i hcd
  obtain ⟨⟨⟨hcd,hlw⟩,hle⟩,hlf⟩:=hcd
  replace hlw:s.words.length=t.words.length:=by omega
  replace hle:s.elem.length=t.elem.length:=by omega
  replace hlf:s.fields.length=t.fields.length:=by omega
  refine .loop (fun i:Nat=>⟨173,[(5,.int .i64 fun _=>i),(3,.ptr 3 0),(2,.ptr 2 0)],[(2,.box (cl' e (d+1) .any fun _=>s)),(3,.box (cl' e (d+1) .any fun _=>t))]⟩)
    (fun i=>i≤s.words.length∧∀ j,j<i→s.words.getD j ⟨#[]⟩=t.words.getD j ⟨#[]⟩) (fun i=>s.words.length - i) 0 (by simp) ?_ fun i E hi=>?_
  · (focus (cbv;(try dsimp only [nc] at *);(try simp only [wl,nc]);(repeat' (with_reducible apply And.intro));all_goals (try exact wZ)))
  apply AWp.wk tF mF [] kp13 ?_
  (any_goals ((with_reducible refine wI ?_);cbv;(try dsimp only [nc] at *);(repeat' (with_reducible first|exact aO|exact oN|refine oC ?_ ?_|refine VC.mk rfl ?_ ?_ ?_|(apply Ca.mk<;>intro _)|(apply Cv.mk<;>intro zq<;>(try simp only [nc,cl] at zq)<;>(try simp only [bl,dl] at zq)<;>(revert zq;intro _))|((first|apply xE|apply uE);cbv;(try dsimp only [nc] at *))))))
  ((all_goals (try (with_reducible ((first|refine rE ?_|refine nE ?_);(focus (cbv;(try dsimp only [nc] at *);(try simp only [wl,nc]);(repeat' (with_reducible apply And.intro));all_goals (try exact wZ)))))));(all_goals (try ((with_reducible rw [aC]);(try simp only [wl,nc]);(repeat' (with_reducible apply And.intro));(all_goals (try exact cZ))))))
  · symm
    rw [← Bool.not_eq_true,hR]
    rintro ⟨h1,h2,h3,h4,h5,h6,h7⟩
    exact list_diff (x:=⟨#[]⟩) (j:=i) (by assumption) h5
  · rename_i h
    refine dE (i+1) ⟨⟨by omega,fun j hj=>?_⟩,by omega⟩ ?_
    · rcases Nat.lt_succ_iff_lt_or_eq.1 hj with hj|rfl
      · exact hi.2 j hj
      · exact h
    · (focus (cbv;(try dsimp only [nc] at *);(try simp only [wl,nc]);(repeat' (with_reducible apply And.intro));all_goals (try exact wZ)))
      exact w64n (by omega)
  have hW:s.words=t.words:=list_same (x:=⟨#[]⟩) hlw fun j hj=>hi.2 j (by omega)
  clear hi
  refine .loop (fun i:Nat=>⟨173,[(6,.int .i64 fun _=>i),(3,.ptr 3 0),(2,.ptr 2 0)],[(2,.box (cl' e (d+1) .any fun _=>s)),(3,.box (cl' e (d+1) .any fun _=>t))]⟩)
    (fun i=>i≤s.elem.length∧∀ j,j<i→s.elem.getD j default=t.elem.getD j default) (fun i=>s.elem.length - i) 0 (by simp) ?_ fun i E hi=>?_
  · (focus (cbv;(try dsimp only [nc] at *);(try simp only [wl,nc]);(repeat' (with_reducible apply And.intro));all_goals (try exact wZ)))
  apply AWp.wk tF mF [(11,[(10,.bool fun _=>decide (s.elem.getD i default=t.elem.getD i default),[])])] kp13 ?_
  (any_goals ((with_reducible refine wI ?_);cbv;(try dsimp only [nc] at *);(repeat' (with_reducible first|exact aO|exact oN|refine oC ?_ ?_|refine VC.mk rfl ?_ ?_ ?_|(apply Ca.mk<;>intro _)|(apply Cv.mk<;>intro zq<;>(try simp only [nc,cl] at zq)<;>(try simp only [bl,dl] at zq)<;>(revert zq;intro _))|((first|apply xE|apply uE);cbv;(try dsimp only [nc] at *))))))
  all_goals (try simp only [Int.toNat_natCast])
  any_goals (with_reducible first|refine nO ?_|refine sO (fun _=>?_))
  any_goals (exact ih (s.elem.getD i default) (t.elem.getD i default) (hs5 _ (getD_mem ‹_›)) (ht5 _ (getD_mem (by omega))))
  ((all_goals (try (with_reducible ((first|refine rE ?_|refine nE ?_);(focus (cbv;(try dsimp only [nc] at *);(try simp only [wl,nc]);(repeat' (with_reducible apply And.intro));all_goals (try exact wZ)))))));(all_goals (try ((with_reducible rw [aC]);(try simp only [wl,nc]);(repeat' (with_reducible apply And.intro));(all_goals (try exact cZ))))))
  · rename_i h
    symm
    rw [← Bool.not_eq_true,hR]
    rintro ⟨h1,h2,h3,h4,h5,h6,h7⟩
    exact list_diff (x:=default) (j:=i) (by simpa using h) h6
  · rename_i h
    refine dE (i+1) ⟨⟨by omega,fun j hj=>?_⟩,by omega⟩ ?_
    · rcases Nat.lt_succ_iff_lt_or_eq.1 hj with hj|rfl
      · exact hi.2 j hj
      · simpa using h
    · (focus (cbv;(try dsimp only [nc] at *);(try simp only [wl,nc]);(repeat' (with_reducible apply And.intro));all_goals (try exact wZ)))
      exact w64n (by omega)
  have hEl:s.elem=t.elem:=list_same (x:=default) hle fun j hj=>hi.2 j (by omega)
  clear hi
  refine .loop (fun i:Nat=>⟨173,[(7,.int .i64 fun _=>i),(3,.ptr 3 0),(2,.ptr 2 0)],[(2,.box (cl' e (d+1) .any fun _=>s)),(3,.box (cl' e (d+1) .any fun _=>t))]⟩)
    (fun i=>i≤s.fields.length∧∀ j,j<i→s.fields.getD j default=t.fields.getD j default) (fun i=>s.fields.length - i) 0 (by simp) ?_ fun i E hi=>?_
  · (focus (cbv;(try dsimp only [nc] at *);(try simp only [wl,nc]);(repeat' (with_reducible apply And.intro));all_goals (try exact wZ)))
  by_cases hlt:i<s.fields.length
  · obtain ⟨f,hf⟩:∃ f,f=s.fields.getD i default:=⟨_,rfl⟩
    obtain ⟨g,hg⟩:∃ g,g=t.fields.getD i default:=⟨_,rfl⟩
    have hfm:=hs6 f (by rw [hf];exact getD_mem hlt)
    have hgm:=ht6 g (by rw [hg];exact getD_mem (by omega))
    apply AWp.wk tF mF [(17,[(33,.bool fun _=>decide (fT f=fT g),[])])] kp13 ?_
    (any_goals ((with_reducible refine wI ?_);cbv;(try dsimp only [nc] at *);(repeat' (with_reducible first|exact aO|exact oN|refine oC ?_ ?_|refine VC.mk rfl ?_ ?_ ?_|(apply Ca.mk<;>intro _)|(apply Cv.mk<;>intro zq<;>(try simp only [nc,cl] at zq)<;>(try simp only [bl,dl] at zq)<;>(revert zq;intro _))|((first|apply xE|apply uE);cbv;(try dsimp only [nc] at *))))))
    all_goals (try simp only [Int.toNat_natCast,← hf,← hg])
    any_goals (with_reducible first|refine nO ?_|refine sO (fun _=>?_))
    any_goals (exact ih (fT f) (fT g) hfm.2.2.2 hgm.2.2.2)
    ((all_goals (try (with_reducible ((first|refine rE ?_|refine nE ?_);(focus (cbv;(try dsimp only [nc] at *);(try simp only [wl,nc]);(repeat' (with_reducible apply And.intro));all_goals (try exact wZ)))))));(all_goals (try ((with_reducible rw [aC]);(try simp only [wl,nc]);(repeat' (with_reducible apply And.intro));(all_goals (try exact cZ))))))
    · rename_i h
      rw [← hf,← hg] at h
      symm
      rw [← Bool.not_eq_true,hR]
      rintro ⟨h1,h2,h3,h4,h5,h6,h7⟩
      have hfg:f=g:=by rw [hf,hg,h7]
      rw [hfg] at h
      grind
    rename_i h
    rw [← hf,← hg] at h
    have hld:(fDef f).length=(fDef g).length:=by omega
    refine .loop (fun k:Nat=>⟨173,[(10,.int .i64 fun _=>k),(9,.ptr 9 0),(8,.ptr 8 0),(7,.int .i64 fun _=>i),(3,.ptr 3 0),(2,.ptr 2 0)],
        [(2,.box (cl' e (d+1) .any fun _=>s)),(3,.box (cl' e (d+1) .any fun _=>t)),(8,.box (cF e d .any fun _=>f)),(9,.box (cF e d .any fun _=>g))]⟩)
      (fun k=>k≤(fDef f).length∧∀ j,j<k→(fDef f).getD j default=(fDef g).getD j default) (fun k=>(fDef f).length - k) 0 (by simp) ?_ fun k E hk=>?_
    · (focus (cbv;(try dsimp only [nc] at *);(try simp only [wl,nc]);(repeat' (with_reducible apply And.intro));all_goals (try exact wZ)))
    apply AWp.wk tF mF [(22,[(10,.bool fun _=>decide ((fDef f).getD k default=(fDef g).getD k default),[])])] kp13 ?_
    (any_goals ((with_reducible refine wI ?_);cbv;(try dsimp only [nc] at *);(repeat' (with_reducible first|exact aO|exact oN|refine oC ?_ ?_|refine VC.mk rfl ?_ ?_ ?_|(apply Ca.mk<;>intro _)|(apply Cv.mk<;>intro zq<;>(try simp only [nc,cl] at zq)<;>(try simp only [bl,dl] at zq)<;>(revert zq;intro _))|((first|apply xE|apply uE);cbv;(try dsimp only [nc] at *))))))
    all_goals (try simp only [Int.toNat_natCast])
    any_goals (with_reducible first|refine nO ?_|refine sO (fun _=>?_))
    any_goals (exact refValSame_ok e ((fDef f).getD k default) ((fDef g).getD k default) (hfm.2.2.1 _ (getD_mem ‹_›)) (hgm.2.2.1 _ (getD_mem (by omega))))
    ((all_goals (try (with_reducible ((first|refine rE ?_|refine nE ?_);(focus (cbv;(try dsimp only [nc] at *);(try simp only [wl,nc]);(repeat' (with_reducible apply And.intro));all_goals (try exact wZ)))))));(all_goals (try ((with_reducible rw [aC]);(try simp only [wl,nc]);(repeat' (with_reducible apply And.intro));(all_goals (try exact cZ))))))
    · rename_i q
      symm
      rw [← Bool.not_eq_true,hR]
      rintro ⟨h1,h2,h3,h4,h5,h6,h7⟩
      have hfg:f=g:=by rw [hf,hg,h7]
      rw [hfg] at q
      simp at q
    · rename_i q
      refine dE (k+1) ⟨⟨by omega,fun j hj=>?_⟩,by omega⟩ ?_
      · rcases Nat.lt_succ_iff_lt_or_eq.1 hj with hj|rfl
        · exact hk.2 j hj
        · simpa using q
      · (focus (cbv;(try dsimp only [nc] at *);(try simp only [wl,nc]);(repeat' (with_reducible apply And.intro));all_goals (try exact wZ)))
        exact w64n (by omega)
    have hfg:f=g:=TF_eq_iff.2 ⟨h.1.1.1.1,h.1.1.1.2,h.1.1.2,h.2,list_same (x:=default) hld fun j hj=>hk.2 j (by omega)⟩
    refine dE (i+1) ⟨⟨by omega,fun j hj=>?_⟩,by omega⟩ ?_
    · rcases Nat.lt_succ_iff_lt_or_eq.1 hj with hj|rfl
      · exact hi.2 j hj
      · rw [← hf,← hg];exact hfg
    · (focus (cbv;(try dsimp only [nc] at *);(try simp only [wl,nc]);(repeat' (with_reducible apply And.intro));all_goals (try exact wZ)))
      exact w64n (by omega)
  apply AWp.wk tF mF [(17,[(33,.bool fun _=>true,[])])] kp13 ?_
  (any_goals ((with_reducible refine wI ?_);cbv;(try dsimp only [nc] at *);(repeat' (with_reducible first|exact aO|exact oN|refine oC ?_ ?_|refine VC.mk rfl ?_ ?_ ?_|(apply Ca.mk<;>intro _)|(apply Cv.mk<;>intro zq<;>(try simp only [nc,cl] at zq)<;>(try simp only [bl,dl] at zq)<;>(revert zq;intro _))|((first|apply xE|apply uE);cbv;(try dsimp only [nc] at *))))))
  all_goals (try exact absurd ‹i<s.fields.length› hlt)
  ((all_goals (try (with_reducible ((first|refine rE ?_|refine nE ?_);(focus (cbv;(try dsimp only [nc] at *);(try simp only [wl,nc]);(repeat' (with_reducible apply And.intro));all_goals (try exact wZ)))))));(all_goals (try ((with_reducible rw [aC]);(try simp only [wl,nc]);(repeat' (with_reducible apply And.intro));(all_goals (try exact cZ))))))
  symm
  rw [hR]
  exact ⟨hcd.1.1.1,hcd.1.1.2,hcd.1.2,hcd.2,hW,hEl,list_same (x:=default) hlf fun j hj=>hi.2 j (by omega)⟩
theorem refEqualT_ok (e:Nat):∀ (d:Nat) (s t:Ty),Ty.le e d s→Ty.le e d t→Af Tryz.prog 13 [encT e d .any fun _=>s,encT e d .any fun _=>t] [] (.bool fun _=>decide (s=t)) []
  | 0,_,_,h,_=>h.elim
  | d+1,s,t,hs,ht=>refEqualT_step e d s t hs ht fun x y hx hy=>refEqualT_ok e d x y hx hy
end Go.Ai
