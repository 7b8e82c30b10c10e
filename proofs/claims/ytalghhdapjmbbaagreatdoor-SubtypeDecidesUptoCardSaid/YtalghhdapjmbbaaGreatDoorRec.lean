/- Chapter 4: records of fields. -/
import Derived.Test.YtalghhdapjmbbaaGreatDoorFnE
import Derived.Test.YtalghhdapjmbbaaGreatDoorFnD
import Derived.Test.YtalghhdapjmbbaaGreatDoorSrt
set_option linter.all false
namespace Go.Ai
open Go Go.Proofs
set_option maxRecDepth 100000
set_option maxHeartbeats 2000000
theorem Record_ok (d:Nat) (l:List (ByteArray×V)) (hl:l.length≤1073741824) (hv:∀ x ∈ l,x.1.size≤1073741824∧V.le d x.2) :
    Af Tryz.prog 81 [slcF d .any fun _=>l] [] (encV (d+1) .new fun _=>recV l) []:=by
  have hkl:=keepR_len l
  have hS:=Sort_ok d .any false (keepR l) (by omega) (keepR_nodup l)
  have hle:=recV_le hl hv
  (apply Af.of tF mF [.cell 2 33] kp81 [(9,[(2,hS.out)]),(10,[(1,encV (d+1) .new fun _=>recV l,[(1001000005,.arr false 50 7 0 (fun _=>(keepR l).length) (fF d .any fun _=>sortN (keepR l)))])])] Tryz.func81 (fun _=>?_);(any_goals ((with_reducible refine wI ?_);cbv;(try dsimp only [nc] at *);(repeat' (with_reducible first|exact aO|exact oN|refine oC ?_ ?_|refine VC.mk rfl ?_ ?_ ?_|(apply Ca.mk<;>intro _)|(apply Cv.mk<;>intro zq<;>(try simp only [nc,cl] at zq)<;>(try simp only [bl,dl] at zq)<;>(revert zq;intro _))|((first|apply xE|apply uE);cbv;(try dsimp only [nc] at *)))))))
  ((all_goals (try (with_reducible ((first|refine rE ?_|refine nE ?_);(focus (cbv;(try dsimp only [nc] at *);(try simp only [wl,nc]);(repeat' (with_reducible apply And.intro));all_goals (try exact wZ)))))));(all_goals (try ((with_reducible rw [aC]);(try simp only [wl,nc]);(repeat' (with_reducible apply And.intro));(all_goals (try exact cZ))))))
  refine .loop (fun p:Nat×List (ByteArray×V)=>⟨41,[(10,.int .i64 fun _=>p.1),(9,.int .i64 fun _=>l.length),(8,slcF d .any fun _=>l),(3,.ptr 3 0),(2,.ptr 2 0),(0,slcF d .any fun _=>l)],
      [(2,.box (cells 1 .any fun _=>default)),(3,.box [.int .i64 fun _=>9,.int .i64 fun _=>0,.int .i64 fun _=>0,.str fun _=>⟨#[]⟩,.nil,.aref 33 0 fun _=>p.2.length]),(33,.arr false 50 7 0 (fun _=>p.2.length) (fF d .any fun _=>p.2))]⟩)
    (fun p=>p.1≤l.length∧p.2++keepR (l.drop p.1)=keepR l) (fun p=>l.length - p.1) (0,[]) (by simp) ?_ fun p E hi=>?_
  · (focus (cbv;(try dsimp only [nc] at *);(try simp only [wl,nc]);(repeat' (with_reducible apply And.intro));all_goals (try exact wZ)))
  have hi1:p.1≤l.length:=hi.1
  have hi2:p.2++keepR (l.drop p.1)=keepR l:=hi.2
  have hKl:p.2.length≤l.length:=by
    have:=congrArg List.length hi2
    have:=keepR_len l
    rw [List.length_append] at *;omega
  by_cases h:p.1<l.length
  · have hx:=hv _ (getD_mem (d:=default) h)
    have hdrop:l.drop p.1=l.getD p.1 default :: l.drop (p.1+1):=by
      rw [List.drop_eq_getElem_cons h];simp [List.getD,h]
    rw [hdrop] at hi2
    obtain ⟨y,hy⟩:∃ y,y=l.getD p.1 default:=⟨_,rfl⟩
    rw [← hy] at hi2 hx
    obtain ⟨r,hr⟩:∃ r,r=l.drop (p.1+1):=⟨_,rfl⟩
    rw [← hr] at hi2
    have hrl:r.length=l.length - (p.1+1):=by rw [hr];simp
    have hrg:∀ j,r.getD j default=l.getD (p.1+1+j) default:=fun j=>by rw [hr];simp [List.getD]
    have hC:=contains_ok d y (fun z=>decide (z.1=y.1) && !isNull z.2) r 123 (by omega) fun z _=>Record1_ok d z y
    obtain ⟨e,rfl⟩:=V.lP hx.2
    apply AWp.wk tF mF [(5,[(5,hC.out)]),(6,[(2,.bool (fun _=>?_),[])])] kp81 ?_
    (any_goals ((with_reducible refine wI ?_);cbv;(try dsimp only [nc] at *);(repeat' (with_reducible first|exact aO|exact oN|refine oC ?_ ?_|refine VC.mk rfl ?_ ?_ ?_|(apply Ca.mk<;>intro _)|(apply Cv.mk<;>intro zq<;>(try simp only [nc,cl] at zq)<;>(try simp only [bl,dl] at zq)<;>(revert zq;intro _))|((first|apply xE|apply uE);cbv;(try dsimp only [nc] at *))))))
    all_goals (try exact absurd h (Nat.not_lt.2 ‹l.length≤p.1›))
    (any_goals ((with_reducible refine bZ ?_)<;>exact (IsNull_ok _ _)))
    any_goals (refine nO ?_;(try dsimp only);refine Af.wN hC ?_;(focus (cbv;(try dsimp only [nc] at *);(try simp only [wl,nc]);(repeat' (with_reducible apply And.intro));all_goals (try exact wZ))))
    ((all_goals (try (with_reducible ((first|refine rE ?_|refine nE ?_);(focus (cbv;(try dsimp only [nc] at *);(try simp only [wl,nc]);(repeat' (with_reducible apply And.intro));all_goals (try exact wZ)))))));(all_goals (try ((with_reducible rw [aC]);(try simp only [wl,nc]);(repeat' (with_reducible apply And.intro));(all_goals (try exact cZ))))))
    all_goals (try simp only [Int.toNat_natCast,← hy])
    · rw [w64 (by omega) (by omega)];omega
    · intro j hj
      rw [w64 (by omega) (by omega)]
      refine LeL.of_eq ?_
      rw [hrg,show ((p.1:Int)+1).toNat=p.1+1 by omega]
    all_goals (try exact fun _ _=>LeL.of_eq rfl)
    · rename_i q
      have q2:(!isNull y.2 && !laterB y r)=true:=by
        by_cases h1:isNull y.2=false
        · rw [if_pos h1] at q;rw [h1];exact q
        · rw [if_neg h1] at q;cases q
      refine dE (p.1+1,p.2++[y]) ?_ ?_
      · refine ⟨⟨by simp only;omega,?_⟩,by simp only;omega⟩
        simp only [List.append_assoc,List.singleton_append,← hr]
        rw [← hi2,keepR,if_pos q2]
      (focus (cbv;(try dsimp only [nc] at *);(try simp only [wl,nc]);(repeat' (with_reducible apply And.intro));all_goals (try exact wZ)))
      · exact w64n (by omega)
      all_goals (try (simp;done))
      exact cat_le (n:=fun _=>p.2.length) (m:=1) (F:=fF (e+1) .any fun _=>p.2++[y]) (fun k hk=>LeL.of_eq (by simp only [fF,List.getD_eq_getElem?_getD];rw [List.getElem?_append_left hk])) (fun k hk=>by
        have:k=0:=by omega
        subst this
        refine LeL.of_eq ?_
        simp only [fF,List.getD_eq_getElem?_getD]
        rw [List.getElem?_append_right (by omega)]
        simp
        rfl)
    · rename_i q
      have q2:¬ (!isNull y.2 && !laterB y r)=true:=by
        by_cases h1:isNull y.2=false
        · rw [if_pos h1] at q;rw [h1]
          intro h2
          have h3:(!laterB y r)=true:=by simpa using h2
          unfold laterB at h3;rw [h3] at q;cases q
        · simp [h1]
      refine dE (p.1+1,p.2) ?_ ?_
      · refine ⟨⟨by simp only;omega,?_⟩,by simp only;omega⟩
        simp only [← hr]
        rw [← hi2,keepR,if_neg q2]
      (focus (cbv;(try dsimp only [nc] at *);(try simp only [wl,nc]);(repeat' (with_reducible apply And.intro));all_goals (try exact wZ)))
      · exact w64n (by omega)
  have hK:p.2=keepR l:=by
    rw [← hi2,List.drop_eq_nil_iff.2 (by omega),keepR,List.append_nil]
  apply AWp.wk tF mF [] kp81 ?_
  (any_goals ((with_reducible refine wI ?_);cbv;(try dsimp only [nc] at *);(repeat' (with_reducible first|exact aO|exact oN|refine oC ?_ ?_|refine VC.mk rfl ?_ ?_ ?_|(apply Ca.mk<;>intro _)|(apply Cv.mk<;>intro zq<;>(try simp only [nc,cl] at zq)<;>(try simp only [bl,dl] at zq)<;>(revert zq;intro _))|((first|apply xE|apply uE);cbv;(try dsimp only [nc] at *))))))
  all_goals (try exact absurd ‹p.1<l.length› h)
  · refine nO ?_
    dsimp only
    refine Af.wN hS ?_
    (focus (cbv;(try dsimp only [nc] at *);(try simp only [wl,nc]);(repeat' (with_reducible apply And.intro));all_goals (try exact wZ)))
    all_goals (first|(rw [hK];done)|(intro j hj;rw [hK];exact LeL.of_eq rfl))
  · refine nO ?_
    dsimp only
    refine (Clone_ok (d+1) (recV l) hle).borrow ?_ (pure_cells _ _ _) (fun av h=>?_) (pure_cells _ _ _) (fresh_encV _ _)
    · (focus (cbv;(try dsimp only [nc] at *);(try simp only [wl,nc]);(repeat' (with_reducible apply And.intro));all_goals (try exact wZ)))
      rw [hK]
      exact (sortN_len _).symm
    · simp at h;subst h
      exact nf_encV _ _
  ((all_goals (try (with_reducible ((first|refine rE ?_|refine nE ?_);(focus (cbv;(try dsimp only [nc] at *);(try simp only [wl,nc]);(repeat' (with_reducible apply And.intro));all_goals (try exact wZ)))))));(all_goals (try ((with_reducible rw [aC]);(try simp only [wl,nc]);(repeat' (with_reducible apply And.intro));(all_goals (try exact cZ))))))
end Go.Ai
