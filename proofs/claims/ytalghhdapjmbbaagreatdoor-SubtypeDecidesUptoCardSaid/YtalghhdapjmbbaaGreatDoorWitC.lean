/- Chapter 8: lists of least values. -/
import Derived.Test.YtalghhdapjmbbaaGreatDoorWitB
set_option linter.all false
namespace Go.Ai
open Go Go.Proofs
set_option maxRecDepth 100000
set_option maxHeartbeats 4000000
theorem cloneV_own (c:Nat) (l:List V) (hl:l.length≤1073741824):Af Tryz.prog 77 [slcV c .any fun _=>l] [] (.aref 5 1 fun _=>l.length) [(5,.arr false 33 6 1 (fun _=>l.length) (listF c .any fun _=>l))]:=by
  (apply Af.of tF mF [.tmp 2] kp77 [] Tryz.func77 (fun _=>?_);(any_goals ((with_reducible refine wI ?_);cbv;(try dsimp only [nc] at *);(repeat' (with_reducible first|exact aO|exact oN|refine oC ?_ ?_|refine VC.mk rfl ?_ ?_ ?_|(apply Ca.mk<;>intro _)|(apply Cv.mk<;>intro zq<;>(try simp only [nc,cl] at zq)<;>(try simp only [bl,dl] at zq)<;>(revert zq;intro _))|((first|apply xE|apply uE);cbv;(try dsimp only [nc] at *)))))))
  ((all_goals (try (with_reducible ((first|refine rE ?_|refine nE ?_);(focus (cbv;(try dsimp only [nc] at *);(try simp only [wl,nc]);(repeat' (with_reducible apply And.intro));all_goals (try exact wZ)))))));(all_goals (try ((with_reducible rw [aC]);(try simp only [wl,nc]);(repeat' (with_reducible apply And.intro));(all_goals (try exact cZ))))))
theorem lst_size (e d:Nat) (t:Ty) (ht:Ty.le (e+1) d t):sV (d+(e+1)) (lstW (e+1) d t).1≤4096:=by
  unfold lstW
  split
  · rename_i q
    have hq:=q
    unfold chkT at q
    split at q
    · exact absurd q ‹_›
    split at q
    · cases q
    · have h:=leastV_size (e+1) d t (chkT_ok ht hq) ht
      have hh:leastT (e+1) d t≤greatT (e+1) d t:=by
        obtain ⟨d,rfl⟩:=Ty.lP ht
        exact greatT_least
      have:=h (by omega)
      show sV (d+(e+1)) (leastV d t)≤4096
      omega
  · rw [show d+(e+1)=d+e+1 by omega]
    show sV (d+e+1) (.mk 0 0 0 ⟨#[]⟩ [] [])≤4096
    rw [size_leaf];decide
theorem listL_ex (e d:Nat) (t:Ty) (he:e+1≤1073741824) (hc:d+(e+1)≤1073741824) (ht:Ty.le (e+1) d t) (n:Int) (hn:n≤1024) (l:List V) (hl:l.length≤1) (hlv:∀ x ∈ l,V.le (d+(e+1)) x) :
    ∃ v b,V.le (d+(e+1)+1) v∧Af Tryz.prog 45 [.int .i64 fun _=>n,encT (e+1) d .any fun _=>t,slcV (d+(e+1)) .any fun _=>l] [] (.tup [encV (d+(e+1)+1) .any fun _=>v,.bool fun _=>b]) []:=by
  have h1:=lst_ok e d t he ht
  have h2:=lstW_le e d t ht
  have h3:=lst_size e d t ht
  obtain ⟨d,rfl⟩:=Ty.lP ht
  obtain ⟨c,hc'⟩:∃ c,d+1+(e+1)=c+1:=⟨d+1+e,by omega⟩
  rw [hc'] at h1 h2 h3 hc hlv ⊢
  generalize lstW (e+1) (d+1) t=W at h1 h2 h3
  obtain ⟨w,b⟩:=W
  simp only at h1 h2 h3
  have hS:=Size_ok c w h2 hc (Nat.le_trans h3 (by decide))
  obtain ⟨S,hSe⟩:∃ S:Int,S=sV (c+1) w:=⟨_,rfl⟩
  rw [← hSe] at hS
  have hS2:0≤S∧S≤4096:=by omega
  have hCl:=clone_up h2 (Nat.le_refl _)
  have hco:=cloneV_own (c+1) l (by omega)
  obtain ⟨m,hm⟩:∃ m:Int,m=l.length:=⟨_,rfl⟩
  by_cases q1:n≤m
  · refine ⟨lstV l,true,⟨by simp [lstV,V.list];omega,Nat.zero_le _,Nat.zero_le _,hlv,fun _ h=>(by cases h)⟩,?_⟩
    (apply Af.of tF mF [.cell 6 33,.tmp 7] kp45 [(1,[(1,.aref 5 1 fun _=>l.length,[(5,.arr false 33 6 1 (fun _=>l.length) (listF (c+1) .any fun _=>l))])]),(4,[(1,.tup [encV (c+1) .any fun _=>w,.bool fun _=>b],[])]),(5,[(8,.int .i64 fun _=>S,[])])] Tryz.func45 (fun _=>?_);(any_goals ((with_reducible refine wI ?_);cbv;(try dsimp only [nc] at *);(repeat' (with_reducible first|exact aO|exact oN|refine oC ?_ ?_|refine VC.mk rfl ?_ ?_ ?_|(apply Ca.mk<;>intro _)|(apply Cv.mk<;>intro zq<;>(try simp only [nc,cl] at zq)<;>(try simp only [bl,dl] at zq)<;>(revert zq;intro _))|((first|apply xE|apply uE);cbv;(try dsimp only [nc] at *)))))))
    all_goals (try (exfalso;omega))
    any_goals (refine nO ?_;first|exact hco)
    ((all_goals (try (with_reducible ((first|refine rE ?_|refine nE ?_);(focus (cbv;(try dsimp only [nc] at *);(try simp only [wl,nc]);(repeat' (with_reducible apply And.intro));all_goals (try exact wZ)))))));(all_goals (try ((with_reducible rw [aC]);(try simp only [wl,nc]);(repeat' (with_reducible apply And.intro));(all_goals (try exact cZ))))))
    all_goals rfl
  have hP:0≤(n - m) * S∧(n - m) * S≤4194304:=by
    have a1:=Int.mul_nonneg (show 0≤n - m by omega) hS2.1
    have a2:=Int.mul_le_mul_of_nonneg_right (show n - m≤1024 by omega) hS2.1
    omega
  have hw:IntKind.i64.wrap (IntKind.i64.wrap (n - (l.length:Int)) * S)=(n - m) * S:=by
    rw [show IntKind.i64.wrap (n - (l.length:Int))=n - m by rw [hm];exact w64 (by omega) (by omega)]
    exact w64 (by omega) (by omega)
  generalize (n - m) * S=P at hP hw
  by_cases q2:b=false∨4096<P
  · refine ⟨default,false,default_leV _,?_⟩
    (apply Af.of tF mF [.cell 6 33,.tmp 7] kp45 [(1,[(1,.aref 5 1 fun _=>l.length,[(5,.arr false 33 6 1 (fun _=>l.length) (listF (c+1) .any fun _=>l))])]),(4,[(1,.tup [encV (c+1) .any fun _=>w,.bool fun _=>b],[])]),(5,[(8,.int .i64 fun _=>S,[])])] Tryz.func45 (fun _=>?_);(any_goals ((with_reducible refine wI ?_);cbv;(try dsimp only [nc] at *);(repeat' (with_reducible first|exact aO|exact oN|refine oC ?_ ?_|refine VC.mk rfl ?_ ?_ ?_|(apply Ca.mk<;>intro _)|(apply Cv.mk<;>intro zq<;>(try simp only [nc,cl] at zq)<;>(try simp only [bl,dl] at zq)<;>(revert zq;intro _))|((first|apply xE|apply uE);cbv;(try dsimp only [nc] at *)))))))
    all_goals (try simp only [hw] at *)
    all_goals (try (exfalso;omega))
    any_goals (refine nO ?_;first|exact hco|exact h1)
    any_goals (with_reducible refine sO (fun _=>?_))<;>exact hS
    ((all_goals (try (with_reducible ((first|refine rE ?_|refine nE ?_);(focus (cbv;(try dsimp only [nc] at *);(try simp only [wl,nc]);(repeat' (with_reducible apply And.intro));all_goals (try exact wZ)))))));(all_goals (try ((with_reducible rw [aC]);(try simp only [wl,nc]);(repeat' (with_reducible apply And.intro));(all_goals (try exact cZ))))))
    have h:=‹b=true∧P≤4096›
    exfalso
    rcases q2 with q|q
    · rw [q] at h;exact absurd h.1 (by simp)
    · omega
  · have q3:b=true:=by cases b<;>simp at q2 ⊢
    subst q3
    have q4:¬ 4096<P:=fun h=>q2 (.inr h)
    refine ⟨lstV (l++List.replicate (n - m).toNat w),true,⟨by simp [lstV,V.list];omega,Nat.zero_le _,Nat.zero_le _,fun x hx=>by
      simp only [lstV,V.list] at hx
      rcases List.mem_append.1 hx with hx|hx
      · exact hlv x hx
      · rw [List.eq_of_mem_replicate hx];exact h2,fun _ h=>(by cases h)⟩,?_⟩
    (apply Af.of tF mF [.cell 6 33,.tmp 7] kp45 [(1,[(1,.aref 5 1 fun _=>l.length,[(5,.arr false 33 6 1 (fun _=>l.length) (listF (c+1) .any fun _=>l))])]),(4,[(1,.tup [encV (c+1) .any fun _=>w,.bool fun _=>true],[])]),(5,[(8,.int .i64 fun _=>S,[])])] Tryz.func45 (fun _=>?_);(any_goals ((with_reducible refine wI ?_);cbv;(try dsimp only [nc] at *);(repeat' (with_reducible first|exact aO|exact oN|refine oC ?_ ?_|refine VC.mk rfl ?_ ?_ ?_|(apply Ca.mk<;>intro _)|(apply Cv.mk<;>intro zq<;>(try simp only [nc,cl] at zq)<;>(try simp only [bl,dl] at zq)<;>(revert zq;intro _))|((first|apply xE|apply uE);cbv;(try dsimp only [nc] at *)))))))
    all_goals (try simp only [hw] at *)
    all_goals (try (exfalso;omega))
    any_goals (refine nO ?_;first|exact hco|exact h1)
    any_goals (with_reducible refine sO (fun _=>?_))<;>exact hS
    ((all_goals (try (with_reducible ((first|refine rE ?_|refine nE ?_);(focus (cbv;(try dsimp only [nc] at *);(try simp only [wl,nc]);(repeat' (with_reducible apply And.intro));all_goals (try exact wZ)))))));(all_goals (try ((with_reducible rw [aC]);(try simp only [wl,nc]);(repeat' (with_reducible apply And.intro));(all_goals (try exact cZ))))))
    all_goals (try (exfalso;(have h:=‹False∨4096<P›);rcases h with h|h;exact h;omega))
    obtain ⟨k,hk⟩:∃ k:Nat,n=l.length+k:=⟨(n - m).toNat,by omega⟩
    refine .loop (fun i:Nat=>⟨50,[(9,.ptr 9 0),(8,.ptr 8 0),(6,.ptr 6 0),(0,.int .i64 fun _=>n)],
        [(6,.box (cells 1 .any fun _=>default)),(9,.box (cells (c+1) .any fun _=>w)),(8,.box [.int .i64 fun _=>8,.int .i64 fun _=>0,.int .i64 fun _=>0,.str fun _=>⟨#[]⟩,.aref 130005 1 fun _=>l.length+i,.nil]),
         (130005,.arr false 33 6 1 (fun _=>l.length+i) (listF (c+1) .any fun _=>l++List.replicate i w))]⟩)
      (fun i=>i≤k) (fun i=>k - i) 0 (Nat.zero_le _) ?_ fun i E hi=>?_
    · (focus (cbv;(try dsimp only [nc] at *);(try simp only [wl,nc]);(repeat' (with_reducible apply And.intro));all_goals (try exact wZ)))
      all_goals (try (simp;done))
      all_goals (exact fun i _=>LeL.of_eq (by simp))
    by_cases h:i<k
    · apply AWp.wk tF mF [(8,[(3,encV (c+1) .any fun _=>w,[])])] kp45 ?_
      (any_goals ((with_reducible refine wI ?_);cbv;(try dsimp only [nc] at *);(repeat' (with_reducible first|exact aO|exact oN|refine oC ?_ ?_|refine VC.mk rfl ?_ ?_ ?_|(apply Ca.mk<;>intro _)|(apply Cv.mk<;>intro zq<;>(try simp only [nc,cl] at zq)<;>(try simp only [bl,dl] at zq)<;>(revert zq;intro _))|((first|apply xE|apply uE);cbv;(try dsimp only [nc] at *))))))
      all_goals (try (exfalso;omega))
      any_goals (refine nO ?_;exact hCl)
      ((all_goals (try (with_reducible ((first|refine rE ?_|refine nE ?_);(focus (cbv;(try dsimp only [nc] at *);(try simp only [wl,nc]);(repeat' (with_reducible apply And.intro));all_goals (try exact wZ)))))));(all_goals (try ((with_reducible rw [aC]);(try simp only [wl,nc]);(repeat' (with_reducible apply And.intro));(all_goals (try exact cZ))))))
      refine dE (i+1) ⟨by omega,by omega⟩ ?_
      (focus (cbv;(try dsimp only [nc] at *);(try simp only [wl,nc]);(repeat' (with_reducible apply And.intro));all_goals (try exact wZ)))
      refine cat_le (n:=fun _=>l.length+i) (m:=1) (F:=listF (c+1) .any fun _=>l++List.replicate (i+1) w) (fun j hj=>LeL.of_eq ?_) (fun j hj=>?_)
      · simp only [listF]
        rw [List.replicate_succ',← List.append_assoc]
        simp only [List.getD_eq_getElem?_getD]
        have q:(l++List.replicate i w++[w])[j]? = (l++List.replicate i w)[j]? := List.getElem?_append_left (by rw [List.length_append,List.length_replicate];exact hj)
        rw [q]
      · have:j=0:=by omega
        subst this
        refine LeL.of_eq ?_
        simp only [listF]
        rw [List.replicate_succ',← List.append_assoc]
        simp only [List.getD_eq_getElem?_getD]
        rw [List.getElem?_append_right (by rw [List.length_append,List.length_replicate];exact Nat.le_refl _)]
        simp
        rfl
    · obtain rfl:i=k:=by omega
      apply AWp.wk tF mF [] kp45 ?_
      (any_goals ((with_reducible refine wI ?_);cbv;(try dsimp only [nc] at *);(repeat' (with_reducible first|exact aO|exact oN|refine oC ?_ ?_|refine VC.mk rfl ?_ ?_ ?_|(apply Ca.mk<;>intro _)|(apply Cv.mk<;>intro zq<;>(try simp only [nc,cl] at zq)<;>(try simp only [bl,dl] at zq)<;>(revert zq;intro _))|((first|apply xE|apply uE);cbv;(try dsimp only [nc] at *))))))
      all_goals (try (exfalso;omega))
      ((all_goals (try (with_reducible ((first|refine rE ?_|refine nE ?_);(focus (cbv;(try dsimp only [nc] at *);(try simp only [wl,nc]);(repeat' (with_reducible apply And.intro));all_goals (try exact wZ)))))));(all_goals (try ((with_reducible rw [aC]);(try simp only [wl,nc]);(repeat' (with_reducible apply And.intro));(all_goals (try exact cZ))))))
      all_goals (rw [show (n - m).toNat=i by omega])
      all_goals first
        | rfl
        | (simp [lstV,V.list];done)
        | exact fun j _=>LeL.of_eq rfl
theorem cloneV_ref (c:Nat) (l:List V) (hl:l.length≤1073741824) (h0:0<l.length):Af Tryz.prog 77 [.aref 1000 0 fun _=>l.length] [(1000,.arr false 33 6 0 (fun _=>l.length) (listF c .any fun _=>l))] (.aref 5 1 fun _=>l.length) [(1000,.arr false 33 6 0 (fun _=>l.length) (listF c .any fun _=>l)),(5,.arr false 33 6 1 (fun _=>l.length) (listF c .any fun _=>l))]:=by
  (apply Af.of tF mF [.tmp 2] kp77 [] Tryz.func77 (fun _=>?_);(any_goals ((with_reducible refine wI ?_);cbv;(try dsimp only [nc] at *);(repeat' (with_reducible first|exact aO|exact oN|refine oC ?_ ?_|refine VC.mk rfl ?_ ?_ ?_|(apply Ca.mk<;>intro _)|(apply Cv.mk<;>intro zq<;>(try simp only [nc,cl] at zq)<;>(try simp only [bl,dl] at zq)<;>(revert zq;intro _))|((first|apply xE|apply uE);cbv;(try dsimp only [nc] at *)))))))
  ((all_goals (try (with_reducible ((first|refine rE ?_|refine nE ?_);(focus (cbv;(try dsimp only [nc] at *);(try simp only [wl,nc]);(repeat' (with_reducible apply And.intro));all_goals (try exact wZ)))))));(all_goals (try ((with_reducible rw [aC]);(try simp only [wl,nc]);(repeat' (with_reducible apply And.intro));(all_goals (try exact cZ))))))
theorem listR_ex (e d:Nat) (t:Ty) (he:e+1≤1073741824) (hc:d+(e+1)≤1073741824) (ht:Ty.le (e+1) d t) (n:Int) (hn:n≤1024) (l:List V) (hl:l.length≤1) (hl0:0<l.length) (hlv:∀ x ∈ l,V.le (d+(e+1)) x) :
    ∃ v b,V.le (d+(e+1)+1) v∧Af Tryz.prog 45 [.int .i64 fun _=>n,encT (e+1) d .any fun _=>t,.aref 1002 0 fun _=>l.length] [(1002,.arr false 33 6 0 (fun _=>l.length) (listF (d+(e+1)) .any fun _=>l))] (.tup [encV (d+(e+1)+1) .any fun _=>v,.bool fun _=>b]) [(1002,.arr false 33 6 0 (fun _=>l.length) (listF (d+(e+1)) .any fun _=>l))]:=by
  have h1:=lst_ok e d t he ht
  have h2:=lstW_le e d t ht
  have h3:=lst_size e d t ht
  obtain ⟨d,rfl⟩:=Ty.lP ht
  obtain ⟨c,hc'⟩:∃ c,d+1+(e+1)=c+1:=⟨d+1+e,by omega⟩
  rw [hc'] at h1 h2 h3 hc hlv ⊢
  generalize lstW (e+1) (d+1) t=W at h1 h2 h3
  obtain ⟨w,b⟩:=W
  simp only at h1 h2 h3
  have hS:=Size_ok c w h2 hc (Nat.le_trans h3 (by decide))
  obtain ⟨S,hSe⟩:∃ S:Int,S=sV (c+1) w:=⟨_,rfl⟩
  rw [← hSe] at hS
  have hS2:0≤S∧S≤4096:=by omega
  have hCl:=clone_up h2 (Nat.le_refl _)
  have hco:=cloneV_ref (c+1) l (by omega) hl0
  obtain ⟨m,hm⟩:∃ m:Int,m=l.length:=⟨_,rfl⟩
  by_cases q1:n≤m
  · refine ⟨lstV l,true,⟨by simp [lstV,V.list];omega,Nat.zero_le _,Nat.zero_le _,hlv,fun _ h=>(by cases h)⟩,?_⟩
    (apply Af.of tF mF [.cell 6 33,.tmp 7] kp45 [(1,[(1,.aref 5 1 fun _=>l.length,[(1000,.arr false 33 6 0 (fun _=>l.length) (listF (c+1) .any fun _=>l)),(5,.arr false 33 6 1 (fun _=>l.length) (listF (c+1) .any fun _=>l))])]),(4,[(1,.tup [encV (c+1) .any fun _=>w,.bool fun _=>b],[])]),(5,[(8,.int .i64 fun _=>S,[])])] Tryz.func45 (fun _=>?_);(any_goals ((with_reducible refine wI ?_);cbv;(try dsimp only [nc] at *);(repeat' (with_reducible first|exact aO|exact oN|refine oC ?_ ?_|refine VC.mk rfl ?_ ?_ ?_|(apply Ca.mk<;>intro _)|(apply Cv.mk<;>intro zq<;>(try simp only [nc,cl] at zq)<;>(try simp only [bl,dl] at zq)<;>(revert zq;intro _))|((first|apply xE|apply uE);cbv;(try dsimp only [nc] at *)))))))
    all_goals (try (exfalso;omega))
    any_goals (refine nO ?_;first|exact hco)
    ((all_goals (try (with_reducible ((first|refine rE ?_|refine nE ?_);(focus (cbv;(try dsimp only [nc] at *);(try simp only [wl,nc]);(repeat' (with_reducible apply And.intro));all_goals (try exact wZ)))))));(all_goals (try ((with_reducible rw [aC]);(try simp only [wl,nc]);(repeat' (with_reducible apply And.intro));(all_goals (try exact cZ))))))
    all_goals rfl
  have hP:0≤(n - m) * S∧(n - m) * S≤4194304:=by
    have a1:=Int.mul_nonneg (show 0≤n - m by omega) hS2.1
    have a2:=Int.mul_le_mul_of_nonneg_right (show n - m≤1024 by omega) hS2.1
    omega
  have hw:IntKind.i64.wrap (IntKind.i64.wrap (n - (l.length:Int)) * S)=(n - m) * S:=by
    rw [show IntKind.i64.wrap (n - (l.length:Int))=n - m by rw [hm];exact w64 (by omega) (by omega)]
    exact w64 (by omega) (by omega)
  generalize (n - m) * S=P at hP hw
  by_cases q2:b=false∨4096<P
  · refine ⟨default,false,default_leV _,?_⟩
    (apply Af.of tF mF [.cell 6 33,.tmp 7] kp45 [(1,[(1,.aref 5 1 fun _=>l.length,[(1000,.arr false 33 6 0 (fun _=>l.length) (listF (c+1) .any fun _=>l)),(5,.arr false 33 6 1 (fun _=>l.length) (listF (c+1) .any fun _=>l))])]),(4,[(1,.tup [encV (c+1) .any fun _=>w,.bool fun _=>b],[])]),(5,[(8,.int .i64 fun _=>S,[])])] Tryz.func45 (fun _=>?_);(any_goals ((with_reducible refine wI ?_);cbv;(try dsimp only [nc] at *);(repeat' (with_reducible first|exact aO|exact oN|refine oC ?_ ?_|refine VC.mk rfl ?_ ?_ ?_|(apply Ca.mk<;>intro _)|(apply Cv.mk<;>intro zq<;>(try simp only [nc,cl] at zq)<;>(try simp only [bl,dl] at zq)<;>(revert zq;intro _))|((first|apply xE|apply uE);cbv;(try dsimp only [nc] at *)))))))
    all_goals (try simp only [hw] at *)
    all_goals (try (exfalso;omega))
    any_goals (refine nO ?_;first|exact hco|exact h1)
    any_goals (with_reducible refine sO (fun _=>?_))<;>exact hS
    ((all_goals (try (with_reducible ((first|refine rE ?_|refine nE ?_);(focus (cbv;(try dsimp only [nc] at *);(try simp only [wl,nc]);(repeat' (with_reducible apply And.intro));all_goals (try exact wZ)))))));(all_goals (try ((with_reducible rw [aC]);(try simp only [wl,nc]);(repeat' (with_reducible apply And.intro));(all_goals (try exact cZ))))))
    have h:=‹b=true∧P≤4096›
    exfalso
    rcases q2 with q|q
    · rw [q] at h;exact absurd h.1 (by simp)
    · omega
  · have q3:b=true:=by cases b<;>simp at q2 ⊢
    subst q3
    have q4:¬ 4096<P:=fun h=>q2 (.inr h)
    refine ⟨lstV (l++List.replicate (n - m).toNat w),true,⟨by simp [lstV,V.list];omega,Nat.zero_le _,Nat.zero_le _,fun x hx=>by
      simp only [lstV,V.list] at hx
      rcases List.mem_append.1 hx with hx|hx
      · exact hlv x hx
      · rw [List.eq_of_mem_replicate hx];exact h2,fun _ h=>(by cases h)⟩,?_⟩
    (apply Af.of tF mF [.cell 6 33,.tmp 7] kp45 [(1,[(1,.aref 5 1 fun _=>l.length,[(1000,.arr false 33 6 0 (fun _=>l.length) (listF (c+1) .any fun _=>l)),(5,.arr false 33 6 1 (fun _=>l.length) (listF (c+1) .any fun _=>l))])]),(4,[(1,.tup [encV (c+1) .any fun _=>w,.bool fun _=>true],[])]),(5,[(8,.int .i64 fun _=>S,[])])] Tryz.func45 (fun _=>?_);(any_goals ((with_reducible refine wI ?_);cbv;(try dsimp only [nc] at *);(repeat' (with_reducible first|exact aO|exact oN|refine oC ?_ ?_|refine VC.mk rfl ?_ ?_ ?_|(apply Ca.mk<;>intro _)|(apply Cv.mk<;>intro zq<;>(try simp only [nc,cl] at zq)<;>(try simp only [bl,dl] at zq)<;>(revert zq;intro _))|((first|apply xE|apply uE);cbv;(try dsimp only [nc] at *)))))))
    all_goals (try simp only [hw] at *)
    all_goals (try (exfalso;omega))
    any_goals (refine nO ?_;first|exact hco|exact h1)
    any_goals (with_reducible refine sO (fun _=>?_))<;>exact hS
    ((all_goals (try (with_reducible ((first|refine rE ?_|refine nE ?_);(focus (cbv;(try dsimp only [nc] at *);(try simp only [wl,nc]);(repeat' (with_reducible apply And.intro));all_goals (try exact wZ)))))));(all_goals (try ((with_reducible rw [aC]);(try simp only [wl,nc]);(repeat' (with_reducible apply And.intro));(all_goals (try exact cZ))))))
    all_goals (try (exfalso;(have h:=‹False∨4096<P›);rcases h with h|h;exact h;omega))
    obtain ⟨k,hk⟩:∃ k:Nat,n=l.length+k:=⟨(n - m).toNat,by omega⟩
    refine .loop (fun i:Nat=>⟨50,[(9,.ptr 9 0),(8,.ptr 8 0),(6,.ptr 6 0),(0,.int .i64 fun _=>n)],
        [(6,.box (cells 1 .any fun _=>default)),(9,.box (cells (c+1) .any fun _=>w)),(8,.box [.int .i64 fun _=>8,.int .i64 fun _=>0,.int .i64 fun _=>0,.str fun _=>⟨#[]⟩,.aref 130005 1 fun _=>l.length+i,.nil]),
         (1002,.arr false 33 6 0 (fun _=>l.length) (listF (c+1) .any fun _=>l)),(130005,.arr false 33 6 1 (fun _=>l.length+i) (listF (c+1) .any fun _=>l++List.replicate i w))]⟩)
      (fun i=>i≤k) (fun i=>k - i) 0 (Nat.zero_le _) ?_ fun i E hi=>?_
    · (focus (cbv;(try dsimp only [nc] at *);(try simp only [wl,nc]);(repeat' (with_reducible apply And.intro));all_goals (try exact wZ)))
      all_goals (try (simp;done))
      all_goals (exact fun i _=>LeL.of_eq (by simp))
    by_cases h:i<k
    · apply AWp.wk tF mF [(8,[(3,encV (c+1) .any fun _=>w,[])])] kp45 ?_
      (any_goals ((with_reducible refine wI ?_);cbv;(try dsimp only [nc] at *);(repeat' (with_reducible first|exact aO|exact oN|refine oC ?_ ?_|refine VC.mk rfl ?_ ?_ ?_|(apply Ca.mk<;>intro _)|(apply Cv.mk<;>intro zq<;>(try simp only [nc,cl] at zq)<;>(try simp only [bl,dl] at zq)<;>(revert zq;intro _))|((first|apply xE|apply uE);cbv;(try dsimp only [nc] at *))))))
      all_goals (try (exfalso;omega))
      any_goals (refine nO ?_;exact hCl)
      ((all_goals (try (with_reducible ((first|refine rE ?_|refine nE ?_);(focus (cbv;(try dsimp only [nc] at *);(try simp only [wl,nc]);(repeat' (with_reducible apply And.intro));all_goals (try exact wZ)))))));(all_goals (try ((with_reducible rw [aC]);(try simp only [wl,nc]);(repeat' (with_reducible apply And.intro));(all_goals (try exact cZ))))))
      refine dE (i+1) ⟨by omega,by omega⟩ ?_
      (focus (cbv;(try dsimp only [nc] at *);(try simp only [wl,nc]);(repeat' (with_reducible apply And.intro));all_goals (try exact wZ)))
      refine cat_le (n:=fun _=>l.length+i) (m:=1) (F:=listF (c+1) .any fun _=>l++List.replicate (i+1) w) (fun j hj=>LeL.of_eq ?_) (fun j hj=>?_)
      · simp only [listF]
        rw [List.replicate_succ',← List.append_assoc]
        simp only [List.getD_eq_getElem?_getD]
        have q:(l++List.replicate i w++[w])[j]? = (l++List.replicate i w)[j]? := List.getElem?_append_left (by rw [List.length_append,List.length_replicate];exact hj)
        rw [q]
      · have:j=0:=by omega
        subst this
        refine LeL.of_eq ?_
        simp only [listF]
        rw [List.replicate_succ',← List.append_assoc]
        simp only [List.getD_eq_getElem?_getD]
        rw [List.getElem?_append_right (by rw [List.length_append,List.length_replicate];exact Nat.le_refl _)]
        simp
        rfl
    · obtain rfl:i=k:=by omega
      apply AWp.wk tF mF [] kp45 ?_
      (any_goals ((with_reducible refine wI ?_);cbv;(try dsimp only [nc] at *);(repeat' (with_reducible first|exact aO|exact oN|refine oC ?_ ?_|refine VC.mk rfl ?_ ?_ ?_|(apply Ca.mk<;>intro _)|(apply Cv.mk<;>intro zq<;>(try simp only [nc,cl] at zq)<;>(try simp only [bl,dl] at zq)<;>(revert zq;intro _))|((first|apply xE|apply uE);cbv;(try dsimp only [nc] at *))))))
      all_goals (try (exfalso;omega))
      ((all_goals (try (with_reducible ((first|refine rE ?_|refine nE ?_);(focus (cbv;(try dsimp only [nc] at *);(try simp only [wl,nc]);(repeat' (with_reducible apply And.intro));all_goals (try exact wZ)))))));(all_goals (try ((with_reducible rw [aC]);(try simp only [wl,nc]);(repeat' (with_reducible apply And.intro));(all_goals (try exact cZ))))))
      all_goals (rw [show (n - m).toNat=i by omega])
      all_goals first
        | rfl
        | (simp [lstV,V.list];done)
        | exact fun j _=>LeL.of_eq rfl
def recS (name:ByteArray) (x:List V) (L:Ty→V×Bool):List TF→FL→Option FL
  | [],l=>some l
  | f :: r,l=>if fM f=name∧0<x.length then recS name x L r (l++[(fM f,x.getD 0 default)]) else
    if fN f=1 then (if (L (fT f)).2=true then recS name x L r (l++[(fM f,(L (fT f)).1)]) else none) else
    if fN f=3 then recS name x L r (l++[(fM f,(fDef f).getD 0 default)]) else recS name x L r l
theorem recS_mem {name:ByteArray} {x:List V} {L:Ty→V×Bool} {p:ByteArray×V→Prop}:∀ (fs:List TF) (l Y:FL),(∀ f ∈ fs,(0<x.length→p (fM f,x.getD 0 default))∧p (fM f,(L (fT f)).1)∧p (fM f,(fDef f).getD 0 default))→(∀ y ∈ l,p y)→recS name x L fs l=some Y→(∀ y ∈ Y,p y)∧Y.length≤l.length+fs.length
  | [],l,Y,_,hl,hY=>by simp only [recS,Option.some.injEq] at hY;subst hY;exact ⟨hl,by simp⟩
  | f :: r,l,Y,hp,hl,hY=>by
    obtain ⟨p1,p2,p3⟩:=hp f (List.mem_cons_self ..)
    have hr:=fun g hg=>hp g (List.mem_cons_of_mem _ hg)
    have go:∀ z,p z→recS name x L r (l++[z])=some Y→(∀ y ∈ Y,p y)∧Y.length≤l.length+(f :: r).length:=fun z hz q=>by
      obtain ⟨a,b⟩:=recS_mem r (l++[z]) Y hr (fun y hy=>by
        rcases List.mem_append.1 hy with hy|hy
        · exact hl y hy
        · rw [List.mem_singleton] at hy;rw [hy];exact hz) q
      refine ⟨a,?_⟩
      simp only [List.length_append,List.length_cons,List.length_nil] at b ⊢
      omega
    simp only [recS] at hY
    split at hY
    · exact go _ (p1 (by rename_i q;exact q.2)) hY
    split at hY
    · split at hY
      · exact go _ p2 hY
      · cases hY
    split at hY
    · exact go _ p3 hY
    · obtain ⟨a,b⟩:=recS_mem r l Y hr hl hY
      exact ⟨a,by simp only [List.length_cons];omega⟩
theorem recordW_ex (e d:Nat) (t:Ty) (he:e+1≤1073741824) (hc:d+(e+1)≤1073741824) (ht:Ty.le (e+1) (d+1) t) (hlen:t.fields.length≤64) (hd:∀ x ∈ t.fields,fN x=3→0<(fDef x).length)
    (name:ByteArray) (x:List V) (hx:x.length≤1) (hxv:∀ y ∈ x,V.le (d+(e+1)) y) :
    ∃ v b,V.le (d+(e+1)+1) v∧Af Tryz.prog 48 [encT (e+1) (d+1) .any fun _=>t,.str fun _=>name,slcV (d+(e+1)) .any fun _=>x] [] (.tup [encV (d+(e+1)+1) .any fun _=>v,.bool fun _=>b]) []:=by
  have h1:=fun (f:TF) (hf:f ∈ t.fields)=>lst_ok e d (fT f) he (ht.2.2.2.2.2 f hf).2.2.2
  have h2:=fun (f:TF) (hf:f ∈ t.fields)=>lstW_le e d (fT f) (ht.2.2.2.2.2 f hf).2.2.2
  have hdl:=fun (f:TF) (hf:f ∈ t.fields)=>def_leV ht hf (d+(e+1)) (by omega) (by omega)
  obtain ⟨c,hcc⟩:∃ c,d+(e+1)=c+1:=⟨d+e,by omega⟩
  rw [hcc] at h1 h2 hdl hxv hc ⊢
  have hec:e+1≤c+1:=by omega
  generalize lstW (e+1) d=L at h1 h2
  obtain ⟨R,hR⟩:∃ R,R=recS name x L t.fields []:=⟨_,rfl⟩
  have hfd:=ht.2.2.2.2.2
  have hfl:=ht.2.2.2.1
  have hCl:=fun (f:TF) (hf:f ∈ t.fields) (q:fN f=3)=>clone_up ((hfd f hf).2.2.1 _ (gD (x:=default) (hd f hf q))) hec
  cases R with
  | none =>
    refine ⟨default,false,default_leV _,?_⟩
    (apply Af.of tF mF [.cell 6 33,.tmp 7] kp48 [(15,[(1,encV (c+2) .any fun _=>default,[])])] Tryz.func48 (fun _=>?_);(any_goals ((with_reducible refine wI ?_);cbv;(try dsimp only [nc] at *);(repeat' (with_reducible first|exact aO|exact oN|refine oC ?_ ?_|refine VC.mk rfl ?_ ?_ ?_|(apply Ca.mk<;>intro _)|(apply Cv.mk<;>intro zq<;>(try simp only [nc,cl] at zq)<;>(try simp only [bl,dl] at zq)<;>(revert zq;intro _))|((first|apply xE|apply uE);cbv;(try dsimp only [nc] at *)))))))
    ((all_goals (try (with_reducible ((first|refine rE ?_|refine nE ?_);(focus (cbv;(try dsimp only [nc] at *);(try simp only [wl,nc]);(repeat' (with_reducible apply And.intro));all_goals (try exact wZ)))))));(all_goals (try ((with_reducible rw [aC]);(try simp only [wl,nc]);(repeat' (with_reducible apply And.intro));(all_goals (try exact cZ))))))
    refine .loop (fun p:Nat×FL=>⟨77,[(16,.int .i64 fun _=>p.1),(15,.int .i64 fun _=>t.fields.length),(14,slcTF (e+1) d .any fun _=>t.fields),(8,.aref 38 0 fun _=>p.2.length),(6,.ptr 6 0),(1,.str fun _=>name),(2,slcV (c+1) .any fun _=>x)],
        [(6,.box (cells 1 .any fun _=>default)),(38,.arr false 50 7 0 (fun _=>p.2.length) (fF (c+1) .any fun _=>p.2))]⟩)
      (fun p=>p.1≤t.fields.length∧p.2.length≤p.1∧none=recS name x L (t.fields.drop p.1) p.2) (fun p=>t.fields.length - p.1) (0,[]) ⟨Nat.zero_le _,Nat.le_refl _,by rw [List.drop_zero];exact hR⟩ ?_ fun p E hi=>?_
    · (focus (cbv;(try dsimp only [nc] at *);(try simp only [wl,nc]);(repeat' (with_reducible apply And.intro));all_goals (try exact wZ)))
    obtain ⟨i1,i2,i3⟩:=hi
    by_cases hlt:p.1<t.fields.length
    · obtain ⟨f,hf⟩:∃ f,f=t.fields.getD p.1 default:=⟨_,rfl⟩
      have hfm:f ∈ t.fields:=by rw [hf];exact gD hlt
      have hdr:t.fields.drop p.1=f :: t.fields.drop (p.1+1):=by
        rw [List.drop_eq_getElem_cons hlt,hf];simp [List.getD,hlt]
      rw [hdr,recS] at i3
      have g1:=h1 f hfm
      obtain ⟨z,hz⟩:∃ z,z=(fDef f).getD 0 default:=⟨_,rfl⟩
      have hd3:fN f=3→0<(fDef f).length:=hd f hfm
      have gC:=hCl f hfm
      rw [← hz] at i3 gC
      have h00:Int.toNat 0=0:=rfl
      obtain ⟨w,hw⟩:∃ w,w=(L (fT f)).1:=⟨_,rfl⟩
      obtain ⟨b,hb⟩:∃ b,b=(L (fT f)).2:=⟨_,rfl⟩
      obtain ⟨y,hy⟩:∃ y,y=x.getD 0 default:=⟨_,rfl⟩
      rw [← hw,← hb,← hy] at i3
      rw [← hw,← hb] at g1
      clear h1 h2 hCl hdl hxv hfd
      have hneg:(¬fM f=name∨(x.length:Int)≤0)→¬(fM f=name∧0<x.length):=fun q r=>q.elim (fun h=>h r.1) fun h=>by have:=r.2;omega
      apply AWp.wk tF mF [(8,[(2,.tup [encV (c+1) .any fun _=>w,.bool fun _=>b],[])]),(13,[(7,encV (c+1) .any fun _=>z,[])])] kp48 ?_
      (any_goals ((with_reducible refine wI ?_);cbv;(try dsimp only [nc] at *);(repeat' (with_reducible first|exact aO|exact oN|refine oC ?_ ?_|refine VC.mk rfl ?_ ?_ ?_|(apply Ca.mk<;>intro _)|(apply Cv.mk<;>intro zq<;>(try simp only [nc,cl] at zq)<;>(try simp only [bl,dl] at zq)<;>(revert zq;intro _))|((first|apply xE|apply uE);cbv;(try dsimp only [nc] at *))))))
      all_goals (try (exact absurd hlt (Nat.not_lt.2 ‹t.fields.length≤p.1›)))
      all_goals (try (have hq3:=hd3 (by rw [hf];exact ‹fN (t.fields.getD p.1 default)=3›)))
      all_goals (try simp only [Int.toNat_natCast,h00,← hf,← hz,← hy])
      any_goals (refine nO ?_;first|exact g1|exact gC (by rw [hf];assumption))
      ((all_goals (try (with_reducible ((first|refine rE ?_|refine nE ?_);(focus (cbv;(try dsimp only [nc] at *);(try simp only [wl,nc]);(repeat' (with_reducible apply And.intro));all_goals (try exact wZ)))))));(all_goals (try ((with_reducible rw [aC]);(try simp only [wl,nc]);(repeat' (with_reducible apply And.intro));(all_goals (try exact cZ))))))
      all_goals (try rw [← hf] at *)
      · rw [if_pos ⟨‹fM f=name∧0<(x.length:Int)›.1,by have:=‹fM f=name∧0<(x.length:Int)›.2;omega⟩] at i3
        refine dE (p.1+1,p.2++[(fM f,y)]) ⟨⟨by show p.1+1≤_;omega,by simp only [List.length_append,List.length_cons,List.length_nil];omega,i3⟩,by show t.fields.length - (p.1+1)<_;omega⟩ ?_
        (focus (cbv;(try dsimp only [nc] at *);(try simp only [wl,nc]);(repeat' (with_reducible apply And.intro));all_goals (try exact wZ)))
        · exact w64n (by omega)
        all_goals first
          | (simp;done)
          | exact fld_cat
      · rw [if_neg (hneg ‹_›),if_pos ‹fN f=1›,if_pos ‹b=true›] at i3
        refine dE (p.1+1,p.2++[(fM f,w)]) ⟨⟨by show p.1+1≤_;omega,by simp only [List.length_append,List.length_cons,List.length_nil];omega,i3⟩,by show t.fields.length - (p.1+1)<_;omega⟩ ?_
        (focus (cbv;(try dsimp only [nc] at *);(try simp only [wl,nc]);(repeat' (with_reducible apply And.intro));all_goals (try exact wZ)))
        · exact w64n (by omega)
        all_goals first
          | (simp;done)
          | exact fld_cat
      · rw [if_neg (hneg ‹_›),if_neg ‹¬fN f=1›,if_pos ‹fN f=3›] at i3
        refine dE (p.1+1,p.2++[(fM f,z)]) ⟨⟨by show p.1+1≤_;omega,by simp only [List.length_append,List.length_cons,List.length_nil];omega,i3⟩,by show t.fields.length - (p.1+1)<_;omega⟩ ?_
        (focus (cbv;(try dsimp only [nc] at *);(try simp only [wl,nc]);(repeat' (with_reducible apply And.intro));all_goals (try exact wZ)))
        · exact w64n (by omega)
        all_goals first
          | (simp;done)
          | exact fld_cat
      · rw [if_neg (hneg ‹_›),if_neg ‹¬fN f=1›,if_neg ‹¬fN f=3›] at i3
        refine dE (p.1+1,p.2) ⟨⟨by show p.1+1≤_;omega,by show p.2.length≤p.1+1;omega,i3⟩,by show t.fields.length - (p.1+1)<_;omega⟩ ?_
        (focus (cbv;(try dsimp only [nc] at *);(try simp only [wl,nc]);(repeat' (with_reducible apply And.intro));all_goals (try exact wZ)))
        exact w64n (by omega)
    · have hp:p.1=t.fields.length:=by omega
      have hdn:t.fields.drop p.1=[]:=List.drop_eq_nil_iff.2 (by omega)
      rw [hdn,recS] at i3
      cases i3
  | some Y =>
    have hY:=recS_mem (p:=fun x=>x.1.size≤1073741824∧V.le (c+1) x.2) t.fields [] Y (fun f hf=>⟨fun q=>⟨(hfd f hf).1,hxv _ (gD q)⟩,⟨(hfd f hf).1,h2 f hf⟩,hdl f hf⟩) (fun _ h=>by cases h) hR.symm
    have hRo:=Record_own (c+1) Y (by have:=hY.2;simp at this;omega) hY.1
    refine ⟨recV Y,true,recV_le (by have:=hY.2;simp at this;omega) hY.1,?_⟩
    clear hY
    (apply Af.of tF mF [.cell 6 33,.tmp 7] kp48 [(15,[(1,encV (c+2) .new fun _=>recV Y,[(1000,ownF (c+1) Y)])])] Tryz.func48 (fun _=>?_);(any_goals ((with_reducible refine wI ?_);cbv;(try dsimp only [nc] at *);(repeat' (with_reducible first|exact aO|exact oN|refine oC ?_ ?_|refine VC.mk rfl ?_ ?_ ?_|(apply Ca.mk<;>intro _)|(apply Cv.mk<;>intro zq<;>(try simp only [nc,cl] at zq)<;>(try simp only [bl,dl] at zq)<;>(revert zq;intro _))|((first|apply xE|apply uE);cbv;(try dsimp only [nc] at *)))))))
    ((all_goals (try (with_reducible ((first|refine rE ?_|refine nE ?_);(focus (cbv;(try dsimp only [nc] at *);(try simp only [wl,nc]);(repeat' (with_reducible apply And.intro));all_goals (try exact wZ)))))));(all_goals (try ((with_reducible rw [aC]);(try simp only [wl,nc]);(repeat' (with_reducible apply And.intro));(all_goals (try exact cZ))))))
    refine .loop (fun p:Nat×FL=>⟨77,[(16,.int .i64 fun _=>p.1),(15,.int .i64 fun _=>t.fields.length),(14,slcTF (e+1) d .any fun _=>t.fields),(8,.aref 38 0 fun _=>p.2.length),(6,.ptr 6 0),(1,.str fun _=>name),(2,slcV (c+1) .any fun _=>x)],
        [(6,.box (cells 1 .any fun _=>default)),(38,.arr false 50 7 0 (fun _=>p.2.length) (fF (c+1) .any fun _=>p.2))]⟩)
      (fun p=>p.1≤t.fields.length∧p.2.length≤p.1∧some Y=recS name x L (t.fields.drop p.1) p.2) (fun p=>t.fields.length - p.1) (0,[]) ⟨Nat.zero_le _,Nat.le_refl _,by rw [List.drop_zero];exact hR⟩ ?_ fun p E hi=>?_
    · (focus (cbv;(try dsimp only [nc] at *);(try simp only [wl,nc]);(repeat' (with_reducible apply And.intro));all_goals (try exact wZ)))
    obtain ⟨i1,i2,i3⟩:=hi
    by_cases hlt:p.1<t.fields.length
    · obtain ⟨f,hf⟩:∃ f,f=t.fields.getD p.1 default:=⟨_,rfl⟩
      have hfm:f ∈ t.fields:=by rw [hf];exact gD hlt
      have hdr:t.fields.drop p.1=f :: t.fields.drop (p.1+1):=by
        rw [List.drop_eq_getElem_cons hlt,hf];simp [List.getD,hlt]
      rw [hdr,recS] at i3
      have g1:=h1 f hfm
      obtain ⟨z,hz⟩:∃ z,z=(fDef f).getD 0 default:=⟨_,rfl⟩
      have hd3:fN f=3→0<(fDef f).length:=hd f hfm
      have gC:=hCl f hfm
      rw [← hz] at i3 gC
      have h00:Int.toNat 0=0:=rfl
      obtain ⟨w,hw⟩:∃ w,w=(L (fT f)).1:=⟨_,rfl⟩
      obtain ⟨b,hb⟩:∃ b,b=(L (fT f)).2:=⟨_,rfl⟩
      obtain ⟨y,hy⟩:∃ y,y=x.getD 0 default:=⟨_,rfl⟩
      rw [← hw,← hb,← hy] at i3
      rw [← hw,← hb] at g1
      clear h1 h2 hCl hdl hxv hfd
      have hneg:(¬fM f=name∨(x.length:Int)≤0)→¬(fM f=name∧0<x.length):=fun q r=>q.elim (fun h=>h r.1) fun h=>by have:=r.2;omega
      have hE:b=false→fN f=1→(¬fM f=name∨(x.length:Int)≤0)→False:=fun q r s=>by
        rw [if_neg (hneg s),if_pos r,if_neg (by rw [q];simp)] at i3;cases i3
      apply AWp.wk tF mF [(8,[(2,.tup [encV (c+1) .any fun _=>w,.bool fun _=>b],[])]),(13,[(7,encV (c+1) .any fun _=>z,[])])] kp48 ?_
      (any_goals ((with_reducible refine wI ?_);cbv;(try dsimp only [nc] at *);(repeat' (with_reducible first|exact aO|exact oN|refine oC ?_ ?_|refine VC.mk rfl ?_ ?_ ?_|(apply Ca.mk<;>intro _)|(apply Cv.mk<;>intro zq<;>(try simp only [nc,cl] at zq)<;>(try simp only [bl,dl] at zq)<;>(revert zq;intro _))|((first|apply xE|apply uE);cbv;(try dsimp only [nc] at *))))))
      all_goals (try (exact absurd hlt (Nat.not_lt.2 ‹t.fields.length≤p.1›)))
      all_goals (try (have hq3:=hd3 (by rw [hf];exact ‹fN (t.fields.getD p.1 default)=3›)))
      all_goals (try simp only [Int.toNat_natCast,h00,← hf,← hz,← hy])
      any_goals (refine nO ?_;first|exact g1|exact gC (by rw [hf];assumption))
      ((all_goals (try (with_reducible ((first|refine rE ?_|refine nE ?_);(focus (cbv;(try dsimp only [nc] at *);(try simp only [wl,nc]);(repeat' (with_reducible apply And.intro));all_goals (try exact wZ)))))));(all_goals (try ((with_reducible rw [aC]);(try simp only [wl,nc]);(repeat' (with_reducible apply And.intro));(all_goals (try exact cZ))))))
      all_goals (try rw [← hf] at *)
      all_goals (try (exact (hE ‹b=false› ‹fN f=1› ‹¬fM f=name∨(x.length:Int)≤0›).elim))
      · rw [if_pos ⟨‹fM f=name∧0<(x.length:Int)›.1,by have:=‹fM f=name∧0<(x.length:Int)›.2;omega⟩] at i3
        refine dE (p.1+1,p.2++[(fM f,y)]) ⟨⟨by show p.1+1≤_;omega,by simp only [List.length_append,List.length_cons,List.length_nil];omega,i3⟩,by show t.fields.length - (p.1+1)<_;omega⟩ ?_
        (focus (cbv;(try dsimp only [nc] at *);(try simp only [wl,nc]);(repeat' (with_reducible apply And.intro));all_goals (try exact wZ)))
        · exact w64n (by omega)
        all_goals first
          | (simp;done)
          | exact fld_cat
      · rw [if_neg (hneg ‹_›),if_pos ‹fN f=1›,if_pos ‹b=true›] at i3
        refine dE (p.1+1,p.2++[(fM f,w)]) ⟨⟨by show p.1+1≤_;omega,by simp only [List.length_append,List.length_cons,List.length_nil];omega,i3⟩,by show t.fields.length - (p.1+1)<_;omega⟩ ?_
        (focus (cbv;(try dsimp only [nc] at *);(try simp only [wl,nc]);(repeat' (with_reducible apply And.intro));all_goals (try exact wZ)))
        · exact w64n (by omega)
        all_goals first
          | (simp;done)
          | exact fld_cat
      · rw [if_neg (hneg ‹_›),if_neg ‹¬fN f=1›,if_pos ‹fN f=3›] at i3
        refine dE (p.1+1,p.2++[(fM f,z)]) ⟨⟨by show p.1+1≤_;omega,by simp only [List.length_append,List.length_cons,List.length_nil];omega,i3⟩,by show t.fields.length - (p.1+1)<_;omega⟩ ?_
        (focus (cbv;(try dsimp only [nc] at *);(try simp only [wl,nc]);(repeat' (with_reducible apply And.intro));all_goals (try exact wZ)))
        · exact w64n (by omega)
        all_goals first
          | (simp;done)
          | exact fld_cat
      · rw [if_neg (hneg ‹_›),if_neg ‹¬fN f=1›,if_neg ‹¬fN f=3›] at i3
        refine dE (p.1+1,p.2) ⟨⟨by show p.1+1≤_;omega,by show p.2.length≤p.1+1;omega,i3⟩,by show t.fields.length - (p.1+1)<_;omega⟩ ?_
        (focus (cbv;(try dsimp only [nc] at *);(try simp only [wl,nc]);(repeat' (with_reducible apply And.intro));all_goals (try exact wZ)))
        exact w64n (by omega)
    · have hp:p.1=t.fields.length:=by omega
      have hdn:t.fields.drop p.1=[]:=List.drop_eq_nil_iff.2 (by omega)
      rw [hdn,recS] at i3
      obtain rfl:=Option.some.inj i3
      apply AWp.wk tF mF [] kp48 ?_
      (any_goals ((with_reducible refine wI ?_);cbv;(try dsimp only [nc] at *);(repeat' (with_reducible first|exact aO|exact oN|refine oC ?_ ?_|refine VC.mk rfl ?_ ?_ ?_|(apply Ca.mk<;>intro _)|(apply Cv.mk<;>intro zq<;>(try simp only [nc,cl] at zq)<;>(try simp only [bl,dl] at zq)<;>(revert zq;intro _))|((first|apply xE|apply uE);cbv;(try dsimp only [nc] at *))))))
      all_goals (try (exact absurd ‹p.1<t.fields.length› hlt))
      any_goals (refine nO ?_;dsimp only;exact hRo)
      ((all_goals (try (with_reducible ((first|refine rE ?_|refine nE ?_);(focus (cbv;(try dsimp only [nc] at *);(try simp only [wl,nc]);(repeat' (with_reducible apply And.intro));all_goals (try exact wZ)))))));(all_goals (try ((with_reducible rw [aC]);(try simp only [wl,nc]);(repeat' (with_reducible apply And.intro));(all_goals (try exact cZ))))))
      · exact fun i _=>le_cells _ _
      · exact fun i _=>(le_cells _ _).cons _
end Go.Ai
