/- Chapter 8: a field or case that another type does not permit. -/
import Derived.Test.YtalghhdapjmbbaaGreatDoorSubC
import Derived.Test.YtalghhdapjmbbaaGreatDoorTyF
set_option linter.all false
namespace Go.Ai
open Go Go.Proofs
set_option maxRecDepth 100000
set_option maxHeartbeats 4000000
theorem kHas_idx {t:Ty} {n:ByteArray}:kHas (t.fields.map fM) n=decide (0≤iI (bQ n) t.fields):=by
  rw [idxI_any]
  unfold kHas
  rw [List.any_map]
  rfl
theorem kIdx_get {t:Ty} {n:ByteArray} (h:kHas (t.fields.map fM) n=true):kIdx (t.fields.map fM) n<t.fields.length∧t.fields.getD (kIdx (t.fields.map fM) n) default=gT t (bQ n):=by
  have h1:=kIdx_lt h
  rw [List.length_map] at h1
  have h2:kIdx (t.fields.map fM) n=t.fields.findIdx (bQ n):=by
    unfold kIdx
    rw [List.findIdx_map]
    rfl
  refine ⟨h1,?_⟩
  unfold gT iI
  rw [h2] at h1
  rw [if_pos h1,h2,Int.toNat_natCast]
theorem findIdx_names {t:Ty} {n:ByteArray} {b:Bool} (hb:b=kHas (t.fields.map fM) n):(b=true→0≤iI (bQ n) t.fields)∧(b=false→iI (bQ n) t.fields<0):=by
  rw [kHas_idx] at hb
  subst hb
  simp
theorem names_case {t:Ty} {n:ByteArray}:(kHas (t.fields.map fM) n=true∧0≤iI (bQ n) t.fields∧kIdx (t.fields.map fM) n<t.fields.length∧t.fields.getD (kIdx (t.fields.map fM) n) default=gT t (bQ n)) ∨
    (kHas (t.fields.map fM) n=false∧iI (bQ n) t.fields<0):=by
  cases q:kHas (t.fields.map fM) n with
  | true =>
    obtain ⟨h1,h2⟩:=kIdx_get q
    exact .inl ⟨rfl,(findIdx_names q.symm).1 rfl,h1,h2⟩
  | false=>exact .inr ⟨rfl,(findIdx_names q.symm).2 rfl⟩
theorem wrongF_ok (e d:Nat) (x:TF) (t:Ty) (ht:Ty.le e (d+1) t) (hnd:(t.fields.map fM).Nodup)
    (hw:0≤iI (bQ (fM x)) t.fields→Af Tryz.prog 22 [encT e d .any fun _=>fT x,encT e d .any fun _=>fT (gT t (bQ (fM x)))] [] (.bool fun _=>withinB d (fT x) (fT (gT t (bQ (fM x))))) []) :
    Af Tryz.prog 46 [encTF e d .any fun _=>x,encT e (d+1) .any fun _=>t] [] (.bool fun _=>wrongB (withinB d) t x) []:=by
  have hfl:=ht.2.2.2.1
  obtain ⟨b,hb⟩:∃ b,b=withinB d (fT x) (fT (gT t (bQ (fM x)))):=⟨_,rfl⟩
  have hR:wrongB (withinB d) t x=(decide (iI (bQ (fM x)) t.fields<0) || !b || (decide (fN x=2) && !decide (fN (gT t (bQ (fM x)))=2))):=by rw [hb];rfl
  rw [← hb] at hw
  rw [hR]
  clear hb hR
  rcases names_case (t:=t) (n:=fM x) with ⟨n1,n2,n3,n4⟩|⟨n1,n2⟩
  · (apply Af.of tF mF [.tmp 4] kp46 [(1,[(1,namesA t,[])]),(2,[(11,.bool fun _=>b,[])])] Tryz.func46 (fun _=>?_);(any_goals ((with_reducible refine wI ?_);cbv;(try dsimp only [nc] at *);(repeat' (with_reducible first|exact aO|exact oN|refine oC ?_ ?_|refine VC.mk rfl ?_ ?_ ?_|(apply Ca.mk<;>intro _)|(apply Cv.mk<;>intro zq<;>(try simp only [nc,cl] at zq)<;>(try simp only [bl,dl] at zq)<;>(revert zq;intro _))|((first|apply xE|apply uE);cbv;(try dsimp only [nc] at *)))))))
    (any_goals ((with_reducible refine bZ ?_)<;>exact (names_ok e d t ht hnd)))
    all_goals (try simp only [n1,if_true,Int.toNat_natCast,n4])
    (any_goals ((with_reducible refine bZ ?_)<;>exact (hw n2)))
    ((all_goals (try (with_reducible ((first|refine rE ?_|refine nE ?_);(focus (cbv;(try dsimp only [nc] at *);(try simp only [wl,nc]);(repeat' (with_reducible apply And.intro));all_goals (try exact wZ)))))));(all_goals (try ((with_reducible rw [aC]);(try simp only [wl,nc]);(repeat' (with_reducible apply And.intro));(all_goals (try exact cZ))))))
    · cases b<;>simp
    · rw [decide_eq_false (show ¬ iI (bQ (fM x)) t.fields<0 by omega)]
      generalize fN (gT t (bQ (fM x)))=q
      generalize fN x=r
      cases b<;>by_cases h1:r=2<;>by_cases h2:q=2<;>simp [h1,h2]
  · (apply Af.of tF mF [.tmp 4] kp46 [(1,[(1,namesA t,[])]),(2,[(11,.bool fun _=>b,[])])] Tryz.func46 (fun _=>?_);(any_goals ((with_reducible refine wI ?_);cbv;(try dsimp only [nc] at *);(repeat' (with_reducible first|exact aO|exact oN|refine oC ?_ ?_|refine VC.mk rfl ?_ ?_ ?_|(apply Ca.mk<;>intro _)|(apply Cv.mk<;>intro zq<;>(try simp only [nc,cl] at zq)<;>(try simp only [bl,dl] at zq)<;>(revert zq;intro _))|((first|apply xE|apply uE);cbv;(try dsimp only [nc] at *)))))))
    (any_goals ((with_reducible refine bZ ?_)<;>exact (names_ok e d t ht hnd)))
    all_goals (try simp only [n1])
    any_goals (with_reducible refine sO (fun z=>?_))<;>exact absurd z (by simp)
    ((all_goals (try (with_reducible ((first|refine rE ?_|refine nE ?_);(focus (cbv;(try dsimp only [nc] at *);(try simp only [wl,nc]);(repeat' (with_reducible apply And.intro));all_goals (try exact wZ)))))));(all_goals (try ((with_reducible rw [aC]);(try simp only [wl,nc]);(repeat' (with_reducible apply And.intro));(all_goals (try exact cZ))))))
    · intro z;exact absurd z (by simp)
    · intro z;exact absurd z (by simp)
    · intro z;exact absurd z (by simp)
    · rw [decide_eq_true n2];simp
theorem IndexTF_m (e d:Nat) (s:Ty) (fn:FuncId) (p:TF→Bool) (l:List TF) (hl:l.length≤1073741824)
    (hc:∀ x ∈ l,Af Tryz.prog fn [.agg (cF e d .any fun _=>x),.ptr 1001 0] [(1001,.box [namesA s])] (.bool fun _=>p x) [(1001,.box [namesA s])]) :
    Af Tryz.prog 142 [slcTF e d .any fun _=>l,.func fn [.ptr capP 0]] [(capP,.box [namesA s])] (.int .i64 fun _=>iI p l) [(capP,.box [namesA s])]:=by
  (apply Af.of tF mF [.tmp 4] kp142 [] Tryz.func142 (fun _=>?_);(any_goals ((with_reducible refine wI ?_);cbv;(try dsimp only [nc] at *);(repeat' (with_reducible first|exact aO|exact oN|refine oC ?_ ?_|refine VC.mk rfl ?_ ?_ ?_|(apply Ca.mk<;>intro _)|(apply Cv.mk<;>intro zq<;>(try simp only [nc,cl] at zq)<;>(try simp only [bl,dl] at zq)<;>(revert zq;intro _))|((first|apply xE|apply uE);cbv;(try dsimp only [nc] at *)))))))
  ((all_goals (try (with_reducible ((first|refine rE ?_|refine nE ?_);(focus (cbv;(try dsimp only [nc] at *);(try simp only [wl,nc]);(repeat' (with_reducible apply And.intro));all_goals (try exact wZ)))))));(all_goals (try ((with_reducible rw [aC]);(try simp only [wl,nc]);(repeat' (with_reducible apply And.intro));(all_goals (try exact cZ))))))
  refine .loop (fun i:Nat=>⟨19,[(8,.int .i64 fun _=>i),(7,.int .i64 fun _=>l.length),(1,.func fn [.ptr capP 0]),(0,slcTF e d .any fun _=>l)],[(capP,.box [namesA s])]⟩)
    (fun i=>i≤l.length∧∀ j,j<i→p (l.getD j default)=false) (fun i=>l.length - i) 0 (by simp) ?_ fun i E hi=>?_
  · (focus (cbv;(try dsimp only [nc] at *);(try simp only [wl,nc]);(repeat' (with_reducible apply And.intro));all_goals (try exact wZ)))
  apply AWp.wk tF mF [(4,[(5,.bool (fun _=>?_),[(1001,.box [namesA s])])])] kp142 ?_
  (any_goals ((with_reducible refine wI ?_);cbv;(try dsimp only [nc] at *);(repeat' (with_reducible first|exact aO|exact oN|refine oC ?_ ?_|refine VC.mk rfl ?_ ?_ ?_|(apply Ca.mk<;>intro _)|(apply Cv.mk<;>intro zq<;>(try simp only [nc,cl] at zq)<;>(try simp only [bl,dl] at zq)<;>(revert zq;intro _))|((first|apply xE|apply uE);cbv;(try dsimp only [nc] at *))))))
  (any_goals ((with_reducible refine bZ ?_)<;>exact (hc _ (getD_mem ‹_›))))
  ((all_goals (try (with_reducible ((first|refine rE ?_|refine nE ?_);(focus (cbv;(try dsimp only [nc] at *);(try simp only [wl,nc]);(repeat' (with_reducible apply And.intro));all_goals (try exact wZ)))))));(all_goals (try ((with_reducible rw [aC]);(try simp only [wl,nc]);(repeat' (with_reducible apply And.intro));(all_goals (try exact cZ))))))
  · exact (idxI_at ‹_› ‹_› hi.2).symm
  · refine dE (i+1) ⟨⟨by omega,fun j hj=>?_⟩,by omega⟩ ?_
    · rcases Nat.lt_succ_iff_lt_or_eq.1 hj with hj|rfl
      · exact hi.2 j hj
      · assumption
    · (focus (cbv;(try dsimp only [nc] at *);(try simp only [wl,nc]);(repeat' (with_reducible apply And.intro));all_goals (try exact wZ)))
      exact w64n (by omega)
  · exact (idxI_none fun j hj=>hi.2 j (by omega)).symm
theorem ContainsTF_m (e d:Nat) (s:Ty) (fn:FuncId) (p:TF→Bool) (l:List TF) (hl:l.length≤1073741824)
    (hc:∀ x ∈ l,Af Tryz.prog fn [.agg (cF e d .any fun _=>x),.ptr 1001 0] [(1001,.box [namesA s])] (.bool fun _=>p x) [(1001,.box [namesA s])]) :
    Af Tryz.prog 110 [slcTF e d .any fun _=>l,.func fn [.ptr capP 0]] [(capP,.box [namesA s])] (.bool fun _=>l.any p) [(capP,.box [namesA s])]:=by
  (apply Af.of tF mF [.tmp 4] kp110 [(1,[(2,.int .i64 (fun _=>?_),[(capP,.box [namesA s])])])] Tryz.func110 (fun _=>?_);(any_goals ((with_reducible refine wI ?_);cbv;(try dsimp only [nc] at *);(repeat' (with_reducible first|exact aO|exact oN|refine oC ?_ ?_|refine VC.mk rfl ?_ ?_ ?_|(apply Ca.mk<;>intro _)|(apply Cv.mk<;>intro zq<;>(try simp only [nc,cl] at zq)<;>(try simp only [bl,dl] at zq)<;>(revert zq;intro _))|((first|apply xE|apply uE);cbv;(try dsimp only [nc] at *)))))))
  (any_goals ((with_reducible refine bZ ?_)<;>exact (IndexTF_m e d s fn p l hl hc)))
  ((all_goals (try (with_reducible ((first|refine rE ?_|refine nE ?_);(focus (cbv;(try dsimp only [nc] at *);(try simp only [wl,nc]);(repeat' (with_reducible apply And.intro));all_goals (try exact wZ)))))));(all_goals (try ((with_reducible rw [aC]);(try simp only [wl,nc]);(repeat' (with_reducible apply And.intro));(all_goals (try exact cZ))))))
  exact idxI_any
theorem IndexTF_mt (e d:Nat) (s t:Ty) (fn:FuncId) (p:TF→Bool) (l:List TF) (hl:l.length≤1073741824)
    (hc:∀ x ∈ l,Af Tryz.prog fn [.agg (cF e d .any fun _=>x),.ptr 1001 0,boxT e (d+1) fun _=>t] [(1001,.box [namesA s])] (.bool fun _=>p x) [(1001,.box [namesA s])]) :
    Af Tryz.prog 142 [slcTF e d .any fun _=>l,.func fn [.ptr capP 0,boxT e (d+1) fun _=>t]] [(capP,.box [namesA s])] (.int .i64 fun _=>iI p l) [(capP,.box [namesA s])]:=by
  (apply Af.of tF mF [.tmp 4] kp142 [] Tryz.func142 (fun _=>?_);(any_goals ((with_reducible refine wI ?_);cbv;(try dsimp only [nc] at *);(repeat' (with_reducible first|exact aO|exact oN|refine oC ?_ ?_|refine VC.mk rfl ?_ ?_ ?_|(apply Ca.mk<;>intro _)|(apply Cv.mk<;>intro zq<;>(try simp only [nc,cl] at zq)<;>(try simp only [bl,dl] at zq)<;>(revert zq;intro _))|((first|apply xE|apply uE);cbv;(try dsimp only [nc] at *)))))))
  ((all_goals (try (with_reducible ((first|refine rE ?_|refine nE ?_);(focus (cbv;(try dsimp only [nc] at *);(try simp only [wl,nc]);(repeat' (with_reducible apply And.intro));all_goals (try exact wZ)))))));(all_goals (try ((with_reducible rw [aC]);(try simp only [wl,nc]);(repeat' (with_reducible apply And.intro));(all_goals (try exact cZ))))))
  refine .loop (fun i:Nat=>⟨19,[(8,.int .i64 fun _=>i),(7,.int .i64 fun _=>l.length),(1,.func fn [.ptr capP 0,boxT e (d+1) fun _=>t]),(0,slcTF e d .any fun _=>l)],[(capP,.box [namesA s])]⟩)
    (fun i=>i≤l.length∧∀ j,j<i→p (l.getD j default)=false) (fun i=>l.length - i) 0 (by simp) ?_ fun i E hi=>?_
  · (focus (cbv;(try dsimp only [nc] at *);(try simp only [wl,nc]);(repeat' (with_reducible apply And.intro));all_goals (try exact wZ)))
  apply AWp.wk tF mF [(4,[(5,.bool (fun _=>?_),[(1001,.box [namesA s])])])] kp142 ?_
  (any_goals ((with_reducible refine wI ?_);cbv;(try dsimp only [nc] at *);(repeat' (with_reducible first|exact aO|exact oN|refine oC ?_ ?_|refine VC.mk rfl ?_ ?_ ?_|(apply Ca.mk<;>intro _)|(apply Cv.mk<;>intro zq<;>(try simp only [nc,cl] at zq)<;>(try simp only [bl,dl] at zq)<;>(revert zq;intro _))|((first|apply xE|apply uE);cbv;(try dsimp only [nc] at *))))))
  (any_goals ((with_reducible refine bZ ?_)<;>exact (hc _ (getD_mem ‹_›))))
  ((all_goals (try (with_reducible ((first|refine rE ?_|refine nE ?_);(focus (cbv;(try dsimp only [nc] at *);(try simp only [wl,nc]);(repeat' (with_reducible apply And.intro));all_goals (try exact wZ)))))));(all_goals (try ((with_reducible rw [aC]);(try simp only [wl,nc]);(repeat' (with_reducible apply And.intro));(all_goals (try exact cZ))))))
  · exact (idxI_at ‹_› ‹_› hi.2).symm
  · refine dE (i+1) ⟨⟨by omega,fun j hj=>?_⟩,by omega⟩ ?_
    · rcases Nat.lt_succ_iff_lt_or_eq.1 hj with hj|rfl
      · exact hi.2 j hj
      · assumption
    · (focus (cbv;(try dsimp only [nc] at *);(try simp only [wl,nc]);(repeat' (with_reducible apply And.intro));all_goals (try exact wZ)))
      exact w64n (by omega)
  · exact (idxI_none fun j hj=>hi.2 j (by omega)).symm
theorem ContainsTF_mt (e d:Nat) (s t:Ty) (fn:FuncId) (p:TF→Bool) (l:List TF) (hl:l.length≤1073741824)
    (hc:∀ x ∈ l,Af Tryz.prog fn [.agg (cF e d .any fun _=>x),.ptr 1001 0,boxT e (d+1) fun _=>t] [(1001,.box [namesA s])] (.bool fun _=>p x) [(1001,.box [namesA s])]) :
    Af Tryz.prog 110 [slcTF e d .any fun _=>l,.func fn [.ptr capP 0,boxT e (d+1) fun _=>t]] [(capP,.box [namesA s])] (.bool fun _=>l.any p) [(capP,.box [namesA s])]:=by
  (apply Af.of tF mF [.tmp 4] kp110 [(1,[(2,.int .i64 (fun _=>?_),[(capP,.box [namesA s])])])] Tryz.func110 (fun _=>?_);(any_goals ((with_reducible refine wI ?_);cbv;(try dsimp only [nc] at *);(repeat' (with_reducible first|exact aO|exact oN|refine oC ?_ ?_|refine VC.mk rfl ?_ ?_ ?_|(apply Ca.mk<;>intro _)|(apply Cv.mk<;>intro zq<;>(try simp only [nc,cl] at zq)<;>(try simp only [bl,dl] at zq)<;>(revert zq;intro _))|((first|apply xE|apply uE);cbv;(try dsimp only [nc] at *)))))))
  (any_goals ((with_reducible refine bZ ?_)<;>exact (IndexTF_mt e d s t fn p l hl hc)))
  ((all_goals (try (with_reducible ((first|refine rE ?_|refine nE ?_);(focus (cbv;(try dsimp only [nc] at *);(try simp only [wl,nc]);(repeat' (with_reducible apply And.intro));all_goals (try exact wZ)))))));(all_goals (try ((with_reducible rw [aC]);(try simp only [wl,nc]);(repeat' (with_reducible apply And.intro));(all_goals (try exact cZ))))))
  exact idxI_any
theorem IndexTF_t (e d:Nat) (t:Ty) (fn:FuncId) (p:TF→Bool) (l:List TF) (hl:l.length≤1073741824)
    (hc:∀ x ∈ l,Af Tryz.prog fn [.agg (cF e d .any fun _=>x),boxT e (d+1) fun _=>t] [] (.bool fun _=>p x) []) :
    Af Tryz.prog 142 [slcTF e d .any fun _=>l,.func fn [boxT e (d+1) fun _=>t]] [] (.int .i64 fun _=>iI p l) []:=by
  (apply Af.of tF mF [.tmp 4] kp142 [] Tryz.func142 (fun _=>?_);(any_goals ((with_reducible refine wI ?_);cbv;(try dsimp only [nc] at *);(repeat' (with_reducible first|exact aO|exact oN|refine oC ?_ ?_|refine VC.mk rfl ?_ ?_ ?_|(apply Ca.mk<;>intro _)|(apply Cv.mk<;>intro zq<;>(try simp only [nc,cl] at zq)<;>(try simp only [bl,dl] at zq)<;>(revert zq;intro _))|((first|apply xE|apply uE);cbv;(try dsimp only [nc] at *)))))))
  ((all_goals (try (with_reducible ((first|refine rE ?_|refine nE ?_);(focus (cbv;(try dsimp only [nc] at *);(try simp only [wl,nc]);(repeat' (with_reducible apply And.intro));all_goals (try exact wZ)))))));(all_goals (try ((with_reducible rw [aC]);(try simp only [wl,nc]);(repeat' (with_reducible apply And.intro));(all_goals (try exact cZ))))))
  refine .loop (fun i:Nat=>⟨19,[(8,.int .i64 fun _=>i),(7,.int .i64 fun _=>l.length),(1,.func fn [boxT e (d+1) fun _=>t]),(0,slcTF e d .any fun _=>l)],[]⟩)
    (fun i=>i≤l.length∧∀ j,j<i→p (l.getD j default)=false) (fun i=>l.length - i) 0 (by simp) ?_ fun i E hi=>?_
  · (focus (cbv;(try dsimp only [nc] at *);(try simp only [wl,nc]);(repeat' (with_reducible apply And.intro));all_goals (try exact wZ)))
  apply AWp.wk tF mF [(4,[(5,.bool (fun _=>?_),[])])] kp142 ?_
  (any_goals ((with_reducible refine wI ?_);cbv;(try dsimp only [nc] at *);(repeat' (with_reducible first|exact aO|exact oN|refine oC ?_ ?_|refine VC.mk rfl ?_ ?_ ?_|(apply Ca.mk<;>intro _)|(apply Cv.mk<;>intro zq<;>(try simp only [nc,cl] at zq)<;>(try simp only [bl,dl] at zq)<;>(revert zq;intro _))|((first|apply xE|apply uE);cbv;(try dsimp only [nc] at *))))))
  (any_goals ((with_reducible refine bZ ?_)<;>exact (hc _ (getD_mem ‹_›))))
  ((all_goals (try (with_reducible ((first|refine rE ?_|refine nE ?_);(focus (cbv;(try dsimp only [nc] at *);(try simp only [wl,nc]);(repeat' (with_reducible apply And.intro));all_goals (try exact wZ)))))));(all_goals (try ((with_reducible rw [aC]);(try simp only [wl,nc]);(repeat' (with_reducible apply And.intro));(all_goals (try exact cZ))))))
  · exact (idxI_at ‹_› ‹_› hi.2).symm
  · refine dE (i+1) ⟨⟨by omega,fun j hj=>?_⟩,by omega⟩ ?_
    · rcases Nat.lt_succ_iff_lt_or_eq.1 hj with hj|rfl
      · exact hi.2 j hj
      · assumption
    · (focus (cbv;(try dsimp only [nc] at *);(try simp only [wl,nc]);(repeat' (with_reducible apply And.intro));all_goals (try exact wZ)))
      exact w64n (by omega)
  · exact (idxI_none fun j hj=>hi.2 j (by omega)).symm
theorem ContainsTF_t (e d:Nat) (t:Ty) (fn:FuncId) (p:TF→Bool) (l:List TF) (hl:l.length≤1073741824)
    (hc:∀ x ∈ l,Af Tryz.prog fn [.agg (cF e d .any fun _=>x),boxT e (d+1) fun _=>t] [] (.bool fun _=>p x) []) :
    Af Tryz.prog 110 [slcTF e d .any fun _=>l,.func fn [boxT e (d+1) fun _=>t]] [] (.bool fun _=>l.any p) []:=by
  (apply Af.of tF mF [.tmp 4] kp110 [(1,[(2,.int .i64 (fun _=>?_),[])])] Tryz.func110 (fun _=>?_);(any_goals ((with_reducible refine wI ?_);cbv;(try dsimp only [nc] at *);(repeat' (with_reducible first|exact aO|exact oN|refine oC ?_ ?_|refine VC.mk rfl ?_ ?_ ?_|(apply Ca.mk<;>intro _)|(apply Cv.mk<;>intro zq<;>(try simp only [nc,cl] at zq)<;>(try simp only [bl,dl] at zq)<;>(revert zq;intro _))|((first|apply xE|apply uE);cbv;(try dsimp only [nc] at *)))))))
  (any_goals ((with_reducible refine bZ ?_)<;>exact (IndexTF_t e d t fn p l hl hc)))
  ((all_goals (try (with_reducible ((first|refine rE ?_|refine nE ?_);(focus (cbv;(try dsimp only [nc] at *);(try simp only [wl,nc]);(repeat' (with_reducible apply And.intro));all_goals (try exact wZ)))))));(all_goals (try ((with_reducible rw [aC]);(try simp only [wl,nc]);(repeat' (with_reducible apply And.intro));(all_goals (try exact cZ))))))
  exact idxI_any
theorem records1_ok (e d:Nat) (s:Ty) (x:TF):Af Tryz.prog 111 [encTF e d .any fun _=>x,.ptr 1001 0] [(1001,.box [namesA s])] (.bool fun _=>missB s x) [(1001,.box [namesA s])]:=by
  have hR:missB s x=(decide (fN x≠2) && !kHas (s.fields.map fM) (fM x)):=by
    rw [kHas_idx];unfold missB
    by_cases h:iI (bQ (fM x)) s.fields<0
    · rw [decide_eq_true h,decide_eq_false (show ¬ 0≤iI (bQ (fM x)) s.fields by omega)];rfl
    · rw [decide_eq_false h,decide_eq_true (show 0≤iI (bQ (fM x)) s.fields by omega)];rfl
  rw [hR]
  (apply Af.of tF mF [.tmp 3] kp111 [] Tryz.func111 (fun _=>?_);(any_goals ((with_reducible refine wI ?_);cbv;(try dsimp only [nc] at *);(repeat' (with_reducible first|exact aO|exact oN|refine oC ?_ ?_|refine VC.mk rfl ?_ ?_ ?_|(apply Ca.mk<;>intro _)|(apply Cv.mk<;>intro zq<;>(try simp only [nc,cl] at zq)<;>(try simp only [bl,dl] at zq)<;>(revert zq;intro _))|((first|apply xE|apply uE);cbv;(try dsimp only [nc] at *)))))))
  ((all_goals (try (with_reducible ((first|refine rE ?_|refine nE ?_);(focus (cbv;(try dsimp only [nc] at *);(try simp only [wl,nc]);(repeat' (with_reducible apply And.intro));all_goals (try exact wZ)))))));(all_goals (try ((with_reducible rw [aC]);(try simp only [wl,nc]);(repeat' (with_reducible apply And.intro));(all_goals (try exact cZ))))))
  generalize kHas (s.fields.map fM) (fM x)=b
  generalize fN x=r
  cases b<;>by_cases h1:r=2<;>simp [h1]
theorem records2_ok (e d:Nat) (t:Ty) (x:TF) (b:Bool) (hw:Af Tryz.prog 46 [encTF e d .any fun _=>x,encT e (d+1) .any fun _=>t] [] (.bool fun _=>b) []) :
    Af Tryz.prog 112 [encTF e d .any fun _=>x,boxT e (d+1) fun _=>t] [] (.bool fun _=>b) []:=by
  (apply Af.of tF mF [.tmp 3] kp112 [(1,[(2,.bool fun _=>b,[])])] Tryz.func112 (fun _=>?_);(any_goals ((with_reducible refine wI ?_);cbv;(try dsimp only [nc] at *);(repeat' (with_reducible first|exact aO|exact oN|refine oC ?_ ?_|refine VC.mk rfl ?_ ?_ ?_|(apply Ca.mk<;>intro _)|(apply Cv.mk<;>intro zq<;>(try simp only [nc,cl] at zq)<;>(try simp only [bl,dl] at zq)<;>(revert zq;intro _))|((first|apply xE|apply uE);cbv;(try dsimp only [nc] at *)))))))
  (any_goals ((with_reducible refine bZ ?_);(try dsimp only);(have q:=hw;refine Af.wN q ?_;clear q);(focus (cbv;(try dsimp only [nc] at *);(try simp only [wl,nc]);(repeat' (with_reducible apply And.intro));all_goals (try exact wZ)))))
  ((all_goals (try (with_reducible ((first|refine rE ?_|refine nE ?_);(focus (cbv;(try dsimp only [nc] at *);(try simp only [wl,nc]);(repeat' (with_reducible apply And.intro));all_goals (try exact wZ)))))));(all_goals (try ((with_reducible rw [aC]);(try simp only [wl,nc]);(repeat' (with_reducible apply And.intro));(all_goals (try exact cZ))))))
theorem cases1_ok (e d:Nat) (t:Ty) (ht:Ty.le e (d+1) t) (x:TF) (hw:0≤iI (bQ (fM x)) t.fields→Af Tryz.prog 22 [encT e d .any fun _=>fT x,encT e d .any fun _=>fT (gT t (bQ (fM x)))] [] (.bool fun _=>withinB d (fT x) (fT (gT t (bQ (fM x))))) []) :
    Af Tryz.prog 113 [encTF e d .any fun _=>x,.ptr 1001 0,boxT e (d+1) fun _=>t] [(1001,.box [namesA t])] (.bool fun _=>offB (withinB d) t x) [(1001,.box [namesA t])]:=by
  have hfl:=ht.2.2.2.1
  obtain ⟨b,hb⟩:∃ b,b=withinB d (fT x) (fT (gT t (bQ (fM x)))):=⟨_,rfl⟩
  have hR:offB (withinB d) t x=(decide (iI (bQ (fM x)) t.fields<0) || !b):=by rw [hb];rfl
  rw [← hb] at hw
  rw [hR]
  clear hb hR
  rcases names_case (t:=t) (n:=fM x) with ⟨n1,n2,n3,n4⟩|⟨n1,n2⟩
  · (apply Af.of tF mF [.tmp 4] kp113 [(2,[(11,.bool fun _=>b,[])])] Tryz.func113 (fun _=>?_);(any_goals ((with_reducible refine wI ?_);cbv;(try dsimp only [nc] at *);(repeat' (with_reducible first|exact aO|exact oN|refine oC ?_ ?_|refine VC.mk rfl ?_ ?_ ?_|(apply Ca.mk<;>intro _)|(apply Cv.mk<;>intro zq<;>(try simp only [nc,cl] at zq)<;>(try simp only [bl,dl] at zq)<;>(revert zq;intro _))|((first|apply xE|apply uE);cbv;(try dsimp only [nc] at *)))))))
    all_goals (try simp only [n1,if_true,Int.toNat_natCast,n4])
    (any_goals ((with_reducible refine bZ ?_)<;>exact (hw n2)))
    ((all_goals (try (with_reducible ((first|refine rE ?_|refine nE ?_);(focus (cbv;(try dsimp only [nc] at *);(try simp only [wl,nc]);(repeat' (with_reducible apply And.intro));all_goals (try exact wZ)))))));(all_goals (try ((with_reducible rw [aC]);(try simp only [wl,nc]);(repeat' (with_reducible apply And.intro));(all_goals (try exact cZ))))))
    rw [decide_eq_false (show ¬ iI (bQ (fM x)) t.fields<0 by omega)]
    cases b<;>simp
  · (apply Af.of tF mF [.tmp 4] kp113 [(2,[(11,.bool fun _=>b,[])])] Tryz.func113 (fun _=>?_);(any_goals ((with_reducible refine wI ?_);cbv;(try dsimp only [nc] at *);(repeat' (with_reducible first|exact aO|exact oN|refine oC ?_ ?_|refine VC.mk rfl ?_ ?_ ?_|(apply Ca.mk<;>intro _)|(apply Cv.mk<;>intro zq<;>(try simp only [nc,cl] at zq)<;>(try simp only [bl,dl] at zq)<;>(revert zq;intro _))|((first|apply xE|apply uE);cbv;(try dsimp only [nc] at *)))))))
    all_goals (try simp only [n1])
    any_goals (with_reducible refine sO (fun z=>?_))<;>exact absurd z (by simp)
    ((all_goals (try (with_reducible ((first|refine rE ?_|refine nE ?_);(focus (cbv;(try dsimp only [nc] at *);(try simp only [wl,nc]);(repeat' (with_reducible apply And.intro));all_goals (try exact wZ)))))));(all_goals (try ((with_reducible rw [aC]);(try simp only [wl,nc]);(repeat' (with_reducible apply And.intro));(all_goals (try exact cZ))))))
    · intro z;exact absurd z (by simp)
    · rw [decide_eq_true n2];simp
theorem cases_ok (e d:Nat) (s t:Ty) (hs:Ty.le e (d+1) s) (ht:Ty.le e (d+1) t) (hnt:(t.fields.map fM).Nodup)
    (hw:∀ x ∈ s.fields,0≤iI (bQ (fM x)) t.fields→Af Tryz.prog 22 [encT e d .any fun _=>fT x,encT e d .any fun _=>fT (gT t (bQ (fM x)))] [] (.bool fun _=>withinB d (fT x) (fT (gT t (bQ (fM x))))) []) :
    Af Tryz.prog 68 [encT e (d+1) .any fun _=>s,encT e (d+1) .any fun _=>t] [] (.bool fun _=>casesB (withinB d) s t) []:=by
  (apply Af.of tF mF [.tmp 4] kp68 [(0,[(1,.nil,[])]),(1,[(1,namesA t,[])]),(2,[(3,.bool fun _=>s.fields.any (offB (withinB d) t),[(capP,.box [namesA t])])])] Tryz.func68 (fun _=>?_);(any_goals ((with_reducible refine wI ?_);cbv;(try dsimp only [nc] at *);(repeat' (with_reducible first|exact aO|exact oN|refine oC ?_ ?_|refine VC.mk rfl ?_ ?_ ?_|(apply Ca.mk<;>intro _)|(apply Cv.mk<;>intro zq<;>(try simp only [nc,cl] at zq)<;>(try simp only [bl,dl] at zq)<;>(revert zq;intro _))|((first|apply xE|apply uE);cbv;(try dsimp only [nc] at *)))))))
  (any_goals ((with_reducible refine bZ ?_);(try dsimp only);(have q:=(names_ok e d t ht hnt);refine Af.wN q ?_;clear q);(focus (cbv;(try dsimp only [nc] at *);(try simp only [wl,nc]);(repeat' (with_reducible apply And.intro));all_goals (try exact wZ)))))
  (any_goals ((with_reducible refine bZ ?_)<;>exact (ContainsTF_mt e d t t 113 (offB (withinB d) t) s.fields hs.2.2.2.1 fun x hx=>cases1_ok e d t ht x (hw x hx))))
  ((all_goals (try (with_reducible ((first|refine rE ?_|refine nE ?_);(focus (cbv;(try dsimp only [nc] at *);(try simp only [wl,nc]);(repeat' (with_reducible apply And.intro));all_goals (try exact wZ)))))));(all_goals (try ((with_reducible rw [aC]);(try simp only [wl,nc]);(repeat' (with_reducible apply And.intro));(all_goals (try exact cZ))))))
  rfl
theorem records_ok (e d:Nat) (s t:Ty) (hs:Ty.le e (d+1) s) (ht:Ty.le e (d+1) t) (hns:(s.fields.map fM).Nodup) (hnt:(t.fields.map fM).Nodup)
    (hw:∀ x ∈ s.fields,0≤iI (bQ (fM x)) t.fields→Af Tryz.prog 22 [encT e d .any fun _=>fT x,encT e d .any fun _=>fT (gT t (bQ (fM x)))] [] (.bool fun _=>withinB d (fT x) (fT (gT t (bQ (fM x))))) []) :
    Af Tryz.prog 67 [encT e (d+1) .any fun _=>s,encT e (d+1) .any fun _=>t] [] (.bool fun _=>recsB (withinB d) s t) []:=by
  (apply Af.of tF mF [.tmp 4] kp67 [(0,[(1,.nil,[])]),(1,[(1,namesA s,[])]),(2,[(3,.bool fun _=>t.fields.any (missB s),[(capP,.box [namesA s])])]),(3,[(6,.bool fun _=>s.fields.any (wrongB (withinB d) t),[])])] Tryz.func67 (fun _=>?_);(any_goals ((with_reducible refine wI ?_);cbv;(try dsimp only [nc] at *);(repeat' (with_reducible first|exact aO|exact oN|refine oC ?_ ?_|refine VC.mk rfl ?_ ?_ ?_|(apply Ca.mk<;>intro _)|(apply Cv.mk<;>intro zq<;>(try simp only [nc,cl] at zq)<;>(try simp only [bl,dl] at zq)<;>(revert zq;intro _))|((first|apply xE|apply uE);cbv;(try dsimp only [nc] at *)))))))
  (any_goals ((with_reducible refine bZ ?_)<;>exact (names_ok e d s hs hns)))
  (any_goals ((with_reducible refine bZ ?_)<;>exact (ContainsTF_m e d s 111 (missB s) t.fields ht.2.2.2.1 fun x _=>records1_ok e d s x)))
  any_goals (with_reducible refine sO (fun _=>?_))<;>exact ContainsTF_t e d t 112 (wrongB (withinB d) t) s.fields hs.2.2.2.1 fun x hx=>records2_ok e d t x _ (wrongF_ok e d x t ht hnt (hw x hx))
  ((all_goals (try (with_reducible ((first|refine rE ?_|refine nE ?_);(focus (cbv;(try dsimp only [nc] at *);(try simp only [wl,nc]);(repeat' (with_reducible apply And.intro));all_goals (try exact wZ)))))));(all_goals (try ((with_reducible rw [aC]);(try simp only [wl,nc]);(repeat' (with_reducible apply And.intro));(all_goals (try exact cZ))))))
  unfold recsB
  generalize t.fields.any (missB s)=b1
  generalize s.fields.any (wrongB (withinB d) t)=b2
  cases b1<;>cases b2<;>rfl
theorem rules_sub:Af Tryz.prog 36 [] [] (.agg [.nilf,.func 62 [],.func 63 [],.func 64 [],.func 65 [],.func 63 [],.func 63 [],.func 63 [],.func 66 [],.func 67 [],.func 68 []]) []:=by
  (apply Af.of tF mF [.cell 0 67] kp36 [] Tryz.func36 (fun _=>?_);(any_goals ((with_reducible refine wI ?_);cbv;(try dsimp only [nc] at *);(repeat' (with_reducible first|exact aO|exact oN|refine oC ?_ ?_|refine VC.mk rfl ?_ ?_ ?_|(apply Ca.mk<;>intro _)|(apply Cv.mk<;>intro zq<;>(try simp only [nc,cl] at zq)<;>(try simp only [bl,dl] at zq)<;>(revert zq;intro _))|((first|apply xE|apply uE);cbv;(try dsimp only [nc] at *)))))))
  ((all_goals (try (with_reducible ((first|refine rE ?_|refine nE ?_);(focus (cbv;(try dsimp only [nc] at *);(try simp only [wl,nc]);(repeat' (with_reducible apply And.intro));all_goals (try exact wZ)))))));(all_goals (try ((with_reducible rw [aC]);(try simp only [wl,nc]);(repeat' (with_reducible apply And.intro));(all_goals (try exact cZ))))))
theorem ruleBool_ok (e d:Nat) (s t:Ty):Af Tryz.prog 62 [encT e d .any fun _=>s,encT e d .any fun _=>t] [] (.bool fun _=>true) []:=by
  (apply Af.of tF mF [.tmp 4] kp62 [] Tryz.func62 (fun _=>?_);(any_goals ((with_reducible refine wI ?_);cbv;(try dsimp only [nc] at *);(repeat' (with_reducible first|exact aO|exact oN|refine oC ?_ ?_|refine VC.mk rfl ?_ ?_ ?_|(apply Ca.mk<;>intro _)|(apply Cv.mk<;>intro zq<;>(try simp only [nc,cl] at zq)<;>(try simp only [bl,dl] at zq)<;>(revert zq;intro _))|((first|apply xE|apply uE);cbv;(try dsimp only [nc] at *)))))))
  ((all_goals (try (with_reducible ((first|refine rE ?_|refine nE ?_);(focus (cbv;(try dsimp only [nc] at *);(try simp only [wl,nc]);(repeat' (with_reducible apply And.intro));all_goals (try exact wZ)))))));(all_goals (try ((with_reducible rw [aC]);(try simp only [wl,nc]);(repeat' (with_reducible apply And.intro));(all_goals (try exact cZ))))))
theorem ruleDec_ok (e d:Nat) (s t:Ty):Af Tryz.prog 64 [encT e d .any fun _=>s,encT e d .any fun _=>t] [] (.bool fun _=>decide (s.scale=t.scale) && bndB s t) []:=by
  (apply Af.of tF mF [.tmp 4] kp64 [(1,[(8,.bool fun _=>bndB s t,[])])] Tryz.func64 (fun _=>?_);(any_goals ((with_reducible refine wI ?_);cbv;(try dsimp only [nc] at *);(repeat' (with_reducible first|exact aO|exact oN|refine oC ?_ ?_|refine VC.mk rfl ?_ ?_ ?_|(apply Ca.mk<;>intro _)|(apply Cv.mk<;>intro zq<;>(try simp only [nc,cl] at zq)<;>(try simp only [bl,dl] at zq)<;>(revert zq;intro _))|((first|apply xE|apply uE);cbv;(try dsimp only [nc] at *)))))))
  (any_goals ((with_reducible refine bZ ?_);(try dsimp only);(have q:=(bounded_ok e d s t);refine Af.wN q ?_;clear q);(focus (cbv;(try dsimp only [nc] at *);(try simp only [wl,nc]);(repeat' (with_reducible apply And.intro));all_goals (try exact wZ)))))
  ((all_goals (try (with_reducible ((first|refine rE ?_|refine nE ?_);(focus (cbv;(try dsimp only [nc] at *);(try simp only [wl,nc]);(repeat' (with_reducible apply And.intro));all_goals (try exact wZ)))))));(all_goals (try ((with_reducible rw [aC]);(try simp only [wl,nc]);(repeat' (with_reducible apply And.intro));(all_goals (try exact cZ))))))
  generalize bndB s t=b
  cases b<;>by_cases h:s.scale=t.scale<;>simp [h]
theorem ruleList_ok (e d:Nat) (s t:Ty) (hes:0<s.elem.length) (het:0<t.elem.length) (b:Bool) (hw:Af Tryz.prog 22 [encT e d .any fun _=>s.elem.getD 0 default,encT e d .any fun _=>t.elem.getD 0 default] [] (.bool fun _=>b) []) :
    Af Tryz.prog 66 [encT e (d+1) .any fun _=>s,encT e (d+1) .any fun _=>t] [] (.bool fun _=>bndB s t && (decide (s.max=0) || b)) []:=by
  (apply Af.of tF mF [.tmp 4] kp66 [(1,[(2,.bool fun _=>bndB s t,[]),(16,.bool fun _=>b,[])])] Tryz.func66 (fun _=>?_);(any_goals ((with_reducible refine wI ?_);cbv;(try dsimp only [nc] at *);(repeat' (with_reducible first|exact aO|exact oN|refine oC ?_ ?_|refine VC.mk rfl ?_ ?_ ?_|(apply Ca.mk<;>intro _)|(apply Cv.mk<;>intro zq<;>(try simp only [nc,cl] at zq)<;>(try simp only [bl,dl] at zq)<;>(revert zq;intro _))|((first|apply xE|apply uE);cbv;(try dsimp only [nc] at *)))))))
  (any_goals ((with_reducible refine bZ ?_);(try dsimp only);(have q:=(bounded_ok e (d+1) s t);refine Af.wN q ?_;clear q);(focus (cbv;(try dsimp only [nc] at *);(try simp only [wl,nc]);(repeat' (with_reducible apply And.intro));all_goals (try exact wZ)))))
  (any_goals ((with_reducible refine bZ ?_);(try dsimp only);(have q:=hw;refine Af.wN q ?_;clear q);(focus (cbv;(try dsimp only [nc] at *);(try simp only [wl,nc]);(repeat' (with_reducible apply And.intro));all_goals (try exact wZ)))))
  ((all_goals (try (with_reducible ((first|refine rE ?_|refine nE ?_);(focus (cbv;(try dsimp only [nc] at *);(try simp only [wl,nc]);(repeat' (with_reducible apply And.intro));all_goals (try exact wZ)))))));(all_goals (try ((with_reducible rw [aC]);(try simp only [wl,nc]);(repeat' (with_reducible apply And.intro));(all_goals (try exact cZ))))))
  generalize bndB s t=q
  cases q<;>cases b<;>by_cases h:s.max=0<;>simp [h]
end Go.Ai
