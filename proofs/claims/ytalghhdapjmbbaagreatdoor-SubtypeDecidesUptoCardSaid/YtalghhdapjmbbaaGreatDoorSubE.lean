/- Chapter 8: which types are within others: the program's function. -/
import Derived.Test.YtalghhdapjmbbaaGreatDoorSubD
import Derived.Test.YtalghhdapjmbbaaGreatDoorEncC
set_option linter.all false
namespace Go.Ai
open Go Go.Proofs
set_option maxRecDepth 100000
set_option maxHeartbeats 4000000
theorem within_no (e d:Nat) (s t:Ty) (hs:ownT s=0) (h:s.kind≠t.kind):Af Tryz.prog 22 [encT e d .any fun _=>s,encT e d .any fun _=>t] [] (.bool fun _=>false) []:=by
  have hk:=ownT_kind hs
  rcases own_kinds s.kind (by omega) with k|k|k|k|k|k|k|k|k|k
  all_goals
    rw [k] at h
    rw [encT_kind k]
    (apply Af.of tF mF [.tmp 4] kp22 [(1,[(6,.agg [.nilf,.func 62 [],.func 63 [],.func 64 [],.func 65 [],.func 63 [],.func 63 [],.func 63 [],.func 66 [],.func 67 [],.func 68 []],[]),(12,.bool fun _=>false,[])])] Tryz.func22 (fun _=>?_);(any_goals ((with_reducible refine wI ?_);cbv;(try dsimp only [nc] at *);(repeat' (with_reducible first|exact aO|exact oN|refine oC ?_ ?_|refine VC.mk rfl ?_ ?_ ?_|(apply Ca.mk<;>intro _)|(apply Cv.mk<;>intro zq<;>(try simp only [nc,cl] at zq)<;>(try simp only [bl,dl] at zq)<;>(revert zq;intro _))|((first|apply xE|apply uE);cbv;(try dsimp only [nc] at *)))))))
    (any_goals ((with_reducible refine bZ ?_)<;>exact rules_sub))
    any_goals (with_reducible refine sO (fun z=>?_))<;>exact absurd z (by simp [h])
    ((all_goals (try (with_reducible ((first|refine rE ?_|refine nE ?_);(focus (cbv;(try dsimp only [nc] at *);(try simp only [wl,nc]);(repeat' (with_reducible apply And.intro));all_goals (try exact wZ)))))));(all_goals (try ((with_reducible rw [aC]);(try simp only [wl,nc]);(repeat' (with_reducible apply And.intro));(all_goals (try exact cZ))))))
    all_goals (split<;>rfl)
theorem within_k1 (e d:Nat) (s t:Ty) (r:Bool) (k:s.kind=1) (h:t.kind=1) (hc:Af Tryz.prog 62 [encT e d .any fun _=>s,encT e d .any fun _=>t] [] (.bool fun _=>r) []):Af Tryz.prog 22 [encT e d .any fun _=>s,encT e d .any fun _=>t] [] (.bool fun _=>r) []:=by
  rw [encT_kind k]
  (apply Af.of tF mF [.tmp 4] kp22 [(1,[(6,.agg [.nilf,.func 62 [],.func 63 [],.func 64 [],.func 65 [],.func 63 [],.func 63 [],.func 63 [],.func 66 [],.func 67 [],.func 68 []],[]),(12,.bool fun _=>r,[])])] Tryz.func22 (fun _=>?_);(any_goals ((with_reducible refine wI ?_);cbv;(try dsimp only [nc] at *);(repeat' (with_reducible first|exact aO|exact oN|refine oC ?_ ?_|refine VC.mk rfl ?_ ?_ ?_|(apply Ca.mk<;>intro _)|(apply Cv.mk<;>intro zq<;>(try simp only [nc,cl] at zq)<;>(try simp only [bl,dl] at zq)<;>(revert zq;intro _))|((first|apply xE|apply uE);cbv;(try dsimp only [nc] at *)))))))
  (any_goals ((with_reducible refine bZ ?_)<;>exact rules_sub))
  (any_goals ((with_reducible refine bZ ?_);(try dsimp only);(have q:=hc;refine Af.wN q ?_;clear q);(focus (cbv;(try dsimp only [nc] at *);(try simp only [wl,nc]);(repeat' (with_reducible apply And.intro));all_goals (try exact wZ)))))
  ((all_goals (try (with_reducible ((first|refine rE ?_|refine nE ?_);(focus (cbv;(try dsimp only [nc] at *);(try simp only [wl,nc]);(repeat' (with_reducible apply And.intro));all_goals (try exact wZ)))))));(all_goals (try ((with_reducible rw [aC]);(try simp only [wl,nc]);(repeat' (with_reducible apply And.intro));(all_goals (try exact cZ))))))
  all_goals (rw [h];cases r<;>simp)
theorem within_k2 (e d:Nat) (s t:Ty) (r:Bool) (k:s.kind=2) (h:t.kind=2) (hc:Af Tryz.prog 63 [encT e d .any fun _=>s,encT e d .any fun _=>t] [] (.bool fun _=>r) []):Af Tryz.prog 22 [encT e d .any fun _=>s,encT e d .any fun _=>t] [] (.bool fun _=>r) []:=by
  rw [encT_kind k]
  (apply Af.of tF mF [.tmp 4] kp22 [(1,[(6,.agg [.nilf,.func 62 [],.func 63 [],.func 64 [],.func 65 [],.func 63 [],.func 63 [],.func 63 [],.func 66 [],.func 67 [],.func 68 []],[]),(12,.bool fun _=>r,[])])] Tryz.func22 (fun _=>?_);(any_goals ((with_reducible refine wI ?_);cbv;(try dsimp only [nc] at *);(repeat' (with_reducible first|exact aO|exact oN|refine oC ?_ ?_|refine VC.mk rfl ?_ ?_ ?_|(apply Ca.mk<;>intro _)|(apply Cv.mk<;>intro zq<;>(try simp only [nc,cl] at zq)<;>(try simp only [bl,dl] at zq)<;>(revert zq;intro _))|((first|apply xE|apply uE);cbv;(try dsimp only [nc] at *)))))))
  (any_goals ((with_reducible refine bZ ?_)<;>exact rules_sub))
  (any_goals ((with_reducible refine bZ ?_);(try dsimp only);(have q:=hc;refine Af.wN q ?_;clear q);(focus (cbv;(try dsimp only [nc] at *);(try simp only [wl,nc]);(repeat' (with_reducible apply And.intro));all_goals (try exact wZ)))))
  ((all_goals (try (with_reducible ((first|refine rE ?_|refine nE ?_);(focus (cbv;(try dsimp only [nc] at *);(try simp only [wl,nc]);(repeat' (with_reducible apply And.intro));all_goals (try exact wZ)))))));(all_goals (try ((with_reducible rw [aC]);(try simp only [wl,nc]);(repeat' (with_reducible apply And.intro));(all_goals (try exact cZ))))))
  all_goals (rw [h];cases r<;>simp)
theorem within_k3 (e d:Nat) (s t:Ty) (r:Bool) (k:s.kind=3) (h:t.kind=3) (hc:Af Tryz.prog 64 [encT e d .any fun _=>s,encT e d .any fun _=>t] [] (.bool fun _=>r) []):Af Tryz.prog 22 [encT e d .any fun _=>s,encT e d .any fun _=>t] [] (.bool fun _=>r) []:=by
  rw [encT_kind k]
  (apply Af.of tF mF [.tmp 4] kp22 [(1,[(6,.agg [.nilf,.func 62 [],.func 63 [],.func 64 [],.func 65 [],.func 63 [],.func 63 [],.func 63 [],.func 66 [],.func 67 [],.func 68 []],[]),(12,.bool fun _=>r,[])])] Tryz.func22 (fun _=>?_);(any_goals ((with_reducible refine wI ?_);cbv;(try dsimp only [nc] at *);(repeat' (with_reducible first|exact aO|exact oN|refine oC ?_ ?_|refine VC.mk rfl ?_ ?_ ?_|(apply Ca.mk<;>intro _)|(apply Cv.mk<;>intro zq<;>(try simp only [nc,cl] at zq)<;>(try simp only [bl,dl] at zq)<;>(revert zq;intro _))|((first|apply xE|apply uE);cbv;(try dsimp only [nc] at *)))))))
  (any_goals ((with_reducible refine bZ ?_)<;>exact rules_sub))
  (any_goals ((with_reducible refine bZ ?_);(try dsimp only);(have q:=hc;refine Af.wN q ?_;clear q);(focus (cbv;(try dsimp only [nc] at *);(try simp only [wl,nc]);(repeat' (with_reducible apply And.intro));all_goals (try exact wZ)))))
  ((all_goals (try (with_reducible ((first|refine rE ?_|refine nE ?_);(focus (cbv;(try dsimp only [nc] at *);(try simp only [wl,nc]);(repeat' (with_reducible apply And.intro));all_goals (try exact wZ)))))));(all_goals (try ((with_reducible rw [aC]);(try simp only [wl,nc]);(repeat' (with_reducible apply And.intro));(all_goals (try exact cZ))))))
  all_goals (rw [h];cases r<;>simp)
theorem within_k4 (e d:Nat) (s t:Ty) (r:Bool) (k:s.kind=4) (h:t.kind=4) (hc:Af Tryz.prog 65 [encT e d .any fun _=>s,encT e d .any fun _=>t] [] (.bool fun _=>r) []):Af Tryz.prog 22 [encT e d .any fun _=>s,encT e d .any fun _=>t] [] (.bool fun _=>r) []:=by
  rw [encT_kind k]
  (apply Af.of tF mF [.tmp 4] kp22 [(1,[(6,.agg [.nilf,.func 62 [],.func 63 [],.func 64 [],.func 65 [],.func 63 [],.func 63 [],.func 63 [],.func 66 [],.func 67 [],.func 68 []],[]),(12,.bool fun _=>r,[])])] Tryz.func22 (fun _=>?_);(any_goals ((with_reducible refine wI ?_);cbv;(try dsimp only [nc] at *);(repeat' (with_reducible first|exact aO|exact oN|refine oC ?_ ?_|refine VC.mk rfl ?_ ?_ ?_|(apply Ca.mk<;>intro _)|(apply Cv.mk<;>intro zq<;>(try simp only [nc,cl] at zq)<;>(try simp only [bl,dl] at zq)<;>(revert zq;intro _))|((first|apply xE|apply uE);cbv;(try dsimp only [nc] at *)))))))
  (any_goals ((with_reducible refine bZ ?_)<;>exact rules_sub))
  (any_goals ((with_reducible refine bZ ?_);(try dsimp only);(have q:=hc;refine Af.wN q ?_;clear q);(focus (cbv;(try dsimp only [nc] at *);(try simp only [wl,nc]);(repeat' (with_reducible apply And.intro));all_goals (try exact wZ)))))
  ((all_goals (try (with_reducible ((first|refine rE ?_|refine nE ?_);(focus (cbv;(try dsimp only [nc] at *);(try simp only [wl,nc]);(repeat' (with_reducible apply And.intro));all_goals (try exact wZ)))))));(all_goals (try ((with_reducible rw [aC]);(try simp only [wl,nc]);(repeat' (with_reducible apply And.intro));(all_goals (try exact cZ))))))
  all_goals (rw [h];cases r<;>simp)
theorem within_k5 (e d:Nat) (s t:Ty) (r:Bool) (k:s.kind=5) (h:t.kind=5) (hc:Af Tryz.prog 63 [encT e d .any fun _=>s,encT e d .any fun _=>t] [] (.bool fun _=>r) []):Af Tryz.prog 22 [encT e d .any fun _=>s,encT e d .any fun _=>t] [] (.bool fun _=>r) []:=by
  rw [encT_kind k]
  (apply Af.of tF mF [.tmp 4] kp22 [(1,[(6,.agg [.nilf,.func 62 [],.func 63 [],.func 64 [],.func 65 [],.func 63 [],.func 63 [],.func 63 [],.func 66 [],.func 67 [],.func 68 []],[]),(12,.bool fun _=>r,[])])] Tryz.func22 (fun _=>?_);(any_goals ((with_reducible refine wI ?_);cbv;(try dsimp only [nc] at *);(repeat' (with_reducible first|exact aO|exact oN|refine oC ?_ ?_|refine VC.mk rfl ?_ ?_ ?_|(apply Ca.mk<;>intro _)|(apply Cv.mk<;>intro zq<;>(try simp only [nc,cl] at zq)<;>(try simp only [bl,dl] at zq)<;>(revert zq;intro _))|((first|apply xE|apply uE);cbv;(try dsimp only [nc] at *)))))))
  (any_goals ((with_reducible refine bZ ?_)<;>exact rules_sub))
  (any_goals ((with_reducible refine bZ ?_);(try dsimp only);(have q:=hc;refine Af.wN q ?_;clear q);(focus (cbv;(try dsimp only [nc] at *);(try simp only [wl,nc]);(repeat' (with_reducible apply And.intro));all_goals (try exact wZ)))))
  ((all_goals (try (with_reducible ((first|refine rE ?_|refine nE ?_);(focus (cbv;(try dsimp only [nc] at *);(try simp only [wl,nc]);(repeat' (with_reducible apply And.intro));all_goals (try exact wZ)))))));(all_goals (try ((with_reducible rw [aC]);(try simp only [wl,nc]);(repeat' (with_reducible apply And.intro));(all_goals (try exact cZ))))))
  all_goals (rw [h];cases r<;>simp)
theorem within_k6 (e d:Nat) (s t:Ty) (r:Bool) (k:s.kind=6) (h:t.kind=6) (hc:Af Tryz.prog 63 [encT e d .any fun _=>s,encT e d .any fun _=>t] [] (.bool fun _=>r) []):Af Tryz.prog 22 [encT e d .any fun _=>s,encT e d .any fun _=>t] [] (.bool fun _=>r) []:=by
  rw [encT_kind k]
  (apply Af.of tF mF [.tmp 4] kp22 [(1,[(6,.agg [.nilf,.func 62 [],.func 63 [],.func 64 [],.func 65 [],.func 63 [],.func 63 [],.func 63 [],.func 66 [],.func 67 [],.func 68 []],[]),(12,.bool fun _=>r,[])])] Tryz.func22 (fun _=>?_);(any_goals ((with_reducible refine wI ?_);cbv;(try dsimp only [nc] at *);(repeat' (with_reducible first|exact aO|exact oN|refine oC ?_ ?_|refine VC.mk rfl ?_ ?_ ?_|(apply Ca.mk<;>intro _)|(apply Cv.mk<;>intro zq<;>(try simp only [nc,cl] at zq)<;>(try simp only [bl,dl] at zq)<;>(revert zq;intro _))|((first|apply xE|apply uE);cbv;(try dsimp only [nc] at *)))))))
  (any_goals ((with_reducible refine bZ ?_)<;>exact rules_sub))
  (any_goals ((with_reducible refine bZ ?_);(try dsimp only);(have q:=hc;refine Af.wN q ?_;clear q);(focus (cbv;(try dsimp only [nc] at *);(try simp only [wl,nc]);(repeat' (with_reducible apply And.intro));all_goals (try exact wZ)))))
  ((all_goals (try (with_reducible ((first|refine rE ?_|refine nE ?_);(focus (cbv;(try dsimp only [nc] at *);(try simp only [wl,nc]);(repeat' (with_reducible apply And.intro));all_goals (try exact wZ)))))));(all_goals (try ((with_reducible rw [aC]);(try simp only [wl,nc]);(repeat' (with_reducible apply And.intro));(all_goals (try exact cZ))))))
  all_goals (rw [h];cases r<;>simp)
theorem within_k7 (e d:Nat) (s t:Ty) (r:Bool) (k:s.kind=7) (h:t.kind=7) (hc:Af Tryz.prog 63 [encT e d .any fun _=>s,encT e d .any fun _=>t] [] (.bool fun _=>r) []):Af Tryz.prog 22 [encT e d .any fun _=>s,encT e d .any fun _=>t] [] (.bool fun _=>r) []:=by
  rw [encT_kind k]
  (apply Af.of tF mF [.tmp 4] kp22 [(1,[(6,.agg [.nilf,.func 62 [],.func 63 [],.func 64 [],.func 65 [],.func 63 [],.func 63 [],.func 63 [],.func 66 [],.func 67 [],.func 68 []],[]),(12,.bool fun _=>r,[])])] Tryz.func22 (fun _=>?_);(any_goals ((with_reducible refine wI ?_);cbv;(try dsimp only [nc] at *);(repeat' (with_reducible first|exact aO|exact oN|refine oC ?_ ?_|refine VC.mk rfl ?_ ?_ ?_|(apply Ca.mk<;>intro _)|(apply Cv.mk<;>intro zq<;>(try simp only [nc,cl] at zq)<;>(try simp only [bl,dl] at zq)<;>(revert zq;intro _))|((first|apply xE|apply uE);cbv;(try dsimp only [nc] at *)))))))
  (any_goals ((with_reducible refine bZ ?_)<;>exact rules_sub))
  (any_goals ((with_reducible refine bZ ?_);(try dsimp only);(have q:=hc;refine Af.wN q ?_;clear q);(focus (cbv;(try dsimp only [nc] at *);(try simp only [wl,nc]);(repeat' (with_reducible apply And.intro));all_goals (try exact wZ)))))
  ((all_goals (try (with_reducible ((first|refine rE ?_|refine nE ?_);(focus (cbv;(try dsimp only [nc] at *);(try simp only [wl,nc]);(repeat' (with_reducible apply And.intro));all_goals (try exact wZ)))))));(all_goals (try ((with_reducible rw [aC]);(try simp only [wl,nc]);(repeat' (with_reducible apply And.intro));(all_goals (try exact cZ))))))
  all_goals (rw [h];cases r<;>simp)
theorem within_k8 (e d:Nat) (s t:Ty) (r:Bool) (k:s.kind=8) (h:t.kind=8) (hc:Af Tryz.prog 66 [encT e d .any fun _=>s,encT e d .any fun _=>t] [] (.bool fun _=>r) []):Af Tryz.prog 22 [encT e d .any fun _=>s,encT e d .any fun _=>t] [] (.bool fun _=>r) []:=by
  rw [encT_kind k]
  (apply Af.of tF mF [.tmp 4] kp22 [(1,[(6,.agg [.nilf,.func 62 [],.func 63 [],.func 64 [],.func 65 [],.func 63 [],.func 63 [],.func 63 [],.func 66 [],.func 67 [],.func 68 []],[]),(12,.bool fun _=>r,[])])] Tryz.func22 (fun _=>?_);(any_goals ((with_reducible refine wI ?_);cbv;(try dsimp only [nc] at *);(repeat' (with_reducible first|exact aO|exact oN|refine oC ?_ ?_|refine VC.mk rfl ?_ ?_ ?_|(apply Ca.mk<;>intro _)|(apply Cv.mk<;>intro zq<;>(try simp only [nc,cl] at zq)<;>(try simp only [bl,dl] at zq)<;>(revert zq;intro _))|((first|apply xE|apply uE);cbv;(try dsimp only [nc] at *)))))))
  (any_goals ((with_reducible refine bZ ?_)<;>exact rules_sub))
  (any_goals ((with_reducible refine bZ ?_);(try dsimp only);(have q:=hc;refine Af.wN q ?_;clear q);(focus (cbv;(try dsimp only [nc] at *);(try simp only [wl,nc]);(repeat' (with_reducible apply And.intro));all_goals (try exact wZ)))))
  ((all_goals (try (with_reducible ((first|refine rE ?_|refine nE ?_);(focus (cbv;(try dsimp only [nc] at *);(try simp only [wl,nc]);(repeat' (with_reducible apply And.intro));all_goals (try exact wZ)))))));(all_goals (try ((with_reducible rw [aC]);(try simp only [wl,nc]);(repeat' (with_reducible apply And.intro));(all_goals (try exact cZ))))))
  all_goals (rw [h];cases r<;>simp)
theorem within_k9 (e d:Nat) (s t:Ty) (r:Bool) (k:s.kind=9) (h:t.kind=9) (hc:Af Tryz.prog 67 [encT e d .any fun _=>s,encT e d .any fun _=>t] [] (.bool fun _=>r) []):Af Tryz.prog 22 [encT e d .any fun _=>s,encT e d .any fun _=>t] [] (.bool fun _=>r) []:=by
  rw [encT_kind k]
  (apply Af.of tF mF [.tmp 4] kp22 [(1,[(6,.agg [.nilf,.func 62 [],.func 63 [],.func 64 [],.func 65 [],.func 63 [],.func 63 [],.func 63 [],.func 66 [],.func 67 [],.func 68 []],[]),(12,.bool fun _=>r,[])])] Tryz.func22 (fun _=>?_);(any_goals ((with_reducible refine wI ?_);cbv;(try dsimp only [nc] at *);(repeat' (with_reducible first|exact aO|exact oN|refine oC ?_ ?_|refine VC.mk rfl ?_ ?_ ?_|(apply Ca.mk<;>intro _)|(apply Cv.mk<;>intro zq<;>(try simp only [nc,cl] at zq)<;>(try simp only [bl,dl] at zq)<;>(revert zq;intro _))|((first|apply xE|apply uE);cbv;(try dsimp only [nc] at *)))))))
  (any_goals ((with_reducible refine bZ ?_)<;>exact rules_sub))
  (any_goals ((with_reducible refine bZ ?_);(try dsimp only);(have q:=hc;refine Af.wN q ?_;clear q);(focus (cbv;(try dsimp only [nc] at *);(try simp only [wl,nc]);(repeat' (with_reducible apply And.intro));all_goals (try exact wZ)))))
  ((all_goals (try (with_reducible ((first|refine rE ?_|refine nE ?_);(focus (cbv;(try dsimp only [nc] at *);(try simp only [wl,nc]);(repeat' (with_reducible apply And.intro));all_goals (try exact wZ)))))));(all_goals (try ((with_reducible rw [aC]);(try simp only [wl,nc]);(repeat' (with_reducible apply And.intro));(all_goals (try exact cZ))))))
  all_goals (rw [h];cases r<;>simp)
theorem within_k10 (e d:Nat) (s t:Ty) (r:Bool) (k:s.kind=10) (h:t.kind=10) (hc:Af Tryz.prog 68 [encT e d .any fun _=>s,encT e d .any fun _=>t] [] (.bool fun _=>r) []):Af Tryz.prog 22 [encT e d .any fun _=>s,encT e d .any fun _=>t] [] (.bool fun _=>r) []:=by
  rw [encT_kind k]
  (apply Af.of tF mF [.tmp 4] kp22 [(1,[(6,.agg [.nilf,.func 62 [],.func 63 [],.func 64 [],.func 65 [],.func 63 [],.func 63 [],.func 63 [],.func 66 [],.func 67 [],.func 68 []],[]),(12,.bool fun _=>r,[])])] Tryz.func22 (fun _=>?_);(any_goals ((with_reducible refine wI ?_);cbv;(try dsimp only [nc] at *);(repeat' (with_reducible first|exact aO|exact oN|refine oC ?_ ?_|refine VC.mk rfl ?_ ?_ ?_|(apply Ca.mk<;>intro _)|(apply Cv.mk<;>intro zq<;>(try simp only [nc,cl] at zq)<;>(try simp only [bl,dl] at zq)<;>(revert zq;intro _))|((first|apply xE|apply uE);cbv;(try dsimp only [nc] at *)))))))
  (any_goals ((with_reducible refine bZ ?_)<;>exact rules_sub))
  (any_goals ((with_reducible refine bZ ?_);(try dsimp only);(have q:=hc;refine Af.wN q ?_;clear q);(focus (cbv;(try dsimp only [nc] at *);(try simp only [wl,nc]);(repeat' (with_reducible apply And.intro));all_goals (try exact wZ)))))
  ((all_goals (try (with_reducible ((first|refine rE ?_|refine nE ?_);(focus (cbv;(try dsimp only [nc] at *);(try simp only [wl,nc]);(repeat' (with_reducible apply And.intro));all_goals (try exact wZ)))))));(all_goals (try ((with_reducible rw [aC]);(try simp only [wl,nc]);(repeat' (with_reducible apply And.intro));(all_goals (try exact cZ))))))
  all_goals (rw [h];cases r<;>simp)
theorem withinB_text4 {d:Nat} {s t:Ty} (hk:s.kind=t.kind) (h4:s.kind=4):withinB (d+1) s t=txtsB s t:=by
  simp only [withinB];rw [if_neg (by omega),if_neg (by omega),if_pos h4]
theorem within_ok (e:Nat):∀ (d:Nat) (s t:Ty),Ty.le e d s→Ty.le e d t→Ty.ok e d s→Ty.ok e d t→Af Tryz.prog 22 [encT e d .any fun _=>s,encT e d .any fun _=>t] [] (.bool fun _=>withinB d s t) []
  | 0,_,_,h,_,_,_=>h.elim
  | d + 1,s,t,hs,ht,hso,hto=>by
    have hk:=ownT_kind hso.1
    by_cases hkk:s.kind=t.kind
    · have ih:s.kind=9∨s.kind=10→∀ x ∈ s.fields,0≤iI (bQ (fM x)) t.fields→Af Tryz.prog 22 [encT e d .any fun _=>fT x,encT e d .any fun _=>fT (gT t (bQ (fM x)))] [] (.bool fun _=>withinB d (fT x) (fT (gT t (bQ (fM x))))) []:=fun q x hx h0 =>
        within_ok e d _ _ (hs.2.2.2.2.2 x hx).2.2.2 (ht.2.2.2.2.2 _ (getTF_mem h0)).2.2.2 (Ty.ok_field hso q hx) (Ty.ok_field hto (by omega) (getTF_mem h0))
      rcases own_kinds s.kind (by omega) with k|k|k|k|k|k|k|k|k|k
      · have hr:withinB (d+1) s t=true:=by simp only [withinB];rw [if_neg (by omega),if_pos k]
        rw [hr];exact within_k1 e (d+1) s t true k (by omega) (ruleBool_ok e (d+1) s t)
      · have hr:withinB (d+1) s t=bndB s t:=by simp only [withinB];rw [if_neg (by omega),if_neg (by omega),if_neg (by omega),if_neg (by omega),if_neg (by omega),if_neg (by omega),if_neg (by omega)]
        rw [hr];exact within_k2 e (d+1) s t _ k (by omega) (bounded_ok e (d+1) s t)
      · have hr:withinB (d+1) s t=(decide (s.scale=t.scale) && bndB s t):=by simp only [withinB];rw [if_neg (by omega),if_neg (by omega),if_neg (by omega),if_neg (by omega),if_neg (by omega),if_neg (by omega),if_pos k]
        rw [hr];exact within_k3 e (d+1) s t _ k (by omega) (ruleDec_ok e (d+1) s t)
      · rw [withinB_text4 (by omega) k];exact within_k4 e (d+1) s t _ k (by omega) (texts_ok e d s t hs ht)
      · have hr:withinB (d+1) s t=bndB s t:=by simp only [withinB];rw [if_neg (by omega),if_neg (by omega),if_neg (by omega),if_neg (by omega),if_neg (by omega),if_neg (by omega),if_neg (by omega)]
        rw [hr];exact within_k5 e (d+1) s t _ k (by omega) (bounded_ok e (d+1) s t)
      · have hr:withinB (d+1) s t=bndB s t:=by simp only [withinB];rw [if_neg (by omega),if_neg (by omega),if_neg (by omega),if_neg (by omega),if_neg (by omega),if_neg (by omega),if_neg (by omega)]
        rw [hr];exact within_k6 e (d+1) s t _ k (by omega) (bounded_ok e (d+1) s t)
      · have hr:withinB (d+1) s t=bndB s t:=by simp only [withinB];rw [if_neg (by omega),if_neg (by omega),if_neg (by omega),if_neg (by omega),if_neg (by omega),if_neg (by omega),if_neg (by omega)]
        rw [hr];exact within_k7 e (d+1) s t _ k (by omega) (bounded_ok e (d+1) s t)
      · have hr:withinB (d+1) s t=(bndB s t && (decide (s.max=0) || withinB d (s.elem.getD 0 default) (t.elem.getD 0 default))):=by simp only [withinB];rw [if_neg (by omega),if_neg (by omega),if_neg (by omega),if_pos k]
        have h1:=ownT_elem hso.1 k
        have h2:=ownT_elem hto.1 (by omega)
        rw [hr]
        exact within_k8 e (d+1) s t _ k (by omega) (ruleList_ok e d s t (by omega) (by omega) _ (within_ok e d _ _ (hs.2.2.2.2.1 _ (gD (by omega))) (ht.2.2.2.2.1 _ (gD (by omega))) (Ty.ok_elem0 hso k) (Ty.ok_elem0 hto (by omega))))
      · have hr:withinB (d+1) s t=recsB (withinB d) s t:=by simp only [withinB];rw [if_neg (by omega),if_neg (by omega),if_neg (by omega),if_neg (by omega),if_pos k]
        rw [hr];exact within_k9 e (d+1) s t _ k (by omega) (records_ok e d s t hs ht (ownT_nodup hso.1 (.inl k)).2 (ownT_nodup hto.1 (.inl (by omega))).2 (ih (.inl k)))
      · have hr:withinB (d+1) s t=casesB (withinB d) s t:=by simp only [withinB];rw [if_neg (by omega),if_neg (by omega),if_neg (by omega),if_neg (by omega),if_neg (by omega),if_pos k]
        rw [hr];exact within_k10 e (d+1) s t _ k (by omega) (cases_ok e d s t hs ht (ownT_nodup hto.1 (.inr (by omega))).2 (ih (.inr k)))
    · have hr:withinB (d+1) s t=false:=by simp only [withinB];rw [if_pos hkk]
      rw [hr];exact within_no e (d+1) s t hso.1 hkk
def chk2 (e d:Nat) (s t:Ty):Int:=if chkT e d s≠0 then chkT e d s else chkT e d t
theorem chk2_zero {e d:Nat} {s t:Ty}:chk2 e d s t=0↔chkT e d s=0∧chkT e d t=0:=by
  unfold chk2
  split
  · exact ⟨fun h=>absurd h ‹_›,fun h=>absurd h.1 ‹_›⟩
  · exact ⟨fun h=>⟨by omega,h⟩,fun h=>h.2⟩
theorem check2_ok (e d:Nat) (s t:Ty) (he:e+1≤1073741824) (hs:Ty.le (e+1) d s) (ht:Ty.le (e+1) d t) :
    Af Tryz.prog 21 [encT (e+1) d .any fun _=>s,encT (e+1) d .any fun _=>t] [] (.int .i64 fun _=>chk2 (e+1) d s t) []:=by
  have h1:=schemaCheck_ok e d s he hs
  have h2:=schemaCheck_ok e d t he ht
  unfold chk2
  generalize chkT (e+1) d s=a at h1 ⊢
  generalize chkT (e+1) d t=b at h2 ⊢
  obtain ⟨d,rfl⟩:=Ty.lP hs
  (apply Af.of tF mF [.tmp 4] kp21 [(1,[(1,.int .i64 fun _=>a,[])]),(4,[(1,.int .i64 fun _=>b,[])])] Tryz.func21 (fun _=>?_);(any_goals ((with_reducible refine wI ?_);cbv;(try dsimp only [nc] at *);(repeat' (with_reducible first|exact aO|exact oN|refine oC ?_ ?_|refine VC.mk rfl ?_ ?_ ?_|(apply Ca.mk<;>intro _)|(apply Cv.mk<;>intro zq<;>(try simp only [nc,cl] at zq)<;>(try simp only [bl,dl] at zq)<;>(revert zq;intro _))|((first|apply xE|apply uE);cbv;(try dsimp only [nc] at *)))))))
  (any_goals ((with_reducible refine bZ ?_);(try dsimp only);(have q:=h1;refine Af.wN q ?_;clear q);(focus (cbv;(try dsimp only [nc] at *);(try simp only [wl,nc]);(repeat' (with_reducible apply And.intro));all_goals (try exact wZ)))))
  (any_goals ((with_reducible refine bZ ?_);(try dsimp only);(have q:=h2;refine Af.wN q ?_;clear q);(focus (cbv;(try dsimp only [nc] at *);(try simp only [wl,nc]);(repeat' (with_reducible apply And.intro));all_goals (try exact wZ)))))
  ((all_goals (try (with_reducible ((first|refine rE ?_|refine nE ?_);(focus (cbv;(try dsimp only [nc] at *);(try simp only [wl,nc]);(repeat' (with_reducible apply And.intro));all_goals (try exact wZ)))))));(all_goals (try ((with_reducible rw [aC]);(try simp only [wl,nc]);(repeat' (with_reducible apply And.intro));(all_goals (try exact cZ))))))
  all_goals first
    | (rw [if_pos ‹_›];done)
    | (rw [if_neg ‹_›];done)
    | (split<;>omega)
theorem Within_ok (e d:Nat) (s t:Ty) (he:e+1≤1073741824) (hs:Ty.le (e+1) d s) (ht:Ty.le (e+1) d t) :
    Af Tryz.prog 10 [encT (e+1) d .any fun _=>s,encT (e+1) d .any fun _=>t] [] (.tup [.bool fun _=>decide (chk2 (e+1) d s t=0) && withinB d s t,.int .i64 fun _=>chk2 (e+1) d s t]) []:=by
  have h1:=check2_ok e d s t he hs ht
  have h2:=fun z:chk2 (e+1) d s t=0=>within_ok (e+1) d s t hs ht (chkT_ok hs (chk2_zero.1 z).1) (chkT_ok ht (chk2_zero.1 z).2)
  generalize chk2 (e+1) d s t=K at h1 h2 ⊢
  generalize withinB d s t=b at h2 ⊢
  obtain ⟨d,rfl⟩:=Ty.lP hs
  (apply Af.of tF mF [.tmp 4,.tmp 5] kp10 [(1,[(2,.int .i64 fun _=>K,[])]),(4,[(2,.bool fun _=>b,[])])] Tryz.func10 (fun _=>?_);(any_goals ((with_reducible refine wI ?_);cbv;(try dsimp only [nc] at *);(repeat' (with_reducible first|exact aO|exact oN|refine oC ?_ ?_|refine VC.mk rfl ?_ ?_ ?_|(apply Ca.mk<;>intro _)|(apply Cv.mk<;>intro zq<;>(try simp only [nc,cl] at zq)<;>(try simp only [bl,dl] at zq)<;>(revert zq;intro _))|((first|apply xE|apply uE);cbv;(try dsimp only [nc] at *)))))))
  (any_goals ((with_reducible refine bZ ?_);(try dsimp only);(have q:=h1;refine Af.wN q ?_;clear q);(focus (cbv;(try dsimp only [nc] at *);(try simp only [wl,nc]);(repeat' (with_reducible apply And.intro));all_goals (try exact wZ)))))
  (any_goals ((with_reducible refine bZ ?_);(try dsimp only);(have q:=(h2 (by omega));refine Af.wN q ?_;clear q);(focus (cbv;(try dsimp only [nc] at *);(try simp only [wl,nc]);(repeat' (with_reducible apply And.intro));all_goals (try exact wZ)))))
  ((all_goals (try (with_reducible ((first|refine rE ?_|refine nE ?_);(focus (cbv;(try dsimp only [nc] at *);(try simp only [wl,nc]);(repeat' (with_reducible apply And.intro));all_goals (try exact wZ)))))));(all_goals (try ((with_reducible rw [aC]);(try simp only [wl,nc]);(repeat' (with_reducible apply And.intro));(all_goals (try exact cZ))))))
  · rw [decide_eq_false (by omega)];rfl
  · rw [decide_eq_true (by omega)];rfl
end Go.Ai
