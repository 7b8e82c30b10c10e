/- Chapter 6: the reference's record. -/
import Derived.Test.YtalghhdapjmbbaaGreatDoorEncA
set_option linter.all false
namespace Go.Ai
open Go Go.Proofs
set_option maxRecDepth 100000
set_option maxHeartbeats 4000000
theorem refRecord_ok (e d c:Nat) (t:Ty) (v:V) (h9:v.kind=9) (ht:Ty.le e (d+1) t) (hv:V.le (c+1) v) (P:ByteArray×V→Bool)
    (hP:P=fun x=>decide (0≤iI (bQ x.1) t.fields) && hasT d (fT (gT t (bQ x.1))) x.2)
    (ih:∀ x ∈ v.fields,0≤iI (bQ x.1) t.fields→Af Tryz.prog 102 [encT e d .any fun _=>fT (gT t (bQ x.1)),encV c .any fun _=>x.2] [] (.bool fun _=>hasT d (fT (gT t (bQ x.1))) x.2) []) :
    Af Tryz.prog 134 [encT e (d+1) .any fun _=>t,encV (c+1) .any fun _=>v] [] (.bool fun _=>v.fields.all P && !(t.fields.any fun f=>decide (findI v (fM f)<0) && fN f != 2)) []:=by
  have hl:=ht.2.2.2.1
  have hvl:=hv.2.1
  obtain ⟨R,hR⟩:∃ R,R=(v.fields.all P && !(t.fields.any fun f=>decide (findI v (fM f)<0) && fN f != 2)):=⟨_,rfl⟩
  rw [← hR]
  (apply Af.of tF mF [.tmp 4] kp134 [(0,[(0,.nil,[]),(1,.nil,[])])] Tryz.func134 (fun _=>?_);(any_goals ((with_reducible refine wI ?_);cbv;(try dsimp only [nc] at *);(repeat' (with_reducible first|exact aO|exact oN|refine oC ?_ ?_|refine VC.mk rfl ?_ ?_ ?_|(apply Ca.mk<;>intro _)|(apply Cv.mk<;>intro zq<;>(try simp only [nc,cl] at zq)<;>(try simp only [bl,dl] at zq)<;>(revert zq;intro _))|((first|apply xE|apply uE);cbv;(try dsimp only [nc] at *)))))))
  ((all_goals (try (with_reducible ((first|refine rE ?_|refine nE ?_);(focus (cbv;(try dsimp only [nc] at *);(try simp only [wl,nc]);(repeat' (with_reducible apply And.intro));all_goals (try exact wZ)))))));(all_goals (try ((with_reducible rw [aC]);(try simp only [wl,nc]);(repeat' (with_reducible apply And.intro));(all_goals (try exact cZ))))))
  refine .loop (fun i:Nat=>⟨66,[(5,.int .i64 fun _=>i),(3,boxW (c+1) fun _=>v),(2,boxT e (d+1) fun _=>t)],[]⟩)
    (fun i=>i≤v.fields.length∧∀ j,j<i→P (v.fields.getD j default)=true) (fun i=>v.fields.length - i) 0 (by simp) ?_ fun i E hi=>?_
  · (focus (cbv;(try dsimp only [nc] at *);(try simp only [wl,nc]);(repeat' (with_reducible apply And.intro));all_goals (try exact wZ)))
  by_cases h:i<v.fields.length
  · obtain ⟨x,hx⟩:∃ x,x=v.fields.getD i default:=⟨_,rfl⟩
    have hxm:x ∈ v.fields:=by rw [hx];exact gD h
    have hlt:=idxI_lt (p:=bQ x.1) (l:=t.fields)
    have hF:=refFieldT_ok e d t ht x.1
    obtain ⟨k,hk⟩:∃ k,k=iI (bQ x.1) t.fields:=⟨_,rfl⟩
    have hg:t.fields.getD k.toNat default=gT t (bQ x.1):=by rw [hk];rfl
    rw [← hk] at hF hlt
    apply AWp.wk tF mF [(4,[(7,.int .i64 fun _=>k,[])]),(5,[(15,.bool fun _=>hasT d (fT (gT t (bQ x.1))) x.2,[])])] kp134 ?_
    (any_goals ((with_reducible refine wI ?_);cbv;(try dsimp only [nc] at *);(repeat' (with_reducible first|exact aO|exact oN|refine oC ?_ ?_|refine VC.mk rfl ?_ ?_ ?_|(apply Ca.mk<;>intro _)|(apply Cv.mk<;>intro zq<;>(try simp only [nc,cl] at zq)<;>(try simp only [bl,dl] at zq)<;>(revert zq;intro _))|((first|apply xE|apply uE);cbv;(try dsimp only [nc] at *))))))
    all_goals (try exact absurd h (Nat.not_lt.2 ‹v.fields.length≤i›))
    all_goals (try simp only [Int.toNat_natCast,← hx])
    (any_goals ((with_reducible refine bZ ?_);(try dsimp only);(have q:=hF;refine Af.wN q ?_;clear q);(focus (cbv;(try dsimp only [nc] at *);(try simp only [wl,nc]);(repeat' (with_reducible apply And.intro));all_goals (try exact wZ)))))
    any_goals (with_reducible refine sO (fun q=>?_))<;>exact (by
      have q2:0≤iI (bQ x.1) t.fields:=by
        simp at q;omega
      rw [hg]
      exact ih x hxm q2)
    ((all_goals (try (with_reducible ((first|refine rE ?_|refine nE ?_);(focus (cbv;(try dsimp only [nc] at *);(try simp only [wl,nc]);(repeat' (with_reducible apply And.intro));all_goals (try exact wZ)))))));(all_goals (try ((with_reducible rw [aC]);(try simp only [wl,nc]);(repeat' (with_reducible apply And.intro));(all_goals (try exact cZ))))))
    · have hPx:P x=false:=by
        rw [hP];simp only [← hk]
        rcases ‹k<0∨_› with q|q
        · rw [show decide (0≤k)=false by simp;omega,Bool.false_and]
        · rw [q,Bool.and_false]
      have:v.fields.all P=false:=List.all_eq_false.2 ⟨x,hxm,by rw [hPx];simp⟩
      rw [hR,this];rfl
    · have hPx:P x=true:=by
        have q:=‹0≤k∧_›
        rw [hP];simp only [← hk,q.2,Bool.and_true,decide_eq_true_eq];exact q.1
      refine dE (i+1) ⟨⟨by omega,fun j hj=>?_⟩,by omega⟩ ?_
      · rcases Nat.lt_succ_iff_lt_or_eq.1 hj with hj|rfl
        · exact hi.2 j hj
        · rw [← hx];exact hPx
      · (focus (cbv;(try dsimp only [nc] at *);(try simp only [wl,nc]);(repeat' (with_reducible apply And.intro));all_goals (try exact wZ)))
        exact w64n (by omega)
  have hall:v.fields.all P=true:=List.all_eq_true.2 fun x hx=>by
    obtain ⟨k,hk,hxk⟩:=List.getElem_of_mem hx
    have:=hi.2 k (by omega)
    rwa [List.getD_eq_getElem?_getD,List.getElem?_eq_getElem hk,hxk] at this
  apply AWp.wk tF mF [(4,[(7,.int .i64 fun _=>0,[])]),(5,[(15,.bool fun _=>true,[])])] kp134 ?_
  (any_goals ((with_reducible refine wI ?_);cbv;(try dsimp only [nc] at *);(repeat' (with_reducible first|exact aO|exact oN|refine oC ?_ ?_|refine VC.mk rfl ?_ ?_ ?_|(apply Ca.mk<;>intro _)|(apply Cv.mk<;>intro zq<;>(try simp only [nc,cl] at zq)<;>(try simp only [bl,dl] at zq)<;>(revert zq;intro _))|((first|apply xE|apply uE);cbv;(try dsimp only [nc] at *))))))
  all_goals (try exact absurd ‹i<v.fields.length› h)
  ((all_goals (try (with_reducible ((first|refine rE ?_|refine nE ?_);(focus (cbv;(try dsimp only [nc] at *);(try simp only [wl,nc]);(repeat' (with_reducible apply And.intro));all_goals (try exact wZ)))))));(all_goals (try ((with_reducible rw [aC]);(try simp only [wl,nc]);(repeat' (with_reducible apply And.intro));(all_goals (try exact cZ))))))
  refine .loop (fun i:Nat=>⟨66,[(7,.int .i64 fun _=>i),(3,boxW (c+1) fun _=>v),(2,boxT e (d+1) fun _=>t)],[]⟩)
    (fun i=>i≤t.fields.length∧∀ j,j<i→(decide (findI v (fM (t.fields.getD j default))<0) && fN (t.fields.getD j default) != 2)=false) (fun i=>t.fields.length - i) 0 (by simp) ?_ fun i E hi=>?_
  · (focus (cbv;(try dsimp only [nc] at *);(try simp only [wl,nc]);(repeat' (with_reducible apply And.intro));all_goals (try exact wZ)))
  obtain ⟨f,hf⟩:∃ f,f=t.fields.getD i default:=⟨_,rfl⟩
  have hN:=Find_ok c v (fM f) hvl
  rw [if_pos h9] at hN
  apply AWp.wk tF mF [(10,[(15,.int .i64 fun _=>findI v (fM f),[])])] kp134 ?_
  (any_goals ((with_reducible refine wI ?_);cbv;(try dsimp only [nc] at *);(repeat' (with_reducible first|exact aO|exact oN|refine oC ?_ ?_|refine VC.mk rfl ?_ ?_ ?_|(apply Ca.mk<;>intro _)|(apply Cv.mk<;>intro zq<;>(try simp only [nc,cl] at zq)<;>(try simp only [bl,dl] at zq)<;>(revert zq;intro _))|((first|apply xE|apply uE);cbv;(try dsimp only [nc] at *))))))
  all_goals (try simp only [Int.toNat_natCast,← hf])
  (any_goals ((with_reducible refine bZ ?_);(try dsimp only);(have q:=hN;refine Af.wN q ?_;clear q);(focus (cbv;(try dsimp only [nc] at *);(try simp only [wl,nc]);(repeat' (with_reducible apply And.intro));all_goals (try exact wZ)))))
  ((all_goals (try (with_reducible ((first|refine rE ?_|refine nE ?_);(focus (cbv;(try dsimp only [nc] at *);(try simp only [wl,nc]);(repeat' (with_reducible apply And.intro));all_goals (try exact wZ)))))));(all_goals (try ((with_reducible rw [aC]);(try simp only [wl,nc]);(repeat' (with_reducible apply And.intro));(all_goals (try exact cZ))))))
  · have q:=‹¬ _∧findI v (fM f)<0›
    rw [← hf] at q
    have hm:f ∈ t.fields:=by rw [hf];exact gD ‹_›
    have:(t.fields.any fun f=>decide (findI v (fM f)<0) && fN f != 2)=true:=List.any_eq_true.2 ⟨f,hm,by simp [q.1,q.2]⟩
    rw [hR,this,hall];rfl
  · have q:=‹_∨0≤findI v (fM f)›
    rw [← hf] at q
    refine dE (i+1) ⟨⟨by omega,fun j hj=>?_⟩,by omega⟩ ?_
    · rcases Nat.lt_succ_iff_lt_or_eq.1 hj with hj|rfl
      · exact hi.2 j hj
      · rw [← hf]
        rcases q with q|q
        · simp [q]
        · rw [show decide (findI v (fM f)<0)=false by simp;omega,Bool.false_and]
    · (focus (cbv;(try dsimp only [nc] at *);(try simp only [wl,nc]);(repeat' (with_reducible apply And.intro));all_goals (try exact wZ)))
      exact w64n (by omega)
  · have:(t.fields.any fun f=>decide (findI v (fM f)<0) && fN f != 2)=false:=List.any_eq_false.2 fun f hf=>by
      obtain ⟨k,hk,hfk⟩:=List.getElem_of_mem hf
      have:=hi.2 k (by omega)
      rw [List.getD_eq_getElem?_getD,List.getElem?_eq_getElem hk,Option.getD_some,hfk] at this
      rw [this];simp
    rw [hR,this,hall];rfl
theorem refHas_flat (e d c:Nat) (t:Ty) (v:V) (h8:t.kind≠8) (h9:t.kind≠9) (h10:t.kind≠10) (hk:1≤t.kind∧t.kind≤10) (hs:v.kind=t.kind→t.kind≠3→v.scale=t.scale) (ht:Ty.le e (d+1) t) :
    Af Tryz.prog 102 [encT e (d+1) .any fun _=>t,encV c .any fun _=>v] [] (.bool fun _=>hasT (d+1) t v) []:=by
  obtain ⟨R,hR⟩:∃ R,R=hasT (d+1) t v:=⟨_,rfl⟩
  rw [← hR]
  have hwl:=ht.1
  (apply Af.of tF mF [.tmp 4] kp102 [(0,[(0,.nil,[]),(1,.nil,[])]),(7,[(6,.bool fun _=>decide (t.min≤v.int∧v.int≤t.max),[])]),(9,[(12,.bool fun _=>decide (t.min≤v.int∧v.int≤t.max),[])]),(16,[(12,.bool fun _=>decide (t.min≤v.text.size∧v.text.size≤t.max),[])]),(18,[(7,.bool fun _=>decide (t.min≤v.text.size∧v.text.size≤t.max),[])]),(23,[(14,.bool fun _=>false,[])]),(25,[(7,.bool fun _=>decide (t.min≤v.list.length∧v.list.length≤t.max),[])]),(27,[(3,.int .i64 fun _=>0,[])]),(28,[(13,.bool fun _=>false,[])]),(30,[(2,.bool fun _=>false,[])])] Tryz.func102 (fun _=>?_);(any_goals ((with_reducible refine wI ?_);cbv;(try dsimp only [nc] at *);(repeat' (with_reducible first|exact aO|exact oN|refine oC ?_ ?_|refine VC.mk rfl ?_ ?_ ?_|(apply Ca.mk<;>intro _)|(apply Cv.mk<;>intro zq<;>(try simp only [nc,cl] at zq)<;>(try simp only [bl,dl] at zq)<;>(revert zq;intro _))|((first|apply xE|apply uE);cbv;(try dsimp only [nc] at *)))))))
  all_goals (try (exfalso;omega))
  (any_goals ((with_reducible refine bZ ?_)<;>exact (refIn_ok _ _ _)))
  ((all_goals (try (with_reducible ((first|refine rE ?_|refine nE ?_);(focus (cbv;(try dsimp only [nc] at *);(try simp only [wl,nc]);(repeat' (with_reducible apply And.intro));all_goals (try exact wZ)))))));(all_goals (try ((with_reducible rw [aC]);(try simp only [wl,nc]);(repeat' (with_reducible apply And.intro));(all_goals (try exact cZ))))))
  all_goals (try (
    rw [hR]
    simp only [hasT]
    first
      | (conv=>rhs;rw [if_pos (show v.kind≠t.kind by omega)])
      | (conv=>rhs;rw [if_neg (show ¬ v.kind≠t.kind by omega),if_pos (by omega),hs (by omega) (by omega)]
         simp;done)
      | (conv=>rhs;rw [if_neg (show ¬ v.kind≠t.kind by omega),if_pos (by omega)]
         cases decide (t.min≤v.int∧v.int≤t.max)<;>cases (v.scale == t.scale)<;>rfl)
      | (conv=>rhs;rw [if_neg (show ¬ v.kind≠t.kind by omega),if_neg (by omega),if_neg (by omega),if_pos (by omega)])
      | (conv=>rhs;rw [if_neg (show ¬ v.kind≠t.kind by omega),if_neg (by omega),if_neg (by omega),if_neg (by omega),if_neg (by omega),if_neg (by omega),if_neg (by omega)]
         rw [show t.kind=1 by omega];rfl)))
  have hRw:R=if 0<t.words.length then inWords t.words v.text else decide (t.min≤v.text.size∧v.text.size≤t.max):=by
    rw [hR];simp only [hasT]
    conv=>lhs;rw [if_neg (show ¬ v.kind≠t.kind by omega),if_neg (by omega),if_pos (by omega)]
  refine .loop (fun i:Nat=>⟨146,[(5,.int .i64 fun _=>i),(3,boxW c fun _=>v),(2,boxT e (d+1) fun _=>t)],[]⟩)
    (fun i=>i≤t.words.length∧∀ j,j<i→t.words.getD j ⟨#[]⟩≠v.text) (fun i=>t.words.length - i) 0 (by simp) ?_ fun i E hi=>?_
  · (focus (cbv;(try dsimp only [nc] at *);(try simp only [wl,nc]);(repeat' (with_reducible apply And.intro));all_goals (try exact wZ)))
  apply AWp.wk tF mF [(16,[(12,.bool fun _=>decide (t.min≤v.text.size∧v.text.size≤t.max),[])])] kp102 ?_
  (any_goals ((with_reducible refine wI ?_);cbv;(try dsimp only [nc] at *);(repeat' (with_reducible first|exact aO|exact oN|refine oC ?_ ?_|refine VC.mk rfl ?_ ?_ ?_|(apply Ca.mk<;>intro _)|(apply Cv.mk<;>intro zq<;>(try simp only [nc,cl] at zq)<;>(try simp only [bl,dl] at zq)<;>(revert zq;intro _))|((first|apply xE|apply uE);cbv;(try dsimp only [nc] at *))))))
  (any_goals ((with_reducible refine bZ ?_)<;>exact (refIn_ok _ _ _)))
  ((all_goals (try (with_reducible ((first|refine rE ?_|refine nE ?_);(focus (cbv;(try dsimp only [nc] at *);(try simp only [wl,nc]);(repeat' (with_reducible apply And.intro));all_goals (try exact wZ)))))));(all_goals (try ((with_reducible rw [aC]);(try simp only [wl,nc]);(repeat' (with_reducible apply And.intro));(all_goals (try exact cZ))))))
  · rw [hRw,if_pos (show 0<t.words.length by omega)]
    exact (List.any_eq_true.2 ⟨_,gD (x:=⟨#[]⟩) ‹i<t.words.length›,by simp only [decide_eq_true_eq];exact (Eq.symm ‹_›)⟩).symm
  · refine dE (i+1) ⟨⟨by omega,fun j hj=>?_⟩,by omega⟩ ?_
    · rcases Nat.lt_succ_iff_lt_or_eq.1 hj with hj|rfl
      · exact hi.2 j hj
      · assumption
    · (focus (cbv;(try dsimp only [nc] at *);(try simp only [wl,nc]);(repeat' (with_reducible apply And.intro));all_goals (try exact wZ)))
      exact w64n (by omega)
  · rw [hRw]
    by_cases h0:0<t.words.length
    · rw [if_pos h0,if_neg (show ¬ ((t.words.length:Int) == 0)=true by rw [beq_iff_eq];omega)]
      refine (List.any_eq_false.2 fun x hx=>?_).symm
      obtain ⟨k,hk,hxk⟩:=List.getElem_of_mem hx
      have:=hi.2 k (by omega)
      rw [List.getD_eq_getElem?_getD,List.getElem?_eq_getElem hk,Option.getD_some,hxk] at this
      simp only [decide_eq_true_eq]
      exact fun q=>this q.symm
    · rw [if_neg h0,if_pos (show ((t.words.length:Int) == 0)=true by rw [beq_iff_eq];omega)]
theorem refHas_list (e d c:Nat) (t:Ty) (v:V) (h8:t.kind=8) (h1:0<t.elem.length) (ht:Ty.le e (d+1) t) (hl:v.list.length≤1073741824)
    (ih:∀ x ∈ v.list,v.kind=8→Af Tryz.prog 102 [encT e d .any fun _=>t.elem.getD 0 default,encV c .any fun _=>x] [] (.bool fun _=>hasT d (t.elem.getD 0 default) x) []) :
    Af Tryz.prog 102 [encT e (d+1) .any fun _=>t,encV (c+1) .any fun _=>v] [] (.bool fun _=>hasT (d+1) t v) []:=by
  obtain ⟨R,hR⟩:∃ R,R=hasT (d+1) t v:=⟨_,rfl⟩
  rw [← hR]
  (apply Af.of tF mF [.tmp 4] kp102 [(0,[(0,.nil,[]),(1,.nil,[])]),(7,[(6,.bool fun _=>false,[])]),(9,[(12,.bool fun _=>false,[])]),(16,[(12,.bool fun _=>false,[])]),(18,[(7,.bool fun _=>false,[])]),(23,[(14,.bool fun _=>false,[])]),(25,[(7,.bool fun _=>decide (t.min≤v.list.length∧v.list.length≤t.max),[])]),(27,[(3,.int .i64 fun _=>0,[])]),(28,[(13,.bool fun _=>false,[])]),(30,[(2,.bool fun _=>false,[])])] Tryz.func102 (fun _=>?_);(any_goals ((with_reducible refine wI ?_);cbv;(try dsimp only [nc] at *);(repeat' (with_reducible first|exact aO|exact oN|refine oC ?_ ?_|refine VC.mk rfl ?_ ?_ ?_|(apply Ca.mk<;>intro _)|(apply Cv.mk<;>intro zq<;>(try simp only [nc,cl] at zq)<;>(try simp only [bl,dl] at zq)<;>(revert zq;intro _))|((first|apply xE|apply uE);cbv;(try dsimp only [nc] at *)))))))
  all_goals (try (exfalso;omega))
  ((all_goals (try (with_reducible ((first|refine rE ?_|refine nE ?_);(focus (cbv;(try dsimp only [nc] at *);(try simp only [wl,nc]);(repeat' (with_reducible apply And.intro));all_goals (try exact wZ)))))));(all_goals (try ((with_reducible rw [aC]);(try simp only [wl,nc]);(repeat' (with_reducible apply And.intro));(all_goals (try exact cZ))))))
  · rw [hR];simp only [hasT];rw [if_pos (by omega)]
  have hk:v.kind=t.kind:=by omega
  have hRl:R=(decide (t.min≤v.list.length∧v.list.length≤t.max) && !(v.list.any fun x=>!hasT d (t.elem.getD 0 default) x)):=by
    rw [hR];simp only [hasT]
    conv=>lhs;rw [if_neg (show ¬ v.kind≠t.kind by omega),if_neg (by omega),if_neg (by omega),if_neg (by omega),if_pos (by omega)]
  refine .loop (fun i:Nat=>⟨146,[(6,.int .i64 fun _=>i),(3,boxW (c+1) fun _=>v),(2,boxT e (d+1) fun _=>t)],[]⟩)
    (fun i=>i≤v.list.length∧∀ j,j<i→hasT d (t.elem.getD 0 default) (v.list.getD j default)=true) (fun i=>v.list.length - i) 0 (by simp) ?_ fun i E hi=>?_
  · (focus (cbv;(try dsimp only [nc] at *);(try simp only [wl,nc]);(repeat' (with_reducible apply And.intro));all_goals (try exact wZ)))
  by_cases h:i<v.list.length
  · obtain ⟨x,hx⟩:∃ x,x=v.list.getD i default:=⟨_,rfl⟩
    have hxm:x ∈ v.list:=by rw [hx];exact gD h
    have hih:=ih x hxm (by omega)
    apply AWp.wk tF mF [(23,[(14,.bool fun _=>hasT d (t.elem.getD 0 default) x,[])]),(25,[(7,.bool fun _=>false,[])])] kp102 ?_
    (any_goals ((with_reducible refine wI ?_);cbv;(try dsimp only [nc] at *);(repeat' (with_reducible first|exact aO|exact oN|refine oC ?_ ?_|refine VC.mk rfl ?_ ?_ ?_|(apply Ca.mk<;>intro _)|(apply Cv.mk<;>intro zq<;>(try simp only [nc,cl] at zq)<;>(try simp only [bl,dl] at zq)<;>(revert zq;intro _))|((first|apply xE|apply uE);cbv;(try dsimp only [nc] at *))))))
    all_goals (try exact absurd h (Nat.not_lt.2 ‹v.list.length≤i›))
    all_goals (try simp only [Int.toNat_natCast,← hx])
    (any_goals ((with_reducible refine bZ ?_);(try dsimp only);(have q:=hih;refine Af.wN q ?_;clear q);(focus (cbv;(try dsimp only [nc] at *);(try simp only [wl,nc]);(repeat' (with_reducible apply And.intro));all_goals (try exact wZ)))))
    ((all_goals (try (with_reducible ((first|refine rE ?_|refine nE ?_);(focus (cbv;(try dsimp only [nc] at *);(try simp only [wl,nc]);(repeat' (with_reducible apply And.intro));all_goals (try exact wZ)))))));(all_goals (try ((with_reducible rw [aC]);(try simp only [wl,nc]);(repeat' (with_reducible apply And.intro));(all_goals (try exact cZ))))))
    · have hx0:hasT d (t.elem.getD 0 default) x=false:=by
        rcases ‹(t.elem.length:Int)=0∨_› with q|q
        · omega
        · exact q
      have:(v.list.any fun x=>!hasT d (t.elem.getD 0 default) x)=true:=List.any_eq_true.2 ⟨x,hxm,by rw [hx0];rfl⟩
      rw [hRl,this,Bool.not_true,Bool.and_false]
    · have q:=‹¬ (t.elem.length:Int)=0∧_›
      refine dE (i+1) ⟨⟨by omega,fun j hj=>?_⟩,by omega⟩ ?_
      · rcases Nat.lt_succ_iff_lt_or_eq.1 hj with hj|rfl
        · exact hi.2 j hj
        · rw [← hx];exact q.2
      · (focus (cbv;(try dsimp only [nc] at *);(try simp only [wl,nc]);(repeat' (with_reducible apply And.intro));all_goals (try exact wZ)))
        exact w64n (by omega)
  · apply AWp.wk tF mF [(23,[(14,.bool fun _=>true,[])]),(25,[(7,.bool fun _=>decide (t.min≤v.list.length∧v.list.length≤t.max),[])])] kp102 ?_
    (any_goals ((with_reducible refine wI ?_);cbv;(try dsimp only [nc] at *);(repeat' (with_reducible first|exact aO|exact oN|refine oC ?_ ?_|refine VC.mk rfl ?_ ?_ ?_|(apply Ca.mk<;>intro _)|(apply Cv.mk<;>intro zq<;>(try simp only [nc,cl] at zq)<;>(try simp only [bl,dl] at zq)<;>(revert zq;intro _))|((first|apply xE|apply uE);cbv;(try dsimp only [nc] at *))))))
    all_goals (try exact absurd ‹i<v.list.length› h)
    (any_goals ((with_reducible refine bZ ?_)<;>exact (refIn_ok _ _ _)))
    ((all_goals (try (with_reducible ((first|refine rE ?_|refine nE ?_);(focus (cbv;(try dsimp only [nc] at *);(try simp only [wl,nc]);(repeat' (with_reducible apply And.intro));all_goals (try exact wZ)))))));(all_goals (try ((with_reducible rw [aC]);(try simp only [wl,nc]);(repeat' (with_reducible apply And.intro));(all_goals (try exact cZ))))))
    have:(v.list.any fun x=>!hasT d (t.elem.getD 0 default) x)=false:=List.any_eq_false.2 fun x hx=>by
      obtain ⟨k,hk,hxk⟩:=List.getElem_of_mem hx
      have:=hi.2 k (by omega)
      have e1:v.list.getD k default=x:=by rw [List.getD_eq_getElem?_getD,List.getElem?_eq_getElem hk,Option.getD_some,hxk]
      rw [e1] at this
      rw [this];simp
    rw [hRl,this,Bool.not_false,Bool.and_true]
theorem refHas_var (e d c:Nat) (t:Ty) (v:V) (h8:t.kind=10) (ht:Ty.le e (d+1) t) (h1:v.kind=10→0<v.list.length)
    (ih:v.kind=10→0≤iI (bQ v.text) t.fields→Af Tryz.prog 102 [encT e d .any fun _=>fT (gT t (bQ v.text)),encV c .any fun _=>v.list.getD 0 default] [] (.bool fun _=>hasT d (fT (gT t (bQ v.text))) (v.list.getD 0 default)) []) :
    Af Tryz.prog 102 [encT e (d+1) .any fun _=>t,encV (c+1) .any fun _=>v] [] (.bool fun _=>hasT (d+1) t v) []:=by
  have hlt:=idxI_lt (p:=bQ v.text) (l:=t.fields)
  have hF:=refFieldT_ok e d t ht v.text
  obtain ⟨k,hk⟩:∃ k,k=iI (bQ v.text) t.fields:=⟨_,rfl⟩
  have hg:t.fields.getD k.toNat default=gT t (bQ v.text):=by rw [hk];rfl
  rw [← hk] at hF hlt ih
  obtain ⟨R,hR⟩:∃ R,R=hasT (d+1) t v:=⟨_,rfl⟩
  rw [← hR]
  (apply Af.of tF mF [.tmp 4] kp102 [(0,[(0,.nil,[]),(1,.nil,[])]),(7,[(6,.bool fun _=>false,[])]),(9,[(12,.bool fun _=>false,[])]),(16,[(12,.bool fun _=>false,[])]),(18,[(7,.bool fun _=>false,[])]),(23,[(14,.bool fun _=>false,[])]),(25,[(7,.bool fun _=>false,[])]),(27,[(3,.int .i64 fun _=>k,[])]),(28,[(13,.bool fun _=>hasT d (fT (gT t (bQ v.text))) (v.list.getD 0 default),[])]),(30,[(2,.bool fun _=>false,[])])] Tryz.func102 (fun _=>?_);(any_goals ((with_reducible refine wI ?_);cbv;(try dsimp only [nc] at *);(repeat' (with_reducible first|exact aO|exact oN|refine oC ?_ ?_|refine VC.mk rfl ?_ ?_ ?_|(apply Ca.mk<;>intro _)|(apply Cv.mk<;>intro zq<;>(try simp only [nc,cl] at zq)<;>(try simp only [bl,dl] at zq)<;>(revert zq;intro _))|((first|apply xE|apply uE);cbv;(try dsimp only [nc] at *)))))))
  all_goals (try (exfalso;omega))
  all_goals (try (have h10:=h1 (by omega)))
  (any_goals ((with_reducible refine bZ ?_);(try dsimp only);(have q:=hF;refine Af.wN q ?_;clear q);(focus (cbv;(try dsimp only [nc] at *);(try simp only [wl,nc]);(repeat' (with_reducible apply And.intro));all_goals (try exact wZ)))))
  any_goals (with_reducible refine sO (fun q=>?_))<;>exact (by
    rw [hg]
    exact ih (by omega) (by simpa using q))
  ((all_goals (try (with_reducible ((first|refine rE ?_|refine nE ?_);(focus (cbv;(try dsimp only [nc] at *);(try simp only [wl,nc]);(repeat' (with_reducible apply And.intro));all_goals (try exact wZ)))))));(all_goals (try ((with_reducible rw [aC]);(try simp only [wl,nc]);(repeat' (with_reducible apply And.intro));(all_goals (try exact cZ))))))
  · rw [hR];simp only [hasT];rw [if_pos (by omega)]
  · rw [hR];simp only [hasT]
    conv=>rhs;rw [if_neg (show ¬ v.kind≠t.kind by omega),if_neg (by omega),if_neg (by omega),if_neg (by omega),if_neg (by omega),if_pos (by omega)]
    rw [← hk]
    by_cases q:0≤k<;>simp [q]
theorem refHas_rec (e d c:Nat) (t:Ty) (v:V) (h8:t.kind=9) (ht:Ty.le e (d+1) t) (hv:V.le (c+1) v)
    (ih:v.kind=9→∀ x ∈ v.fields,0≤iI (bQ x.1) t.fields→Af Tryz.prog 102 [encT e d .any fun _=>fT (gT t (bQ x.1)),encV c .any fun _=>x.2] [] (.bool fun _=>hasT d (fT (gT t (bQ x.1))) x.2) []) :
    Af Tryz.prog 102 [encT e (d+1) .any fun _=>t,encV (c+1) .any fun _=>v] [] (.bool fun _=>hasT (d+1) t v) []:=by
  obtain ⟨P,hP⟩:∃ P:ByteArray×V→Bool,P=fun x=>decide (0≤iI (bQ x.1) t.fields) && hasT d (fT (gT t (bQ x.1))) x.2:=⟨_,rfl⟩
  obtain ⟨Q,hQ⟩:∃ Q,Q=(v.fields.all P && !(t.fields.any fun f=>decide (findI v (fM f)<0) && fN f != 2)):=⟨_,rfl⟩
  have hR:v.kind=t.kind→hasT (d+1) t v=Q:=fun hk=>by
    rw [hQ,hP];simp only [hasT]
    conv=>lhs;rw [if_neg (show ¬ v.kind≠t.kind by omega),if_neg (by omega),if_neg (by omega),if_neg (by omega),if_neg (by omega),if_neg (by omega),if_pos (by omega)]
  obtain ⟨R,hR2⟩:∃ R,R=hasT (d+1) t v:=⟨_,rfl⟩
  rw [← hR2]
  (apply Af.of tF mF [.tmp 4] kp102 [(0,[(0,.nil,[]),(1,.nil,[])]),(7,[(6,.bool fun _=>false,[])]),(9,[(12,.bool fun _=>false,[])]),(16,[(12,.bool fun _=>false,[])]),(18,[(7,.bool fun _=>false,[])]),(23,[(14,.bool fun _=>false,[])]),(25,[(7,.bool fun _=>false,[])]),(27,[(3,.int .i64 fun _=>0,[])]),(28,[(13,.bool fun _=>false,[])]),(30,[(2,.bool fun _=>Q,[])])] Tryz.func102 (fun _=>?_);(any_goals ((with_reducible refine wI ?_);cbv;(try dsimp only [nc] at *);(repeat' (with_reducible first|exact aO|exact oN|refine oC ?_ ?_|refine VC.mk rfl ?_ ?_ ?_|(apply Ca.mk<;>intro _)|(apply Cv.mk<;>intro zq<;>(try simp only [nc,cl] at zq)<;>(try simp only [bl,dl] at zq)<;>(revert zq;intro _))|((first|apply xE|apply uE);cbv;(try dsimp only [nc] at *)))))))
  all_goals (try (exfalso;omega))
  any_goals (with_reducible refine nO ?_)<;>exact (by
    rw [hQ]
    exact refRecord_ok e d c t v (by omega) ht hv P hP (ih (by omega)))
  ((all_goals (try (with_reducible ((first|refine rE ?_|refine nE ?_);(focus (cbv;(try dsimp only [nc] at *);(try simp only [wl,nc]);(repeat' (with_reducible apply And.intro));all_goals (try exact wZ)))))));(all_goals (try ((with_reducible rw [aC]);(try simp only [wl,nc]);(repeat' (with_reducible apply And.intro));(all_goals (try exact cZ))))))
  · rw [hR2];simp only [hasT];rw [if_pos (by omega)]
  · rw [hR2,hR (by omega)]
theorem ownE_scale {vs:ByteArray→Bool} {v:V} (h:ownE vs v=0) (hk:v.kind≠3):v.scale=0:=by
  unfold ownE at h
  split at h
  · cases h
  split at h
  · cases h
  split at h
  · cases h
  · rename_i q
    have q2:usesB v=true:=by simpa using q
    simp only [usesB,Bool.and_eq_true,Bool.or_eq_true,beq_iff_eq] at q2
    exact q2.1.1.1.2.resolve_left hk
theorem refHas_ok (e:Nat):∀ (d c:Nat) (t:Ty) (v:V),Ty.le e d t→Ty.ok e d t→V.le c v→V.ok c v→Af Tryz.prog 102 [encT e d .any fun _=>t,encV c .any fun _=>v] [] (.bool fun _=>hasT d t v) []
  | 0,_,_,_,h,_,_,_=>h.elim
  | d + 1,c,t,v,ht,hto,hv,hvo=>by
    obtain ⟨c,rfl⟩:=V.lP hv
    have hkk:1≤t.kind∧t.kind≤10:=by
      have:=hto.1
      simp only [ownT] at this
      split at this
      · cases this
      · omega
    by_cases h8:t.kind=8
    · have h1:=ownT_elem hto.1 h8
      have hx:t.elem.getD 0 default ∈ t.elem:=gD (by omega)
      exact refHas_list e d c t v h8 (by omega) ht hv.1 fun x hxl hvk =>
        refHas_ok e d c _ x (ht.2.2.2.2.1 _ hx) (Ty.ok_elem hto h8 hx) (hv.2.2.2.1 x hxl) (V.ok_kid hvo (by simp only [kz];rw [if_pos (.inl hvk)];exact hxl))
    by_cases h10:t.kind=10
    · have h1:v.kind=10→v.list.getD 0 default ∈ v.list:=fun hvk=>gD (by rw [V.ok_list (V.ok_self hvo) hvk];omega)
      exact refHas_var e d c t v h10 ht (fun hvk=>by rw [V.ok_list (V.ok_self hvo) hvk];omega) fun hvk hF =>
        refHas_ok e d c _ _ (ht.2.2.2.2.2 _ (getTF_mem hF)).2.2.2 (Ty.ok_field hto (.inr h10) (getTF_mem hF)) (hv.2.2.2.1 _ (h1 hvk)) (V.ok_kid hvo (by simp only [kz];rw [if_pos (.inr hvk)];exact h1 hvk))
    by_cases h9:t.kind=9
    · exact refHas_rec e d c t v h9 ht hv fun hvk x hx hF =>
        refHas_ok e d c _ _ (ht.2.2.2.2.2 _ (getTF_mem hF)).2.2.2 (Ty.ok_field hto (.inl h9) (getTF_mem hF)) (hv.2.2.2.2 _ hx).2 (V.ok_kid hvo (by simp only [kz];rw [if_neg (by omega),if_pos hvk];exact List.mem_map_of_mem (f:=(·.2)) hx))
    · refine refHas_flat e d (c+1) t v h8 h9 h10 hkk (fun hk h3=>?_) ht
      have h1:=ownE_scale (V.ok_self hvo) (by omega)
      have h2:=ownT_form hto.1
      simp only [formE] at h2
      have:t.scale=0:=by grind
      rw [h1,this]
end Go.Ai
