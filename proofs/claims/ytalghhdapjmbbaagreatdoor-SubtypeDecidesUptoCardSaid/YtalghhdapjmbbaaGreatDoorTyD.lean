/- Chapter 6: copies of types. -/
import Derived.Test.YtalghhdapjmbbaaGreatDoorTyA
set_option linter.all false
namespace Go.Ai
open Go Go.Proofs
set_option maxRecDepth 100000
set_option maxHeartbeats 4000000
theorem sliceClone_words (w:List ByteArray) (hl:w.length≤1073741824):Af Tryz.prog 91 [.slc .any 1 (fun _=>w.length) (wordsF fun _=>w)] [] (.slc .any 1 (fun _=>w.length) (wordsF fun _=>w)) []:=by
  (apply Af.of tF mF [.tmp 2] kp91 [] Tryz.func91 (fun _=>?_);(any_goals ((with_reducible refine wI ?_);cbv;(try dsimp only [nc] at *);(repeat' (with_reducible first|exact aO|exact oN|refine oC ?_ ?_|refine VC.mk rfl ?_ ?_ ?_|(apply Ca.mk<;>intro _)|(apply Cv.mk<;>intro zq<;>(try simp only [nc,cl] at zq)<;>(try simp only [bl,dl] at zq)<;>(revert zq;intro _))|((first|apply xE|apply uE);cbv;(try dsimp only [nc] at *)))))))
  ((all_goals (try (with_reducible ((first|refine rE ?_|refine nE ?_);(focus (cbv;(try dsimp only [nc] at *);(try simp only [wl,nc]);(repeat' (with_reducible apply And.intro));all_goals (try exact wZ)))))));(all_goals (try ((with_reducible rw [aC]);(try simp only [wl,nc]);(repeat' (with_reducible apply And.intro));(all_goals (try exact cZ))))))
theorem cloneField_ok (e d:Nat) (f:TF) (hd:(fDef f).length≤1073741824) (hv:∀ v ∈ fDef f,V.le e v) (ih:Af Tryz.prog 52 [encT e d .any fun _=>fT f] [] (encT e d .any fun _=>fT f) []) :
    Af Tryz.prog 90 [encTF e d .any fun _=>f] [] (encTF e d .any fun _=>f) []:=by
  (apply Af.of tF mF [.cell 2 52] kp90 [(1,[(2,encT e d .any fun _=>fT f,[])])] Tryz.func90 (fun _=>?_);(any_goals ((with_reducible refine wI ?_);cbv;(try dsimp only [nc] at *);(repeat' (with_reducible first|exact aO|exact oN|refine oC ?_ ?_|refine VC.mk rfl ?_ ?_ ?_|(apply Ca.mk<;>intro _)|(apply Cv.mk<;>intro zq<;>(try simp only [nc,cl] at zq)<;>(try simp only [bl,dl] at zq)<;>(revert zq;intro _))|((first|apply xE|apply uE);cbv;(try dsimp only [nc] at *)))))))
  (any_goals ((with_reducible refine bZ ?_)<;>exact ih))
  ((all_goals (try (with_reducible ((first|refine rE ?_|refine nE ?_);(focus (cbv;(try dsimp only [nc] at *);(try simp only [wl,nc]);(repeat' (with_reducible apply And.intro));all_goals (try exact wZ)))))));(all_goals (try ((with_reducible rw [aC]);(try simp only [wl,nc]);(repeat' (with_reducible apply And.intro));(all_goals (try exact cZ))))))
  refine .loop (fun i:Nat=>⟨30,[(17,.int .i64 fun _=>i),(16,.int .i64 fun _=>(fDef f).length),(15,.slc .any 6 (fun _=>(fDef f).length) fun j=>cells e .any fun _=>(fDef f).getD (j ()) default),(3,.aref 13 0 fun _=>i),(2,.ptr 2 0),(1,.ptr 1 0)],
      [(1,.box (cF e d .any fun _=>f)),(2,.box [.int .i64 fun _=>0,.str fun _=>⟨#[]⟩,.int .i64 fun _=>0,.int .i64 fun _=>0,.int .i64 fun _=>0,.int .i64 fun _=>0,.int .i64 fun _=>0,.nil,.nil,.nil,.nil]),
       (13,.arr false 33 6 0 (fun _=>i) fun j=>cells e .any fun _=>(fDef f).getD (j ()) default)]⟩)
    (fun i=>i≤(fDef f).length) (fun i=>(fDef f).length - i) 0 (by simp) ?_ fun i E hi=>?_
  · (focus (cbv;(try dsimp only [nc] at *);(try simp only [wl,nc]);(repeat' (with_reducible apply And.intro));all_goals (try exact wZ)))
  apply AWp.wk tF mF [(6,[(2,encV e .new fun _=>(fDef f).getD i default,[])])] kp90 ?_
  (any_goals ((with_reducible refine wI ?_);cbv;(try dsimp only [nc] at *);(repeat' (with_reducible first|exact aO|exact oN|refine oC ?_ ?_|refine VC.mk rfl ?_ ?_ ?_|(apply Ca.mk<;>intro _)|(apply Cv.mk<;>intro zq<;>(try simp only [nc,cl] at zq)<;>(try simp only [bl,dl] at zq)<;>(revert zq;intro _))|((first|apply xE|apply uE);cbv;(try dsimp only [nc] at *))))))
  (any_goals ((with_reducible refine bZ ?_);(try dsimp only);(have q:=(Clone_ok e ((fDef f).getD i default) (hv _ (gD (by omega))));refine Af.wN q ?_;clear q);(focus (cbv;(try dsimp only [nc] at *);(try simp only [wl,nc]);(repeat' (with_reducible apply And.intro));all_goals (try exact wZ)))))
  ((all_goals (try (with_reducible ((first|refine rE ?_|refine nE ?_);(focus (cbv;(try dsimp only [nc] at *);(try simp only [wl,nc]);(repeat' (with_reducible apply And.intro));all_goals (try exact wZ)))))));(all_goals (try ((with_reducible rw [aC]);(try simp only [wl,nc]);(repeat' (with_reducible apply And.intro));(all_goals (try exact cZ))))))
  refine dE (i+1) ⟨by omega,by omega⟩ ?_
  (focus (cbv;(try dsimp only [nc] at *);(try simp only [wl,nc]);(repeat' (with_reducible apply And.intro));all_goals (try exact wZ)))
  · exact w64n (by omega)
  · refine cat_le (n:=fun _=>i) (m:=1) (F:=fun j=>cells e .any fun _=>(fDef f).getD (j ()) default) (fun k hk=>LeL.of_eq rfl) (fun k hk=>?_)
    have:k=0:=by omega
    subst this
    exact le_cells e fun _=>(fDef f).getD i default
theorem Clone_step (e d:Nat) (t:Ty) (ht:Ty.le e (d+1) t) (ih:∀ x,Ty.le e d x→Af Tryz.prog 52 [encT e d .any fun _=>x] [] (encT e d .any fun _=>x) []) :
    Af Tryz.prog 52 [encT e (d+1) .any fun _=>t] [] (encT e (d+1) .any fun _=>t) []:=by
  have h1:=ht.2.2.1
  have h2:=ht.2.2.2.1
  (apply Af.of tF mF [.cell 2 26] kp52 [(13,[(2,.slc .any 1 (fun _=>t.words.length) (wordsF fun _=>t.words),[])])] Tryz.func52 (fun _=>?_);(any_goals ((with_reducible refine wI ?_);cbv;(try dsimp only [nc] at *);(repeat' (with_reducible first|exact aO|exact oN|refine oC ?_ ?_|refine VC.mk rfl ?_ ?_ ?_|(apply Ca.mk<;>intro _)|(apply Cv.mk<;>intro zq<;>(try simp only [nc,cl] at zq)<;>(try simp only [bl,dl] at zq)<;>(revert zq;intro _))|((first|apply xE|apply uE);cbv;(try dsimp only [nc] at *)))))))
  ((all_goals (try (with_reducible ((first|refine rE ?_|refine nE ?_);(focus (cbv;(try dsimp only [nc] at *);(try simp only [wl,nc]);(repeat' (with_reducible apply And.intro));all_goals (try exact wZ)))))));(all_goals (try ((with_reducible rw [aC]);(try simp only [wl,nc]);(repeat' (with_reducible apply And.intro));(all_goals (try exact cZ))))))
  refine .loop (fun i:Nat=>⟨52,[(16,.int .i64 fun _=>i),(15,.int .i64 fun _=>t.elem.length),(14,.slc .any 7 (fun _=>t.elem.length) fun j=>cl' e d .any fun _=>t.elem.getD (j ()) default),(3,.aref 12 0 fun _=>i),(2,.ptr 2 0),(1,.ptr 1 0)],
      [(1,.box (cl' e (d+1) .any fun _=>t)),(2,.box [.int .i64 fun _=>0,.int .i64 fun _=>0,.int .i64 fun _=>0,.int .i64 fun _=>0,.nil,.nil,.nil]),
       (12,.arr false 26 7 0 (fun _=>i) fun j=>cl' e d .any fun _=>t.elem.getD (j ()) default)]⟩)
    (fun i=>i≤t.elem.length) (fun i=>t.elem.length - i) 0 (by simp) ?_ fun i E hi=>?_
  · (focus (cbv;(try dsimp only [nc] at *);(try simp only [wl,nc]);(repeat' (with_reducible apply And.intro));all_goals (try exact wZ)))
  apply AWp.wk tF mF [(5,[(2,encT e d .any fun _=>t.elem.getD i default,[])])] kp52 ?_
  (any_goals ((with_reducible refine wI ?_);cbv;(try dsimp only [nc] at *);(repeat' (with_reducible first|exact aO|exact oN|refine oC ?_ ?_|refine VC.mk rfl ?_ ?_ ?_|(apply Ca.mk<;>intro _)|(apply Cv.mk<;>intro zq<;>(try simp only [nc,cl] at zq)<;>(try simp only [bl,dl] at zq)<;>(revert zq;intro _))|((first|apply xE|apply uE);cbv;(try dsimp only [nc] at *))))))
  (any_goals ((with_reducible refine bZ ?_);(try dsimp only);(have q:=(ih _ (ht.2.2.2.2.1 _ (gD (x:=default) (i:=i) (by omega))));refine Af.wN q ?_;clear q);(focus (cbv;(try dsimp only [nc] at *);(try simp only [wl,nc]);(repeat' (with_reducible apply And.intro));all_goals (try exact wZ)))))
  ((all_goals (try (with_reducible ((first|refine rE ?_|refine nE ?_);(focus (cbv;(try dsimp only [nc] at *);(try simp only [wl,nc]);(repeat' (with_reducible apply And.intro));all_goals (try exact wZ)))))));(all_goals (try ((with_reducible rw [aC]);(try simp only [wl,nc]);(repeat' (with_reducible apply And.intro));(all_goals (try exact cZ))))))
  · refine dE (i+1) ⟨by omega,by omega⟩ ?_
    (focus (cbv;(try dsimp only [nc] at *);(try simp only [wl,nc]);(repeat' (with_reducible apply And.intro));all_goals (try exact wZ)))
    · exact w64n (by omega)
    · refine cat_le (n:=fun _=>i) (m:=1) (F:=fun j=>cl' e d .any fun _=>t.elem.getD (j ()) default) (fun k hk=>LeL.of_eq rfl) (fun k hk=>?_)
      have:k=0:=by omega
      subst this
      exact LeL.of_eq rfl
  have hi2:i=t.elem.length:=by omega
  refine .loop (fun j:Nat=>⟨52,[(33,.int .i64 fun _=>j),(32,.int .i64 fun _=>t.fields.length),(31,.slc .any 11 (fun _=>t.fields.length) fun j=>cF e d .any fun _=>t.fields.getD (j ()) default),(6,.aref 29 0 fun _=>j),(3,.aref 12 0 fun _=>i),(2,.ptr 2 0),(1,.ptr 1 0)],
      [(1,.box (cl' e (d+1) .any fun _=>t)),(2,.box [.int .i64 fun _=>0,.int .i64 fun _=>0,.int .i64 fun _=>0,.int .i64 fun _=>0,.nil,.nil,.nil]),
       (12,.arr false 26 7 0 (fun _=>i) fun j=>cl' e d .any fun _=>t.elem.getD (j ()) default),
       (29,.arr false 52 11 0 (fun _=>j) fun j=>cF e d .any fun _=>t.fields.getD (j ()) default)]⟩)
    (fun j=>j≤t.fields.length) (fun j=>t.fields.length - j) 0 (by simp) ?_ fun j E hj=>?_
  · (focus (cbv;(try dsimp only [nc] at *);(try simp only [wl,nc]);(repeat' (with_reducible apply And.intro));all_goals (try exact wZ)))
  have hf:j<t.fields.length→Af Tryz.prog 90 [encTF e d .any fun _=>t.fields.getD j default] [] (encTF e d .any fun _=>t.fields.getD j default) []:=fun h =>
    cloneField_ok e d _ (ht.2.2.2.2.2 _ (gD (x:=default) h)).2.1 (ht.2.2.2.2.2 _ (gD (x:=default) h)).2.2.1 (ih _ (ht.2.2.2.2.2 _ (gD (x:=default) h)).2.2.2)
  apply AWp.wk tF mF [(11,[(2,encTF e d .any fun _=>t.fields.getD j default,[])])] kp52 ?_
  (any_goals ((with_reducible refine wI ?_);cbv;(try dsimp only [nc] at *);(repeat' (with_reducible first|exact aO|exact oN|refine oC ?_ ?_|refine VC.mk rfl ?_ ?_ ?_|(apply Ca.mk<;>intro _)|(apply Cv.mk<;>intro zq<;>(try simp only [nc,cl] at zq)<;>(try simp only [bl,dl] at zq)<;>(revert zq;intro _))|((first|apply xE|apply uE);cbv;(try dsimp only [nc] at *))))))
  (any_goals ((with_reducible refine bZ ?_);(try dsimp only);(have q:=(hf (by omega));refine Af.wN q ?_;clear q);(focus (cbv;(try dsimp only [nc] at *);(try simp only [wl,nc]);(repeat' (with_reducible apply And.intro));all_goals (try exact wZ)))))
  (any_goals ((with_reducible refine bZ ?_);(try dsimp only);(have q:=(sliceClone_words t.words ht.1);refine Af.wN q ?_;clear q);(focus (cbv;(try dsimp only [nc] at *);(try simp only [wl,nc]);(repeat' (with_reducible apply And.intro));all_goals (try exact wZ)))))
  ((all_goals (try (with_reducible ((first|refine rE ?_|refine nE ?_);(focus (cbv;(try dsimp only [nc] at *);(try simp only [wl,nc]);(repeat' (with_reducible apply And.intro));all_goals (try exact wZ)))))));(all_goals (try ((with_reducible rw [aC]);(try simp only [wl,nc]);(repeat' (with_reducible apply And.intro));(all_goals (try exact cZ))))))
  refine dE (j+1) ⟨by omega,by omega⟩ ?_
  (focus (cbv;(try dsimp only [nc] at *);(try simp only [wl,nc]);(repeat' (with_reducible apply And.intro));all_goals (try exact wZ)))
  · exact w64n (by omega)
  · refine cat_le (n:=fun _=>j) (m:=1) (F:=fun j=>cF e d .any fun _=>t.fields.getD (j ()) default) (fun k hk=>LeL.of_eq rfl) (fun k hk=>?_)
    have:k=0:=by omega
    subst this
    exact LeL.of_eq rfl
theorem CloneT_ok (e:Nat):∀ (d:Nat) (t:Ty),Ty.le e d t→Af Tryz.prog 52 [encT e d .any fun _=>t] [] (encT e d .any fun _=>t) []
  | 0,_,h=>h.elim
  | d+1,t,h=>Clone_step e d t h fun x hx=>CloneT_ok e d x hx
theorem cloneTF_ok (e d:Nat) (t:Ty) (ht:Ty.le e (d+1) t) {i:Nat} (hi:i<t.fields.length):Af Tryz.prog 90 [encTF e d .any fun _=>t.fields.getD i default] [] (encTF e d .any fun _=>t.fields.getD i default) [] :=
  cloneField_ok e d _ (ht.2.2.2.2.2 _ (gD hi)).2.1 (ht.2.2.2.2.2 _ (gD hi)).2.2.1 (CloneT_ok e d _ (ht.2.2.2.2.2 _ (gD hi)).2.2.2)
def hasTF (t:Ty) (p:TF→Bool):Prop:=(t.kind=9∨t.kind=10)∧0≤iI p t.fields
def gT (t:Ty) (p:TF→Bool):TF:=t.fields.getD (iI p t.fields).toNat default
theorem find_no_str (e d:Nat) (t:Ty) (ht:Ty.le e (d+1) t) (fn:FuncId) (p:TF→Bool) (s:ByteArray) (h:¬ hasTF t p)
    (hc:∀ x ∈ t.fields,Af Tryz.prog fn [.agg (cF e d .any fun _=>x),.ptr 1001 0] [(1001,.box [.str fun _=>s])] (.bool fun _=>p x) [(1001,.box [.str fun _=>s])]) :
    Af Tryz.prog 214 [encT e (d+1) .any fun _=>t,.func fn [.ptr capP 0]] [(capP,.box [.str fun _=>s])] (.tup [encTF e d .any fun _=>default,.bool fun _=>false]) [(capP,.box [.str fun _=>s])]:=by
  have hl:=ht.2.2.2.1
  (apply Af.of tF mF [.cell 4 52,.tmp 5] kp214 [(3,[(3,.int .i64 fun _=>iI p t.fields,[(capP,.box [.str fun _=>s])])]),(6,[(5,.any,[])])] Tryz.func214 (fun _=>?_);(any_goals ((with_reducible refine wI ?_);cbv;(try dsimp only [nc] at *);(repeat' (with_reducible first|exact aO|exact oN|refine oC ?_ ?_|refine VC.mk rfl ?_ ?_ ?_|(apply Ca.mk<;>intro _)|(apply Cv.mk<;>intro zq<;>(try simp only [nc,cl] at zq)<;>(try simp only [bl,dl] at zq)<;>(revert zq;intro _))|((first|apply xE|apply uE);cbv;(try dsimp only [nc] at *)))))))
  (any_goals ((with_reducible refine bZ ?_)<;>exact (IndexTF_str e d s fn p t.fields hl hc)))
  all_goals (try exact absurd h (fun q=>q ⟨by omega,by omega⟩))
  ((all_goals (try (with_reducible ((first|refine rE ?_|refine nE ?_);(focus (cbv;(try dsimp only [nc] at *);(try simp only [wl,nc]);(repeat' (with_reducible apply And.intro));all_goals (try exact wZ)))))));(all_goals (try ((with_reducible rw [aC]);(try simp only [wl,nc]);(repeat' (with_reducible apply And.intro));(all_goals (try exact cZ))))))
theorem find_yes_str (e d:Nat) (t:Ty) (ht:Ty.le e (d+1) t) (fn:FuncId) (p:TF→Bool) (s:ByteArray) (h:hasTF t p)
    (hc:∀ x ∈ t.fields,Af Tryz.prog fn [.agg (cF e d .any fun _=>x),.ptr 1001 0] [(1001,.box [.str fun _=>s])] (.bool fun _=>p x) [(1001,.box [.str fun _=>s])]) :
    Af Tryz.prog 214 [encT e (d+1) .any fun _=>t,.func fn [.ptr capP 0]] [(capP,.box [.str fun _=>s])] (.tup [encTF e d .any fun _=>gT t p,.bool fun _=>true]) [(capP,.box [.str fun _=>s])]:=by
  have hl:=ht.2.2.2.1
  have hlt:=idxI_lt (p:=p) (l:=t.fields)
  obtain ⟨hk,h0⟩:=h
  obtain ⟨i,hi⟩:∃ i:Nat,iI p t.fields=i:=⟨(iI p t.fields).toNat,by omega⟩
  have hil:i<t.fields.length:=by
    rcases Nat.lt_or_ge i t.fields.length with q|q
    · exact q
    · omega
  have hg:gT t p=t.fields.getD i default:=by simp [gT,hi]
  rw [hg]
  have hI:=IndexTF_str e d s fn p t.fields hl hc
  rw [hi] at hI
  (apply Af.of tF mF [.cell 4 52,.tmp 5] kp214 [(3,[(3,.int .i64 fun _=>i,[(capP,.box [.str fun _=>s])])]),(6,[(5,encTF e d .any fun _=>t.fields.getD i default,[])])] Tryz.func214 (fun _=>?_);(any_goals ((with_reducible refine wI ?_);cbv;(try dsimp only [nc] at *);(repeat' (with_reducible first|exact aO|exact oN|refine oC ?_ ?_|refine VC.mk rfl ?_ ?_ ?_|(apply Ca.mk<;>intro _)|(apply Cv.mk<;>intro zq<;>(try simp only [nc,cl] at zq)<;>(try simp only [bl,dl] at zq)<;>(revert zq;intro _))|((first|apply xE|apply uE);cbv;(try dsimp only [nc] at *)))))))
  all_goals (try (exfalso;omega))
  (any_goals ((with_reducible refine bZ ?_)<;>exact hI))
  (any_goals ((with_reducible refine bZ ?_);(try dsimp only);(have q:=(cloneTF_ok e d t ht hil);refine Af.wN q ?_;clear q);(focus (cbv;(try dsimp only [nc] at *);(try simp only [wl,nc]);(repeat' (with_reducible apply And.intro));all_goals (try exact wZ)))))
  ((all_goals (try (with_reducible ((first|refine rE ?_|refine nE ?_);(focus (cbv;(try dsimp only [nc] at *);(try simp only [wl,nc]);(repeat' (with_reducible apply And.intro));all_goals (try exact wZ)))))));(all_goals (try ((with_reducible rw [aC]);(try simp only [wl,nc]);(repeat' (with_reducible apply And.intro));(all_goals (try exact cZ))))))
def bQ (s:ByteArray) (x:TF):Bool:=decide (fM x=s)
theorem FieldT_no (e d:Nat) (t:Ty) (ht:Ty.le e (d+1) t) (s:ByteArray) (h:¬ hasTF t (bQ s)):Af Tryz.prog 179 [encT e (d+1) .any fun _=>t,.str fun _=>s] [] (.tup [encTF e d .any fun _=>default,.bool fun _=>false]) []:=by
  (apply Af.of tF mF [.cell 4 52,.tmp 5] kp179 [(1,[(2,.tup [encTF e d .any fun _=>default,.bool fun _=>false],[(capP,.box [.str fun _=>s])])])] Tryz.func179 (fun _=>?_);(any_goals ((with_reducible refine wI ?_);cbv;(try dsimp only [nc] at *);(repeat' (with_reducible first|exact aO|exact oN|refine oC ?_ ?_|refine VC.mk rfl ?_ ?_ ?_|(apply Ca.mk<;>intro _)|(apply Cv.mk<;>intro zq<;>(try simp only [nc,cl] at zq)<;>(try simp only [bl,dl] at zq)<;>(revert zq;intro _))|((first|apply xE|apply uE);cbv;(try dsimp only [nc] at *)))))))
  (any_goals ((with_reducible refine bZ ?_)<;>exact (find_no_str e d t ht 215 (bQ s) s h fun x _=>Field1_ok e d x s)))
  ((all_goals (try (with_reducible ((first|refine rE ?_|refine nE ?_);(focus (cbv;(try dsimp only [nc] at *);(try simp only [wl,nc]);(repeat' (with_reducible apply And.intro));all_goals (try exact wZ)))))));(all_goals (try ((with_reducible rw [aC]);(try simp only [wl,nc]);(repeat' (with_reducible apply And.intro));(all_goals (try exact cZ))))))
theorem FieldT_yes (e d:Nat) (t:Ty) (ht:Ty.le e (d+1) t) (s:ByteArray) (h:hasTF t (bQ s)):Af Tryz.prog 179 [encT e (d+1) .any fun _=>t,.str fun _=>s] [] (.tup [encTF e d .any fun _=>gT t (bQ s),.bool fun _=>true]) []:=by
  (apply Af.of tF mF [.cell 4 52,.tmp 5] kp179 [(1,[(2,.tup [encTF e d .any fun _=>gT t (bQ s),.bool fun _=>true],[(capP,.box [.str fun _=>s])])])] Tryz.func179 (fun _=>?_);(any_goals ((with_reducible refine wI ?_);cbv;(try dsimp only [nc] at *);(repeat' (with_reducible first|exact aO|exact oN|refine oC ?_ ?_|refine VC.mk rfl ?_ ?_ ?_|(apply Ca.mk<;>intro _)|(apply Cv.mk<;>intro zq<;>(try simp only [nc,cl] at zq)<;>(try simp only [bl,dl] at zq)<;>(revert zq;intro _))|((first|apply xE|apply uE);cbv;(try dsimp only [nc] at *)))))))
  (any_goals ((with_reducible refine bZ ?_)<;>exact (find_yes_str e d t ht 215 (bQ s) s h fun x _=>Field1_ok e d x s)))
  ((all_goals (try (with_reducible ((first|refine rE ?_|refine nE ?_);(focus (cbv;(try dsimp only [nc] at *);(try simp only [wl,nc]);(repeat' (with_reducible apply And.intro));all_goals (try exact wZ)))))));(all_goals (try ((with_reducible rw [aC]);(try simp only [wl,nc]);(repeat' (with_reducible apply And.intro));(all_goals (try exact cZ))))))
end Go.Ai
