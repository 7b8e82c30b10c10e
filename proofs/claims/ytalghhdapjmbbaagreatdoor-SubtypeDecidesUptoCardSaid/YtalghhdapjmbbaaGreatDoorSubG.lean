/- Chapter 8: the program's equality of values. -/
import Derived.Test.YtalghhdapjmbbaaGreatDoorTot
import Derived.Test.YtalghhdapjmbbaaGreatDoorTyA
import Derived.Test.YtalghhdapjmbbaaGreatDoorSubA
import Derived.Test.YtalghhdapjmbbaaGreatDoorSubC
set_option linter.all false
namespace Go.Ai
open Go Go.Proofs
set_option maxRecDepth 100000
set_option maxHeartbeats 2000000
theorem cmpOr_ok (n:Nat) (f:Nat→Int) (hn:n≤1000):Af Tryz.prog 151 [.aref 1000 0 fun _=>n] [(1000,.arr false 3 1 0 (fun _=>n) fun i=>[.int .i64 fun _=>f (i ())])] (.int .i64 fun _=>fI f n) [(1000,.arr false 3 1 0 (fun _=>n) fun i=>[.int .i64 fun _=>f (i ())])]:=by
  (apply Af.of tF mF [.tmp 2] kp151 [] Tryz.func151 (fun _=>?_);(any_goals ((with_reducible refine wI ?_);cbv;(try dsimp only [nc] at *);(repeat' (with_reducible first|exact aO|exact oN|refine oC ?_ ?_|refine VC.mk rfl ?_ ?_ ?_|(apply Ca.mk<;>intro _)|(apply Cv.mk<;>intro zq<;>(try simp only [nc,cl] at zq)<;>(try simp only [bl,dl] at zq)<;>(revert zq;intro _))|((first|apply xE|apply uE);cbv;(try dsimp only [nc] at *)))))))
  ((all_goals (try (with_reducible ((first|refine rE ?_|refine nE ?_);(focus (cbv;(try dsimp only [nc] at *);(try simp only [wl,nc]);(repeat' (with_reducible apply And.intro));all_goals (try exact wZ)))))));(all_goals (try ((with_reducible rw [aC]);(try simp only [wl,nc]);(repeat' (with_reducible apply And.intro));(all_goals (try exact cZ))))))
  refine .loop (fun i:Nat=>⟨18,[(8,.int .i64 fun _=>i),(7,.int .i64 fun _=>n),(6,.aref 1000 0 fun _=>n),(3,.int .i64 fun _=>0)],[(1000,.arr false 3 1 0 (fun _=>n) fun i=>[.int .i64 fun _=>f (i ())])]⟩) (fun i=>i≤n∧fI f i=0) (fun i=>n - i) 0 (by simp [fI]) ?_ fun i E hi=>?_
  · (focus (cbv;(try dsimp only [nc] at *);(try simp only [wl,nc]);(repeat' (with_reducible apply And.intro));all_goals (try exact wZ)))
  apply AWp.wk tF mF [] kp151 ?_
  ((any_goals ((with_reducible refine wI ?_);cbv;(try dsimp only [nc] at *);(repeat' (with_reducible first|exact aO|exact oN|refine oC ?_ ?_|refine VC.mk rfl ?_ ?_ ?_|(apply Ca.mk<;>intro _)|(apply Cv.mk<;>intro zq<;>(try simp only [nc,cl] at zq)<;>(try simp only [bl,dl] at zq)<;>(revert zq;intro _))|((first|apply xE|apply uE);cbv;(try dsimp only [nc] at *))))));((all_goals (try (with_reducible ((first|refine rE ?_|refine nE ?_);(focus (cbv;(try dsimp only [nc] at *);(try simp only [wl,nc]);(repeat' (with_reducible apply And.intro));all_goals (try exact wZ)))))));(all_goals (try ((with_reducible rw [aC]);(try simp only [wl,nc]);(repeat' (with_reducible apply And.intro));(all_goals (try exact cZ)))))))
  · exact (firstI_at ‹_› hi.2 ‹_›).symm
  · refine dE (i+1) ⟨⟨by omega,by simp_all [fI]⟩,by omega⟩ ?_
    (focus (cbv;(try dsimp only [nc] at *);(try simp only [wl,nc]);(repeat' (with_reducible apply And.intro));all_goals (try exact wZ)))
    exact w64n (by omega)
  · have:i=n:=by have:=hi.1;omega
    rw [← this];exact hi.2.symm
theorem Or_lit (l:List Int) (hl:l.length≤1000):Af Tryz.prog 151 [.aref 1000 0 fun _=>l.length] [(1000,.arr false 3 1 0 (fun _=>l.length) (litArr (l.map fun x=>[.int .i64 fun _=>x])))] (.int .i64 fun _=>firstL l)
    [(1000,.arr false 3 1 0 (fun _=>l.length) fun i=>[.int .i64 fun _=>l.getD (i ()) 0])]:=by
  have q:=cmpOr_ok l.length (fun i=>l.getD i 0) hl
  rw [firstI_list] at q
  refine Af.wN q ?_
  have hL:∀ i,i<l.length→LeL (litArr (l.map fun x=>[AV.int .i64 fun _=>x]) fun _=>i) [AV.int .i64 fun _=>l.getD i 0]:=fun i hi=>LeL.of_eq (by simp [litArr,List.getD,hi])
  generalize litArr (l.map fun x=>[AV.int .i64 fun _=>x])=L at hL
  (focus (cbv;(try dsimp only [nc] at *);(try simp only [wl,nc]);(repeat' (with_reducible apply And.intro));all_goals (try exact wZ)))
theorem CompareFunc66_ok (d:Nat) (fn:FuncId) (c:V→V→Int) (l m:List V) (hl:l.length≤1073741824) (hm:m.length≤1073741824)
    (hc:∀ x ∈ l,∀ y ∈ m,Af Tryz.prog fn [.agg (cells d .any fun _=>x),.agg (cells d .any fun _=>y)] [] (.int .i64 fun _=>c x y) []) :
    Af Tryz.prog 153 [slcV d .any fun _=>l,slcV d .any fun _=>m,.func fn []] [] (.int .i64 fun _=>lexC c l m) []:=by
  (apply Af.of tF mF [.tmp 6] kp153 [] Tryz.func153 (fun _=>?_);(any_goals ((with_reducible refine wI ?_);cbv;(try dsimp only [nc] at *);(repeat' (with_reducible first|exact aO|exact oN|refine oC ?_ ?_|refine VC.mk rfl ?_ ?_ ?_|(apply Ca.mk<;>intro _)|(apply Cv.mk<;>intro zq<;>(try simp only [nc,cl] at zq)<;>(try simp only [bl,dl] at zq)<;>(revert zq;intro _))|((first|apply xE|apply uE);cbv;(try dsimp only [nc] at *)))))))
  ((all_goals (try (with_reducible ((first|refine rE ?_|refine nE ?_);(focus (cbv;(try dsimp only [nc] at *);(try simp only [wl,nc]);(repeat' (with_reducible apply And.intro));all_goals (try exact wZ)))))));(all_goals (try ((with_reducible rw [aC]);(try simp only [wl,nc]);(repeat' (with_reducible apply And.intro));(all_goals (try exact cZ))))))
  refine .loop (fun i:Nat=>⟨39,[(13,.int .i64 fun _=>i),(12,.int .i64 fun _=>l.length),(11,slcV d .any fun _=>l),(2,.func fn []),(1,slcV d .any fun _=>m),(0,slcV d .any fun _=>l)],[]⟩)
    (fun i=>i≤l.length∧i≤m.length∧lexC c l m=lexC c (l.drop i) (m.drop i)) (fun i=>l.length - i) 0 (by simp) ?_ fun i E hi=>?_
  · (focus (cbv;(try dsimp only [nc] at *);(try simp only [wl,nc]);(repeat' (with_reducible apply And.intro));all_goals (try exact wZ)))
  apply AWp.wk tF mF [(7,[(3,.int .i64 (fun _=>?_),[])])] kp153 ?_
  (any_goals ((with_reducible refine wI ?_);cbv;(try dsimp only [nc] at *);(repeat' (with_reducible first|exact aO|exact oN|refine oC ?_ ?_|refine VC.mk rfl ?_ ?_ ?_|(apply Ca.mk<;>intro _)|(apply Cv.mk<;>intro zq<;>(try simp only [nc,cl] at zq)<;>(try simp only [bl,dl] at zq)<;>(revert zq;intro _))|((first|apply xE|apply uE);cbv;(try dsimp only [nc] at *))))))
  (any_goals ((with_reducible refine bZ ?_)<;>exact (hc _ (getD_mem ‹_›) _ (getD_mem ‹_›))))
  ((all_goals (try (with_reducible ((first|refine rE ?_|refine nE ?_);(focus (cbv;(try dsimp only [nc] at *);(try simp only [wl,nc]);(repeat' (with_reducible apply And.intro));all_goals (try exact wZ)))))));(all_goals (try ((with_reducible rw [aC]);(try simp only [wl,nc]);(repeat' (with_reducible apply And.intro));(all_goals (try exact cZ))))))
  · rw [hi.2.2,lexC_long ‹_› ‹_›]
  · rw [hi.2.2,lexC_drop ‹_› ‹_› default default,if_pos ‹_›]
  · rename_i h1 h2 h3
    refine dE (i+1) ⟨⟨h1,h2,?_⟩,by omega⟩ ?_
    · rw [hi.2.2,lexC_drop h1 h2 default default,if_neg (fun q=>q h3)]
    · (focus (cbv;(try dsimp only [nc] at *);(try simp only [wl,nc]);(repeat' (with_reducible apply And.intro));all_goals (try exact wZ)))
      exact w64n (by omega)
  · rename_i h1 h2
    rw [hi.2.2,lexC_end h1 hi.2.1 (by omega),if_pos h2]
  · rename_i h1 h2
    rw [hi.2.2,lexC_end h1 hi.2.1 (by omega),if_neg (by omega)]
theorem CompareFunc67_ok (d:Nat) (fn:FuncId) (c:(ByteArray×V)→(ByteArray×V)→Int) (l m:List (ByteArray×V)) (hl:l.length≤1073741824) (hm:m.length≤1073741824)
    (hc:∀ x ∈ l,∀ y ∈ m,Af Tryz.prog fn [.agg (rowF d x),.agg (rowF d y)] [] (.int .i64 fun _=>c x y) []) :
    Af Tryz.prog 154 [slcF d .any fun _=>l,slcF d .any fun _=>m,.func fn []] [] (.int .i64 fun _=>lexC c l m) []:=by
  (apply Af.of tF mF [.tmp 6] kp154 [] Tryz.func154 (fun _=>?_);(any_goals ((with_reducible refine wI ?_);cbv;(try dsimp only [nc] at *);(repeat' (with_reducible first|exact aO|exact oN|refine oC ?_ ?_|refine VC.mk rfl ?_ ?_ ?_|(apply Ca.mk<;>intro _)|(apply Cv.mk<;>intro zq<;>(try simp only [nc,cl] at zq)<;>(try simp only [bl,dl] at zq)<;>(revert zq;intro _))|((first|apply xE|apply uE);cbv;(try dsimp only [nc] at *)))))))
  ((all_goals (try (with_reducible ((first|refine rE ?_|refine nE ?_);(focus (cbv;(try dsimp only [nc] at *);(try simp only [wl,nc]);(repeat' (with_reducible apply And.intro));all_goals (try exact wZ)))))));(all_goals (try ((with_reducible rw [aC]);(try simp only [wl,nc]);(repeat' (with_reducible apply And.intro));(all_goals (try exact cZ))))))
  refine .loop (fun i:Nat=>⟨39,[(13,.int .i64 fun _=>i),(12,.int .i64 fun _=>l.length),(11,slcF d .any fun _=>l),(2,.func fn []),(1,slcF d .any fun _=>m),(0,slcF d .any fun _=>l)],[]⟩)
    (fun i=>i≤l.length∧i≤m.length∧lexC c l m=lexC c (l.drop i) (m.drop i)) (fun i=>l.length - i) 0 (by simp) ?_ fun i E hi=>?_
  · (focus (cbv;(try dsimp only [nc] at *);(try simp only [wl,nc]);(repeat' (with_reducible apply And.intro));all_goals (try exact wZ)))
  apply AWp.wk tF mF [(7,[(3,.int .i64 (fun _=>?_),[])])] kp154 ?_
  (any_goals ((with_reducible refine wI ?_);cbv;(try dsimp only [nc] at *);(repeat' (with_reducible first|exact aO|exact oN|refine oC ?_ ?_|refine VC.mk rfl ?_ ?_ ?_|(apply Ca.mk<;>intro _)|(apply Cv.mk<;>intro zq<;>(try simp only [nc,cl] at zq)<;>(try simp only [bl,dl] at zq)<;>(revert zq;intro _))|((first|apply xE|apply uE);cbv;(try dsimp only [nc] at *))))))
  (any_goals ((with_reducible refine bZ ?_)<;>exact (hc _ (getD_mem ‹_›) _ (getD_mem ‹_›))))
  ((all_goals (try (with_reducible ((first|refine rE ?_|refine nE ?_);(focus (cbv;(try dsimp only [nc] at *);(try simp only [wl,nc]);(repeat' (with_reducible apply And.intro));all_goals (try exact wZ)))))));(all_goals (try ((with_reducible rw [aC]);(try simp only [wl,nc]);(repeat' (with_reducible apply And.intro));(all_goals (try exact cZ))))))
  · rw [hi.2.2,lexC_long ‹_› ‹_›]
  · rw [hi.2.2,lexC_drop ‹_› ‹_› default default,if_pos ‹_›]
  · rename_i h1 h2 h3
    refine dE (i+1) ⟨⟨h1,h2,?_⟩,by omega⟩ ?_
    · rw [hi.2.2,lexC_drop h1 h2 default default,if_neg (fun q=>q h3)]
    · (focus (cbv;(try dsimp only [nc] at *);(try simp only [wl,nc]);(repeat' (with_reducible apply And.intro));all_goals (try exact wZ)))
      exact w64n (by omega)
  · rename_i h1 h2
    rw [hi.2.2,lexC_end h1 hi.2.1 (by omega),if_pos h2]
  · rename_i h1 h2
    rw [hi.2.2,lexC_end h1 hi.2.1 (by omega),if_neg (by omega)]
theorem Compare1_ok (d:Nat) (x y:ByteArray×V) (hc:Af Tryz.prog 128 [encV d .any fun _=>x.2,encV d .any fun _=>y.2] [] (.int .i64 fun _=>cmpV d x.2 y.2) []) :
    Af Tryz.prog 155 [.agg (rowF d x),.agg (rowF d y)] [] (.int .i64 fun _=>cmpFd (cmpV d) x y) []:=by
  (apply Af.of tF mF [.tmp 4] kp155 [(1,[(4,.int .i64 (fun _=>?_),[]),(9,.int .i64 (fun _=>?_),[]),(11,.int .i64 (fun _=>?_),[(1000,.arr false 3 1 0 (fun _=>2) ?_)])])] Tryz.func155 (fun _=>?_);(any_goals ((with_reducible refine wI ?_);cbv;(try dsimp only [nc] at *);(repeat' (with_reducible first|exact aO|exact oN|refine oC ?_ ?_|refine VC.mk rfl ?_ ?_ ?_|(apply Ca.mk<;>intro _)|(apply Cv.mk<;>intro zq<;>(try simp only [nc,cl] at zq)<;>(try simp only [bl,dl] at zq)<;>(revert zq;intro _))|((first|apply xE|apply uE);cbv;(try dsimp only [nc] at *)))))))
  (any_goals ((with_reducible refine bZ ?_)<;>exact (strCompare_ok _ _)))
  (any_goals ((with_reducible refine bZ ?_)<;>exact hc))
  (any_goals ((with_reducible refine bZ ?_)<;>exact (Or_lit [_,_] (Nat.le_of_ble_eq_true rfl))))
  ((all_goals (try (with_reducible ((first|refine rE ?_|refine nE ?_);(focus (cbv;(try dsimp only [nc] at *);(try simp only [wl,nc]);(repeat' (with_reducible apply And.intro));all_goals (try exact wZ)))))));(all_goals (try ((with_reducible rw [aC]);(try simp only [wl,nc]);(repeat' (with_reducible apply And.intro));(all_goals (try exact cZ))))))
  all_goals rfl
theorem Compare_ok:∀ (d:Nat) (a b:V),V.le d a→V.le d b→Af Tryz.prog 128 [encV d .any fun _=>a,encV d .any fun _=>b] [] (.int .i64 fun _=>cmpV d a b) []
  | 0,_,_,h,_=>h.elim
  | d + 1,a,b,ha,hb=>by
    have ih:=Compare_ok d
    (apply Af.of tF mF [.tmp 4] kp128 [(1,[(4,.int .i64 (fun _=>?_),[]),(9,.int .i64 (fun _=>?_),[]),(14,.int .i64 (fun _=>?_),[]),(19,.int .i64 (fun _=>?_),[]),(24,.int .i64 (fun _=>?_),[]),(29,.int .i64 (fun _=>?_),[]),
      (31,.int .i64 (fun _=>?_),[(1000,.arr false 3 1 0 (fun _=>6) ?_)])])] Tryz.func128 (fun _=>?_);(any_goals ((with_reducible refine wI ?_);cbv;(try dsimp only [nc] at *);(repeat' (with_reducible first|exact aO|exact oN|refine oC ?_ ?_|refine VC.mk rfl ?_ ?_ ?_|(apply Ca.mk<;>intro _)|(apply Cv.mk<;>intro zq<;>(try simp only [nc,cl] at zq)<;>(try simp only [bl,dl] at zq)<;>(revert zq;intro _))|((first|apply xE|apply uE);cbv;(try dsimp only [nc] at *)))))))
    (any_goals ((with_reducible refine bZ ?_)<;>exact (cmpCompare_ok _ _)))
    (any_goals ((with_reducible refine bZ ?_)<;>exact (strCompare_ok _ _)))
    (any_goals ((with_reducible refine bZ ?_)<;>exact (CompareFunc66_ok d 128 (cmpV d) a.list b.list ha.1 hb.1 fun x hx y hy=>ih x y (ha.2.2.2.1 x hx) (hb.2.2.2.1 y hy))))
    (any_goals ((with_reducible refine bZ ?_)<;>exact (CompareFunc67_ok d 155 (cmpFd (cmpV d)) a.fields b.fields ha.2.1 hb.2.1 fun x hx y hy=>Compare1_ok d x y (ih x.2 y.2 (ha.2.2.2.2 x hx).2 (hb.2.2.2.2 y hy).2))))
    (any_goals ((with_reducible refine bZ ?_)<;>exact (Or_lit [_,_,_,_,_,_] (Nat.le_of_ble_eq_true rfl))))
    ((all_goals (try (with_reducible ((first|refine rE ?_|refine nE ?_);(focus (cbv;(try dsimp only [nc] at *);(try simp only [wl,nc]);(repeat' (with_reducible apply And.intro));all_goals (try exact wZ)))))));(all_goals (try ((with_reducible rw [aC]);(try simp only [wl,nc]);(repeat' (with_reducible apply And.intro));(all_goals (try exact cZ))))))
    all_goals rfl
theorem valEqual_ok (d:Nat) (a b:V) (ha:V.le d a) (hb:V.le d b):Af Tryz.prog 89 [encV d .any fun _=>a,encV d .any fun _=>b] [] (.bool fun _=>cmpV d a b == 0) []:=by
  (apply Af.of tF mF [.tmp 4] kp89 [(1,[(2,.int .i64 (fun _=>?_),[])])] Tryz.func89 (fun _=>?_);(any_goals ((with_reducible refine wI ?_);cbv;(try dsimp only [nc] at *);(repeat' (with_reducible first|exact aO|exact oN|refine oC ?_ ?_|refine VC.mk rfl ?_ ?_ ?_|(apply Ca.mk<;>intro _)|(apply Cv.mk<;>intro zq<;>(try simp only [nc,cl] at zq)<;>(try simp only [bl,dl] at zq)<;>(revert zq;intro _))|((first|apply xE|apply uE);cbv;(try dsimp only [nc] at *)))))))
  (any_goals ((with_reducible refine bZ ?_)<;>exact (Compare_ok _ _ _ ha hb)))
  ((all_goals (try (with_reducible ((first|refine rE ?_|refine nE ?_);(focus (cbv;(try dsimp only [nc] at *);(try simp only [wl,nc]);(repeat' (with_reducible apply And.intro));all_goals (try exact wZ)))))));(all_goals (try ((with_reducible rw [aC]);(try simp only [wl,nc]);(repeat' (with_reducible apply And.intro));(all_goals (try exact cZ))))))
theorem lexC_zero {α:Type} {c:α→α→Int}:∀ {l m:List α},(∀ x ∈ l,∀ y ∈ m,c x y=0↔x=y)→(lexC c l m=0↔l=m)
  | [],[],_=>by simp [lexC]
  | [],_ :: _,_=>by simp [lexC]
  | _ :: _,[],_=>by simp [lexC]
  | a :: l,b :: m,h=>by
    have ih:=lexC_zero (c:=c) (l:=l) (m:=m) fun x hx y hy=>h x (List.mem_cons_of_mem _ hx) y (List.mem_cons_of_mem _ hy)
    have h0:=h a (List.mem_cons_self ..) b (List.mem_cons_self ..)
    simp only [lexC]
    by_cases q:c a b=0
    · rw [if_neg (fun z=>z q),ih,h0.1 q];simp
    · rw [if_pos q]
      exact ⟨fun z=>absurd z q,fun z=>absurd (h0.2 (List.cons.inj z).1) q⟩
theorem firstL_zero:∀ {l:List Int},firstL l=0↔∀ x ∈ l,x=0
  | []=>by simp [firstL]
  | a :: r=>by
    simp only [firstL,List.mem_cons,forall_eq_or_imp]
    by_cases h:a=0
    · rw [if_neg (fun z=>z h),firstL_zero (l:=r)];simp [h]
    · rw [if_pos h];simp [h]
theorem cmpV_zero:∀ {d:Nat} {a b:V},V.le d a→V.le d b→(cmpV d a b=0↔a=b)
  | 0,_,_,h,_=>h.elim
  | d + 1,a,b,ha,hb=>by
    have h1:=lexC_zero (c:=cmpV d) (l:=a.list) (m:=b.list) fun x hx y hy=>cmpV_zero (ha.2.2.2.1 x hx) (hb.2.2.2.1 y hy)
    have h2:=lexC_zero (c:=cmpFd (cmpV d)) (l:=a.fields) (m:=b.fields) fun x hx y hy=>by
      have h3:=cmpV_zero (ha.2.2.2.2 x hx).2 (hb.2.2.2.2 y hy).2
      unfold cmpFd
      rw [firstL_zero]
      simp only [List.mem_cons,List.not_mem_nil,or_false,forall_eq_or_imp,forall_eq]
      rw [cmpS_eq,h3,Prod.ext_iff]
    rw [cmpV_eq,firstL_zero]
    simp only [List.mem_cons,List.not_mem_nil,or_false,forall_eq_or_imp,forall_eq]
    rw [cmpI_zero,cmpI_zero,cmpI_zero,cmpS_eq,h1,h2]
    cases a;cases b
    simp only [V.kind,V.int,V.scale,V.text,V.list,V.fields,V.mk.injEq]
end Go.Ai

namespace Go.Ai
open Go Go.Proofs
set_option maxRecDepth 100000
set_option maxHeartbeats 4000000
noncomputable instance vDec:DecidableEq V:=fun _ _=>Classical.propDecidable _
theorem Ty.eq_iff {s t:Ty}:s=t↔s.kind=t.kind∧s.min=t.min∧s.max=t.max∧s.scale=t.scale∧s.words=t.words∧s.elem=t.elem∧s.fields=t.fields:=by
  cases s;cases t;simp only [Ty.kind,Ty.min,Ty.max,Ty.scale,Ty.words,Ty.elem,Ty.fields,Ty.mk.injEq]
theorem TF_eq_iff {f g:TF}:f=g↔fNum f=fNum g∧fM f=fM g∧fN f=fN g∧fT f=fT g∧fDef f=fDef g:=by
  obtain ⟨a,b,c,d,e⟩:=f
  obtain ⟨a',b',c',d',e'⟩:=g
  simp only [fNum,fM,fN,fT,fDef,Prod.mk.injEq]
theorem list_same {α:Type} {x:α} {l m:List α} (hl:l.length=m.length) (h:∀ j,j<l.length→l.getD j x=m.getD j x):l=m:=by
  refine List.ext_getElem hl fun i h1 h2=>?_
  have:=h i h1
  simpa [List.getD,h1,h2] using this
theorem list_diff {α:Type} {x:α} {l m:List α} {j:Nat} (h:¬ l.getD j x=m.getD j x):¬ l=m:=fun q=>h (by rw [q])
theorem dec_same {α:Type} [DecidableEq α] {x:α} {l m:List α} {n:Nat} (hl:l.length=m.length) (hn:l.length≤n) (h:∀ j,j<n→l.getD j x=m.getD j x):decide (l=m)=true:=decide_eq_true (list_same hl fun j hj=>h j (by omega))
theorem dec_diff {α:Type} [DecidableEq α] {x:α} {l m:List α} {j:Nat} (h:¬ l.getD j x=m.getD j x):decide (l=m)=false:=decide_eq_false (list_diff h)
theorem dec_len {α:Type} [DecidableEq α] {l m:List α} (h:¬ l.length=m.length):decide (l=m)=false:=decide_eq_false fun q=>h (by rw [q])
theorem sliceEqual_ok (l m:List ByteArray) (hl:l.length≤1073741824) (hm:m.length≤1073741824) :
    Af Tryz.prog 84 [.slc .any 1 (fun _=>l.length) (wordsF fun _=>l),.slc .any 1 (fun _=>m.length) (wordsF fun _=>m)] [] (.bool fun _=>decide (l=m)) []:=by
  (apply Af.of tF mF [.tmp 4] kp84 [] Tryz.func84 (fun _=>?_);(any_goals ((with_reducible refine wI ?_);cbv;(try dsimp only [nc] at *);(repeat' (with_reducible first|exact aO|exact oN|refine oC ?_ ?_|refine VC.mk rfl ?_ ?_ ?_|(apply Ca.mk<;>intro _)|(apply Cv.mk<;>intro zq<;>(try simp only [nc,cl] at zq)<;>(try simp only [bl,dl] at zq)<;>(revert zq;intro _))|((first|apply xE|apply uE);cbv;(try dsimp only [nc] at *)))))))
  ((all_goals (try (with_reducible ((first|refine rE ?_|refine nE ?_);(focus (cbv;(try dsimp only [nc] at *);(try simp only [wl,nc]);(repeat' (with_reducible apply And.intro));all_goals (try exact wZ)))))));(all_goals (try ((with_reducible rw [aC]);(try simp only [wl,nc]);(repeat' (with_reducible apply And.intro));(all_goals (try exact cZ))))))
  · symm;exact dec_len (by omega)
  refine .loop (fun i:Nat=>⟨26,[(13,.int .i64 fun _=>i),(12,.int .i64 fun _=>l.length),(1,.slc .any 1 (fun _=>m.length) (wordsF fun _=>m)),(0,.slc .any 1 (fun _=>l.length) (wordsF fun _=>l))],[]⟩)
    (fun i=>i≤l.length∧∀ j,j<i→l.getD j ⟨#[]⟩=m.getD j ⟨#[]⟩) (fun i=>l.length - i) 0 (by simp) ?_ fun i E hi=>?_
  · (focus (cbv;(try dsimp only [nc] at *);(try simp only [wl,nc]);(repeat' (with_reducible apply And.intro));all_goals (try exact wZ)))
  apply AWp.wk tF mF [] kp84 ?_
  (any_goals ((with_reducible refine wI ?_);cbv;(try dsimp only [nc] at *);(repeat' (with_reducible first|exact aO|exact oN|refine oC ?_ ?_|refine VC.mk rfl ?_ ?_ ?_|(apply Ca.mk<;>intro _)|(apply Cv.mk<;>intro zq<;>(try simp only [nc,cl] at zq)<;>(try simp only [bl,dl] at zq)<;>(revert zq;intro _))|((first|apply xE|apply uE);cbv;(try dsimp only [nc] at *))))))
  ((all_goals (try (with_reducible ((first|refine rE ?_|refine nE ?_);(focus (cbv;(try dsimp only [nc] at *);(try simp only [wl,nc]);(repeat' (with_reducible apply And.intro));all_goals (try exact wZ)))))));(all_goals (try ((with_reducible rw [aC]);(try simp only [wl,nc]);(repeat' (with_reducible apply And.intro));(all_goals (try exact cZ))))))
  · exact (dec_diff ‹_›).symm
  · refine dE (i+1) ⟨⟨by omega,fun j hj=>?_⟩,by omega⟩ ?_
    · rcases Nat.lt_succ_iff_lt_or_eq.1 hj with hj|rfl
      · exact hi.2 j hj
      · assumption
    · (focus (cbv;(try dsimp only [nc] at *);(try simp only [wl,nc]);(repeat' (with_reducible apply And.intro));all_goals (try exact wZ)))
      exact w64n (by omega)
  · exact (dec_same (by omega) (n:=i) (by omega) hi.2).symm
theorem EqualFunc85_ok (e d:Nat) (fn:FuncId) (l m:List Ty) (hl:l.length≤1073741824) (hm:m.length≤1073741824)
    (hc:∀ x ∈ l,∀ y ∈ m,Af Tryz.prog fn [.agg (cl' e d .any fun _=>x),.agg (cl' e d .any fun _=>y)] [] (.bool fun _=>decide (x=y)) []) :
    Af Tryz.prog 85 [slcT e d .any fun _=>l,slcT e d .any fun _=>m,.func fn []] [] (.bool fun _=>decide (l=m)) []:=by
  (apply Af.of tF mF [.tmp 6] kp85 [] Tryz.func85 (fun _=>?_);(any_goals ((with_reducible refine wI ?_);cbv;(try dsimp only [nc] at *);(repeat' (with_reducible first|exact aO|exact oN|refine oC ?_ ?_|refine VC.mk rfl ?_ ?_ ?_|(apply Ca.mk<;>intro _)|(apply Cv.mk<;>intro zq<;>(try simp only [nc,cl] at zq)<;>(try simp only [bl,dl] at zq)<;>(revert zq;intro _))|((first|apply xE|apply uE);cbv;(try dsimp only [nc] at *)))))))
  ((all_goals (try (with_reducible ((first|refine rE ?_|refine nE ?_);(focus (cbv;(try dsimp only [nc] at *);(try simp only [wl,nc]);(repeat' (with_reducible apply And.intro));all_goals (try exact wZ)))))));(all_goals (try ((with_reducible rw [aC]);(try simp only [wl,nc]);(repeat' (with_reducible apply And.intro));(all_goals (try exact cZ))))))
  · symm;exact dec_len (by omega)
  refine .loop (fun i:Nat=>⟨32,[(17,.int .i64 fun _=>i),(16,.int .i64 fun _=>l.length),(15,slcT e d .any fun _=>l),(2,.func fn []),(1,slcT e d .any fun _=>m)],[]⟩)
    (fun i=>i≤l.length∧∀ j,j<i→l.getD j default=m.getD j default) (fun i=>l.length - i) 0 (by simp) ?_ fun i E hi=>?_
  · (focus (cbv;(try dsimp only [nc] at *);(try simp only [wl,nc]);(repeat' (with_reducible apply And.intro));all_goals (try exact wZ)))
  apply AWp.wk tF mF [(7,[(3,.bool (fun _=>?_),[])])] kp85 ?_
  (any_goals ((with_reducible refine wI ?_);cbv;(try dsimp only [nc] at *);(repeat' (with_reducible first|exact aO|exact oN|refine oC ?_ ?_|refine VC.mk rfl ?_ ?_ ?_|(apply Ca.mk<;>intro _)|(apply Cv.mk<;>intro zq<;>(try simp only [nc,cl] at zq)<;>(try simp only [bl,dl] at zq)<;>(revert zq;intro _))|((first|apply xE|apply uE);cbv;(try dsimp only [nc] at *))))))
  all_goals (try simp only [Int.toNat_natCast])
  any_goals (with_reducible first|refine nO ?_|refine sO (fun _=>?_))
  any_goals (exact hc (l.getD i default) (getD_mem ‹_›) (m.getD i default) (getD_mem (by omega)))
  ((all_goals (try (with_reducible ((first|refine rE ?_|refine nE ?_);(focus (cbv;(try dsimp only [nc] at *);(try simp only [wl,nc]);(repeat' (with_reducible apply And.intro));all_goals (try exact wZ)))))));(all_goals (try ((with_reducible rw [aC]);(try simp only [wl,nc]);(repeat' (with_reducible apply And.intro));(all_goals (try exact cZ))))))
  · exact (dec_diff (j:=i) (x:=default) (of_decide_eq_false ‹_›)).symm
  · have hq:l.getD i default=m.getD i default:=of_decide_eq_true ‹_›
    refine dE (i+1) ⟨⟨by omega,fun j hj=>?_⟩,by omega⟩ ?_
    · rcases Nat.lt_succ_iff_lt_or_eq.1 hj with hj|rfl
      · exact hi.2 j hj
      · assumption
    · (focus (cbv;(try dsimp only [nc] at *);(try simp only [wl,nc]);(repeat' (with_reducible apply And.intro));all_goals (try exact wZ)))
      exact w64n (by omega)
  · exact (dec_same (l:=l) (m:=m) (x:=default) (by omega) (n:=i) (by omega) hi.2).symm
theorem EqualFunc86_ok (e d:Nat) (fn:FuncId) (l m:List TF) (hl:l.length≤1073741824) (hm:m.length≤1073741824)
    (hc:∀ x ∈ l,∀ y ∈ m,Af Tryz.prog fn [.agg (cF e d .any fun _=>x),.agg (cF e d .any fun _=>y)] [] (.bool fun _=>decide (x=y)) []) :
    Af Tryz.prog 86 [slcTF e d .any fun _=>l,slcTF e d .any fun _=>m,.func fn []] [] (.bool fun _=>decide (l=m)) []:=by
  (apply Af.of tF mF [.tmp 6] kp86 [] Tryz.func86 (fun _=>?_);(any_goals ((with_reducible refine wI ?_);cbv;(try dsimp only [nc] at *);(repeat' (with_reducible first|exact aO|exact oN|refine oC ?_ ?_|refine VC.mk rfl ?_ ?_ ?_|(apply Ca.mk<;>intro _)|(apply Cv.mk<;>intro zq<;>(try simp only [nc,cl] at zq)<;>(try simp only [bl,dl] at zq)<;>(revert zq;intro _))|((first|apply xE|apply uE);cbv;(try dsimp only [nc] at *)))))))
  ((all_goals (try (with_reducible ((first|refine rE ?_|refine nE ?_);(focus (cbv;(try dsimp only [nc] at *);(try simp only [wl,nc]);(repeat' (with_reducible apply And.intro));all_goals (try exact wZ)))))));(all_goals (try ((with_reducible rw [aC]);(try simp only [wl,nc]);(repeat' (with_reducible apply And.intro));(all_goals (try exact cZ))))))
  · symm;exact dec_len (by omega)
  refine .loop (fun i:Nat=>⟨32,[(17,.int .i64 fun _=>i),(16,.int .i64 fun _=>l.length),(15,slcTF e d .any fun _=>l),(2,.func fn []),(1,slcTF e d .any fun _=>m)],[]⟩)
    (fun i=>i≤l.length∧∀ j,j<i→l.getD j default=m.getD j default) (fun i=>l.length - i) 0 (by simp) ?_ fun i E hi=>?_
  · (focus (cbv;(try dsimp only [nc] at *);(try simp only [wl,nc]);(repeat' (with_reducible apply And.intro));all_goals (try exact wZ)))
  apply AWp.wk tF mF [(7,[(3,.bool (fun _=>?_),[])])] kp86 ?_
  (any_goals ((with_reducible refine wI ?_);cbv;(try dsimp only [nc] at *);(repeat' (with_reducible first|exact aO|exact oN|refine oC ?_ ?_|refine VC.mk rfl ?_ ?_ ?_|(apply Ca.mk<;>intro _)|(apply Cv.mk<;>intro zq<;>(try simp only [nc,cl] at zq)<;>(try simp only [bl,dl] at zq)<;>(revert zq;intro _))|((first|apply xE|apply uE);cbv;(try dsimp only [nc] at *))))))
  all_goals (try simp only [Int.toNat_natCast])
  any_goals (with_reducible first|refine nO ?_|refine sO (fun _=>?_))
  any_goals (exact hc (l.getD i default) (getD_mem ‹_›) (m.getD i default) (getD_mem (by omega)))
  ((all_goals (try (with_reducible ((first|refine rE ?_|refine nE ?_);(focus (cbv;(try dsimp only [nc] at *);(try simp only [wl,nc]);(repeat' (with_reducible apply And.intro));all_goals (try exact wZ)))))));(all_goals (try ((with_reducible rw [aC]);(try simp only [wl,nc]);(repeat' (with_reducible apply And.intro));(all_goals (try exact cZ))))))
  · exact (dec_diff (j:=i) (x:=default) (of_decide_eq_false ‹_›)).symm
  · have hq:l.getD i default=m.getD i default:=of_decide_eq_true ‹_›
    refine dE (i+1) ⟨⟨by omega,fun j hj=>?_⟩,by omega⟩ ?_
    · rcases Nat.lt_succ_iff_lt_or_eq.1 hj with hj|rfl
      · exact hi.2 j hj
      · assumption
    · (focus (cbv;(try dsimp only [nc] at *);(try simp only [wl,nc]);(repeat' (with_reducible apply And.intro));all_goals (try exact wZ)))
      exact w64n (by omega)
  · exact (dec_same (l:=l) (m:=m) (x:=default) (by omega) (n:=i) (by omega) hi.2).symm
theorem EqualFunc88_ok (d:Nat) (fn:FuncId) (l m:List V) (hl:l.length≤1073741824) (hm:m.length≤1073741824)
    (hc:∀ x ∈ l,∀ y ∈ m,Af Tryz.prog fn [.agg (cells d .any fun _=>x),.agg (cells d .any fun _=>y)] [] (.bool fun _=>decide (x=y)) []) :
    Af Tryz.prog 88 [slcV d .any fun _=>l,slcV d .any fun _=>m,.func fn []] [] (.bool fun _=>decide (l=m)) []:=by
  (apply Af.of tF mF [.tmp 6] kp88 [] Tryz.func88 (fun _=>?_);(any_goals ((with_reducible refine wI ?_);cbv;(try dsimp only [nc] at *);(repeat' (with_reducible first|exact aO|exact oN|refine oC ?_ ?_|refine VC.mk rfl ?_ ?_ ?_|(apply Ca.mk<;>intro _)|(apply Cv.mk<;>intro zq<;>(try simp only [nc,cl] at zq)<;>(try simp only [bl,dl] at zq)<;>(revert zq;intro _))|((first|apply xE|apply uE);cbv;(try dsimp only [nc] at *)))))))
  ((all_goals (try (with_reducible ((first|refine rE ?_|refine nE ?_);(focus (cbv;(try dsimp only [nc] at *);(try simp only [wl,nc]);(repeat' (with_reducible apply And.intro));all_goals (try exact wZ)))))));(all_goals (try ((with_reducible rw [aC]);(try simp only [wl,nc]);(repeat' (with_reducible apply And.intro));(all_goals (try exact cZ))))))
  · symm;exact dec_len (by omega)
  refine .loop (fun i:Nat=>⟨32,[(17,.int .i64 fun _=>i),(16,.int .i64 fun _=>l.length),(15,slcV d .any fun _=>l),(2,.func fn []),(1,slcV d .any fun _=>m)],[]⟩)
    (fun i=>i≤l.length∧∀ j,j<i→l.getD j default=m.getD j default) (fun i=>l.length - i) 0 (by simp) ?_ fun i E hi=>?_
  · (focus (cbv;(try dsimp only [nc] at *);(try simp only [wl,nc]);(repeat' (with_reducible apply And.intro));all_goals (try exact wZ)))
  apply AWp.wk tF mF [(7,[(3,.bool (fun _=>?_),[])])] kp88 ?_
  (any_goals ((with_reducible refine wI ?_);cbv;(try dsimp only [nc] at *);(repeat' (with_reducible first|exact aO|exact oN|refine oC ?_ ?_|refine VC.mk rfl ?_ ?_ ?_|(apply Ca.mk<;>intro _)|(apply Cv.mk<;>intro zq<;>(try simp only [nc,cl] at zq)<;>(try simp only [bl,dl] at zq)<;>(revert zq;intro _))|((first|apply xE|apply uE);cbv;(try dsimp only [nc] at *))))))
  all_goals (try simp only [Int.toNat_natCast])
  any_goals (with_reducible first|refine nO ?_|refine sO (fun _=>?_))
  any_goals (exact hc (l.getD i default) (getD_mem ‹_›) (m.getD i default) (getD_mem (by omega)))
  ((all_goals (try (with_reducible ((first|refine rE ?_|refine nE ?_);(focus (cbv;(try dsimp only [nc] at *);(try simp only [wl,nc]);(repeat' (with_reducible apply And.intro));all_goals (try exact wZ)))))));(all_goals (try ((with_reducible rw [aC]);(try simp only [wl,nc]);(repeat' (with_reducible apply And.intro));(all_goals (try exact cZ))))))
  · exact (dec_diff (j:=i) (x:=default) (of_decide_eq_false ‹_›)).symm
  · have hq:l.getD i default=m.getD i default:=of_decide_eq_true ‹_›
    refine dE (i+1) ⟨⟨by omega,fun j hj=>?_⟩,by omega⟩ ?_
    · rcases Nat.lt_succ_iff_lt_or_eq.1 hj with hj|rfl
      · exact hi.2 j hj
      · assumption
    · (focus (cbv;(try dsimp only [nc] at *);(try simp only [wl,nc]);(repeat' (with_reducible apply And.intro));all_goals (try exact wZ)))
      exact w64n (by omega)
  · exact (dec_same (l:=l) (m:=m) (x:=default) (by omega) (n:=i) (by omega) hi.2).symm
theorem valSame_ok (d:Nat) (a b:V) (ha:V.le d a) (hb:V.le d b):Af Tryz.prog 89 [encV d .any fun _=>a,encV d .any fun _=>b] [] (.bool fun _=>decide (a=b)) []:=by
  have h:=valEqual_ok d a b ha hb
  have e:(cmpV d a b == 0)=decide (a=b):=by
    rw [Bool.eq_iff_iff,beq_iff_eq,decide_eq_true_eq];exact cmpV_zero ha hb
  rw [e] at h
  exact h
theorem Equal1_ok (e d:Nat) (f g:TF) (hf:(fDef f).length≤1073741824∧∀ v ∈ fDef f,V.le e v) (hg:(fDef g).length≤1073741824∧∀ v ∈ fDef g,V.le e v)
    (hc:Af Tryz.prog 51 [encT e d .any fun _=>fT f,encT e d .any fun _=>fT g] [] (.bool fun _=>decide (fT f=fT g)) []) :
    Af Tryz.prog 87 [encTF e d .any fun _=>f,encTF e d .any fun _=>g] [] (.bool fun _=>decide (f=g)) []:=by
  have h2:=EqualFunc88_ok e 89 (fDef f) (fDef g) hf.1 hg.1 fun x hx y hy=>valSame_ok e x y (hf.2 x hx) (hg.2 y hy)
  have hR:decide (f=g)=(decide (fNum f=fNum g) && (decide (fM f=fM g) && (decide (fN f=fN g) && (decide (fT f=fT g) && decide (fDef f=fDef g))))):=by
    rw [Bool.eq_iff_iff];simp only [Bool.and_eq_true,decide_eq_true_eq];exact TF_eq_iff
  rw [hR]
  clear hR
  generalize decide (fT f=fT g)=a at hc ⊢
  generalize decide (fDef f=fDef g)=b at h2 ⊢
  (apply Af.of tF mF [.tmp 4] kp87 [(1,[(24,.bool fun _=>a,[]),(31,.bool fun _=>b,[])])] Tryz.func87 (fun _=>?_);(any_goals ((with_reducible refine wI ?_);cbv;(try dsimp only [nc] at *);(repeat' (with_reducible first|exact aO|exact oN|refine oC ?_ ?_|refine VC.mk rfl ?_ ?_ ?_|(apply Ca.mk<;>intro _)|(apply Cv.mk<;>intro zq<;>(try simp only [nc,cl] at zq)<;>(try simp only [bl,dl] at zq)<;>(revert zq;intro _))|((first|apply xE|apply uE);cbv;(try dsimp only [nc] at *)))))))
  (any_goals ((with_reducible refine bZ ?_);(try dsimp only);(have q:=hc;refine Af.wN q ?_;clear q);(focus (cbv;(try dsimp only [nc] at *);(try simp only [wl,nc]);(repeat' (with_reducible apply And.intro));all_goals (try exact wZ)))))
  (any_goals ((with_reducible refine bZ ?_);(try dsimp only);(have q:=h2;refine Af.wN q ?_;clear q);(focus (cbv;(try dsimp only [nc] at *);(try simp only [wl,nc]);(repeat' (with_reducible apply And.intro));all_goals (try exact wZ)))))
  ((all_goals (try (with_reducible ((first|refine rE ?_|refine nE ?_);(focus (cbv;(try dsimp only [nc] at *);(try simp only [wl,nc]);(repeat' (with_reducible apply And.intro));all_goals (try exact wZ)))))));(all_goals (try ((with_reducible rw [aC]);(try simp only [wl,nc]);(repeat' (with_reducible apply And.intro));(all_goals (try exact cZ))))))
  all_goals (cases a<;>cases b<;>simp [Bool.and_assoc])
theorem Equal51_step (e d:Nat) (s t:Ty) (hs:Ty.le e (d+1) s) (ht:Ty.le e (d+1) t) (ih:∀ x y,Ty.le e d x→Ty.le e d y→Af Tryz.prog 51 [encT e d .any fun _=>x,encT e d .any fun _=>y] [] (.bool fun _=>decide (x=y)) []) :
    Af Tryz.prog 51 [encT e (d+1) .any fun _=>s,encT e (d+1) .any fun _=>t] [] (.bool fun _=>decide (s=t)) []:=by
  have h1:=sliceEqual_ok s.words t.words hs.1 ht.1
  have h2:=EqualFunc85_ok e d 51 s.elem t.elem hs.2.2.1 ht.2.2.1 fun x hx y hy=>ih x y (hs.2.2.2.2.1 x hx) (ht.2.2.2.2.1 y hy)
  have h3:=EqualFunc86_ok e d 87 s.fields t.fields hs.2.2.2.1 ht.2.2.2.1 fun x hx y hy=>by
    obtain ⟨_,b1,b2,b3⟩:=hs.2.2.2.2.2 x hx
    obtain ⟨_,c1,c2,c3⟩:=ht.2.2.2.2.2 y hy
    exact Equal1_ok e d x y ⟨b1,b2⟩ ⟨c1,c2⟩ (ih _ _ b3 c3)
  have hR:decide (s=t)=(decide (s.kind=t.kind) && (decide (s.min=t.min) && (decide (s.max=t.max) && (decide (s.scale=t.scale) && (decide (s.words=t.words) && (decide (s.elem=t.elem) && decide (s.fields=t.fields))))))):=by
    rw [Bool.eq_iff_iff];simp only [Bool.and_eq_true,decide_eq_true_eq];exact Ty.eq_iff
  rw [hR]
  clear hR ih
  generalize decide (s.words=t.words)=a at h1 ⊢
  generalize decide (s.elem=t.elem)=b at h2 ⊢
  generalize decide (s.fields=t.fields)=c at h3 ⊢
  (apply Af.of tF mF [.tmp 4] kp51 [(1,[(31,.bool fun _=>a,[]),(38,.bool fun _=>b,[]),(45,.bool fun _=>c,[])])] Tryz.func51 (fun _=>?_);(any_goals ((with_reducible refine wI ?_);cbv;(try dsimp only [nc] at *);(repeat' (with_reducible first|exact aO|exact oN|refine oC ?_ ?_|refine VC.mk rfl ?_ ?_ ?_|(apply Ca.mk<;>intro _)|(apply Cv.mk<;>intro zq<;>(try simp only [nc,cl] at zq)<;>(try simp only [bl,dl] at zq)<;>(revert zq;intro _))|((first|apply xE|apply uE);cbv;(try dsimp only [nc] at *)))))))
  (any_goals ((with_reducible refine bZ ?_);(try dsimp only);(have q:=h1;refine Af.wN q ?_;clear q);(focus (cbv;(try dsimp only [nc] at *);(try simp only [wl,nc]);(repeat' (with_reducible apply And.intro));all_goals (try exact wZ)))))
  (any_goals ((with_reducible refine bZ ?_);(try dsimp only);(have q:=h2;refine Af.wN q ?_;clear q);(focus (cbv;(try dsimp only [nc] at *);(try simp only [wl,nc]);(repeat' (with_reducible apply And.intro));all_goals (try exact wZ)))))
  (any_goals ((with_reducible refine bZ ?_);(try dsimp only);(have q:=h3;refine Af.wN q ?_;clear q);(focus (cbv;(try dsimp only [nc] at *);(try simp only [wl,nc]);(repeat' (with_reducible apply And.intro));all_goals (try exact wZ)))))
  ((all_goals (try (with_reducible ((first|refine rE ?_|refine nE ?_);(focus (cbv;(try dsimp only [nc] at *);(try simp only [wl,nc]);(repeat' (with_reducible apply And.intro));all_goals (try exact wZ)))))));(all_goals (try ((with_reducible rw [aC]);(try simp only [wl,nc]);(repeat' (with_reducible apply And.intro));(all_goals (try exact cZ))))))
  all_goals (cases a<;>cases b<;>cases c<;>simp [Bool.and_assoc])
theorem schemaEqual_ok (e:Nat):∀ (d:Nat) (s t:Ty),Ty.le e d s→Ty.le e d t→Af Tryz.prog 51 [encT e d .any fun _=>s,encT e d .any fun _=>t] [] (.bool fun _=>decide (s=t)) []
  | 0,_,_,h,_=>h.elim
  | d+1,s,t,hs,ht=>Equal51_step e d s t hs ht fun x y hx hy=>schemaEqual_ok e d x y hx hy
end Go.Ai
