/- Chapter 16: equal expressions. -/
import Derived.Test.YtbagpkiomjlhkaaGreatDoorLexA
import Derived.Test.YtbagpkiomjlhkaaGreatDoorV
import Derived.Test.YtbagpkiomjlhkaaGreatDoorEngC
set_option linter.all false
namespace Go.Ai
open Go Go.Proofs
set_option maxRecDepth 100000
set_option maxHeartbeats 4000000
def eqL {α:Type} [Inhabited α] (f:α→α→Bool) (l m:List α):Bool:=decide (l.length=m.length) && (List.range l.length).all fun j=>f (l.getD j default) (m.getD j default)
theorem eqL_no {α:Type} [Inhabited α] {f:α→α→Bool} {l m:List α} {j:Nat} (hj:j<l.length) (h:f (l.getD j default) (m.getD j default)=false):eqL f l m=false:=by
  unfold eqL
  have:((List.range l.length).all fun j=>f (l.getD j default) (m.getD j default))=false:=by
    rw [List.all_eq_false]
    exact ⟨j,List.mem_range.2 hj,by rw [h];decide⟩
  rw [this,Bool.and_false]
theorem eqL_yes {α:Type} [Inhabited α] {f:α→α→Bool} {l m:List α} (hl:l.length=m.length) (h:∀ j,j<l.length→f (l.getD j default) (m.getD j default)=true):eqL f l m=true:=by
  unfold eqL
  rw [decide_eq_true hl,Bool.true_and,List.all_eq_true]
  exact fun j hj=>h j (List.mem_range.1 hj)
theorem eqV61_ok (f:V→V→Bool) (d d':Nat) (l m:List V) (hl:l.length≤1073741824) (hm:m.length≤1073741824)
    (hf:∀ j,j<l.length→j<m.length→Af Tryz.prog 62 [encV d .any fun _=>l.getD j default,encV d' .any fun _=>m.getD j default] [] (.bool fun _=>f (l.getD j default) (m.getD j default)) []) :
    Af Tryz.prog 61 [slcV d .any fun _=>l,slcV d' .any fun _=>m,.func 62 []] [] (.bool fun _=>eqL f l m) []:=by
  obtain ⟨Z,hZ⟩:∃ Z,Z=eqL f l m:=⟨_,rfl⟩
  rw [← hZ]
  unfold slcV
  (apply Af.of tF mF [.tmp 6] kp61 [] Tryz.func61 (fun _=>?_);(any_goals ((with_reducible refine wI ?_);cbv;(try dsimp only [nc] at *);(repeat' (with_reducible first|exact aO|exact oN|refine oC ?_ ?_|refine VC.mk rfl ?_ ?_ ?_|(apply Ca.mk<;>intro _)|(apply Cv.mk<;>intro zq<;>(try simp only [nc,cl] at zq)<;>(try simp only [bl,dl] at zq)<;>(revert zq;intro _))|((first|apply xE|apply uE);cbv;(try dsimp only [nc] at *)))))))
  ((all_goals (try (with_reducible ((first|refine rE ?_|refine nE ?_);(focus (cbv;(try dsimp only [nc] at *);(try simp only [wl,nc]);(repeat' (with_reducible apply And.intro));all_goals (try exact wZ)))))));(all_goals (try ((with_reducible rw [aC]);(try simp only [wl,nc]);(repeat' (with_reducible apply And.intro));(all_goals (try exact cZ))))))
  · rename_i q;rw [hZ];unfold eqL;rw [decide_eq_false (by omega),Bool.false_and]
  rename_i q
  refine .loop (fun i:Nat=>⟨32,[(17,.int .i64 fun _=>(i:Int)),(16,.int .i64 fun _=>(l.length:Int)),(15,slcV d .any fun _=>l),(1,slcV d' .any fun _=>m),(2,.func 62 [])],[]⟩)
    (fun i=>i≤l.length∧∀ j,j<i→f (l.getD j default) (m.getD j default)=true) (fun i=>l.length - i) 0 ⟨Nat.zero_le _,fun j hj=>by omega⟩ ?_ fun i E hi=>?_
  · (focus (cbv;(try dsimp only [nc] at *);(try simp only [wl,nc]);(repeat' (with_reducible apply And.intro));all_goals (try exact wZ)))
  obtain ⟨h1,h2⟩:=hi
  have ql:l.length=m.length:=by omega
  by_cases hi:i<l.length
  · have h3:=hf i hi (by omega)
    have h4:=fun h=>eqL_no (f:=f) (l:=l) (m:=m) (j:=i) hi h
    have h5:f (l.getD i default) (m.getD i default)=true→∀ j,j<i+1→f (l.getD j default) (m.getD j default)=true:=fun h j hj=>by
      rcases Nat.lt_succ_iff_lt_or_eq.1 hj with q|q
      · exact h2 j q
      · rw [q];exact h
    generalize f (l.getD i default) (m.getD i default)=b at *
    apply AWp.wk tF mF [(7,[(3,.bool fun _=>b,[])])] kp61 ?_
    (any_goals ((with_reducible refine wI ?_);cbv;(try dsimp only [nc] at *);(repeat' (with_reducible first|exact aO|exact oN|refine oC ?_ ?_|refine VC.mk rfl ?_ ?_ ?_|(apply Ca.mk<;>intro _)|(apply Cv.mk<;>intro zq<;>(try simp only [nc,cl] at zq)<;>(try simp only [bl,dl] at zq)<;>(revert zq;intro _))|((first|apply xE|apply uE);cbv;(try dsimp only [nc] at *))))))
    all_goals (try simp only [Int.toNat_natCast])
    any_goals ((with_reducible refine nO ?_);exact h3)
    all_goals (try (exact absurd hi ‹¬i<l.length›))
    ((all_goals (try (with_reducible ((first|refine rE ?_|refine nE ?_);(focus (cbv;(try dsimp only [nc] at *);(try simp only [wl,nc]);(repeat' (with_reducible apply And.intro));all_goals (try exact wZ)))))));(all_goals (try ((with_reducible rw [aC]);(try simp only [wl,nc]);(repeat' (with_reducible apply And.intro));(all_goals (try exact cZ))))))
    · exact (hZ.trans (h4 ‹_›)).symm
    · refine dE (i+1) ⟨⟨by omega,h5 ‹_›⟩,by omega⟩ ?_
      (focus (cbv;(try dsimp only [nc] at *);(try simp only [wl,nc]);(repeat' (with_reducible apply And.intro));all_goals (try exact wZ)))
      exact w64n (by omega)
  · apply AWp.wk tF mF [(7,[(3,.any,[])])] kp61 ?_
    (any_goals ((with_reducible refine wI ?_);cbv;(try dsimp only [nc] at *);(repeat' (with_reducible first|exact aO|exact oN|refine oC ?_ ?_|refine VC.mk rfl ?_ ?_ ?_|(apply Ca.mk<;>intro _)|(apply Cv.mk<;>intro zq<;>(try simp only [nc,cl] at zq)<;>(try simp only [bl,dl] at zq)<;>(revert zq;intro _))|((first|apply xE|apply uE);cbv;(try dsimp only [nc] at *))))))
    all_goals (try (exact absurd ‹i<l.length› hi))
    ((all_goals (try (with_reducible ((first|refine rE ?_|refine nE ?_);(focus (cbv;(try dsimp only [nc] at *);(try simp only [wl,nc]);(repeat' (with_reducible apply And.intro));all_goals (try exact wZ)))))));(all_goals (try ((with_reducible rw [aC]);(try simp only [wl,nc]);(repeat' (with_reducible apply And.intro));(all_goals (try exact cZ))))))
    exact (hZ.trans (eqL_yes ql fun j hj=>h2 j (by omega))).symm
theorem eqX63_ok (f:X→X→Bool) (e e' d d':Nat) (l m:List X) (hl:l.length≤1073741824) (hm:m.length≤1073741824)
    (hf:∀ j,j<l.length→j<m.length→Af Tryz.prog 25 [encX (e+1) d .any fun _=>l.getD j default,encX (e'+1) d' .any fun _=>m.getD j default] [] (.bool fun _=>f (l.getD j default) (m.getD j default)) []) :
    Af Tryz.prog 63 [slcX (e+1) d .any fun _=>l,slcX (e'+1) d' .any fun _=>m,.func 25 []] [] (.bool fun _=>eqL f l m) []:=by
  obtain ⟨Z,hZ⟩:∃ Z,Z=eqL f l m:=⟨_,rfl⟩
  rw [← hZ]
  unfold slcX
  (apply Af.of tF mF [.tmp 6] kp63 [] Tryz.func63 (fun _=>?_);(any_goals ((with_reducible refine wI ?_);cbv;(try dsimp only [nc] at *);(repeat' (with_reducible first|exact aO|exact oN|refine oC ?_ ?_|refine VC.mk rfl ?_ ?_ ?_|(apply Ca.mk<;>intro _)|(apply Cv.mk<;>intro zq<;>(try simp only [nc,cl] at zq)<;>(try simp only [bl,dl] at zq)<;>(revert zq;intro _))|((first|apply xE|apply uE);cbv;(try dsimp only [nc] at *)))))))
  ((all_goals (try (with_reducible ((first|refine rE ?_|refine nE ?_);(focus (cbv;(try dsimp only [nc] at *);(try simp only [wl,nc]);(repeat' (with_reducible apply And.intro));all_goals (try exact wZ)))))));(all_goals (try ((with_reducible rw [aC]);(try simp only [wl,nc]);(repeat' (with_reducible apply And.intro));(all_goals (try exact cZ))))))
  · rename_i q;rw [hZ];unfold eqL;rw [decide_eq_false (by omega),Bool.false_and]
  rename_i q
  refine .loop (fun i:Nat=>⟨32,[(17,.int .i64 fun _=>(i:Int)),(16,.int .i64 fun _=>(l.length:Int)),(15,slcX (e+1) d .any fun _=>l),(1,slcX (e'+1) d' .any fun _=>m),(2,.func 25 [])],[]⟩)
    (fun i=>i≤l.length∧∀ j,j<i→f (l.getD j default) (m.getD j default)=true) (fun i=>l.length - i) 0 ⟨Nat.zero_le _,fun j hj=>by omega⟩ ?_ fun i E hi=>?_
  · (focus (cbv;(try dsimp only [nc] at *);(try simp only [wl,nc]);(repeat' (with_reducible apply And.intro));all_goals (try exact wZ)))
  obtain ⟨h1,h2⟩:=hi
  have ql:l.length=m.length:=by omega
  by_cases hi:i<l.length
  · have h3:=hf i hi (by omega)
    have h4:=fun h=>eqL_no (f:=f) (l:=l) (m:=m) (j:=i) hi h
    have h5:f (l.getD i default) (m.getD i default)=true→∀ j,j<i+1→f (l.getD j default) (m.getD j default)=true:=fun h j hj=>by
      rcases Nat.lt_succ_iff_lt_or_eq.1 hj with q|q
      · exact h2 j q
      · rw [q];exact h
    generalize f (l.getD i default) (m.getD i default)=b at *
    apply AWp.wk tF mF [(7,[(3,.bool fun _=>b,[])])] kp63 ?_
    (any_goals ((with_reducible refine wI ?_);cbv;(try dsimp only [nc] at *);(repeat' (with_reducible first|exact aO|exact oN|refine oC ?_ ?_|refine VC.mk rfl ?_ ?_ ?_|(apply Ca.mk<;>intro _)|(apply Cv.mk<;>intro zq<;>(try simp only [nc,cl] at zq)<;>(try simp only [bl,dl] at zq)<;>(revert zq;intro _))|((first|apply xE|apply uE);cbv;(try dsimp only [nc] at *))))))
    all_goals (try simp only [Int.toNat_natCast])
    any_goals ((with_reducible refine nO ?_);exact h3)
    all_goals (try (exact absurd hi ‹¬i<l.length›))
    ((all_goals (try (with_reducible ((first|refine rE ?_|refine nE ?_);(focus (cbv;(try dsimp only [nc] at *);(try simp only [wl,nc]);(repeat' (with_reducible apply And.intro));all_goals (try exact wZ)))))));(all_goals (try ((with_reducible rw [aC]);(try simp only [wl,nc]);(repeat' (with_reducible apply And.intro));(all_goals (try exact cZ))))))
    · exact (hZ.trans (h4 ‹_›)).symm
    · refine dE (i+1) ⟨⟨by omega,h5 ‹_›⟩,by omega⟩ ?_
      (focus (cbv;(try dsimp only [nc] at *);(try simp only [wl,nc]);(repeat' (with_reducible apply And.intro));all_goals (try exact wZ)))
      exact w64n (by omega)
  · apply AWp.wk tF mF [(7,[(3,.any,[])])] kp63 ?_
    (any_goals ((with_reducible refine wI ?_);cbv;(try dsimp only [nc] at *);(repeat' (with_reducible first|exact aO|exact oN|refine oC ?_ ?_|refine VC.mk rfl ?_ ?_ ?_|(apply Ca.mk<;>intro _)|(apply Cv.mk<;>intro zq<;>(try simp only [nc,cl] at zq)<;>(try simp only [bl,dl] at zq)<;>(revert zq;intro _))|((first|apply xE|apply uE);cbv;(try dsimp only [nc] at *))))))
    all_goals (try (exact absurd ‹i<l.length› hi))
    ((all_goals (try (with_reducible ((first|refine rE ?_|refine nE ?_);(focus (cbv;(try dsimp only [nc] at *);(try simp only [wl,nc]);(repeat' (with_reducible apply And.intro));all_goals (try exact wZ)))))));(all_goals (try ((with_reducible rw [aC]);(try simp only [wl,nc]);(repeat' (with_reducible apply And.intro));(all_goals (try exact cZ))))))
    exact (hZ.trans (eqL_yes ql fun j hj=>h2 j (by omega))).symm
def eqX (eqv:V→V→Bool):Nat→X→X→Bool
  | 0,_,_=>false
  | k+1,x,y=>(x.op == y.op) && ((x.int == y.int) && (decide (x.text=y.text) && (eqL eqv x.value y.value && eqL (eqX eqv k) x.args y.args)))
theorem equal_step (e e' d d':Nat) (x y:X) (p q:Bool) (h1:Af Tryz.prog 61 [slcV (e+1) .any fun _=>x.value,slcV (e'+1) .any fun _=>y.value,.func 62 []] [] (.bool fun _=>p) [])
    (h2:Af Tryz.prog 63 [slcX (e+1) d .any fun _=>x.args,slcX (e'+1) d' .any fun _=>y.args,.func 25 []] [] (.bool fun _=>q) []) :
    Af Tryz.prog 25 [encX (e+1) (d+1) .any fun _=>x,encX (e'+1) (d'+1) .any fun _=>y] [] (.bool fun _=>(x.op == y.op) && ((x.int == y.int) && (decide (x.text=y.text) && (p && q)))) []:=by
  unfold slcV at h1
  unfold slcX at h2
  (apply Af.of tF mF [.tmp 4] kp25 [(1,[(24,.bool fun _=>p,[]),(31,.bool fun _=>q,[])])] Tryz.func25 (fun _=>?_);(any_goals ((with_reducible refine wI ?_);cbv;(try dsimp only [nc] at *);(repeat' (with_reducible first|exact aO|exact oN|refine oC ?_ ?_|refine VC.mk rfl ?_ ?_ ?_|(apply Ca.mk<;>intro _)|(apply Cv.mk<;>intro zq<;>(try simp only [nc,cl] at zq)<;>(try simp only [bl,dl] at zq)<;>(revert zq;intro _))|((first|apply xE|apply uE);cbv;(try dsimp only [nc] at *)))))))
  all_goals (try simp only [ite_self])
  any_goals ((with_reducible first|refine nO ?_|refine sO (fun _=>?_));first|exact h1|exact h2)
  ((all_goals (try (with_reducible ((first|refine rE ?_|refine nE ?_);(focus (cbv;(try dsimp only [nc] at *);(try simp only [wl,nc]);(repeat' (with_reducible apply And.intro));all_goals (try exact wZ)))))));(all_goals (try ((with_reducible rw [aC]);(try simp only [wl,nc]);(repeat' (with_reducible apply And.intro));(all_goals (try exact cZ))))))
  generalize (x.op == y.op)=b1
  generalize (x.int == y.int)=b2
  generalize decide (x.text=y.text)=b3
  cases b1<;>cases b2<;>cases b3<;>cases p<;>cases q<;>rfl
theorem equalP_ok (eqv:V→V→Bool) (e e' d d':Nat) (x y:X) (hx:X.le (e+1) (d+1) x) (hv:y.value=[]) (ha:y.args=[]) :
    Af Tryz.prog 25 [encX (e+1) (d+1) .any fun _=>x,encX (e'+1) (d'+1) .any fun _=>y] [] (.bool fun _=>eqX eqv 1 x y) [] :=
  equal_step e e' d d' x y _ _ (eqV61_ok eqv (e+1) (e'+1) x.value y.value hx.2.1 (by rw [hv];exact Nat.zero_le _) fun j a b=>absurd b (by rw [hv];exact Nat.not_lt_zero _))
    (eqX63_ok (eqX eqv 0) e e' d d' x.args y.args hx.2.2.1 (by rw [ha];exact Nat.zero_le _) fun j a b=>absurd b (by rw [ha];exact Nat.not_lt_zero _))
theorem equal_ok (eqv:V→V→Bool) (e e':Nat) (hv:∀ v w,V.le (e+1) v→V.le (e'+1) w→Af Tryz.prog 62 [encV (e+1) .any fun _=>v,encV (e'+1) .any fun _=>w] [] (.bool fun _=>eqv v w) []) :
    ∀ (k d d':Nat) (x y:X),X.le (e+1) (d+1) x→X.le (e'+1) (d'+1) y→X.le (e+1) k x →
    Af Tryz.prog 25 [encX (e+1) (d+1) .any fun _=>x,encX (e'+1) (d'+1) .any fun _=>y] [] (.bool fun _=>eqX eqv k x y) []
  | 0,_,_,_,_,_,_,h=>h.elim
  | k + 1,d,d',x,y,hx,hy,hk=>by
    have mem:∀ {α:Type} [Inhabited α] {l:List α} {i:Nat},i<l.length→l.getD i default ∈ l:=fun {α} _ {l i} h=>by
      simp only [List.getD,List.getElem?_eq_getElem h];exact List.getElem_mem h
    have h1:=eqV61_ok eqv (e+1) (e'+1) x.value y.value hx.2.1 hy.2.1 fun j a b=>hv _ _ (hx.2.2.2.1 _ (mem a)) (hy.2.2.2.1 _ (mem b))
    have h2:=eqX63_ok (eqX eqv k) e e' d d' x.args y.args hx.2.2.1 hy.2.2.1 fun j a b=>by
      have q:=X.le_arg hx a
      obtain ⟨c,rfl⟩:=X.lP q
      have r:=X.le_arg hy b
      obtain ⟨c',rfl⟩:=X.lP r
      exact equal_ok eqv e e' hv k c c' _ _ q r (X.le_arg hk a)
    exact equal_step e e' d d' x y _ _ h1 h2
def sumX (f:X→Int):Nat→List X→Int
  | 0,_=>1
  | n+1,l=>IntKind.i64.wrap (sumX f n l+f (l.getD n default))
def szX:Nat→X→Int
  | 0,_=>0
  | k+1,x=>sumX (szX k) x.args.length x.args
theorem size35_ok (e:Nat):∀ (k d:Nat) (x:X),X.le (e+1) (d+1) x→X.le (e+1) k x→Af Tryz.prog 35 [encX (e+1) (d+1) .any fun _=>x] [] (.int .i64 fun _=>szX k x) []
  | 0,_,_,_,h=>h.elim
  | k + 1,d,x,hx,hk=>by
    have hl:=hx.2.2.1
    have ha:∀ i,i<x.args.length→Af Tryz.prog 35 [encX (e+1) d .any fun _=>x.args.getD i default] [] (.int .i64 fun _=>szX k (x.args.getD i default)) []:=fun i hi=>by
      have q:=X.le_arg hx hi
      obtain ⟨c,rfl⟩:=X.lP q
      exact size35_ok e k c _ q (X.le_arg hk hi)
    obtain ⟨f,hf⟩:∃ f:X→Int,f=szX k:=⟨_,rfl⟩
    obtain ⟨Z,hZ⟩:∃ Z,Z=szX (k+1) x:=⟨_,rfl⟩
    rw [← hZ]
    replace hZ:Z=sumX f x.args.length x.args:=by rw [hZ,hf];rfl
    rw [← hf] at ha
    obtain ⟨g,hg⟩:∃ g:Nat→Int,g=fun n=>sumX f n x.args:=⟨_,rfl⟩
    have hg0:g 0=1:=by rw [hg];rfl
    have hg1:∀ n,g (n+1)=IntKind.i64.wrap (g n+f (x.args.getD n default)):=fun n=>by rw [hg];rfl
    replace hZ:Z=g x.args.length:=by rw [hZ,hg]
    clear hf hg
    (apply Af.of tF mF [.tmp 2] kp35 [] Tryz.func35 (fun _=>?_);(any_goals ((with_reducible refine wI ?_);cbv;(try dsimp only [nc] at *);(repeat' (with_reducible first|exact aO|exact oN|refine oC ?_ ?_|refine VC.mk rfl ?_ ?_ ?_|(apply Ca.mk<;>intro _)|(apply Cv.mk<;>intro zq<;>(try simp only [nc,cl] at zq)<;>(try simp only [bl,dl] at zq)<;>(revert zq;intro _))|((first|apply xE|apply uE);cbv;(try dsimp only [nc] at *)))))))
    ((all_goals (try (with_reducible ((first|refine rE ?_|refine nE ?_);(focus (cbv;(try dsimp only [nc] at *);(try simp only [wl,nc]);(repeat' (with_reducible apply And.intro));all_goals (try exact wZ)))))));(all_goals (try ((with_reducible rw [aC]);(try simp only [wl,nc]);(repeat' (with_reducible apply And.intro));(all_goals (try exact cZ))))))
    refine .loop (fun i:Nat=>⟨19,[(9,.int .i64 fun _=>(i:Int)),(8,.int .i64 fun _=>(x.args.length:Int)),(7,.slc .any 5 (fun _=>x.args.length) (subX (e+1) (d+1) .any fun _=>x)),(3,.int .i64 fun _=>g i)],[]⟩)
      (fun i=>i≤x.args.length) (fun i=>x.args.length - i) 0 (Nat.zero_le _) ?_ fun i E hi=>?_
    · (focus (cbv;(try dsimp only [nc] at *);(try simp only [wl,nc]);(repeat' (with_reducible apply And.intro));all_goals (try exact wZ)))
    by_cases hi:i<x.args.length
    · have h3:=ha i hi
      have h4:=hg1 i
      generalize f (x.args.getD i default)=b at *
      apply AWp.wk tF mF [(5,[(2,.int .i64 fun _=>b,[])])] kp35 ?_
      (any_goals ((with_reducible refine wI ?_);cbv;(try dsimp only [nc] at *);(repeat' (with_reducible first|exact aO|exact oN|refine oC ?_ ?_|refine VC.mk rfl ?_ ?_ ?_|(apply Ca.mk<;>intro _)|(apply Cv.mk<;>intro zq<;>(try simp only [nc,cl] at zq)<;>(try simp only [bl,dl] at zq)<;>(revert zq;intro _))|((first|apply xE|apply uE);cbv;(try dsimp only [nc] at *))))))
      all_goals (try simp only [Int.toNat_natCast])
      any_goals ((with_reducible refine nO ?_);exact h3)
      all_goals (try (exact absurd hi ‹¬i<x.args.length›))
      ((all_goals (try (with_reducible ((first|refine rE ?_|refine nE ?_);(focus (cbv;(try dsimp only [nc] at *);(try simp only [wl,nc]);(repeat' (with_reducible apply And.intro));all_goals (try exact wZ)))))));(all_goals (try ((with_reducible rw [aC]);(try simp only [wl,nc]);(repeat' (with_reducible apply And.intro));(all_goals (try exact cZ))))))
      refine dE (i+1) ⟨by omega,by omega⟩ ?_
      (focus (cbv;(try dsimp only [nc] at *);(try simp only [wl,nc]);(repeat' (with_reducible apply And.intro));all_goals (try exact wZ)))
      · exact w64n (by omega)
    · obtain rfl:i=x.args.length:=by omega
      apply AWp.wk tF mF [(5,[(2,.any,[])])] kp35 ?_
      (any_goals ((with_reducible refine wI ?_);cbv;(try dsimp only [nc] at *);(repeat' (with_reducible first|exact aO|exact oN|refine oC ?_ ?_|refine VC.mk rfl ?_ ?_ ?_|(apply Ca.mk<;>intro _)|(apply Cv.mk<;>intro zq<;>(try simp only [nc,cl] at zq)<;>(try simp only [bl,dl] at zq)<;>(revert zq;intro _))|((first|apply xE|apply uE);cbv;(try dsimp only [nc] at *))))))
      all_goals (try (exact absurd ‹x.args.length<x.args.length› hi))
      ((all_goals (try (with_reducible ((first|refine rE ?_|refine nE ?_);(focus (cbv;(try dsimp only [nc] at *);(try simp only [wl,nc]);(repeat' (with_reducible apply And.intro));all_goals (try exact wZ)))))));(all_goals (try ((with_reducible rw [aC]);(try simp only [wl,nc]);(repeat' (with_reducible apply And.intro));(all_goals (try exact cZ))))))
end Go.Ai
