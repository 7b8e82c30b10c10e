/- Chapter 6: whether a value is one of a type. -/
import Derived.Test.YtalghhdapjmbbaaGreatDoorTyD
import Derived.Test.YtalghhdapjmbbaaGreatDoorTyC
set_option linter.all false
namespace Go.Ai
open Go Go.Proofs
set_option maxRecDepth 100000
set_option maxHeartbeats 4000000
def V.ok (e:Nat) (v:V):Prop:=∀ p ∈ preV e 1 v,ownE vsD p.2.2=0
def hasT:Nat→Ty→V→Bool
  | 0,_,_=>false
  | d+1,t,v =>
    if v.kind≠t.kind then false else
    if t.kind=2∨t.kind=6∨t.kind=7∨t.kind=3 then decide (t.min≤v.int∧v.int≤t.max) && v.scale == t.scale else
    if t.kind=4 then (if 0<t.words.length then inWords t.words v.text else decide (t.min≤v.text.size∧v.text.size≤t.max)) else
    if t.kind=5 then decide (t.min≤v.text.size∧v.text.size≤t.max) else
    if t.kind=8 then decide (t.min≤v.list.length∧v.list.length≤t.max) && !(v.list.any fun x=>!hasT d (t.elem.getD 0 default) x) else
    if t.kind=10 then decide (0≤iI (bQ v.text) t.fields) && hasT d (fT (gT t (bQ v.text))) (v.list.getD 0 default) else
    if t.kind=9 then (v.fields.all fun x=>decide (0≤iI (bQ x.1) t.fields) && hasT d (fT (gT t (bQ x.1))) x.2) && !(t.fields.any fun f=>decide (findI v (fM f)<0) && fN f != 2) else true
def accV (c d:Nat) (t:Ty) (v:V):Bool:=decide (chk c v=0) && hasT d t v
def Ty.ok (e:Nat):Nat→Ty→Prop
  | 0,_=>False
  | d+1,t=>ownT t=0∧(∀ x ∈ pS t,Ty.ok e d x)∧(t.kind=9→∀ f ∈ t.fields,fN f=3→accV e d (fT f) ((fDef f).getD 0 default)=true)
def boxT (e d:Nat) (t:Unit→Ty):AV:=.eptr .any 7 (fun _=>1) (fun _=>cl' e d .any t) (fun _=>0) 0
def boxW (d:Nat) (v:Unit→V):AV:=.eptr .any 6 (fun _=>1) (fun _=>cells d .any v) (fun _=>0) 0
theorem IndexV_t2 (e d c:Nat) (t:Ty) (fn:FuncId) (p:V→Bool) (l:List V) (hl:l.length≤1073741824)
    (hc:∀ x ∈ l,Af Tryz.prog fn [encV c .any fun _=>x,boxT e d fun _=>t] [] (.bool fun _=>p x) []) :
    Af Tryz.prog 213 [slcV c .any fun _=>l,.func fn [boxT e d fun _=>t]] [] (.int .i64 fun _=>iI p l) []:=by
  (apply Af.of tF mF [.tmp 4] kp213 [] Tryz.func213 (fun _=>?_);(any_goals ((with_reducible refine wI ?_);cbv;(try dsimp only [nc] at *);(repeat' (with_reducible first|exact aO|exact oN|refine oC ?_ ?_|refine VC.mk rfl ?_ ?_ ?_|(apply Ca.mk<;>intro _)|(apply Cv.mk<;>intro zq<;>(try simp only [nc,cl] at zq)<;>(try simp only [bl,dl] at zq)<;>(revert zq;intro _))|((first|apply xE|apply uE);cbv;(try dsimp only [nc] at *)))))))
  ((all_goals (try (with_reducible ((first|refine rE ?_|refine nE ?_);(focus (cbv;(try dsimp only [nc] at *);(try simp only [wl,nc]);(repeat' (with_reducible apply And.intro));all_goals (try exact wZ)))))));(all_goals (try ((with_reducible rw [aC]);(try simp only [wl,nc]);(repeat' (with_reducible apply And.intro));(all_goals (try exact cZ))))))
  refine .loop (fun i:Nat=>⟨19,[(8,.int .i64 fun _=>i),(7,.int .i64 fun _=>l.length),(1,.func fn [boxT e d fun _=>t]),(0,slcV c .any fun _=>l)],[]⟩)
    (fun i=>i≤l.length∧∀ j,j<i→p (l.getD j default)=false) (fun i=>l.length - i) 0 (by simp) ?_ fun i E hi=>?_
  · (focus (cbv;(try dsimp only [nc] at *);(try simp only [wl,nc]);(repeat' (with_reducible apply And.intro));all_goals (try exact wZ)))
  apply AWp.wk tF mF [(4,[(5,.bool (fun _=>?_),[])])] kp213 ?_
  (any_goals ((with_reducible refine wI ?_);cbv;(try dsimp only [nc] at *);(repeat' (with_reducible first|exact aO|exact oN|refine oC ?_ ?_|refine VC.mk rfl ?_ ?_ ?_|(apply Ca.mk<;>intro _)|(apply Cv.mk<;>intro zq<;>(try simp only [nc,cl] at zq)<;>(try simp only [bl,dl] at zq)<;>(revert zq;intro _))|((first|apply xE|apply uE);cbv;(try dsimp only [nc] at *))))))
  (any_goals ((with_reducible refine bZ ?_)<;>exact (hc _ (getD_mem ‹_›))))
  ((all_goals (try (with_reducible ((first|refine rE ?_|refine nE ?_);(focus (cbv;(try dsimp only [nc] at *);(try simp only [wl,nc]);(repeat' (with_reducible apply And.intro));all_goals (try exact wZ)))))));(all_goals (try ((with_reducible rw [aC]);(try simp only [wl,nc]);(repeat' (with_reducible apply And.intro));(all_goals (try exact cZ))))))
  · exact (idxI_at ‹_› ‹_› hi.2).symm
  · refine dE (i+1) ⟨⟨by omega,fun j hj=>?_⟩,by omega⟩ ?_
    · rcases Nat.lt_succ_iff_lt_or_eq.1 hj with hj|rfl
      · exact hi.2 j hj
      · assumption
    · (focus (cbv;(try dsimp only [nc] at *);(try simp only [wl,nc]);(repeat' (with_reducible apply And.intro));all_goals (try exact wZ)))
      exact w64n (by omega)
  · exact (idxI_none fun j hj=>hi.2 j (by omega)).symm
theorem ContainsV_t2 (e d c:Nat) (t:Ty) (fn:FuncId) (p:V→Bool) (l:List V) (hl:l.length≤1073741824)
    (hc:∀ x ∈ l,Af Tryz.prog fn [encV c .any fun _=>x,boxT e d fun _=>t] [] (.bool fun _=>p x) []) :
    Af Tryz.prog 177 [slcV c .any fun _=>l,.func fn [boxT e d fun _=>t]] [] (.bool fun _=>l.any p) []:=by
  (apply Af.of tF mF [.tmp 4] kp177 [(1,[(2,.int .i64 (fun _=>?_),[])])] Tryz.func177 (fun _=>?_);(any_goals ((with_reducible refine wI ?_);cbv;(try dsimp only [nc] at *);(repeat' (with_reducible first|exact aO|exact oN|refine oC ?_ ?_|refine VC.mk rfl ?_ ?_ ?_|(apply Ca.mk<;>intro _)|(apply Cv.mk<;>intro zq<;>(try simp only [nc,cl] at zq)<;>(try simp only [bl,dl] at zq)<;>(revert zq;intro _))|((first|apply xE|apply uE);cbv;(try dsimp only [nc] at *)))))))
  (any_goals ((with_reducible refine bZ ?_)<;>exact (IndexV_t2 e d c t fn p l hl hc)))
  ((all_goals (try (with_reducible ((first|refine rE ?_|refine nE ?_);(focus (cbv;(try dsimp only [nc] at *);(try simp only [wl,nc]);(repeat' (with_reducible apply And.intro));all_goals (try exact wZ)))))));(all_goals (try ((with_reducible rw [aC]);(try simp only [wl,nc]);(repeat' (with_reducible apply And.intro));(all_goals (try exact cZ))))))
  exact idxI_any
theorem IndexTF_v2 (e d c:Nat) (v:V) (fn:FuncId) (p:TF→Bool) (l:List TF) (hl:l.length≤1073741824)
    (hc:∀ x ∈ l,Af Tryz.prog fn [.agg (cF e d .any fun _=>x),boxW c fun _=>v] [] (.bool fun _=>p x) []) :
    Af Tryz.prog 142 [slcTF e d .any fun _=>l,.func fn [boxW c fun _=>v]] [] (.int .i64 fun _=>iI p l) []:=by
  (apply Af.of tF mF [.tmp 4] kp142 [] Tryz.func142 (fun _=>?_);(any_goals ((with_reducible refine wI ?_);cbv;(try dsimp only [nc] at *);(repeat' (with_reducible first|exact aO|exact oN|refine oC ?_ ?_|refine VC.mk rfl ?_ ?_ ?_|(apply Ca.mk<;>intro _)|(apply Cv.mk<;>intro zq<;>(try simp only [nc,cl] at zq)<;>(try simp only [bl,dl] at zq)<;>(revert zq;intro _))|((first|apply xE|apply uE);cbv;(try dsimp only [nc] at *)))))))
  ((all_goals (try (with_reducible ((first|refine rE ?_|refine nE ?_);(focus (cbv;(try dsimp only [nc] at *);(try simp only [wl,nc]);(repeat' (with_reducible apply And.intro));all_goals (try exact wZ)))))));(all_goals (try ((with_reducible rw [aC]);(try simp only [wl,nc]);(repeat' (with_reducible apply And.intro));(all_goals (try exact cZ))))))
  refine .loop (fun i:Nat=>⟨19,[(8,.int .i64 fun _=>i),(7,.int .i64 fun _=>l.length),(1,.func fn [boxW c fun _=>v]),(0,slcTF e d .any fun _=>l)],[]⟩)
    (fun i=>i≤l.length∧∀ j,j<i→p (l.getD j default)=false) (fun i=>l.length - i) 0 (by simp) ?_ fun i E hi=>?_
  · (focus (cbv;(try dsimp only [nc] at *);(try simp only [wl,nc]);(repeat' (with_reducible apply And.intro));all_goals (try exact wZ)))
  apply AWp.wk tF mF [(4,[(5,.bool (fun _=>?_),[])])] kp142 ?_
  (any_goals ((with_reducible refine wI ?_);cbv;(try dsimp only [nc] at *);(repeat' (with_reducible first|exact aO|exact oN|refine oC ?_ ?_|refine VC.mk rfl ?_ ?_ ?_|(apply Ca.mk<;>intro _)|(apply Cv.mk<;>intro zq<;>(try simp only [nc,cl] at zq)<;>(try simp only [bl,dl] at zq)<;>(revert zq;intro _))|((first|apply xE|apply uE);cbv;(try dsimp only [nc] at *))))))
  (any_goals ((with_reducible refine bZ ?_)<;>exact (hc _ (getD_mem ‹_›))))
  ((all_goals (try (with_reducible ((first|refine rE ?_|refine nE ?_);(focus (cbv;(try dsimp only [nc] at *);(try simp only [wl,nc]);(repeat' (with_reducible apply And.intro));all_goals (try exact wZ)))))));(all_goals (try ((with_reducible rw [aC]);(try simp only [wl,nc]);(repeat' (with_reducible apply And.intro));(all_goals (try exact cZ))))))
  · exact (idxI_at ‹_› ‹_› hi.2).symm
  · refine dE (i+1) ⟨⟨by omega,fun j hj=>?_⟩,by omega⟩ ?_
    · rcases Nat.lt_succ_iff_lt_or_eq.1 hj with hj|rfl
      · exact hi.2 j hj
      · assumption
    · (focus (cbv;(try dsimp only [nc] at *);(try simp only [wl,nc]);(repeat' (with_reducible apply And.intro));all_goals (try exact wZ)))
      exact w64n (by omega)
  · exact (idxI_none fun j hj=>hi.2 j (by omega)).symm
theorem ContainsTF_v2 (e d c:Nat) (v:V) (fn:FuncId) (p:TF→Bool) (l:List TF) (hl:l.length≤1073741824)
    (hc:∀ x ∈ l,Af Tryz.prog fn [.agg (cF e d .any fun _=>x),boxW c fun _=>v] [] (.bool fun _=>p x) []) :
    Af Tryz.prog 110 [slcTF e d .any fun _=>l,.func fn [boxW c fun _=>v]] [] (.bool fun _=>l.any p) []:=by
  (apply Af.of tF mF [.tmp 4] kp110 [(1,[(2,.int .i64 (fun _=>?_),[])])] Tryz.func110 (fun _=>?_);(any_goals ((with_reducible refine wI ?_);cbv;(try dsimp only [nc] at *);(repeat' (with_reducible first|exact aO|exact oN|refine oC ?_ ?_|refine VC.mk rfl ?_ ?_ ?_|(apply Ca.mk<;>intro _)|(apply Cv.mk<;>intro zq<;>(try simp only [nc,cl] at zq)<;>(try simp only [bl,dl] at zq)<;>(revert zq;intro _))|((first|apply xE|apply uE);cbv;(try dsimp only [nc] at *)))))))
  (any_goals ((with_reducible refine bZ ?_)<;>exact (IndexTF_v2 e d c v fn p l hl hc)))
  ((all_goals (try (with_reducible ((first|refine rE ?_|refine nE ?_);(focus (cbv;(try dsimp only [nc] at *);(try simp only [wl,nc]);(repeat' (with_reducible apply And.intro));all_goals (try exact wZ)))))));(all_goals (try ((with_reducible rw [aC]);(try simp only [wl,nc]);(repeat' (with_reducible apply And.intro));(all_goals (try exact cZ))))))
  exact idxI_any
theorem has1_ok (e d c:Nat) (t:Ty) (x:V) (q:Bool) (h1:0<t.elem.length) (h:Af Tryz.prog 141 [encT e d .any fun _=>t.elem.getD 0 default,encV c .any fun _=>x] [] (.bool fun _=>q) []) :
    Af Tryz.prog 178 [encV c .any fun _=>x,boxT e (d+1) fun _=>t] [] (.bool fun _=>!q) []:=by
  (apply Af.of tF mF [.tmp 3] kp178 [(1,[(5,.bool (fun _=>q),[])])] Tryz.func178 (fun _=>?_);(any_goals ((with_reducible refine wI ?_);cbv;(try dsimp only [nc] at *);(repeat' (with_reducible first|exact aO|exact oN|refine oC ?_ ?_|refine VC.mk rfl ?_ ?_ ?_|(apply Ca.mk<;>intro _)|(apply Cv.mk<;>intro zq<;>(try simp only [nc,cl] at zq)<;>(try simp only [bl,dl] at zq)<;>(revert zq;intro _))|((first|apply xE|apply uE);cbv;(try dsimp only [nc] at *)))))))
  (any_goals ((with_reducible refine bZ ?_);(try dsimp only);(have q:=h;refine Af.wN q ?_;clear q);(focus (cbv;(try dsimp only [nc] at *);(try simp only [wl,nc]);(repeat' (with_reducible apply And.intro));all_goals (try exact wZ)))))
  ((all_goals (try (with_reducible ((first|refine rE ?_|refine nE ?_);(focus (cbv;(try dsimp only [nc] at *);(try simp only [wl,nc]);(repeat' (with_reducible apply And.intro));all_goals (try exact wZ)))))));(all_goals (try ((with_reducible rw [aC]);(try simp only [wl,nc]);(repeat' (with_reducible apply And.intro));(all_goals (try exact cZ))))))
theorem has2_ok (e d c:Nat) (v:V) (hv:V.le (c+1) v) (f:TF) (hk:v.kind=9):Af Tryz.prog 180 [.agg (cF e d .any fun _=>f),boxW (c+1) fun _=>v] [] (.bool fun _=>decide (findI v (fM f)<0) && fN f != 2) []:=by
  by_cases h:hasF v (fM f)
  · (apply Af.of tF mF [.tmp 3] kp180 [(1,[(3,.tup [encV c .new fun _=>fieldV v (fM f),.bool fun _=>true],[])])] Tryz.func180 (fun _=>?_);(any_goals ((with_reducible refine wI ?_);cbv;(try dsimp only [nc] at *);(repeat' (with_reducible first|exact aO|exact oN|refine oC ?_ ?_|refine VC.mk rfl ?_ ?_ ?_|(apply Ca.mk<;>intro _)|(apply Cv.mk<;>intro zq<;>(try simp only [nc,cl] at zq)<;>(try simp only [bl,dl] at zq)<;>(revert zq;intro _))|((first|apply xE|apply uE);cbv;(try dsimp only [nc] at *)))))))
    (any_goals ((with_reducible refine bZ ?_)<;>exact (Field_yes c v hv (fM f) h)))
    ((all_goals (try (with_reducible ((first|refine rE ?_|refine nE ?_);(focus (cbv;(try dsimp only [nc] at *);(try simp only [wl,nc]);(repeat' (with_reducible apply And.intro));all_goals (try exact wZ)))))));(all_goals (try ((with_reducible rw [aC]);(try simp only [wl,nc]);(repeat' (with_reducible apply And.intro));(all_goals (try exact cZ))))))
    all_goals (have h0:=h.2;simp;omega)
  · (apply Af.of tF mF [.tmp 3] kp180 [(1,[(3,.tup [encV c .new fun _=>default,.bool fun _=>false],[])])] Tryz.func180 (fun _=>?_);(any_goals ((with_reducible refine wI ?_);cbv;(try dsimp only [nc] at *);(repeat' (with_reducible first|exact aO|exact oN|refine oC ?_ ?_|refine VC.mk rfl ?_ ?_ ?_|(apply Ca.mk<;>intro _)|(apply Cv.mk<;>intro zq<;>(try simp only [nc,cl] at zq)<;>(try simp only [bl,dl] at zq)<;>(revert zq;intro _))|((first|apply xE|apply uE);cbv;(try dsimp only [nc] at *)))))))
    (any_goals ((with_reducible refine bZ ?_)<;>exact (Field_no c v hv (fM f) h)))
    ((all_goals (try (with_reducible ((first|refine rE ?_|refine nE ?_);(focus (cbv;(try dsimp only [nc] at *);(try simp only [wl,nc]);(repeat' (with_reducible apply And.intro));all_goals (try exact wZ)))))));(all_goals (try ((with_reducible rw [aC]);(try simp only [wl,nc]);(repeat' (with_reducible apply And.intro));(all_goals (try exact cZ))))))
    all_goals
      have h0:findI v (fM f)<0:=by
        rcases Int.lt_or_le (findI v (fM f)) 0 with q|q
        · exact q
        · exact absurd ⟨hk,q⟩ h
      simp [h0]
theorem V.ok_self {e:Nat} {v:V} (h:V.ok (e+1) v):ownE vsD v=0:=h (1,e,v) (by simp [preV])
theorem preV_lvl:∀ (e:Nat) (l m:Int) (v:V),(preV e l v).map (fun p=>p.2.2)=(preV e m v).map fun p=>p.2.2
  | 0,_,_,_=>rfl
  | e+1,l,m,v=>by
    simp only [preV,List.map_cons,List.map_flatten,List.map_map]
    congr 3
    funext x
    exact preV_lvl e (l+1) (m+1) x
theorem V.ok_iff {e:Nat} {l:Int} {v:V}:V.ok e v↔∀ p ∈ preV e l v,ownE vsD p.2.2=0:=by
  have h:=preV_lvl e 1 l v
  constructor
  · intro q p hp
    have:p.2.2 ∈ (preV e l v).map fun p=>p.2.2:=List.mem_map_of_mem hp
    rw [← h] at this
    obtain ⟨p',h1,h2⟩:=List.mem_map.1 this
    rw [← h2];exact q p' h1
  · intro q p hp
    have:p.2.2 ∈ (preV e 1 v).map fun p=>p.2.2:=List.mem_map_of_mem hp
    rw [h] at this
    obtain ⟨p',h1,h2⟩:=List.mem_map.1 this
    rw [← h2];exact q p' h1
theorem V.ok_kid {e:Nat} {v x:V} (h:V.ok (e+1) v) (hx:x ∈ kz v):V.ok e x:=by
  rw [V.ok_iff (l:=1+1)]
  intro p hp
  exact h p (by simp only [preV,List.mem_cons,List.mem_flatten,List.mem_map];exact .inr ⟨_,⟨x,hx,rfl⟩,hp⟩)
theorem V.ok_of_chk {e:Nat} {v:V} (h:chk e v=0):V.ok e v:=by
  intro p hp
  obtain ⟨k,hk,hpk⟩:=List.getElem_of_mem hp
  have:=firstI_nz (f:=checkAt vsD (preV e 1 v)) hk h
  simp only [checkAt,List.getElem?_eq_getElem hk,hpk] at this
  split at this
  · cases this
  · split at this
    · cases this
    · exact this
theorem has_flat (e d c:Nat) (t:Ty) (v:V) (h8:t.kind≠8) (h9:t.kind≠9) (h10:t.kind≠10) (ht:Ty.le e (d+1) t):Af Tryz.prog 141 [encT e (d+1) .any fun _=>t,encV c .any fun _=>v] [] (.bool fun _=>hasT (d+1) t v) []:=by
  (apply Af.of tF mF [.tmp 4] kp141 [(0,[(0,.nil,[]),(1,.nil,[])]),(8,[(6,.bool fun _=>decide (t.min≤v.int∧v.int≤t.max),[])]),(11,[(4,.bool fun _=>inWords t.words v.text,[])]),(12,[(7,.bool fun _=>decide (t.min≤v.text.size∧v.text.size≤t.max),[])]),
    (14,[(7,.bool fun _=>decide (t.min≤v.text.size∧v.text.size≤t.max),[])]),(16,[(7,.bool fun _=>false,[]),(12,.bool fun _=>false,[])]),(18,[(3,.tup [encTF e d .any fun _=>default,.bool fun _=>false],[])]),(19,[(8,.bool fun _=>false,[])]),(28,[(3,.bool fun _=>false,[])])] Tryz.func141 (fun _=>?_);(any_goals ((with_reducible refine wI ?_);cbv;(try dsimp only [nc] at *);(repeat' (with_reducible first|exact aO|exact oN|refine oC ?_ ?_|refine VC.mk rfl ?_ ?_ ?_|(apply Ca.mk<;>intro _)|(apply Cv.mk<;>intro zq<;>(try simp only [nc,cl] at zq)<;>(try simp only [bl,dl] at zq)<;>(revert zq;intro _))|((first|apply xE|apply uE);cbv;(try dsimp only [nc] at *)))))))
  all_goals (try (exfalso;omega))
  (any_goals ((with_reducible refine bZ ?_)<;>exact (in_ok _ _ _)))
  (any_goals ((with_reducible refine bZ ?_)<;>exact (Contains_ok t.words v.text ht.1)))
  ((all_goals (try (with_reducible ((first|refine rE ?_|refine nE ?_);(focus (cbv;(try dsimp only [nc] at *);(try simp only [wl,nc]);(repeat' (with_reducible apply And.intro));all_goals (try exact wZ)))))));(all_goals (try ((with_reducible rw [aC]);(try simp only [wl,nc]);(repeat' (with_reducible apply And.intro));(all_goals (try exact cZ))))))
  all_goals
    simp only [hasT]
    first
      | (conv=>rhs;rw [if_neg (by omega),if_pos (by omega)]
         cases decide (t.min≤v.int∧v.int≤t.max)<;>simp)
      | (rw [if_pos (by omega)])
      | (rw [if_neg (by omega),if_neg (by omega),if_pos (by omega),if_pos (by omega)])
      | (rw [if_neg (by omega),if_neg (by omega),if_pos (by omega),if_neg (by omega)])
      | (rw [if_neg (by omega),if_neg (by omega),if_neg (by omega),if_pos (by omega)])
      | (rw [if_neg (by omega),if_neg (by omega),if_neg (by omega),if_neg (by omega),if_neg (by omega),if_neg (by omega),if_neg (by omega)])
theorem has_list (e d c:Nat) (t:Ty) (v:V) (h8:t.kind=8) (h1:0<t.elem.length) (ht:Ty.le e (d+1) t) (hl:v.list.length≤1073741824)
    (ih:∀ x ∈ v.list,v.kind=8→Af Tryz.prog 141 [encT e d .any fun _=>t.elem.getD 0 default,encV c .any fun _=>x] [] (.bool fun _=>hasT d (t.elem.getD 0 default) x) []) :
    Af Tryz.prog 141 [encT e (d+1) .any fun _=>t,encV (c+1) .any fun _=>v] [] (.bool fun _=>hasT (d+1) t v) []:=by
  (apply Af.of tF mF [.tmp 4] kp141 [(0,[(0,.nil,[]),(1,.nil,[])]),(8,[(6,.bool fun _=>false,[])]),(11,[(4,.bool fun _=>false,[])]),(12,[(7,.bool fun _=>false,[])]),(14,[(7,.bool fun _=>false,[])]),(16,[(7,.bool fun _=>decide (t.min≤v.list.length∧v.list.length≤t.max),[]),(12,.bool fun _=>v.list.any fun x=>!hasT d (t.elem.getD 0 default) x,[])]),(18,[(3,.tup [encTF e d .any fun _=>default,.bool fun _=>false],[])]),(19,[(8,.bool fun _=>false,[])]),(28,[(3,.bool fun _=>false,[])])] Tryz.func141 (fun _=>?_);(any_goals ((with_reducible refine wI ?_);cbv;(try dsimp only [nc] at *);(repeat' (with_reducible first|exact aO|exact oN|refine oC ?_ ?_|refine VC.mk rfl ?_ ?_ ?_|(apply Ca.mk<;>intro _)|(apply Cv.mk<;>intro zq<;>(try simp only [nc,cl] at zq)<;>(try simp only [bl,dl] at zq)<;>(revert zq;intro _))|((first|apply xE|apply uE);cbv;(try dsimp only [nc] at *)))))))
  all_goals (try (exfalso;omega))
  (any_goals ((with_reducible refine bZ ?_)<;>exact (in_ok _ _ _)))
  (any_goals ((with_reducible refine bZ ?_)<;>exact (ContainsV_t2 e (d+1) c t 178 (fun x=>!hasT d (t.elem.getD 0 default) x) v.list hl fun x hx=>has1_ok e d c t x _ h1 (ih x hx (by omega)))))
  ((all_goals (try (with_reducible ((first|refine rE ?_|refine nE ?_);(focus (cbv;(try dsimp only [nc] at *);(try simp only [wl,nc]);(repeat' (with_reducible apply And.intro));all_goals (try exact wZ)))))));(all_goals (try ((with_reducible rw [aC]);(try simp only [wl,nc]);(repeat' (with_reducible apply And.intro));(all_goals (try exact cZ))))))
  · simp only [hasT]
    rw [if_pos (by omega)]
  · simp only [hasT]
    conv=>rhs;rw [if_neg (by omega),if_neg (by omega),if_neg (by omega),if_neg (by omega),if_pos (by omega)]
    cases decide (t.min≤v.list.length∧v.list.length≤t.max)<;>simp
theorem has_var (e d c:Nat) (t:Ty) (v:V) (h8:t.kind=10) (ht:Ty.le e (d+1) t) (h1:v.kind=10→0<v.list.length)
    (ih:v.kind=10→hasTF t (bQ v.text)→Af Tryz.prog 141 [encT e d .any fun _=>fT (gT t (bQ v.text)),encV c .any fun _=>v.list.getD 0 default] [] (.bool fun _=>hasT d (fT (gT t (bQ v.text))) (v.list.getD 0 default)) []) :
    Af Tryz.prog 141 [encT e (d+1) .any fun _=>t,encV (c+1) .any fun _=>v] [] (.bool fun _=>hasT (d+1) t v) []:=by
  by_cases hf:0≤iI (bQ v.text) t.fields
  · have hF:hasTF t (bQ v.text):=⟨.inr h8,hf⟩
    (apply Af.of tF mF [.tmp 4] kp141 [(0,[(0,.nil,[]),(1,.nil,[])]),(8,[(6,.bool fun _=>false,[])]),(11,[(4,.bool fun _=>false,[])]),(12,[(7,.bool fun _=>false,[])]),(14,[(7,.bool fun _=>false,[])]),(16,[(7,.bool fun _=>false,[]),(12,.bool fun _=>false,[])]),(18,[(3,.tup [encTF e d .any fun _=>gT t (bQ v.text),.bool fun _=>true],[])]),(19,[(8,.bool fun _=>hasT d (fT (gT t (bQ v.text))) (v.list.getD 0 default),[])]),(28,[(3,.bool fun _=>false,[])])] Tryz.func141 (fun _=>?_);(any_goals ((with_reducible refine wI ?_);cbv;(try dsimp only [nc] at *);(repeat' (with_reducible first|exact aO|exact oN|refine oC ?_ ?_|refine VC.mk rfl ?_ ?_ ?_|(apply Ca.mk<;>intro _)|(apply Cv.mk<;>intro zq<;>(try simp only [nc,cl] at zq)<;>(try simp only [bl,dl] at zq)<;>(revert zq;intro _))|((first|apply xE|apply uE);cbv;(try dsimp only [nc] at *)))))))
    all_goals (try (exfalso;omega))
    all_goals (try (have h10:=h1 (by omega)))
    (any_goals ((with_reducible refine bZ ?_)<;>exact (FieldT_yes e d t ht v.text hF)))
    (any_goals ((with_reducible refine bZ ?_)<;>exact (ih (by omega) hF)))
    ((all_goals (try (with_reducible ((first|refine rE ?_|refine nE ?_);(focus (cbv;(try dsimp only [nc] at *);(try simp only [wl,nc]);(repeat' (with_reducible apply And.intro));all_goals (try exact wZ)))))));(all_goals (try ((with_reducible rw [aC]);(try simp only [wl,nc]);(repeat' (with_reducible apply And.intro));(all_goals (try exact cZ))))))
    · simp only [hasT]
      rw [if_pos (by omega)]
    · simp
    · simp only [hasT]
      conv=>rhs;rw [if_neg (by omega),if_neg (by omega),if_neg (by omega),if_neg (by omega),if_neg (by omega),if_pos (by omega)]
      simp [hf]
  · have hF:¬ hasTF t (bQ v.text):=fun q=>hf q.2
    (apply Af.of tF mF [.tmp 4] kp141 [(0,[(0,.nil,[]),(1,.nil,[])]),(8,[(6,.bool fun _=>false,[])]),(11,[(4,.bool fun _=>false,[])]),(12,[(7,.bool fun _=>false,[])]),(14,[(7,.bool fun _=>false,[])]),(16,[(7,.bool fun _=>false,[]),(12,.bool fun _=>false,[])]),(18,[(3,.tup [encTF e d .any fun _=>default,.bool fun _=>false],[])]),(19,[(8,.bool fun _=>false,[])]),(28,[(3,.bool fun _=>false,[])])] Tryz.func141 (fun _=>?_);(any_goals ((with_reducible refine wI ?_);cbv;(try dsimp only [nc] at *);(repeat' (with_reducible first|exact aO|exact oN|refine oC ?_ ?_|refine VC.mk rfl ?_ ?_ ?_|(apply Ca.mk<;>intro _)|(apply Cv.mk<;>intro zq<;>(try simp only [nc,cl] at zq)<;>(try simp only [bl,dl] at zq)<;>(revert zq;intro _))|((first|apply xE|apply uE);cbv;(try dsimp only [nc] at *)))))))
    all_goals (try (exfalso;omega))
    all_goals (try (have h10:=h1 (by omega)))
    (any_goals ((with_reducible refine bZ ?_)<;>exact (FieldT_no e d t ht v.text hF)))
    all_goals (try (with_reducible refine sO (fun q=>?_);exact absurd q (by simp)))
    ((all_goals (try (with_reducible ((first|refine rE ?_|refine nE ?_);(focus (cbv;(try dsimp only [nc] at *);(try simp only [wl,nc]);(repeat' (with_reducible apply And.intro));all_goals (try exact wZ)))))));(all_goals (try ((with_reducible rw [aC]);(try simp only [wl,nc]);(repeat' (with_reducible apply And.intro));(all_goals (try exact cZ))))))
    · simp only [hasT]
      rw [if_pos (by omega)]
    · simp only [hasT]
      conv=>rhs;rw [if_neg (by omega),if_neg (by omega),if_neg (by omega),if_neg (by omega),if_neg (by omega),if_pos (by omega)]
      simp;intro;omega
theorem has_rec (e d c:Nat) (t:Ty) (v:V) (h8:t.kind=9) (ht:Ty.le e (d+1) t) (hv:V.le (c+1) v)
    (ih:v.kind=9→∀ x ∈ v.fields,hasTF t (bQ x.1)→Af Tryz.prog 141 [encT e d .any fun _=>fT (gT t (bQ x.1)),encV c .any fun _=>x.2] [] (.bool fun _=>hasT d (fT (gT t (bQ x.1))) x.2) []) :
    Af Tryz.prog 141 [encT e (d+1) .any fun _=>t,encV (c+1) .any fun _=>v] [] (.bool fun _=>hasT (d+1) t v) []:=by
  have hl:=ht.2.2.2.1
  have hvl:=hv.2.1
  (apply Af.of tF mF [.tmp 4] kp141 [(0,[(0,.nil,[]),(1,.nil,[])]),(8,[(6,.bool fun _=>false,[])]),(11,[(4,.bool fun _=>false,[])]),(12,[(7,.bool fun _=>false,[])]),(14,[(7,.bool fun _=>false,[])]),(16,[(7,.bool fun _=>false,[]),(12,.bool fun _=>false,[])]),(18,[(3,.tup [encTF e d .any fun _=>default,.bool fun _=>false],[])]),(19,[(8,.bool fun _=>false,[])]),(28,[(3,.bool fun _=>t.fields.any fun f=>decide (findI v (fM f)<0) && fN f != 2,[])])] Tryz.func141 (fun _=>?_);(any_goals ((with_reducible refine wI ?_);cbv;(try dsimp only [nc] at *);(repeat' (with_reducible first|exact aO|exact oN|refine oC ?_ ?_|refine VC.mk rfl ?_ ?_ ?_|(apply Ca.mk<;>intro _)|(apply Cv.mk<;>intro zq<;>(try simp only [nc,cl] at zq)<;>(try simp only [bl,dl] at zq)<;>(revert zq;intro _))|((first|apply xE|apply uE);cbv;(try dsimp only [nc] at *)))))))
  all_goals (try (exfalso;omega))
  ((all_goals (try (with_reducible ((first|refine rE ?_|refine nE ?_);(focus (cbv;(try dsimp only [nc] at *);(try simp only [wl,nc]);(repeat' (with_reducible apply And.intro));all_goals (try exact wZ)))))));(all_goals (try ((with_reducible rw [aC]);(try simp only [wl,nc]);(repeat' (with_reducible apply And.intro));(all_goals (try exact cZ))))))
  · simp only [hasT]
    rw [if_pos (by omega)]
  have h9:v.kind=9:=by omega
  obtain ⟨P,hP⟩:∃ P:ByteArray×V→Bool,P=fun x=>decide (0≤iI (bQ x.1) t.fields) && hasT d (fT (gT t (bQ x.1))) x.2:=⟨_,rfl⟩
  have hres:hasT (d+1) t v=(v.fields.all P && !(t.fields.any fun f=>decide (findI v (fM f)<0) && fN f != 2)):=by
    rw [hP];simp only [hasT]
    conv=>lhs;rw [if_neg (by omega),if_neg (by omega),if_neg (by omega),if_neg (by omega),if_neg (by omega),if_neg (by omega),if_pos (by omega)]
  rw [hres]
  refine .loop (fun i:Nat=>⟨134,[(107,.int .i64 fun _=>i),(106,.int .i64 fun _=>v.fields.length),(105,.slc .any 7 (fun _=>v.fields.length) (fF c .any fun _=>v.fields)),(3,boxW (c+1) fun _=>v),(2,boxT e (d+1) fun _=>t)],[]⟩)
    (fun i=>i≤v.fields.length∧∀ j,j<i→P (v.fields.getD j default)=true) (fun i=>v.fields.length - i) 0 (by simp) ?_ fun i E hi=>?_
  · (focus (cbv;(try dsimp only [nc] at *);(try simp only [wl,nc]);(repeat' (with_reducible apply And.intro));all_goals (try exact wZ)))
  by_cases h:i<v.fields.length
  · obtain ⟨x,hx⟩:∃ x,x=v.fields.getD i default:=⟨_,rfl⟩
    have hxm:x ∈ v.fields:=by rw [hx];exact gD h
    by_cases hf:0≤iI (bQ x.1) t.fields
    · have hF:hasTF t (bQ x.1):=⟨.inl h8,hf⟩
      apply AWp.wk tF mF [(24,[(3,(.tup [encTF e d .any fun _=>gT t (bQ x.1),.bool fun _=>true]),[])]),(25,[(7,.bool fun _=>hasT d (fT (gT t (bQ x.1))) x.2,[])]),(28,[(3,.bool fun _=>t.fields.any fun f=>decide (findI v (fM f)<0) && fN f != 2,[])])] kp141 ?_
      (any_goals ((with_reducible refine wI ?_);cbv;(try dsimp only [nc] at *);(repeat' (with_reducible first|exact aO|exact oN|refine oC ?_ ?_|refine VC.mk rfl ?_ ?_ ?_|(apply Ca.mk<;>intro _)|(apply Cv.mk<;>intro zq<;>(try simp only [nc,cl] at zq)<;>(try simp only [bl,dl] at zq)<;>(revert zq;intro _))|((first|apply xE|apply uE);cbv;(try dsimp only [nc] at *))))))
      all_goals (try exact absurd h (Nat.not_lt.2 ‹v.fields.length≤i›))
      all_goals (try simp only [Int.toNat_natCast,← hx])
      (any_goals ((with_reducible refine bZ ?_);(try dsimp only);(have q:=(FieldT_yes e d t ht x.1 hF);refine Af.wN q ?_;clear q);(focus (cbv;(try dsimp only [nc] at *);(try simp only [wl,nc]);(repeat' (with_reducible apply And.intro));all_goals (try exact wZ)))))
      (any_goals ((with_reducible refine bZ ?_);(try dsimp only);(have q:=(ih h9 x hxm hF);refine Af.wN q ?_;clear q);(focus (cbv;(try dsimp only [nc] at *);(try simp only [wl,nc]);(repeat' (with_reducible apply And.intro));all_goals (try exact wZ)))))
      ((all_goals (try (with_reducible ((first|refine rE ?_|refine nE ?_);(focus (cbv;(try dsimp only [nc] at *);(try simp only [wl,nc]);(repeat' (with_reducible apply And.intro));all_goals (try exact wZ)))))));(all_goals (try ((with_reducible rw [aC]);(try simp only [wl,nc]);(repeat' (with_reducible apply And.intro));(all_goals (try exact cZ))))))
      · have hPx:P x=false:=by
          rw [hP];simp only [hf,decide_true,Bool.true_and]
          rcases ‹False∨_› with q|q
          · exact q.elim
          · exact q
        have:v.fields.all P=false:=List.all_eq_false.2 ⟨x,hxm,by rw [hPx];simp⟩
        rw [this];rfl
      · have hPx:P x=true:=by
          rw [hP];simp only [hf,decide_true,Bool.true_and]
          exact And.right ‹True∧_›
        refine dE (i+1) ⟨⟨by omega,fun j hj=>?_⟩,by omega⟩ ?_
        · rcases Nat.lt_succ_iff_lt_or_eq.1 hj with hj|rfl
          · exact hi.2 j hj
          · rw [← hx];exact hPx
        · (focus (cbv;(try dsimp only [nc] at *);(try simp only [wl,nc]);(repeat' (with_reducible apply And.intro));all_goals (try exact wZ)))
          exact w64n (by omega)
    · have hF:¬ hasTF t (bQ x.1):=fun q=>hf q.2
      apply AWp.wk tF mF [(24,[(3,(.tup [encTF e d .any fun _=>default,.bool fun _=>false]),[])]),(25,[(7,.bool fun _=>false,[])]),(28,[(3,.bool fun _=>t.fields.any fun f=>decide (findI v (fM f)<0) && fN f != 2,[])])] kp141 ?_
      (any_goals ((with_reducible refine wI ?_);cbv;(try dsimp only [nc] at *);(repeat' (with_reducible first|exact aO|exact oN|refine oC ?_ ?_|refine VC.mk rfl ?_ ?_ ?_|(apply Ca.mk<;>intro _)|(apply Cv.mk<;>intro zq<;>(try simp only [nc,cl] at zq)<;>(try simp only [bl,dl] at zq)<;>(revert zq;intro _))|((first|apply xE|apply uE);cbv;(try dsimp only [nc] at *))))))
      all_goals (try exact absurd h (Nat.not_lt.2 ‹v.fields.length≤i›))
      all_goals (try simp only [Int.toNat_natCast,← hx])
      (any_goals ((with_reducible refine bZ ?_);(try dsimp only);(have q:=(FieldT_no e d t ht x.1 hF);refine Af.wN q ?_;clear q);(focus (cbv;(try dsimp only [nc] at *);(try simp only [wl,nc]);(repeat' (with_reducible apply And.intro));all_goals (try exact wZ)))))
      all_goals (try (with_reducible refine sO (fun q=>?_);exact absurd q (by simp)))
      ((all_goals (try (with_reducible ((first|refine rE ?_|refine nE ?_);(focus (cbv;(try dsimp only [nc] at *);(try simp only [wl,nc]);(repeat' (with_reducible apply And.intro));all_goals (try exact wZ)))))));(all_goals (try ((with_reducible rw [aC]);(try simp only [wl,nc]);(repeat' (with_reducible apply And.intro));(all_goals (try exact cZ))))))
      · have hPx:P x=false:=by
          rw [hP];simp only [hf,decide_false,Bool.false_and]
        have:v.fields.all P=false:=List.all_eq_false.2 ⟨x,hxm,by rw [hPx];simp⟩
        rw [this];rfl
      · exact absurd (And.left ‹False∧False›) id
  · apply AWp.wk tF mF [(24,[(3,(.tup [encTF e d .any fun _=>default,.bool fun _=>false]),[])]),(25,[(7,.bool fun _=>false,[])]),(28,[(3,.bool fun _=>t.fields.any fun f=>decide (findI v (fM f)<0) && fN f != 2,[])])] kp141 ?_
    (any_goals ((with_reducible refine wI ?_);cbv;(try dsimp only [nc] at *);(repeat' (with_reducible first|exact aO|exact oN|refine oC ?_ ?_|refine VC.mk rfl ?_ ?_ ?_|(apply Ca.mk<;>intro _)|(apply Cv.mk<;>intro zq<;>(try simp only [nc,cl] at zq)<;>(try simp only [bl,dl] at zq)<;>(revert zq;intro _))|((first|apply xE|apply uE);cbv;(try dsimp only [nc] at *))))))
    all_goals (try exact absurd ‹i<v.fields.length› h)
    (any_goals ((with_reducible refine bZ ?_)<;>exact (ContainsTF_v2 e d (c+1) v 180 (fun f=>decide (findI v (fM f)<0) && fN f != 2) t.fields hl fun f _=>has2_ok e d c v hv f (by omega))))
    ((all_goals (try (with_reducible ((first|refine rE ?_|refine nE ?_);(focus (cbv;(try dsimp only [nc] at *);(try simp only [wl,nc]);(repeat' (with_reducible apply And.intro));all_goals (try exact wZ)))))));(all_goals (try ((with_reducible rw [aC]);(try simp only [wl,nc]);(repeat' (with_reducible apply And.intro));(all_goals (try exact cZ))))))
    have:v.fields.all P=true:=List.all_eq_true.2 fun x hx=>by
      obtain ⟨k,hk,hxk⟩:=List.getElem_of_mem hx
      have:=hi.2 k (by omega)
      rwa [List.getD_eq_getElem?_getD,List.getElem?_eq_getElem hk,hxk] at this
    rw [this];rfl
theorem Ty.ok_field {e d:Nat} {t:Ty} (h:Ty.ok e (d+1) t) (hk:t.kind=9∨t.kind=10) {f:TF} (hf:f ∈ t.fields):Ty.ok e d (fT f) :=
  h.2.1 _ (by simp only [pS];rw [if_neg (by omega),if_pos hk];exact List.mem_map_of_mem hf)
theorem Ty.ok_elem {e d:Nat} {t:Ty} (h:Ty.ok e (d+1) t) (hk:t.kind=8) {x:Ty} (hx:x ∈ t.elem):Ty.ok e d x :=
  h.2.1 _ (by simp only [pS];rw [if_pos hk];exact hx)
theorem ownT_elem {t:Ty} (h:ownT t=0) (hk:t.kind=8):t.elem.length=1:=by
  simp only [ownT] at h;grind
theorem getTF_mem {t:Ty} {p:TF→Bool} (h:0≤iI p t.fields):gT t p ∈ t.fields:=by
  have:=idxI_lt (p:=p) (l:=t.fields)
  refine gD ?_
  rcases Nat.lt_or_ge (iI p t.fields).toNat t.fields.length with q|q
  · exact q
  · omega
theorem V.ok_list {vs:ByteArray→Bool} {v:V} (h:ownE vs v=0) (hk:v.kind=10):v.list.length=1:=by
  unfold ownE at h
  split at h
  · cases h
  split at h
  · cases h
  split at h
  · cases h
  rw [ruleE10 hk] at h
  simp only [rule10,sizeE] at h
  grind
theorem has_ok (e:Nat):∀ (d c:Nat) (t:Ty) (v:V),Ty.le e d t→Ty.ok e d t→V.le c v→V.ok c v→Af Tryz.prog 141 [encT e d .any fun _=>t,encV c .any fun _=>v] [] (.bool fun _=>hasT d t v) []
  | 0,_,_,_,h,_,_,_=>h.elim
  | d + 1,c,t,v,ht,hto,hv,hvo=>by
    obtain ⟨c,rfl⟩:=V.lP hv
    by_cases h8:t.kind=8
    · have h1:=ownT_elem hto.1 h8
      have hx:t.elem.getD 0 default ∈ t.elem:=gD (by omega)
      exact has_list e d c t v h8 (by omega) ht hv.1 fun x hxl hvk =>
        has_ok e d c _ x (ht.2.2.2.2.1 _ hx) (Ty.ok_elem hto h8 hx) (hv.2.2.2.1 x hxl) (V.ok_kid hvo (by simp only [kz];rw [if_pos (.inl hvk)];exact hxl))
    by_cases h10:t.kind=10
    · have h1:v.kind=10→v.list.getD 0 default ∈ v.list:=fun hvk=>gD (by rw [V.ok_list (V.ok_self hvo) hvk];omega)
      exact has_var e d c t v h10 ht (fun hvk=>by rw [V.ok_list (V.ok_self hvo) hvk];omega) fun hvk hF =>
        has_ok e d c _ _ (ht.2.2.2.2.2 _ (getTF_mem hF.2)).2.2.2 (Ty.ok_field hto (.inr h10) (getTF_mem hF.2)) (hv.2.2.2.1 _ (h1 hvk)) (V.ok_kid hvo (by simp only [kz];rw [if_pos (.inr hvk)];exact h1 hvk))
    by_cases h9:t.kind=9
    · exact has_rec e d c t v h9 ht hv fun hvk x hx hF =>
        has_ok e d c _ _ (ht.2.2.2.2.2 _ (getTF_mem hF.2)).2.2.2 (Ty.ok_field hto (.inl h9) (getTF_mem hF.2)) (hv.2.2.2.2 _ hx).2 (V.ok_kid hvo (by simp only [kz];rw [if_neg (by omega),if_pos hvk];exact List.mem_map_of_mem (f:=(·.2)) hx))
    · exact has_flat e d (c+1) t v h8 h9 h10 ht
end Go.Ai
