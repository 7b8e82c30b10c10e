/- Chapter 8: how many parts a witness has. -/
import Derived.Test.YtalghhdapjmbbaaGreatDoorFnC
import Derived.Test.YtalghhdapjmbbaaGreatDoorTyA
import Derived.Test.YtalghhdapjmbbaaGreatDoorSubH
set_option linter.all false
namespace Go.Ai
open Go Go.Proofs
set_option maxRecDepth 100000
set_option maxHeartbeats 4000000
def cntV:Nat→V→Int→Int
  | 0,_,n=>n
  | d+1,v,n=>v.fields.foldl (fun a f=>cntV d f.2 a) (v.list.foldl (fun a x=>cntV d x a) (IntKind.i64.wrap (n+1)))
def cntO (n:Int):List (Nat×AO):=[(1001,.box [.int .i64 fun _=>n]),(1002,.box [.func 24 [.ptr 1001 0,.ptr 1002 0]])]
theorem count_step (d:Nat) (v:V) (n:Int) (hv:V.le (d+1) v) (ih:∀ x m,V.le d x→Af Tryz.prog 24 [encV d .any fun _=>x,.ptr 1001 0,.ptr 1002 0] (cntO m) (.tup []) (cntO (cntV d x m))) :
    Af Tryz.prog 24 [encV (d+1) .any fun _=>v,.ptr 1001 0,.ptr 1002 0] (cntO n) (.tup []) (cntO (cntV (d+1) v n)):=by
  have hl1:=hv.1
  have hl2:=hv.2.1
  obtain ⟨N,hN⟩:∃ N,N=cntV (d+1) v n:=⟨_,rfl⟩
  rw [← hN]
  (apply Af.of tF mF [] kp24 [] Tryz.func24 (fun _=>?_);(any_goals ((with_reducible refine wI ?_);cbv;(try dsimp only [nc] at *);(repeat' (with_reducible first|exact aO|exact oN|refine oC ?_ ?_|refine VC.mk rfl ?_ ?_ ?_|(apply Ca.mk<;>intro _)|(apply Cv.mk<;>intro zq<;>(try simp only [nc,cl] at zq)<;>(try simp only [bl,dl] at zq)<;>(revert zq;intro _))|((first|apply xE|apply uE);cbv;(try dsimp only [nc] at *)))))))
  ((all_goals (try (with_reducible ((first|refine rE ?_|refine nE ?_);(focus (cbv;(try dsimp only [nc] at *);(try simp only [wl,nc]);(repeat' (with_reducible apply And.intro));all_goals (try exact wZ)))))));(all_goals (try ((with_reducible rw [aC]);(try simp only [wl,nc]);(repeat' (with_reducible apply And.intro));(all_goals (try exact cZ))))))
  obtain ⟨A,hA⟩:∃ A:Nat→Int,A=fun i=>(v.list.take i).foldl (fun a x=>cntV d x a) (IntKind.i64.wrap (n+1)):=⟨_,rfl⟩
  have hA1:∀ i,i<v.list.length→A (i+1)=cntV d (v.list.getD i default) (A i):=fun i hi=>by
    rw [hA]
    simp only
    rw [List.take_succ_eq_append_getElem hi,List.foldl_append]
    simp [List.getD,hi]
  refine .loop (fun i:Nat=>⟨33,[(13,.int .i64 fun _=>i),(12,.int .i64 fun _=>v.list.length),(11,.slc .any 6 (fun _=>v.list.length) (sub (d+1) .any (fun _=>v) true)),(3,.ptr 3 0),(2,.ptr 1002 0)],
      [(1001,.box [.int .i64 fun _=>A i]),(1002,.box [.func 24 [.ptr 1001 0,.ptr 1002 0]]),(3,.box (cells (d+1) .any fun _=>v))]⟩)
    (fun i=>i≤v.list.length) (fun i=>v.list.length - i) 0 (by simp) ?_ fun i E hi=>?_
  · (focus (cbv;(try dsimp only [nc] at *);(try simp only [wl,nc]);(repeat' (with_reducible apply And.intro));all_goals (try exact wZ)))
    rw [hA];rfl
  apply AWp.wk tF mF [(5,[(2,.tup [],cntO (A (i+1)))])] kp24 ?_
  (any_goals ((with_reducible refine wI ?_);cbv;(try dsimp only [nc] at *);(repeat' (with_reducible first|exact aO|exact oN|refine oC ?_ ?_|refine VC.mk rfl ?_ ?_ ?_|(apply Ca.mk<;>intro _)|(apply Cv.mk<;>intro zq<;>(try simp only [nc,cl] at zq)<;>(try simp only [bl,dl] at zq)<;>(revert zq;intro _))|((first|apply xE|apply uE);cbv;(try dsimp only [nc] at *))))))
  all_goals (try simp only [Int.toNat_natCast])
  any_goals (refine nO ?_)
  any_goals (rw [hA1 i ‹_›];exact ih (v.list.getD i default) (A i) (V.le_list hv ‹_›))
  ((all_goals (try (with_reducible ((first|refine rE ?_|refine nE ?_);(focus (cbv;(try dsimp only [nc] at *);(try simp only [wl,nc]);(repeat' (with_reducible apply And.intro));all_goals (try exact wZ)))))));(all_goals (try ((with_reducible rw [aC]);(try simp only [wl,nc]);(repeat' (with_reducible apply And.intro));(all_goals (try exact cZ))))))
  · refine dE (i+1) ⟨by omega,by omega⟩ ?_
    (focus (cbv;(try dsimp only [nc] at *);(try simp only [wl,nc]);(repeat' (with_reducible apply And.intro));all_goals (try exact wZ)))
    exact w64n (by omega)
  have hil:i=v.list.length:=by omega
  obtain ⟨B,hB⟩:∃ B:Nat→Int,B=fun i=>(v.fields.take i).foldl (fun a (f:ByteArray×V)=>cntV d f.2 a) (A v.list.length):=⟨_,rfl⟩
  have hB1:∀ i,i<v.fields.length→B (i+1)=cntV d (v.fields.getD i default).2 (B i):=fun i hi=>by
    rw [hB]
    simp only
    rw [List.take_succ_eq_append_getElem hi,List.foldl_append]
    simp [List.getD,hi]
  refine .loop (fun i:Nat=>⟨33,[(24,.int .i64 fun _=>i),(23,.int .i64 fun _=>v.fields.length),(22,.slc .any 7 (fun _=>v.fields.length) (sub (d+1) .any (fun _=>v) false)),(2,.ptr 1002 0)],
      [(1001,.box [.int .i64 fun _=>B i]),(1002,.box [.func 24 [.ptr 1001 0,.ptr 1002 0]])]⟩)
    (fun i=>i≤v.fields.length) (fun i=>v.fields.length - i) 0 (by simp) ?_ fun i E hi=>?_
  · (focus (cbv;(try dsimp only [nc] at *);(try simp only [wl,nc]);(repeat' (with_reducible apply And.intro));all_goals (try exact wZ)))
    rw [hB,hil];rfl
  apply AWp.wk tF mF [(10,[(3,.tup [],cntO (B (i+1)))])] kp24 ?_
  (any_goals ((with_reducible refine wI ?_);cbv;(try dsimp only [nc] at *);(repeat' (with_reducible first|exact aO|exact oN|refine oC ?_ ?_|refine VC.mk rfl ?_ ?_ ?_|(apply Ca.mk<;>intro _)|(apply Cv.mk<;>intro zq<;>(try simp only [nc,cl] at zq)<;>(try simp only [bl,dl] at zq)<;>(revert zq;intro _))|((first|apply xE|apply uE);cbv;(try dsimp only [nc] at *))))))
  all_goals (try simp only [Int.toNat_natCast])
  any_goals (refine nO ?_)
  any_goals (rw [hB1 i ‹_›];exact ih (v.fields.getD i default).2 (B i) (V.le_field hv ‹_›))
  ((all_goals (try (with_reducible ((first|refine rE ?_|refine nE ?_);(focus (cbv;(try dsimp only [nc] at *);(try simp only [wl,nc]);(repeat' (with_reducible apply And.intro));all_goals (try exact wZ)))))));(all_goals (try ((with_reducible rw [aC]);(try simp only [wl,nc]);(repeat' (with_reducible apply And.intro));(all_goals (try exact cZ))))))
  · refine dE (i+1) ⟨by omega,by omega⟩ ?_
    (focus (cbv;(try dsimp only [nc] at *);(try simp only [wl,nc]);(repeat' (with_reducible apply And.intro));all_goals (try exact wZ)))
    exact w64n (by omega)
  · rw [hN,cntV,hB,hA,show i=v.fields.length by omega]
    simp only [List.take_length]
theorem count_ok:∀ (d:Nat) (v:V) (n:Int),V.le d v→Af Tryz.prog 24 [encV d .any fun _=>v,.ptr 1001 0,.ptr 1002 0] (cntO n) (.tup []) (cntO (cntV d v n))
  | 0,_,_,h=>h.elim
  | d+1,v,n,hv=>count_step d v n hv fun x m hx=>count_ok d x m hx
noncomputable def witE (e d c:Nat) (s t:Ty) (v:V) (b:Bool):V×Int :=
  if chk2 e d s t≠0 then (default,chk2 e d s t) else if withinB d s t=true then (default,8) else if b=false then (default,9) else if 4096<cntV c v 0 then (default,9) else (v,0)
theorem Witness_of (e d c:Nat) (s t:Ty) (v:V) (b:Bool) (he:e+1≤1073741824) (hs:Ty.le (e+1) d s) (ht:Ty.le (e+1) d t) (hv:V.le c v)
    (hw:chk2 (e+1) d s t=0→withinB d s t=false→Af Tryz.prog 23 [encT (e+1) d .any fun _=>s,encT (e+1) d .any fun _=>t] [] (.tup [encV c .any fun _=>v,.bool fun _=>b]) []) :
    Af Tryz.prog 11 [encT (e+1) d .any fun _=>s,encT (e+1) d .any fun _=>t] [] (.tup [encV c .any fun _=>(witE (e+1) d c s t v b).1,.int .i64 fun _=>(witE (e+1) d c s t v b).2]) []:=by
  have h1:=check2_ok e d s t he hs ht
  have h2:=fun z:chk2 (e+1) d s t=0=>within_ok (e+1) d s t hs ht (chkT_ok hs (chk2_zero.1 z).1) (chkT_ok ht (chk2_zero.1 z).2)
  have h3:=count_ok c v 0 hv
  obtain ⟨Y,hY⟩:∃ Y,Y=(witE (e+1) d c s t v b).1:=⟨_,rfl⟩
  obtain ⟨X,hX⟩:∃ X,X=(witE (e+1) d c s t v b).2:=⟨_,rfl⟩
  rw [← hY,← hX]
  unfold witE at hY hX
  generalize chk2 (e+1) d s t=K at h1 h2 hw hY hX
  generalize withinB d s t=a at h2 hw hY hX
  generalize cntV c v 0=N at h3 hY hX
  have f1:K≠0→Y=default∧X=K:=fun q=>by rw [if_pos q] at hY hX;exact ⟨hY,hX⟩
  have f2:¬ K≠0→a=true→Y=default∧X=8:=fun q r=>by rw [if_neg q,if_pos r] at hY hX;exact ⟨hY,hX⟩
  have f3:¬ K≠0→¬ a=true→b=false→Y=default∧X=9:=fun q r g=>by rw [if_neg q,if_neg r,if_pos g] at hY hX;exact ⟨hY,hX⟩
  have f4:¬ K≠0→¬ a=true→¬ b=false→4096<N→Y=default∧X=9:=fun q r g m=>by rw [if_neg q,if_neg r,if_neg g,if_pos m] at hY hX;exact ⟨hY,hX⟩
  have f5:¬ K≠0→¬ a=true→¬ b=false→¬ 4096<N→Y=v∧X=0:=fun q r g m=>by rw [if_neg q,if_neg r,if_neg g,if_neg m] at hY hX;exact ⟨hY,hX⟩
  clear hY hX
  obtain ⟨d,rfl⟩:=Ty.lP hs
  obtain ⟨c,rfl⟩:=V.lP hv
  (apply Af.of tF mF [.cell 4 33,.tmp 5] kp11 [(1,[(2,.int .i64 fun _=>K,[])]),(4,[(2,.bool fun _=>a,[])]),(6,[(2,.tup [encV (c+1) .any fun _=>v,.bool fun _=>b],[])]),(12,[(2,.tup [],cntO N)])] Tryz.func11 (fun _=>?_);(any_goals ((with_reducible refine wI ?_);cbv;(try dsimp only [nc] at *);(repeat' (with_reducible first|exact aO|exact oN|refine oC ?_ ?_|refine VC.mk rfl ?_ ?_ ?_|(apply Ca.mk<;>intro _)|(apply Cv.mk<;>intro zq<;>(try simp only [nc,cl] at zq)<;>(try simp only [bl,dl] at zq)<;>(revert zq;intro _))|((first|apply xE|apply uE);cbv;(try dsimp only [nc] at *)))))))
  (any_goals ((with_reducible refine bZ ?_);(try dsimp only);(have q:=h1;refine Af.wN q ?_;clear q);(focus (cbv;(try dsimp only [nc] at *);(try simp only [wl,nc]);(repeat' (with_reducible apply And.intro));all_goals (try exact wZ)))))
  (any_goals ((with_reducible refine bZ ?_);(try dsimp only);(have q:=(h2 (by omega));refine Af.wN q ?_;clear q);(focus (cbv;(try dsimp only [nc] at *);(try simp only [wl,nc]);(repeat' (with_reducible apply And.intro));all_goals (try exact wZ)))))
  (any_goals ((with_reducible refine bZ ?_);(try dsimp only);(have q:=(hw (by omega) (by assumption));refine Af.wN q ?_;clear q);(focus (cbv;(try dsimp only [nc] at *);(try simp only [wl,nc]);(repeat' (with_reducible apply And.intro));all_goals (try exact wZ)))))
  (any_goals ((with_reducible refine bZ ?_);(try dsimp only);(have q:=h3;refine Af.wN q ?_;clear q);(focus (cbv;(try dsimp only [nc] at *);(try simp only [wl,nc]);(repeat' (with_reducible apply And.intro));all_goals (try exact wZ)))))
  ((all_goals (try (with_reducible ((first|refine rE ?_|refine nE ?_);(focus (cbv;(try dsimp only [nc] at *);(try simp only [wl,nc]);(repeat' (with_reducible apply And.intro));all_goals (try exact wZ)))))));(all_goals (try ((with_reducible rw [aC]);(try simp only [wl,nc]);(repeat' (with_reducible apply And.intro));(all_goals (try exact cZ))))))
  all_goals first
    | (have q:=f1 (by omega);obtain ⟨rfl,q⟩:=q;first|rfl|exact q.symm)
    | (have q:=f2 (by omega) ‹a=true›;obtain ⟨rfl,rfl⟩:=q;rfl)
    | (have q:=f3 (by omega) (by simp [*]) ‹b=false›;obtain ⟨rfl,rfl⟩:=q;rfl)
    | (have q:=f4 (by omega) (by simp [*]) (by simp [*]) (by omega);obtain ⟨rfl,rfl⟩:=q;rfl)
    | (have q:=f5 (by omega) (by simp [*]) (by simp [*]) (by omega);obtain ⟨rfl,rfl⟩:=q;first|rfl|exact fun _ _=>LeL.of_eq rfl)
def numT (a b:Int):Ty:=.mk 2 a b 0 [] [] []
def numV (x:Int):V:=.mk 2 x 0 ⟨#[]⟩ [] []
theorem numT_le (e d:Nat) (a b:Int):Ty.le e (d+1) (numT a b):=by simp [Ty.le,numT,Ty.words,Ty.elem,Ty.fields]
theorem numV_le (c:Nat) (x:Int):V.le (c+1) (numV x):=by simp [V.le,numV,V.list,V.fields,V.text];decide
theorem number_ok (e d:Nat) (a b:Int):Af Tryz.prog 19 [.int .i64 fun _=>a,.int .i64 fun _=>b] [] (encT e (d+1) .any fun _=>numT a b) []:=by
  (apply Af.of tF mF [.cell 4 26] kp19 [] Tryz.func19 (fun _=>?_);(any_goals ((with_reducible refine wI ?_);cbv;(try dsimp only [nc] at *);(repeat' (with_reducible first|exact aO|exact oN|refine oC ?_ ?_|refine VC.mk rfl ?_ ?_ ?_|(apply Ca.mk<;>intro _)|(apply Cv.mk<;>intro zq<;>(try simp only [nc,cl] at zq)<;>(try simp only [bl,dl] at zq)<;>(revert zq;intro _))|((first|apply xE|apply uE);cbv;(try dsimp only [nc] at *)))))))
  ((all_goals (try (with_reducible ((first|refine rE ?_|refine nE ?_);(focus (cbv;(try dsimp only [nc] at *);(try simp only [wl,nc]);(repeat' (with_reducible apply And.intro));all_goals (try exact wZ)))))));(all_goals (try ((with_reducible rw [aC]);(try simp only [wl,nc]);(repeat' (with_reducible apply And.intro));(all_goals (try exact cZ))))))
  all_goals rfl
theorem ownT_num (a b:Int):ownT (numT a b)=if a≤b ∧ -999999999999999≤a∧b≤999999999999999 then 0 else 2:=by
  have h1:(numT a b).kind=2∧(numT a b).min=a∧(numT a b).max=b∧(numT a b).scale=0∧(numT a b).words.length=0∧(numT a b).elem.length=0∧(numT a b).fields.length=0:=⟨rfl,rfl,rfl,rfl,rfl,rfl,rfl⟩
  obtain ⟨k,mn,mx,sc,w,l,f⟩:=h1
  unfold ownT formE
  rw [k,mn,mx,sc,w,l,f]
  simp [kLo,kHi,fI]
  by_cases h:a≤b ∧ -999999999999999≤a∧b≤999999999999999
  · rw [if_pos h,if_neg (by omega)]
  · rw [if_neg h,if_pos (by omega)]
theorem chkT_num (e d:Nat) (a b:Int):chkT (e+1) (d+1) (numT a b)=if a≤b ∧ -999999999999999≤a∧b≤999999999999999 then 0 else 2:=by
  have hown:=ownT_num a b
  have hg:greatT (e+1) (d+1) (numT a b)=1:=by
    rw [greatT_leaf rfl rfl,leastT_plain (t:=numT a b) (show (2:Int)≠8 by decide) (show (2:Int)≠9 by decide) (show (2:Int)≠10 by decide)]
  have hp:pS (numT a b)=[]:=rfl
  have hr:(runT (e+1) (d+1) 1 (numT a b) 4096).1=if a≤b ∧ -999999999999999≤a∧b≤999999999999999 then 0 else 2:=by
    simp only [runT]
    rw [if_neg (show ¬ (4096:Int)=0 by omega),if_neg (show ¬ (8:Int)<1 by omega)]
    by_cases h:a≤b ∧ -999999999999999≤a∧b≤999999999999999
    · rw [if_pos h] at hown ⊢
      rw [if_neg (by omega),hp];rfl
    · rw [if_neg h] at hown ⊢
      rw [if_pos (by omega)];exact hown
  unfold chkT
  rw [hg,hr]
  split<;>simp_all
def numW (s t:Ty):V:=.mk 2 (if s.min<t.min then s.min else s.max) s.scale ⟨#[]⟩ [] []
theorem witness2_ok (e d c:Nat) (s t:Ty) (ks:s.kind=2) (kt:t.kind=2):Af Tryz.prog 23 [encT e d .any fun _=>s,encT e d .any fun _=>t] [] (.tup [encV (c+1) .any fun _=>numW s t,.bool fun _=>true]) []:=by
  rw [encT_kind ks,encT_kind kt]
  (apply Af.of tF mF [.cell 4 33,.tmp 5] kp23 [] Tryz.func23 (fun _=>?_);(any_goals ((with_reducible refine wI ?_);cbv;(try dsimp only [nc] at *);(repeat' (with_reducible first|exact aO|exact oN|refine oC ?_ ?_|refine VC.mk rfl ?_ ?_ ?_|(apply Ca.mk<;>intro _)|(apply Cv.mk<;>intro zq<;>(try simp only [nc,cl] at zq)<;>(try simp only [bl,dl] at zq)<;>(revert zq;intro _))|((first|apply xE|apply uE);cbv;(try dsimp only [nc] at *)))))))
  all_goals (try (exact absurd trivial ‹¬True›))
  all_goals (try (exfalso;omega))
  all_goals (try (exfalso;(have q:=‹¬True∨(2:Int)=3∧¬s.scale=t.scale›);rcases q with q|q;exact q trivial;omega))
  ((all_goals (try (with_reducible ((first|refine rE ?_|refine nE ?_);(focus (cbv;(try dsimp only [nc] at *);(try simp only [wl,nc]);(repeat' (with_reducible apply And.intro));all_goals (try exact wZ)))))));(all_goals (try ((with_reducible rw [aC]);(try simp only [wl,nc]);(repeat' (with_reducible apply And.intro));(all_goals (try exact cZ))))))
  all_goals first
    | rfl
    | (unfold numW;rw [if_pos ‹_›];rfl)
    | (unfold numW;rw [if_neg (by omega)];rfl)
end Go.Ai
