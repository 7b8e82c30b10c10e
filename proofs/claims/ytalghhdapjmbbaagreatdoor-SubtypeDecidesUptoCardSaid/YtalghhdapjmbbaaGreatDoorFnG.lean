/- Chapter 4: Variant, Size, Depth, number. -/
import Derived.Test.YtalghhdapjmbbaaGreatDoorFnE
import Derived.Test.YtalghhdapjmbbaaGreatDoorFnB
set_option linter.all false
namespace Go.Ai
open Go Go.Proofs
set_option maxRecDepth 100000
set_option maxHeartbeats 2000000
def varV (s:ByteArray) (v:V):V:=.mk 10 0 0 s [v] []
theorem varV_le {d:Nat} {s:ByteArray} {v:V} (hs:s.size≤1073741824) (hv:V.le d v):V.le (d+1) (varV s v) :=
  ⟨by simp [varV,V.list],by simp [varV,V.fields],hs,fun x h=>by simp [varV,V.list] at h;subst h;exact hv,fun x h=>by simp [varV,V.fields] at h⟩
theorem preV_len:∀ (d:Nat) (l:Int) (v:V),(preV d l v).length=sV d v
  | 0,_,_=>rfl
  | d+1,l,v=>by
    simp only [preV,sV,List.length_cons,List.length_flatten,List.map_map]
    rw [Nat.add_comm]
    congr 2
    refine List.map_congr_left fun x _=>?_
    exact preV_len d (l+1) x
theorem one_key (a b:AO) (o:Nat) (ha:a.is:=by trivial) (hb:b.is:=by trivial):(oL [(3,a)] o).is↔(oL [(3,b)] o).is:=by
  simp only [oL]
  split
  · exact ⟨fun _=>hb,fun _=>ha⟩
  · exact Iff.rfl
theorem Size_ok (d:Nat) (v:V) (hv:V.le (d+1) v) (hd:d+1≤1073741824) (hs:sV (d+1) v≤4611686018427387904):Af Tryz.prog 78 [encV (d+1) .any fun _=>v] [] (.int .i64 fun _=>sV (d+1) v) []:=by
  (apply Af.of tF mF [.tmp 2] kp78 [(2,[(1,(preorder_ok d v).out)])] Tryz.func78 (fun _=>?_);(any_goals ((with_reducible refine wI ?_);cbv;(try dsimp only [nc] at *);(repeat' (with_reducible first|exact aO|exact oN|refine oC ?_ ?_|refine VC.mk rfl ?_ ?_ ?_|(apply Ca.mk<;>intro _)|(apply Cv.mk<;>intro zq<;>(try simp only [nc,cl] at zq)<;>(try simp only [bl,dl] at zq)<;>(revert zq;intro _))|((first|apply xE|apply uE);cbv;(try dsimp only [nc] at *)))))))
  (any_goals ((with_reducible refine bZ ?_)<;>exact (preorder_ok d v)))
  ((all_goals (try (with_reducible ((first|refine rE ?_|refine nE ?_);(focus (cbv;(try dsimp only [nc] at *);(try simp only [wl,nc]);(repeat' (with_reducible apply And.intro));all_goals (try exact wZ)))))));(all_goals (try ((with_reducible rw [aC]);(try simp only [wl,nc]);(repeat' (with_reducible apply And.intro));(all_goals (try exact cZ))))))
  have hx:∀ g:List (List AV),g <+: pre (d+1) 1 v→g.length≤sV (d+1) v:=fun g hg=>by
    have:=hg.length_le
    rw [pre_eq,List.length_map,preV_len] at this
    exact this
  refine LpVC.range 11 [(5,.func 146 [boxV (d+1) fun _=>v]),(3,.ptr 3 0)] (fun g=>[(3,.box [.int .i64 fun _=>(g.length:Int)])]) (fun _ g=>[(3,.box [.int .i64 fun _=>(g.length:Int)])])
    (fun _=>True) (fun _ _=>False) ?_ trivial rfl (LeL.of_eq rfl) (by cbv) (preorder1_ok (d+1) v hv hd) (fun _=>rfl) (fun _ _=>rfl) (fun g o=>one_key _ _ o) (fun e g o=>one_key _ _ o) (fun el hel=>?_) (fun g el hpre hI E' l=>?_) (fun E' hE' hI=>?_) (fun E' e pre hE' he hpre=>he.elim)
  · (focus (cbv;(try dsimp only [nc] at *);(try simp only [wl,nc]);(repeat' (with_reducible apply And.intro));all_goals (try exact wZ)))
  · rw [pre_eq] at hel
    obtain ⟨p,_,rfl⟩:=List.mem_map.1 hel
    rfl
  · obtain ⟨p,hp,rfl⟩:=pre_at hpre
    have hgl:=hx _ hpre
    have hglen:(g++[elE p]).length=g.length+1:=by simp
    generalize hg':g++[elE p]=g' at hgl hglen ⊢
    apply AWp.wk tF mF [] kp78 ?_
    (any_goals ((with_reducible refine wI ?_);cbv;(try dsimp only [nc] at *);(repeat' (with_reducible first|exact aO|exact oN|refine oC ?_ ?_|refine VC.mk rfl ?_ ?_ ?_|(apply Ca.mk<;>intro _)|(apply Cv.mk<;>intro zq<;>(try simp only [nc,cl] at zq)<;>(try simp only [bl,dl] at zq)<;>(revert zq;intro _))|((first|apply xE|apply uE);cbv;(try dsimp only [nc] at *))))))
    refine end_assign fun _ E''=>?_
    apply AWp.wk tF mF [] kp78 ?_
    (any_goals ((with_reducible refine wI ?_);cbv;(try dsimp only [nc] at *);(repeat' (with_reducible first|exact aO|exact oN|refine oC ?_ ?_|refine VC.mk rfl ?_ ?_ ?_|(apply Ca.mk<;>intro _)|(apply Cv.mk<;>intro zq<;>(try simp only [nc,cl] at zq)<;>(try simp only [bl,dl] at zq)<;>(revert zq;intro _))|((first|apply xE|apply uE);cbv;(try dsimp only [nc] at *))))))
    ((all_goals (try (with_reducible ((first|refine rE ?_|refine nE ?_);(focus (cbv;(try dsimp only [nc] at *);(try simp only [wl,nc]);(repeat' (with_reducible apply And.intro));all_goals (try exact wZ)))))));(all_goals (try ((with_reducible rw [aC]);(try simp only [wl,nc]);(repeat' (with_reducible apply And.intro));(all_goals (try exact cZ))))))
    refine end_next trivial ?_
    (focus (cbv;(try dsimp only [nc] at *);(try simp only [wl,nc]);(repeat' (with_reducible apply And.intro));all_goals (try exact wZ)))
    rw [hglen,w64n (by omega)]
  · have hseq:(pre (d+1) 1 v).length=sV (d+1) v:=by rw [pre_eq,List.length_map,preV_len]
    (any_goals ((with_reducible refine wI ?_);cbv;(try dsimp only [nc] at *);(repeat' (with_reducible first|exact aO|exact oN|refine oC ?_ ?_|refine VC.mk rfl ?_ ?_ ?_|(apply Ca.mk<;>intro _)|(apply Cv.mk<;>intro zq<;>(try simp only [nc,cl] at zq)<;>(try simp only [bl,dl] at zq)<;>(revert zq;intro _))|((first|apply xE|apply uE);cbv;(try dsimp only [nc] at *))))))
    rw [hseq]
    ((all_goals (try (with_reducible ((first|refine rE ?_|refine nE ?_);(focus (cbv;(try dsimp only [nc] at *);(try simp only [wl,nc]);(repeat' (with_reducible apply And.intro));all_goals (try exact wZ)))))));(all_goals (try ((with_reducible rw [aC]);(try simp only [wl,nc]);(repeat' (with_reducible apply And.intro));(all_goals (try exact cZ))))))
end Go.Ai
