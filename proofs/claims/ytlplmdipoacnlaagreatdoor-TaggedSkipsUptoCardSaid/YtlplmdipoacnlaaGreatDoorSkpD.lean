/- Chapter 10: Unknown. -/
import Derived.Test.YtlplmdipoacnlaaGreatDoorDecB
import Derived.Test.YtlplmdipoacnlaaGreatDoorDecA
import Derived.Test.YtlplmdipoacnlaaGreatDoorTyD
set_option linter.all false
namespace Go.Ai
open Go Go.Proofs
set_option maxRecDepth 100000
set_option maxHeartbeats 4000000
def rowsI (l:Unit→List Int):(Unit→Nat)→List AV:=fun i=>[.int .i64 fun _=>(l ()).getD (i ()) 0]
def slcI (l:Unit→List Int):AV:=.slc .any 1 (fun _=>(l ()).length) (rowsI l)
def unkL (t:Ty) (l:PL):List Int:=(l.map Prod.fst).filter fun n=>decide (idxI (byNum n) t.fields<0)
def unkV (t:Ty) (u:ByteArray):List Int×Int:=if t.kind≠9 then ([],11) else if (partsV u).2.2≠0 then ([],(partsV u).2.2) else (unkL t (partsV u).1,0)
theorem rowsI_app {l:List Int} {a:Int}:∀ k,k<l.length+1→LeL (catF (fun _=>l.length) (rowsI fun _=>l) (litArr [[AV.int .i64 fun _=>a]]) fun _=>k) (rowsI (fun _=>l++[a]) fun _=>k):=by
  refine cat_le (n:=fun _=>l.length) (m:=1) (fun k hk=>LeL.of_eq ?_) (fun k hk=>LeL.of_eq ?_)
  · have hk:k<l.length:=hk
    simp only [rowsI,List.getD_eq_getElem?_getD,List.getElem?_append_left hk]
  · have:k=0:=by omega
    subst this
    simp [rowsI,litArr]
theorem Unknown_ok (e d:Nat) (t:Ty) (ht:Ty.le e (d+1) t) (u:ByteArray) (hu:u.size≤1073741824) (hl:(partsV u).2.2=0→(partsV u).1.length≤u.size) :
    Af Tryz.prog 32 [encT e (d+1) .any fun _=>t,.str fun _=>u] [] (.tup [slcI fun _=>(unkV t u).1,.int .i64 fun _=>(unkV t u).2]) []:=by
  have hP:=Parts_ok u hu
  obtain ⟨U,hU⟩:∃ U,U=unkV t u:=⟨_,rfl⟩
  have hUe:=hU
  unfold unkV at hUe
  obtain ⟨P,hPe⟩:∃ P,P=partsV u:=⟨_,rfl⟩
  rw [← hPe] at hP hl hUe
  rw [← hU]
  clear hU hPe
  (apply Af.of tF mF [.tmp 4,.tmp 5] kq32 [(3,[(1,.tup [slcP fun _=>P.1,.int .i64 fun _=>P.2.1,.int .i64 fun _=>P.2.2],[])])] Tryz.func32 (fun _=>?_);(any_goals ((with_reducible refine wI ?_);cbv;(try dsimp only [nc] at *);(repeat' (with_reducible first|exact aN.2 trivial|exact oN|refine oC ?_ ?_|refine VC.mk rfl ?_ ?_ ?_|refine Ca.mk (fun _=>?_) (fun _=>?_)|(refine Cv.mk ?_ ?_<;>intro zq<;>(try simp only [nc,cl] at zq)<;>(try simp only [bl,dl] at zq)<;>(revert zq;intro _))|((first|refine xE ?_|refine uE ?_);cbv;(try dsimp only [nc] at *)))))))
  (any_goals ((with_reducible first|refine nO ?_|refine sO (fun _=>?_))<;>exact hP))
  ((all_goals (try (with_reducible ((first|refine rE ?_|refine nE ?_);(focus (cbv;(try dsimp only [nc] at *);(try simp only [wl,nc]);(repeat' (with_reducible apply And.intro));all_goals (try exact wZ)))))));(all_goals (try ((with_reducible rw [aC]);(try simp only [wl,nc]);(repeat' (with_reducible apply And.intro));(all_goals (try exact cZ))))))
  · rw [hUe,if_pos ‹¬ t.kind=9›];rfl
  · rw [hUe,if_pos ‹¬ t.kind=9›]
  · rw [hUe,if_neg (fun z=>z ‹t.kind=9›),if_pos ‹¬ P.2.2=0›];rfl
  · rw [hUe,if_neg (fun z=>z ‹t.kind=9›),if_pos ‹¬ P.2.2=0›]
  rw [if_neg (fun z=>z ‹t.kind=9›),if_neg (fun z=>z ‹P.2.2=0›)] at hUe
  have hl:=hl ‹P.2.2=0›
  have hk9:=‹t.kind=9›
  refine .loop (fun p:Nat×List Int=>⟨48,[(28,.int .i64 fun _=>p.1),(27,.int .i64 fun _=>P.1.length),(26,slcP fun _=>P.1),(9,.aref 200 1 fun _=>p.2.length),(2,boxT e (d+1) fun _=>t)],[(200,.arr false 3 1 1 (fun _=>p.2.length) (rowsI fun _=>p.2))]⟩)
    (fun p=>p.1≤P.1.length∧p.2.length≤p.1∧U=(p.2++unkL t (P.1.drop p.1),0)) (fun p=>P.1.length - p.1) (0,[]) ⟨Nat.zero_le _,Nat.le_refl _,by rw [hUe];rfl⟩ ?_ fun p E hi=>?_
  · (focus (cbv;(try dsimp only [nc] at *);(try simp only [wl,nc]);(repeat' (with_reducible apply And.intro));all_goals (try exact wZ)))
  obtain ⟨i1,i2,i3⟩:=hi
  by_cases h:p.1<P.1.length
  · obtain ⟨x,hx⟩:∃ x,x=P.1.getD p.1 default:=⟨_,rfl⟩
    have hd:P.1.drop p.1=x :: P.1.drop (p.1+1):=by
      rw [List.drop_eq_getElem_cons h,hx,List.getD_eq_getElem?_getD,List.getElem?_eq_getElem h,Option.getD_some]
    rw [hd] at i3
    by_cases hh:idxI (byNum x.1) t.fields<0
    · have hN:=Numbered_no e d t ht x.1 (fun q=>by have:=q.2;omega)
      have i4:U=(p.2++[x.1]++unkL t (P.1.drop (p.1+1)),0):=by
        rw [i3];simp only [unkL,List.map_cons,List.filter_cons,hh,decide_true,if_true,List.append_assoc,List.cons_append,List.nil_append]
      apply AWp.wk tF mF [(10,[(3,.tup [encTF e d .any fun _=>default,.bool fun _=>false],[])])] kq32 ?_
      (any_goals ((with_reducible refine wI ?_);cbv;(try dsimp only [nc] at *);(repeat' (with_reducible first|exact aN.2 trivial|exact oN|refine oC ?_ ?_|refine VC.mk rfl ?_ ?_ ?_|refine Ca.mk (fun _=>?_) (fun _=>?_)|(refine Cv.mk ?_ ?_<;>intro zq<;>(try simp only [nc,cl] at zq)<;>(try simp only [bl,dl] at zq)<;>(revert zq;intro _))|((first|refine xE ?_|refine uE ?_);cbv;(try dsimp only [nc] at *))))))
      all_goals (try exact absurd h (Nat.not_lt.2 ‹P.1.length≤p.1›))
      all_goals (try simp only [Int.toNat_natCast,← hx] at *)
      (any_goals ((with_reducible first|refine nO ?_|refine sO (fun _=>?_))<;>exact hN))
      ((all_goals (try (with_reducible ((first|refine rE ?_|refine nE ?_);(focus (cbv;(try dsimp only [nc] at *);(try simp only [wl,nc]);(repeat' (with_reducible apply And.intro));all_goals (try exact wZ)))))));(all_goals (try ((with_reducible rw [aC]);(try simp only [wl,nc]);(repeat' (with_reducible apply And.intro));(all_goals (try exact cZ))))))
      refine dE (p.1+1,p.2++[x.1]) ⟨⟨by show p.1+1≤_;omega,by show (p.2++[x.1]).length≤p.1+1;rw [List.length_append];simp only [List.length_cons,List.length_nil];omega,i4⟩,by show _ - (p.1+1)<_ - p.1;omega⟩ ?_
      (focus (cbv;(try dsimp only [nc] at *);(try simp only [wl,nc]);(repeat' (with_reducible apply And.intro));all_goals (try exact wZ)))
      · exact w64n (by omega)
      all_goals first
        | (rw [List.length_append];rfl)
        | (rw [List.length_append];exact rowsI_app)
        | exact rowsI_app
        | trace_state
    · have hN:=Numbered_yes e d t ht x.1 ⟨.inl hk9,by omega⟩
      have i4:U=(p.2++unkL t (P.1.drop (p.1+1)),0):=by
        rw [i3];simp only [unkL,List.map_cons,List.filter_cons,hh,decide_false,Bool.false_eq_true,if_false]
      apply AWp.wk tF mF [(10,[(3,.tup [encTF e d .any fun _=>gT t (byNum x.1),.bool fun _=>true],[])])] kq32 ?_
      (any_goals ((with_reducible refine wI ?_);cbv;(try dsimp only [nc] at *);(repeat' (with_reducible first|exact aN.2 trivial|exact oN|refine oC ?_ ?_|refine VC.mk rfl ?_ ?_ ?_|refine Ca.mk (fun _=>?_) (fun _=>?_)|(refine Cv.mk ?_ ?_<;>intro zq<;>(try simp only [nc,cl] at zq)<;>(try simp only [bl,dl] at zq)<;>(revert zq;intro _))|((first|refine xE ?_|refine uE ?_);cbv;(try dsimp only [nc] at *))))))
      all_goals (try exact absurd h (Nat.not_lt.2 ‹P.1.length≤p.1›))
      all_goals (try simp only [Int.toNat_natCast,← hx] at *)
      (any_goals ((with_reducible first|refine nO ?_|refine sO (fun _=>?_))<;>exact hN))
      ((all_goals (try (with_reducible ((first|refine rE ?_|refine nE ?_);(focus (cbv;(try dsimp only [nc] at *);(try simp only [wl,nc]);(repeat' (with_reducible apply And.intro));all_goals (try exact wZ)))))));(all_goals (try ((with_reducible rw [aC]);(try simp only [wl,nc]);(repeat' (with_reducible apply And.intro));(all_goals (try exact cZ))))))
      refine dE (p.1+1,p.2) ⟨⟨by show p.1+1≤_;omega,by show p.2.length≤p.1+1;omega,i4⟩,by show _ - (p.1+1)<_ - p.1;omega⟩ ?_
      (focus (cbv;(try dsimp only [nc] at *);(try simp only [wl,nc]);(repeat' (with_reducible apply And.intro));all_goals (try exact wZ)))
      all_goals first
        | exact w64n (by omega)
        | trace_state
  · rw [List.drop_eq_nil_of_le (by omega)] at i3
    have i4:U=(p.2,0):=by rw [i3];simp [unkL]
    apply AWp.wk tF mF [(10,[(3,.any,[])])] kq32 ?_
    (any_goals ((with_reducible refine wI ?_);cbv;(try dsimp only [nc] at *);(repeat' (with_reducible first|exact aN.2 trivial|exact oN|refine oC ?_ ?_|refine VC.mk rfl ?_ ?_ ?_|refine Ca.mk (fun _=>?_) (fun _=>?_)|(refine Cv.mk ?_ ?_<;>intro zq<;>(try simp only [nc,cl] at zq)<;>(try simp only [bl,dl] at zq)<;>(revert zq;intro _))|((first|refine xE ?_|refine uE ?_);cbv;(try dsimp only [nc] at *))))))
    all_goals (try exact absurd ‹p.1<P.1.length› h)
    ((all_goals (try (with_reducible ((first|refine rE ?_|refine nE ?_);(focus (cbv;(try dsimp only [nc] at *);(try simp only [wl,nc]);(repeat' (with_reducible apply And.intro));all_goals (try exact wZ)))))));(all_goals (try ((with_reducible rw [aC]);(try simp only [wl,nc]);(repeat' (with_reducible apply And.intro));(all_goals (try exact cZ))))))
    all_goals rw [i4]
    all_goals (try exact fun i _=>LeL.of_eq rfl)
end Go.Ai
