/- Chapter 8: the least value of a type, kind by kind. -/
import Derived.Test.YtalghhdapjmbbaaGreatDoorWitA
import Derived.Test.YtalghhdapjmbbaaGreatDoorRec
set_option linter.all false
namespace Go.Ai
open Go Go.Proofs
set_option maxRecDepth 100000
set_option maxHeartbeats 4000000
theorem minmax (a b:Int):(if True then
      if a<if false=true then if b<0 then 0 else b else if 0<b then 0 else b then
        if false=true then if b<0 then 0 else b else if 0<b then 0 else b
      else a
    else
      if (if false=true then if b<0 then 0 else b else if 0<b then 0 else b)<a then
        if false=true then if b<0 then 0 else b else if 0<b then 0 else b
      else a)=Max.max a (Min.min b 0):=by
  simp only [if_true,Bool.false_eq_true,if_false]
  split<;>(split at *<;>omega)
theorem least_num (e d c:Nat) (t:Ty) (k:t.kind=2∨t.kind=3∨t.kind=6∨t.kind=7) :
    Af Tryz.prog 114 [encT e d .any fun _=>t] [] (encV (c+1) .any fun _=>.mk t.kind (Max.max t.min (Min.min t.max 0)) t.scale ⟨#[]⟩ [] []) []:=by
  rw [← minmax]
  rcases k with k|k|k|k <;>
  · rw [encT_kind k,k]
    (apply Af.of tF mF [.cell 2 33] kp114 [] Tryz.func114 (fun _=>?_);(any_goals ((with_reducible refine wI ?_);cbv;(try dsimp only [nc] at *);(repeat' (with_reducible first|exact aO|exact oN|refine oC ?_ ?_|refine VC.mk rfl ?_ ?_ ?_|(apply Ca.mk<;>intro _)|(apply Cv.mk<;>intro zq<;>(try simp only [nc,cl] at zq)<;>(try simp only [bl,dl] at zq)<;>(revert zq;intro _))|((first|apply xE|apply uE);cbv;(try dsimp only [nc] at *)))))))
    all_goals (try (exact absurd trivial ‹¬True›))
    all_goals (try (exfalso;omega))
    ((all_goals (try (with_reducible ((first|refine rE ?_|refine nE ?_);(focus (cbv;(try dsimp only [nc] at *);(try simp only [wl,nc]);(repeat' (with_reducible apply And.intro));all_goals (try exact wZ)))))));(all_goals (try ((with_reducible rw [aC]);(try simp only [wl,nc]);(repeat' (with_reducible apply And.intro));(all_goals (try exact cZ))))))
    all_goals rfl
theorem least_text (e d c:Nat) (t:Ty) (ht:Ty.le e (d+1) t) (k:t.kind=4) (hb:¬ 0<t.words.length→0≤t.min∧t.min≤1024) :
    Af Tryz.prog 114 [encT e (d+1) .any fun _=>t] [] (encV (c+1) .any fun _=>mkV 4 0 0 (if 0<t.words.length then t.words.getD 0 ⟨#[]⟩ else repS 97 t.min.toNat)) []:=by
  have hw:=ht.1
  have hR:=fun q=>Repeat_ok 97 t.min (hb q).1 (by have:=(hb q).2;omega)
  by_cases q:0<t.words.length
  · rw [if_pos q]
    rw [encT_kind k]
    (apply Af.of tF mF [.cell 2 33] kp114 [(9,[(4,encV (c+1) .any fun _=>mkV 4 0 0 (t.words.getD 0 ⟨#[]⟩),[])]),(10,[(2,.str fun _=>repS 97 t.min.toNat,[]),(3,encV (c+1) .any fun _=>mkV 4 0 0 (repS 97 t.min.toNat),[])])] Tryz.func114 (fun _=>?_);(any_goals ((with_reducible refine wI ?_);cbv;(try dsimp only [nc] at *);(repeat' (with_reducible first|exact aO|exact oN|refine oC ?_ ?_|refine VC.mk rfl ?_ ?_ ?_|(apply Ca.mk<;>intro _)|(apply Cv.mk<;>intro zq<;>(try simp only [nc,cl] at zq)<;>(try simp only [bl,dl] at zq)<;>(revert zq;intro _))|((first|apply xE|apply uE);cbv;(try dsimp only [nc] at *)))))))
    all_goals (try (exact absurd trivial ‹¬True›))
    all_goals (try (exfalso;omega))
    all_goals (try (exact absurd q (by omega)))
    any_goals (refine nO ?_;exact any_of (Text_ok _ _))
    ((all_goals (try (with_reducible ((first|refine rE ?_|refine nE ?_);(focus (cbv;(try dsimp only [nc] at *);(try simp only [wl,nc]);(repeat' (with_reducible apply And.intro));all_goals (try exact wZ)))))));(all_goals (try ((with_reducible rw [aC]);(try simp only [wl,nc]);(repeat' (with_reducible apply And.intro));(all_goals (try exact cZ))))))
  · have h1:=hR q
    rw [if_neg q]
    rw [encT_kind k]
    (apply Af.of tF mF [.cell 2 33] kp114 [(9,[(4,encV (c+1) .any fun _=>mkV 4 0 0 (t.words.getD 0 ⟨#[]⟩),[])]),(10,[(2,.str fun _=>repS 97 t.min.toNat,[]),(3,encV (c+1) .any fun _=>mkV 4 0 0 (repS 97 t.min.toNat),[])])] Tryz.func114 (fun _=>?_);(any_goals ((with_reducible refine wI ?_);cbv;(try dsimp only [nc] at *);(repeat' (with_reducible first|exact aO|exact oN|refine oC ?_ ?_|refine VC.mk rfl ?_ ?_ ?_|(apply Ca.mk<;>intro _)|(apply Cv.mk<;>intro zq<;>(try simp only [nc,cl] at zq)<;>(try simp only [bl,dl] at zq)<;>(revert zq;intro _))|((first|apply xE|apply uE);cbv;(try dsimp only [nc] at *)))))))
    all_goals (try (exact absurd trivial ‹¬True›))
    all_goals (try (exfalso;omega))
    all_goals (try (exact absurd (show 0<t.words.length by omega) q))
    any_goals (refine nO ?_;first|exact any_of (Text_ok _ _)|exact h1)
    ((all_goals (try (with_reducible ((first|refine rE ?_|refine nE ?_);(focus (cbv;(try dsimp only [nc] at *);(try simp only [wl,nc]);(repeat' (with_reducible apply And.intro));all_goals (try exact wZ)))))));(all_goals (try ((with_reducible rw [aC]);(try simp only [wl,nc]);(repeat' (with_reducible apply And.intro));(all_goals (try exact cZ))))))
theorem least_bytes (e d c:Nat) (t:Ty) (k:t.kind=5) (hb:0≤t.min∧t.min≤1024) :
    Af Tryz.prog 114 [encT e d .any fun _=>t] [] (encV (c+1) .any fun _=>mkV 5 0 0 (repS 0 t.min.toNat)) []:=by
  have hR:=Repeat_ok 0 t.min hb.1 (by omega)
  rw [encT_kind k]
  (apply Af.of tF mF [.cell 2 33] kp114 [(12,[(2,.str fun _=>repS 0 t.min.toNat,[]),(3,encV (c+1) .any fun _=>mkV 5 0 0 (repS 0 t.min.toNat),[])])] Tryz.func114 (fun _=>?_);(any_goals ((with_reducible refine wI ?_);cbv;(try dsimp only [nc] at *);(repeat' (with_reducible first|exact aO|exact oN|refine oC ?_ ?_|refine VC.mk rfl ?_ ?_ ?_|(apply Ca.mk<;>intro _)|(apply Cv.mk<;>intro zq<;>(try simp only [nc,cl] at zq)<;>(try simp only [bl,dl] at zq)<;>(revert zq;intro _))|((first|apply xE|apply uE);cbv;(try dsimp only [nc] at *)))))))
  all_goals (try (exact absurd trivial ‹¬True›))
  all_goals (try (exfalso;omega))
  any_goals (refine nO ?_;first|exact any_of (Bytes_ok _ _)|exact hR)
  ((all_goals (try (with_reducible ((first|refine rE ?_|refine nE ?_);(focus (cbv;(try dsimp only [nc] at *);(try simp only [wl,nc]);(repeat' (with_reducible apply And.intro));all_goals (try exact wZ)))))));(all_goals (try ((with_reducible rw [aC]);(try simp only [wl,nc]);(repeat' (with_reducible apply And.intro));(all_goals (try exact cZ))))))
theorem least_bool (e d c:Nat) (t:Ty) (k:t.kind=1):Af Tryz.prog 114 [encT e d .any fun _=>t] [] (encV (c+1) .any fun _=>mkV 1 0 0 ⟨#[]⟩) []:=by
  rw [encT_kind k]
  (apply Af.of tF mF [.cell 2 33] kp114 [] Tryz.func114 (fun _=>?_);(any_goals ((with_reducible refine wI ?_);cbv;(try dsimp only [nc] at *);(repeat' (with_reducible first|exact aO|exact oN|refine oC ?_ ?_|refine VC.mk rfl ?_ ?_ ?_|(apply Ca.mk<;>intro _)|(apply Cv.mk<;>intro zq<;>(try simp only [nc,cl] at zq)<;>(try simp only [bl,dl] at zq)<;>(revert zq;intro _))|((first|apply xE|apply uE);cbv;(try dsimp only [nc] at *)))))))
  all_goals (try (exact absurd trivial ‹¬True›))
  all_goals (try (exfalso;omega))
  ((all_goals (try (with_reducible ((first|refine rE ?_|refine nE ?_);(focus (cbv;(try dsimp only [nc] at *);(try simp only [wl,nc]);(repeat' (with_reducible apply And.intro));all_goals (try exact wZ)))))));(all_goals (try ((with_reducible rw [aC]);(try simp only [wl,nc]);(repeat' (with_reducible apply And.intro));(all_goals (try exact cZ))))))
  all_goals rfl
theorem least_var (e d c:Nat) (t:Ty) (k:t.kind=10) (ht:Ty.le e (d+1) t) (hl:0<t.fields.length) (v:V) (hv:V.le c v)
    (ih:Af Tryz.prog 114 [encT e d .any fun _=>fT (t.fields.getD 0 default)] [] (encV c .any fun _=>v) []) :
    Af Tryz.prog 114 [encT e (d+1) .any fun _=>t] [] (encV (c+1) .any fun _=>varV (fM (t.fields.getD 0 default)) v) []:=by
  have hfl:=ht.2.2.2.1
  have hn:=(ht.2.2.2.2.2 _ (gD (x:=default) hl)).1
  obtain ⟨f0,hf0⟩:∃ x,x=t.fields.getD 0 default:=⟨_,rfl⟩
  rw [← hf0] at ih hn ⊢
  rw [encT_kind k]
  have h00:Int.toNat 0=0:=rfl
  obtain ⟨c,rfl⟩:=V.lP hv
  (apply Af.of tF mF [.cell 2 33] kp114 [(21,[(10,encV (c+1) .any fun _=>v,[]),(11,encV (c+2) .any fun _=>varV (fM f0) v,[])])] Tryz.func114 (fun _=>?_);(any_goals ((with_reducible refine wI ?_);cbv;(try dsimp only [nc] at *);(repeat' (with_reducible first|exact aO|exact oN|refine oC ?_ ?_|refine VC.mk rfl ?_ ?_ ?_|(apply Ca.mk<;>intro _)|(apply Cv.mk<;>intro zq<;>(try simp only [nc,cl] at zq)<;>(try simp only [bl,dl] at zq)<;>(revert zq;intro _))|((first|apply xE|apply uE);cbv;(try dsimp only [nc] at *)))))))
  all_goals (try (exact absurd trivial ‹¬True›))
  all_goals (try (exfalso;omega))
  all_goals (try simp only [h00,← hf0])
  any_goals (refine nO ?_;first|exact ih|exact any_of (Variant_ok _ _ _ hn hv))
  ((all_goals (try (with_reducible ((first|refine rE ?_|refine nE ?_);(focus (cbv;(try dsimp only [nc] at *);(try simp only [wl,nc]);(repeat' (with_reducible apply And.intro));all_goals (try exact wZ)))))));(all_goals (try ((with_reducible rw [aC]);(try simp only [wl,nc]);(repeat' (with_reducible apply And.intro));(all_goals (try exact cZ))))))
theorem least_list (e d c:Nat) (t:Ty) (k:t.kind=8) (ht:Ty.le e (d+1) t) (hl:t.elem.length=1) (hb:0≤t.min∧t.min≤1024) (v:V) (hv:V.le c v)
    (ih:Af Tryz.prog 114 [encT e d .any fun _=>t.elem.getD 0 default] [] (encV c .any fun _=>v) []) :
    Af Tryz.prog 114 [encT e (d+1) .any fun _=>t] [] (encV (c+1) .any fun _=>lstV (List.replicate t.min.toNat v)) []:=by
  obtain ⟨x0,hx0⟩:∃ x,x=t.elem.getD 0 default:=⟨_,rfl⟩
  rw [← hx0] at ih
  rw [encT_kind k]
  have h00:Int.toNat 0=0:=rfl
  obtain ⟨c,rfl⟩:=V.lP hv
  obtain ⟨L,hL⟩:∃ L,L=List.replicate t.min.toNat v:=⟨_,rfl⟩
  have hLl:L.length=t.min.toNat:=by rw [hL,List.length_replicate]
  have hLv:V.le (c+2) (lstV L):=⟨by simp [lstV,V.list];omega,Nat.zero_le _,Nat.zero_le _,fun x hx=>by (simp only [lstV,V.list] at hx;rw [hL] at hx;rw [List.eq_of_mem_replicate hx];exact hv),fun _ h=>(by cases h)⟩
  have hLo:=List_own (c+1) L hLv false 0
  have hgl:∀ k,k<L.length→L.getD k default=v:=fun k hk=>by simp only [hL,List.getD_eq_getElem?_getD,List.getElem?_replicate];rw [if_pos (by rw [← hLl];exact hk)];rfl
  clear hLv hv
  rw [← hL]
  (apply Af.of tF mF [.cell 2 33] kp114 [(19,[(1,encV (c+2) .new fun _=>lstV L,[(1000,.arr false 33 6 0 (fun _=>L.length) (listF (c+1) .any fun _=>L))])])] Tryz.func114 (fun _=>?_);(any_goals ((with_reducible refine wI ?_);cbv;(try dsimp only [nc] at *);(repeat' (with_reducible first|exact aO|exact oN|refine oC ?_ ?_|refine VC.mk rfl ?_ ?_ ?_|(apply Ca.mk<;>intro _)|(apply Cv.mk<;>intro zq<;>(try simp only [nc,cl] at zq)<;>(try simp only [bl,dl] at zq)<;>(revert zq;intro _))|((first|apply xE|apply uE);cbv;(try dsimp only [nc] at *)))))))
  all_goals (try (exact absurd trivial ‹¬True›))
  all_goals (try (exfalso;omega))
  ((all_goals (try (with_reducible ((first|refine rE ?_|refine nE ?_);(focus (cbv;(try dsimp only [nc] at *);(try simp only [wl,nc]);(repeat' (with_reducible apply And.intro));all_goals (try exact wZ)))))));(all_goals (try ((with_reducible rw [aC]);(try simp only [wl,nc]);(repeat' (with_reducible apply And.intro));(all_goals (try exact cZ))))))
  refine .loop (fun i:Nat=>⟨118,[(50,.int .i64 fun _=>i),(49,.int .i64 fun _=>t.min),(3,.aref 59 0 fun _=>i),(2,.ptr 2 0),(1,.ptr 1 0)],
      [(1,.box (.int .i64 (fun _=>8) :: (cl' e (d+1) .any fun _=>t).tail)),(2,.box (cells 1 .any fun _=>default)),(59,.arr false 33 6 0 (fun _=>i) fun _=>cells (c+1) .any fun _=>v)]⟩)
    (fun i=>(i:Int)≤t.min) (fun i=>t.min.toNat - i) 0 (by simp;omega) ?_ fun i E hi=>?_
  · (focus (cbv;(try dsimp only [nc] at *);(try simp only [wl,nc]);(repeat' (with_reducible apply And.intro));all_goals (try exact wZ)))
  by_cases h:(i:Int)<t.min
  · apply AWp.wk tF mF [(17,[(5,encV (c+1) .any fun _=>v,[])])] kp114 ?_
    (any_goals ((with_reducible refine wI ?_);cbv;(try dsimp only [nc] at *);(repeat' (with_reducible first|exact aO|exact oN|refine oC ?_ ?_|refine VC.mk rfl ?_ ?_ ?_|(apply Ca.mk<;>intro _)|(apply Cv.mk<;>intro zq<;>(try simp only [nc,cl] at zq)<;>(try simp only [bl,dl] at zq)<;>(revert zq;intro _))|((first|apply xE|apply uE);cbv;(try dsimp only [nc] at *))))))
    all_goals (try (exfalso;omega))
    all_goals (try simp only [h00,← hx0])
    any_goals (refine nO ?_;exact ih)
    ((all_goals (try (with_reducible ((first|refine rE ?_|refine nE ?_);(focus (cbv;(try dsimp only [nc] at *);(try simp only [wl,nc]);(repeat' (with_reducible apply And.intro));all_goals (try exact wZ)))))));(all_goals (try ((with_reducible rw [aC]);(try simp only [wl,nc]);(repeat' (with_reducible apply And.intro));(all_goals (try exact cZ))))))
    refine dE (i+1) ⟨by omega,by omega⟩ ?_
    (focus (cbv;(try dsimp only [nc] at *);(try simp only [wl,nc]);(repeat' (with_reducible apply And.intro));all_goals (try exact wZ)))
    · exact w64n (by omega)
    · refine cat_le (n:=fun _=>i) (m:=1) (F:=fun _=>cells (c+1) .any fun _=>v) (fun k hk=>LeL.of_eq rfl) (fun k hk=>?_)
      have:k=0:=by omega
      subst this
      exact LeL.of_eq rfl
  · obtain rfl:i=L.length:=by omega
    apply AWp.wk tF mF [] kp114 ?_
    (any_goals ((with_reducible refine wI ?_);cbv;(try dsimp only [nc] at *);(repeat' (with_reducible first|exact aO|exact oN|refine oC ?_ ?_|refine VC.mk rfl ?_ ?_ ?_|(apply Ca.mk<;>intro _)|(apply Cv.mk<;>intro zq<;>(try simp only [nc,cl] at zq)<;>(try simp only [bl,dl] at zq)<;>(revert zq;intro _))|((first|apply xE|apply uE);cbv;(try dsimp only [nc] at *))))))
    all_goals (try (exfalso;omega))
    any_goals (refine nO ?_;dsimp only;refine Af.wN hLo ?_;(focus (cbv;(try dsimp only [nc] at *);(try simp only [wl,nc]);(repeat' (with_reducible apply And.intro));all_goals (try exact wZ))))
    ((all_goals (try (with_reducible ((first|refine rE ?_|refine nE ?_);(focus (cbv;(try dsimp only [nc] at *);(try simp only [wl,nc]);(repeat' (with_reducible apply And.intro));all_goals (try exact wZ)))))));(all_goals (try ((with_reducible rw [aC]);(try simp only [wl,nc]);(repeat' (with_reducible apply And.intro));(all_goals (try exact cZ))))))
    · exact fun k hk=>LeL.of_eq (by simp only [listF];rw [hgl k hk])
    · exact fun i _=>le_cells (c+1) fun _=>L.getD i default
    · exact fun i _=>(le_cells (c+1) fun _=>((lstV L).fields.getD i default).2).cons _
def ownF (c:Nat) (l:FL):AO:=.arr false 50 7 0 (fun _=>l.length) (fF c .any fun _=>l)
theorem Record_own (c:Nat) (l:FL) (hl:l.length≤1073741824) (hv:∀ x ∈ l,x.1.size≤1073741824∧V.le c x.2) :
    Af Tryz.prog 81 [.aref 1000 0 fun _=>l.length] [(1000,ownF c l)] (encV (c+1) .new fun _=>recV l) [(1000,ownF c l)]:=by
  refine (Record_ok c l hl hv).borrow ?_ (by simp [AV.pureL,slcF]) (fun av h=>?_) (pure_cells _ _ _) (fresh_encV _ _)
  · (focus (cbv;(try dsimp only [nc] at *);(try simp only [wl,nc]);(repeat' (with_reducible apply And.intro));all_goals (try exact wZ)))
  · simp at h;subst h
    exact .slc fun i _ av h=>by
      rcases List.mem_cons.1 h with rfl|h
      · exact .str _
      · exact nf_cells _ _ av h
theorem fld_cat {c:Nat} {l:FL} {a:ByteArray} {v:V}:∀ i,i<l.length+1→LeL (catF (fun _=>l.length) (fF c .any fun _=>l) (litArr [.str (fun _=>a) :: cells c .any fun _=>v]) fun _=>i) (fF c .any (fun _=>l++[(a,v)]) fun _=>i) :=
  cat_le (n:=fun _=>l.length) (m:=1) (F:=fF c .any fun _=>l++[(a,v)]) (fun k hk=>LeL.of_eq (by simp only [fF,List.getD_eq_getElem?_getD];rw [List.getElem?_append_left hk])) (fun k hk=>by
    have:k=0:=by omega
    subst this
    refine LeL.of_eq ?_
    simp only [fF,List.getD_eq_getElem?_getD]
    rw [List.getElem?_append_right (by omega)]
    simp
    rfl)
theorem least_rec (e d c:Nat) (t:Ty) (k:t.kind=9) (ht:Ty.le e (d+1) t) (hlen:t.fields.length≤64) (hec:e≤c) (hc:0<c) (F:Ty→V)
    (hF:∀ x ∈ t.fields,V.le c (F (fT x))∧Af Tryz.prog 114 [encT e d .any fun _=>fT x] [] (encV c .any fun _=>F (fT x)) [])
    (hd:∀ x ∈ t.fields,fN x=3→0<(fDef x).length) :
    Af Tryz.prog 114 [encT e (d+1) .any fun _=>t] [] (encV (c+1) .any fun _=>recV (leastL F t.fields)) []:=by
  have hYl:=leastL_len F t.fields
  have hYm:=leastL_mem (f:=F) (p:=fun x=>x.1.size≤1073741824∧V.le c x.2) t.fields fun x hx=>⟨⟨(ht.2.2.2.2.2 x hx).1,(hF x hx).1⟩,def_leV ht hx c hec hc⟩
  have hdl:=fun x hx=>def_leV ht (f:=x) hx c hec hc
  obtain ⟨Y,hY⟩:∃ Y,Y=leastL F t.fields:=⟨_,rfl⟩
  rw [← hY] at hYl hYm ⊢
  have hRo:=Record_own c Y (by omega) hYm
  have hfd:=ht.2.2.2.2.2
  have hfl:=ht.2.2.2.1
  obtain ⟨c,rfl⟩:∃ b,c=b+1:=⟨c - 1,by omega⟩
  rw [encT_kind k]
  clear hYm
  (apply Af.of tF mF [.cell 2 33] kp114 [(33,[(1,encV (c+2) .new fun _=>recV Y,[(1000,ownF (c+1) Y)])])] Tryz.func114 (fun _=>?_);(any_goals ((with_reducible refine wI ?_);cbv;(try dsimp only [nc] at *);(repeat' (with_reducible first|exact aO|exact oN|refine oC ?_ ?_|refine VC.mk rfl ?_ ?_ ?_|(apply Ca.mk<;>intro _)|(apply Cv.mk<;>intro zq<;>(try simp only [nc,cl] at zq)<;>(try simp only [bl,dl] at zq)<;>(revert zq;intro _))|((first|apply xE|apply uE);cbv;(try dsimp only [nc] at *)))))))
  all_goals (try (exact absurd trivial ‹¬True›))
  all_goals (try (exfalso;omega))
  ((all_goals (try (with_reducible ((first|refine rE ?_|refine nE ?_);(focus (cbv;(try dsimp only [nc] at *);(try simp only [wl,nc]);(repeat' (with_reducible apply And.intro));all_goals (try exact wZ)))))));(all_goals (try ((with_reducible rw [aC]);(try simp only [wl,nc]);(repeat' (with_reducible apply And.intro));(all_goals (try exact cZ))))))
  refine .loop (fun p:Nat×FL=>⟨118,[(82,.int .i64 fun _=>p.1),(81,.int .i64 fun _=>t.fields.length),(80,slcTF e d .any fun _=>t.fields),(4,.aref 98 0 fun _=>p.2.length),(2,.ptr 2 0)],
      [(2,.box (cells 1 .any fun _=>default)),(98,.arr false 50 7 0 (fun _=>p.2.length) (fF (c+1) .any fun _=>p.2))]⟩)
    (fun p=>p.1≤t.fields.length∧p.2.length≤p.1∧Y=p.2++leastL F (t.fields.drop p.1)) (fun p=>t.fields.length - p.1) (0,[]) ⟨Nat.zero_le _,Nat.le_refl _,by rw [hY,List.drop_zero];rfl⟩ ?_ fun p E hi=>?_
  · (focus (cbv;(try dsimp only [nc] at *);(try simp only [wl,nc]);(repeat' (with_reducible apply And.intro));all_goals (try exact wZ)))
  obtain ⟨i1,i2,i3⟩:=hi
  by_cases hlt:p.1<t.fields.length
  · obtain ⟨f,hf⟩:∃ f,f=t.fields.getD p.1 default:=⟨_,rfl⟩
    have hfm:f ∈ t.fields:=by rw [hf];exact gD hlt
    have hdr:t.fields.drop p.1=f :: t.fields.drop (p.1+1):=by
      rw [List.drop_eq_getElem_cons hlt,hf];simp [List.getD,hlt]
    rw [hdr,leastL] at i3
    obtain ⟨hFv,hFf⟩:=hF f hfm
    obtain ⟨z,hz⟩:∃ z,z=(fDef f).getD 0 default:=⟨_,rfl⟩
    have hd3:fN f=3→0<(fDef f).length:=hd f hfm
    have hCl:fN f=3→Af Tryz.prog 79 [encV e .any fun _=>z] [] (encV (c+1) .any fun _=>z) []:=fun q=>by
      rw [hz];exact clone_up ((hfd f hfm).2.2.1 _ (gD (hd3 q))) hec
    rw [← hz] at i3
    have h00:Int.toNat 0=0:=rfl
    obtain ⟨v,hv⟩:∃ v,v=F (fT f):=⟨_,rfl⟩
    rw [← hv] at i3 hFf
    clear hFv hdl hRo hF hfd
    apply AWp.wk tF mF [(29,[(5,encV (c+1) .any fun _=>v,[])]),(31,[(7,encV (c+1) .any fun _=>z,[])])] kp114 ?_
    (any_goals ((with_reducible refine wI ?_);cbv;(try dsimp only [nc] at *);(repeat' (with_reducible first|exact aO|exact oN|refine oC ?_ ?_|refine VC.mk rfl ?_ ?_ ?_|(apply Ca.mk<;>intro _)|(apply Cv.mk<;>intro zq<;>(try simp only [nc,cl] at zq)<;>(try simp only [bl,dl] at zq)<;>(revert zq;intro _))|((first|apply xE|apply uE);cbv;(try dsimp only [nc] at *))))))
    all_goals (try (exact absurd hlt (Nat.not_lt.2 ‹t.fields.length≤p.1›)))
    all_goals (try (have hq3:=hd3 (by rw [hf];exact ‹fN (t.fields.getD p.1 default)=3›)))
    all_goals (try simp only [Int.toNat_natCast,h00,← hf,← hz])
    any_goals (refine nO ?_;first|exact hFf|exact hCl (by rw [hf];assumption))
    ((all_goals (try (with_reducible ((first|refine rE ?_|refine nE ?_);(focus (cbv;(try dsimp only [nc] at *);(try simp only [wl,nc]);(repeat' (with_reducible apply And.intro));all_goals (try exact wZ)))))));(all_goals (try ((with_reducible rw [aC]);(try simp only [wl,nc]);(repeat' (with_reducible apply And.intro));(all_goals (try exact cZ))))))
    all_goals (try rw [← hf] at *)
    · rw [if_pos ‹fN f=1›] at i3
      refine dE (p.1+1,p.2++[(fM f,v)]) ⟨⟨by show p.1+1≤_;omega,by simp only [List.length_append,List.length_cons,List.length_nil];omega,by rw [i3,List.append_assoc];rfl⟩,by show t.fields.length - (p.1+1)<_;omega⟩ ?_
      (focus (cbv;(try dsimp only [nc] at *);(try simp only [wl,nc]);(repeat' (with_reducible apply And.intro));all_goals (try exact wZ)))
      · exact w64n (by omega)
      all_goals first
        | (simp;done)
        | exact fld_cat
    · rw [if_neg (by omega),if_pos ‹fN f=3›] at i3
      refine dE (p.1+1,p.2++[(fM f,z)]) ⟨⟨by show p.1+1≤_;omega,by simp only [List.length_append,List.length_cons,List.length_nil];omega,by rw [i3,List.append_assoc];rfl⟩,by show t.fields.length - (p.1+1)<_;omega⟩ ?_
      (focus (cbv;(try dsimp only [nc] at *);(try simp only [wl,nc]);(repeat' (with_reducible apply And.intro));all_goals (try exact wZ)))
      · exact w64n (by omega)
      all_goals first
        | (simp;done)
        | exact fld_cat
    · rw [if_neg ‹¬ fN f=1›,if_neg ‹¬ fN f=3›] at i3
      refine dE (p.1+1,p.2) ⟨⟨by show p.1+1≤_;omega,by show p.2.length≤p.1+1;omega,i3⟩,by show t.fields.length - (p.1+1)<_;omega⟩ ?_
      (focus (cbv;(try dsimp only [nc] at *);(try simp only [wl,nc]);(repeat' (with_reducible apply And.intro));all_goals (try exact wZ)))
      exact w64n (by omega)
  · have hp:p.1=t.fields.length:=by omega
    have hdn:t.fields.drop p.1=[]:=List.drop_eq_nil_iff.2 (by omega)
    rw [hdn,leastL,List.append_nil] at i3
    subst i3
    apply AWp.wk tF mF [] kp114 ?_
    (any_goals ((with_reducible refine wI ?_);cbv;(try dsimp only [nc] at *);(repeat' (with_reducible first|exact aO|exact oN|refine oC ?_ ?_|refine VC.mk rfl ?_ ?_ ?_|(apply Ca.mk<;>intro _)|(apply Cv.mk<;>intro zq<;>(try simp only [nc,cl] at zq)<;>(try simp only [bl,dl] at zq)<;>(revert zq;intro _))|((first|apply xE|apply uE);cbv;(try dsimp only [nc] at *))))))
    all_goals (try (exact absurd ‹p.1<t.fields.length› hlt))
    any_goals (refine nO ?_;dsimp only;exact hRo)
    ((all_goals (try (with_reducible ((first|refine rE ?_|refine nE ?_);(focus (cbv;(try dsimp only [nc] at *);(try simp only [wl,nc]);(repeat' (with_reducible apply And.intro));all_goals (try exact wZ)))))));(all_goals (try ((with_reducible rw [aC]);(try simp only [wl,nc]);(repeat' (with_reducible apply And.intro));(all_goals (try exact cZ))))))
    · exact fun i _=>le_cells _ _
    · exact fun i _=>(le_cells _ _).cons _
theorem least_ok (e:Nat):∀ (d:Nat) (t:Ty),Ty.le (e+1) d t→Ty.ok (e+1) d t→Af Tryz.prog 114 [encT (e+1) d .any fun _=>t] [] (encV (d+(e+1)) .any fun _=>leastV d t) []
  | 0,_,h,_=>h.elim
  | d + 1,t,ht,hto=>by
    have ih:=least_ok e d
    have hvl:=leastV_le (e+1) d
    rw [show d+1+(e+1)=d+(e+1)+1 by omega]
    simp only [leastV]
    by_cases c1:t.kind=2∨t.kind=3∨t.kind=6∨t.kind=7
    · rw [if_pos c1];exact least_num (e+1) (d+1) (d+(e+1)) t c1
    rw [if_neg c1]
    by_cases c4:t.kind=4
    · rw [if_pos c4]
      exact least_text (e+1) d (d+(e+1)) t ht c4 fun q=>by have:=ownT_bnd hto.1 (.inl c4) (by omega);omega
    rw [if_neg c4]
    by_cases c5:t.kind=5
    · rw [if_pos c5]
      exact least_bytes (e+1) (d+1) (d+(e+1)) t c5 (by have:=ownT_bnd hto.1 (.inr (.inl c5)) (ownT_nowords hto.1 (by omega));omega)
    rw [if_neg c5]
    by_cases c8:t.kind=8
    · rw [if_pos c8]
      have hl:=ownT_elem hto.1 c8
      have hx:=Ty.le_elem ht (i:=0) (by omega)
      have ho:=Ty.ok_elem0 hto c8
      exact least_list (e+1) d (d+(e+1)) t c8 ht hl (by have:=ownT_bnd hto.1 (.inr (.inr c8)) (ownT_nowords hto.1 (by omega));omega) _ (hvl _ ho hx) (ih _ hx ho)
    rw [if_neg c8]
    by_cases c10:t.kind=10
    · rw [if_pos c10]
      have hf:=ownT_vs hto.1 c10
      have hx:=Ty.le_field ht hf
      have ho:Ty.ok (e+1) d (fT (t.fields.getD 0 default)):=hto.2.1 _ (by simp only [pS];rw [if_neg c8,if_pos (.inr c10)];exact List.mem_map_of_mem (gD hf))
      exact least_var (e+1) d (d+(e+1)) t c10 ht hf _ (hvl _ ho hx) (ih _ hx ho)
    rw [if_neg c10]
    by_cases c9:t.kind=9
    · rw [if_pos c9]
      have hp:∀ x ∈ t.fields,Ty.ok (e+1) d (fT x):=fun x hx=>hto.2.1 _ (by simp only [pS];rw [if_neg c8,if_pos (.inl c9)];exact List.mem_map_of_mem hx)
      exact least_rec (e+1) d (d+(e+1)) t c9 ht (ownT_len hto.1 (.inl c9)) (by omega) (by omega) (leastV d) (fun x hx=>⟨hvl _ (hp x hx) (ht.2.2.2.2.2 x hx).2.2.2,ih _ (ht.2.2.2.2.2 x hx).2.2.2 (hp x hx)⟩) fun x hx=>ownT_def hto.1 c9 hx
    rw [if_neg c9]
    have hk:=ownT_kind hto.1
    have c0:t.kind=1:=by omega
    rw [c0]
    exact least_bool (e+1) (d+1) (d+(e+1)) t c0
noncomputable def lstW (e d:Nat) (t:Ty):V×Bool:=if chkT e d t=0 then (leastV d t,true) else (default,false)
theorem Least_ok (e d:Nat) (t:Ty) (he:e+1≤1073741824) (ht:Ty.le (e+1) d t):Af Tryz.prog 69 [encT (e+1) d .any fun _=>t] [] (.tup [encV (d+(e+1)) .any fun _=>(lstW (e+1) d t).1,.int .i64 fun _=>chkT (e+1) d t]) []:=by
  have h1:=schemaCheck_ok e d t he ht
  have h2:=fun q:chkT (e+1) d t=0=>least_ok e d t ht (chkT_ok ht q)
  obtain ⟨W,hW⟩:∃ W,W=(lstW (e+1) d t).1:=⟨_,rfl⟩
  rw [← hW]
  unfold lstW at hW
  have f1:chkT (e+1) d t=0→W=leastV d t:=fun q=>by rw [if_pos q] at hW;exact hW
  have f2:¬ chkT (e+1) d t=0→W=default:=fun q=>by rw [if_neg q] at hW;exact hW
  clear hW
  generalize chkT (e+1) d t=K at *
  obtain ⟨d,rfl⟩:=Ty.lP ht
  obtain ⟨c,hc⟩:∃ c,d+1+(e+1)=c+1:=⟨d+1+e,by omega⟩
  rw [hc]
  by_cases q:K=0
  · have h2q:=h2 q
    clear h2
    rw [hc] at h2q
    obtain rfl:=f1 q
    subst q
    generalize leastV (d+1) t=W at *
    (apply Af.of tF mF [.cell 2 33,.tmp 3] kp69 [(1,[(1,.int .i64 fun _=>0,[])]),(4,[(1,encV (c+1) .any fun _=>W,[])])] Tryz.func69 (fun _=>?_);(any_goals ((with_reducible refine wI ?_);cbv;(try dsimp only [nc] at *);(repeat' (with_reducible first|exact aO|exact oN|refine oC ?_ ?_|refine VC.mk rfl ?_ ?_ ?_|(apply Ca.mk<;>intro _)|(apply Cv.mk<;>intro zq<;>(try simp only [nc,cl] at zq)<;>(try simp only [bl,dl] at zq)<;>(revert zq;intro _))|((first|apply xE|apply uE);cbv;(try dsimp only [nc] at *)))))))
    all_goals (try (exact absurd trivial ‹¬True›))
    any_goals (refine nO ?_;first|exact h1|exact h2q)
    ((all_goals (try (with_reducible ((first|refine rE ?_|refine nE ?_);(focus (cbv;(try dsimp only [nc] at *);(try simp only [wl,nc]);(repeat' (with_reducible apply And.intro));all_goals (try exact wZ)))))));(all_goals (try ((with_reducible rw [aC]);(try simp only [wl,nc]);(repeat' (with_reducible apply And.intro));(all_goals (try exact cZ))))))
  · obtain rfl:=f2 q
    (apply Af.of tF mF [.cell 2 33,.tmp 3] kp69 [(1,[(1,.int .i64 fun _=>K,[])]),(4,[(1,encV (c+1) .any fun _=>default,[])])] Tryz.func69 (fun _=>?_);(any_goals ((with_reducible refine wI ?_);cbv;(try dsimp only [nc] at *);(repeat' (with_reducible first|exact aO|exact oN|refine oC ?_ ?_|refine VC.mk rfl ?_ ?_ ?_|(apply Ca.mk<;>intro _)|(apply Cv.mk<;>intro zq<;>(try simp only [nc,cl] at zq)<;>(try simp only [bl,dl] at zq)<;>(revert zq;intro _))|((first|apply xE|apply uE);cbv;(try dsimp only [nc] at *)))))))
    all_goals (try (exact absurd ‹K=0› q))
    any_goals (refine nO ?_;first|exact h1)
    ((all_goals (try (with_reducible ((first|refine rE ?_|refine nE ?_);(focus (cbv;(try dsimp only [nc] at *);(try simp only [wl,nc]);(repeat' (with_reducible apply And.intro));all_goals (try exact wZ)))))));(all_goals (try ((with_reducible rw [aC]);(try simp only [wl,nc]);(repeat' (with_reducible apply And.intro));(all_goals (try exact cZ))))))
    all_goals rfl
theorem lst_ok (e d:Nat) (t:Ty) (he:e+1≤1073741824) (ht:Ty.le (e+1) d t):Af Tryz.prog 37 [encT (e+1) d .any fun _=>t] [] (.tup [encV (d+(e+1)) .any fun _=>(lstW (e+1) d t).1,.bool fun _=>(lstW (e+1) d t).2]) []:=by
  have h1:=Least_ok e d t he ht
  have hb:(lstW (e+1) d t).2=decide (chkT (e+1) d t=0):=by
    unfold lstW;split
    · rw [decide_eq_true ‹_›]
    · rw [decide_eq_false ‹_›]
  rw [hb]
  generalize (lstW (e+1) d t).1=W at *
  generalize chkT (e+1) d t=K at *
  obtain ⟨d,rfl⟩:=Ty.lP ht
  obtain ⟨c,hc⟩:∃ c,d+1+(e+1)=c+1:=⟨d+1+e,by omega⟩
  rw [hc] at h1 ⊢
  (apply Af.of tF mF [.cell 2 33,.tmp 3] kp37 [(1,[(1,.tup [encV (c+1) .any fun _=>W,.int .i64 fun _=>K],[])])] Tryz.func37 (fun _=>?_);(any_goals ((with_reducible refine wI ?_);cbv;(try dsimp only [nc] at *);(repeat' (with_reducible first|exact aO|exact oN|refine oC ?_ ?_|refine VC.mk rfl ?_ ?_ ?_|(apply Ca.mk<;>intro _)|(apply Cv.mk<;>intro zq<;>(try simp only [nc,cl] at zq)<;>(try simp only [bl,dl] at zq)<;>(revert zq;intro _))|((first|apply xE|apply uE);cbv;(try dsimp only [nc] at *)))))))
  any_goals (refine nO ?_;exact h1)
  ((all_goals (try (with_reducible ((first|refine rE ?_|refine nE ?_);(focus (cbv;(try dsimp only [nc] at *);(try simp only [wl,nc]);(repeat' (with_reducible apply And.intro));all_goals (try exact wZ)))))));(all_goals (try ((with_reducible rw [aC]);(try simp only [wl,nc]);(repeat' (with_reducible apply And.intro));(all_goals (try exact cZ))))))
  all_goals (by_cases q:K=0<;>simp [q])
theorem lstW_le (e d:Nat) (t:Ty) (ht:Ty.le (e+1) d t):V.le (d+(e+1)) (lstW (e+1) d t).1:=by
  unfold lstW;split
  · exact leastV_le (e+1) d t (chkT_ok ht ‹_›) ht
  · rw [show d+(e+1)=d+e+1 by omega];exact default_leV _
end Go.Ai
