/- Chapter 8: the reference's union of words. -/
import Derived.Test.YtalghhdapjmbbaaGreatDoorSubH
import Derived.Test.YtalghhdapjmbbaaGreatDoorSubQ
set_option linter.all false
namespace Go.Ai
open Go Go.Proofs
set_option maxRecDepth 100000
set_option maxHeartbeats 4000000
def candW (out:List ByteArray) (x:ByteArray):Prop:=∀ y ∈ out,ltS y x
def bestW (all out:List ByteArray) (i:Nat) (k:Int):Prop :=
  (k = -1∧∀ j,j<i→¬ candW out (all.getD j ⟨#[]⟩))∨∃ m:Nat,k=m∧m<i∧candW out (all.getD m ⟨#[]⟩)∧∀ j,j<i→candW out (all.getD j ⟨#[]⟩)→¬ ltS (all.getD j ⟨#[]⟩) (all.getD m ⟨#[]⟩)
structure UnInv (all out:List ByteArray):Prop where
  inc:IncW out
  sub:∀ x ∈ out,x ∈ all
  seg:∀ x ∈ all,x ∈ out∨candW out x
theorem less_iff {a b:ByteArray}:Op.bytesLess a.toList b.toList=true↔ltS a b:=by
  rw [bytesLess_lt,ByteArray.toList_eq,ByteArray.toList_eq,decide_eq_true_eq];exact Iff.rfl
theorem less_no {a b:ByteArray}:Op.bytesLess a.toList b.toList=false↔¬ ltS a b:=by
  rw [← less_iff];simp
theorem toL_inj {a b:ByteArray}:a.toList=b.toList↔a=b:=by
  rw [ByteArray.toList_eq,ByteArray.toList_eq]
  exact ⟨fun h=>bytes_ext h,fun h=>by rw [h]⟩
theorem cand_last {out:List ByteArray} {x:ByteArray} (h:IncW out) (h0:0<out.length):candW out x↔ltS (out.getD (out.length - 1) ⟨#[]⟩) x:=by
  have hl:out.length - 1<out.length:=by omega
  refine ⟨fun q=>q _ (gD hl),fun q y hy=>?_⟩
  obtain ⟨j,hj,rfl⟩:=List.getElem_of_mem hy
  rw [show out.getD (out.length - 1) ⟨#[]⟩=out[out.length - 1] by simp [List.getD,hl]] at q
  by_cases e:j=out.length - 1
  · subst e;exact q
  · exact ltS_trans (List.pairwise_iff_getElem.1 h j (out.length - 1) hj hl (by omega)) q
theorem best_take {all out:List ByteArray} {i:Nat} {k:Int} (h:bestW all out i k) (hc:candW out (all.getD i ⟨#[]⟩)) (hk:k<0∨ltS (all.getD i ⟨#[]⟩) (all.getD k.toNat ⟨#[]⟩)):bestW all out (i+1) i:=by
  refine .inr ⟨i,rfl,by omega,hc,fun j hj hcj q=>?_⟩
  by_cases e:j=i
  · subst e;exact ltS_irrefl _ q
  rcases h with ⟨h1,h2⟩|⟨m,h1,h2,h3,h4⟩
  · exact h2 j (by omega) hcj
  · rcases hk with hk|hk
    · omega
    · rw [h1,Int.toNat_natCast] at hk
      exact h4 j (by omega) hcj (ltS_trans q hk)
theorem best_skip {all out:List ByteArray} {i:Nat} {k:Int} (h:bestW all out i k) (hc:¬ candW out (all.getD i ⟨#[]⟩)∨(0≤k∧¬ ltS (all.getD i ⟨#[]⟩) (all.getD k.toNat ⟨#[]⟩))):bestW all out (i+1) k:=by
  rcases h with ⟨h1,h2⟩|⟨m,h1,h2,h3,h4⟩
  · refine .inl ⟨h1,fun j hj=>?_⟩
    by_cases e:j=i
    · subst e
      rcases hc with hc|hc
      · exact hc
      · omega
    · exact h2 j (by omega)
  · refine .inr ⟨m,h1,by omega,h3,fun j hj hcj=>?_⟩
    by_cases e:j=i
    · subst e
      rcases hc with hc|hc
      · exact absurd hcj hc
      · rw [h1,Int.toNat_natCast] at hc;exact hc.2
    · exact h4 j (by omega) hcj
theorem un_end {all out:List ByteArray} {k:Int} (hi:UnInv all out) (hb:bestW all out all.length k) (hk:k<0):out=unionW all:=by
  refine unionW_eq hi.inc fun x=>⟨hi.sub x,fun hx=>?_⟩
  rcases hi.seg x hx with q|q
  · exact q
  · rcases hb with ⟨_,h2⟩|⟨m,h1,_⟩
    · obtain ⟨j,hj,rfl⟩:=List.getElem_of_mem hx
      exact absurd (by rw [show all.getD j ⟨#[]⟩=all[j] by simp [List.getD,hj]];exact q) (h2 j hj)
    · omega
theorem un_step {all out:List ByteArray} {k:Int} (hi:UnInv all out) (hb:bestW all out all.length k) (hk:0≤k):UnInv all (out++[all.getD k.toNat ⟨#[]⟩]):=by
  rcases hb with ⟨h1,_⟩|⟨m,h1,h2,h3,h4⟩
  · omega
  rw [h1,Int.toNat_natCast]
  refine ⟨List.pairwise_append.2 ⟨hi.inc,by simp,fun y hy z hz=>?_⟩,fun x hx=>?_,fun x hx=>?_⟩
  · rw [List.mem_singleton] at hz;subst hz;exact h3 y hy
  · rcases List.mem_append.1 hx with q|q
    · exact hi.sub x q
    · rw [List.mem_singleton] at q;subst q;exact gD h2
  · rcases hi.seg x hx with q|q
    · exact .inl (List.mem_append_left _ q)
    · obtain ⟨j,hj,e⟩:=List.getElem_of_mem hx
      have e2:all.getD j ⟨#[]⟩=x:=by rw [← e];simp [List.getD,hj]
      have h5:=h4 j hj (by rw [e2];exact q)
      rw [e2] at h5
      rcases ltS_tri x (all.getD m ⟨#[]⟩) with w|w|w
      · exact absurd w h5
      · exact .inl (List.mem_append_right _ (by rw [w];simp))
      · refine .inr fun y hy=>?_
        rcases List.mem_append.1 hy with q2|q2
        · exact q y q2
        · rw [List.mem_singleton] at q2;subst q2;exact w
theorem snoc_le (out:List ByteArray) (x:ByteArray):∀ k,k<out.length+1→LeL (catF (fun _=>out.length) (wordsF fun _=>out) (litArr [[AV.str fun _=>x]]) fun _=>k) (wordsF (fun _=>out++[x]) fun _=>k):=fun k hk=>by
  refine LeL.of_eq ?_
  unfold catF wordsF
  by_cases h:k<out.length
  · simp [h,List.getD,List.getElem?_append]
  · obtain rfl:k=out.length:=by omega
    simp [litArr,List.getD]
theorem union_ok (a b:List ByteArray) (ha:a.length≤1000) (hb:b.length≤1000) :
    Af Tryz.prog 28 [.slc .any 1 (fun _=>a.length) (wordsF fun _=>a),.slc .any 1 (fun _=>b.length) (wordsF fun _=>b)] [] (.slc .any 1 (fun _=>(unionW (a++b)).length) (wordsF fun _=>unionW (a++b))) []:=by
  obtain ⟨U,hU⟩:∃ U,U=unionW (a++b):=⟨_,rfl⟩
  obtain ⟨L,hL⟩:∃ L,L=a++b:=⟨_,rfl⟩
  rw [← hU]
  (apply Af.of tF mF [.tmp 4] kp28 [] Tryz.func28 (fun _=>?_);(any_goals ((with_reducible refine wI ?_);cbv;(try dsimp only [nc] at *);(repeat' (with_reducible first|exact aO|exact oN|refine oC ?_ ?_|refine VC.mk rfl ?_ ?_ ?_|(apply Ca.mk<;>intro _)|(apply Cv.mk<;>intro zq<;>(try simp only [nc,cl] at zq)<;>(try simp only [bl,dl] at zq)<;>(revert zq;intro _))|((first|apply xE|apply uE);cbv;(try dsimp only [nc] at *)))))))
  ((all_goals (try (with_reducible ((first|refine rE ?_|refine nE ?_);(focus (cbv;(try dsimp only [nc] at *);(try simp only [wl,nc]);(repeat' (with_reducible apply And.intro));all_goals (try exact wZ)))))));(all_goals (try ((with_reducible rw [aC]);(try simp only [wl,nc]);(repeat' (with_reducible apply And.intro));(all_goals (try exact cZ))))))
  have hLl:L.length=a.length+b.length:=by rw [hL,List.length_append]
  refine .loop (fun out:List ByteArray=>⟨62,[(6,.aref 61 0 fun _=>out.length),(5,.aref 9 0 fun _=>L.length)],[(9,.arr false 9 1 0 (fun _=>L.length) (wordsF fun _=>L)),(61,.arr false 9 1 0 (fun _=>out.length) (wordsF fun _=>out))]⟩)
    (UnInv L) (fun out=>L.length - out.length) [] ⟨List.Pairwise.nil,by simp,fun x _=>.inr (by simp [candW])⟩ ?_ fun out E hi=>?_
  · (focus (cbv;(try dsimp only [nc] at *);(try simp only [wl,nc]);(repeat' (with_reducible apply And.intro));all_goals (try exact wZ)))
    intro k hk
    have h1:=catW_le a b k (by omega)
    rw [← hL] at h1
    have e:catF (fun _=>0+a.length) (catF (fun _=>0) (litArr []) (wordsF fun _=>a)) (wordsF fun _=>b) (fun _=>k)=catF (fun _=>a.length) (wordsF fun _=>a) (wordsF fun _=>b) fun _=>k:=by
      have e0:∀ k,catF (fun _=>0) (litArr []) (wordsF fun _=>a) (fun _=>k)=wordsF (fun _=>a) fun _=>k:=fun k=>by unfold catF;simp
      show (if k<0+a.length then _ else _)=(if k<a.length then _ else _)
      rw [e0,Nat.zero_add]
    rw [e];exact h1
  have hol:out.length≤L.length:=nodup_few (inc_nodup hi.inc) hi.sub
  apply AWp.wk tF mF [] kp28 ?_
  (any_goals ((with_reducible refine wI ?_);cbv;(try dsimp only [nc] at *);(repeat' (with_reducible first|exact aO|exact oN|refine oC ?_ ?_|refine VC.mk rfl ?_ ?_ ?_|(apply Ca.mk<;>intro _)|(apply Cv.mk<;>intro zq<;>(try simp only [nc,cl] at zq)<;>(try simp only [bl,dl] at zq)<;>(revert zq;intro _))|((first|apply xE|apply uE);cbv;(try dsimp only [nc] at *))))))
  ((all_goals (try (with_reducible ((first|refine rE ?_|refine nE ?_);(focus (cbv;(try dsimp only [nc] at *);(try simp only [wl,nc]);(repeat' (with_reducible apply And.intro));all_goals (try exact wZ)))))));(all_goals (try ((with_reducible rw [aC]);(try simp only [wl,nc]);(repeat' (with_reducible apply And.intro));(all_goals (try exact cZ))))))
  refine .loop (fun p:Nat×Int=>⟨62,[(8,.int .i64 fun _=>p.1),(7,.int .i64 fun _=>p.2),(6,.aref 61 0 fun _=>out.length),(5,.aref 9 0 fun _=>L.length)],[(9,.arr false 9 1 0 (fun _=>L.length) (wordsF fun _=>L)),(61,.arr false 9 1 0 (fun _=>out.length) (wordsF fun _=>out))]⟩)
    (fun p=>p.1≤L.length∧bestW L out p.1 p.2) (fun p=>L.length - p.1) (0,-1) ⟨by omega,.inl ⟨rfl,by simp⟩⟩ ?_ fun p E hp=>?_
  · (focus (cbv;(try dsimp only [nc] at *);(try simp only [wl,nc]);(repeat' (with_reducible apply And.intro));all_goals (try exact wZ)))
  have hkl : -1≤p.2∧p.2<L.length:=by
    rcases hp.2 with ⟨h,_⟩|⟨m,h,h2,_⟩<;>omega
  apply AWp.wk tF mF [] kp28 ?_
  (any_goals ((with_reducible refine wI ?_);cbv;(try dsimp only [nc] at *);(repeat' (with_reducible first|exact aO|exact oN|refine oC ?_ ?_|refine VC.mk rfl ?_ ?_ ?_|(apply Ca.mk<;>intro _)|(apply Cv.mk<;>intro zq<;>(try simp only [nc,cl] at zq)<;>(try simp only [bl,dl] at zq)<;>(revert zq;intro _))|((first|apply xE|apply uE);cbv;(try dsimp only [nc] at *))))))
  ((all_goals (try (with_reducible ((first|refine rE ?_|refine nE ?_);(focus (cbv;(try dsimp only [nc] at *);(try simp only [wl,nc]);(repeat' (with_reducible apply And.intro));all_goals (try exact wZ)))))));(all_goals (try ((with_reducible rw [aC]);(try simp only [wl,nc]);(repeat' (with_reducible apply And.intro));(all_goals (try exact cZ))))))
  · rename_i hlt h
    have hc:candW out (L.getD p.1 ⟨#[]⟩):=by
      by_cases h0:out.length=0
      · rw [List.eq_nil_of_length_eq_zero h0];simp [candW]
      · rw [cand_last hi.inc (by omega)]
        rcases h.1 with q|⟨q1,q2⟩
        · omega
        · rw [w64 (by omega) (by omega),show ((out.length:Int) - 1).toNat=out.length - 1 by omega] at q1 q2
          have q3:=less_no.1 q1
          have q4:¬ _=_:=fun z=>q2 (toL_inj.2 z)
          rcases ltS_tri (L.getD p.1 ⟨#[]⟩) (out.getD (out.length - 1) ⟨#[]⟩) with w|w|w
          · exact absurd w q3
          · exact absurd w q4
          · exact w
    refine dE (p.1+1,(p.1:Int)) ?_ ?_
    · exact ⟨⟨by show p.1+1≤L.length;omega,best_take hp.2 hc (h.2.imp id less_iff.1)⟩,by show L.length - (p.1+1)<L.length - p.1;omega⟩
    (focus (cbv;(try dsimp only [nc] at *);(try simp only [wl,nc]);(repeat' (with_reducible apply And.intro));all_goals (try exact wZ)))
    exact w64n (by omega)
  · rename_i hlt h
    have hc:¬ candW out (L.getD p.1 ⟨#[]⟩)∨(0≤p.2∧¬ ltS (L.getD p.1 ⟨#[]⟩) (L.getD p.2.toNat ⟨#[]⟩)):=by
      rcases h with ⟨h0,q⟩|⟨h0,q⟩
      · left
        rw [cand_last hi.inc (by omega)]
        rw [w64 (by omega) (by omega),show ((out.length:Int) - 1).toNat=out.length - 1 by omega] at q
        intro z
        rcases q with q|q
        · exact ltS_asymm z (less_iff.1 q)
        · rw [toL_inj.1 q] at z;exact ltS_irrefl _ z
      · exact .inr ⟨h0,less_no.1 q⟩
    refine dE (p.1+1,p.2) ?_ ?_
    · exact ⟨⟨by show p.1+1≤L.length;omega,best_skip hp.2 hc⟩,by show L.length - (p.1+1)<L.length - p.1;omega⟩
    (focus (cbv;(try dsimp only [nc] at *);(try simp only [wl,nc]);(repeat' (with_reducible apply And.intro));all_goals (try exact wZ)))
    exact w64n (by omega)
  · have hil:p.1=L.length:=by omega
    have:=un_end hi (hil ▸ hp.2) ‹p.2<0›
    rw [hU,← hL,← this]
  · have hil:p.1=L.length:=by omega
    have:=un_end hi (hil ▸ hp.2) ‹p.2<0›
    rw [← hL,← this] at hU
    subst hU
    exact fun _ _=>LeL.of_eq rfl
  · have hil:p.1=L.length:=by omega
    have hn:=un_step hi (hil ▸ hp.2) ‹0≤p.2›
    have hnl:=nodup_few (inc_nodup hn.inc) hn.sub
    rw [List.length_append] at hnl
    refine dE (out++[L.getD p.2.toNat ⟨#[]⟩]) ⟨hn,by rw [List.length_append];simp at hnl ⊢;omega⟩ ?_
    (focus (cbv;(try dsimp only [nc] at *);(try simp only [wl,nc]);(repeat' (with_reducible apply And.intro));all_goals (try exact wZ)))
    all_goals (first|exact (by simp:out.length+1=(out++[L.getD p.2.toNat ⟨#[]⟩]).length)|exact snoc_le _ _)
theorem refJoin_step (e d:Nat) (s t:Ty) (hs:Ty.le e (d+1) s) (ht:Ty.le e (d+1) t) (hso:Ty.ok e (d+1) s) (hto:Ty.ok e (d+1) t)
    (ih:∀ x y,Ty.le e d x→Ty.le e d y→Ty.ok e d x→Ty.ok e d y→Af Tryz.prog 16 [encT e d .any fun _=>x,encT e d .any fun _=>y] [] (.tup [encT e d .any fun _=>(joinT d x y).1,.int .i64 fun _=>(joinT d x y).2]) []) :
    Af Tryz.prog 16 [encT e (d+1) .any fun _=>s,encT e (d+1) .any fun _=>t] [] (.tup [encT e (d+1) .any fun _=>(joinT (d+1) s t).1,.int .i64 fun _=>(joinT (d+1) s t).2]) []:=by
  have hsc:=fun k4:s.kind=4=>tok_scale hso.1 (by omega)
  have hq:=refEqualT_ok e (d+1) s t hs ht
  have hls:=fun (k8:s.kind=8)=>ownT_elem hso.1 k8
  have hlt:=fun (k8:s.kind=8) (kk:s.kind=t.kind)=>ownT_elem hto.1 (kk ▸ k8)
  have hbt:=fun (k8:s.kind=8) (kk:s.kind=t.kind)=>ownT_bnd hto.1 (.inr (.inr (kk ▸ k8))) (ownT_nowords hto.1 (by omega))
  have hr:=fun (k8:s.kind=8) (kk:s.kind=t.kind)=>ih (s.elem.getD 0 default) (t.elem.getD 0 default) (hs.2.2.2.2.1 _ (gD (by have:=hls k8;omega))) (ht.2.2.2.2.1 _ (gD (by have:=hlt k8 kk;omega))) (Ty.ok_elem0 hso k8) (Ty.ok_elem0 hto (kk ▸ k8))
  have hA:=refWordsT_ok e d s
  have hB:=refWordsT_ok e d t
  have hLs:=lengths_ok e d s hs
  have hLt:=lengths_ok e d t ht
  have hAl:=wordsJ_len s
  have hBl:=wordsJ_len t
  have hU:=fun (k4:s.kind=4) (kk:s.kind=t.kind)=>union_ok (wordsJ s) (wordsJ t) (by have:=(ownT_words hso.1 k4).1;omega) (by have:=(ownT_words hto.1 (kk ▸ k4)).1;omega)
  obtain ⟨J,hJ⟩:∃ J,J=(joinT (d+1) s t).1:=⟨_,rfl⟩
  obtain ⟨K,hK⟩:∃ K,K=(joinT (d+1) s t).2:=⟨_,rfl⟩
  rw [← hJ,← hK]
  obtain ⟨j,hj⟩:∃ j,j=(joinT d (s.elem.getD 0 default) (t.elem.getD 0 default)).1:=⟨_,rfl⟩
  obtain ⟨k,hk⟩:∃ k,k=(joinT d (s.elem.getD 0 default) (t.elem.getD 0 default)).2:=⟨_,rfl⟩
  rw [← hj,← hk] at hr
  simp only [joinT,← hj,← hk] at hJ hK
  have f1:s=t→J=s∧K=0:=fun q=>by rw [if_pos q] at hJ hK;exact ⟨hJ,hK⟩
  have f2:¬ s=t→(s.kind≠t.kind∨s.kind=9∨s.kind=10∨s.scale≠t.scale)→J=default∧K=18:=fun q b=>by rw [if_neg q,if_pos b] at hJ hK;exact ⟨hJ,hK⟩
  have f3:¬ s=t→¬ (s.kind≠t.kind∨s.kind=9∨s.kind=10∨s.scale≠t.scale)→s.kind=4→J=textJ s t∧K=0:=fun q b c=>by rw [if_neg q,if_neg b,if_pos c] at hJ hK;exact ⟨hJ,hK⟩
  have f4:¬ s=t→¬ (s.kind≠t.kind∨s.kind=9∨s.kind=10∨s.scale≠t.scale)→¬ s.kind=4→¬ s.kind=8→J=bndJ s t []∧K=0:=fun q b c g=>by rw [if_neg q,if_neg b,if_neg c,if_neg g] at hJ hK;exact ⟨hJ,hK⟩
  have f5:¬ s=t→¬ (s.kind≠t.kind∨s.kind=9∨s.kind=10∨s.scale≠t.scale)→s.kind=8→s.max=0→J=bndJ s t [t.elem.getD 0 default]∧K=0:=fun q b c g=>by rw [if_neg q,if_neg b,if_neg (by omega),if_pos c,if_pos g] at hJ hK;exact ⟨hJ,hK⟩
  have f6:¬ s=t→¬ (s.kind≠t.kind∨s.kind=9∨s.kind=10∨s.scale≠t.scale)→s.kind=8→¬ s.max=0→t.max=0→J=bndJ s t [s.elem.getD 0 default]∧K=0:=fun q b c g m=>by rw [if_neg q,if_neg b,if_neg (by omega),if_pos c,if_neg g,if_pos m] at hJ hK;exact ⟨hJ,hK⟩
  have f7:¬ s=t→¬ (s.kind≠t.kind∨s.kind=9∨s.kind=10∨s.scale≠t.scale)→s.kind=8→¬ s.max=0→¬ t.max=0→k≠0→J=default∧K=k:=fun q b c g m n=>by rw [if_neg q,if_neg b,if_neg (by omega),if_pos c,if_neg g,if_neg m,if_pos n] at hJ hK;exact ⟨hJ,hK⟩
  have f8:¬ s=t→¬ (s.kind≠t.kind∨s.kind=9∨s.kind=10∨s.scale≠t.scale)→s.kind=8→¬ s.max=0→¬ t.max=0→¬ k≠0→J=bndJ s t [j]∧K=0:=fun q b c g m n=>by rw [if_neg q,if_neg b,if_neg (by omega),if_pos c,if_neg g,if_neg m,if_neg n] at hJ hK;exact ⟨hJ,hK⟩
  have hTT:(0<(wordsJ s).length∧0<(wordsJ t).length)∧(unionW (wordsJ s++wordsJ t)).length≤64→textJ s t=.mk 4 0 0 0 (unionW (wordsJ s++wordsJ t)) [] []:=fun q=>by rw [textJ,if_pos q]
  have hTF:¬ ((0<(wordsJ s).length∧0<(wordsJ t).length)∧(unionW (wordsJ s++wordsJ t)).length≤64)→textJ s t=.mk 4 (Min.min (spanLo s) (spanLo t)) (Max.max (spanHi s) (spanHi t)) 0 [] [] []:=fun q=>by rw [textJ,if_neg q]
  clear hJ hK hj hk ih
  generalize unionW (wordsJ s++wordsJ t)=U at hU hTT hTF
  generalize wordsJ s=A at hA hU hAl hTT hTF
  generalize wordsJ t=B at hB hU hBl hTT hTF
  (apply Af.of tF mF [.cell 4 26,.tmp 5] kp16 [(1,[(2,.bool fun _=>decide (s=t),[])]),(12,[(8,.tup [encT e d .any fun _=>j,.int .i64 fun _=>k],[])]),
    (17,[(1,.tup [.slc .any 1 (fun _=>A.length) (wordsF fun _=>A),.bool fun _=>decide (0<A.length)],[])]),(18,[(1,.tup [.slc .any 1 (fun _=>B.length) (wordsF fun _=>B),.bool fun _=>decide (0<B.length)],[])]),(19,[(2,.slc .any 1 (fun _=>U.length) (wordsF fun _=>U),[])]),
    (22,[(1,.tup [.int .i64 fun _=>spanLo s,.int .i64 fun _=>spanHi s],[])]),(23,[(1,.tup [.int .i64 fun _=>spanLo t,.int .i64 fun _=>spanHi t],[])])] Tryz.func16 (fun _=>?_);(any_goals ((with_reducible refine wI ?_);cbv;(try dsimp only [nc] at *);(repeat' (with_reducible first|exact aO|exact oN|refine oC ?_ ?_|refine VC.mk rfl ?_ ?_ ?_|(apply Ca.mk<;>intro _)|(apply Cv.mk<;>intro zq<;>(try simp only [nc,cl] at zq)<;>(try simp only [bl,dl] at zq)<;>(revert zq;intro _))|((first|apply xE|apply uE);cbv;(try dsimp only [nc] at *)))))))
  (any_goals ((with_reducible refine bZ ?_);(try dsimp only);(have q:=hq;refine Af.wN q ?_;clear q);(focus (cbv;(try dsimp only [nc] at *);(try simp only [wl,nc]);(repeat' (with_reducible apply And.intro));all_goals (try exact wZ)))))
  any_goals (refine nO ?_;first
    | exact hr ‹s.kind=8› (by omega)
    | exact hU ‹s.kind=4› (by omega)
    | exact hA
    | exact hB
    | exact hLs
    | exact hLt)
  ((all_goals (try (with_reducible ((first|refine rE ?_|refine nE ?_);(focus (cbv;(try dsimp only [nc] at *);(try simp only [wl,nc]);(repeat' (with_reducible apply And.intro));all_goals (try exact wZ)))))));(all_goals (try ((with_reducible rw [aC]);(try simp only [wl,nc]);(repeat' (with_reducible apply And.intro));(all_goals (try exact cZ))))))
  all_goals (try (have:=hls ‹s.kind=8›;have:=hlt ‹s.kind=8› (by omega);omega))
  all_goals first
    | (have q:=f1 ‹s=t›;obtain ⟨rfl,rfl⟩:=q;(first|rfl|exact ifmin _ _|exact ifmax _ _|exact fun _ _=>LeL.of_eq rfl|exact row_one rfl (LeL.of_eq rfl)))
    | (have q:=f2 ‹¬s=t› (by omega);obtain ⟨rfl,rfl⟩:=q;(first|rfl|exact ifmin _ _|exact ifmax _ _|exact fun _ _=>LeL.of_eq rfl|exact row_one rfl (LeL.of_eq rfl)))
    | (have q:=f3 ‹¬s=t› (by omega) ‹s.kind=4›;have r:=hTT (by omega);rw [r] at q;obtain ⟨rfl,rfl⟩:=q;(first|rfl|exact ifmin _ _|exact ifmax _ _|exact fun _ _=>LeL.of_eq rfl|exact row_one rfl (LeL.of_eq rfl)))
    | (have q:=f3 ‹¬s=t› (by omega) ‹s.kind=4›;have r:=hTF (by omega);rw [r] at q;obtain ⟨rfl,rfl⟩:=q;first|(first|rfl|exact ifmin _ _|exact ifmax _ _|exact fun _ _=>LeL.of_eq rfl|exact row_one rfl (LeL.of_eq rfl))|exact ‹s.kind=4›|exact hsc ‹s.kind=4›)
    | (have q:=f4 ‹¬s=t› (by omega) ‹¬s.kind=4› ‹¬s.kind=8›;obtain ⟨rfl,rfl⟩:=q;(first|rfl|exact ifmin _ _|exact ifmax _ _|exact fun _ _=>LeL.of_eq rfl|exact row_one rfl (LeL.of_eq rfl)))
    | (have q:=f5 ‹¬s=t› (by omega) ‹s.kind=8› ‹s.max=0›;obtain ⟨rfl,rfl⟩:=q;(first|rfl|exact ifmin _ _|exact ifmax _ _|exact fun _ _=>LeL.of_eq rfl|exact row_one rfl (LeL.of_eq rfl)))
    | (have q:=f6 ‹¬s=t› (by omega) ‹s.kind=8› ‹¬s.max=0› (by have:=hbt ‹s.kind=8› (by omega);omega);obtain ⟨rfl,rfl⟩:=q;(first|rfl|exact ifmin _ _|exact ifmax _ _|exact fun _ _=>LeL.of_eq rfl|exact row_one rfl (LeL.of_eq rfl)))
    | (have q:=f7 ‹¬s=t› (by omega) ‹s.kind=8› ‹¬s.max=0› (by omega) (by omega);obtain ⟨rfl,h7⟩:=q;first|(first|rfl|exact ifmin _ _|exact ifmax _ _|exact fun _ _=>LeL.of_eq rfl|exact row_one rfl (LeL.of_eq rfl))|exact h7.symm)
    | (have q:=f8 ‹¬s=t› (by omega) ‹s.kind=8› ‹¬s.max=0› (by omega) (by omega);obtain ⟨rfl,rfl⟩:=q;(first|rfl|exact ifmin _ _|exact ifmax _ _|exact fun _ _=>LeL.of_eq rfl|exact row_one rfl (LeL.of_eq rfl)))
theorem refJoin_ok (e:Nat):∀ (d:Nat) (s t:Ty),Ty.le e d s→Ty.le e d t→Ty.ok e d s→Ty.ok e d t→Af Tryz.prog 16 [encT e d .any fun _=>s,encT e d .any fun _=>t] [] (.tup [encT e d .any fun _=>(joinT d s t).1,.int .i64 fun _=>(joinT d s t).2]) []
  | 0,_,_,h,_,_,_=>h.elim
  | d+1,s,t,hs,ht,hso,hto=>refJoin_step e d s t hs ht hso hto fun x y h1 h2 h3 h4=>refJoin_ok e d x y h1 h2 h3 h4
end Go.Ai
