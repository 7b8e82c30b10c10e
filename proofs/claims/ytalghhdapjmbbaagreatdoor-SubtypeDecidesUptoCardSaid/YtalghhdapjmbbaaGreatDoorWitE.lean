/- Chapter 8: witnesses of texts and lists. -/
import Derived.Test.YtalghhdapjmbbaaGreatDoorWitD
import Derived.Test.YtalghhdapjmbbaaGreatDoorWitC
set_option linter.all false
namespace Go.Ai
open Go Go.Proofs
set_option maxRecDepth 100000
set_option maxHeartbeats 4000000
theorem IndexS_c (e d:Nat) (t:Ty) (fn:FuncId) (p:ByteArray→Bool) (l:List ByteArray) (hl:l.length≤1073741824)
    (hc:∀ x ∈ l,Af Tryz.prog fn [.str fun _=>x,.ptr 1001 0] [(1001,.box (cl' e d .any fun _=>t))] (.bool fun _=>p x) [(1001,.box (cl' e d .any fun _=>t))]) :
    Af Tryz.prog 40 [.slc .any 1 (fun _=>l.length) (wordsF fun _=>l),.func fn [.ptr capP 0]] [(capP,.box (cl' e d .any fun _=>t))] (.int .i64 fun _=>iI p l) [(capP,.box (cl' e d .any fun _=>t))]:=by
  (apply Af.of tF mF [.tmp 4] kp40 [] Tryz.func40 (fun _=>?_);(any_goals ((with_reducible refine wI ?_);cbv;(try dsimp only [nc] at *);(repeat' (with_reducible first|exact aO|exact oN|refine oC ?_ ?_|refine VC.mk rfl ?_ ?_ ?_|(apply Ca.mk<;>intro _)|(apply Cv.mk<;>intro zq<;>(try simp only [nc,cl] at zq)<;>(try simp only [bl,dl] at zq)<;>(revert zq;intro _))|((first|apply xE|apply uE);cbv;(try dsimp only [nc] at *)))))))
  ((all_goals (try (with_reducible ((first|refine rE ?_|refine nE ?_);(focus (cbv;(try dsimp only [nc] at *);(try simp only [wl,nc]);(repeat' (with_reducible apply And.intro));all_goals (try exact wZ)))))));(all_goals (try ((with_reducible rw [aC]);(try simp only [wl,nc]);(repeat' (with_reducible apply And.intro));(all_goals (try exact cZ))))))
  refine .loop (fun i:Nat=>⟨19,[(8,.int .i64 fun _=>i),(7,.int .i64 fun _=>l.length),(1,.func fn [.ptr capP 0]),(0,.slc .any 1 (fun _=>l.length) (wordsF fun _=>l))],[(capP,.box (cl' e d .any fun _=>t))]⟩)
    (fun i=>i≤l.length∧∀ j,j<i→p (l.getD j ⟨#[]⟩)=false) (fun i=>l.length - i) 0 (by simp) ?_ fun i E hi=>?_
  · (focus (cbv;(try dsimp only [nc] at *);(try simp only [wl,nc]);(repeat' (with_reducible apply And.intro));all_goals (try exact wZ)))
  apply AWp.wk tF mF [(4,[(5,.bool (fun _=>?_),[(1001,.box (cl' e d .any fun _=>t))])])] kp40 ?_
  (any_goals ((with_reducible refine wI ?_);cbv;(try dsimp only [nc] at *);(repeat' (with_reducible first|exact aO|exact oN|refine oC ?_ ?_|refine VC.mk rfl ?_ ?_ ?_|(apply Ca.mk<;>intro _)|(apply Cv.mk<;>intro zq<;>(try simp only [nc,cl] at zq)<;>(try simp only [bl,dl] at zq)<;>(revert zq;intro _))|((first|apply xE|apply uE);cbv;(try dsimp only [nc] at *))))))
  (any_goals ((with_reducible refine bZ ?_)<;>exact (hc _ (getD_mem ‹_›))))
  ((all_goals (try (with_reducible ((first|refine rE ?_|refine nE ?_);(focus (cbv;(try dsimp only [nc] at *);(try simp only [wl,nc]);(repeat' (with_reducible apply And.intro));all_goals (try exact wZ)))))));(all_goals (try ((with_reducible rw [aC]);(try simp only [wl,nc]);(repeat' (with_reducible apply And.intro));(all_goals (try exact cZ))))))
  · exact (idxI_at ‹_› ‹_› hi.2).symm
  · refine dE (i+1) ⟨⟨by omega,fun j hj=>?_⟩,by omega⟩ ?_
    · rcases Nat.lt_succ_iff_lt_or_eq.1 hj with hj|rfl
      · exact hi.2 j hj
      · assumption
    · (focus (cbv;(try dsimp only [nc] at *);(try simp only [wl,nc]);(repeat' (with_reducible apply And.intro));all_goals (try exact wZ)))
      exact w64n (by omega)
  · exact (idxI_none fun j hj=>hi.2 j (by omega)).symm
theorem witness1_ok (e d:Nat) (t:Ty) (ht:Ty.le e (d+1) t) (w:ByteArray):Af Tryz.prog 41 [.str fun _=>w,.ptr 1001 0] [(1001,.box (cl' e (d+1) .any fun _=>t))] (.bool fun _=>!txtB t w) [(1001,.box (cl' e (d+1) .any fun _=>t))]:=by
  (apply Af.of tF mF [.tmp 3] kp41 [(1,[(2,.bool fun _=>txtB t w,[])])] Tryz.func41 (fun _=>?_);(any_goals ((with_reducible refine wI ?_);cbv;(try dsimp only [nc] at *);(repeat' (with_reducible first|exact aO|exact oN|refine oC ?_ ?_|refine VC.mk rfl ?_ ?_ ?_|(apply Ca.mk<;>intro _)|(apply Cv.mk<;>intro zq<;>(try simp only [nc,cl] at zq)<;>(try simp only [bl,dl] at zq)<;>(revert zq;intro _))|((first|apply xE|apply uE);cbv;(try dsimp only [nc] at *)))))))
  (any_goals ((with_reducible refine bZ ?_);(try dsimp only);(have q:=(hasW_ok e d t ht w);refine Af.wN q ?_;clear q);(focus (cbv;(try dsimp only [nc] at *);(try simp only [wl,nc]);(repeat' (with_reducible apply And.intro));all_goals (try exact wZ)))))
  ((all_goals (try (with_reducible ((first|refine rE ?_|refine nE ?_);(focus (cbv;(try dsimp only [nc] at *);(try simp only [wl,nc]);(repeat' (with_reducible apply And.intro));all_goals (try exact wZ)))))));(all_goals (try ((with_reducible rw [aC]);(try simp only [wl,nc]);(repeat' (with_reducible apply And.intro));(all_goals (try exact cZ))))))
def witT (s t:Ty):ByteArray:=if 0<s.words.length then s.words.getD (Max.max (iI (fun w=>!txtB t w) s.words) 0).toNat ⟨#[]⟩ else if 0<t.words.length then freeV s t else repS 97 (bndW s t).toNat
theorem cellsT_kind {e d:Nat} {fr:FB} {t:Ty} {k:Int} (h:t.kind=k):cl' e d fr (fun _=>t)=.int .i64 (fun _=>k) :: (cl' e d fr fun _=>t).tail:=by
  subst h;rfl
theorem max0 (j:Int):(if j<0 then 0 else j)=Max.max j 0:=by split<;>omega
theorem wit_text (e d c:Nat) (s t:Ty) (hs:Ty.le e (d+1) s) (ht:Ty.le e (d+1) t) (ks:s.kind=4) (kt:t.kind=4) (hb0:s.min≤1024) (hb:¬ 0<s.words.length→0≤s.min∧s.min≤s.max∧s.max≤1024) :
    Af Tryz.prog 23 [encT e (d+1) .any fun _=>s,encT e (d+1) .any fun _=>t] [] (.tup [encV (c+1) .any fun _=>mkV 4 0 0 (witT s t),.bool fun _=>true]) []:=by
  have hsw:=hs.1
  have htw:=ht.1
  have hI:=IndexS_c e (d+1) t 41 (fun w=>!txtB t w) s.words hsw fun w _=>witness1_ok e d t ht w
  have hF:=free_ok e d s t hs ht hb0
  have hb1:s.min<t.min→bndW s t=s.min:=fun q=>by unfold bndW;rw [if_pos q]
  have hb2:t.min≤s.min→bndW s t=s.max:=fun q=>by unfold bndW;rw [if_neg (by omega)]
  have hR:¬ 0<s.words.length→Af Tryz.prog 39 [.str fun _=>⟨#[97]⟩,.int .i64 fun _=>bndW s t] [] (.str fun _=>repS 97 (bndW s t).toNat) []:=fun q=>by
    have:=hb q
    exact Repeat_ok 97 (bndW s t) (by unfold bndW;split<;>omega) (by unfold bndW;split<;>omega)
  obtain ⟨j,hj⟩:∃ j,j=iI (fun w=>!txtB t w) s.words:=⟨_,rfl⟩
  have hjl:0<s.words.length→0≤Max.max j 0∧Max.max j 0<s.words.length:=fun q=>by
    have:j<s.words.length:=by rw [hj];unfold iI;split<;>omega
    omega
  have w1:0<s.words.length→witT s t=s.words.getD (Max.max j 0).toNat ⟨#[]⟩:=fun q=>by unfold witT;rw [if_pos q,hj]
  have w2:¬ 0<s.words.length→0<t.words.length→witT s t=freeV s t:=fun q r=>by unfold witT;rw [if_neg q,if_pos r]
  have w3:¬ 0<s.words.length→¬ 0<t.words.length→witT s t=repS 97 (bndW s t).toNat:=fun q r=>by unfold witT;rw [if_neg q,if_neg r]
  rw [← hj] at hI
  generalize witT s t=W at *
  generalize bndW s t=b at *
  have hT:=any_of (Text_ok W c)
  by_cases q1:0<s.words.length
  · obtain rfl:=w1 q1
    clear w1 w2 w3 hR hb1 hb2
    rw [cellsT_kind kt] at hI
    rw [encT_kind ks,encT_kind kt]
    (apply Af.of tF mF [.cell 4 33,.tmp 5] kp23 [(16,[(3,.int .i64 fun _=>j,[(capP,.box (.int .i64 (fun _=>4) :: (cl' e (d+1) .any fun _=>t).tail))])]),(17,[(6,encV (c+1) .any fun _=>mkV 4 0 0 (s.words.getD (Max.max j 0).toNat ⟨#[]⟩),[])])] Tryz.func23 (fun _=>?_);(any_goals ((with_reducible refine wI ?_);cbv;(try dsimp only [nc] at *);(repeat' (with_reducible first|exact aO|exact oN|refine oC ?_ ?_|refine VC.mk rfl ?_ ?_ ?_|(apply Ca.mk<;>intro _)|(apply Cv.mk<;>intro zq<;>(try simp only [nc,cl] at zq)<;>(try simp only [bl,dl] at zq)<;>(revert zq;intro _))|((first|apply xE|apply uE);cbv;(try dsimp only [nc] at *)))))))
    all_goals (try (exact absurd trivial ‹¬True›))
    all_goals (try (exfalso;omega))
    all_goals (try (exfalso;simp_all;done))
    all_goals (try simp only [if_true,max0])
    any_goals (refine nO ?_;first|exact hT|exact hI)
    ((all_goals (try (with_reducible ((first|refine rE ?_|refine nE ?_);(focus (cbv;(try dsimp only [nc] at *);(try simp only [wl,nc]);(repeat' (with_reducible apply And.intro));all_goals (try exact wZ)))))));(all_goals (try ((with_reducible rw [aC]);(try simp only [wl,nc]);(repeat' (with_reducible apply And.intro));(all_goals (try exact cZ))))))
    all_goals (exact hjl q1)
  by_cases q2:0<t.words.length
  · obtain rfl:=w2 q1 q2
    clear w1 w2 w3 hR hb1 hb2 hI hjl
    rw [encT_kind ks,encT_kind kt] at hF ⊢
    (apply Af.of tF mF [.cell 4 33,.tmp 5] kp23 [(16,[(3,.int .i64 fun _=>j,[(capP,.box (cl' e (d+1) .any fun _=>t))])]),(19,[(2,.str fun _=>freeV s t,[]),(3,encV (c+1) .any fun _=>mkV 4 0 0 (freeV s t),[])])] Tryz.func23 (fun _=>?_);(any_goals ((with_reducible refine wI ?_);cbv;(try dsimp only [nc] at *);(repeat' (with_reducible first|exact aO|exact oN|refine oC ?_ ?_|refine VC.mk rfl ?_ ?_ ?_|(apply Ca.mk<;>intro _)|(apply Cv.mk<;>intro zq<;>(try simp only [nc,cl] at zq)<;>(try simp only [bl,dl] at zq)<;>(revert zq;intro _))|((first|apply xE|apply uE);cbv;(try dsimp only [nc] at *)))))))
    all_goals (try (exact absurd trivial ‹¬True›))
    all_goals (try (exfalso;omega))
    all_goals (try (exfalso;simp_all;done))
    any_goals (refine nO ?_;first|exact hT|exact hF)
    ((all_goals (try (with_reducible ((first|refine rE ?_|refine nE ?_);(focus (cbv;(try dsimp only [nc] at *);(try simp only [wl,nc]);(repeat' (with_reducible apply And.intro));all_goals (try exact wZ)))))));(all_goals (try ((with_reducible rw [aC]);(try simp only [wl,nc]);(repeat' (with_reducible apply And.intro));(all_goals (try exact cZ))))))
  · obtain rfl:=w3 q1 q2
    have hRR:=hR q1
    clear w1 w2 w3 hR hI hjl hF
    rw [encT_kind ks,encT_kind kt]
    (apply Af.of tF mF [.cell 4 33,.tmp 5] kp23 [(16,[(3,.int .i64 fun _=>j,[(capP,.box (cl' e (d+1) .any fun _=>t))])]),(20,[(1,.str fun _=>repS 97 b.toNat,[]),(2,encV (c+1) .any fun _=>mkV 4 0 0 (repS 97 b.toNat),[])])] Tryz.func23 (fun _=>?_);(any_goals ((with_reducible refine wI ?_);cbv;(try dsimp only [nc] at *);(repeat' (with_reducible first|exact aO|exact oN|refine oC ?_ ?_|refine VC.mk rfl ?_ ?_ ?_|(apply Ca.mk<;>intro _)|(apply Cv.mk<;>intro zq<;>(try simp only [nc,cl] at zq)<;>(try simp only [bl,dl] at zq)<;>(revert zq;intro _))|((first|apply xE|apply uE);cbv;(try dsimp only [nc] at *)))))))
    all_goals (try (exact absurd trivial ‹¬True›))
    all_goals (try (exfalso;omega))
    all_goals (try (exfalso;simp_all;done))
    any_goals (refine nO ?_;first|exact hT|(rw [← hb1 ‹_›];exact hRR)|(rw [← hb2 ‹_›];exact hRR))
    ((all_goals (try (with_reducible ((first|refine rE ?_|refine nE ?_);(focus (cbv;(try dsimp only [nc] at *);(try simp only [wl,nc]);(repeat' (with_reducible apply And.intro));all_goals (try exact wZ)))))));(all_goals (try ((with_reducible rw [aC]);(try simp only [wl,nc]);(repeat' (with_reducible apply And.intro));(all_goals (try exact cZ))))))
theorem wit_off (e d:Nat) (s t:Ty) (he:e+1≤1073741824) (hs:Ty.le (e+1) d s) (ht:Ty.le (e+1) d t) (h:s.kind≠t.kind∨(s.kind=3∧s.scale≠t.scale)) :
    Af Tryz.prog 23 [encT (e+1) d .any fun _=>s,encT (e+1) d .any fun _=>t] [] (.tup [encV (d+(e+1)) .any fun _=>(lstW (e+1) d s).1,.bool fun _=>(lstW (e+1) d s).2]) []:=by
  have h1:=lst_ok e d s he hs
  generalize lstW (e+1) d s=W at h1 ⊢
  obtain ⟨d,rfl⟩:=Ty.lP hs
  obtain ⟨c,hc⟩:∃ c,d+1+(e+1)=c+1:=⟨d+1+e,by omega⟩
  rw [hc] at h1 ⊢
  by_cases h2:s.kind≠t.kind
  · (apply Af.of tF mF [.cell 4 33,.tmp 5] kp23 [(2,[(1,.tup [encV (c+1) .any fun _=>W.1,.bool fun _=>W.2],[])])] Tryz.func23 (fun _=>?_);(any_goals ((with_reducible refine wI ?_);cbv;(try dsimp only [nc] at *);(repeat' (with_reducible first|exact aO|exact oN|refine oC ?_ ?_|refine VC.mk rfl ?_ ?_ ?_|(apply Ca.mk<;>intro _)|(apply Cv.mk<;>intro zq<;>(try simp only [nc,cl] at zq)<;>(try simp only [bl,dl] at zq)<;>(revert zq;intro _))|((first|apply xE|apply uE);cbv;(try dsimp only [nc] at *)))))))
    any_goals (refine nO ?_;exact h1)
    all_goals (try (exact absurd ‹s.kind=t.kind∧_›.1 h2))
    ((all_goals (try (with_reducible ((first|refine rE ?_|refine nE ?_);(focus (cbv;(try dsimp only [nc] at *);(try simp only [wl,nc]);(repeat' (with_reducible apply And.intro));all_goals (try exact wZ)))))));(all_goals (try ((with_reducible rw [aC]);(try simp only [wl,nc]);(repeat' (with_reducible apply And.intro));(all_goals (try exact cZ))))))
  · obtain ⟨k3,h3⟩:=h.resolve_left h2
    have kt:t.kind=3:=by omega
    rw [encT_kind k3] at h1
    rw [encT_kind k3,encT_kind kt]
    (apply Af.of tF mF [.cell 4 33,.tmp 5] kp23 [(2,[(1,.tup [encV (c+1) .any fun _=>W.1,.bool fun _=>W.2],[])])] Tryz.func23 (fun _=>?_);(any_goals ((with_reducible refine wI ?_);cbv;(try dsimp only [nc] at *);(repeat' (with_reducible first|exact aO|exact oN|refine oC ?_ ?_|refine VC.mk rfl ?_ ?_ ?_|(apply Ca.mk<;>intro _)|(apply Cv.mk<;>intro zq<;>(try simp only [nc,cl] at zq)<;>(try simp only [bl,dl] at zq)<;>(revert zq;intro _))|((first|apply xE|apply uE);cbv;(try dsimp only [nc] at *)))))))
    any_goals (refine nO ?_;exact h1)
    all_goals (try (exact absurd trivial ‹¬True›))
    all_goals (try (exfalso;simp_all;done))
    ((all_goals (try (with_reducible ((first|refine rE ?_|refine nE ?_);(focus (cbv;(try dsimp only [nc] at *);(try simp only [wl,nc]);(repeat' (with_reducible apply And.intro));all_goals (try exact wZ)))))));(all_goals (try ((with_reducible rw [aC]);(try simp only [wl,nc]);(repeat' (with_reducible apply And.intro));(all_goals (try exact cZ))))))
theorem wit_list (e d:Nat) (s t:Ty) (he:e+1≤1073741824) (hc:d+(e+1)≤1073741824) (hs:Ty.le (e+1) (d+1) s) (ht:Ty.le (e+1) (d+1) t) (ks:s.kind=8) (kt:t.kind=8) (ls:s.elem.length=1) (lt:t.elem.length=1)
    (bs:0≤s.min∧s.min≤s.max∧s.max≤1024) (bt:0≤t.min∧t.min≤t.max∧t.max≤1024)
    (ih:¬ s.min<t.min→¬ t.max<s.max→∃ v b,V.le (d+(e+1)) v∧Af Tryz.prog 23 [encT (e+1) d .any fun _=>s.elem.getD 0 default,encT (e+1) d .any fun _=>t.elem.getD 0 default] [] (.tup [encV (d+(e+1)) .any fun _=>v,.bool fun _=>b]) []) :
    ∃ v b,V.le (d+(e+1)+1) v∧Af Tryz.prog 23 [encT (e+1) (d+1) .any fun _=>s,encT (e+1) (d+1) .any fun _=>t] [] (.tup [encV (d+(e+1)+1) .any fun _=>v,.bool fun _=>b]) []:=by
  have hse:=Ty.le_elem hs (i:=0) (by omega)
  have hL:=fun n hn l hl hlv=>listL_ex e d (s.elem.getD 0 default) he hc hse n hn l hl hlv
  have hLr:=fun n hn l hl hl0 hlv=>listR_ex e d (s.elem.getD 0 default) he hc hse n hn l hl hl0 hlv
  obtain ⟨c,hcc⟩:∃ c,d+(e+1)=c+1:=⟨d+e,by omega⟩
  rw [hcc] at hL hLr ih ⊢
  obtain ⟨x0,hx0⟩:∃ x,x=s.elem.getD 0 default:=⟨_,rfl⟩
  obtain ⟨y0,hy0⟩:∃ x,x=t.elem.getD 0 default:=⟨_,rfl⟩
  rw [← hx0] at hL hLr ih
  rw [← hy0] at ih
  have h00:Int.toNat 0=0:=rfl
  by_cases q1:s.min<t.min
  · obtain ⟨v,b,hv,hA⟩:=hL s.min (by omega) [] (by simp) (fun _ h=>by cases h)
    refine ⟨v,b,hv,?_⟩
    clear hL hLr ih
    rw [encT_kind ks,encT_kind kt]
    (apply Af.of tF mF [.cell 4 33,.tmp 5] kp23 [(23,[(6,.tup [encV (c+2) .any fun _=>v,.bool fun _=>b],[])])] Tryz.func23 (fun _=>?_);(any_goals ((with_reducible refine wI ?_);cbv;(try dsimp only [nc] at *);(repeat' (with_reducible first|exact aO|exact oN|refine oC ?_ ?_|refine VC.mk rfl ?_ ?_ ?_|(apply Ca.mk<;>intro _)|(apply Cv.mk<;>intro zq<;>(try simp only [nc,cl] at zq)<;>(try simp only [bl,dl] at zq)<;>(revert zq;intro _))|((first|apply xE|apply uE);cbv;(try dsimp only [nc] at *)))))))
    all_goals (try (exact absurd trivial ‹¬True›))
    all_goals (try (exfalso;omega))
    all_goals (try (exfalso;simp_all;done))
    all_goals (try simp only [h00,← hx0])
    any_goals (refine nO ?_;dsimp only;refine Af.wN hA ?_;(focus (cbv;(try dsimp only [nc] at *);(try simp only [wl,nc]);(repeat' (with_reducible apply And.intro));all_goals (try exact wZ))))
    ((all_goals (try (with_reducible ((first|refine rE ?_|refine nE ?_);(focus (cbv;(try dsimp only [nc] at *);(try simp only [wl,nc]);(repeat' (with_reducible apply And.intro));all_goals (try exact wZ)))))));(all_goals (try ((with_reducible rw [aC]);(try simp only [wl,nc]);(repeat' (with_reducible apply And.intro));(all_goals (try exact cZ))))))
  by_cases q2:t.max<s.max
  · obtain ⟨v,b,hv,hA⟩:=hL (Max.max s.min (t.max+1)) (by omega) [] (by simp) (fun _ h=>by cases h)
    refine ⟨v,b,hv,?_⟩
    clear hL hLr ih
    rw [encT_kind ks,encT_kind kt]
    (apply Af.of tF mF [.cell 4 33,.tmp 5] kp23 [(25,[(10,.tup [encV (c+2) .any fun _=>v,.bool fun _=>b],[])])] Tryz.func23 (fun _=>?_);(any_goals ((with_reducible refine wI ?_);cbv;(try dsimp only [nc] at *);(repeat' (with_reducible first|exact aO|exact oN|refine oC ?_ ?_|refine VC.mk rfl ?_ ?_ ?_|(apply Ca.mk<;>intro _)|(apply Cv.mk<;>intro zq<;>(try simp only [nc,cl] at zq)<;>(try simp only [bl,dl] at zq)<;>(revert zq;intro _))|((first|apply xE|apply uE);cbv;(try dsimp only [nc] at *)))))))
    all_goals (try (exact absurd trivial ‹¬True›))
    all_goals (try (exfalso;omega))
    all_goals (try (exfalso;simp_all;done))
    all_goals (try simp only [h00,← hx0])
    any_goals (refine nO ?_;dsimp only;refine Af.wN hA ?_;(focus (cbv;(try dsimp only [nc] at *);(try simp only [wl,nc]);(repeat' (with_reducible apply And.intro));all_goals (try exact wZ))))
    ((all_goals (try (with_reducible ((first|refine rE ?_|refine nE ?_);(focus (cbv;(try dsimp only [nc] at *);(try simp only [wl,nc]);(repeat' (with_reducible apply And.intro));all_goals (try exact wZ)))))));(all_goals (try ((with_reducible rw [aC]);(try simp only [wl,nc]);(repeat' (with_reducible apply And.intro));(all_goals (try exact cZ))))))
    all_goals
      simp only [if_true]
      rw [show IntKind.i64.wrap (t.max+1)=t.max+1 from w64 (by omega) (by omega)]
      split<;>omega
  · obtain ⟨v1,b1,hv1,hW⟩:=ih q1 q2
    obtain ⟨v,b,hv,hA⟩:=hLr (Max.max s.min 1) (by omega) [v1] (by simp) (by simp) (fun y hy=>by rw [List.mem_singleton.1 hy];exact hv1)
    have hr:=fun i hi=>row_v (c:=c+1) v1 i hi
    clear hL hLr ih
    cases b1 with
    | false =>
      refine ⟨default,false,default_leV _,?_⟩
      rw [encT_kind ks,encT_kind kt]
      (apply Af.of tF mF [.cell 4 33,.tmp 5] kp23 [(26,[(8,.tup [encV (c+1) .any fun _=>v1,.bool fun _=>false],[])]),(29,[(9,.tup [encV (c+2) .any fun _=>v,.bool fun _=>b],[])])] Tryz.func23 (fun _=>?_);(any_goals ((with_reducible refine wI ?_);cbv;(try dsimp only [nc] at *);(repeat' (with_reducible first|exact aO|exact oN|refine oC ?_ ?_|refine VC.mk rfl ?_ ?_ ?_|(apply Ca.mk<;>intro _)|(apply Cv.mk<;>intro zq<;>(try simp only [nc,cl] at zq)<;>(try simp only [bl,dl] at zq)<;>(revert zq;intro _))|((first|apply xE|apply uE);cbv;(try dsimp only [nc] at *)))))))
      all_goals (try (exact absurd trivial ‹¬True›))
      all_goals (try (exfalso;omega))
      all_goals (try (exfalso;simp_all;done))
      all_goals (try simp only [h00,← hx0,← hy0])
      any_goals (refine nO ?_;exact hW)
      ((all_goals (try (with_reducible ((first|refine rE ?_|refine nE ?_);(focus (cbv;(try dsimp only [nc] at *);(try simp only [wl,nc]);(repeat' (with_reducible apply And.intro));all_goals (try exact wZ)))))));(all_goals (try ((with_reducible rw [aC]);(try simp only [wl,nc]);(repeat' (with_reducible apply And.intro));(all_goals (try exact cZ))))))
      all_goals rfl
    | true =>
      refine ⟨v,b,hv,?_⟩
      rw [encT_kind ks,encT_kind kt]
      (apply Af.of tF mF [.cell 4 33,.tmp 5] kp23 [(26,[(8,.tup [encV (c+1) .any fun _=>v1,.bool fun _=>true],[])]),(29,[(9,.tup [encV (c+2) .any fun _=>v,.bool fun _=>b],[(1002,.arr false 33 6 0 (fun _=>[v1].length) (listF (c+1) .any fun _=>[v1]))])])] Tryz.func23 (fun _=>?_);(any_goals ((with_reducible refine wI ?_);cbv;(try dsimp only [nc] at *);(repeat' (with_reducible first|exact aO|exact oN|refine oC ?_ ?_|refine VC.mk rfl ?_ ?_ ?_|(apply Ca.mk<;>intro _)|(apply Cv.mk<;>intro zq<;>(try simp only [nc,cl] at zq)<;>(try simp only [bl,dl] at zq)<;>(revert zq;intro _))|((first|apply xE|apply uE);cbv;(try dsimp only [nc] at *)))))))
      all_goals (try (exact absurd trivial ‹¬True›))
      all_goals (try (exfalso;omega))
      all_goals (try (exfalso;simp_all;done))
      all_goals (try simp only [h00,← hx0,← hy0])
      any_goals (refine nO ?_;first|exact hW|(dsimp only;refine Af.wN hA ?_;(focus (cbv;(try dsimp only [nc] at *);(try simp only [wl,nc]);(repeat' (with_reducible apply And.intro));all_goals (try exact wZ)))))
      ((all_goals (try (with_reducible ((first|refine rE ?_|refine nE ?_);(focus (cbv;(try dsimp only [nc] at *);(try simp only [wl,nc]);(repeat' (with_reducible apply And.intro));all_goals (try exact wZ)))))));(all_goals (try ((with_reducible rw [aC]);(try simp only [wl,nc]);(repeat' (with_reducible apply And.intro));(all_goals (try exact cZ))))))
      all_goals (simp only [if_true];split<;>omega)
end Go.Ai
