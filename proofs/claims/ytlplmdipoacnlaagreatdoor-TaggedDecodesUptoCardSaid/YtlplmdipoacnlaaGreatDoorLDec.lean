/- Types with great defaults: the law's test. -/
import Derived.Test.YtlplmdipoacnlaaGreatDoorDecX
import Derived.Test.YtlplmdipoacnlaaGreatDoorRfD
import Derived.Test.YtlplmdipoacnlaaGreatDoorRfE
import Derived.Test.YtlplmdipoacnlaaGreatDoorReadT
set_option linter.all false
namespace Go.Ai
open Go Go.Proofs
set_option maxRecDepth 100000
set_option maxHeartbeats 4000000
def kr36:List Nat:=[2,10,1034,10,262154,4,18,8388626,18,50,140737488355346,4,4]
theorem heavy_step (e d:Nat) (t:Ty) (ht:Ty.le e (d+1) t) (hz:Ty.sz e (d+1) t) (ih:∀ x,Ty.le e d x→Ty.sz e d x→Af Tryz.prog 36 [encT e d .any fun _=>x] [] (.bool fun _=>heavyT e d x) []) :
 Af Tryz.prog 36 [encT e (d+1) .any fun _=>t] [] (.bool fun _=>heavyT e (d+1) t) []:=by
 have hel:=ht.2.2.1
 have hfl:=ht.2.2.2.1
 (apply Af.of tF mF [.tmp 2] kr36 [] Tryz.func36 (fun _=>?_);(any_goals ((with_reducible refine wI ?_);cbv;(try dsimp only [nc] at *);(repeat' (with_reducible first|exact aO|exact oN|refine oC ?_ ?_|refine VC.mk rfl ?_ ?_ ?_|(apply Ca.mk<;>intro _)|(apply Cv.mk<;>intro zq<;>(try simp only [nc,cl] at zq)<;>(try simp only [bl,dl] at zq)<;>(revert zq;intro _))|((first|apply xE|apply uE);cbv;(try dsimp only [nc] at *)))))))
 ((all_goals (try (with_reducible ((first|refine rE ?_|refine nE ?_);(focus (cbv;(try dsimp only [nc] at *);(try simp only [wl,nc]);(repeat' (with_reducible apply And.intro));all_goals (try exact wZ)))))));(all_goals (try ((with_reducible rw [aC]);(try simp only [wl,nc]);(repeat' (with_reducible apply And.intro));(all_goals (try exact cZ))))))
 refine .loop (fun i:Nat=>⟨48,[(3,.int .i64 fun _=>i),(1,.ptr 1 0)],[(1,.box (cl' e (d+1) .any fun _=>t))]⟩)
  (fun i=>i≤t.elem.length∧∀ j,j<i→heavyT e d (t.elem.getD j default)=false) (fun i=>t.elem.length - i) 0 ⟨Nat.zero_le _,fun j hj=>absurd hj (Nat.not_lt_zero _)⟩ ?_ fun i E hi=>?_
 ·(focus (cbv;(try dsimp only [nc] at *);(try simp only [wl,nc]);(repeat' (with_reducible apply And.intro));all_goals (try exact wZ)))
 obtain ⟨i1,i2⟩:=hi
 by_cases hlt:i<t.elem.length
 ·have hxm:t.elem.getD i default ∈ t.elem:=gD hlt
  have hC:=ih _ (ht.2.2.2.2.1 _ hxm) (hz.1 _ hxm)
  obtain ⟨b,hb⟩:∃ b,b=heavyT e d (t.elem.getD i default):=⟨_,rfl⟩
  rw [← hb] at hC
  have hT:b=true→heavyT e (d+1) t=true:=fun z=>by
   simp only [heavyT,Bool.or_eq_true]
   exact .inl (List.any_eq_true.2 ⟨_,hxm,by rw [← hb];exact z⟩)
  apply AWp.wk tF mF [(4,[(5,.bool fun _=>b,[])])] kr36 ?_
  (any_goals ((with_reducible refine wI ?_);cbv;(try dsimp only [nc] at *);(repeat' (with_reducible first|exact aO|exact oN|refine oC ?_ ?_|refine VC.mk rfl ?_ ?_ ?_|(apply Ca.mk<;>intro _)|(apply Cv.mk<;>intro zq<;>(try simp only [nc,cl] at zq)<;>(try simp only [bl,dl] at zq)<;>(revert zq;intro _))|((first|apply xE|apply uE);cbv;(try dsimp only [nc] at *))))))
  all_goals (try exact absurd hlt (Nat.not_lt.2 ‹t.elem.length≤i›))
  all_goals (try simp only [Int.toNat_natCast])
  (any_goals ((with_reducible refine bZ ?_)<;>exact hC))
  ((all_goals (try (with_reducible ((first|refine rE ?_|refine nE ?_);(focus (cbv;(try dsimp only [nc] at *);(try simp only [wl,nc]);(repeat' (with_reducible apply And.intro));all_goals (try exact wZ)))))));(all_goals (try ((with_reducible rw [aC]);(try simp only [wl,nc]);(repeat' (with_reducible apply And.intro));(all_goals (try exact cZ))))))
  ·exact (hT ‹b=true›).symm
  ·refine dE (i+1) ⟨⟨by omega,fun j hj=>?_⟩,by omega⟩ ?_
   ·rcases Nat.lt_succ_iff_lt_or_eq.1 hj with hj|rfl
    ·exact i2 j hj
    ·rw [← hb];assumption
   ·(focus (cbv;(try dsimp only [nc] at *);(try simp only [wl,nc]);(repeat' (with_reducible apply And.intro));all_goals (try exact wZ)))
    exact w64n (by omega)
 ·have hE : t.elem.any (heavyT e d)=false:=by
   rw [List.any_eq_false]
   intro x hx
   obtain ⟨j,hj,rfl⟩:=List.getElem_of_mem hx
   have:=i2 j (by omega)
   simpa [List.getD,hj] using this
  apply AWp.wk tF mF [(4,[(5,.bool fun _=>false,[])])] kr36 ?_
  (any_goals ((with_reducible refine wI ?_);cbv;(try dsimp only [nc] at *);(repeat' (with_reducible first|exact aO|exact oN|refine oC ?_ ?_|refine VC.mk rfl ?_ ?_ ?_|(apply Ca.mk<;>intro _)|(apply Cv.mk<;>intro zq<;>(try simp only [nc,cl] at zq)<;>(try simp only [bl,dl] at zq)<;>(revert zq;intro _))|((first|apply xE|apply uE);cbv;(try dsimp only [nc] at *))))))
  all_goals (try exact absurd ‹i<t.elem.length› hlt)
  ((all_goals (try (with_reducible ((first|refine rE ?_|refine nE ?_);(focus (cbv;(try dsimp only [nc] at *);(try simp only [wl,nc]);(repeat' (with_reducible apply And.intro));all_goals (try exact wZ)))))));(all_goals (try ((with_reducible rw [aC]);(try simp only [wl,nc]);(repeat' (with_reducible apply And.intro));(all_goals (try exact cZ))))))
  refine .loop (fun i:Nat=>⟨48,[(4,.int .i64 fun _=>i),(1,.ptr 1 0)],[(1,.box (cl' e (d+1) .any fun _=>t))]⟩)
   (fun i=>i≤t.fields.length∧∀ j,j<i→heavyF e (heavyT e d) (t.fields.getD j default)=false) (fun i=>t.fields.length - i) 0 ⟨Nat.zero_le _,fun j hj=>absurd hj (Nat.not_lt_zero _)⟩ ?_ fun i E hi=>?_
  ·(focus (cbv;(try dsimp only [nc] at *);(try simp only [wl,nc]);(repeat' (with_reducible apply And.intro));all_goals (try exact wZ)))
  obtain ⟨j1,j2⟩:=hi
  by_cases hlt:i<t.fields.length
  ·obtain ⟨f,hf⟩:∃ f,f=t.fields.getD i default:=⟨_,rfl⟩
   have hfm:f ∈ t.fields:=by rw [hf];exact gD hlt
   have hfl:=ht.2.2.2.2.2 f hfm
   have hC:=ih _ hfl.2.2.2 (hz.2 f hfm).2
   obtain ⟨z,hzz⟩:∃ z,z=(fDef f).getD 0 default:=⟨_,rfl⟩
   have hSz:0<(fDef f).length→Af Tryz.prog 59 [encV e .any fun _=>z] [] (.int .i64 fun _=>sV e z) []:=fun q=>by
    have hm:z ∈ fDef f:=by rw [hzz];exact gD q
    exact refSize_ok e z (hfl.2.2.1 z hm) (Nat.le_trans ((hz.2 f hfm).1 z hm) (by decide))
   obtain ⟨b,hb⟩:∃ b,b=heavyT e d (fT f):=⟨_,rfl⟩
   rw [← hb] at hC
   have hH:heavyF e (heavyT e d) f=(b || (decide (0<(fDef f).length) && decide (20<sV e z))):=by unfold heavyF;rw [hb,hzz]
   obtain ⟨n,hn⟩:∃ n,n=sV e z:=⟨_,rfl⟩
   rw [← hn] at hSz hH
   have hT:heavyF e (heavyT e d) f=true→heavyT e (d+1) t=true:=fun z=>by
    simp only [heavyT,Bool.or_eq_true]
    exact .inr (List.any_eq_true.2 ⟨f,hfm,z⟩)
   have h00:Int.toNat 0=0:=rfl
   apply AWp.wk tF mF [(10,[(2,.bool fun _=>b,[]),(13,.int .i64 fun _=>n,[])])] kr36 ?_
   (any_goals ((with_reducible refine wI ?_);cbv;(try dsimp only [nc] at *);(repeat' (with_reducible first|exact aO|exact oN|refine oC ?_ ?_|refine VC.mk rfl ?_ ?_ ?_|(apply Ca.mk<;>intro _)|(apply Cv.mk<;>intro zq<;>(try simp only [nc,cl] at zq)<;>(try simp only [bl,dl] at zq)<;>(revert zq;intro _))|((first|apply xE|apply uE);cbv;(try dsimp only [nc] at *))))))
   all_goals (try exact absurd hlt (Nat.not_lt.2 ‹t.fields.length≤i›))
   all_goals (try simp only [Int.toNat_natCast,h00,← hf,← hzz])
   (any_goals ((with_reducible refine bZ ?_)<;>exact hC))
   any_goals (with_reducible refine sO (fun q=>?_))<;>exact hSz (by simp at q;omega)
   ((all_goals (try (with_reducible ((first|refine rE ?_|refine nE ?_);(focus (cbv;(try dsimp only [nc] at *);(try simp only [wl,nc]);(repeat' (with_reducible apply And.intro));all_goals (try exact wZ)))))));(all_goals (try ((with_reducible rw [aC]);(try simp only [wl,nc]);(repeat' (with_reducible apply And.intro));(all_goals (try exact cZ))))))
   ·refine (hT ?_).symm
    rw [hH]
    have q:=‹b=true∨0<((fDef (t.fields.getD i default)).length:Int)∧20<(n:Int)›
    rw [← hf] at q
    rcases q with q|q
    ·rw [q];rfl
    ·rw [decide_eq_true (show 0<(fDef f).length by omega),decide_eq_true (show 20<n by omega)];simp
   ·have q:=‹b=false∧(((fDef (t.fields.getD i default)).length:Int)≤0∨(n:Int)≤20)›
    rw [← hf] at q
    refine dE (i+1) ⟨⟨by omega,fun j hj=>?_⟩,by omega⟩ ?_
    ·rcases Nat.lt_succ_iff_lt_or_eq.1 hj with hj|rfl
     ·exact j2 j hj
     ·rw [← hf,hH,q.1,Bool.false_or,Bool.and_eq_false_iff,decide_eq_false_iff_not,decide_eq_false_iff_not]
      omega
    ·(focus (cbv;(try dsimp only [nc] at *);(try simp only [wl,nc]);(repeat' (with_reducible apply And.intro));all_goals (try exact wZ)))
     exact w64n (by omega)
  ·have hF:t.fields.any (heavyF e (heavyT e d))=false:=by
    rw [List.any_eq_false]
    intro x hx
    obtain ⟨j,hj,rfl⟩:=List.getElem_of_mem hx
    have:=j2 j (by omega)
    simpa [List.getD,hj] using this
   have hR:heavyT e (d+1) t=false:=by simp only [heavyT,hE,hF,Bool.or_self]
   apply AWp.wk tF mF [(10,[(2,.bool fun _=>false,[]),(13,.int .i64 fun _=>0,[])])] kr36 ?_
   (any_goals ((with_reducible refine wI ?_);cbv;(try dsimp only [nc] at *);(repeat' (with_reducible first|exact aO|exact oN|refine oC ?_ ?_|refine VC.mk rfl ?_ ?_ ?_|(apply Ca.mk<;>intro _)|(apply Cv.mk<;>intro zq<;>(try simp only [nc,cl] at zq)<;>(try simp only [bl,dl] at zq)<;>(revert zq;intro _))|((first|apply xE|apply uE);cbv;(try dsimp only [nc] at *))))))
   all_goals (try exact absurd ‹i<t.fields.length› hlt)
   ((all_goals (try (with_reducible ((first|refine rE ?_|refine nE ?_);(focus (cbv;(try dsimp only [nc] at *);(try simp only [wl,nc]);(repeat' (with_reducible apply And.intro));all_goals (try exact wZ)))))));(all_goals (try ((with_reducible rw [aC]);(try simp only [wl,nc]);(repeat' (with_reducible apply And.intro));(all_goals (try exact cZ))))))
   exact hR.symm
theorem heavy_ok (e:Nat):∀ (d:Nat) (t:Ty),Ty.le e d t→Ty.sz e d t→Af Tryz.prog 36 [encT e d .any fun _=>t] [] (.bool fun _=>heavyT e d t) []
 | 0,_,h,_=>h.elim
 | d+1,t,ht,hz=>heavy_step e d t ht hz fun x h1 h2=>heavy_ok e d x h1 h2
theorem dec_long (e d:Nat) (t:Ty) (ht:Ty.le e d t) (hK:chkT e d t=0) (s:ByteArray) (hs:s.size≤536870912) (h:(longR (dV d t (rdAt s 0)).2).e=0) :
 (rdV d t s 0).2.2.2=0:=by
 have hA:=dec_agr e d t ht (chkT_ok ht hK) s 0 s.size hs (Nat.zero_le _) (Nat.le_refl _)
 have hx:s.extract 0 s.size=s:=by
  rw [← baL_strN (s.extract 0 s.size),strN_ext]
  unfold sgm
  rw [List.drop_zero,List.take_of_length_le (by rw [sN];omega),baL_strN]
 have h0:rO s 0 s.size=rdAt s 0:=rfl
 rw [hx,h0,show ((0:Nat):Int)=0 from rfl] at hA
 generalize hX:dV d t (rdAt s 0)=X at hA h
 generalize hY:rdV d t s 0=Y at hA
 rcases hA with ⟨q,h1,h2,h3,h4⟩|⟨bad,e2,he,h1,h2,h3⟩
 ·rw [h4]
 ·have hl:longR X.2=X.2:=by
   unfold longR
   split
   ·exact fail_keep (by rw [h1];exact he) _ _
   ·rfl
  rw [hl,h1] at h
  exact absurd h he
theorem dec_acc (e d:Nat) (t:Ty) (ht:Ty.le e d t) (s:ByteArray) (hs:s.size≤536870912) (hK:chkT e d t=0) :
 V.le (d+e) (rdecV e d t s).1∧sV (d+e) (rdecV e d t s).1≤4096∧((rdecV e d t s).2.2=0→accV (d+e) d t (rdecV e d t s).1=true):=by
 obtain ⟨d',hd'⟩:=Ty.lP ht
 obtain ⟨n,hn⟩:∃ n,d+e=n+1:=⟨d'+e,by omega⟩
 have hdef:V.le (d+e) default∧sV (d+e) default≤4096:=by rw [hn];exact ⟨default_le _,by simp [sV,kz,default,V.kind]⟩
 have hto:=chkT_ok ht hK
 have hg:=(rdV_good e d t s 0 ht hto hs (by decide) (by omega)).1
 unfold rdecV
 rw [if_neg (fun z=>z hK)]
 by_cases c1:(rdV d t s 0).2.2.2≠0
 ·rw [if_pos c1]
  exact ⟨hdef.1,hdef.2,fun z=>absurd z c1⟩
 rw [if_neg c1]
 by_cases c2:(rdV d t s 0).2.1<s.size
 ·rw [if_pos c2]
  exact ⟨hdef.1,hdef.2,fun z=>absurd z (show ¬ (5:Int)=0 by decide)⟩
 rw [if_neg c2]
 by_cases c3:4096<sV (d+e) (rdV d t s 0).1
 ·rw [if_pos c3]
  exact ⟨hdef.1,hdef.2,fun z=>absurd z (show ¬ (9:Int)=0 by decide)⟩
 rw [if_neg c3]
 obtain ⟨h1,h2⟩:=rdV_ok e d t s 0 ht hto hs (by decide) (by omega) (by omega)
 exact ⟨hg,by show sV (d+e) (rdV d t s 0).1≤4096;omega,fun _=>acc_of e (d+e) d t (rdV d t s 0).1 hto hK (by omega) h1 h2⟩
theorem Decodes_ok (e d:Nat) (t:Ty) (s:ByteArray) (he:d+(e+1)≤1073741824) (ht:Ty.le (e+1) d t) (hz:Ty.sz (e+1) d t) (hs:s.size≤1048576) :
 Af Tryz.prog 10 [encT (e+1) d .any fun _=>t,.str fun _=>s] [] (.bool fun _=>true) []:=by
 obtain ⟨u,hu⟩:∃ u,u=s.extract 0 (min s.size 200):=⟨_,rfl⟩
 have hul:u.size≤200:=by rw [hu];simp [ByteArray.size_extract];omega
 have hu2:s.extract (Int.toNat 0) (if 200<(s.size:Int) then 200 else (s.size:Int)).toNat=u:=by
  rw [hu,show Int.toNat 0=0 from rfl,show (if 200<(s.size:Int) then 200 else (s.size:Int)).toNat=min s.size 200 by split<;>omega]
 have hS:=Small_ok (e+1) d t ht
 have hH:=heavy_ok (e+1) d t ht hz
 have hus:u.size≤536870912:=by omega
 have hsz:chkT (e+1) d t=0→(rdV d t u 0).2.2.2=0→sV (d+(e+1)) (rdV d t u 0).1≤4611686018427387904:=fun h1 h2=>by
  have hto:=chkT_ok ht h1
  have h3:=rdV_size (e+1) d t u 0 ht hto hz hus (by decide) (by omega) h2
  have h4:=((rdV_good (e+1) d t u 0 ht hto hus (by decide) (by omega)).2 h2).2
  have h5:(sV (d+(e+1)) (rdV d t u 0).1:Int)≤137438953472 * 200:=by omega
  omega
 have hag:=decode_agr (e+1) d t ht u hus
 have hD:=Decode_ok e d t he ht u hus fun h1 h2=>by
  have h3:=dec_long (e+1) d t ht h1 u hus h2
  rw [← (hag.2 h1 h3).1]
  exact hsz h1 h3
 have hR:=refDecode_ok e d t (by omega) ht hz u hus hsz
 rw [hag.1] at hD
 obtain ⟨K,hK⟩:∃ K,K=chkT (e+1) d t:=⟨_,rfl⟩
 have hle:V.le (d+(e+1)) (rdecV (e+1) d t u).1:=by
  by_cases h1:chkT (e+1) d t=0
  ·exact (dec_acc (e+1) d t ht u hus h1).1
  ·unfold rdecV
   rw [if_pos h1]
   exact default_le _
 have hAc:(rdecV (e+1) d t u).2.2=0→Af Tryz.prog 19 [encT (e+1) d .any fun _=>t,encV (d+(e+1)) .any fun _=>(rdecV (e+1) d t u).1] [] (.bool fun _=>true) []:=fun h=>by
  have h1:chkT (e+1) d t=0:=by
   by_cases h1:chkT (e+1) d t=0
   ·exact h1
   ·unfold rdecV at h
    rw [if_pos h1] at h
    exact h
  obtain ⟨q1,q2,q3⟩:=dec_acc (e+1) d t ht u hus h1
  have:=refAccepts_ok (e+1) d (d+(e+1)) t _ ht (chkT_ok ht h1) q1 he (by omega)
  rw [q3 h] at this
  exact this
 have hEq:=equal_up hle (Nat.le_refl _)
 obtain ⟨a,ha⟩:∃ a,a=(smallT (e+1) d 12 t 200).1:=⟨_,rfl⟩
 obtain ⟨g,hgg⟩:∃ g,g=heavyT (e+1) d t:=⟨_,rfl⟩
 obtain ⟨X,hX⟩:∃ X,X=rdecV (e+1) d t u:=⟨_,rfl⟩
 rw [← ha] at hS
 rw [← hgg] at hH
 rw [← hX] at hD hR hAc hEq
 clear ha hgg hX hK hle hag hsz hu
 obtain ⟨M,hM⟩:∃ M,d+(e+1)=M:=⟨_,rfl⟩
 rw [hM] at hD hR hAc hEq
 clear hM he
 obtain ⟨d,rfl⟩:=Ty.lP ht
 (apply Af.of tF mF [.tmp 4] kp10 [(2,[(0,.bool fun _=>true,[]),(4,.bool fun _=>a,[]),(9,.bool fun _=>g,[])]),(3,[(0,.bool fun _=>true,[])]),
   (4,[(2,.tup [encV M .any fun _=>X.1,.int .i64 fun _=>X.2.1,.int .i64 fun _=>X.2.2],[])]),(5,[(2,.tup [encV M .any fun _=>X.1,.int .i64 fun _=>X.2.1,.int .i64 fun _=>X.2.2],[])]),
   (6,[(2,.bool fun _=>true,[]),(19,.bool fun _=>true,[])])] Tryz.func10 (fun _=>?_);(any_goals ((with_reducible refine wI ?_);cbv;(try dsimp only [nc] at *);(repeat' (with_reducible first|exact aO|exact oN|refine oC ?_ ?_|refine VC.mk rfl ?_ ?_ ?_|(apply Ca.mk<;>intro _)|(apply Cv.mk<;>intro zq<;>(try simp only [nc,cl] at zq)<;>(try simp only [bl,dl] at zq)<;>(revert zq;intro _))|((first|apply xE|apply uE);cbv;(try dsimp only [nc] at *)))))))
 all_goals (try simp only [Bool.false_eq_true,if_false,hu2] at *)
 all_goals (try (exfalso;omega))
 (any_goals ((with_reducible refine bZ ?_)<;>exact known_ok))
 (any_goals ((with_reducible refine bZ ?_)<;>exact hS))
 (any_goals ((with_reducible refine bZ ?_)<;>exact hH))
 (any_goals ((with_reducible refine bZ ?_)<;>exact hD))
 (any_goals ((with_reducible refine bZ ?_)<;>exact hR))
 (any_goals ((with_reducible refine bZ ?_);(try dsimp only);(have q:=hEq;refine Af.wN q ?_;clear q);(focus (cbv;(try dsimp only [nc] at *);(try simp only [wl,nc]);(repeat' (with_reducible apply And.intro));all_goals (try exact wZ)))))
 any_goals (with_reducible refine sO (fun z=>?_))<;>exact hAc (by simp at z;exact z)
 ((all_goals (try (with_reducible ((first|refine rE ?_|refine nE ?_);(focus (cbv;(try dsimp only [nc] at *);(try simp only [wl,nc]);(repeat' (with_reducible apply And.intro));all_goals (try exact wZ)))))));(all_goals (try ((with_reducible rw [aC]);(try simp only [wl,nc]);(repeat' (with_reducible apply And.intro));(all_goals (try exact cZ))))))
 ·simp
 ·simp
 ·by_cases hz0:X.2.2=0
  ·simp [hz0]
  ·simp
end Go.Ai

namespace Go.Proofs.YtlplmdipoacnlaaGreatDoor
open Go Go.Ai Go.RowKit Go.ChangeShapes Go.WideShapes Go.ChangeAt
set_option maxRecDepth 100000
theorem decs_contract (H:Type) (enc:TypeId×Value→H) (W:World) (base:Nat) (args:Array Value) (ds gs:List (DataW H)) (before:List MemPlace)
 (hval:∀ (j:Nat) t v,Tryz.f10.params[j]? = some t→args[j]? = some v→Value.okWide Tryz.prog W .any base t v)
 (hW:DataW.Whole enc Tryz.prog Tryz.f10.params.toList Rows.taggedDecodesSpec.vars false W args.toList ds gs before) (hk:Rows.uptoSmall H (ds++gs)=true) (hL:laidMetH Tryz.prog Rows.taggedDecodesUptoRow.laid W) :
 Calls Tryz.prog 10 args W fun e W'=>∃ v,e=.returned v∧Rows.taggedDecodesSpec.post enc Tryz.prog Tryz.f10 false true false false W args v W':=by
 have hW':=hW
 obtain ⟨p,q,hA,hV,rfl,_,_⟩:=hW
 obtain rfl:=vars_nil hV
 rw [Tryz.params10] at hA hval
 obtain ⟨v0,vs0,d0,ds0,pa0,pb0,hargs,rfl,rfl,t0,r0⟩:=trodAll_cons hA
 obtain ⟨v1,vs1,d1,ds1,pa1,pb1,rfl,rfl,rfl,t1,r1⟩:=trodAll_cons r0
 obtain ⟨rfl,rfl,rfl⟩:=trodAll_nil r1
 obtain rfl:args=#[v0,v1]:=by cases args;simp_all
 have hb:Rows.uptoBulkAll ([d0,d1]++[])≤1048576:=of_decide_eq_true hk
 simp only [List.append_nil,Rows.uptoBulkAll] at hb
 obtain ⟨x0,h0,z0,a0⟩:=open_type t0 (by omega)
 obtain ⟨x1,rfl,rfl,_,_⟩:=Go.ChangeMaps.open_string Tryz.underlying9 (hval 1 9 v1 rfl rfl) t1
 have h1:x1.size≤1048576:=by simp only [Rows.uptoBulk,len_bytes] at hb;omega
 have a1:RD W (fun b=>b<W.heap.size) W.heap.size (.str fun _=>x1) (.string x1):=.str _
 refine (calls_law (Decodes_ok 1048575 1048576 x0 x1 (by omega) h0 z0 h1) rfl (tabs_of hL) fun i av hi=>?_).mono fun e W' ⟨he,hbel⟩=>⟨_,he,?_⟩
 ·match i with
  | 0=>simp only [List.getElem?_cons_zero,Option.some.injEq] at hi;subst hi;exact a0
  | 1=>simp only [List.getElem?_cons_zero,List.getElem?_cons_succ,Option.some.injEq] at hi;subst hi;exact a1
  | i+2=>simp at hi
 ·refine post_law (s:=Rows.taggedDecodesSpec) rfl (by kernel_rfl) rfl ?_ hW' hbel
  rw [Tryz.params10]
  intro t ht
  have:t=26∨t=9:=by simp at ht;grind
  rcases this with rfl|rfl
  ·exact ⟨by kernel_rfl,of_decide_eq_true (by kernel_rfl)⟩
  ·exact ⟨by kernel_rfl,of_decide_eq_true (by kernel_rfl)⟩
theorem decs_reads (os:Os) {H:Type} (enc:TypeId×Value→H):∃ places,DataW.whole enc Tryz.prog ((lW os).forCall (fun _ _=>0) ⟨#[],#[.agg #[.int .i64 0,.int .i64 0,.int .i64 0,.int .i64 0,.slice none 0 0,.slice none 0 0,.slice none 0 0],.string ⟨#[]⟩],[]⟩).memory Tryz.f10.params.toList Rows.taggedDecodesSpec.vars false (#[.agg #[.int .i64 0,.int .i64 0,.int .i64 0,.int .i64 0,.slice none 0 0,.slice none 0 0,.slice none 0 0],.string ⟨#[]⟩]:Array Value).toList 8=some ([.agg [.lit (.int .i64 0),.lit (.int .i64 0),.lit (.int .i64 0),.lit (.int .i64 0),.nil,.nil,.nil],.lit (.string [])],[],places) :=
 ⟨[],by kernel_rfl⟩
theorem decs_laid (os:Os):laidMet Tryz.prog Rows.taggedDecodesUptoRow.laid ((lW os).forCall (fun _ _=>0) ⟨#[],#[.agg #[.int .i64 0,.int .i64 0,.int .i64 0,.int .i64 0,.slice none 0 0,.slice none 0 0,.slice none 0 0],.string ⟨#[]⟩],[]⟩).memory :=
 laidMet_of_run' 8 (by kernel_rfl) (by kernel_rfl)
theorem decs_lifted (os:Os) (started:os.Started) (H:Type) (enc:TypeId×Value→H) (F:Stop.Interp) :
 ReturnsInHanded {} Tryz.checked os 10 .any ((Rows.OpenSpec.upto Rows.taggedDecodesSpec).preRow enc Tryz.prog Tryz.f10 Rows.taggedDecodesUptoRow.domain false Rows.taggedDecodesUptoRow.laid) (((Rows.OpenSpec.upto Rows.taggedDecodesSpec).at F).post enc Tryz.prog Tryz.f10 false true false false):=by
 obtain ⟨places,hx⟩:=decs_reads os enc
 refine returnsInHanded_of_row (C:=Tryz.checked) (s:=Rows.OpenSpec.upto Rows.taggedDecodesSpec) own4 started (by kernel_rfl) Tryz.func10
  (witness_row_at (enc:=enc) (C:=Tryz.checked) false (lW os) #[.agg #[.int .i64 0,.int .i64 0,.int .i64 0,.int .i64 0,.slice none 0 0,.slice none 0 0,.slice none 0 0],.string ⟨#[]⟩] rfl (by kernel_rfl) (by kernel_rfl) (by kernel_rfl)
    (OpenSpec.preRow_of_cond 8 hx (by kernel_rfl) (fun k hk=>by cases hk;kernel_rfl) (by kernel_rfl) (decs_laid os))) ?_
 intro W base args ds gs before hval hW _ hcond _ hL _ _
 exact decs_contract H enc W base args ds gs before hval hW (hcond _ rfl) hL
theorem decs_said:Rows.TaggedDecodesUptoSaid :=
 OpenClaim.holds_of_cond 10 Tryz.f10 rfl rfl rfl rfl rfl rfl rfl ⟨rfl,rfl,rfl,rfl,rfl⟩ rfl rfl rfl rfl rfl (by kernel_rfl) Tryz.func10 (by kernel_rfl)
  (of_decide_eq_true (by kernel_rfl)) (by unfold Func.isWrapper;first|(rw [if_pos (by decide +kernel)];kernel_rfl)|(rw [if_neg (by decide +kernel)];exact ⟨rfl,rfl⟩))
  (fun os started H enc _ F=>by rw [OpenClaim.pre_eq_preRow];exact decs_lifted os started H enc F)
theorem decs_plain (f:FuncId) (fn:Func) (hf:Tryz.pinned.checked.prog.funcNamed Rows.taggedDecodesUptoRow.func=some f) (hfn:Tryz.pinned.checked.prog.funcs[f]? = some fn) :
 false=Tryz.pinned.checked.prog.looks []∧∀ (j:Nat) t,fn.params[j]? = some t→Tryz.pinned.checked.prog.wantsStandIn t=false:=by
 obtain rfl:f=10:=Option.some.inj ((show Tryz.prog.funcNamed Rows.taggedDecodesUptoRow.func=some 10 by kernel_rfl).symm.trans hf) |>.symm
 obtain rfl:fn=Tryz.f10:=(Option.some.inj (Tryz.func10.symm.trans hfn)).symm
 refine ⟨by kernel_rfl,fun j t ht=>?_⟩
 rw [Tryz.params10] at ht
 have hm:=Array.mem_of_getElem? ht
 have:t=26∨t=9:=by simp at hm;grind
 rcases this with rfl|rfl
 ·exact (show Tryz.prog.wantsStandIn 26=false by kernel_rfl)
 ·exact (show Tryz.prog.wantsStandIn 9=false by kernel_rfl)
theorem taggedDecodes_holds:Rows.TaggedDecodesUptoCardSaid :=
 Claim7.holds_tied_plain_at .later [] _ _ _ _ decs_said (fun _ h=>by cases h) (by kernel_rfl) (fun _ h=>by cases h) taggedDecodesUpto_row_tie rfl ⟨rfl,rfl⟩ (by kernel_rfl) rfl decs_plain (by kernel_rfl)
#print axioms taggedDecodes_holds
end Go.Proofs.YtlplmdipoacnlaaGreatDoor
