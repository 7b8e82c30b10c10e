/- TaggedCuts. -/
import Derived.Test.YtlplmdipoacnlaaGreatDoorDecX
import Derived.Test.YtlplmdipoacnlaaGreatDoorRetP
import Derived.Test.YtlplmdipoacnlaaGreatDoorReadT
set_option linter.all false
namespace Go.Ai
open Go Go.Proofs
set_option maxRecDepth 100000
set_option maxHeartbeats 4000000
theorem heavy_step (e d:Nat) (t:Ty) (ht:Ty.le e (d+1) t) (hz:Ty.sz e (d+1) t) (ih:∀ x,Ty.le e d x→Ty.sz e d x→AFun Tryz.prog 36 [encT e d .any fun _=>x] [] (.bool fun _=>heavyT e d x) []) :
    AFun Tryz.prog 36 [encT e (d+1) .any fun _=>t] [] (.bool fun _=>heavyT e (d+1) t) []:=by
  have hel:=ht.2.2.1
  have hfl:=ht.2.2.2.1
  (apply AFun.of T4_ok mixed4 [.tmp 2] kp36 [] Tryz.func36 (fun _=>?_);(any_goals ((with_reducible refine wk_id ?_);cbv;(try dsimp only [nc] at *);(repeat' (with_reducible first|exact all_nil.2 trivial|exact ob_nil|refine ob_cons ?_ ?_|refine VC.mk rfl ?_ ?_ ?_|refine CondAny.mk (fun _=>?_) (fun _=>?_)|(refine CondVC.mk ?_ ?_<;>intro zq<;>(try simp only [nc,cl] at zq)<;>(try simp only [bl,dl] at zq)<;>(revert zq;intro _))|((first|refine end_exit ?_|refine end_out ?_);cbv;(try dsimp only [nc] at *)))))))
  ((all_goals (try (with_reducible ((first|refine end_ret ?_|refine end_normal ?_);(focus (cbv;(try dsimp only [nc] at *);(try simp only [wl,nc]);(repeat' (with_reducible apply And.intro));all_goals (try exact wZ)))))));(all_goals (try ((with_reducible rw [all_cons]);(try simp only [wl,nc]);(repeat' (with_reducible apply And.intro));(all_goals (try exact cZ))))))
  refine .loop (fun i:Nat=>⟨48,[(3,.int .i64 fun _=>i),(1,.ptr 1 0)],[(1,.box (cellsT e (d+1) .any fun _=>t))]⟩)
    (fun i=>i≤t.elem.length∧∀ j,j<i→heavyT e d (t.elem.getD j default)=false) (fun i=>t.elem.length - i) 0 ⟨Nat.zero_le _,fun j hj=>absurd hj (Nat.not_lt_zero _)⟩ ?_ fun i E hi=>?_
  · (focus (cbv;(try dsimp only [nc] at *);(try simp only [wl,nc]);(repeat' (with_reducible apply And.intro));all_goals (try exact wZ)))
  obtain ⟨i1,i2⟩:=hi
  by_cases hlt:i<t.elem.length
  · have hxm:t.elem.getD i default ∈ t.elem:=getD_in hlt
    have hC:=ih _ (ht.2.2.2.2.1 _ hxm) (hz.1 _ hxm)
    obtain ⟨b,hb⟩:∃ b,b=heavyT e d (t.elem.getD i default):=⟨_,rfl⟩
    rw [← hb] at hC
    have hT:b=true→heavyT e (d+1) t=true:=fun z=>by
      simp only [heavyT,Bool.or_eq_true]
      exact .inl (List.any_eq_true.2 ⟨_,hxm,by rw [← hb];exact z⟩)
    apply AWp.wk T4_ok mixed4 [(4,[(5,.bool fun _=>b,[])])] kp36 ?_
    (any_goals ((with_reducible refine wk_id ?_);cbv;(try dsimp only [nc] at *);(repeat' (with_reducible first|exact all_nil.2 trivial|exact ob_nil|refine ob_cons ?_ ?_|refine VC.mk rfl ?_ ?_ ?_|refine CondAny.mk (fun _=>?_) (fun _=>?_)|(refine CondVC.mk ?_ ?_<;>intro zq<;>(try simp only [nc,cl] at zq)<;>(try simp only [bl,dl] at zq)<;>(revert zq;intro _))|((first|refine end_exit ?_|refine end_out ?_);cbv;(try dsimp only [nc] at *))))))
    all_goals (try exact absurd hlt (Nat.not_lt.2 ‹t.elem.length≤i›))
    all_goals (try simp only [Int.toNat_natCast])
    (any_goals ((with_reducible first|refine hob_none ?_|refine hob_some (fun _=>?_))<;>exact hC))
    ((all_goals (try (with_reducible ((first|refine end_ret ?_|refine end_normal ?_);(focus (cbv;(try dsimp only [nc] at *);(try simp only [wl,nc]);(repeat' (with_reducible apply And.intro));all_goals (try exact wZ)))))));(all_goals (try ((with_reducible rw [all_cons]);(try simp only [wl,nc]);(repeat' (with_reducible apply And.intro));(all_goals (try exact cZ))))))
    · exact (hT ‹b=true›).symm
    · refine end_round (i+1) ⟨⟨by omega,fun j hj=>?_⟩,by omega⟩ ?_
      · rcases Nat.lt_succ_iff_lt_or_eq.1 hj with hj|rfl
        · exact i2 j hj
        · rw [← hb];assumption
      · (focus (cbv;(try dsimp only [nc] at *);(try simp only [wl,nc]);(repeat' (with_reducible apply And.intro));all_goals (try exact wZ)))
        exact w64n (by omega)
  · have hE : t.elem.any (heavyT e d)=false:=by
      rw [List.any_eq_false]
      intro x hx
      obtain ⟨j,hj,rfl⟩:=List.getElem_of_mem hx
      have:=i2 j (by omega)
      simpa [List.getD,hj] using this
    apply AWp.wk T4_ok mixed4 [(4,[(5,.bool fun _=>false,[])])] kp36 ?_
    (any_goals ((with_reducible refine wk_id ?_);cbv;(try dsimp only [nc] at *);(repeat' (with_reducible first|exact all_nil.2 trivial|exact ob_nil|refine ob_cons ?_ ?_|refine VC.mk rfl ?_ ?_ ?_|refine CondAny.mk (fun _=>?_) (fun _=>?_)|(refine CondVC.mk ?_ ?_<;>intro zq<;>(try simp only [nc,cl] at zq)<;>(try simp only [bl,dl] at zq)<;>(revert zq;intro _))|((first|refine end_exit ?_|refine end_out ?_);cbv;(try dsimp only [nc] at *))))))
    all_goals (try exact absurd ‹i<t.elem.length› hlt)
    ((all_goals (try (with_reducible ((first|refine end_ret ?_|refine end_normal ?_);(focus (cbv;(try dsimp only [nc] at *);(try simp only [wl,nc]);(repeat' (with_reducible apply And.intro));all_goals (try exact wZ)))))));(all_goals (try ((with_reducible rw [all_cons]);(try simp only [wl,nc]);(repeat' (with_reducible apply And.intro));(all_goals (try exact cZ))))))
    refine .loop (fun i:Nat=>⟨48,[(4,.int .i64 fun _=>i),(1,.ptr 1 0)],[(1,.box (cellsT e (d+1) .any fun _=>t))]⟩)
      (fun i=>i≤t.fields.length∧∀ j,j<i→heavyF e (heavyT e d) (t.fields.getD j default)=false) (fun i=>t.fields.length - i) 0 ⟨Nat.zero_le _,fun j hj=>absurd hj (Nat.not_lt_zero _)⟩ ?_ fun i E hi=>?_
    · (focus (cbv;(try dsimp only [nc] at *);(try simp only [wl,nc]);(repeat' (with_reducible apply And.intro));all_goals (try exact wZ)))
    obtain ⟨j1,j2⟩:=hi
    by_cases hlt:i<t.fields.length
    · obtain ⟨f,hf⟩:∃ f,f=t.fields.getD i default:=⟨_,rfl⟩
      have hfm:f ∈ t.fields:=by rw [hf];exact getD_in hlt
      have hfl:=ht.2.2.2.2.2 f hfm
      have hC:=ih _ hfl.2.2.2 (hz.2 f hfm).2
      obtain ⟨z,hzz⟩:∃ z,z=(fDef f).getD 0 default:=⟨_,rfl⟩
      have hSz:0<(fDef f).length→AFun Tryz.prog 59 [encV e .any fun _=>z] [] (.int .i64 fun _=>sizeV e z) []:=fun q=>by
        have hm:z ∈ fDef f:=by rw [hzz];exact getD_in q
        exact refSize_ok e z (hfl.2.2.1 z hm) (Nat.le_trans ((hz.2 f hfm).1 z hm) (by decide))
      obtain ⟨b,hb⟩:∃ b,b=heavyT e d (fTyp f):=⟨_,rfl⟩
      rw [← hb] at hC
      have hH:heavyF e (heavyT e d) f=(b || (decide (0<(fDef f).length) && decide (20<sizeV e z))):=by unfold heavyF;rw [hb,hzz]
      obtain ⟨n,hn⟩:∃ n,n=sizeV e z:=⟨_,rfl⟩
      rw [← hn] at hSz hH
      have hT:heavyF e (heavyT e d) f=true→heavyT e (d+1) t=true:=fun z=>by
        simp only [heavyT,Bool.or_eq_true]
        exact .inr (List.any_eq_true.2 ⟨f,hfm,z⟩)
      have h00:Int.toNat 0=0:=rfl
      apply AWp.wk T4_ok mixed4 [(10,[(2,.bool fun _=>b,[]),(13,.int .i64 fun _=>n,[])])] kp36 ?_
      (any_goals ((with_reducible refine wk_id ?_);cbv;(try dsimp only [nc] at *);(repeat' (with_reducible first|exact all_nil.2 trivial|exact ob_nil|refine ob_cons ?_ ?_|refine VC.mk rfl ?_ ?_ ?_|refine CondAny.mk (fun _=>?_) (fun _=>?_)|(refine CondVC.mk ?_ ?_<;>intro zq<;>(try simp only [nc,cl] at zq)<;>(try simp only [bl,dl] at zq)<;>(revert zq;intro _))|((first|refine end_exit ?_|refine end_out ?_);cbv;(try dsimp only [nc] at *))))))
      all_goals (try exact absurd hlt (Nat.not_lt.2 ‹t.fields.length≤i›))
      all_goals (try simp only [Int.toNat_natCast,h00,← hf,← hzz])
      (any_goals ((with_reducible first|refine hob_none ?_|refine hob_some (fun _=>?_))<;>exact hC))
      any_goals (with_reducible refine hob_some (fun q=>?_))<;>exact hSz (by simp at q;omega)
      ((all_goals (try (with_reducible ((first|refine end_ret ?_|refine end_normal ?_);(focus (cbv;(try dsimp only [nc] at *);(try simp only [wl,nc]);(repeat' (with_reducible apply And.intro));all_goals (try exact wZ)))))));(all_goals (try ((with_reducible rw [all_cons]);(try simp only [wl,nc]);(repeat' (with_reducible apply And.intro));(all_goals (try exact cZ))))))
      · refine (hT ?_).symm
        rw [hH]
        have q:=‹b=true∨0<((fDef (t.fields.getD i default)).length:Int)∧20<(n:Int)›
        rw [← hf] at q
        rcases q with q|q
        · rw [q];rfl
        · rw [decide_eq_true (show 0<(fDef f).length by omega),decide_eq_true (show 20<n by omega)];simp
      · have q:=‹b=false∧(((fDef (t.fields.getD i default)).length:Int)≤0∨(n:Int)≤20)›
        rw [← hf] at q
        refine end_round (i+1) ⟨⟨by omega,fun j hj=>?_⟩,by omega⟩ ?_
        · rcases Nat.lt_succ_iff_lt_or_eq.1 hj with hj|rfl
          · exact j2 j hj
          · rw [← hf,hH,q.1,Bool.false_or,Bool.and_eq_false_iff,decide_eq_false_iff_not,decide_eq_false_iff_not]
            omega
        · (focus (cbv;(try dsimp only [nc] at *);(try simp only [wl,nc]);(repeat' (with_reducible apply And.intro));all_goals (try exact wZ)))
          exact w64n (by omega)
    · have hF:t.fields.any (heavyF e (heavyT e d))=false:=by
        rw [List.any_eq_false]
        intro x hx
        obtain ⟨j,hj,rfl⟩:=List.getElem_of_mem hx
        have:=j2 j (by omega)
        simpa [List.getD,hj] using this
      have hR:heavyT e (d+1) t=false:=by simp only [heavyT,hE,hF,Bool.or_self]
      apply AWp.wk T4_ok mixed4 [(10,[(2,.bool fun _=>false,[]),(13,.int .i64 fun _=>0,[])])] kp36 ?_
      (any_goals ((with_reducible refine wk_id ?_);cbv;(try dsimp only [nc] at *);(repeat' (with_reducible first|exact all_nil.2 trivial|exact ob_nil|refine ob_cons ?_ ?_|refine VC.mk rfl ?_ ?_ ?_|refine CondAny.mk (fun _=>?_) (fun _=>?_)|(refine CondVC.mk ?_ ?_<;>intro zq<;>(try simp only [nc,cl] at zq)<;>(try simp only [bl,dl] at zq)<;>(revert zq;intro _))|((first|refine end_exit ?_|refine end_out ?_);cbv;(try dsimp only [nc] at *))))))
      all_goals (try exact absurd ‹i<t.fields.length› hlt)
      ((all_goals (try (with_reducible ((first|refine end_ret ?_|refine end_normal ?_);(focus (cbv;(try dsimp only [nc] at *);(try simp only [wl,nc]);(repeat' (with_reducible apply And.intro));all_goals (try exact wZ)))))));(all_goals (try ((with_reducible rw [all_cons]);(try simp only [wl,nc]);(repeat' (with_reducible apply And.intro));(all_goals (try exact cZ))))))
      exact hR.symm
theorem heavy_ok (e:Nat):∀ (d:Nat) (t:Ty),Ty.le e d t→Ty.sz e d t→AFun Tryz.prog 36 [encT e d .any fun _=>t] [] (.bool fun _=>heavyT e d t) []
  | 0,_,h,_=>h.elim
  | d+1,t,ht,hz=>heavy_step e d t ht hz fun x h1 h2=>heavy_ok e d x h1 h2
theorem enc_inj {e d c:Nat} {t:Ty} {v w:V} {rest:List Nat} (hto:Ty.ok e d t) (hv:V.le c v) (hw:V.le c w) (hvo:V.ok c v) (hwo:V.ok c w) (hhv:hasT d t v=true) (hhw:hasT d t w=true) (hz:(encN d t w).length≤536870912)
    (h:encN d t w=encN d t v++rest):v=w∧rest=[]:=by
  have hb:=encN_256 e d c t w hto hw hwo hhw
  have hg:(rdAt (baL (encN d t w)) 0).good:=rdAt_good (by omega) (by omega) (by rw [baL_size];omega)
  have hr:(rdAt (baL (encN d t w)) 0).room=encN d t w:=by
    show ((strN (baL (encN d t w))).take (baL (encN d t w)).size).drop 0=_
    rw [List.drop_zero,List.take_of_length_le (by rw [strN_len];exact Nat.le_refl _),strN_of hb]
  have h1:=dec_enc e d c t w hto hw hwo hhw (rdAt (baL (encN d t w)) 0) [] hg rfl (by rw [hr,List.append_nil])
  have h2:=dec_enc e d c t v hto hv hvo hhv (rdAt (baL (encN d t w)) 0) rest hg rfl (by rw [hr,h])
  rw [h1] at h2
  simp only [Prod.mk.injEq] at h2
  refine ⟨h2.1.symm,?_⟩
  have h3:((rdAt (baL (encN d t w)) 0).adv (encN d t w)).pos=((rdAt (baL (encN d t w)) 0).adv (encN d t v)).pos:=by rw [h2.2]
  have h4:(0:Int)+(encN d t w).length=0+(encN d t v).length:=h3
  rw [h,List.length_append] at h4
  exact List.eq_nil_of_length_eq_zero (by omega)
theorem cut_fails {e d c:Nat} {t:Ty} {v:V} {i:Nat} (hck:chkT e d t=0) (hto:Ty.ok e d t) (hv:V.le c v) (hvo:V.ok c v) (hh:hasT d t v=true) (hz:(baL (encN d t v)).size≤536870912) (hi:i<(baL (encN d t v)).size) :
    (longR (decV d t (rdAt ((baL (encN d t v)).extract 0 i) 0)).2).e≠0∧(decodeV e d t ((baL (encN d t v)).extract 0 i)).2.2≠0∧(decodeV e d t ((baL (encN d t v)).extract 0 i)).2.1≤i:=by
  obtain ⟨S,hS⟩:∃ S,S=baL (encN d t v):=⟨_,rfl⟩
  have hb:=dec_back (m:=⟨#[]⟩) hto hv hvo hh (by rw [ByteArray.size_append];show _+0≤_;omega)
  have h0:baL (encN d t v)++(⟨#[]⟩:ByteArray)=baL (encN d t v):=by
    apply ByteArray.ext;rw [ByteArray.data_append];simp
  rw [h0] at hb
  rw [← hS] at hb hi hz ⊢
  obtain ⟨p,hp⟩:∃ p,p=S.extract 0 i:=⟨_,rfl⟩
  have hps:p.size=i:=by rw [hp,ByteArray.size_extract];omega
  rw [← hp]
  have g1:(rdAt p 0).good:=rdAt_good (by omega) (by omega) (by omega)
  have g2:(rdAt S 0).good:=rdAt_good (by omega) (by omega) (by omega)
  have hx:(rdAt p 0).Ext (rdAt S 0):=by
    refine ⟨g1,g2,rfl,rfl,rfl,(strN S).drop i,?_⟩
    show ((strN S).take S.size).drop 0=((strN p).take p.size).drop 0++_
    rw [List.drop_zero,List.drop_zero,List.take_of_length_le (by rw [strN_len];exact Nat.le_refl _),List.take_of_length_le (by rw [strN_len];exact Nat.le_refl _),hp,strN_ext]
    unfold sgm
    rw [List.drop_zero,List.take_append_drop]
  have hA:=(aft_dec d t _ g1).1
  have hE:(longR (decV d t (rdAt p 0)).2).e≠0:=fun z=>by
    obtain ⟨f1,f2,f3⟩:=long_ok z
    obtain ⟨k,k1,k2,k3⟩:=gro_dec d t _ _ hx f1
    rw [hb] at k2
    simp only [Prod.mk.injEq] at k2
    have h3:(rdAt S S.size).pos=((rdAt S 0).to k).pos:=by rw [k2.2]
    have h3:(S.size:Int)=k:=h3
    have h4:k≤(p.size:Nat):=k3.g1.2.1
    omega
  have hB:(longR (decV d t (rdAt p 0)).2).bad≤i:=by
    have h1:=bd_dec d t (rdAt p 0) ⟨g1,by show (0:Int)≤(p.size:Nat);omega⟩
    have h1:(decV d t (rdAt p 0)).2.bad≤(p.size:Nat):=h1
    have h2:=hA.good.2.1
    have h3:(decV d t (rdAt p 0)).2.fin=(p.size:Nat):=hA.fin
    unfold longR
    split
    · unfold Rd.fail;split
      · show (decV d t (rdAt p 0)).2.pos≤_;omega
      · omega
    · omega
  have hD:decodeV e d t p=(default,(longR (decV d t (rdAt p 0)).2).bad,(longR (decV d t (rdAt p 0)).2).e):=by
    unfold decodeV
    rw [if_neg (by omega),if_pos hE]
  rw [hD]
  exact ⟨hE,hE,hB⟩
theorem Cuts_ok (e d c:Nat) (t:Ty) (v w:V) (he:d+(e+1)≤1073741824) (ht:Ty.le (e+1) d t) (hz:Ty.sz (e+1) d t) (hv:V.le c v) (hw:V.le c w) (hc:c≤1073741824) (hs:sizeV c v≤1073741824) (hsw:sizeV c w≤1073741824) :
    AFun Tryz.prog 11 [encT (e+1) d .any fun _=>t,encV c .any fun _=>v,encV c .any fun _=>w] [] (.bool fun _=>true) []:=by
  have hS:=Small_ok (e+1) d t ht
  have hH:=heavy_ok (e+1) d t ht hz
  have hSV:=SmallValue_ok c v hv
  have hSW:=SmallValue_ok c w hw
  have hE:=Encode_ok e d c t v (by omega) ht hv hc
  have hF:=Encode_ok e d c t w (by omega) ht hw hc
  have hCk:=refCheckT_ok e d t (by omega) ht hz
  have hQ:=refEqual_ok c v w hv hw
  obtain ⟨a,ha⟩:∃ a,a=(smallT (e+1) d 12 t 200).1:=⟨_,rfl⟩
  obtain ⟨g,hgg⟩:∃ g,g=heavyT (e+1) d t:=⟨_,rfl⟩
  obtain ⟨b,hb⟩:∃ b,b=(smallV c 12 v 300).1:=⟨_,rfl⟩
  obtain ⟨b2,hb2⟩:∃ b,b=(smallV c 12 w 300).1:=⟨_,rfl⟩
  obtain ⟨S,hSS⟩:∃ S,S=encS (e+1) d c t v:=⟨_,rfl⟩
  obtain ⟨X,hX⟩:∃ X,X=encE (e+1) d c t v:=⟨_,rfl⟩
  obtain ⟨U,hUU⟩:∃ S,S=encS (e+1) d c t w:=⟨_,rfl⟩
  obtain ⟨Y,hY⟩:∃ X,X=encE (e+1) d c t w:=⟨_,rfl⟩
  obtain ⟨K,hK⟩:∃ K,K=chkT (e+1) d t:=⟨_,rfl⟩
  obtain ⟨A,hA⟩:∃ A,A=accV c d t v:=⟨_,rfl⟩
  obtain ⟨B,hB⟩:∃ A,A=accV c d t w:=⟨_,rfl⟩
  obtain ⟨q,hq⟩:∃ q,q=(cmpV c v w == 0):=⟨_,rfl⟩
  have key:K=0→A=true→B=true→X=0∧Y=0∧S.size≤268435456∧U.size≤268435456∧(S=U↔q=true)∧(S.size<U.size→U.extract 0 S.size≠S) ∧
      ∀ i:Nat,i<S.size→∃ D:Int×Int,AFun Tryz.prog 33 [encT (e+1) d .any fun _=>t,.str fun _=>S.extract 0 i] [] (.tup [encV (d+(e+1)) .any fun _=>(decodeV (e+1) d t (S.extract 0 i)).1,.int .i64 fun _=>D.1,.int .i64 fun _=>D.2]) []∧D.2≠0∧D.1≤i:=fun h1 h2 h3=>by
    have hck:chkT (e+1) d t=0:=by rw [← hK];exact h1
    have hto:=chkT_ok ht hck
    have hX0:X=0:=by rw [hX,encE,← hK,← hA,if_neg (by omega),if_neg (by rw [h2];simp)]
    have hY0:Y=0:=by rw [hY,encE,← hK,← hB,if_neg (by omega),if_neg (by rw [h3];simp)]
    have hSe:S=baL (encN d t v):=by rw [hSS,encS,← hX,if_pos hX0]
    have hUe:U=baL (encN d t w):=by rw [hUU,encS,← hY,if_pos hY0]
    rw [hA] at h2
    rw [hB] at h3
    have h4:=accV_size h2
    have h5:=accV_size h3
    simp only [accV,Bool.and_eq_true,decide_eq_true_eq] at h2 h3
    have l1:=encN_len (e+1) d c t v hto hv (V.ok_of_chk h2.1) (by omega) h2.2
    have l2:=encN_len (e+1) d c t w hto hw (V.ok_of_chk h3.1) (by omega) h3.2
    have i1:=enc_inj (rest:=[]) hto hv hw (V.ok_of_chk h2.1) (V.ok_of_chk h3.1) h2.2 h3.2 (by omega)
    have b1:=encN_256 (e+1) d c t v hto hv (V.ok_of_chk h2.1) h2.2
    have b2:=encN_256 (e+1) d c t w hto hw (V.ok_of_chk h3.1) h3.2
    have hSs:S.size≤268435456:=by rw [hSe,baL_size];omega
    have hUs:U.size≤268435456:=by rw [hUe,baL_size];omega
    refine ⟨hX0,hY0,hSs,hUs,⟨fun h=>?_,fun h=>?_⟩,fun h h'=>?_,fun i hi=>?_⟩
    · have:encN d t v=encN d t w:=by rw [← strN_of b1,← strN_of b2,← hSe,← hUe,h]
      have:=(i1 (by rw [List.append_nil];exact this.symm)).1
      rw [hq,this,(cmpV_cmp c).refl];rfl
    · rw [hq] at h
      have:=cmpV_zero c v w hv hw (by simpa using h)
      rw [hSe,hUe,this]
    · have h6:encN d t w=encN d t v++(encN d t w).drop S.size:=by
        have h7:strN (U.extract 0 S.size)=strN S:=by rw [h']
        rw [strN_ext,hSe,strN_of b1] at h7
        unfold sgm at h7
        rw [List.drop_zero,hUe,strN_of b2] at h7
        rw [← hSe] at h7
        conv=>lhs;rw [← List.take_append_drop S.size (encN d t w)]
        rw [h7]
      have h8:=(enc_inj hto hv hw (V.ok_of_chk h2.1) (V.ok_of_chk h3.1) h2.2 h3.2 (by omega) h6).2
      have h9:=List.drop_eq_nil_iff.1 h8
      rw [hUe,baL_size] at h
      omega
    · obtain ⟨c1,c2,c3⟩:=cut_fails hck hto hv (V.ok_of_chk h2.1) h2.2 (by rw [← hSe];omega) (i:=i) (by rw [← hSe];exact hi)
      rw [← hSe] at c1 c2 c3
      exact ⟨(_,_),Decode_ok e d t he ht (S.extract 0 i) (by rw [ByteArray.size_extract];omega) (fun _ z=>absurd z c1),c2,c3⟩
  have hAc:K=0→AFun Tryz.prog 19 [encT (e+1) d .any fun _=>t,encV c .any fun _=>v] [] (.bool fun _=>A) []:=fun h=>by
    rw [hA];exact refAccepts_ok (e+1) d c t v ht (chkT_ok ht (by rw [← hK];exact h)) hv hc hs
  have hAw:K=0→AFun Tryz.prog 19 [encT (e+1) d .any fun _=>t,encV c .any fun _=>w] [] (.bool fun _=>B) []:=fun h=>by
    rw [hB];exact refAccepts_ok (e+1) d c t w ht (chkT_ok ht (by rw [← hK];exact h)) hw hc hsw
  rw [← ha] at hS
  rw [← hgg] at hH
  rw [← hb] at hSV
  rw [← hb2] at hSW
  rw [← hSS,← hX] at hE
  rw [← hUU,← hY] at hF
  rw [← hK] at hCk
  rw [← hq] at hQ
  clear ha hgg hb hb2 hSS hX hUU hY hK hA hB hq
  obtain ⟨M,hM⟩:∃ M,d+(e+1)=M:=⟨_,rfl⟩
  rw [hM] at key
  clear hM he
  obtain ⟨d,rfl⟩:=Ty.le_pos ht
  obtain ⟨c,rfl⟩:=V.le_pos hv
  (apply AFun.of T4_ok mixed4 [.tmp 6] kp11 [(1,[(0,.bool fun _=>true,[]),(4,.bool fun _=>a,[]),(9,.bool fun _=>g,[]),(13,.bool fun _=>b,[]),(18,.bool fun _=>b2,[]),(23,.int .i64 fun _=>K,[]),(29,.bool fun _=>A,[]),(35,.bool fun _=>B,[])]),(2,[(0,.bool fun _=>true,[])]),
    (3,[(2,.tup [.str fun _=>S,.int .i64 fun _=>X],[])]),(4,[(2,.tup [.str fun _=>U,.int .i64 fun _=>Y],[])]),(5,[(12,.bool fun _=>q,[])])] Tryz.func11 (fun _=>?_);(any_goals ((with_reducible refine wk_id ?_);cbv;(try dsimp only [nc] at *);(repeat' (with_reducible first|exact all_nil.2 trivial|exact ob_nil|refine ob_cons ?_ ?_|refine VC.mk rfl ?_ ?_ ?_|refine CondAny.mk (fun _=>?_) (fun _=>?_)|(refine CondVC.mk ?_ ?_<;>intro zq<;>(try simp only [nc,cl] at zq)<;>(try simp only [bl,dl] at zq)<;>(revert zq;intro _))|((first|refine end_exit ?_|refine end_out ?_);cbv;(try dsimp only [nc] at *)))))))
  (any_goals ((with_reducible first|refine hob_none ?_|refine hob_some (fun _=>?_))<;>exact known_ok))
  (any_goals ((with_reducible first|refine hob_none ?_|refine hob_some (fun _=>?_))<;>exact hS))
  (any_goals ((with_reducible first|refine hob_none ?_|refine hob_some (fun _=>?_))<;>exact hH))
  (any_goals ((with_reducible first|refine hob_none ?_|refine hob_some (fun _=>?_))<;>exact hSV))
  (any_goals ((with_reducible first|refine hob_none ?_|refine hob_some (fun _=>?_))<;>exact hSW))
  (any_goals ((with_reducible first|refine hob_none ?_|refine hob_some (fun _=>?_))<;>exact hE))
  (any_goals ((with_reducible first|refine hob_none ?_|refine hob_some (fun _=>?_))<;>exact hF))
  (any_goals ((with_reducible first|refine hob_none ?_|refine hob_some (fun _=>?_))<;>exact hCk))
  (any_goals ((with_reducible first|refine hob_none ?_|refine hob_some (fun _=>?_))<;>exact hQ))
  any_goals (with_reducible refine hob_some (fun z=>?_))<;>first
    | exact hAc (by simp at z;exact z.2)
    | exact hAw (by simp at z;exact z.1.2)
  ((all_goals (try (with_reducible ((first|refine end_ret ?_|refine end_normal ?_);(focus (cbv;(try dsimp only [nc] at *);(try simp only [wl,nc]);(repeat' (with_reducible apply And.intro));all_goals (try exact wZ)))))));(all_goals (try ((with_reducible rw [all_cons]);(try simp only [wl,nc]);(repeat' (with_reducible apply And.intro));(all_goals (try exact cZ))))))
  · intro h1 h2
    rw [h1,h2];rfl
  all_goals
    have hq0:=‹((_∧K=0)∧A=true)∧B=true›
    obtain ⟨k1,k2,k3,k4,k5,k6,k7⟩:=key hq0.1.1.2 hq0.1.2 hq0.2
  · have h9:=‹((¬X=0∨¬Y=0)∨¬decide (S=U)=q)∨S.size<U.size∧U.extract (Int.toNat 0) S.size=S›
    rcases h9 with ((h9|h9)|h9)|h9
    · exact absurd k1 h9
    · exact absurd k2 h9
    · refine absurd ?_ h9
      by_cases hSU:S=U
      · rw [decide_eq_true hSU,k5.1 hSU]
      · rw [decide_eq_false hSU]
        cases hqq:q with
        | false=>rfl
        | true=>exact absurd (k5.2 hqq) hSU
    · exact absurd h9.2 (k6 h9.1)
  refine .loop (fun i:Nat=>⟨123,[(11,.int .i64 fun _=>i),(7,.str fun _=>S),(3,.ptr 3 0)],[(3,.box (cellsT (e+1) (d+1) .any fun _=>t))]⟩)
    (fun i=>i≤S.size) (fun i=>S.size - i) 0 (Nat.zero_le _) ?_ fun i E hi=>?_
  · (focus (cbv;(try dsimp only [nc] at *);(try simp only [wl,nc]);(repeat' (with_reducible apply And.intro));all_goals (try exact wZ)))
  by_cases hlt:i<S.size
  · obtain ⟨D,hD,hD2,hD1⟩:=k7 i hlt
    apply AWp.wk T4_ok mixed4 [(10,[(4,.tup [encV M .any fun _=>(decodeV (e+1) (d+1) t (S.extract 0 i)).1,.int .i64 fun _=>D.1,.int .i64 fun _=>D.2],[])])] kp11 ?_
    have h00:Int.toNat 0=0:=rfl
    (any_goals ((with_reducible refine wk_id ?_);cbv;(try dsimp only [nc] at *);(repeat' (with_reducible first|exact all_nil.2 trivial|exact ob_nil|refine ob_cons ?_ ?_|refine VC.mk rfl ?_ ?_ ?_|refine CondAny.mk (fun _=>?_) (fun _=>?_)|(refine CondVC.mk ?_ ?_<;>intro zq<;>(try simp only [nc,cl] at zq)<;>(try simp only [bl,dl] at zq)<;>(revert zq;intro _))|((first|refine end_exit ?_|refine end_out ?_);cbv;(try dsimp only [nc] at *))))))
    all_goals (try simp only [Int.toNat_natCast,h00])
    (any_goals ((with_reducible first|refine hob_none ?_|refine hob_some (fun _=>?_))<;>exact hD))
    ((all_goals (try (with_reducible ((first|refine end_ret ?_|refine end_normal ?_);(focus (cbv;(try dsimp only [nc] at *);(try simp only [wl,nc]);(repeat' (with_reducible apply And.intro));all_goals (try exact wZ)))))));(all_goals (try ((with_reducible rw [all_cons]);(try simp only [wl,nc]);(repeat' (with_reducible apply And.intro));(all_goals (try exact cZ))))))
    refine end_round (i+1) ⟨by omega,by omega⟩ ?_
    (focus (cbv;(try dsimp only [nc] at *);(try simp only [wl,nc]);(repeat' (with_reducible apply And.intro));all_goals (try exact wZ)))
    exact w64n (by omega)
  · apply AWp.wk T4_ok mixed4 [(10,[(4,.tup [encV M .any fun _=>default,.int .i64 fun _=>0,.int .i64 fun _=>0],[])])] kp11 ?_
    (any_goals ((with_reducible refine wk_id ?_);cbv;(try dsimp only [nc] at *);(repeat' (with_reducible first|exact all_nil.2 trivial|exact ob_nil|refine ob_cons ?_ ?_|refine VC.mk rfl ?_ ?_ ?_|refine CondAny.mk (fun _=>?_) (fun _=>?_)|(refine CondVC.mk ?_ ?_<;>intro zq<;>(try simp only [nc,cl] at zq)<;>(try simp only [bl,dl] at zq)<;>(revert zq;intro _))|((first|refine end_exit ?_|refine end_out ?_);cbv;(try dsimp only [nc] at *))))))
    all_goals (try exact absurd (And.left ‹i<S.size∧_›) hlt)
    ((all_goals (try (with_reducible ((first|refine end_ret ?_|refine end_normal ?_);(focus (cbv;(try dsimp only [nc] at *);(try simp only [wl,nc]);(repeat' (with_reducible apply And.intro));all_goals (try exact wZ)))))));(all_goals (try ((with_reducible rw [all_cons]);(try simp only [wl,nc]);(repeat' (with_reducible apply And.intro));(all_goals (try exact cZ))))))
end Go.Ai

namespace Go.Proofs.YtlplmdipoacnlaaGreatDoor
open Go Go.Ai Go.RowKit Go.ChangeShapes Go.WideShapes Go.ChangeAt
set_option maxRecDepth 100000
theorem cuts_contract (H:Type) (enc:TypeId×Value→H) (W:World) (base:Nat) (args:Array Value) (ds gs:List (DataW H)) (before:List MemPlace)
    (hval:∀ (j:Nat) t v,Tryz.f11.params[j]? = some t→args[j]? = some v→Value.okWide Tryz.prog W .any base t v)
    (hW:DataW.Whole enc Tryz.prog Tryz.f11.params.toList Rows.taggedCutsSpec.vars false W args.toList ds gs before) (hk:Rows.uptoSmall H (ds++gs)=true) (hL:laidMetH Tryz.prog Rows.taggedCutsUptoRow.laid W) :
    Calls Tryz.prog 11 args W fun e W'=>∃ v,e=.returned v∧Rows.taggedCutsSpec.post enc Tryz.prog Tryz.f11 false true false false W args v W':=by
  have hW':=hW
  obtain ⟨p,q,hA,hV,rfl,_,_⟩:=hW
  obtain rfl:=vars_nil hV
  rw [Tryz.params11] at hA hval
  obtain ⟨v0,vs0,d0,ds0,pa0,pb0,hargs,rfl,rfl,t0,r0⟩:=trodAll_cons hA
  obtain ⟨v1,vs1,d1,ds1,pa1,pb1,rfl,rfl,rfl,t1,r1⟩:=trodAll_cons r0
  obtain ⟨v2,vs2,d2,ds2,pa2,pb2,rfl,rfl,rfl,t2,r2⟩:=trodAll_cons r1
  obtain ⟨rfl,rfl,rfl⟩:=trodAll_nil r2
  obtain rfl:args=#[v0,v1,v2]:=by cases args;simp_all
  have hb:Rows.uptoBulkAll ([d0,d1,d2]++[])≤1048576:=of_decide_eq_true hk
  simp only [List.append_nil,Rows.uptoBulkAll] at hb
  obtain ⟨x0,h0,z0,a0⟩:=open_type t0 (by omega)
  obtain ⟨x1,h1,b1,a1⟩:=open_value t1 (by omega)
  obtain ⟨x2,h2,b2,a2⟩:=open_value t2 (by omega)
  refine (calls_law (Cuts_ok 1048575 1048576 1048576 x0 x1 x2 (by omega) h0 z0 h1 h2 (by omega) (by omega) (by omega)) rfl (tabs_of hL) fun i av hi=>?_).mono fun e W' ⟨he,hbel⟩=>⟨_,he,?_⟩
  · match i with
    | 0=>simp only [List.getElem?_cons_zero,Option.some.injEq] at hi;subst hi;exact a0
    | 1=>simp only [List.getElem?_cons_zero,List.getElem?_cons_succ,Option.some.injEq] at hi;subst hi;exact a1
    | 2=>simp only [List.getElem?_cons_zero,List.getElem?_cons_succ,Option.some.injEq] at hi;subst hi;exact a2
    | i+3=>simp at hi
  · refine post_law (s:=Rows.taggedCutsSpec) rfl (by kernel_rfl) rfl ?_ hW' hbel
    rw [Tryz.params11]
    intro t ht
    have:t=26∨t=30:=by simp at ht;grind
    rcases this with rfl|rfl
    · exact ⟨by kernel_rfl,of_decide_eq_true (by kernel_rfl)⟩
    · exact ⟨by kernel_rfl,of_decide_eq_true (by kernel_rfl)⟩
theorem cuts_reads (os:Os) {H:Type} (enc:TypeId×Value→H):∃ places,DataW.whole enc Tryz.prog ((laidWorld os).forCall (fun _ _=>0) ⟨#[],#[.agg #[.int .i64 0,.int .i64 0,.int .i64 0,.int .i64 0,.slice none 0 0,.slice none 0 0,.slice none 0 0],.agg #[.int .i64 0,.int .i64 0,.int .i64 0,.string ⟨#[]⟩,.slice none 0 0,.slice none 0 0],.agg #[.int .i64 0,.int .i64 0,.int .i64 0,.string ⟨#[]⟩,.slice none 0 0,.slice none 0 0]],[]⟩).memory Tryz.f11.params.toList Rows.taggedCutsSpec.vars false (#[.agg #[.int .i64 0,.int .i64 0,.int .i64 0,.int .i64 0,.slice none 0 0,.slice none 0 0,.slice none 0 0],.agg #[.int .i64 0,.int .i64 0,.int .i64 0,.string ⟨#[]⟩,.slice none 0 0,.slice none 0 0],.agg #[.int .i64 0,.int .i64 0,.int .i64 0,.string ⟨#[]⟩,.slice none 0 0,.slice none 0 0]]:Array Value).toList 8=some ([.agg [.lit (.int .i64 0),.lit (.int .i64 0),.lit (.int .i64 0),.lit (.int .i64 0),.nil,.nil,.nil],.agg [.lit (.int .i64 0),.lit (.int .i64 0),.lit (.int .i64 0),.lit (.string []),.nil,.nil],.agg [.lit (.int .i64 0),.lit (.int .i64 0),.lit (.int .i64 0),.lit (.string []),.nil,.nil]],[],places) :=
  ⟨[],by kernel_rfl⟩
theorem cuts_laid (os:Os):laidMet Tryz.prog Rows.taggedCutsUptoRow.laid ((laidWorld os).forCall (fun _ _=>0) ⟨#[],#[.agg #[.int .i64 0,.int .i64 0,.int .i64 0,.int .i64 0,.slice none 0 0,.slice none 0 0,.slice none 0 0],.agg #[.int .i64 0,.int .i64 0,.int .i64 0,.string ⟨#[]⟩,.slice none 0 0,.slice none 0 0],.agg #[.int .i64 0,.int .i64 0,.int .i64 0,.string ⟨#[]⟩,.slice none 0 0,.slice none 0 0]],[]⟩).memory :=
  laidMet_of_run' 8 (by kernel_rfl) (by kernel_rfl)
theorem cuts_lifted (os:Os) (started:os.Started) (H:Type) (enc:TypeId×Value→H) (F:Stop.Interp) :
    ReturnsInHanded {} Tryz.checked os 11 .any ((Rows.OpenSpec.upto Rows.taggedCutsSpec).preRow enc Tryz.prog Tryz.f11 Rows.taggedCutsUptoRow.domain false Rows.taggedCutsUptoRow.laid) (((Rows.OpenSpec.upto Rows.taggedCutsSpec).at F).post enc Tryz.prog Tryz.f11 false true false false):=by
  obtain ⟨places,hx⟩:=cuts_reads os enc
  refine returnsInHanded_of_row (C:=Tryz.checked) (s:=Rows.OpenSpec.upto Rows.taggedCutsSpec) own4 started (by kernel_rfl) Tryz.func11
    (witness_row_at (enc:=enc) (C:=Tryz.checked) false (laidWorld os) #[.agg #[.int .i64 0,.int .i64 0,.int .i64 0,.int .i64 0,.slice none 0 0,.slice none 0 0,.slice none 0 0],.agg #[.int .i64 0,.int .i64 0,.int .i64 0,.string ⟨#[]⟩,.slice none 0 0,.slice none 0 0],.agg #[.int .i64 0,.int .i64 0,.int .i64 0,.string ⟨#[]⟩,.slice none 0 0,.slice none 0 0]] rfl (by kernel_rfl) (by kernel_rfl) (by kernel_rfl)
      (OpenSpec.preRow_of_cond 8 hx (by kernel_rfl) (fun k hk=>by cases hk;kernel_rfl) (by kernel_rfl) (cuts_laid os))) ?_
  intro W base args ds gs before hval hW _ hcond _ hL _ _
  exact cuts_contract H enc W base args ds gs before hval hW (hcond _ rfl) hL
theorem cuts_said:Rows.TaggedCutsUptoSaid :=
  OpenClaim.holds_of_cond 11 Tryz.f11 rfl rfl rfl rfl rfl rfl rfl ⟨rfl,rfl,rfl,rfl,rfl⟩ rfl rfl rfl rfl rfl (by kernel_rfl) Tryz.func11 (by kernel_rfl)
    (of_decide_eq_true (by kernel_rfl)) (by unfold Func.isWrapper;first|(rw [if_pos (by decide +kernel)];kernel_rfl)|(rw [if_neg (by decide +kernel)];exact ⟨rfl,rfl⟩))
    (fun os started H enc _ F=>by rw [OpenClaim.pre_eq_preRow];exact cuts_lifted os started H enc F)
theorem cuts_plain (f:FuncId) (fn:Func) (hf:Tryz.pinned.checked.prog.funcNamed Rows.taggedCutsUptoRow.func=some f) (hfn:Tryz.pinned.checked.prog.funcs[f]? = some fn) :
    false=Tryz.pinned.checked.prog.looks []∧∀ (j:Nat) t,fn.params[j]? = some t→Tryz.pinned.checked.prog.wantsStandIn t=false:=by
  obtain rfl:f=11:=Option.some.inj ((show Tryz.prog.funcNamed Rows.taggedCutsUptoRow.func=some 11 by kernel_rfl).symm.trans hf) |>.symm
  obtain rfl:fn=Tryz.f11:=(Option.some.inj (Tryz.func11.symm.trans hfn)).symm
  refine ⟨by kernel_rfl,fun j t ht=>?_⟩
  rw [Tryz.params11] at ht
  have hm:=Array.mem_of_getElem? ht
  have:t=26∨t=30:=by simp at hm;grind
  rcases this with rfl|rfl
  · exact (show Tryz.prog.wantsStandIn 26=false by kernel_rfl)
  · exact (show Tryz.prog.wantsStandIn 30=false by kernel_rfl)
theorem taggedCuts_holds:Rows.TaggedCutsUptoCardSaid :=
  Claim7.holds_tied_plain_at .later [] _ _ _ _ cuts_said (fun _ h=>by cases h) (by kernel_rfl) (fun _ h=>by cases h) taggedCutsUpto_row_tie rfl ⟨rfl,rfl⟩ (by kernel_rfl) rfl cuts_plain (by kernel_rfl)
#print axioms taggedCuts_holds
end Go.Proofs.YtlplmdipoacnlaaGreatDoor
