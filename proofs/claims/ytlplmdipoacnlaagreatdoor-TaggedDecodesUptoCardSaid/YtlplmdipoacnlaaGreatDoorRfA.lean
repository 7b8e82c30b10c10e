/- Chapter 4: the document's Record puts the fields in from the end; that list is the sorted one. -/
import Derived.Test.YtlplmdipoacnlaaGreatDoorRec
import Derived.Test.YtlplmdipoacnlaaGreatDoorCheck
import Derived.Test.YtlplmdipoacnlaaGreatDoorFnE
import Derived.Test.YtlplmdipoacnlaaGreatDoorDecB
import Derived.Test.YtlplmdipoacnlaaGreatDoorRdA
set_option linter.all false
namespace Go.Ai
open Go Go.Proofs
set_option maxRecDepth 100000
set_option maxHeartbeats 2000000
theorem findI_nat {v:V} {s:ByteArray} (h:0≤findI v s):findI v s=(v.fields.findIdx (fun x=>decide (x.1=s)):Nat)∧v.fields.findIdx (fun x=>decide (x.1=s))<v.fields.length:=by
 unfold findI iI at h ⊢
 split at h
 ·rw [if_pos (by assumption)];exact ⟨rfl,by assumption⟩
 ·omega
theorem findI_name {v:V} {s:ByteArray} (h:0≤findI v s):(v.fields.getD (findI v s).toNat default).1=s:=by
 obtain ⟨e,q⟩:=findI_nat h
 rw [e,Int.toNat_natCast,getD_at _ _ q]
 have:=List.findIdx_getElem (p:=fun x:ByteArray×V=>decide (x.1=s)) (xs:=v.fields) (w:=q)
 exact of_decide_eq_true this
theorem findI_neg {v:V} {s:ByteArray} (h:findI v s<0) (x:ByteArray×V) (hx:x ∈ v.fields):¬ x.1=s:=by
 unfold findI iI at h
 split at h
 ·omega
 ·rename_i q
  have:v.fields.findIdx (fun x=>decide (x.1=s))=v.fields.length:=by have:=List.findIdx_le_length (p:=fun x:ByteArray×V=>decide (x.1=s)) (xs:=v.fields);omega
  exact of_decide_eq_false (List.findIdx_eq_length.1 this x hx)
def recF (l:List (ByteArray×V)):V:=.mk 9 0 0 ⟨#[]⟩ [] l
def insR (x:ByteArray×V):List (ByteArray×V)→List (ByteArray×V)
 | []=>[x]
 | y :: r=>if cmpS y.1 x.1<0 then y :: insR x r else x :: y :: r
def loI (r:List (ByteArray×V)) (s:ByteArray):Nat:=r.findIdx fun y=>!decide (cmpS y.1 s<0)
def refR:List (ByteArray×V)→List (ByteArray×V)
 | []=>[]
 | x :: l=>if isNull x.2=true∨0≤findI (recF (refR l)) x.1 then refR l else insR x (refR l)
theorem insR_idx (x:ByteArray×V):∀ r:List (ByteArray×V),insR x r=r.insertIdx (loI r x.1) x
 | []=>rfl
 | y :: r=>by
  unfold insR loI
  rw [List.findIdx_cons]
  by_cases h:cmpS y.1 x.1<0
  ·simp only [h,if_true,decide_true,Bool.not_true,cond_false]
   rw [List.insertIdx_succ_cons,insR_idx x r];rfl
  ·simp only [h,if_false,decide_false,Bool.not_false,cond_true]
   rw [List.insertIdx_zero]
theorem insR_perm (x:ByteArray×V):∀ r:List (ByteArray×V),(insR x r).Perm (x :: r)
 | []=>.refl _
 | y :: r=>by
  unfold insR
  split
  ·exact ((insR_perm x r).cons y).trans (.swap ..)
  ·exact .refl _
def SS1 (a b:ByteArray×V):Prop:=ltS a.1 b.1
theorem insR_sorted (x:ByteArray×V):∀ r:List (ByteArray×V),r.Pairwise SS1→(∀ y ∈ r,¬ y.1=x.1)→(insR x r).Pairwise SS1
 | [],_,_=>by simp [insR]
 | y :: r,hs,hn=>by
  have hc:=List.pairwise_cons.1 hs
  unfold insR
  split
  ·rename_i h
   refine List.pairwise_cons.2 ⟨fun z hz=>?_,insR_sorted x r hc.2 fun z hz=>hn z (List.mem_cons_of_mem _ hz)⟩
   rcases List.mem_cons.1 ((insR_perm x r).mem_iff.1 hz) with rfl|q
   ·exact cmpS_lt.1 h
   ·exact hc.1 z q
  ·rename_i h
   have hx:ltS x.1 y.1:=by
    rcases ltS_tri x.1 y.1 with q|q|q
    ·exact q
    ·exact absurd q.symm (hn y (List.mem_cons_self ..))
    ·exact absurd (cmpS_lt.2 q) h
   refine List.pairwise_cons.2 ⟨fun z hz=>?_,hs⟩
   rcases List.mem_cons.1 hz with rfl|q
   ·exact hx
   ·exact ltS_trans hx (hc.1 z q)
theorem findI_any (l:List (ByteArray×V)) (s:ByteArray):0≤findI (recF l) s↔∃ y ∈ l,y.1=s:=by
 constructor
 ·intro h
  obtain ⟨e,q⟩:=findI_nat h
  have:=findI_name h
  rw [getD_at _ _ (by omega)] at this
  exact ⟨_,List.getElem_mem _,this⟩
 ·rintro ⟨y,hy,e⟩
  by_cases h:findI (recF l) s<0
  ·exact absurd e (findI_neg h y hy)
  ·omega
theorem keepR_has:∀ (l:List (ByteArray×V)) (y:ByteArray×V),y ∈ l→isNull y.2=false→∃ z ∈ keepR l,z.1=y.1
 | [],y,h,_=>by cases h
 | x :: r,y,h,hn=>by
  simp only [keepR]
  rcases List.mem_cons.1 h with rfl|h
  ·by_cases q:laterB y r=true
   ·obtain ⟨z,hz,e⟩:=List.any_eq_true.1 q
    simp only [Bool.and_eq_true,decide_eq_true_eq,Bool.not_eq_true'] at e
    obtain ⟨u,hu,e2⟩:=keepR_has r z hz e.2
    rw [if_neg (by rw [q];simp)]
    exact ⟨u,hu,e2.trans e.1⟩
   ·rw [if_pos (by simp [hn,q])]
    exact ⟨y,List.mem_cons_self ..,rfl⟩
  ·obtain ⟨u,hu,e2⟩:=keepR_has r y h hn
   split
   ·exact ⟨u,List.mem_cons_of_mem _ hu,e2⟩
   ·exact ⟨u,hu,e2⟩
theorem refR_keep:∀ l:List (ByteArray×V),(refR l).Perm (keepR l)∧(refR l).Pairwise SS1
 | []=>⟨.refl _,.nil⟩
 | x :: l=>by
  obtain ⟨hp,hs⟩:=refR_keep l
  have hf:0≤findI (recF (refR l)) x.1↔laterB x l=true:=by
   rw [findI_any]
   constructor
   ·rintro ⟨y,hy,e⟩
    obtain ⟨h1,h2⟩:=keepR_sub l y (hp.mem_iff.1 hy)
    exact List.any_eq_true.2 ⟨y,h1,by simp [e,h2]⟩
   ·intro h
    obtain ⟨y,hy,e⟩:=List.any_eq_true.1 h
    simp only [Bool.and_eq_true,decide_eq_true_eq,Bool.not_eq_true'] at e
    obtain ⟨z,hz,e2⟩:=keepR_has l y hy e.2
    exact ⟨z,hp.mem_iff.2 hz,e2.trans e.1⟩
  simp only [refR,keepR]
  by_cases q:isNull x.2=true∨0≤findI (recF (refR l)) x.1
  ·rw [if_pos q,if_neg]
   ·exact ⟨hp,hs⟩
   ·rcases q with q|q
    ·simp [q]
    ·simp [hf.1 q]
  ·have q':=not_or.1 q
   rw [if_neg q,if_pos]
   ·refine ⟨(insR_perm _ _).trans (hp.cons x),insR_sorted _ _ hs fun y hy e=>q'.2 ((findI_any _ _).2 ⟨y,hy,e⟩)⟩
   ·have:laterB x l=false:=by simpa using fun h=>q'.2 (hf.2 h)
    simp [this,q'.1]
theorem refR_sorted (l:List (ByteArray×V)):refR l=sortN (keepR l):=by
 obtain ⟨hp,hs⟩:=refR_keep l
 refine List.Perm.eq_of_pairwise (le:=fun a b=>leN a b=true) ?_ (hs.imp fun h=>?_) (List.pairwise_mergeSort ?_ ?_ _) (hp.trans (List.mergeSort_perm _ _).symm)
 ·intro a b ha hb h1 h2
  have e:a.1=b.1:=by
   simp only [leN,Bool.not_eq_true',decide_eq_false_iff_not,cmpS_lt] at h1 h2
   rcases ltS_tri a.1 b.1 with q|q|q
   ·exact absurd q h2
   ·exact q
   ·exact absurd q h1
  have hb':b ∈ refR l:=hp.mem_iff.2 ((List.mergeSort_perm _ _).mem_iff.1 hb)
  obtain ⟨i,hi,rfl⟩:=List.mem_iff_getElem.1 ha
  obtain ⟨j,hj,rfl⟩:=List.mem_iff_getElem.1 hb'
  have hh:=List.pairwise_iff_getElem.1 hs
  rcases Nat.lt_trichotomy i j with q|q|q
  ·have:=hh i j hi hj q;unfold SS1 at this;rw [e] at this;exact (ltS_irrefl _ this).elim
  ·subst q;rfl
  ·have:=hh j i hj hi q;unfold SS1 at this;rw [e] at this;exact (ltS_irrefl _ this).elim
 ·simp only [leN,Bool.not_eq_true',decide_eq_false_iff_not,cmpS_lt]
  exact fun q=>ltS_asymm h q
 ·intro a b c h1 h2
  simp only [leN,Bool.not_eq_true',decide_eq_false_iff_not,cmpS_lt] at h1 h2 ⊢
  intro q
  rcases ltS_tri a.1 b.1 with w|w|w
  ·exact h2 (ltS_trans q w)
  ·rw [w] at q;exact h2 q
  ·exact h1 w
 ·intro a b
  simp only [leN,Bool.or_eq_true,Bool.not_eq_true',decide_eq_false_iff_not,cmpS_lt]
  rcases ltS_tri a.1 b.1 with w|w|w
  ·exact .inl fun q=>ltS_asymm w q
  ·exact .inl fun q=>by rw [w] at q;exact ltS_irrefl _ q
  ·exact .inr fun q=>ltS_asymm w q
theorem refR_rec (l:List (ByteArray×V)):recF (refR l)=recV l:=by rw [refR_sorted];rfl
theorem refR_len:∀ l:List (ByteArray×V),(refR l).length≤l.length
 | []=>Nat.le_refl _
 | x :: l=>by
  have:=refR_len l
  have h2:=(insR_perm x (refR l)).length_eq
  simp only [refR,List.length_cons] at h2 ⊢
  split<;>omega
theorem refR_mem {l:List (ByteArray×V)} {y:ByteArray×V} (h:y ∈ refR l):y ∈ l:=(keepR_sub l y ((refR_keep l).1.mem_iff.1 h)).1
theorem loI_at {G:List (ByteArray×V)} {s:ByteArray} {j:Nat} (h:j≤G.length) (h1:∀ m,m<j→cmpS (G.getD m default).1 s<0) (h2:G.length≤j∨0≤cmpS (G.getD j default).1 s):loI G s=j:=by
 unfold loI
 by_cases q:j=G.length
 ·rw [q]
  apply List.findIdx_eq_length.2
  intro y hy
  obtain ⟨m,hm,e⟩:=List.mem_iff_getElem.1 hy
  have:=h1 m (by omega)
  rw [getD_at _ _ hm,e] at this
  simpa using this
 ·have hj:j<G.length:=by omega
  rw [List.findIdx_eq hj]
  refine ⟨?_,fun m hm=>?_⟩
  ·have:=h2.resolve_left (by omega)
   rw [getD_at _ _ hj] at this
   simpa using this
  ·have:=h1 m hm
   rw [getD_at _ _ (by omega)] at this
   simpa using this
theorem cat3_le {d a b j:Nat} {l l':List (ByteArray×V)} {y:ByteArray×V} {n0 n1:Unit→Nat} {F0 F1 F2 F3:(Unit→Nat)→List AV} (hn0:n0 ()=a) (hn1:n1 ()=a+1)
 (h1:∀ j,j<a→F1 (fun _=>j)=rowF d (l.getD j default)) (h2:F2 (fun _=>0)=rowF d y) (h3:∀ j,F3 (fun _=>j)=rowF d (l.getD (b+j) default))
 (hl:l'.getD j default=if j<a then l.getD j default else if j=a then y else l.getD (b+(j - (a+1))) default) :
 LeL (catF n1 (catF n0 (catF (fun _=>0) F0 F1) F2) F3 fun _=>j) (rowF d (l'.getD j default)):=by
 refine LeL.of_eq ?_
 rw [hl]
 simp only [catF,hn0,hn1,Nat.not_lt_zero,if_false,Nat.sub_zero]
 by_cases q:j<a
 ·rw [if_pos (by omega),if_pos q,if_pos q,h1 j q]
 ·by_cases q2:j=a
  ·subst q2
   rw [if_pos (by omega),if_neg q,if_neg q,if_pos rfl,Nat.sub_self,h2]
  ·rw [if_neg (by omega),if_neg q,if_neg q2,h3]
theorem refRecV_ok (d:Nat) (l:List (ByteArray×V)) (hl:l.length≤1073741824) (hv:∀ x ∈ l,x.1.size≤1073741824∧V.le d x.2) :
 Af Tryz.prog 108 [slcF d .any fun _=>l] [] (encV (d+1) .any fun _=>recV l) []:=by
 rw [← refR_rec]
 (apply Af.of tF mF [.cell 2 30] kp108 [] Tryz.func108 (fun _=>?_);(any_goals ((with_reducible refine wI ?_);cbv;(try dsimp only [nc] at *);(repeat' (with_reducible first|exact aO|exact oN|refine oC ?_ ?_|refine VC.mk rfl ?_ ?_ ?_|(apply Ca.mk<;>intro _)|(apply Cv.mk<;>intro zq<;>(try simp only [nc,cl] at zq)<;>(try simp only [bl,dl] at zq)<;>(revert zq;intro _))|((first|apply xE|apply uE);cbv;(try dsimp only [nc] at *)))))))
 ((all_goals (try (with_reducible ((first|refine rE ?_|refine nE ?_);(focus (cbv;(try dsimp only [nc] at *);(try simp only [wl,nc]);(repeat' (with_reducible apply And.intro));all_goals (try exact wZ)))))));(all_goals (try ((with_reducible rw [aC]);(try simp only [wl,nc]);(repeat' (with_reducible apply And.intro));(all_goals (try exact cZ))))))
 refine .loop (fun i:Nat=>⟨73,[(4,.int .i64 fun _=>(i:Int) - 1),(3,.ptr 3 0),(2,.ptr 2 0),(0,slcF d .any fun _=>l)],[(2,.box (cells 1 .any fun _=>default)),(3,.box (cells (d+1) .any fun _=>recF (refR (l.drop i))))]⟩)
  (fun i=>i≤l.length) (fun i=>i) l.length (Nat.le_refl _) ?_ fun i E hj=>?_
 ·(focus (cbv;(try dsimp only [nc] at *);(try simp only [wl,nc]);(repeat' (with_reducible apply And.intro));all_goals (try exact wZ)))
  ·rw [w64 (by omega) (by omega)]
  ·rw [List.drop_length];rfl
 have hG:=fun m=>refR_len (l.drop m)
 have hm:=fun m y (h:y ∈ refR (l.drop m))=>hv y (List.mem_of_mem_drop (refR_mem h))
 cases i with
 | zero =>
  rw [List.drop_zero]
  generalize refR l=G
  rw [show ((0:Nat):Int) - 1 = -1 from rfl]
  apply AWp.wk tF mF [(5,[(5,.bool (fun _=>true),[]),(13,.int .i64 (fun _=>0),[])])] kp108 ?_
  (any_goals ((with_reducible refine wI ?_);cbv;(try dsimp only [nc] at *);(repeat' (with_reducible first|exact aO|exact oN|refine oC ?_ ?_|refine VC.mk rfl ?_ ?_ ?_|(apply Ca.mk<;>intro _)|(apply Cv.mk<;>intro zq<;>(try simp only [nc,cl] at zq)<;>(try simp only [bl,dl] at zq)<;>(revert zq;intro _))|((first|apply xE|apply uE);cbv;(try dsimp only [nc] at *))))))
  (all_goals (try simp only [dec_t,dec_f,Int.not_lt,Int.not_le] at *))
  all_goals (try (exfalso;exact absurd ‹(0:Int) ≤ -1› (by decide)))
  ((all_goals (try (with_reducible ((first|refine rE ?_|refine nE ?_);(focus (cbv;(try dsimp only [nc] at *);(try simp only [wl,nc]);(repeat' (with_reducible apply And.intro));all_goals (try exact wZ)))))));(all_goals (try ((with_reducible rw [aC]);(try simp only [wl,nc]);(repeat' (with_reducible apply And.intro));(all_goals (try exact cZ))))))
 | succ k =>
  obtain ⟨G,hg⟩:∃ G,G=refR (l.drop (k+1)):=⟨_,rfl⟩
  have hGl:G.length≤l.length - (k+1):=by rw [hg];simpa using hG (k+1)
  have hGm:=hm (k+1)
  rw [← hg] at hGm ⊢
  have hkl:k<l.length:=by omega
  have hxm:=hv _ (List.getElem_mem hkl)
  rw [← getD_at _ _ hkl] at hxm
  have hd:refR (l.drop k)=if isNull (l.getD k default).2=true∨0≤findI (recF G) (l.getD k default).1 then G else insR (l.getD k default) G:=by
   rw [List.drop_eq_getElem_cons hkl,refR,← hg,getD_at _ _ hkl]
  have hF:=Find_ok d (recF G) (l.getD k default).1 (by show G.length≤_;omega)
  rw [if_pos (show (recF G).kind=9 from rfl)] at hF
  rw [show (((k+1:Nat)):Int) - 1=(k:Int) by omega]
  apply AWp.wk tF mF [(5,[(5,.bool (fun _=>isNull (l.getD k default).2),[]),(13,.int .i64 (fun _=>findI (recF G) (l.getD k default).1),[])])] kp108 ?_
  (any_goals ((with_reducible refine wI ?_);cbv;(try dsimp only [nc] at *);(repeat' (with_reducible first|exact aO|exact oN|refine oC ?_ ?_|refine VC.mk rfl ?_ ?_ ?_|(apply Ca.mk<;>intro _)|(apply Cv.mk<;>intro zq<;>(try simp only [nc,cl] at zq)<;>(try simp only [bl,dl] at zq)<;>(revert zq;intro _))|((first|apply xE|apply uE);cbv;(try dsimp only [nc] at *))))))
  (any_goals ((with_reducible refine bZ ?_)<;>exact (Null_ok d (l.getD k default).2)))
  (any_goals ((with_reducible refine bZ ?_)<;>exact hF))
  ((all_goals (try (with_reducible ((first|refine rE ?_|refine nE ?_);(focus (cbv;(try dsimp only [nc] at *);(try simp only [wl,nc]);(repeat' (with_reducible apply And.intro));all_goals (try exact wZ)))))));(all_goals (try ((with_reducible rw [aC]);(try simp only [wl,nc]);(repeat' (with_reducible apply And.intro));(all_goals (try exact cZ))))))
  ·rename_i q
   refine dE k ⟨by omega,by omega⟩ ?_
   have e:=hd
   rw [if_pos q] at e
   (focus (cbv;(try dsimp only [nc] at *);(try simp only [wl,nc]);(repeat' (with_reducible apply And.intro));all_goals (try exact wZ)))
   ·rw [w64 (by omega) (by omega)]
   ·rw [e]
   ·rw [e];exact fun i _=>LeL.of_eq rfl
  rename_i q
  refine .loop (fun j:Nat=>⟨73,[(5,.int .i64 fun _=>j),(4,.int .i64 fun _=>(k:Int)),(3,.ptr 3 0),(2,.ptr 2 0),(0,slcF d .any fun _=>l)],[(2,.box (cells 1 .any fun _=>default)),(3,.box (cells (d+1) .any fun _=>recF G))]⟩)
   (fun j=>j≤G.length∧∀ m,m<j→cmpS (G.getD m default).1 (l.getD k default).1<0) (fun j=>G.length - j) 0 (by simp) ?_ fun j E hj=>?_
  ·(focus (cbv;(try dsimp only [nc] at *);(try simp only [wl,nc]);(repeat' (with_reducible apply And.intro));all_goals (try exact wZ)))
  apply AWp.wk tF mF [(7,[(17,.int .i64 (fun _=>cmpS (G.getD j default).1 (l.getD k default).1),[])])] kp108 ?_
  have hfl:(recF G).fields.length=G.length:=rfl
  (any_goals ((with_reducible refine wI ?_);cbv;(try dsimp only [nc] at *);(repeat' (with_reducible first|exact aO|exact oN|refine oC ?_ ?_|refine VC.mk rfl ?_ ?_ ?_|(apply Ca.mk<;>intro _)|(apply Cv.mk<;>intro zq<;>(try simp only [nc,cl] at zq)<;>(try simp only [bl,dl] at zq)<;>(revert zq;intro _))|((first|apply xE|apply uE);cbv;(try dsimp only [nc] at *))))))
  any_goals (refine sO (fun hz=>?_);refine text_ok _ _ ?_ ?_)
  ((all_goals (try (with_reducible ((first|refine rE ?_|refine nE ?_);(focus (cbv;(try dsimp only [nc] at *);(try simp only [wl,nc]);(repeat' (with_reducible apply And.intro));all_goals (try exact wZ)))))));(all_goals (try ((with_reducible rw [aC]);(try simp only [wl,nc]);(repeat' (with_reducible apply And.intro));(all_goals (try exact cZ))))))
  ·have:=of_decide_eq_true (eq_of_beq hz)
   have hjl:j<G.length:=by omega
   show (G.getD (j:Int).toNat default).1.size≤_
   rw [Int.toNat_natCast,getD_at _ _ hjl]
   have:=(hGm _ (List.getElem_mem hjl)).1
   omega
  ·show (l.getD (k:Int).toNat default).1.size≤_
   rw [Int.toNat_natCast]
   have:=hxm.1
   omega
  ·rename_i q2
   refine dE (j+1) ⟨⟨by omega,fun m q3=>?_⟩,by omega⟩ (by (focus (cbv;(try dsimp only [nc] at *);(try simp only [wl,nc]);(repeat' (with_reducible apply And.intro));all_goals (try exact wZ)));rw [w64 (by omega) (by omega)];rfl)
   by_cases w:m<j
   ·exact hj.2 m w
   ·rw [show m=j by omega];exact q2.2
  ·rename_i q2
   rw [hfl] at q2
   have e:=hd
   rw [if_neg (fun w=>w.elim (fun w=>by rw [q.1] at w;cases w) (fun w=>absurd w (Int.not_le.2 q.2))),insR_idx,loI_at hj.1 hj.2 q2] at e
   refine dE k ⟨by omega,by omega⟩ ?_
   (focus (cbv;(try dsimp only [nc] at *);(try simp only [wl,nc]);(repeat' (with_reducible apply And.intro));all_goals (try exact wZ)))
   ·rw [w64 (by omega) (by omega)]
   ·rw [e]
    show _=(G.insertIdx j (l.getD k default)).length
    rw [List.length_insertIdx,if_pos hj.1,hfl]
    simp only [Int.toNat_zero,Int.toNat_natCast];omega
   ·rw [e]
    intro i hi
    refine cat3_le (d:=d) (a:=j) (b:=j) (j:=i) (l:=G) (l':=G.insertIdx j (l.getD k default)) (y:=l.getD k default) (by simp) (by simp) (fun m _=>?_) rfl (fun m=>?_) ?_
    ·show rowF d (G.getD (Int.toNat 0+m) default)=_
     rw [Int.toNat_zero,Nat.zero_add]
    ·show rowF d (G.getD ((j:Int).toNat+m) default)=_
     rw [Int.toNat_natCast]
    ·simp only [List.getD_eq_getElem?_getD,List.getElem?_insertIdx]
     by_cases h1:i<j
     ·rw [if_pos h1,if_pos h1]
     ·rw [if_neg h1,if_neg h1]
      by_cases h2:i=j
      ·rw [if_pos h2,if_pos h2,if_pos (show i≤G.length by omega)];rfl
      ·rw [if_neg h2,if_neg h2,show j+(i - (j+1))=i - 1 by omega]
abbrev R4:=V×Int×Int×Int
def rfL (f:Int→R4):Nat→List V→Int→List V×Int×Int×Int
 | 0,l,p=>(l,p,0,0)
 | n+1,l,p=>if (f p).2.2.2≠0 then (l,0,(f p).2.2.1,(f p).2.2.2) else rfL f n (l++[(f p).1]) (f p).2.1
def endP (R:R4) (fin:Int):R4:=if R.2.2.2≠0 then (R.1,0,R.2.2.1,R.2.2.2) else if R.2.1<fin then (R.1,0,R.2.1,5) else (R.1,R.2.1,0,0)
def rdP (g:ByteArray→Int→R4) (s:ByteArray) (p:Int):R4 :=
 if (tV s p).2.2.2≠0 then (default,0,(tV s p).2.2.1,(tV s p).2.2.2) else
 if (s.size:Int) - (tV s p).2.1<(tV s p).1 then (default,0,s.size,29) else
 endP (g (s.extract 0 ((tV s p).2.1+(tV s p).1).toNat) (tV s p).2.1) ((tV s p).2.1+(tV s p).1)
def rdF (t:Ty) (g:Ty→ByteArray→Int→R4) (s:ByteArray):Nat→Int→FL→Int→FL×Int×Int×Int
 | 0,_,l,p=>(l,p,0,0)
 | n + 1,last,l,p =>
  if (tV s p).2.2.2≠0 then (l,0,(tV s p).2.2.1,(tV s p).2.2.2) else
  if (tV s p).1<1∨9999<(tV s p).1 then (l,0,p,2) else if (tV s p).1≤last then (l,0,p,24) else
  if iI (bY (tV s p).1) t.fields<0 then
   if (tV s (tV s p).2.1).2.2.2≠0 then (l,0,(tV s (tV s p).2.1).2.2.1,(tV s (tV s p).2.1).2.2.2) else
   if (s.size:Int) - (tV s (tV s p).2.1).2.1<(tV s (tV s p).2.1).1 then (l,0,s.size,29) else
   rdF t g s n (tV s p).1 l ((tV s (tV s p).2.1).2.1+(tV s (tV s p).2.1).1)
  else
   if (rdP (g (fT (gT t (bY (tV s p).1)))) s (tV s p).2.1).2.2.2≠0 then (l,0,(rdP (g (fT (gT t (bY (tV s p).1)))) s (tV s p).2.1).2.2.1,(rdP (g (fT (gT t (bY (tV s p).1)))) s (tV s p).2.1).2.2.2) else
   rdF t g s n (tV s p).1 (l++[(fM (gT t (bY (tV s p).1)),(rdP (g (fT (gT t (bY (tV s p).1)))) s (tV s p).2.1).1)]) (rdP (g (fT (gT t (bY (tV s p).1)))) s (tV s p).2.1).2.1
def rdD:List TF→FL→FL×Int
 | [],l=>(l,0)
 | f :: fs,l=>if hasN (fM f) l then rdD fs l else if fN f=1 then (l,19) else if fN f=3 then rdD fs (l++[(fM f,(fDef f).getD 0 default)]) else rdD fs l
def rdR (t:Ty) (g:Ty→ByteArray→Int→R4) (s:ByteArray) (n:Nat) (p:Int):R4 :=
 if (rdF t g s n 0 [] p).2.2.2≠0 then (default,0,(rdF t g s n 0 [] p).2.2.1,(rdF t g s n 0 [] p).2.2.2) else
 if (rdD t.fields (rdF t g s n 0 [] p).1).2≠0 then (default,0,(rdF t g s n 0 [] p).2.1,19) else (recV (rdD t.fields (rdF t g s n 0 [] p).1).1,(rdF t g s n 0 [] p).2.1,0,0)
def accR (D:Nat) (t:Ty) (p:Int) (v:V) (q:Int):R4:=if accV 1 D t v=false then (v,0,p,18) else (v,q,0,0)
def v0 (t:Ty) (i:Int) (s:ByteArray) (l:List V):V:=.mk t.kind i t.scale s l []
def rdV:Nat→Ty→ByteArray→Int→R4
 | 0,_,_,_=>(default,0,0,0)
 | d + 1,t,s,p =>
  if t.kind=1 then (if (s.size:Int)≤p then (v0 t 0 ⟨#[]⟩ [],0,s.size,29) else if 1<byt s p.toNat then (v0 t 0 ⟨#[]⟩ [],0,p,3) else (v0 t (byt s p.toNat) ⟨#[]⟩ [],p+1,0,0)) else
  if (tV s p).2.2.2≠0 then (v0 t 0 ⟨#[]⟩ [],0,(tV s p).2.2.1,(tV s p).2.2.2) else
  if t.kind=4∨t.kind=5 then (if (s.size:Int) - (tV s p).2.1<(tV s p).1 then (v0 t 0 ⟨#[]⟩ [],0,s.size,29) else
   accR (d+1) t p (v0 t 0 (s.extract (tV s p).2.1.toNat ((tV s p).2.1+(tV s p).1).toNat) []) ((tV s p).2.1+(tV s p).1)) else
  if t.kind=8 then (if (tV s p).1<t.min∨t.max<(tV s p).1 then (v0 t 0 ⟨#[]⟩ [],0,p,18) else
   (v0 t 0 ⟨#[]⟩ (rfL (rdV d (t.elem.getD 0 default) s) (tV s p).1.toNat [] (tV s p).2.1).1,(rfL (rdV d (t.elem.getD 0 default) s) (tV s p).1.toNat [] (tV s p).2.1).2)) else
  if t.kind=10 then (if iI (bY (tV s p).1) t.fields<0 then (v0 t 0 ⟨#[]⟩ [],0,p,21) else
   (v0 t 0 (fM (gT t (bY (tV s p).1))) [(rdP (rdV d (fT (gT t (bY (tV s p).1)))) s (tV s p).2.1).1],(rdP (rdV d (fT (gT t (bY (tV s p).1)))) s (tV s p).2.1).2)) else
  if t.kind=9 then rdR t (rdV d) s (tV s p).1.toNat (tV s p).2.1 else
  accR (d+1) t p (v0 t (unzigI (tV s p).1) ⟨#[]⟩ []) (tV s p).2.1
theorem refPart_ok (e d c:Nat) (t:Ty) (ht:Ty.le e d t) (s:ByteArray) (p:Int) (hs:s.size≤1073741824) (h0:0≤p) (h1:p≤s.size) (g:ByteArray→Int→R4)
 (hR:∀ (u:ByteArray) (q:Int),u.size≤s.size→0≤q→q≤u.size→Af Tryz.prog 58 [encT e d .any fun _=>t,.str fun _=>u,.int .i64 fun _=>q] []
   (.tup [encV c .any fun _=>(g u q).1,.int .i64 fun _=>(g u q).2.1,.int .i64 fun _=>(g u q).2.2.1,.int .i64 fun _=>(g u q).2.2.2]) []) :
 Af Tryz.prog 77 [encT e d .any fun _=>t,.str fun _=>s,.int .i64 fun _=>p] []
  (.tup [encV c .any fun _=>(rdP g s p).1,.int .i64 fun _=>(rdP g s p).2.1,.int .i64 fun _=>(rdP g s p).2.2.1,.int .i64 fun _=>(rdP g s p).2.2.2]) []:=by
 have hA:=refTake_ok s p h0 h1 (by omega)
 have hAg:=refTakeV_good (s:=s) (a:=p) h0 h1 (by omega)
 obtain ⟨R,hRR⟩:∃ R,R=rdP g s p:=⟨_,rfl⟩
 obtain ⟨A,hAe⟩:∃ A,A=tV s p:=⟨_,rfl⟩
 obtain ⟨X,hX⟩:∃ X,X=g (s.extract 0 (A.2.1+A.1).toNat) A.2.1:=⟨_,rfl⟩
 have hRe:R=if A.2.2.2≠0 then (default,0,A.2.2.1,A.2.2.2) else if (s.size:Int) - A.2.1<A.1 then (default,0,(s.size:Int),29) else endP X (A.2.1+A.1):=by rw [hRR,hX,hAe];rfl
 rw [← hAe] at hA hAg
 rw [← hRR]
 clear hRR hAe
 have hx:A.2.2.2=0→¬ (s.size:Int) - A.2.1<A.1→Af Tryz.prog 58 [encT e d .any fun _=>t,.str fun _=>s.extract 0 (A.2.1+A.1).toNat,.int .i64 fun _=>A.2.1] []
  (.tup [encV c .any fun _=>X.1,.int .i64 fun _=>X.2.1,.int .i64 fun _=>X.2.2.1,.int .i64 fun _=>X.2.2.2]) []:=fun z1 z2=>by
  obtain ⟨a1,a2,a3,a4⟩:=hAg z1
  rw [hX]
  refine hR _ _ ?_ (by omega) ?_
  ·rw [ByteArray.size_extract];omega
  ·rw [ByteArray.size_extract];omega
 clear hX hR
 obtain ⟨d,rfl⟩:=Ty.lP ht
 (apply Af.of tF mF [.cell 6 30,.tmp 7,.tmp 8,.tmp 9] kp77 [(1,[(2,.tup [.int .i64 fun _=>A.1,.int .i64 fun _=>A.2.1,.int .i64 fun _=>A.2.2.1,.int .i64 fun _=>A.2.2.2],[])]),
   (6,[(7,.tup [encV c .any fun _=>X.1,.int .i64 fun _=>X.2.1,.int .i64 fun _=>X.2.2.1,.int .i64 fun _=>X.2.2.2],[])])] Tryz.func77 (fun _=>?_);(any_goals ((with_reducible refine wI ?_);cbv;(try dsimp only [nc] at *);(repeat' (with_reducible first|exact aO|exact oN|refine oC ?_ ?_|refine VC.mk rfl ?_ ?_ ?_|(apply Ca.mk<;>intro _)|(apply Cv.mk<;>intro zq<;>(try simp only [nc,cl] at zq)<;>(try simp only [bl,dl] at zq)<;>(revert zq;intro _))|((first|apply xE|apply uE);cbv;(try dsimp only [nc] at *)))))))
 (any_goals ((with_reducible refine bZ ?_)<;>exact hA))
 all_goals (try (
  have hg1:=hAg ‹A.2.2.2=0›
  have hw1:IntKind.i64.wrap ((s.size:Int) - A.2.1)=(s.size:Int) - A.2.1:=w64 (by omega) (by omega)
  have hw2:IntKind.i64.wrap (A.2.1+A.1)=A.2.1+A.1:=w64 (by omega) (by omega)
  simp only [hw1,hw2] at *))
 any_goals (with_reducible refine nO ?_)<;>(refine Af.wN (hx ‹A.2.2.2=0› (by omega)) ?_;(focus (cbv;(try dsimp only [nc] at *);(try simp only [wl,nc]);(repeat' (with_reducible apply And.intro));all_goals (try exact wZ))))
 ((all_goals (try (with_reducible ((first|refine rE ?_|refine nE ?_);(focus (cbv;(try dsimp only [nc] at *);(try simp only [wl,nc]);(repeat' (with_reducible apply And.intro));all_goals (try exact wZ)))))));(all_goals (try ((with_reducible rw [aC]);(try simp only [wl,nc]);(repeat' (with_reducible apply And.intro));(all_goals (try exact cZ))))))
 all_goals first
  | (have q:R=(default,0,A.2.2.1,A.2.2.2):=by rw [hRe,if_pos ‹¬ A.2.2.2=0›]
     rw [q]
     first
      | done
      | rfl
      | exact fun _ _=>LeL.of_eq rfl)
  | (have q:R=(default,0,(s.size:Int),29):=by rw [hRe,if_neg (fun z=>z ‹A.2.2.2=0›),if_pos ‹(s.size:Int) - A.2.1<A.1›]
     rw [q]
     first
      | done
      | rfl
      | exact fun _ _=>LeL.of_eq rfl)
  | (have q:R=endP X (A.2.1+A.1):=by rw [hRe,if_neg (fun z=>z ‹A.2.2.2=0›),if_neg (by omega)]
     unfold endP at q
     first
      | rw [if_pos ‹¬ X.2.2.2=0›] at q
      | rw [if_neg (fun z=>z ‹X.2.2.2=0›),if_pos ‹X.2.1<A.2.1+A.1›] at q
      | rw [if_neg (fun z=>z ‹X.2.2.2=0›),if_neg (by omega)] at q
     rw [q]
     first
      | done
      | rfl
      | exact fun _ _=>LeL.of_eq rfl)
end Go.Ai
