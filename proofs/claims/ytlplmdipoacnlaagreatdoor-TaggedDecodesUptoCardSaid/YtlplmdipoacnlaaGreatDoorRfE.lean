/- Chapter 10: a value of a type has not more levels than the type. -/
import Derived.Test.YtlplmdipoacnlaaGreatDoorRfB
import Derived.Test.YtlplmdipoacnlaaGreatDoorDecP
import Derived.Test.YtlplmdipoacnlaaGreatDoorRdC
import Derived.Test.YtlplmdipoacnlaaGreatDoorFnG
import Derived.Test.YtlplmdipoacnlaaGreatDoorRfD
set_option linter.all false
namespace Go.Ai
open Go Go.Proofs
set_option maxRecDepth 100000
set_option maxHeartbeats 4000000
theorem has_kind {d:Nat} {t:Ty} {v:V} (hh:hasT (d+1) t v=true):v.kind=t.kind:=by
 simp only [hasT] at hh
 split at hh
 ·cases hh
 ·omega
theorem kid_ty {d:Nat} {t:Ty} {v:V} (hto:ownT t=0) (hh:hasT (d+1) t v=true) (ho:ownE vsD v=0):∀ x ∈ kz v,∃ y ∈ pS t,hasT d y x=true:=by
 have hk:=has_kind hh
 intro x hx
 unfold kz at hx
 rw [hk] at hx
 simp only [hasT] at hh
 rw [if_neg (by omega)] at hh
 by_cases h8:t.kind=8
 ·rw [if_pos (.inl h8)] at hx
  rw [if_neg (by omega),if_neg (by omega),if_neg (by omega),if_pos h8] at hh
  simp only [Bool.and_eq_true,Bool.not_eq_true',List.any_eq_false] at hh
  have h1:=hh.2 x hx
  refine ⟨t.elem.getD 0 default,?_,by simpa using h1⟩
  simp only [pS];rw [if_pos h8];exact gD (by have:=ownT_elem hto h8;omega)
 by_cases h10:t.kind=10
 ·rw [if_pos (.inr h10)] at hx
  rw [if_neg (by omega),if_neg (by omega),if_neg (by omega),if_neg h8,if_pos h10] at hh
  simp only [Bool.and_eq_true,decide_eq_true_eq] at hh
  have hr:rule10 v=0:=by
   obtain ⟨u1,u2⟩:=V.ok_uses ho
   have h2:=ho
   rw [own_rule u2 (by omega) u1,ruleE10 (by omega)] at h2
   exact h2
  have hl:v.list.length=1:=by
   unfold rule10 sizeE at hr
   grind
  refine ⟨fT (gT t (bQ v.text)),?_,?_⟩
  ·simp only [pS];rw [if_neg h8,if_pos (.inr h10)];exact List.mem_map_of_mem (getTF_mem hh.1)
  ·obtain ⟨a,ha⟩:∃ a,v.list=[a]:=List.length_eq_one_iff.1 hl
   rw [ha] at hx hh
   rw [List.mem_singleton.1 hx]
   simpa using hh.2
 rw [if_neg (by omega)] at hx
 by_cases h9:t.kind=9
 ·rw [if_pos h9] at hx
  rw [if_neg (by omega),if_neg (by omega),if_neg (by omega),if_neg h8,if_neg h10,if_pos h9] at hh
  simp only [Bool.and_eq_true,List.all_eq_true,decide_eq_true_eq] at hh
  obtain ⟨y,hy,rfl⟩:=List.mem_map.1 hx
  obtain ⟨h1,h2⟩:=hh.1 y hy
  refine ⟨_,?_,h2⟩
  simp only [pS];rw [if_neg h8,if_pos (.inl h9)];exact List.mem_map_of_mem (getTF_mem h1)
 ·rw [if_neg h9] at hx;cases hx
theorem lev_le (e:Nat):∀ (d c:Nat) (lev:Int) (t:Ty) (v:V) (l:Int),Ty.ok e d t→0≤l→(runT e d lev t l).1=0→hasT d t v=true→(∀ p ∈ preV c lev v,ownE vsD p.2.2=0)→∀ p ∈ preV c lev v,p.1≤8
 | 0,_,_,_,_,_,h,_,_,_,_=>h.elim
 | d+1,0,_,_,_,_,_,_,_,_,_=>fun p hp=>by simp [preV] at hp
 | d + 1,c+1,lev,t,v,l,hto,h0,hr,hh,ho=>fun p hp=>by
  simp only [runT] at hr
  split at hr
  ·cases hr
  split at hr
  ·cases hr
  split at hr
  ·exact absurd hr ‹_›
  simp only [preV] at hp ho
  rcases List.mem_cons.1 hp with rfl|hp
  ·show lev≤8;omega
  ·obtain ⟨L,hL,hpL⟩:=List.mem_flatten.1 hp
   obtain ⟨x,hx,rfl⟩:=List.mem_map.1 hL
   obtain ⟨y,hy,hyx⟩:=kid_ty hto.1 hh (ho _ (List.mem_cons_self ..)) x hx
   obtain ⟨l1,a1,a2,a3⟩:=goT_sub (pS t) 0 (l - 1) (fun x _ l h=>runT_le e d (lev+1) x l h) (by omega) hr y hy
   exact lev_le e d c (lev+1) y x l1 (hto.2.1 y hy) a1 a3 hyx (fun q hq=>ho q (List.mem_cons_of_mem _ (List.mem_flatten.2 ⟨_,List.mem_map_of_mem hx,hq⟩))) p hpL
theorem chk_of (c:Nat) (v:V) (hs:sV c v≤4096) (hl:∀ p ∈ preV c 1 v,p.1≤8) (ho:∀ p ∈ preV c 1 v,ownE vsD p.2.2=0):chk c v=0:=by
 have hn:(preV c 1 v).length≤4096:=by rw [preV_len];exact hs
 unfold chk checkE
 have:∀ k,k≤(preV c 1 v).length→fI (checkAt vsD (preV c 1 v)) k=0:=by
  intro k
  induction k with
  | zero=>exact fun _=>rfl
  | succ k ih =>
   intro hk
   refine firstI_next (ih (by omega)) ?_
   unfold checkAt
   rw [List.getElem?_eq_getElem (by omega)]
   have hm:=List.getElem_mem (l:=preV c 1 v) (n:=k) (by omega)
   have:=hl _ hm
   show (if 4096≤k then 9 else if 8<((preV c 1 v)[k]).1 then 23 else ownE vsD ((preV c 1 v)[k]).2.2)=(0:Int)
   rw [if_neg (by omega),if_neg (by omega)]
   exact ho _ hm
 exact this _ (Nat.le_refl _)
theorem acc_of (e c d:Nat) (t:Ty) (v:V) (ht:Ty.ok e d t) (hk:chkT e d t=0) (hs:sV c v≤4096) (hh:hasT d t v=true) (ho:∀ p ∈ preV c 1 v,ownE vsD p.2.2=0):accV c d t v=true:=by
 have hr:(runT e d 1 t 4096).1=0:=by
  unfold chkT at hk
  split at hk
  ·exact absurd hk ‹_›
  ·omega
 simp only [accV,chk_of c v hs (lev_le e d c 1 t v 4096 ht (by decide) hr hh ho) ho,decide_true,Bool.true_and,hh]
theorem names_of {l:FL} (hn:∀ x ∈ l,isName x.1=true) (hp:l.Pairwise fun x y=>ltS x.1 y.1):Names l:=by
 intro i hi
 have hd:l.getD i default=l[i]:=by simp [List.getD,hi]
 refine ⟨by rw [hd];exact hn _ (List.getElem_mem hi),fun h0=>?_⟩
 have hd2:l.getD (i - 1) default=l[i - 1]:=by simp [List.getD,show i - 1<l.length by omega]
 rw [hd,hd2]
 exact List.pairwise_iff_getElem.1 hp (i - 1) i (by omega) hi (by omega)
theorem sortN_lt {l:FL} (hd:(l.map (·.1)).Nodup):(sortN l).Pairwise fun x y=>ltS x.1 y.1:=by
 have h1:(sortN l).Pairwise fun x y=>leN x y=true:=by
  refine List.pairwise_mergeSort (fun a b c h1 h2=>?_) (fun a b=>?_) l
  ·rw [leN_iff] at *
   intro h3
   rcases ltS_tri b.1 c.1 with h|h|h
   ·exact h1 (ltS_trans h h3)
   ·rw [h] at h1;exact h1 h3
   ·exact h2 h
  ·rw [Bool.or_eq_true,leN_iff,leN_iff]
   rcases ltS_tri a.1 b.1 with h|h|h
   ·exact .inl fun q=>ltS_asymm h q
   ·refine .inl fun q=>?_
    rw [h] at q;exact ltS_irrefl _ q
   ·exact .inr fun q=>ltS_asymm h q
 have h2:((sortN l).map (·.1)).Nodup:=((List.mergeSort_perm l leN).map _).nodup_iff.2 hd
 have h3:=List.pairwise_map.1 h2
 refine (h1.and h3).imp fun {a b} ⟨q1,q2⟩=>?_
 rw [leN_iff] at q1
 rcases ltS_tri a.1 b.1 with h|h|h
 ·exact h
 ·exact absurd h q2
 ·exact absurd h q1
theorem nodup_few {α:Type} [DecidableEq α]:∀ {l m:List α},l.Nodup→(∀ x ∈ l,x ∈ m)→l.length≤m.length
 | [],_,_,_=>Nat.zero_le _
 | x :: l,m,hd,h=>by
  have hc:=List.nodup_cons.1 hd
  have:=nodup_few (l:=l) (m:=m.erase x) hc.2 fun y hy=>(List.mem_erase_of_ne (fun e=>hc.1 (by rw [← e];exact hy))).2 (h y (List.mem_cons_of_mem _ hy))
  have hm:=h x (List.mem_cons_self ..)
  rw [List.length_erase_of_mem hm] at this
  have:0<m.length:=List.length_pos_of_mem hm
  simp only [List.length_cons];omega
theorem recV_own {l:FL} {m:List ByteArray} (hm:m.length≤64) (hl:∀ x ∈ l,x.1 ∈ m∧isName x.1=true):ownE vsD (recV l)=0:=by
 have hk:=keepR_nodup l
 have hf:((keepR l).map (·.1)).length≤64:=Nat.le_trans (nodup_few hk fun x hx=>by
  obtain ⟨y,hy,rfl⟩:=List.mem_map.1 hx
  exact (hl y (keepR_sub l y hy).1).1) hm
 rw [List.length_map] at hf
 have hr:rule9 (recV l).fields=0:=by
  rw [recV_fields,rule9_zero]
  refine ⟨by rw [sortN_len];exact hf,names_of (fun x hx=>?_) (sortN_lt hk)⟩
  exact (hl x (keepR_sub l x (sortN_mem.1 hx)).1).2
 rw [own_rule (by simp [isNull,recV,V.kind]) (by simp [recV,V.kind]) (by simp [usesB,recV,V.kind,V.int,V.scale,V.text,V.list,ByteArray.size]),ruleE9 (by simp [recV,V.kind])]
 exact hr
theorem hasN_mono {n:ByteArray} {l m:FL} (h:∀ x ∈ l,x ∈ m) (hn:hasN n l=true):hasN n m=true:=by
 obtain ⟨x,hx,hp⟩:=List.any_eq_true.1 hn
 exact List.any_eq_true.2 ⟨x,h x hx,hp⟩
theorem rdD_has:∀ (fs:List TF) (l:FL),(rdD fs l).2=0→(∀ x ∈ l,x ∈ (rdD fs l).1)∧∀ f ∈ fs,hasN (fM f) (rdD fs l).1=true∨(fN f≠1∧fN f≠3)
 | [],l,_=>⟨fun x hx=>hx,fun f hf=>by cases hf⟩
 | f :: fs,l,h=>by
  rw [rdD] at h ⊢
  by_cases c1:hasN (fM f) l=true
  ·rw [if_pos c1] at h ⊢
   obtain ⟨h1,h2⟩:=rdD_has fs l h
   refine ⟨h1,fun g hg=>?_⟩
   rcases List.mem_cons.1 hg with rfl|hg
   ·exact .inl (hasN_mono h1 c1)
   ·exact h2 g hg
  rw [if_neg c1] at h ⊢
  by_cases c2:fN f=1
  ·rw [if_pos c2] at h;exact absurd h (show ¬ (19:Int)=0 by decide)
  rw [if_neg c2] at h ⊢
  by_cases c3:fN f=3
  ·rw [if_pos c3] at h ⊢
   obtain ⟨h1,h2⟩:=rdD_has fs _ h
   refine ⟨fun x hx=>h1 x (List.mem_append_left _ hx),fun g hg=>?_⟩
   rcases List.mem_cons.1 hg with rfl|hg
   ·exact .inl (hasN_mono h1 (by simp [hasN]))
   ·exact h2 g hg
  ·rw [if_neg c3] at h ⊢
   obtain ⟨h1,h2⟩:=rdD_has fs l h
   refine ⟨h1,fun g hg=>?_⟩
   rcases List.mem_cons.1 hg with rfl|hg
   ·exact .inr ⟨c2,c3⟩
   ·exact h2 g hg
theorem hasT_recV {d:Nat} {t:Ty} {l:FL} (hk:t.kind=9) (hto:ownT t=0) (hl:∀ x ∈ l,isNull x.2=false∧∃ f ∈ t.fields,x.1=fM f∧hasT d (fT f) x.2=true) (hn:∀ f ∈ t.fields,hasN (fM f) l=true∨fN f=2) :
 hasT (d+1) t (recV l)=true:=by
 have hnd:=(ownT_nodup hto (.inl hk)).2
 simp only [hasT]
 rw [if_neg (by rw [hk];simp [recV,V.kind]),if_neg (by omega),if_neg (by omega),if_neg (by omega),if_neg (by omega),if_neg (by omega),if_pos hk]
 simp only [Bool.and_eq_true,List.all_eq_true,decide_eq_true_eq,Bool.not_eq_true',List.any_eq_false]
 refine ⟨fun x hx=>?_,fun f hf=>?_⟩
 ·rw [recV_fields] at hx
  obtain ⟨_,f,hf,h1,h2⟩:=hl x (keepR_sub l x (sortN_mem.1 hx)).1
  obtain ⟨g1,g2⟩:=getTF_name hnd hf
  rw [h1,g2]
  exact ⟨g1,h2⟩
 ·rcases hn f hf with h|h
  ·obtain ⟨x,hx,hp⟩:=List.any_eq_true.1 h
   obtain ⟨z,hz,he⟩:=keepR_has l x hx (hl x hx).1
   have:0≤findI (recV l) (fM f):=by
    unfold findI
    exact idxI_of_mem (x:=z) (by rw [recV_fields];exact sortN_mem.2 hz) (by rw [he];simpa using hp)
   intro q
   omega
  ·rw [h];simp
theorem V.ok_of {c:Nat} {v:V} (h:ownE vsD v=0) (hk:∀ x ∈ kz v,V.ok c x):V.ok (c+1) v:=fun p hp=>by
 simp only [preV] at hp
 rcases List.mem_cons.1 hp with rfl|hp
 ·exact h
 ·obtain ⟨L,hL,hpL⟩:=List.mem_flatten.1 hp
  obtain ⟨x,hx,rfl⟩:=List.mem_map.1 hL
  exact V.ok_iff.1 (hk x hx) p hpL
theorem V.ok_up:∀ (c k:Nat) (v:V),V.le c v→V.ok c v→c≤k→V.ok k v
 | 0,_,_,h,_,_=>h.elim
 | c+1,0,_,_,_,h=>by omega
 | c+1,k+1,v,h,ho,hk=>V.ok_of (V.ok_self ho) fun x hx=>V.ok_up c k x (kids_le h hx) (V.ok_kid ho hx) (by omega)
theorem rfL_ok {f:Int→R4} {m:Int} {Q:V→Prop} (hf:∀ q:Int,0≤q→q≤m→(f q).2.2.2=0→q<(f q).2.1∧(f q).2.1≤m∧Q (f q).1) :
 ∀ (n:Nat) (l:List V) (p:Int),0≤p→p≤m→(rfL f n l p).2.2.2=0→(∀ x ∈ l,Q x)→(∀ x ∈ (rfL f n l p).1,Q x)∧(rfL f n l p).1.length=l.length+n
 | 0,l,p,_,_,_,h=>⟨h,rfl⟩
 | n + 1,l,p,h0,h1,he,h=>by
  rw [rfL] at he ⊢
  by_cases c1:(f p).2.2.2≠0
  ·rw [if_pos c1] at he;exact absurd he c1
  ·rw [if_neg c1] at he ⊢
   obtain ⟨k1,k2,k3⟩:=hf p h0 h1 (by omega)
   obtain ⟨r1,r2⟩:=rfL_ok hf n (l++[(f p).1]) (f p).2.1 (by omega) k2 he fun x hx=>by
    rcases List.mem_append.1 hx with hx|hx
    ·exact h x hx
    ·rw [List.mem_singleton.1 hx];exact k3
   refine ⟨r1,?_⟩
   rw [r2,List.length_append,List.length_cons,List.length_nil];omega
theorem rdP_ok {g:ByteArray→Int→R4} {s:ByteArray} {Q:V→Prop} (hs:s.size≤536870912)
 (hg:∀ (u:ByteArray) (q:Int),u.size≤s.size→0≤q→q≤u.size→(g u q).2.2.2=0→Q (g u q).1) (p:Int) (h0:0≤p) (h1:p≤s.size) (he:(rdP g s p).2.2.2=0):Q (rdP g s p).1:=by
 have hA:=refTakeV_good (s:=s) (a:=p) h0 h1 (by omega)
 unfold rdP at he ⊢
 by_cases c1:(tV s p).2.2.2≠0
 ·rw [if_pos c1] at he;exact absurd he c1
 rw [if_neg c1] at he ⊢
 by_cases c2:(s.size:Int) - (tV s p).2.1<(tV s p).1
 ·rw [if_pos c2] at he;exact absurd he (show ¬ (29:Int)=0 by decide)
 rw [if_neg c2] at he ⊢
 obtain ⟨a1,a2,a3,a4⟩:=hA (by omega)
 have hsz:((s.extract 0 ((tV s p).2.1+(tV s p).1).toNat).size:Int)=(tV s p).2.1+(tV s p).1:=by rw [ByteArray.size_extract];omega
 have hq:=hg (s.extract 0 ((tV s p).2.1+(tV s p).1).toNat) (tV s p).2.1 (by omega) (by omega) (by omega)
 generalize g (s.extract 0 ((tV s p).2.1+(tV s p).1).toNat) (tV s p).2.1=X at hq he ⊢
 unfold endP at he ⊢
 by_cases c3:X.2.2.2≠0
 ·rw [if_pos c3] at he;exact absurd he c3
 rw [if_neg c3] at he ⊢
 by_cases c4:X.2.1<(tV s p).2.1+(tV s p).1
 ·rw [if_pos c4] at he;exact absurd he (show ¬ (5:Int)=0 by decide)
 rw [if_neg c4]
 exact hq (by omega)
theorem rdF_ok {t:Ty} {g:Ty→ByteArray→Int→R4} {s:ByteArray} {Q:ByteArray×V→Prop} (hs:s.size≤536870912)
 (hg:∀ (num q:Int),0≤iI (bY num) t.fields→0≤q→q≤s.size→(rdP (g (fT (gT t (bY num)))) s q).2.2.2=0 →
   q<(rdP (g (fT (gT t (bY num)))) s q).2.1∧(rdP (g (fT (gT t (bY num)))) s q).2.1≤s.size∧Q (fM (gT t (bY num)),(rdP (g (fT (gT t (bY num)))) s q).1)) :
 ∀ (n:Nat) (last:Int) (l:FL) (p:Int),0≤p→p≤s.size→(rdF t g s n last l p).2.2.2=0→(∀ x ∈ l,Q x)→∀ x ∈ (rdF t g s n last l p).1,Q x
 | 0,last,l,p,_,_,_,h=>h
 | n + 1,last,l,p,h0,h1,he,h=>by
  have hA:=refTakeV_good (s:=s) (a:=p) h0 h1 (by omega)
  rw [rdF] at he ⊢
  by_cases c1:(tV s p).2.2.2≠0
  ·rw [if_pos c1] at he;exact absurd he c1
  rw [if_neg c1] at he ⊢
  by_cases c2:(tV s p).1<1∨9999<(tV s p).1
  ·rw [if_pos c2] at he;exact absurd he (show ¬ (2:Int)=0 by decide)
  rw [if_neg c2] at he ⊢
  by_cases c3:(tV s p).1≤last
  ·rw [if_pos c3] at he;exact absurd he (show ¬ (24:Int)=0 by decide)
  rw [if_neg c3] at he ⊢
  obtain ⟨a1,a2,a3,a4⟩:=hA (by omega)
  have hB:=refTakeV_good (s:=s) (a:=(tV s p).2.1) (by omega) a2 (by omega)
  by_cases c4:iI (bY (tV s p).1) t.fields<0
  ·rw [if_pos c4] at he ⊢
   by_cases c5:(tV s (tV s p).2.1).2.2.2≠0
   ·rw [if_pos c5] at he;exact absurd he c5
   rw [if_neg c5] at he ⊢
   by_cases c6:(s.size:Int) - (tV s (tV s p).2.1).2.1<(tV s (tV s p).2.1).1
   ·rw [if_pos c6] at he;exact absurd he (show ¬ (29:Int)=0 by decide)
   rw [if_neg c6] at he ⊢
   obtain ⟨b1,b2,b3,b4⟩:=hB (by omega)
   exact rdF_ok hs hg n (tV s p).1 l ((tV s (tV s p).2.1).2.1+(tV s (tV s p).2.1).1) (by omega) (by omega) he h
  ·rw [if_neg c4] at he ⊢
   have hq:=hg (tV s p).1 (tV s p).2.1 (by omega) (by omega) a2
   by_cases c5:(rdP (g (fT (gT t (bY (tV s p).1)))) s (tV s p).2.1).2.2.2≠0
   ·rw [if_pos c5] at he;exact absurd he c5
   rw [if_neg c5] at he ⊢
   obtain ⟨k1,k2,k3⟩:=hq (by omega)
   exact rdF_ok hs hg n (tV s p).1 _ _ (by omega) k2 he fun x hx=>by
    rcases List.mem_append.1 hx with hx|hx
    ·exact h x hx
    ·rw [List.mem_singleton.1 hx];exact k3
theorem ownT_name {t:Ty} (h:ownT t=0) (hk:t.kind=9∨t.kind=10) {f:TF} (hf:f ∈ t.fields):isName (fM f)=true:=by
 obtain ⟨j,hj,rfl⟩:=List.getElem_of_mem hf
 have h1:=ownT_field h hk hj
 rw [fieldE,show t.fields.getD j default=t.fields[j] by simp [List.getD,hj]] at h1
 unfold fldE at h1
 cases q:isName (fM t.fields[j]) with
 | true=>rfl
 | false=>rw [if_pos q] at h1;cases h1
theorem ownT_need {t:Ty} (h:ownT t=0) (hk:t.kind=9∨t.kind=10) {f:TF} (hf:f ∈ t.fields) (h9:t.kind=9):fN f=1∨fN f=2∨fN f=3:=by
 obtain ⟨j,hj,rfl⟩:=List.getElem_of_mem hf
 have h1:=ownT_field h hk hj
 rw [fieldE,show t.fields.getD j default=t.fields[j] by simp [List.getD,hj]] at h1
 unfold fldE at h1
 grind
theorem ok_scal {c d:Nat} {t:Ty} {v:V} (hv:V.le 1 v) (h:accV 1 (d+1) t v=true):hasT (d+1) t v=true∧V.ok (c+1) v:=by
 simp only [accV,Bool.and_eq_true,decide_eq_true_eq] at h
 exact ⟨h.2,V.ok_up 1 (c+1) v hv (V.ok_of_chk h.1) (by omega)⟩
theorem accR_ok {c d:Nat} {t:Ty} {p q:Int} {v:V} (hv:V.le 1 v) (he:(accR (d+1) t p v q).2.2.2=0):hasT (d+1) t (accR (d+1) t p v q).1=true∧V.ok (c+1) (accR (d+1) t p v q).1:=by
 unfold accR at he ⊢
 by_cases c1:accV 1 (d+1) t v=false
 ·rw [if_pos c1] at he;exact absurd he (show ¬ (18:Int)=0 by decide)
 ·rw [if_neg c1]
  exact ok_scal hv (by simpa using c1)
theorem kids_v0 {t:Ty} {i:Int} {n:ByteArray} {l:List V} (h:t.kind=8∨t.kind=10):kz (v0 t i n l)=l:=by
 unfold kz
 exact if_pos h
theorem own_v08 {t:Ty} {l:List V} (hk:t.kind=8) (hs:t.scale=0) (hl:l.length≤256):ownE vsD (v0 t 0 ⟨#[]⟩ l)=0:=by
 rw [own_rule (by simp [isNull,v0,V.kind,hk]) (by simp [v0,V.kind,hk]) (by simp [usesB,v0,V.kind,V.int,V.scale,V.text,V.list,V.fields,ByteArray.size,hk,hs]),ruleE8 (by simp [v0,V.kind,hk])]
 unfold sizeE
 rw [if_neg (by simp only [v0,V.list];omega)]
theorem own_v010 {t:Ty} {n:ByteArray} {x:V} (hk:t.kind=10) (hs:t.scale=0) (hn:isName n=true):ownE vsD (v0 t 0 n [x])=0:=by
 rw [own_rule (by simp [isNull,v0,V.kind,hk]) (by simp [v0,V.kind,hk]) (by simp [usesB,v0,V.kind,V.int,V.scale,V.text,V.list,V.fields,hk,hs]),ruleE10 (by simp [v0,V.kind,hk])]
 unfold rule10 sizeE
 simp [v0,V.text,V.list,hn]
theorem has_v08 {d:Nat} {t:Ty} {l:List V} (hk:t.kind=8) (hl:t.min≤l.length∧(l.length:Int)≤t.max) (h:∀ x ∈ l,hasT d (t.elem.getD 0 default) x=true):hasT (d+1) t (v0 t 0 ⟨#[]⟩ l)=true:=by
 simp only [hasT]
 rw [if_neg (by simp [v0,V.kind]),if_neg (by omega),if_neg (by omega),if_neg (by omega),if_pos hk]
 simp only [Bool.and_eq_true,Bool.not_eq_true',List.any_eq_false,decide_eq_true_eq]
 exact ⟨hl,fun x hx=>by rw [h x hx];simp⟩
theorem has_v010 {d:Nat} {t:Ty} {f:TF} {x:V} (hk:t.kind=10) (hto:ownT t=0) (hf:f ∈ t.fields) (h:hasT d (fT f) x=true):hasT (d+1) t (v0 t 0 (fM f) [x])=true:=by
 obtain ⟨g1,g2⟩:=getTF_name (ownT_nodup hto (.inr hk)).2 hf
 simp only [hasT]
 rw [if_neg (by simp [v0,V.kind]),if_neg (by omega),if_neg (by omega),if_neg (by omega),if_neg (by omega),if_pos hk]
 simp only [Bool.and_eq_true,decide_eq_true_eq]
 show 0≤iI (bQ (fM f)) t.fields∧hasT d (fT (gT t (bQ (fM f)))) x=true
 rw [g2]
 exact ⟨g1,h⟩
theorem ok_null {c:Nat} {v:V} (h:V.ok (c+1) v):isNull v=false:=by
 have:=V.ok_self h
 cases q:isNull v with
 | false=>rfl
 | true=>rw [own_null q] at this;cases this
theorem rdV_ok (e:Nat):∀ (d:Nat) (t:Ty) (s:ByteArray) (p:Int),Ty.le e d t→Ty.ok e d t→s.size≤536870912→0≤p→p≤s.size→(rdV d t s p).2.2.2=0 →
 hasT d t (rdV d t s p).1=true∧V.ok (d+e) (rdV d t s p).1
 | 0,_,_,_,h,_,_,_,_,_=>h.elim
 | d + 1,t,s,p,ht,hto,hs,h0,h1,he=>by
  have hA:=refTakeV_good (s:=s) (a:=p) h0 h1 (by omega)
  have hgt:∀ q,0≤iI q t.fields→gT t q ∈ t.fields:=fun q w=>getTF_mem w
  have hsc:=fun h:t.kind≠3=>tok_scale hto.1 h
  rw [show d+1+e=d+e+1 by omega]
  rw [rdV] at he ⊢
  by_cases k1:t.kind=1
  ·rw [if_pos k1] at he ⊢
   by_cases c1:(s.size:Int)≤p
   ·rw [if_pos c1] at he;exact absurd he (show ¬ (29:Int)=0 by decide)
   rw [if_neg c1] at he ⊢
   by_cases c2:1<byt s p.toNat
   ·rw [if_pos c2] at he;exact absurd he (show ¬ (3:Int)=0 by decide)
   rw [if_neg c2]
   have hl:=byt_lt s p.toNat
   exact ok_scal (v:=v0 t (byt s p.toNat) ⟨#[]⟩ []) v0_nil (acc_bool k1 hto.1 hl.1 (by omega))
  rw [if_neg k1] at he ⊢
  by_cases c1:(tV s p).2.2.2≠0
  ·rw [if_pos c1] at he;exact absurd he c1
  rw [if_neg c1] at he ⊢
  obtain ⟨a1,a2,a3,a4⟩:=hA (by omega)
  by_cases k45:t.kind=4∨t.kind=5
  ·rw [if_pos k45] at he ⊢
   by_cases c2:(s.size:Int) - (tV s p).2.1<(tV s p).1
   ·rw [if_pos c2] at he;exact absurd he (show ¬ (29:Int)=0 by decide)
   rw [if_neg c2] at he ⊢
   exact accR_ok (v0_le (by rw [ByteArray.size_extract];omega) (Nat.zero_le _) fun _ q=>(by cases q)) he
  rw [if_neg k45] at he ⊢
  by_cases k8:t.kind=8
  ·rw [if_pos k8] at he ⊢
   by_cases c2:(tV s p).1<t.min∨t.max<(tV s p).1
   ·rw [if_pos c2] at he;exact absurd he (show ¬ (18:Int)=0 by decide)
   rw [if_neg c2] at he ⊢
   have hx:0<t.elem.length:=by have:=ownT_elem hto.1 k8;omega
   have hm:t.elem.getD 0 default ∈ t.elem:=gD hx
   have hle:Ty.le e d (t.elem.getD 0 default):=ht.2.2.2.2.1 _ hm
   have hmx:=ownT_max hto.1 k8
   obtain ⟨r1,r2⟩:=rfL_ok (m:=s.size) (f:=rdV d (t.elem.getD 0 default) s) (Q:=fun v=>hasT d (t.elem.getD 0 default) v=true∧V.ok (d+e) v) (fun q q0 q1 qz=>by
    have h1:=(rdV_good e d _ s q hle (Ty.ok_elem hto k8 hm) hs q0 q1).2 qz
    exact ⟨h1.1,h1.2,rdV_ok e d _ s q hle (Ty.ok_elem hto k8 hm) hs q0 q1 qz⟩) (tV s p).1.toNat [] (tV s p).2.1 (by omega) a2 he (by simp)
   rw [List.length_nil] at r2
   generalize rfL (rdV d (t.elem.getD 0 default) s) (tV s p).1.toNat [] (tV s p).2.1=L at r1 r2 ⊢
   refine ⟨has_v08 k8 (by omega) fun x hx=>(r1 x hx).1,V.ok_of (own_v08 k8 (hsc (by omega)) (by omega)) fun x hx=>?_⟩
   rw [kids_v0 (.inl k8)] at hx
   exact (r1 x hx).2
  rw [if_neg k8] at he ⊢
  have hP:t.kind=9∨t.kind=10→∀ (num q:Int),0≤iI (bY num) t.fields→0≤q→q≤s.size→(rdP (rdV d (fT (gT t (bY num)))) s q).2.2.2=0 →
   q<(rdP (rdV d (fT (gT t (bY num)))) s q).2.1∧(rdP (rdV d (fT (gT t (bY num)))) s q).2.1≤s.size ∧
   hasT d (fT (gT t (bY num))) (rdP (rdV d (fT (gT t (bY num)))) s q).1=true∧V.ok (d+e) (rdP (rdV d (fT (gT t (bY num)))) s q).1:=fun hk num q hi q0 q1 qz=>by
   have hle:=(ht.2.2.2.2.2 _ (hgt _ hi)).2.2.2
   have hok:=Ty.ok_field hto hk (hgt _ hi)
   have g:=(rdP_good (Q:=fun _=>True) hs trivial (fun u w u1 u2 u3=>⟨trivial,(rdV_good e d _ u w hle hok (by omega) u2 u3).2⟩) q q0 q1).2 qz
   exact ⟨g.1,g.2,rdP_ok (Q:=fun v=>hasT d (fT (gT t (bY num))) v=true∧V.ok (d+e) v) hs (fun u w u1 u2 u3 uz=>rdV_ok e d _ u w hle hok (by omega) u2 u3 uz) q q0 q1 qz⟩
  by_cases k10:t.kind=10
  ·rw [if_pos k10] at he ⊢
   by_cases c2:iI (bY (tV s p).1) t.fields<0
   ·rw [if_pos c2] at he;exact absurd he (show ¬ (21:Int)=0 by decide)
   rw [if_neg c2] at he ⊢
   have h3:=(hP (.inr k10) (tV s p).1 (tV s p).2.1 (by omega) (by omega) a2 he).2.2
   have hf:=hgt (bY (tV s p).1) (by omega)
   generalize rdP (rdV d (fT (gT t (bY (tV s p).1)))) s (tV s p).2.1=X at h3 ⊢
   refine ⟨has_v010 k10 hto.1 hf h3.1,V.ok_of (own_v010 k10 (hsc (by omega)) (ownT_name hto.1 (.inr k10) hf)) fun x hx=>?_⟩
   rw [kids_v0 (.inr k10)] at hx
   rw [List.mem_singleton.1 hx]
   exact h3.2
  rw [if_neg k10] at he ⊢
  by_cases k9:t.kind=9
  ·rw [if_pos k9] at he ⊢
   have h64:=ownT_len hto.1 (.inl k9)
   unfold rdR at he ⊢
   have hF:=rdF_ok (t:=t) (g:=rdV d) (s:=s) (Q:=fun x=>∃ f ∈ t.fields,x.1=fM f∧hasT d (fT f) x.2=true∧V.ok (d+e) x.2) hs (fun num q hi q0 q1 qz=>by
    obtain ⟨g1,g2,g3,g4⟩:=hP (.inl k9) num q hi q0 q1 qz
    exact ⟨g1,g2,_,hgt _ hi,rfl,g3,g4⟩) (tV s p).1.toNat 0 [] (tV s p).2.1 (by omega) a2
   generalize rdF t (rdV d) s (tV s p).1.toNat 0 [] (tV s p).2.1=F at hF he ⊢
   by_cases c2:F.2.2.2≠0
   ·rw [if_pos c2] at he;exact absurd he c2
   rw [if_neg c2] at he ⊢
   by_cases c3:(rdD t.fields F.1).2≠0
   ·rw [if_pos c3] at he;exact absurd he (show ¬ (19:Int)=0 by decide)
   rw [if_neg c3]
   have hD:=(rdD_mem (p:=fun x=>∃ f ∈ t.fields,x.1=fM f∧hasT d (fT f) x.2=true∧V.ok (d+e) x.2) t.fields F.1 (fun f hf h3=>by
    have ha:=hto.2.2 k9 f hf h3
    have hm:(fDef f).getD 0 default ∈ fDef f:=gD (ownT_def hto.1 k9 hf h3)
    simp only [accV,Bool.and_eq_true,decide_eq_true_eq] at ha
    exact ⟨f,hf,rfl,ha.2,V.ok_up e (d+e) _ ((ht.2.2.2.2.2 f hf).2.2.1 _ hm) (V.ok_of_chk ha.1) (by omega)⟩) (hF (by omega) (by simp))).1
   have hH:=(rdD_has t.fields F.1 (by omega)).2
   generalize (rdD t.fields F.1).1=D at hD hH ⊢
   have hDn:∀ x ∈ D,isNull x.2=false:=fun x hx=>by
    obtain ⟨f,hf,h1,h2,h3⟩:=hD x hx
    obtain ⟨c,hc⟩:=Ty.lP (ht.2.2.2.2.2 f hf).2.2.2
    obtain ⟨k,hk⟩:∃ k,d+e=k+1:=⟨c+e,by omega⟩
    rw [hk] at h3
    exact ok_null h3
   refine ⟨hasT_recV k9 hto.1 (fun x hx=>?_) fun f hf=>?_,V.ok_of (recV_own (m:=t.fields.map fM) (by rw [List.length_map];exact h64) fun x hx=>?_) fun x hx=>?_⟩
   ·obtain ⟨f,hf,h1,h2,h3⟩:=hD x hx
    exact ⟨hDn x hx,f,hf,h1,h2⟩
   ·rcases hH f hf with h|h
    ·exact .inl h
    ·have:=ownT_need hto.1 (.inl k9) hf k9
     exact .inr (by omega)
   ·obtain ⟨f,hf,h1,h2,h3⟩:=hD x hx
    rw [h1]
    exact ⟨List.mem_map_of_mem hf,ownT_name hto.1 (.inl k9) hf⟩
   ·have hr:kz (recV D)=(sortN (keepR D)).map (·.2):=by simp [kz,recV,V.kind,V.fields]
    rw [hr] at hx
    obtain ⟨y,hy,rfl⟩:=List.mem_map.1 hx
    obtain ⟨f,hf,h1,h2,h3⟩:=hD y (keepR_sub D y (sortN_mem.1 hy)).1
    exact h3
  ·rw [if_neg k9] at he ⊢
   exact accR_ok v0_nil he
end Go.Ai
