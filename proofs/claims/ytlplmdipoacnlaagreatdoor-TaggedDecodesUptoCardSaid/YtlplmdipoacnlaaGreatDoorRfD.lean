/- Chapter 10: the program's and the reference's Decode say the same. -/
import Derived.Test.YtlplmdipoacnlaaGreatDoorRfB
import Derived.Test.YtlplmdipoacnlaaGreatDoorRdC
import Derived.Test.YtlplmdipoacnlaaGreatDoorDecP
import Derived.Test.YtlplmdipoacnlaaGreatDoorDecB
import Derived.Test.YtlplmdipoacnlaaGreatDoorRfC
import Derived.Test.YtlplmdipoacnlaaGreatDoorEncC
import Derived.Test.YtlplmdipoacnlaaGreatDoorRetP
set_option linter.all false
namespace Go.Ai
open Go Go.Proofs
set_option maxRecDepth 100000
set_option maxHeartbeats 4000000
def rO (s:ByteArray) (p fin:Nat):Rd:=⟨s,p,fin,0,0⟩
theorem cut_size {s:ByteArray} {fin:Nat} (h:fin≤s.size):(s.extract 0 fin).size=fin:=by rw [ByteArray.size_extract];omega
theorem room_cut {s:ByteArray} {p fin:Nat} (hp:p≤fin) (h:fin≤s.size):(rO s p fin).room=(rdAt (s.extract 0 fin) p).room:=by
 show ((strN s).take (fin:Int).toNat).drop (p:Int).toNat=((strN (s.extract 0 fin)).take ((s.extract 0 fin).size:Int).toNat).drop (p:Int).toNat
 rw [Int.toNat_natCast,Int.toNat_natCast,Int.toNat_natCast,cut_size h,strN_ext]
 unfold sgm
 rw [List.drop_zero,List.take_take,Nat.min_self]
theorem num_same {s:ByteArray} {p fin:Nat} (hp:p≤fin) (h:fin≤s.size) (hs:s.size≤536870912) :
 (∃ n q:Nat,tV (s.extract 0 fin) p=((n:Int),(q:Int),0,0)∧nR (rO s p fin)=((n:Int),rO s q fin)∧p<q∧q≤fin∧n≤4611686018427387903) ∨
 (∃ bad e:Int,e≠0∧tV (s.extract 0 fin) p=(0,0,bad,e)∧nR (rO s p fin)=(0,⟨s,p,fin,bad,e⟩)):=by
 have hr:=room_cut hp h
 have hc:=cut_size h
 have hg:=rdAt_good (s:=s.extract 0 fin) (a:=(p:Int)) (by omega) (by omega) (by omega)
 cases hk:takeN (rdAt (s.extract 0 fin) p).room 0 0 with
 | ok x =>
  obtain ⟨n,k⟩:=x
  obtain ⟨q1,q2,q3⟩:=take_len (room_byte _) hk
  have hl:(rdAt (s.extract 0 fin) p).room.length=(((s.extract 0 fin).size:Int) - p).toNat:=Rd.room_len hg
  have hm:=take_most _ _ _ _ _ hk
  refine .inl ⟨n,p+k,by rw [refTake_get hk];simp,?_,by omega,by omega,hm⟩
  rw [numR_get (r:=rO s p fin) rfl (by rw [hr];exact hk)]
  simp [rO,Rd.to]
 | error k =>
  have hr2:tV (s.extract 0 fin) p=(0,0,if k=1 then (((s.extract 0 fin).size:Int),29) else ((p:Int),3)):=by simp only [tV,hk]
  have hn:nR (rO s p fin)=(0,if k=1 then (rO s p fin).fail fin 29 else (rO s p fin).fail p 3):=by
   have hz:(rO s p fin).e=0:=rfl
   unfold nR
   rw [if_neg (fun z=>z hz),hr,hk]
   rfl
  rw [hc] at hr2
  by_cases h1:k=1
  ·rw [if_pos h1] at hr2 hn
   exact .inr ⟨_,_,by decide,hr2,hn⟩
  ·rw [if_neg h1] at hr2 hn
   exact .inr ⟨_,_,by decide,hr2,hn⟩
def Agr (s:ByteArray) (p fin:Nat) (x:V×Rd) (y:R4):Prop :=
 (∃ q:Nat,p<q∧q≤fin∧x=(y.1,rO s q fin)∧y.2=((q:Int),0,0))∨(∃ bad e:Int,e≠0∧x.2.e=e∧x.2.bad=bad∧y.2=(0,bad,e))
theorem fail_keep {r:Rd} (h:r.e≠0) (a e:Int):r.fail a e=r:=by unfold Rd.fail;rw [if_neg h]
theorem ext_ext {s:ByteArray} {a b fin:Nat} (h:b≤fin) (hf:fin≤s.size):(s.extract 0 fin).extract a b=s.extract a b:=by
 rw [← baL_strN ((s.extract 0 fin).extract a b),strN_ext,← baL_strN (s.extract a b),strN_ext]
 congr 1
 unfold sgm
 rw [strN_ext]
 unfold sgm
 rw [List.drop_zero,List.take_take,Nat.min_eq_left h]
theorem list_same {s:ByteArray} {fin:Nat} {f:Rd→V×Rd} {g:Int→R4} (hf:∀ r:Rd,r.e≠0→f r=(default,r)) (h:∀ p:Nat,p≤fin→Agr s p fin (f (rO s p fin)) (g p)) :
 ∀ (n:Nat) (l:List V) (p:Nat),p≤fin →
 (∃ q:Nat,p≤q∧q≤fin∧listR f n l (rO s p fin)=((rfL g n l p).1,rO s q fin)∧(rfL g n l p).2=((q:Int),0,0)) ∨
 (∃ bad e:Int,e≠0∧(listR f n l (rO s p fin)).2.e=e∧(listR f n l (rO s p fin)).2.bad=bad∧(rfL g n l p).2=(0,bad,e))
 | 0,l,p,hp=>.inl ⟨p,Nat.le_refl _,hp,rfl,rfl⟩
 | n + 1,l,p,hp=>by
  rw [listR,if_neg (show ¬ (rO s p fin).e≠0 from fun z=>z rfl),rfL]
  rcases h p hp with ⟨q,h1,h2,h3,h4⟩|⟨bad,e,he,h1,h2,h3⟩
  ·rw [if_neg (by rw [h4];simp),h3,h4]
   rcases list_same hf h n (l++[(g p).1]) q h2 with ⟨q2,k1,k2,k3,k4⟩|⟨bad,e,he,k1,k2,k3⟩
   ·exact .inl ⟨q2,by omega,k2,k3,k4⟩
   ·exact .inr ⟨bad,e,he,k1,k2,k3⟩
  ·rw [if_pos (by rw [h3];exact he),h3]
   have hl:listR f n (l++[(f (rO s p fin)).1]) (f (rO s p fin)).2=(l++[(f (rO s p fin)).1],(f (rO s p fin)).2):=listR_err _ _ _ (.inr (by rw [h1];exact he))
   rw [hl]
   exact .inr ⟨bad,e,he,h1,h2,rfl⟩
theorem sub_same {s:ByteArray} {p fin:Nat} (hp:p≤fin) (h:fin≤s.size) (hs:s.size≤536870912) :
 (∃ n q:Nat,tV (s.extract 0 fin) p=((n:Int),(q:Int),0,0)∧p<q∧q+n≤fin∧sub2 (rO s p fin)=rO s (q+n) fin∧subR (rO s p fin)=rO s q (q+n)) ∨
 (∃ n q:Nat,tV (s.extract 0 fin) p=((n:Int),(q:Int),0,0)∧(fin:Int) - q<n∧sub2 (rO s p fin)=⟨s,q,fin,fin,29⟩) ∨
 (∃ bad e:Int,e≠0∧tV (s.extract 0 fin) p=(0,0,bad,e)∧sub2 (rO s p fin)=⟨s,p,fin,bad,e⟩):=by
 rcases num_same hp h hs with ⟨n,q,h1,h2,h3,h4,h5⟩|⟨bad,e,he,h1,h2⟩
 ·have hb:sub2 (rO s p fin)=(bR (rO s q fin) n).2:=by unfold sub2;rw [h2]
  unfold bR at hb
  rw [if_neg (show ¬ (rO s q fin).e≠0 from fun z=>z rfl)] at hb
  by_cases c:(fin:Int) - q<n
  ·rw [if_pos (show (rO s q fin).fin - (rO s q fin).pos<n from c)] at hb
   exact .inr (.inl ⟨n,q,h1,c,hb⟩)
  ·rw [if_neg (show ¬ (rO s q fin).fin - (rO s q fin).pos<n from c)] at hb
   have hb2:sub2 (rO s p fin)=rO s (q+n) fin:=by rw [hb];simp [rO,Rd.to]
   refine .inl ⟨n,q,h1,h3,by omega,hb2,?_⟩
   unfold subR
   rw [hb2,h2]
   rfl
 ·refine .inr (.inr ⟨bad,e,he,h1,?_⟩)
  unfold sub2;rw [h2];show (bR ⟨s,_,_,bad,e⟩ 0).2=_;rw [bR,if_pos he]
theorem part_same {α:Type} {s:ByteArray} (hs:s.size≤536870912) {f:Rd→V×Rd} {g:ByteArray→Int→R4} {F:α→V→α} {k:α→Rd→α×Rd} (hk:∀ l r,k l r=(F l (f r).1,(f r).2))
 (h:∀ p fin:Nat,p≤fin→fin≤s.size→Agr s p fin (f (rO s p fin)) (g (s.extract 0 fin) p)) (l:α) (p fin:Nat) (hp:p≤fin) (hf:fin≤s.size) :
 (∃ q:Nat,p<q∧q≤fin∧partR k l (rO s p fin)=(F l (rdP g (s.extract 0 fin) p).1,rO s q fin)∧(rdP g (s.extract 0 fin) p).2=((q:Int),0,0)) ∨
 (∃ bad e:Int,e≠0∧(partR k l (rO s p fin)).2.e=e∧(partR k l (rO s p fin)).2.bad=bad∧(rdP g (s.extract 0 fin) p).2=(0,bad,e)):=by
 have hc:=cut_size hf
 unfold partR rdP
 rcases sub_same hp hf hs with ⟨n,q,h1,h2,h3,h4,h5⟩|⟨n,q,h1,h2,h3⟩|⟨bad,e,he,h1,h2⟩
 ·rw [h1,h4,h5,if_neg (show ¬ (rO s (q+n) fin).e≠0 from fun z=>z rfl),hk]
  simp only [ne_eq,not_true_eq_false,if_false]
  rw [if_neg (show ¬ ((s.extract 0 fin).size:Int) - (q:Int)<(n:Int) by rw [hc];omega)]
  rw [show ((q:Int)+(n:Int)).toNat=q+n by omega,ext_ext h3 hf]
  have hq:=h q (q+n) (by omega) (by omega)
  generalize hX:f (rO s q (q+n))=X at hq
  generalize hY:g (s.extract 0 (q+n)) (q:Int)=Y at hq
  unfold endP
  rcases hq with ⟨q2,k1,k2,k3,k4⟩|⟨bad,e,he,k1,k2,k3⟩
  ·rw [k3,k4,if_neg (show ¬ ¬ (0:Int)=0 from fun z=>z rfl)]
   unfold longR
   by_cases c:q2<q+n
   ·rw [if_pos (show (q2:Int)<(q:Int)+(n:Int) by omega),if_pos (show (rO s q2 (q+n)).pos<(rO s q2 (q+n)).fin by show (q2:Int)<((q+n:Nat):Int);omega)]
    refine .inr ⟨q2,5,by decide,?_,?_,rfl⟩
    ·rfl
    ·rfl
   ·rw [if_neg (show ¬ (q2:Int)<(q:Int)+(n:Int) by omega),if_neg (show ¬ (rO s q2 (q+n)).pos<(rO s q2 (q+n)).fin by show ¬ (q2:Int)<((q+n:Nat):Int);omega)]
    refine .inl ⟨q+n,by omega,h3,?_,by rw [show q2=q+n by omega]⟩
    unfold backR
    rw [if_neg (show ¬ (rO s q2 (q+n)).e≠0 from fun z=>z rfl)]
  ·rw [k3,if_pos he]
   have hl:longR X.2=X.2:=by
    unfold longR
    split
    ·exact fail_keep (by rw [k1];exact he) _ _
    ·rfl
   refine .inr ⟨bad,e,he,?_,?_,rfl⟩
   ·unfold backR;rw [hl,if_pos (by rw [k1];exact he),k1,k2];rfl
   ·unfold backR;rw [hl,if_pos (by rw [k1];exact he),k1,k2];rfl
 ·rw [h1,h3,if_pos (show (Rd.mk s q fin fin 29).e≠0 by show ¬ (29:Int)=0;decide)]
  simp only [ne_eq,not_true_eq_false,if_false]
  rw [if_pos (by rw [hc];exact h2),hc]
  exact .inr ⟨fin,29,by decide,rfl,rfl,rfl⟩
 ·rw [h1,h2,if_pos (show (Rd.mk s p fin bad e).e≠0 from he),if_pos he]
  exact .inr ⟨bad,e,he,rfl,rfl,rfl⟩
theorem skip_part {f:Ty→Rd→V×Rd} {t:Ty} {num:Int} (hi:iI (bY num) t.fields<0) (l:FL) (r:Rd):partR (fldK f t num) l r=(l,sub2 r):=by
 unfold partR
 split
 ·rfl
 ·have hk:fldK f t num l (subR r)=(l,(subR r).to (subR r).fin):=by unfold fldK;rw [if_pos hi]
  rw [hk]
  have hl:longR ((subR r).to (subR r).fin)=(subR r).to (subR r).fin:=by
   unfold longR
   rw [if_neg (show ¬ ((subR r).to (subR r).fin).pos<((subR r).to (subR r).fin).fin from Int.lt_irrefl _)]
  rw [hl]
  unfold backR
  rw [if_neg (show ¬ ((subR r).to (subR r).fin).e≠0 from fun z=>z rfl)]
theorem part_err {α:Type} {k:α→Rd→α×Rd} {l:α} {r:Rd} (h:r.e≠0):partR k l r=(l,r):=by
 unfold partR
 rw [sub2_err h,if_pos h]
theorem fields_agr {s:ByteArray} (hs:s.size≤536870912) {fin:Nat} (hf:fin≤s.size) {f:Ty→Rd→V×Rd} {g:Ty→ByteArray→Int→R4} {t:Ty}
 (h:∀ num:Int,0≤iI (bY num) t.fields→∀ p fin:Nat,p≤fin→fin≤s.size→Agr s p fin (f (fT (gT t (bY num))) (rO s p fin)) (g (fT (gT t (bY num))) (s.extract 0 fin) p)) :
 ∀ (n:Nat) (last:Int) (l:FL) (p:Nat),p≤fin →
 (∃ q:Nat,p≤q∧q≤fin∧fieldsR (fldK f t) n last l (rO s p fin)=((rdF t g (s.extract 0 fin) n last l p).1,rO s q fin)∧(rdF t g (s.extract 0 fin) n last l p).2=((q:Int),0,0)) ∨
 (∃ bad e:Int,e≠0∧(fieldsR (fldK f t) n last l (rO s p fin)).2.e=e∧(fieldsR (fldK f t) n last l (rO s p fin)).2.bad=bad∧(rdF t g (s.extract 0 fin) n last l p).2=(0,bad,e))
 | 0,last,l,p,hp=>.inl ⟨p,Nat.le_refl _,hp,rfl,rfl⟩
 | n + 1,last,l,p,hp=>by
  have hc:=cut_size hf
  rw [fieldsR,if_neg (show ¬ (rO s p fin).e≠0 from fun z=>z rfl),rdF]
  rcases num_same hp hf hs with ⟨m,q,h1,h2,h3,h4,h5⟩|⟨bad,e,he,h1,h2⟩
  ·unfold stepR
   rw [h1,h2,if_neg (show ¬ (rO s q fin).e≠0 from fun z=>z rfl)]
   simp only [ne_eq,not_true_eq_false,if_false]
   have herr:∀ a e:Int,e≠0→fieldsR (fldK f t) n (m:Int) (partR (fldK f t (m:Int)) l ((rO s q fin).fail a e)).1 (partR (fldK f t (m:Int)) l ((rO s q fin).fail a e)).2=(l,⟨s,q,fin,a,e⟩):=fun a e he=>by
    have hfe:(rO s q fin).fail a e=⟨s,q,fin,a,e⟩:=rfl
    rw [hfe,part_err (r:=⟨s,q,fin,a,e⟩) he,fieldsR_err _ _ _ _ (.inr he)]
   by_cases c1:(m:Int)<1∨9999<(m:Int)
   ·rw [if_pos c1,if_pos c1,herr _ _ (by decide)]
    exact .inr ⟨p,2,by decide,rfl,rfl,rfl⟩
   rw [if_neg c1,if_neg c1]
   by_cases c2:(m:Int)≤last
   ·rw [if_pos c2,if_pos c2,herr _ _ (by decide)]
    exact .inr ⟨p,24,by decide,rfl,rfl,rfl⟩
   rw [if_neg c2,if_neg c2]
   by_cases c3:iI (bY (m:Int)) t.fields<0
   ·rw [if_pos c3,skip_part c3]
    rcases sub_same h4 hf hs with ⟨a,b,k1,k2,k3,k4,k5⟩|⟨a,b,k1,k2,k3⟩|⟨bad,e,he,k1,k2⟩
    ·rw [k1,k4,hc]
     simp only [not_true_eq_false,if_false]
     rw [if_neg (show ¬ (fin:Int) - (b:Int)<(a:Int) by omega),show (b:Int)+(a:Int)=((b+a:Nat):Int) by omega]
     rcases fields_agr hs hf h n (m:Int) l (b+a) k3 with ⟨q2,r1,r2,r3,r4⟩|⟨bad,e,he,r1,r2,r3⟩
     ·exact .inl ⟨q2,by omega,r2,r3,r4⟩
     ·exact .inr ⟨bad,e,he,r1,r2,r3⟩
    ·rw [k1,k3,hc,fieldsR_err _ _ _ _ (.inr (show (Rd.mk s b fin fin 29).e≠0 by show ¬ (29:Int)=0;decide))]
     simp only [not_true_eq_false,if_false]
     rw [if_pos k2]
     exact .inr ⟨fin,29,by decide,rfl,rfl,rfl⟩
    ·rw [k1,k2,fieldsR_err _ _ _ _ (.inr (show (Rd.mk s q fin bad e).e≠0 from he)),if_pos he]
     exact .inr ⟨bad,e,he,rfl,rfl,rfl⟩
   ·rw [if_neg c3]
    have hk:∀ (l:FL) (r:Rd),fldK f t (m:Int) l r=(l++[(fM (gT t (bY (m:Int))),(f (fT (gT t (bY (m:Int)))) r).1)],(f (fT (gT t (bY (m:Int)))) r).2):=fun l r=>by
     unfold fldK;rw [if_neg c3]
    rcases part_same hs (F:=fun (l:FL) v=>l++[(fM (gT t (bY (m:Int))),v)]) hk (h (m:Int) (by omega)) l q fin h4 hf with ⟨q2,k1,k2,k3,k4⟩|⟨bad,e,he,k1,k2,k3⟩
    ·rw [k3,k4]
     simp only [not_true_eq_false,if_false]
     rcases fields_agr hs hf h n (m:Int) (l++[(fM (gT t (bY (m:Int))),(rdP (g (fT (gT t (bY (m:Int))))) (s.extract 0 fin) q).1)]) q2 k2 with ⟨q3,r1,r2,r3,r4⟩|⟨bad,e,he,r1,r2,r3⟩
     ·exact .inl ⟨q3,by omega,r2,r3,r4⟩
     ·exact .inr ⟨bad,e,he,r1,r2,r3⟩
    ·rw [k3,if_pos he,fieldsR_err _ _ _ _ (.inr (by rw [k1];exact he))]
     exact .inr ⟨bad,e,he,k1,k2,rfl⟩
  ·rw [h1,h2,if_pos (show (Rd.mk s p fin bad e).e≠0 from he),if_pos he]
   exact .inr ⟨bad,e,he,rfl,rfl,rfl⟩
theorem defsR_err:∀ (fs:List TF) (l:FL) (r:Rd),r.e≠0→(defsR fs l r).2=r
 | [],_,_,_=>rfl
 | f :: fs,l,r,h=>by
  rw [defsR,fail_keep h]
  split
  ·exact defsR_err fs l r h
  split
  ·exact defsR_err fs l r h
  split
  ·exact defsR_err fs _ r h
  ·exact defsR_err fs l r h
theorem defs_agr:∀ (fs:List TF) (l:FL) (r:Rd),r.e=0 →
 ((rdD fs l).2=0∧defsR fs l r=((rdD fs l).1,r))∨((rdD fs l).2≠0∧(defsR fs l r).2.e=19∧(defsR fs l r).2.bad=r.pos)
 | [],_,_,_=>.inl ⟨rfl,rfl⟩
 | f :: fs,l,r,h=>by
  rw [defsR,rdD]
  split
  ·exact defs_agr fs l r h
  split
  ·have hf:r.fail r.pos 19=⟨r.s,r.pos,r.fin,r.pos,19⟩:=by unfold Rd.fail;rw [if_pos h]
   rw [hf]
   have:=defsR_err fs l ⟨r.s,r.pos,r.fin,r.pos,19⟩ (show (19:Int)≠0 by decide)
   rw [this]
   exact .inr ⟨(show (19:Int)≠0 by decide),rfl,rfl⟩
  split
  ·exact defs_agr fs _ r h
  ·exact defs_agr fs l r h
theorem byt_cut {s:ByteArray} {p fin:Nat} (hp:p<fin) (hf:fin≤s.size):byt (s.extract p (p+1)) 0=byt (s.extract 0 fin) p:=by
 have h1:(s.extract p (p+1)).data[0]? = s.data[p]? := by
  rw [ByteArray.data_extract,Array.getElem?_extract]
  have:s.data.size=s.size:=rfl
  rw [if_pos (by omega)]
  simp
 have h2:(s.extract 0 fin).data[p]? = s.data[p]? := by
  rw [ByteArray.data_extract,Array.getElem?_extract]
  have:s.data.size=s.size:=rfl
  rw [if_pos (by omega)]
  simp
 unfold byt
 rw [h1,h2]
theorem acc_bool {d:Nat} {t:Ty} (hk:t.kind=1) (ho:ownT t=0) {b:Int} (h0:0≤b) (h1:b≤1):accV 1 (d+1) t (v0 t b ⟨#[]⟩ [])=true:=by
 have hs:=tok_scale ho (by omega)
 have hh:hasT (d+1) t (v0 t b ⟨#[]⟩ [])=true:=by
  simp only [hasT]
  rw [if_neg (by simp [v0,V.kind]),if_neg (by omega),if_neg (by omega),if_neg (by omega),if_neg (by omega),if_neg (by omega),if_neg (by omega)]
 have hc:chk 1 (v0 t b ⟨#[]⟩ [])=0:=by
  apply chk_one
  unfold v0
  rw [hk,hs]
  have:b=0∨b=1:=by omega
  rcases this with rfl|rfl
  ·exact (show ownE vsD (.mk 1 0 0 ⟨#[]⟩ [] [])=0 from by decide)
  ·exact (show ownE vsD (.mk 1 1 0 ⟨#[]⟩ [] [])=0 from by decide)
 simp only [accV,hc,decide_true,Bool.true_and,hh]
theorem try_agr {s:ByteArray} {p q fin:Nat} {D:Nat} {t:Ty} {v:V} (h:p<q∧q≤fin):Agr s p fin (tryR D t p (v,rO s q fin)) (accR D t p v q):=by
 unfold tryR accR
 by_cases c:accV 1 D t v=false
 ·rw [if_pos c,if_pos ⟨rfl,c⟩]
  exact .inr ⟨p,18,by decide,rfl,rfl,rfl⟩
 ·rw [if_neg c,if_neg (fun z=>c z.2)]
  exact .inl ⟨q,h.1,h.2,rfl,rfl⟩
theorem try_err {s:ByteArray} {p a fin:Nat} {D:Nat} {t:Ty} {v w:V} {bad e:Int} (he:e≠0):Agr s p fin (tryR D t p (v,⟨s,a,fin,bad,e⟩)) (w,0,bad,e):=by
 unfold tryR
 rw [if_neg (fun z=>he z.1)]
 exact .inr ⟨bad,e,he,rfl,rfl,rfl⟩
theorem dec_agr (e:Nat):∀ (d:Nat) (t:Ty),Ty.le e d t→Ty.ok e d t→∀ (s:ByteArray) (p fin:Nat),s.size≤536870912→p≤fin→fin≤s.size→Agr s p fin (dV d t (rO s p fin)) (rdV d t (s.extract 0 fin) p)
 | 0,_,h,_,_,_,_,_,_,_=>h.elim
 | d + 1,t,ht,hto,s,p,fin,hs,hp,hf=>by
  have hc:=cut_size hf
  have hgt:∀ q,0≤iI q t.fields→gT t q ∈ t.fields:=fun q w=>getTF_mem w
  have hsc:=fun h:t.kind≠3=>tok_scale hto.1 h
  rw [dV,if_neg (show ¬ (rO s p fin).e≠0 from fun z=>z rfl),rdV]
  by_cases h1:t.kind=1
  ·rw [if_neg (by omega),if_neg (by omega),if_neg (by omega),if_pos h1]
   have hb:scalR t (rO s p fin)=(.mk t.kind (boolR 0 (rO s p fin)).1 t.scale ⟨#[]⟩ [] [],(boolR 0 (rO s p fin)).2):=by unfold scalR;rw [if_pos h1]
   rw [hb,hc]
   unfold boolR bR
   rw [if_neg (show ¬ (rO s p fin).e≠0 from fun z=>z rfl)]
   by_cases c:fin≤p
   ·rw [if_pos (show (rO s p fin).fin - (rO s p fin).pos<1 by show (fin:Int) - (p:Int)<1;omega),if_pos (show (fin:Int)≤(p:Int) by omega)]
    exact try_err (a:=p) (bad:=fin) (e:=29) (by decide)
   ·rw [if_neg (show ¬ (rO s p fin).fin - (rO s p fin).pos<1 by show ¬ (fin:Int) - (p:Int)<1;omega),if_neg (show ¬ (fin:Int)≤(p:Int) by omega)]
    have hby:byt ((rO s p fin).s.extract (rO s p fin).pos.toNat ((rO s p fin).pos+1).toNat) 0=byt (s.extract 0 fin) (p:Int).toNat:=by
     show byt (s.extract (p:Int).toNat ((p:Int)+1).toNat) 0=_
     rw [Int.toNat_natCast,show ((p:Int)+1).toNat=p+1 by omega]
     exact byt_cut (by omega) hf
    simp only [hby]
    rw [if_neg (show ¬ ((rO s p fin).to ((rO s p fin).pos+1)).e≠0 from fun z=>z rfl)]
    by_cases c2:1<byt (s.extract 0 fin) (p:Int).toNat
    ·rw [if_pos c2,if_pos c2]
     have hq:((rO s p fin).to ((rO s p fin).pos+1)).fail (((rO s p fin).to ((rO s p fin).pos+1)).pos - 1) 3=⟨s,((p+1:Nat):Int),fin,p,3⟩:=by
      show Rd.mk s ((p:Int)+1) fin ((p:Int)+1 - 1) 3=_
      congr 1
      omega
     rw [hq]
     exact try_err (bad:=p) (e:=3) (by decide)
    ·rw [if_neg c2,if_neg c2]
     have hl:=byt_lt (s.extract 0 fin) (p:Int).toNat
     have ha:=acc_bool (d:=d) h1 hto.1 (b:=byt (s.extract 0 fin) (p:Int).toNat) hl.1 (by omega)
     have hq:(rO s p fin).to ((rO s p fin).pos+1)=rO s (p+1) fin:=rfl
     rw [hq]
     have:=try_agr (s:=s) (p:=p) (q:=p+1) (fin:=fin) (D:=d+1) (t:=t) (v:=v0 t (byt (s.extract 0 fin) (p:Int).toNat) ⟨#[]⟩ []) (by omega)
     unfold accR at this
     rw [if_neg (by rw [ha];simp)] at this
     exact this
  rw [if_neg h1]
  rcases num_same hp hf hs with ⟨n,q,g1,g2,g3,g4,g5⟩|⟨bad,e2,he,g1,g2⟩
  ·rw [g1]
   simp only [ne_eq,not_true_eq_false,if_false]
   by_cases h45:t.kind=4∨t.kind=5
   ·rw [if_neg (by omega),if_neg (by omega),if_neg (by omega),if_pos h45,hc]
    have hb:scalR t (rO s p fin)=(.mk t.kind 0 t.scale (bR (rO s q fin) n).1 [] [],(bR (rO s q fin) n).2):=by unfold scalR;rw [if_neg h1,if_pos h45,g2]
    rw [hb]
    unfold bR
    rw [if_neg (show ¬ (rO s q fin).e≠0 from fun z=>z rfl)]
    by_cases c:(fin:Int) - q<n
    ·rw [if_pos (show (rO s q fin).fin - (rO s q fin).pos<n from c),if_pos c]
     exact try_err (a:=q) (bad:=fin) (e:=29) (by decide)
    ·rw [if_neg (show ¬ (rO s q fin).fin - (rO s q fin).pos<n from c),if_neg c]
     have hx:(s.extract 0 fin).extract (q:Int).toNat ((q:Int)+(n:Int)).toNat=(rO s q fin).s.extract (rO s q fin).pos.toNat ((rO s q fin).pos+(n:Int)).toNat:=by
      show (s.extract 0 fin).extract (q:Int).toNat ((q:Int)+(n:Int)).toNat=s.extract (q:Int).toNat ((q:Int)+(n:Int)).toNat
      rw [show ((q:Int)+(n:Int)).toNat=q+n by omega,Int.toNat_natCast]
      exact ext_ext (by omega) hf
     rw [hx]
     have:=try_agr (s:=s) (p:=p) (q:=q+n) (fin:=fin) (D:=d+1) (t:=t) (v:=v0 t 0 ((rO s q fin).s.extract (rO s q fin).pos.toNat ((rO s q fin).pos+(n:Int)).toNat) []) (by omega)
     rw [show ((q+n:Nat):Int)=(q:Int)+(n:Int) by omega] at this
     rw [show (rO s q fin).to ((rO s q fin).pos+(n:Int))=rO s (q+n) fin by simp [rO,Rd.to]]
     exact this
   rw [if_neg h45]
   by_cases h8:t.kind=8
   ·rw [if_pos h8,if_pos h8]
    have hx:0<t.elem.length:=by have:=ownT_elem hto.1 h8;omega
    have hv:∀ l,(V.mk 8 0 0 ⟨#[]⟩ l []:V)=v0 t 0 ⟨#[]⟩ l:=fun l=>by unfold v0;rw [h8,hsc (by omega)]
    unfold lstR
    rw [g2]
    by_cases c:(n:Int)<t.min∨t.max<(n:Int)
    ·rw [if_pos c]
     simp only [if_pos c]
     have hfe:(rO s q fin).fail (rO s p fin).pos 18=⟨s,q,fin,p,18⟩:=rfl
     rw [hfe,listR_err _ _ _ (.inr (show (Rd.mk s q fin p 18).e≠0 by show ¬ (18:Int)=0;decide))]
     exact .inr ⟨p,18,by decide,rfl,rfl,rfl⟩
    ·rw [if_neg c]
     simp only [if_neg c]
     have hle:Ty.le e d (t.elem.getD 0 default):=ht.2.2.2.2.1 _ (gD hx)
     have hA:=fun (p:Nat) (hp:p≤fin)=>dec_agr e d (t.elem.getD 0 default) hle (Ty.ok_elem hto h8 (gD hx)) s p fin hs hp hf
     obtain ⟨b,rfl⟩:=Ty.lP hle
     rcases list_same (f:=dV (b+1) (t.elem.getD 0 default)) (g:=rdV (b+1) (t.elem.getD 0 default) (s.extract 0 fin)) (fun r hr=>by rw [dV,if_pos hr]) hA n [] q g4 with ⟨q2,k1,k2,k3,k4⟩|⟨bad,e2,he,k1,k2,k3⟩
     ·rw [Int.toNat_natCast,k3,k4,hv]
      exact .inl ⟨q2,by omega,k2,rfl,rfl⟩
     ·rw [Int.toNat_natCast,k3]
      exact .inr ⟨bad,e2,he,k1,k2,rfl⟩
   rw [if_neg h8,if_neg h8]
   by_cases h10:t.kind=10
   ·rw [if_neg (show ¬ t.kind=9 by omega),if_pos h10,if_pos h10]
    unfold varR
    rw [g2]
    by_cases c:iI (bY (n:Int)) t.fields<0
    ·rw [if_pos c,if_pos c]
     exact .inr ⟨p,21,by decide,rfl,rfl,rfl⟩
    ·rw [if_neg c,if_neg c]
     have hm:=hgt (bY (n:Int)) (by omega)
     have hA:=fun (p fin:Nat) (hp:p≤fin) (hf:fin≤s.size)=>dec_agr e d (fT (gT t (bY (n:Int)))) (ht.2.2.2.2.2 _ hm).2.2.2 (Ty.ok_field hto (.inr h10) hm) s p fin hs hp hf
     rcases part_same hs (F:=fun (_:List V) v=>[v]) (k:=varK (dV d) (fT (gT t (bY (n:Int))))) (fun l r=>rfl) hA [] q fin g4 hf with ⟨q2,k1,k2,k3,k4⟩|⟨bad,e2,he,k1,k2,k3⟩
     ·simp only [k3,k4]
      refine .inl ⟨q2,by omega,k2,?_,rfl⟩
      show (V.mk 10 0 0 _ _ [],_)=_
      unfold v0
      rw [h10,hsc (by omega)]
     ·rw [k3]
      exact .inr ⟨bad,e2,he,k1,k2,rfl⟩
   rw [if_neg h10,if_neg h10]
   by_cases h9:t.kind=9
   ·rw [if_pos h9,if_pos h9]
    have hA:=fun (num:Int) (hi:0≤iI (bY num) t.fields) (p fin:Nat) (hp:p≤fin) (hf:fin≤s.size)=>dec_agr e d (fT (gT t (bY num))) (ht.2.2.2.2.2 _ (hgt _ hi)).2.2.2 (Ty.ok_field hto (.inl h9) (hgt _ hi)) s p fin hs hp hf
    unfold recR fieldsF rdR
    rw [g2,Int.toNat_natCast]
    rcases fields_agr hs hf (f:=dV d) (g:=rdV d) hA n 0 [] q g4 with ⟨q2,k1,k2,k3,k4⟩|⟨bad,e2,he,k1,k2,k3⟩
    ·rw [k3,k4]
     simp only [ne_eq,not_true_eq_false,if_false]
     rcases defs_agr t.fields (rdF t (rdV d) (s.extract 0 fin) n 0 [] q).1 (rO s q2 fin) rfl with ⟨m1,m2⟩|⟨m1,m2,m3⟩
     ·rw [if_neg (fun z=>z m1),m2]
      exact .inl ⟨q2,by omega,k2,rfl,rfl⟩
     ·rw [if_pos m1]
      exact .inr ⟨q2,19,by decide,m2,m3,rfl⟩
    ·rw [k3,if_pos he,defsR_err _ _ _ (by rw [k1];exact he)]
     exact .inr ⟨bad,e2,he,k1,k2,rfl⟩
   ·rw [if_neg h9,if_neg h9]
    have hb:scalR t (rO s p fin)=(.mk t.kind (unzigI n) t.scale ⟨#[]⟩ [] [],rO s q fin):=by unfold scalR;rw [if_neg h1,if_neg h45,g2]
    rw [hb]
    exact try_agr (v:=v0 t (unzigI n) ⟨#[]⟩ []) ⟨g3,g4⟩
  ·rw [g1]
   rw [if_pos he]
   have hE:(Rd.mk s p fin bad e2).e≠0:=he
   by_cases h8:t.kind=8
   ·rw [if_pos h8]
    have hx:(lstR (dV d (t.elem.getD 0 default)) t (rO s p fin)).2=⟨s,p,fin,bad,e2⟩:=by
     unfold lstR
     rw [g2]
     simp only [fail_keep hE,ite_self]
     rw [listR_err _ _ _ (.inr hE)]
    exact .inr ⟨bad,e2,he,by rw [hx],by rw [hx],rfl⟩
   rw [if_neg h8]
   by_cases h9:t.kind=9
   ·rw [if_pos h9]
    have hx:(recR (dV d) t (rO s p fin)).2=⟨s,p,fin,bad,e2⟩:=by
     unfold recR fieldsF
     rw [g2,fieldsR_err _ _ _ _ (.inr hE),defsR_err _ _ _ hE]
    exact .inr ⟨bad,e2,he,by rw [hx],by rw [hx],rfl⟩
   rw [if_neg h9]
   by_cases h10:t.kind=10
   ·rw [if_pos h10]
    have hx:(varR (dV d) t (rO s p fin)).2=⟨s,p,fin,bad,e2⟩:=by
     unfold varR
     rw [g2]
     split
     ·exact fail_keep hE _ _
     ·rw [part_err hE]
    exact .inr ⟨bad,e2,he,by rw [hx],by rw [hx],rfl⟩
   rw [if_neg h10]
   have hx:(scalR t (rO s p fin)).2=⟨s,p,fin,bad,e2⟩:=by
    unfold scalR
    rw [if_neg h1]
    split
    ·rw [g2];show (bR ⟨s,p,fin,bad,e2⟩ 0).2=_;rw [bR,if_pos hE]
    ·rw [g2]
   have hx2:scalR t (rO s p fin)=((scalR t (rO s p fin)).1,⟨s,p,fin,bad,e2⟩):=by rw [← hx]
   rw [hx2]
   exact try_err he
theorem decode_agr (e d:Nat) (t:Ty) (ht:Ty.le e d t) (s:ByteArray) (hs:s.size≤536870912) :
 decodeV e d t s=rdecV e d t s∧(chkT e d t=0→(rdV d t s 0).2.2.2=0→(rdV d t s 0).1=(dV d t (rdAt s 0)).1∧(dV d t (rdAt s 0)).2.e=0):=by
 unfold decodeV rdecV
 by_cases hK:chkT e d t≠0
 ·rw [if_pos hK,if_pos hK]
  exact ⟨rfl,fun z=>absurd z hK⟩
 rw [if_neg hK,if_neg hK]
 have hA:=dec_agr e d t ht (chkT_ok ht (by omega)) s 0 s.size hs (Nat.zero_le _) (Nat.le_refl _)
 have hx:s.extract 0 s.size=s:=by
  rw [← baL_strN (s.extract 0 s.size),strN_ext]
  unfold sgm
  rw [List.drop_zero,List.take_of_length_le (by rw [sN];omega),baL_strN]
 have h0:rO s 0 s.size=rdAt s 0:=rfl
 rw [hx,h0,show ((0:Nat):Int)=0 from rfl] at hA
 generalize hX:dV d t (rdAt s 0)=X at hA
 generalize hY:rdV d t s 0=Y at hA
 rcases hA with ⟨q,h1,h2,h3,h4⟩|⟨bad,e2,he,h1,h2,h3⟩
 ·rw [h3,h4]
  refine ⟨?_,fun _ _=>⟨rfl,rfl⟩⟩
  simp only [ne_eq,not_true_eq_false,if_false]
  unfold longR
  by_cases c:q<s.size
  ·rw [if_pos (show (rO s q s.size).pos<(rO s q s.size).fin by show (q:Int)<(s.size:Int);omega),if_pos (show (q:Int)<(s.size:Int) by omega),if_pos (show ¬ ((rO s q s.size).fail (rO s q s.size).pos 5).e=0 by show ¬ (5:Int)=0;decide)]
   rfl
  ·rw [if_neg (show ¬ (rO s q s.size).pos<(rO s q s.size).fin by show ¬ (q:Int)<(s.size:Int);omega),if_neg (show ¬ (q:Int)<(s.size:Int) by omega),if_neg (show ¬ ¬ (rO s q s.size).e=0 from fun z=>z rfl)]
 ·rw [h3]
  have hl:longR X.2=X.2:=by
   unfold longR
   split
   ·exact fail_keep (by rw [h1];exact he) _ _
   ·rfl
  refine ⟨?_,fun _ z=>absurd z he⟩
  rw [hl,if_pos (by rw [h1];exact he),if_pos he,h1,h2]
def sumV (c:Nat) (l:List V):Nat:=(l.map (sV c)).sum
def sumF (c:Nat) (l:FL):Nat:=(l.map fun x=>sV c x.2).sum
theorem sumV_app (c:Nat) (l:List V) (v:V):sumV c (l++[v])=sumV c l+sV c v:=by simp [sumV]
theorem sumF_app (c:Nat) (l:FL) (a:ByteArray) (v:V):sumF c (l++[(a,v)])=sumF c l+sV c v:=by simp [sumF]
theorem size_v0 (c:Nat) (t:Ty) (i:Int) (s:ByteArray) (l:List V):sV (c+1) (v0 t i s l)≤1+sumV c l:=by
 simp only [sV,kz,v0,V.list,V.fields,V.kind,List.map_nil,sumV]
 split
 ·exact Nat.le_refl _
 ·split<;>simp
theorem sumF_keep (c:Nat):∀ l:FL,sumF c (keepR l)≤sumF c l
 | []=>Nat.le_refl _
 | x :: l=>by
  have:=sumF_keep c l
  simp only [keepR]
  split
  ·simp only [sumF,List.map_cons,List.sum_cons] at *;omega
  ·simp only [sumF,List.map_cons,List.sum_cons] at *;omega
theorem sumF_sort (c:Nat) (l:FL):sumF c (sortN l)=sumF c l:=by
 unfold sumF sortN
 exact ((List.mergeSort_perm l leN).map _).sum_nat
theorem size_recV (c:Nat) (l:FL):sV (c+1) (recV l)≤1+sumF c l:=by
 have h1:=sumF_keep c l
 have h2:=sumF_sort c (keepR l)
 have:sV (c+1) (recV l)=1+sumF c (sortN (keepR l)):=by
  simp [sV,kz,recV,V.list,V.fields,V.kind,sumF,Function.comp_def]
 omega
theorem rfL_size {c:Nat} {f:Int→R4} {m:Int} (hf:∀ q:Int,0≤q→q≤m→(f q).2.2.2=0→q<(f q).2.1∧(f q).2.1≤m∧(sV c (f q).1:Int)≤137438953472 * ((f q).2.1 - q)) :
 ∀ (n:Nat) (l:List V) (p:Int),0≤p→p≤m→(rfL f n l p).2.2.2=0→(sumV c (rfL f n l p).1:Int)≤sumV c l+137438953472 * ((rfL f n l p).2.1 - p)
 | 0,l,p,_,_,_=>by show (sumV c l:Int)≤sumV c l+137438953472 * (p - p);omega
 | n + 1,l,p,h0,h1,he=>by
  rw [rfL] at he ⊢
  by_cases c1:(f p).2.2.2≠0
  ·rw [if_pos c1] at he;exact absurd he c1
  ·rw [if_neg c1] at he ⊢
   obtain ⟨k1,k2,k3⟩:=hf p h0 h1 (by omega)
   have:=rfL_size hf n (l++[(f p).1]) (f p).2.1 (by omega) k2 he
   rw [sumV_app] at this
   omega
theorem rdP_size {c:Nat} {g:ByteArray→Int→R4} {s:ByteArray} (hs:s.size≤536870912)
 (hg:∀ (u:ByteArray) (q:Int),u.size≤s.size→0≤q→q≤u.size→(g u q).2.2.2=0→(sV c (g u q).1:Int)≤137438953472 * ((g u q).2.1 - q)) (p:Int) (h0:0≤p) (h1:p≤s.size)
 (he:(rdP g s p).2.2.2=0):(sV c (rdP g s p).1:Int)≤137438953472 * ((rdP g s p).2.1 - p):=by
 have hA:=refTakeV_good (s:=s) (a:=p) h0 h1 (by omega)
 unfold rdP at he ⊢
 by_cases c1:(tV s p).2.2.2≠0
 ·rw [if_pos c1] at he;exact absurd he c1
 rw [if_neg c1] at he ⊢
 by_cases c2:(s.size:Int) - (tV s p).2.1<(tV s p).1
 ·rw [if_pos c2] at he;exact absurd he (show ¬ (29:Int)=0 by decide)
 rw [if_neg c2] at he ⊢
 obtain ⟨a1,a2,a3,a4⟩:=hA (by omega)
 have hsz:((s.extract 0 ((tV s p).2.1+(tV s p).1).toNat).size:Int)=(tV s p).2.1+(tV s p).1:=by rw [ByteArray.size_extract];omega
 have hq:=hg (s.extract 0 ((tV s p).2.1+(tV s p).1).toNat) (tV s p).2.1 (by omega) (by omega) (by omega)
 generalize g (s.extract 0 ((tV s p).2.1+(tV s p).1).toNat) (tV s p).2.1=X at hq he ⊢
 unfold endP at he ⊢
 by_cases c3:X.2.2.2≠0
 ·rw [if_pos c3] at he;exact absurd he c3
 rw [if_neg c3] at he ⊢
 by_cases c4:X.2.1<(tV s p).2.1+(tV s p).1
 ·rw [if_pos c4] at he;exact absurd he (show ¬ (5:Int)=0 by decide)
 rw [if_neg c4]
 have:=hq (by omega)
 show (sV c X.1:Int)≤137438953472 * (X.2.1 - p)
 omega
theorem rdF_size {c:Nat} {t:Ty} {g:Ty→ByteArray→Int→R4} {s:ByteArray} (hs:s.size≤536870912)
 (hg:∀ (num q:Int),0≤iI (bY num) t.fields→0≤q→q≤s.size→(rdP (g (fT (gT t (bY num)))) s q).2.2.2=0 →
   q<(rdP (g (fT (gT t (bY num)))) s q).2.1∧(rdP (g (fT (gT t (bY num)))) s q).2.1≤s.size∧(sV c (rdP (g (fT (gT t (bY num)))) s q).1:Int)≤137438953472 * ((rdP (g (fT (gT t (bY num)))) s q).2.1 - q)) :
 ∀ (n:Nat) (last:Int) (l:FL) (p:Int),0≤p→p≤s.size→(rdF t g s n last l p).2.2.2=0→(sumF c (rdF t g s n last l p).1:Int)≤sumF c l+137438953472 * ((rdF t g s n last l p).2.1 - p)
 | 0,last,l,p,_,_,_=>by show (sumF c l:Int)≤sumF c l+137438953472 * (p - p);omega
 | n + 1,last,l,p,h0,h1,he=>by
  have hA:=refTakeV_good (s:=s) (a:=p) h0 h1 (by omega)
  rw [rdF] at he ⊢
  by_cases c1:(tV s p).2.2.2≠0
  ·rw [if_pos c1] at he;exact absurd he c1
  rw [if_neg c1] at he ⊢
  by_cases c2:(tV s p).1<1∨9999<(tV s p).1
  ·rw [if_pos c2] at he;exact absurd he (show ¬ (2:Int)=0 by decide)
  rw [if_neg c2] at he ⊢
  by_cases c3:(tV s p).1≤last
  ·rw [if_pos c3] at he;exact absurd he (show ¬ (24:Int)=0 by decide)
  rw [if_neg c3] at he ⊢
  obtain ⟨a1,a2,a3,a4⟩:=hA (by omega)
  have hB:=refTakeV_good (s:=s) (a:=(tV s p).2.1) (by omega) a2 (by omega)
  by_cases c4:iI (bY (tV s p).1) t.fields<0
  ·rw [if_pos c4] at he ⊢
   by_cases c5:(tV s (tV s p).2.1).2.2.2≠0
   ·rw [if_pos c5] at he;exact absurd he c5
   rw [if_neg c5] at he ⊢
   by_cases c6:(s.size:Int) - (tV s (tV s p).2.1).2.1<(tV s (tV s p).2.1).1
   ·rw [if_pos c6] at he;exact absurd he (show ¬ (29:Int)=0 by decide)
   rw [if_neg c6] at he ⊢
   obtain ⟨b1,b2,b3,b4⟩:=hB (by omega)
   have:=rdF_size hs hg n (tV s p).1 l ((tV s (tV s p).2.1).2.1+(tV s (tV s p).2.1).1) (by omega) (by omega) he
   omega
  ·rw [if_neg c4] at he ⊢
   have hq:=hg (tV s p).1 (tV s p).2.1 (by omega) (by omega) a2
   by_cases c5:(rdP (g (fT (gT t (bY (tV s p).1)))) s (tV s p).2.1).2.2.2≠0
   ·rw [if_pos c5] at he;exact absurd he c5
   rw [if_neg c5] at he ⊢
   obtain ⟨k1,k2,k3⟩:=hq (by omega)
   have:=rdF_size hs hg n (tV s p).1 _ _ (by omega) k2 he
   rw [sumF_app] at this
   omega
theorem rdD_size {c:Nat}:∀ (fs:List TF) (l:FL),(∀ f ∈ fs,fN f=3→sV c ((fDef f).getD 0 default)≤1073741824)→sumF c (rdD fs l).1≤sumF c l+1073741824 * fs.length
 | [],l,_=>Nat.le_refl _
 | f :: fs,l,h=>by
  have hs:=fun g (hg:g ∈ fs)=>h g (List.mem_cons_of_mem _ hg)
  rw [rdD,List.length_cons]
  split
  ·have:=rdD_size (c:=c) fs l hs;omega
  split
  ·show sumF c l≤_;omega
  split
  ·have:=rdD_size (c:=c) fs (l++[(fM f,(fDef f).getD 0 default)]) hs
   have h1:=h f (List.mem_cons_self ..) ‹_›
   rw [sumF_app] at this
   omega
  ·have:=rdD_size (c:=c) fs l hs;omega
theorem accR_size {D c:Nat} {t:Ty} {p q:Int} {i:Int} {s:ByteArray} (h:p<q) (he:(accR D t p (v0 t i s []) q).2.2.2=0):(sV (c+1) (accR D t p (v0 t i s []) q).1:Int)≤137438953472 * ((accR D t p (v0 t i s []) q).2.1 - p):=by
 have h1:=size_v0 c t i s []
 have h2:sumV c []=0:=rfl
 unfold accR at he ⊢
 by_cases c1:accV 1 D t (v0 t i s [])=false
 ·rw [if_pos c1] at he;exact absurd he (show ¬ (18:Int)=0 by decide)
 ·rw [if_neg c1]
  show (sV (c+1) (v0 t i s []):Int)≤137438953472 * (q - p)
  omega
theorem rdV_size (e:Nat):∀ (d:Nat) (t:Ty) (s:ByteArray) (p:Int),Ty.le e d t→Ty.ok e d t→Ty.sz e d t→s.size≤536870912→0≤p→p≤s.size→(rdV d t s p).2.2.2=0 →
 (sV (d+e) (rdV d t s p).1:Int)≤137438953472 * ((rdV d t s p).2.1 - p)
 | 0,_,_,_,h,_,_,_,_,_,_=>h.elim
 | d + 1,t,s,p,ht,hto,hz,hs,h0,h1,he=>by
  have hA:=refTakeV_good (s:=s) (a:=p) h0 h1 (by omega)
  have hgt:∀ q,0≤iI q t.fields→gT t q ∈ t.fields:=fun q w=>getTF_mem w
  have hn:=size_v0 (d+e) t
  have h00:sumV (d+e) []=0:=rfl
  rw [show d+1+e=d+e+1 by omega]
  rw [rdV] at he ⊢
  by_cases k1:t.kind=1
  ·rw [if_pos k1] at he ⊢
   by_cases c1:(s.size:Int)≤p
   ·rw [if_pos c1] at he;exact absurd he (show ¬ (29:Int)=0 by decide)
   rw [if_neg c1] at he ⊢
   by_cases c2:1<byt s p.toNat
   ·rw [if_pos c2] at he;exact absurd he (show ¬ (3:Int)=0 by decide)
   rw [if_neg c2]
   show (sV (d+e+1) (v0 t (byt s p.toNat) ⟨#[]⟩ []):Int)≤137438953472 * (p+1 - p)
   have:=hn (byt s p.toNat) ⟨#[]⟩ []
   omega
  rw [if_neg k1] at he ⊢
  by_cases c1:(tV s p).2.2.2≠0
  ·rw [if_pos c1] at he;exact absurd he c1
  rw [if_neg c1] at he ⊢
  obtain ⟨a1,a2,a3,a4⟩:=hA (by omega)
  by_cases k45:t.kind=4∨t.kind=5
  ·rw [if_pos k45] at he ⊢
   by_cases c2:(s.size:Int) - (tV s p).2.1<(tV s p).1
   ·rw [if_pos c2] at he;exact absurd he (show ¬ (29:Int)=0 by decide)
   rw [if_neg c2] at he ⊢
   exact accR_size (by omega) he
  rw [if_neg k45] at he ⊢
  by_cases k8:t.kind=8
  ·rw [if_pos k8] at he ⊢
   by_cases c2:(tV s p).1<t.min∨t.max<(tV s p).1
   ·rw [if_pos c2] at he;exact absurd he (show ¬ (18:Int)=0 by decide)
   rw [if_neg c2] at he ⊢
   have hx:0<t.elem.length:=by have:=ownT_elem hto.1 k8;omega
   have hm:t.elem.getD 0 default ∈ t.elem:=gD hx
   have hle:Ty.le e d (t.elem.getD 0 default):=ht.2.2.2.2.1 _ hm
   have:=rfL_size (c:=d+e) (m:=s.size) (f:=rdV d (t.elem.getD 0 default) s) (fun q q0 q1 qz=>by
    have h1:=(rdV_good e d _ s q hle (Ty.ok_elem hto k8 hm) hs q0 q1).2 qz
    exact ⟨h1.1,h1.2,rdV_size e d _ s q hle (Ty.ok_elem hto k8 hm) (hz.1 _ hm) hs q0 q1 qz⟩) (tV s p).1.toNat [] (tV s p).2.1 (by omega) a2 he
   have h2:=hn 0 ⟨#[]⟩ (rfL (rdV d (t.elem.getD 0 default) s) (tV s p).1.toNat [] (tV s p).2.1).1
   show (sV (d+e+1) (v0 t 0 ⟨#[]⟩ (rfL (rdV d (t.elem.getD 0 default) s) (tV s p).1.toNat [] (tV s p).2.1).1):Int)≤137438953472 * ((rfL (rdV d (t.elem.getD 0 default) s) (tV s p).1.toNat [] (tV s p).2.1).2.1 - p)
   omega
  rw [if_neg k8] at he ⊢
  have hP:t.kind=9∨t.kind=10→∀ (num q:Int),0≤iI (bY num) t.fields→0≤q→q≤s.size→(rdP (rdV d (fT (gT t (bY num)))) s q).2.2.2=0 →
   q<(rdP (rdV d (fT (gT t (bY num)))) s q).2.1∧(rdP (rdV d (fT (gT t (bY num)))) s q).2.1≤s.size∧(sV (d+e) (rdP (rdV d (fT (gT t (bY num)))) s q).1:Int)≤137438953472 * ((rdP (rdV d (fT (gT t (bY num)))) s q).2.1 - q):=fun hk num q hi q0 q1 qz=>by
   have hle:=(ht.2.2.2.2.2 _ (hgt _ hi)).2.2.2
   have hok:=Ty.ok_field hto hk (hgt _ hi)
   have g:=(rdP_good (Q:=fun _=>True) hs trivial (fun u w u1 u2 u3=>⟨trivial,(rdV_good e d _ u w hle hok (by omega) u2 u3).2⟩) q q0 q1).2 qz
   exact ⟨g.1,g.2,rdP_size hs (fun u w u1 u2 u3 uz=>rdV_size e d _ u w hle hok (hz.2 _ (hgt _ hi)).2 (by omega) u2 u3 uz) q q0 q1 qz⟩
  by_cases k10:t.kind=10
  ·rw [if_pos k10] at he ⊢
   by_cases c2:iI (bY (tV s p).1) t.fields<0
   ·rw [if_pos c2] at he;exact absurd he (show ¬ (21:Int)=0 by decide)
   rw [if_neg c2] at he ⊢
   have h3:=(hP (.inr k10) (tV s p).1 (tV s p).2.1 (by omega) (by omega) a2 he).2.2
   have h2:=hn 0 (fM (gT t (bY (tV s p).1))) [(rdP (rdV d (fT (gT t (bY (tV s p).1)))) s (tV s p).2.1).1]
   have h4:sumV (d+e) [(rdP (rdV d (fT (gT t (bY (tV s p).1)))) s (tV s p).2.1).1]=sV (d+e) (rdP (rdV d (fT (gT t (bY (tV s p).1)))) s (tV s p).2.1).1:=by simp [sumV]
   show (sV (d+e+1) (v0 t 0 (fM (gT t (bY (tV s p).1))) [(rdP (rdV d (fT (gT t (bY (tV s p).1)))) s (tV s p).2.1).1]):Int)≤137438953472 * ((rdP (rdV d (fT (gT t (bY (tV s p).1)))) s (tV s p).2.1).2.1 - p)
   omega
  rw [if_neg k10] at he ⊢
  by_cases k9:t.kind=9
  ·rw [if_pos k9] at he ⊢
   have h64:=ownT_len hto.1 (.inl k9)
   unfold rdR at he ⊢
   have hF:=rdF_size (c:=d+e) hs (hP (.inl k9)) (tV s p).1.toNat 0 [] (tV s p).2.1 (by omega) a2
   have hD:=rdD_size (c:=d+e) t.fields (rdF t (rdV d) s (tV s p).1.toNat 0 [] (tV s p).2.1).1 (fun f hf h3=>by
    have hm:(fDef f).getD 0 default ∈ fDef f:=gD (ownT_def hto.1 k9 hf h3)
    exact Nat.le_trans (sizeV_any e (d+e) _ ((ht.2.2.2.2.2 f hf).2.2.1 _ hm)) ((hz.2 f hf).1 _ hm))
   generalize rdF t (rdV d) s (tV s p).1.toNat 0 [] (tV s p).2.1=F at hF hD he ⊢
   generalize rdD t.fields F.1=D at hD he ⊢
   by_cases c2:F.2.2.2≠0
   ·rw [if_pos c2] at he;exact absurd he c2
   rw [if_neg c2] at he ⊢
   by_cases c3:D.2≠0
   ·rw [if_pos c3] at he;exact absurd he (show ¬ (19:Int)=0 by decide)
   rw [if_neg c3]
   have h3:=hF (by omega)
   have h4:=size_recV (d+e) D.1
   have h5:sumF (d+e) []=0:=rfl
   show (sV (d+e+1) (recV D.1):Int)≤137438953472 * (F.2.1 - p)
   omega
  ·rw [if_neg k9] at he ⊢
   exact accR_size a1 he
end Go.Ai
