/- Chapter 10: the readers of numbers, texts and truths. -/
import Derived.Test.YtlplmdipoacnlaaGreatDoorDecA
import Derived.Test.YtlplmdipoacnlaaGreatDoorTyE
import Derived.Test.YtlplmdipoacnlaaGreatDoorRec
import Derived.Test.YtlplmdipoacnlaaGreatDoorMap
import Derived.Test.YtlplmdipoacnlaaGreatDoorTyF
import Derived.Test.YtlplmdipoacnlaaGreatDoorCheck
set_option linter.all false
namespace Go.Ai
open Go Go.Proofs
set_option maxRecDepth 100000
set_option maxHeartbeats 4000000
def vbox (k i c:Unit→Int) (s:Unit→ByteArray):AO:=.box [.int .i64 k,.int .i64 i,.int .i64 c,.str s,.nil,.nil]
theorem readNum_ok (r:Rd) (h:r.good) (k i c:Int) (s:ByteArray):Af Tryz.prog 113 [.ptr 1000 0,.ptr 1001 0] [(1000,Rd.box fun _=>r),(1001,vbox (fun _=>k) (fun _=>i) (fun _=>c) (fun _=>s))]
    (.tup []) [(1000,Rd.box fun _=>(nR r).2),(1001,vbox (fun _=>k) (fun _=>unzigI (nR r).1) (fun _=>c) (fun _=>s))]:=by
  obtain ⟨g1,g2,g3,g4,g5,g6,g7,g8⟩:=numR_good h
  have hN:=number_ok r h
  (apply Af.of tF mF [] kp113 [(0,[(2,.int .i64 fun _=>(nR r).1,[(1000,Rd.box fun _=>(nR r).2)]),(3,.int .i64 fun _=>unzigI (nR r).1,[])])] Tryz.func113 (fun _=>?_);(any_goals ((with_reducible refine wI ?_);cbv;(try dsimp only [nc] at *);(repeat' (with_reducible first|exact aO|exact oN|refine oC ?_ ?_|refine VC.mk rfl ?_ ?_ ?_|(apply Ca.mk<;>intro _)|(apply Cv.mk<;>intro zq<;>(try simp only [nc,cl] at zq)<;>(try simp only [bl,dl] at zq)<;>(revert zq;intro _))|((first|apply xE|apply uE);cbv;(try dsimp only [nc] at *)))))))
  (any_goals ((with_reducible refine bZ ?_)<;>exact hN))
  (any_goals ((with_reducible refine bZ ?_)<;>exact (unzigzag_ok (nR r).1 (by unfold numBad;omega))))
  (all_goals (try exact eZ))
theorem readStr_ok (r:Rd) (h:r.good) (k i c:Int) (s:ByteArray):Af Tryz.prog 114 [.ptr 1000 0,.ptr 1001 0] [(1000,Rd.box fun _=>r),(1001,vbox (fun _=>k) (fun _=>i) (fun _=>c) (fun _=>s))]
    (.tup []) [(1000,Rd.box fun _=>(bR (nR r).2 (nR r).1).2),(1001,vbox (fun _=>k) (fun _=>i) (fun _=>c) (fun _=>(bR (nR r).2 (nR r).1).1))]:=by
  obtain ⟨g1,g2,g3,g4,g5,g6,g7,g8⟩:=numR_good h
  have hN:=number_ok r h
  have hB:=bytes_ok (nR r).2 g1 (nR r).1 ⟨g2,g3⟩
  (apply Af.of tF mF [] kp114 [(0,[(3,.int .i64 fun _=>(nR r).1,[(1000,Rd.box fun _=>(nR r).2)]),(4,.str fun _=>(bR (nR r).2 (nR r).1).1,[(1000,Rd.box fun _=>(bR (nR r).2 (nR r).1).2)])])] Tryz.func114 (fun _=>?_);(any_goals ((with_reducible refine wI ?_);cbv;(try dsimp only [nc] at *);(repeat' (with_reducible first|exact aO|exact oN|refine oC ?_ ?_|refine VC.mk rfl ?_ ?_ ?_|(apply Ca.mk<;>intro _)|(apply Cv.mk<;>intro zq<;>(try simp only [nc,cl] at zq)<;>(try simp only [bl,dl] at zq)<;>(revert zq;intro _))|((first|apply xE|apply uE);cbv;(try dsimp only [nc] at *)))))))
  (any_goals ((with_reducible refine bZ ?_)<;>exact hN))
  (any_goals ((with_reducible refine bZ ?_)<;>exact hB))
  (all_goals (try exact eZ))
def boolR (i:Int) (r:Rd):Int×Rd :=
  if (bR r 1).2.e≠0 then (i,(bR r 1).2) else
  if 1<byt (bR r 1).1 0 then (i,(bR r 1).2.fail ((bR r 1).2.pos - 1) 3) else (byt (bR r 1).1 0,(bR r 1).2)
theorem readBool_ok (r:Rd) (h:r.good) (k i c:Int) (s:ByteArray):Af Tryz.prog 115 [.ptr 1000 0,.ptr 1001 0] [(1000,Rd.box fun _=>r),(1001,vbox (fun _=>k) (fun _=>i) (fun _=>c) (fun _=>s))]
    (.tup []) [(1000,Rd.box fun _=>(boolR i r).2),(1001,vbox (fun _=>k) (fun _=>(boolR i r).1) (fun _=>c) (fun _=>s))]:=by
  have hB:=bytes_ok r h 1 ⟨by decide,by decide⟩
  have hg:=bytesR_good h (n:=1) (by decide)
  obtain ⟨q,hq⟩:∃ q,q=bR r 1:=⟨_,rfl⟩
  have hR:boolR i r=if q.2.e≠0 then (i,q.2) else if 1<byt q.1 0 then (i,q.2.fail (q.2.pos - 1) 3) else (byt q.1 0,q.2):=by rw [hq];rfl
  obtain ⟨R,hRe⟩:∃ R,R=boolR i r:=⟨_,rfl⟩
  rw [← hRe] at hR ⊢
  rw [← hq] at hB hg
  have hF:=fail_ok q.2 (q.2.pos - 1) 3
  have hsz:q.2.e=0→q.1.size=1:=fun z=>by
    obtain ⟨a1,a2,a3,a4⟩:=h
    rw [hq] at z ⊢
    unfold bR at z ⊢
    by_cases h1:r.e=0
    · rw [if_neg (fun k=>k h1)] at z ⊢
      by_cases h2:r.fin - r.pos<1
      · rw [if_pos h2] at z;simp [Rd.fail,h1] at z
      · rw [if_neg h2]
        show (r.s.extract _ _).size=1
        rw [ByteArray.size_extract];omega
    · rw [if_pos h1] at z;exact absurd z h1
  clear hq hRe
  have hw:q.2.e=0→IntKind.i64.wrap (q.2.pos - 1)=q.2.pos - 1:=fun z=>by
    obtain ⟨⟨a1,a2,a3,a4⟩,_⟩:=hg
    exact w64 (by omega) (by omega)
  have hs1:q.2.e=0→q.1.size=1:=hsz
  have hF2:q.2.e=0→Af Tryz.prog 57 [.ptr 1000 0,.int .i64 fun _=>IntKind.i64.wrap (q.2.pos - 1),.int .i64 fun _=>3] [(1000,Rd.box fun _=>q.2)] (.tup []) [(1000,Rd.box fun _=>q.2.fail (q.2.pos - 1) 3)]:=fun z=>by rw [hw z];exact hF
  have hFe:q.2.e=0→(q.2.fail (q.2.pos - 1) 3).e=3:=fun z=>by simp [Rd.fail,z]
  have hbt:byt q.1 0=((q.1.data[Int.toNat 0]?.getD 0).toNat:Int):=rfl
  have hwb:IntKind.i64.wrap ((q.1.data[Int.toNat 0]?.getD 0).toNat:Int)=((q.1.data[Int.toNat 0]?.getD 0).toNat:Int):=w64 (by omega) (by have:=(q.1.data[Int.toNat 0]?.getD 0).toNat_lt;omega)
  (apply Af.of tF mF [] kp115 [(0,[(1,.str fun _=>q.1,[(1000,Rd.box fun _=>q.2)])]),(2,[(6,.tup [],[(1000,Rd.box fun _=>q.2.fail (q.2.pos - 1) 3)])])] Tryz.func115 (fun _=>?_);(any_goals ((with_reducible refine wI ?_);cbv;(try dsimp only [nc] at *);(repeat' (with_reducible first|exact aO|exact oN|refine oC ?_ ?_|refine VC.mk rfl ?_ ?_ ?_|(apply Ca.mk<;>intro _)|(apply Cv.mk<;>intro zq<;>(try simp only [nc,cl] at zq)<;>(try simp only [bl,dl] at zq)<;>(revert zq;intro _))|((first|apply xE|apply uE);cbv;(try dsimp only [nc] at *)))))))
  (any_goals ((with_reducible refine bZ ?_)<;>exact hB))
  any_goals (with_reducible refine nO ?_)<;>exact hF2 (by omega)
  ((all_goals (try (with_reducible ((first|refine rE ?_|refine nE ?_);(focus (cbv;(try dsimp only [nc] at *);(try simp only [wl,nc]);(repeat' (with_reducible apply And.intro));all_goals (try exact wZ)))))));(all_goals (try ((with_reducible rw [aC]);(try simp only [wl,nc]);(repeat' (with_reducible apply And.intro));(all_goals (try exact cZ))))))
  all_goals (try (exfalso;omega))
  all_goals (try rw [hwb])
  all_goals first
    | (rw [hR,if_pos (show q.2.e≠0 by omega)];done)
    | (rw [hR,if_neg (show ¬ q.2.e≠0 by omega),if_pos (show 1<byt q.1 0 by omega)];done)
    | (rw [hR,if_neg (show ¬ q.2.e≠0 by omega),if_neg (show ¬ 1<byt q.1 0 by omega)];first|done|exact hbt.symm)
end Go.Ai

namespace Go.Ai
open Go Go.Proofs
set_option maxRecDepth 100000
set_option maxHeartbeats 2000000
abbrev FL:=List (ByteArray×V)
def scalR (t:Ty) (r:Rd):V×Rd :=
  if t.kind=1 then (.mk t.kind (boolR 0 r).1 t.scale ⟨#[]⟩ [] [],(boolR 0 r).2) else
  if t.kind=4∨t.kind=5 then (.mk t.kind 0 t.scale (bR (nR r).2 (nR r).1).1 [] [],(bR (nR r).2 (nR r).1).2) else
  (.mk t.kind (unzigI (nR r).1) t.scale ⟨#[]⟩ [] [],(nR r).2)
def tryR (d:Nat) (t:Ty) (p:Int) (x:V×Rd):V×Rd:=(x.1,if x.2.e=0∧accV 1 d t x.1=false then x.2.fail p 18 else x.2)
def listR (f:Rd→V×Rd):Nat→List V→Rd→List V×Rd
  | 0,l,r=>(l,r)
  | n+1,l,r=>if r.e≠0 then (l,r) else listR f n (l++[(f r).1]) (f r).2
def subR (r:Rd):Rd:=⟨r.s,(nR r).2.pos,(sub2 r).pos,0,0⟩
def backR (r p:Rd):Rd:=if p.e≠0 then r.fail p.bad p.e else r
def partR {α:Type} (k:α→Rd→α×Rd) (l:α) (r:Rd):α×Rd :=
  if (sub2 r).e≠0 then (l,sub2 r) else ((k l (subR r)).1,backR (sub2 r) (longR (k l (subR r)).2))
def fieldsR {α:Type} (k:Int→α→Rd→α×Rd):Nat→Int→α→Rd→α×Rd
  | 0,_,l,r=>(l,r)
  | n+1,last,l,r=>if r.e≠0 then (l,r) else if (nR r).2.e≠0 then (l,(nR r).2) else
    fieldsR k n (nR r).1 (partR (k (nR r).1) l (stepR last r)).1 (partR (k (nR r).1) l (stepR last r)).2
def fldK (f:Ty→Rd→V×Rd) (t:Ty) (num:Int) (l:FL) (p:Rd):FL×Rd :=
  if iI (bY num) t.fields<0 then (l,p.to p.fin) else (l++[(fM (gT t (bY num)),(f (fT (gT t (bY num))) p).1)],(f (fT (gT t (bY num))) p).2)
def hasN (n:ByteArray) (l:FL):Bool:=l.any fun x=>decide (x.1=n)
def defsR:List TF→FL→Rd→FL×Rd
  | [],l,r=>(l,r)
  | f :: fs,l,r=>if hasN (fM f) l then defsR fs l r else if fN f=1 then defsR fs l (r.fail r.pos 19) else
    if fN f=3 then defsR fs (l++[(fM f,(fDef f).getD 0 default)]) r else defsR fs l r
def fieldsF (f:Ty→Rd→V×Rd) (t:Ty) (r:Rd):FL×Rd:=fieldsR (fldK f t) (nR r).1.toNat 0 [] (nR r).2
def recR (f:Ty→Rd→V×Rd) (t:Ty) (r:Rd):V×Rd :=
  (recV (defsR t.fields (fieldsF f t r).1 (fieldsF f t r).2).1,(defsR t.fields (fieldsF f t r).1 (fieldsF f t r).2).2)
def varK (f:Ty→Rd→V×Rd) (t:Ty) (_:List V) (p:Rd):List V×Rd:=([(f t p).1],(f t p).2)
def varR (f:Ty→Rd→V×Rd) (t:Ty) (r:Rd):V×Rd :=
  if iI (bY (nR r).1) t.fields<0 then (default,(nR r).2.fail r.pos 21) else
  (.mk 10 0 0 (fM (gT t (bY (nR r).1))) (partR (varK f (fT (gT t (bY (nR r).1)))) [] (nR r).2).1 [],(partR (varK f (fT (gT t (bY (nR r).1)))) [] (nR r).2).2)
def lstR (f:Rd→V×Rd) (t:Ty) (r:Rd):V×Rd :=
  let r1:=if (nR r).1<t.min∨t.max<(nR r).1 then (nR r).2.fail r.pos 18 else (nR r).2
  (.mk 8 0 0 ⟨#[]⟩ (listR f (nR r).1.toNat [] r1).1 [],(listR f (nR r).1.toNat [] r1).2)
def dV:Nat→Ty→Rd→V×Rd
  | 0,_,r=>(default,r)
  | d+1,t,r=>if r.e≠0 then (default,r) else
    if t.kind=8 then lstR (dV d (t.elem.getD 0 default)) t r else
    if t.kind=9 then recR (dV d) t r else
    if t.kind=10 then varR (dV d) t r else tryR (d+1) t r.pos (scalR t r)
structure Rd.aft (r p:Rd):Prop where
  good:p.good
  fin:p.fin=r.fin
  s:p.s=r.s
  pos:r.pos≤p.pos
  e:p.e=0→r.e=0
theorem Rd.aft.refl {r:Rd} (h:r.good):r.aft r:=⟨h,rfl,rfl,Int.le_refl _,fun q=>q⟩
theorem Rd.aft.trans {r p q:Rd} (h:r.aft p) (k:p.aft q):r.aft q:=⟨k.good,k.fin.trans h.fin,k.s.trans h.s,Int.le_trans h.pos k.pos,fun z=>h.e (k.e z)⟩
theorem aft_fail {r:Rd} (h:r.good) (a:Int) {e:Int} (he:e≠0):r.aft (r.fail a e)∧(r.fail a e).e≠0:=by
  obtain ⟨q1,q2,q3,q4⟩:=fail_good h a e
  have hf:(r.fail a e).e≠0:=by unfold Rd.fail;split<;>assumption
  exact ⟨⟨q1,q2,q3,by omega,fun z=>absurd z hf⟩,hf⟩
theorem aft_num {r:Rd} (h:r.good):r.aft (nR r).2∧((nR r).2.e=0→r.pos<(nR r).2.pos)∧0≤(nR r).1∧(nR r).1≤4611686018427387903∧((nR r).2.e≠0→(nR r).1=0):=by
  obtain ⟨g1,g2,g3,g4,g5,g6,g7,g8⟩:=numR_good h
  exact ⟨⟨g1,g4,g5,g6,fun q=>(g7 q).1⟩,fun q=>(g7 q).2,g2,g3,g8⟩
theorem aft_sub2 {r:Rd} (h:r.good):r.aft (sub2 r)∧((sub2 r).e=0→r.pos<(sub2 r).pos):=by
  obtain ⟨k1,k2,k3,k4,k5,k6⟩:=sub2_good h
  exact ⟨⟨k1,k2,k3,by omega,fun q=>(k6 q).1⟩,fun q=>(k6 q).2⟩
theorem subR_good {r:Rd} (h:r.good) (he:(sub2 r).e=0):(subR r).good∧(subR r).e=0:=by
  obtain ⟨k1,k2,k3,k4,k5,k6⟩:=sub2_good h
  obtain ⟨b1,b2,b3,b4⟩:=h
  obtain ⟨a1,a2,a3,a4⟩:=k1
  exact ⟨⟨by show 0≤(nR r).2.pos;omega,k5,by show (sub2 r).pos≤r.s.size;rw [k3] at a3;omega,b4⟩,rfl⟩
theorem aft_step {r:Rd} (last:Int) (h:r.good):r.aft (stepR last r):=by
  obtain ⟨s1,s2,s3,s4⟩:=stepR_good last h
  refine ⟨s1,s2,s3,s4,fun z=>?_⟩
  obtain ⟨g1,g2,g3,g4,g5,g6,g7,g8⟩:=numR_good h
  have hz:(nR r).2.e=0:=by
    unfold stepR at z
    split at z
    · exact absurd z (aft_fail g1 _ (by decide)).2
    split at z
    · exact absurd z (aft_fail g1 _ (by decide)).2
    · exact z
  exact (g7 hz).1
theorem aft_back {r p:Rd} (h:r.good):r.aft (backR r p):=by
  unfold backR
  split
  · exact (aft_fail h _ ‹_›).1
  · exact .refl h
theorem aft_part {α:Type} {k:α→Rd→α×Rd} {l:α} {r:Rd} (h:r.good):r.aft (partR k l r).2∧((partR k l r).2.e=0→r.pos<(partR k l r).2.pos):=by
  obtain ⟨k1,k2⟩:=aft_sub2 h
  unfold partR
  split
  · exact ⟨k1,fun z=>absurd z ‹_›⟩
  · have hb:=aft_back (p:=longR (k l (subR r)).2) k1.good
    refine ⟨k1.trans hb,fun z=>?_⟩
    have:=k2 (by omega)
    have:=hb.pos
    show r.pos<(backR (sub2 r) (longR (k l (subR r)).2)).pos
    omega
theorem aft_fields {α:Type} {k:Int→α→Rd→α×Rd}:∀ (n:Nat) (last:Int) (l:α) (r:Rd),r.good→r.aft (fieldsR k n last l r).2
  | 0,_,_,_,h=>.refl h
  | n + 1,last,l,r,h=>by
    rw [fieldsR]
    split
    · exact .refl h
    split
    · exact (aft_num h).1
    · have h1:=aft_step last h
      have h2:=(aft_part (k:=k (nR r).1) (l:=l) h1.good).1
      exact (h1.trans h2).trans (aft_fields n _ _ _ h2.good)
theorem aft_defs:∀ (fs:List TF) (l:FL) (r:Rd),r.good→r.aft (defsR fs l r).2
  | [],_,_,h=>.refl h
  | f :: fs,l,r,h=>by
    rw [defsR]
    split
    · exact aft_defs fs l r h
    split
    · have:=(aft_fail h r.pos (e:=19) (by decide)).1
      exact this.trans (aft_defs fs l _ this.good)
    split
    · exact aft_defs fs _ r h
    · exact aft_defs fs l r h
theorem aft_list {f:Rd→V×Rd} (hf:∀ r:Rd,r.good→r.aft (f r).2):∀ (n:Nat) (l:List V) (r:Rd),r.good→r.aft (listR f n l r).2
  | 0,_,_,h=>.refl h
  | n+1,l,r,h=>by
    rw [listR]
    split
    · exact .refl h
    · exact (hf r h).trans (aft_list hf n _ _ (hf r h).good)
theorem aft_bool {i:Int} {r:Rd} (h:r.good):r.aft (boolR i r).2∧((boolR i r).2.e=0→r.pos<(boolR i r).2.pos):=by
  obtain ⟨k1,k2,k3,k4,k5⟩:=bytesR_good h (n:=1) (by decide)
  have ha:r.aft (bR r 1).2:=⟨k1,k2,k3,k4,fun q=>(k5 q).1⟩
  unfold boolR
  split
  · exact ⟨ha,fun z=>absurd z ‹_›⟩
  split
  · have:=aft_fail k1 ((bR r 1).2.pos - 1) (e:=3) (by decide)
    exact ⟨ha.trans this.1,fun z=>absurd z this.2⟩
  · refine ⟨ha,fun z=>?_⟩
    have:=(k5 z).2.2
    show r.pos<(bR r 1).2.pos
    omega
theorem aft_scal {t:Ty} {r:Rd} (h:r.good):r.aft (scalR t r).2∧((scalR t r).2.e=0→r.pos<(scalR t r).2.pos):=by
  obtain ⟨n1,n2,n3,n4,n5⟩:=aft_num h
  unfold scalR
  split
  · exact aft_bool h
  split
  · exact aft_sub2 h
  · exact ⟨n1,n2⟩
theorem aft_try {d:Nat} {t:Ty} {p:Int} {x:V×Rd} {r:Rd} (h:r.aft x.2) (h2:x.2.e=0→r.pos<x.2.pos):r.aft (tryR d t p x).2∧((tryR d t p x).2.e=0→r.pos<(tryR d t p x).2.pos):=by
  unfold tryR
  simp only
  split
  · have:=aft_fail h.good p (e:=18) (by decide)
    exact ⟨h.trans this.1,fun z=>absurd z this.2⟩
  · exact ⟨h,h2⟩
theorem aft_dec:∀ (d:Nat) (t:Ty) (r:Rd),r.good→r.aft (dV d t r).2∧(0<d→(dV d t r).2.e=0→r.pos<(dV d t r).2.pos)
  | 0,_,_,h=>⟨.refl h,fun z=>absurd z (by omega)⟩
  | d + 1,t,r,h=>by
    obtain ⟨n1,n2,n3,n4,n5⟩:=aft_num h
    rw [dV]
    split
    · exact ⟨.refl h,fun _ z=>absurd z ‹_›⟩
    split
    · have h1:(nR r).2.aft (if (nR r).1<t.min∨t.max<(nR r).1 then (nR r).2.fail r.pos 18 else (nR r).2):=by
        split
        · exact (aft_fail n1.good _ (by decide)).1
        · exact .refl n1.good
      have h2:=aft_list (f:=dV d (t.elem.getD 0 default)) (fun r h=>(aft_dec d _ r h).1) (nR r).1.toNat [] _ h1.good
      have h3:=h1.trans h2
      refine ⟨n1.trans h3,fun _ z=>?_⟩
      have:=n2 (h3.e z)
      exact Int.lt_of_lt_of_le this h3.pos
    split
    · have h1:=aft_fields (k:=fldK (dV d) t) (nR r).1.toNat 0 [] _ n1.good
      have h2:=aft_defs t.fields (fieldsF (dV d) t r).1 (fieldsF (dV d) t r).2 h1.good
      have h3:=h1.trans h2
      refine ⟨n1.trans h3,fun _ z=>?_⟩
      have:=n2 (h3.e z)
      exact Int.lt_of_lt_of_le this h3.pos
    split
    · unfold varR
      split
      · have:=aft_fail n1.good r.pos (e:=21) (by decide)
        exact ⟨n1.trans this.1,fun _ z=>absurd z this.2⟩
      · have h1:=aft_part (k:=varK (dV d) (fT (gT t (bY (nR r).1)))) (l:=[]) n1.good
        refine ⟨n1.trans h1.1,fun _ z=>?_⟩
        have:=h1.2 z
        exact Int.lt_of_le_of_lt n1.pos this
    · obtain ⟨s1,s2⟩:=aft_scal (t:=t) h
      have:=aft_try (d:=d+1) (t:=t) (p:=r.pos) s1 s2
      exact ⟨this.1,fun _=>this.2⟩
end Go.Ai

namespace Go.Ai
open Go Go.Proofs
set_option maxRecDepth 100000
set_option maxHeartbeats 4000000
def setM (w:World) (b:Nat) (es:Array MapEntry) (c:Nat):World:={ w with heap:=w.heap.setIfInBounds b (.map es c) }
theorem setM_setM (w:World) (b:Nat) (es es':Array MapEntry) (c c':Nat):setM (setM w b es c) b es' c'=setM w b es' c':=by
  simp [setM]
theorem setM_get {w:World} {b:Nat} (hb:b<w.heap.size) (es:Array MapEntry) (c:Nat):(setM w b es c).heap[b]? = some (.map es c):=by
  simp [setM,hb]
theorem insert_at {P:Program} {t kt et:TypeId} (ht:P.underlying t=some (.map kt et)) (hk:P.underlying kt=some (.int .i64)) (w:World) (b:Nat) (es:Array MapEntry) (c:Nat) (hb:w.heap[b]? = some (.map es c)) (k:Int) (v:Value) (hf:Instr.findNow (.int .i64) (.int .i64 k) es.toList 0=some none) :
    (Instr.mapUpdate t (.map (some b)) (.int .i64 k) v).run P w=.ok () (setM w b (es.push { key:=.int .i64 k,val:=v,born:=c }) (c+1)):=by
  have hc:=MapKept.run_checkKey (w:=w) (k:=.int .i64 k) hk rfl false 9999
  have hfk:(Instr.findKey kt (.int .i64 k) es.toList).run P w=.ok none w:=by
    simp only [Instr.findKey,Sem.run_bind,run_underlying hk,Result.andThen_ok,hf]
    rfl
  have hs:=MapKept.run_setObj_map (P:=P) (.map (es.push { key:=.int .i64 k,val:=v,born:=c }) (c+1)) hb
  simp only [Instr.mapUpdate,Sem.run_bind,run_underlying ht,Result.andThen_ok,MapKept.run_getObj_map hb]
  rw [show (10000:Nat)=9999+1 from rfl,hc]
  simp only [Result.andThen_ok,hfk]
  exact hs
def rEnts (n:Nat):Array MapEntry:=#[{ key:=.int .i64 1,val:=.func (.func 112) #[] #[.pointer (some ⟨n+3,0,none⟩)],born:=0 },{ key:=.int .i64 2,val:=.func (.func 112) #[] #[.pointer (some ⟨n,0,none⟩)],born:=1 },{ key:=.int .i64 3,val:=.func (.func 112) #[] #[.pointer (some ⟨n,0,none⟩)],born:=2 },
  { key:=.int .i64 6,val:=.func (.func 112) #[] #[.pointer (some ⟨n,0,none⟩)],born:=3 },{ key:=.int .i64 7,val:=.func (.func 112) #[] #[.pointer (some ⟨n,0,none⟩)],born:=4 },{ key:=.int .i64 4,val:=.func (.func 112) #[] #[.pointer (some ⟨n+1,0,none⟩)],born:=5 },
  { key:=.int .i64 5,val:=.func (.func 112) #[] #[.pointer (some ⟨n+1,0,none⟩)],born:=6 },{ key:=.int .i64 8,val:=.func (.func 116) #[] #[],born:=7 },{ key:=.int .i64 9,val:=.func (.func 117) #[] #[],born:=8 },{ key:=.int .i64 10,val:=.func (.func 118) #[] #[],born:=9 }]
def fbox (f:Nat):Obj:=.cells #[.func (.func f) #[] #[]] 131
def rHeap (h:Array Obj):Array Obj:=(((h.push (fbox 113)).push (fbox 114)).push (.map #[] 0)).push (fbox 115)
def rWorld (W:World):World:={ W with heap:=rHeap W.heap }
theorem rHeap_size (h:Array Obj):(rHeap h).size=h.size+4:=by simp [rHeap]
theorem rHeap_old (h:Array Obj) {b:Nat} (hb:b<h.size):(rHeap h)[b]? = h[b]? := by
  simp only [rHeap,Array.getElem?_push,Array.size_push]
  rw [if_neg (by omega),if_neg (by omega),if_neg (by omega),if_neg (by omega)]
theorem rHeap_new (h:Array Obj):(rHeap h)[h.size]? = some (fbox 113)∧(rHeap h)[h.size+1]? = some (fbox 114)∧(rHeap h)[h.size+2]? = some (.map #[] 0)∧(rHeap h)[h.size+3]? = some (fbox 115):=by
  simp only [rHeap,Array.getElem?_push,Array.size_push]
  refine ⟨?_,?_,?_,?_⟩
  · rw [if_neg (by omega),if_neg (by omega),if_neg (by omega),if_pos trivial]
  · rw [if_neg (by omega),if_neg (by omega),if_pos trivial]
  · rw [if_neg (by omega),if_pos trivial]
  · rw [if_pos trivial]
theorem readers_raw (W:World):Calls Tryz.prog 81 #[] W fun e w'=>e=.returned (.map (some (W.heap.size+2)))∧w'=setM (rWorld W) (W.heap.size+2) (rEnts W.heap.size) 10:=by
  go_enter Tryz.func81,Tryz.ntmps81
  go_wp2
  rw [makeMap_new]
  simp only [Result.andThen_ok,Oper.upon_value]
  go_wp2
  have hlt:W.heap.size+1+1<(rWorld W).heap.size:=by show _<(rHeap W.heap).size;rw [rHeap_size];omega
  have hb0:(rWorld W).heap[W.heap.size+1+1]? = some (.map #[] 0):=(rHeap_new W.heap).2.2.1
  rw [show ((((W.alloc (Obj.cells #[Value.func (Fn.func 113) #[] #[]] 131)).alloc (Obj.cells #[Value.func (Fn.func 114) #[] #[]] 131)).alloc (Obj.map #[] 0)).alloc (Obj.cells #[Value.func (Fn.func 115) #[] #[]] 131))=rWorld W from rfl]
  rw [insert_at Tryz.underlying115 Tryz.underlying3 _ _ _ _ hb0 _ _ rfl]
  simp only [Result.andThen_ok,Oper.upon_skip]
  go_wp2
  iterate 9
    rw [insert_at Tryz.underlying115 Tryz.underlying3 _ _ _ _ (setM_get hlt _ _) _ _ rfl,setM_setM]
    simp only [Result.andThen_ok,Oper.upon_skip]
    go_wp2
  go_ret
  exact ⟨rfl,rfl⟩
def fptr (f:Nat):AV:=.eptr .any 1 (fun _=>1) (fun _=>[.func f []]) (fun _=>0) 0
def rMap:List (Nat×AV):=[(1,.func 112 [fptr 115]),(2,.func 112 [fptr 113]),(3,.func 112 [fptr 113]),(6,.func 112 [fptr 113]),(7,.func 112 [fptr 113]),(4,.func 112 [fptr 114]),(5,.func 112 [fptr 114]),(8,.func 116 []),(9,.func 117 []),(10,.func 118 [])]
theorem rd_fptr {w:World} {D:Nat→Prop} {B b f:Nat} (hD:D b) (hb:w.heap[b]? = some (fbox f)):RD w D B (fptr f) (.pointer (some ⟨b,0,none⟩)):=by
  refine .eptr .any 1 _ _ _ 0 b 0 1 (Nat.zero_lt_one) (.slc .any 1 _ _ b 0 1 (fun _=>.func (.func f) #[] #[]) (Nat.le_refl _) (by decide) hD trivial (fun k hk=>?_) (fun _ _=>rfl) (fun _ _=>rfl) (fun i j av hi hj=>?_))
  · have:k=0:=by omega
    subst this
    simp [World.cell?,hb,fbox]
  · cases j with
    | zero=>simp at hj;subst hj;exact rd_func0 _
    | succ j=>simp at hj
theorem rd_ffun {w:World} {D:Nat→Prop} {B b f:Nat} (hD:D b) (hb:w.heap[b]? = some (fbox f)):RD w D B (.func 112 [fptr f]) (.func (.func 112) #[] #[.pointer (some ⟨b,0,none⟩)]) :=
  .func _ _ _ rfl fun i av v h1 h2=>by
    cases i with
    | zero=>simp at h1 h2;subst h1;subst h2;exact rd_fptr hD hb
    | succ i=>simp at h1
theorem readers_ok:Af Tryz.prog 81 [] [] (.fmap rMap) []:=by
  refine ⟨ent_of Tryz.func81 rfl rfl,fun E β vs hpin hdf hY h0=>?_⟩
  have hvs:vs=#[]:=by
    have:=h0.size
    simp only [List.length_nil] at this
    exact Array.eq_empty_of_size_eq_zero this
  subst hvs
  refine (readers_raw E.w0).mono fun e w' ⟨he,hw⟩=>⟨.map (some (E.w0.heap.size+2)),β,he,?_,fun o hi=>hi.elim⟩
  subst hw
  obtain ⟨n1,n2,n3,n4⟩:=rHeap_new E.w0.heap
  have hsz:(setM (rWorld E.w0) (E.w0.heap.size+2) (rEnts E.w0.heap.size) 10).heap.size=E.w0.heap.size+4:=by
    show ((rHeap E.w0.heap).setIfInBounds _ _).size=_
    rw [Array.size_setIfInBounds,rHeap_size]
  have hne:∀ b,b≠E.w0.heap.size+2→(setM (rWorld E.w0) (E.w0.heap.size+2) (rEnts E.w0.heap.size) 10).heap[b]? = (rHeap E.w0.heap)[b]? := fun b hb=>by
    show ((rHeap E.w0.heap).setIfInBounds _ _)[b]? = _
    rw [Array.getElem?_setIfInBounds_ne (by omega)]
  have hold:∀ b,b<E.w0.heap.size→(setM (rWorld E.w0) (E.w0.heap.size+2) (rEnts E.w0.heap.size) 10).heap[b]? = E.w0.heap[b]? := fun b hb=>(hne b (by omega)).trans (rHeap_old _ hb)
  have hmap:(setM (rWorld E.w0) (E.w0.heap.size+2) (rEnts E.w0.heap.size) 10).heap[E.w0.heap.size+2]? = some (.map (rEnts E.w0.heap.size) 10):=setM_get (by show _<(rHeap E.w0.heap).size;rw [rHeap_size];omega) _ _
  have k0:=(hne _ (by omega)).trans n1
  have k1:=(hne _ (by omega)).trans n2
  have k3:=(hne _ (by omega)).trans n4
  refine ⟨hdf.symm,rfl,fun t av ht=>?_,fun o=>trivial,fun o o' b _ hi=>hi.elim,⟨rfl,rfl,rfl,by show E.w0.heap.size≤_;rw [hsz];omega,fun b hb _=>hold b hb⟩,fun o u n0 hp=>by rw [hpin o] at hp;cases hp⟩
  cases t with
  | zero =>
    simp at ht;subst ht
    refine .d (.fmap rMap (E.w0.heap.size+2) 10 (rEnts E.w0.heap.size) ⟨.inr (.inr (show E.w0.heap.size≤_ by omega)),by rw [hsz];omega,fun o hi=>hi.elim⟩ hmap rfl (fun i k av e h1 h2=>?_) (fun i k av e h1 h2=>?_))
    all_goals
      have hi:i<10:=by have:=(List.getElem?_eq_some_iff.1 h1).1;simpa [rMap] using this
      have:i=0∨i=1∨i=2∨i=3∨i=4∨i=5∨i=6∨i=7∨i=8∨i=9:=by omega
      rcases this with rfl|rfl|rfl|rfl|rfl|rfl|rfl|rfl|rfl|rfl<;>(simp [rMap,rEnts] at h1 h2;obtain ⟨rfl,rfl⟩:=h1;subst h2)
    all_goals first
      | rfl
      | exact rd_func0 _
      | exact rd_ffun ⟨.inr (.inr (show E.w0.heap.size≤_ by omega)),by rw [hsz];omega,fun o hi=>hi.elim⟩ k0
      | exact rd_ffun ⟨.inr (.inr (show E.w0.heap.size≤_ by omega)),by rw [hsz];omega,fun o hi=>hi.elim⟩ k1
      | exact rd_ffun ⟨.inr (.inr (show E.w0.heap.size≤_ by omega)),by rw [hsz];omega,fun o hi=>hi.elim⟩ k3
  | succ t=>simp at ht
theorem scal_ok (e d f cc:Nat) (t:Ty) (he:e+1≤1073741824) (ht:Ty.le (e+1) d t) (hc:chkT (e+1) d t=0) (r q:Rd) (k i c:Int) (s:ByteArray) (hk:k=t.kind) (hcc:c=t.scale) (hs:s.size≤1073741824)
    (hf:Af Tryz.prog f [.ptr 1000 0,.ptr 1001 0] [(1000,Rd.box fun _=>r),(1001,vbox (fun _=>k) (fun _=>0) (fun _=>c) (fun _=>⟨#[]⟩))] (.tup []) [(1000,Rd.box fun _=>q),(1001,vbox (fun _=>k) (fun _=>i) (fun _=>c) (fun _=>s))]) :
    Af Tryz.prog 112 [.ptr 1000 0,encT (e+1) d .any fun _=>t,fptr f] [(1000,Rd.box fun _=>r)] (encV cc .any fun _=>.mk k i c s [] []) [(1000,Rd.box fun _=>(tryR d t r.pos (.mk k i c s [] [],q)).2)]:=by
  obtain ⟨d,rfl⟩:=Ty.lP ht
  obtain ⟨v,hv⟩:∃ v,v=V.mk k i c s [] []:=⟨_,rfl⟩
  have hvl:V.le 1 v:=by rw [hv];exact ⟨by simp [V.list],by simp [V.fields],hs,by simp [V.list],by simp [V.fields]⟩
  have hA:=Accepts_ok e (d+1) 1 t v he ht hvl (by decide)
  have hF:=fail_ok q r.pos 18
  obtain ⟨R,hR⟩:∃ R,R=(tryR (d+1) t r.pos (v,q)).2:=⟨_,rfl⟩
  have hRe:R=if q.e=0∧accV 1 (d+1) t v=false then q.fail r.pos 18 else q:=by rw [hR];rfl
  rw [← hv,← hR]
  have hAe:(decide (chkT (e+1) (d+1) t=0) && accV 1 (d+1) t v)=accV 1 (d+1) t v:=by rw [hc];simp
  rw [hAe] at hA
  obtain ⟨a,ha⟩:∃ a,a=accV 1 (d+1) t v:=⟨_,rfl⟩
  rw [← ha] at hA hRe
  rw [hv] at hA ⊢
  clear hv hvl hR ha hAe hc
  subst hk hcc
  (apply Af.of tF mF [.cell 5 30] kp112 [(3,[(2,.tup [],[(1000,Rd.box fun _=>q),(1001,vbox (fun _=>t.kind) (fun _=>i) (fun _=>t.scale) (fun _=>s))])]),(4,[(8,.bool fun _=>a,[])]),(5,[(2,.tup [],[(1000,Rd.box fun _=>q.fail r.pos 18)])])] Tryz.func112 (fun _=>?_);(any_goals ((with_reducible refine wI ?_);cbv;(try dsimp only [nc] at *);(repeat' (with_reducible first|exact aO|exact oN|refine oC ?_ ?_|refine VC.mk rfl ?_ ?_ ?_|(apply Ca.mk<;>intro _)|(apply Cv.mk<;>intro zq<;>(try simp only [nc,cl] at zq)<;>(try simp only [bl,dl] at zq)<;>(revert zq;intro _))|((first|apply xE|apply uE);cbv;(try dsimp only [nc] at *)))))))
  (any_goals ((with_reducible refine bZ ?_);(try dsimp only);(have q:=hf;refine Af.wN q ?_;clear q);(focus (cbv;(try dsimp only [nc] at *);(try simp only [wl,nc]);(repeat' (with_reducible apply And.intro));all_goals (try exact wZ)))))
  (any_goals ((with_reducible refine bZ ?_);(try dsimp only);(have q:=hA;refine Af.wN q ?_;clear q);(focus (cbv;(try dsimp only [nc] at *);(try simp only [wl,nc]);(repeat' (with_reducible apply And.intro));all_goals (try exact wZ)))))
  (any_goals ((with_reducible refine bZ ?_)<;>exact hF))
  ((all_goals (try (with_reducible ((first|refine rE ?_|refine nE ?_);(focus (cbv;(try dsimp only [nc] at *);(try simp only [wl,nc]);(repeat' (with_reducible apply And.intro));all_goals (try exact wZ)))))));(all_goals (try ((with_reducible rw [aC]);(try simp only [wl,nc]);(repeat' (with_reducible apply And.intro));(all_goals (try exact cZ))))))
  all_goals first
    | rfl
    | (rw [hRe,if_pos ‹q.e=0∧a=false›];done)
    | (rw [hRe,if_neg (show ¬ (q.e=0∧a=false) from fun z=>(‹¬ q.e=0∨a=true›).elim (fun y=>y z.1) (fun y=>by rw [z.2] at y;cases y))];done)
theorem read_err (e d c:Nat) (t:Ty) (r:Rd) (he:r.e≠0):Af Tryz.prog 61 [.ptr 1000 0,encT e d .any fun _=>t] [(1000,Rd.box fun _=>r)] (encV c .any fun _=>default) [(1000,Rd.box fun _=>r)]:=by
  (apply Af.of tF mF [.cell 4 30] kp61 [(3,[(0,.fmap rMap,[]),(6,.agg [.nil,.nil,.nil,.nil,.nil,.nil],[(1000,Rd.box fun _=>r)])])] Tryz.func61 (fun _=>?_);(any_goals ((with_reducible refine wI ?_);cbv;(try dsimp only [nc] at *);(repeat' (with_reducible first|exact aO|exact oN|refine oC ?_ ?_|refine VC.mk rfl ?_ ?_ ?_|(apply Ca.mk<;>intro _)|(apply Cv.mk<;>intro zq<;>(try simp only [nc,cl] at zq)<;>(try simp only [bl,dl] at zq)<;>(revert zq;intro _))|((first|apply xE|apply uE);cbv;(try dsimp only [nc] at *)))))))
  all_goals (try exact absurd ‹r.e=0› he)
  (all_goals (try exact eZ))
theorem read_any (e d c:Nat) (t:Ty) (v:V) (r q:Rd) (he:r.e=0) (k fn:Nat) (caps:List AV) (hm:(k,AV.func fn caps) ∈ rMap) (hk:t.kind=k)
    (hf:Af Tryz.prog fn (.ptr 1000 0 :: encT e d .any (fun _=>t) :: caps) [(1000,Rd.box fun _=>r)] (encV c .any fun _=>v) [(1000,Rd.box fun _=>q)]) :
    Af Tryz.prog 61 [.ptr 1000 0,encT e d .any fun _=>t] [(1000,Rd.box fun _=>r)] (encV c .any fun _=>v) [(1000,Rd.box fun _=>q)]:=by
  simp only [rMap,List.mem_cons,Prod.mk.injEq,AV.func.injEq,List.not_mem_nil,or_false] at hm
  rcases hm with ⟨rfl,rfl,rfl⟩|⟨rfl,rfl,rfl⟩|⟨rfl,rfl,rfl⟩|⟨rfl,rfl,rfl⟩|⟨rfl,rfl,rfl⟩|⟨rfl,rfl,rfl⟩|⟨rfl,rfl,rfl⟩|⟨rfl,rfl,rfl⟩|⟨rfl,rfl,rfl⟩|⟨rfl,rfl,rfl⟩
  all_goals
    rw [encT_kind hk]
    (apply Af.of tF mF [.cell 4 30] kp61 [(3,[(0,.fmap rMap,[]),(6,encV c .any fun _=>v,[(1000,Rd.box fun _=>q)])])] Tryz.func61 (fun _=>?_);(any_goals ((with_reducible refine wI ?_);cbv;(try dsimp only [nc] at *);(repeat' (with_reducible first|exact aO|exact oN|refine oC ?_ ?_|refine VC.mk rfl ?_ ?_ ?_|(apply Ca.mk<;>intro _)|(apply Cv.mk<;>intro zq<;>(try simp only [nc,cl] at zq)<;>(try simp only [bl,dl] at zq)<;>(revert zq;intro _))|((first|apply xE|apply uE);cbv;(try dsimp only [nc] at *)))))))
    all_goals (try exact absurd he ‹_›)
    (any_goals ((with_reducible refine bZ ?_)<;>exact readers_ok))
    (any_goals ((with_reducible refine bZ ?_);(try dsimp only);(have q:=hf;refine Af.wN q ?_;clear q);(exact aZ)))
    (all_goals (try exact eZ))
end Go.Ai

namespace Go.Ai
open Go Go.Proofs
set_option maxRecDepth 100000
set_option maxHeartbeats 2000000
def Rd.few (r:Rd):Prop:=r.good∧r.s.size≤536870912
theorem Rd.aft.few {r p:Rd} (h:r.aft p) (k:r.few):p.few:=⟨h.good,by rw [h.s];exact k.2⟩
theorem subR_few {r:Rd} (h:r.few) (he:(sub2 r).e=0):(subR r).few:=⟨(subR_good h.1 he).1,h.2⟩
theorem listR_len {f:Rd→V×Rd} (hf:∀ r:Rd,r.good→r.aft (f r).2∧((f r).2.e=0→r.pos<(f r).2.pos)):∀ (n:Nat) (l:List V) (r:Rd),r.good→((listR f n l r).1.length:Int)≤l.length+((listR f n l r).2.pos - r.pos)+1
  | 0,l,r,h=>by simp only [listR];omega
  | n + 1,l,r,h=>by
    rw [listR]
    split
    · simp only;omega
    · obtain ⟨h1,h2⟩:=hf r h
      have hp:=h1.pos
      have h3:=listR_len hf n (l++[(f r).1]) (f r).2 h1.good
      by_cases he:(f r).2.e=0
      · have:=h2 he
        simp only [List.length_append,List.length_cons,List.length_nil] at h3
        omega
      · have:listR f n (l++[(f r).1]) (f r).2=(l++[(f r).1],(f r).2):=by
          cases n with
          | zero=>rfl
          | succ n=>rw [listR,if_pos he]
        rw [this]
        simp only [List.length_append,List.length_cons,List.length_nil]
        omega
theorem listR_mem {f:Rd→V×Rd} {p:V→Prop} (hf:∀ r:Rd,r.few→r.aft (f r).2∧p (f r).1):∀ (n:Nat) (l:List V) (r:Rd),r.few→(∀ x ∈ l,p x)→∀ x ∈ (listR f n l r).1,p x
  | 0,_,_,_,hl=>hl
  | n + 1,l,r,h,hl=>by
    rw [listR]
    split
    · exact hl
    · obtain ⟨h1,h2⟩:=hf r h
      exact listR_mem hf n _ _ (h1.few h) fun x hx=>by
        rcases List.mem_append.1 hx with hx|hx
        · exact hl x hx
        · simp only [List.mem_cons,List.not_mem_nil,or_false] at hx
          rw [hx];exact h2
theorem fieldsR_mem {k:Int→FL→Rd→FL×Rd} {p:ByteArray×V→Prop} (hk:∀ (n:Int) (l:FL) (r:Rd),r.few→(∀ x ∈ l,p x)→(∀ x ∈ (k n l r).1,p x)∧(k n l r).1.length≤l.length+1) :
    ∀ (n:Nat) (last:Int) (l:FL) (r:Rd),r.few→(∀ x ∈ l,p x)→(∀ x ∈ (fieldsR k n last l r).1,p x)∧((fieldsR k n last l r).1.length:Int)≤l.length+((fieldsR k n last l r).2.pos - r.pos)
  | 0,_,_,_,_,hl=>⟨hl,by simp only [fieldsR];omega⟩
  | n + 1,last,l,r,h,hl=>by
    have hn:=(aft_num h.1).1
    have hs:=aft_step last h.1
    have hp:=(aft_part (k:=k (nR r).1) (l:=l) hs.good).1
    have h1:(∀ x ∈ (partR (k (nR r).1) l (stepR last r)).1,p x)∧((partR (k (nR r).1) l (stepR last r)).1.length:Int)≤l.length+((partR (k (nR r).1) l (stepR last r)).2.pos - (stepR last r).pos):=by
      have hp0:=hp.pos
      obtain ⟨a1,a2⟩:=aft_part (k:=k (nR r).1) (l:=l) hs.good
      obtain ⟨b1,b2⟩:=aft_sub2 hs.good
      unfold partR at hp0 ⊢
      split
      · rename_i q
        rw [if_pos q] at hp0
        exact ⟨hl,by simp only at hp0 ⊢;omega⟩
      · rename_i q
        have hg:=subR_few (hs.few h) (by omega)
        obtain ⟨c1,c2⟩:=hk (nR r).1 l _ hg hl
        have hb:=(aft_back (p:=longR (k (nR r).1 l (subR (stepR last r))).2) b1.good).pos
        have:=b2 (by omega)
        exact ⟨c1,by simp only;omega⟩
    rw [fieldsR]
    split
    · exact ⟨hl,by simp only;omega⟩
    split
    · have:=hn.pos
      exact ⟨hl,by simp only;omega⟩
    · obtain ⟨i1,i2⟩:=fieldsR_mem hk n (nR r).1 _ _ (hp.few (hs.few h)) h1.1
      have:=hs.pos
      exact ⟨i1,by omega⟩
theorem defsR_mem {p:ByteArray×V→Prop}:∀ (fs:List TF) (l:FL) (r:Rd),(∀ f ∈ fs,fN f=3→p (fM f,(fDef f).getD 0 default))→(∀ x ∈ l,p x)→(∀ x ∈ (defsR fs l r).1,p x)∧(defsR fs l r).1.length≤l.length+fs.length
  | [],_,_,_,hl=>⟨hl,by simp [defsR]⟩
  | f :: fs,l,r,h,hl=>by
    have ht:∀ f ∈ fs,fN f=3→p (fM f,(fDef f).getD 0 default):=fun x hx=>h x (List.mem_cons_of_mem _ hx)
    rw [defsR]
    simp only [List.length_cons]
    split
    · obtain ⟨a,b⟩:=defsR_mem fs l r ht hl;exact ⟨a,by omega⟩
    split
    · obtain ⟨a,b⟩:=defsR_mem fs l (r.fail r.pos 19) ht hl;exact ⟨a,by omega⟩
    split
    · obtain ⟨a,b⟩:=defsR_mem fs (l++[(fM f,(fDef f).getD 0 default)]) r ht fun x hx=>by
        rcases List.mem_append.1 hx with hx|hx
        · exact hl x hx
        · simp only [List.mem_cons,List.not_mem_nil,or_false] at hx
          rw [hx];exact h f (List.mem_cons_self ..) ‹_›
      refine ⟨a,?_⟩
      simp only [List.length_append,List.length_cons,List.length_nil] at b
      omega
    · obtain ⟨a,b⟩:=defsR_mem fs l r ht hl;exact ⟨a,by omega⟩
theorem default_le (c:Nat):V.le (c+1) (default:V):=⟨Nat.zero_le _,Nat.zero_le _,Nat.zero_le _,fun (x:V) (h:x ∈ ([]:List V))=>(by cases h),fun (x:ByteArray×V) (h:x ∈ ([]:FL))=>(by cases h)⟩
theorem bytesR_size {r:Rd} (h:r.good) {n:Int} (hn:0≤n):(bR r n).1.size≤r.s.size:=by
  unfold bR
  split
  · exact Nat.zero_le _
  split
  · exact Nat.zero_le _
  · show (r.s.extract _ _).size≤_
    rw [ByteArray.size_extract];omega
theorem fldK_mem {f:Ty→Rd→V×Rd} {t:Ty} {p:ByteArray×V→Prop} (hp:∀ (n:Int) (r:Rd),r.few→0≤iI (bY n) t.fields→p (fM (gT t (bY n)),(f (fT (gT t (bY n))) r).1)) (n:Int) (l:FL) (r:Rd) (h:r.few) (hl:∀ x ∈ l,p x) :
    (∀ x ∈ (fldK f t n l r).1,p x)∧(fldK f t n l r).1.length≤l.length+1:=by
  unfold fldK
  split
  · exact ⟨hl,Nat.le_succ _⟩
  · refine ⟨fun x hx=>?_,by simp⟩
    rcases List.mem_append.1 hx with hx|hx
    · exact hl x hx
    · simp only [List.mem_cons,List.not_mem_nil,or_false] at hx
      rw [hx];exact hp n r h (by omega)
theorem dec_step {d:Nat} (hd:0<d) (t:Ty) (r:Rd) (h:r.good):r.aft (dV d t r).2∧((dV d t r).2.e=0→r.pos<(dV d t r).2.pos):=⟨(aft_dec d t r h).1,(aft_dec d t r h).2 hd⟩
theorem recV_fields (l:FL):(recV l).fields=sortN (keepR l):=rfl
theorem def_le {e d:Nat} {t:Ty} (ht:Ty.le e (d+1) t) {f:TF} (hf:f ∈ t.fields) (c:Nat) (hc:e≤c) (h0:0<c):(fM f).size≤1073741824∧V.le c ((fDef f).getD 0 default):=by
  obtain ⟨h1,h2,h3,h4⟩:=ht.2.2.2.2.2 f hf
  refine ⟨h1,?_⟩
  by_cases h:0<(fDef f).length
  · exact V.le_mono (h3 _ (gD h)) hc
  · have:fDef f=[]:=List.eq_nil_of_length_eq_zero (by omega)
    rw [this]
    obtain ⟨b,rfl⟩:∃ b,c=b+1:=⟨c - 1,by omega⟩
    exact default_le b
theorem decV_le (e:Nat):∀ (d:Nat) (t:Ty) (r:Rd),Ty.le e d t→Ty.ok e d t→r.few→V.le (d+e) (dV d t r).1
  | 0,_,_,h,_,_=>h.elim
  | d + 1,t,r,ht,hto,h=>by
    have hc:∃ c,d+1+e=c+1:=⟨d+e,by omega⟩
    obtain ⟨h1,h2⟩:=h
    have hn:=(aft_num h1).1
    have hnf:=hn.few ⟨h1,h2⟩
    have hfl:=ht.2.2.2.1
    have hgt:∀ p,0≤iI p t.fields→gT t p ∈ t.fields:=fun p q=>getTF_mem q
    have hdd:(default:V).list=[]∧(default:V).fields=[]:=⟨rfl,rfl⟩
    rw [dV]
    split
    · obtain ⟨c,hc⟩:=hc;rw [hc];exact default_le c
    split
    · rw [show d+1+e=d+e+1 by omega]
      have hr1:(nR r).2.aft (if (nR r).1<t.min∨t.max<(nR r).1 then (nR r).2.fail r.pos 18 else (nR r).2):=by
        split
        · exact (aft_fail hn.good _ (by decide)).1
        · exact .refl hn.good
      have hx:0<t.elem.length:=by have:=ownT_elem hto.1 ‹_›;omega
      · have hte:Ty.le e d (t.elem.getD 0 default):=ht.2.2.2.2.1 _ (gD hx)
        obtain ⟨d,rfl⟩:=Ty.lP hte
        have hd:=fun r h=>dec_step (d:=d+1) (Nat.succ_pos _) (t.elem.getD 0 default) r h
        have hl:=listR_len hd (nR r).1.toNat [] _ hr1.good
        have ha:=aft_list (f:=dV (d+1) (t.elem.getD 0 default)) (fun r h=>(hd r h).1) (nR r).1.toNat [] _ hr1.good
        have hm:=listR_mem (f:=dV (d+1) (t.elem.getD 0 default)) (p:=V.le (d+1+e)) (fun r h=>⟨(hd r h.1).1,decV_le e (d+1) _ r hte (Ty.ok_elem hto ‹_› (gD hx)) h⟩) (nR r).1.toNat [] _ (hr1.few hnf) (by simp)
        obtain ⟨q1,q2,q3,q4⟩:=ha.good
        have q5:=ha.s
        have q6:=hr1.s
        have q7:=hn.s
        have q8:=hr1.good.1
        refine ⟨?_,by simp [lstR,V.fields],by simp [lstR,V.text,ByteArray.size],hm,by simp [lstR,V.fields]⟩
        show (listR _ _ _ _).1.length≤_
        simp only [List.length_nil] at hl
        rw [q5,q6,q7] at q3
        omega
    split
    · have hk:t.kind=9:=‹_›
      rw [show d+1+e=d+e+1 by omega]
      have hf:=fieldsR_mem (k:=fldK (dV d) t) (p:=fun x=>x.1.size≤1073741824∧V.le (d+e) x.2) (fldK_mem fun n r h q=>⟨(ht.2.2.2.2.2 _ (hgt _ q)).1,decV_le e d _ r (ht.2.2.2.2.2 _ (hgt _ q)).2.2.2 (Ty.ok_field hto (.inl hk) (hgt _ q)) h⟩) (nR r).1.toNat 0 [] _ hnf (by simp)
      have ha:=aft_fields (k:=fldK (dV d) t) (nR r).1.toNat 0 [] _ hn.good
      obtain ⟨q1,q2,q3,q4⟩:=ha.good
      have q5:=ha.s
      have q7:=hn.s
      have q8:=hn.good.1
      have h64:=ownT_len hto.1 (.inl hk)
      rw [q5,q7] at q3
      have hdl:=defsR_mem (p:=fun x=>x.1.size≤1073741824∧V.le (d+e) x.2) t.fields (fieldsF (dV d) t r).1 (fieldsF (dV d) t r).2 (fun f hf _=>def_le ht hf (d+e) (by omega) (by obtain ⟨c,hc⟩:=Ty.lP (ht.2.2.2.2.2 f hf).2.2.2;omega)) hf.1
      refine recV_le ?_ hdl.1
      have:=hf.2
      have:=hdl.2
      simp only [fieldsF] at *
      simp only [List.length_nil] at *
      omega
    split
    · have hk:t.kind=10:=‹_›
      rw [show d+1+e=d+e+1 by omega]
      unfold varR
      split
      · exact default_le _
      · rename_i hi
        have hm:=hgt (bY (nR r).1) (by omega)
        have hle:=ht.2.2.2.2.2 _ hm
        have hk1:∀ x ∈ (partR (varK (dV d) (fT (gT t (bY (nR r).1)))) [] (nR r).2).1,V.le (d+e) x:=by
          intro x hx
          unfold partR at hx
          split at hx
          · cases hx
          · rename_i q
            simp only [varK,List.mem_cons,List.not_mem_nil,or_false] at hx
            rw [hx]
            exact decV_le e d _ _ hle.2.2.2 (Ty.ok_field hto (.inr hk) hm) (subR_few hnf (by omega))
        have hl1:(partR (varK (dV d) (fT (gT t (bY (nR r).1)))) [] (nR r).2).1.length≤1:=by
          unfold partR
          split
          · simp
          · simp [varK]
        refine ⟨?_,by simp [V.fields],hle.1,hk1,by simp [V.fields]⟩
        show (partR (α:=List V) _ _ _).1.length≤_
        omega
    · obtain ⟨c,hc⟩:=hc
      rw [hc]
      have hb:(bR (nR r).2 (nR r).1).1.size≤1073741824:=by
        have:=bytesR_size hn.good (n:=(nR r).1) (aft_num h1).2.2.1
        have h3:=hn.s
        rw [h3] at this
        omega
      show V.le (c+1) (scalR t r).1
      unfold scalR
      split
      · exact ⟨by simp [V.list],by simp [V.fields],by simp [V.text,ByteArray.size],by simp [V.list],by simp [V.fields]⟩
      split
      · exact ⟨by simp [V.list],by simp [V.fields],hb,by simp [V.list],by simp [V.fields]⟩
      · exact ⟨by simp [V.list],by simp [V.fields],by simp [V.text,ByteArray.size],by simp [V.list],by simp [V.fields]⟩
end Go.Ai
