/- Chapter 17: the law's model of the printer: text at right expressions; paths that begin with a reserved word; sizes. -/
import Derived.Test.YtbagpkiomjlhkaaGreatDoorMdA
set_option linter.all false
namespace Go.Ai
open Go Go.Proofs
set_option maxRecDepth 100000
set_option maxHeartbeats 4000000
def modX (x:X):Prop:=(1≤x.op∧x.op≤28)∧(0≤x.int∧x.int≤12)∧(x.op=22∨x.op=26→x.args.length=0)∧(aa1 x.op=9→¬x.op=1→¬x.op=2→¬x.op=22→¬x.op=26→0<x.args.length)
theorem agR (op:Int):1≤aa1 op:=by
 rcases ac8 op with ⟨h,e,_⟩|⟨_,e⟩
 ·omega
 ·rw [e];repeat' split
  all_goals omega
theorem ajR (lit:V→ByteArray) (e:Nat):∀ (k D:Nat) (x:X) (need:Int),X.le (e+1) (D+1) x→X.le (e+1) k x→X.all (fun x=>(shpX x∧litX lit e x)∧modX x) k x→wX lit k x≤549755813888→1≤need→need≤9 →
 Af Tryz.prog 17 [encX (e+1) (D+1) .any fun _=>x,.int .i64 fun _=>need] [] (.str fun _=>txtN lit k x need) []
 | 0,_,_,_,_,h,_,_,_,_=>h.elim
 | k + 1,D,x,need,hx,hk,ha,hw,hn0,hn9=>by
  have hsz:X.all shpX (k+1) x:=X.acA (fun _ h=>h.1.1) ha
  have hz:=acr lit (k+1) x hsz
  have h01:∀ y,txtN lit k y 1=txtN lit k y 0:=fun y=>by
   have:=agR y.op
   unfold txtN
   rw [if_neg (by omega),if_neg (by omega)]
  have hT:∀ i,i<x.args.length→MArg (txtN lit k) e D (x.args.getD i default):=fun i hi n h1 h2 _=>by
   have hy:=X.abm hx hi
   obtain ⟨c,rfl⟩:=X.lP hy
   have e1:x.args.getD i default=x.args[i]:=by simp [List.getD,hi]
   have hs:=ajt (f:=fun y=>wX lit k y+6) hi
   have hw':100+x.text.size+(lit (x.value.getD 0 default)).size+(x.args.map fun y=>wX lit k y+6).sum≤549755813888:=hw
   refine ajR lit e k c _ n hy (X.abm hk hi) (ha.2 _ ?_) (by omega) h1 h2
   rw [e1];exact List.getElem_mem hi
  have key:∀ need,need≤aa1 x.op→Af Tryz.prog 17 [encX (e+1) (D+1) .any fun _=>x,.int .i64 fun _=>need] [] (.str fun _=>aad lit (txtN lit k) x) []:=fun need hb=>by
   obtain ⟨⟨⟨q1,q2,q3,q4,q5⟩,q6⟩,r1,r2,r3,r4⟩:=ha.1
   have hz':(aad lit (txtN lit k) x).size≤549755813888:=Nat.le_trans hz hw
   have hm:=hk.2.2.1
   by_cases o3:x.op=3
   ·exact m_not lit _ e D x need hT (q1 (.inl o3)) (by omega) hb o3
   by_cases o16:x.op=16
   ·have l1:=q1 (.inr (.inl o16))
    have e1:x.args.getD 0 default=x.args[0]:=by simp [List.getD,show 0<x.args.length by omega]
    refine m_neg lit _ e D x need hT l1 (fun h=>?_) (fun h=>?_) (by omega) hb o16
    ·obtain ⟨c,rfl⟩:=X.lP (X.abm hk (show 0<x.args.length by omega))
     exact (ha.2 (x.args.getD 0 default) (by rw [e1];exact List.getElem_mem _)).1.1.1.2.2.2.2 h
    ·unfold txtN
     rw [h];rfl
   by_cases o25:x.op=25
   ·exact m_in lit _ e D x need hT h01 (q1 (.inr (.inr o25))) hm (by omega) hb o25
   have l2:=q2 o3 o16 o25
   by_cases hp:0<sgnN x.op
   ·refine m_bin lit _ e D x need hT (l2 ?_) (by omega) hb hp
    obtain ⟨_,_,_,q,_⟩:=(ac8 x.op).resolve_right fun q=>by have:=q.1;omega
    omega
   have b:aa1 x.op=9:=by
    obtain ⟨_,q⟩:=(ac8 x.op).resolve_left fun q=>by have:=q.1;omega
    rw [q,if_neg o3,if_neg o25,if_neg o16]
   by_cases o1:x.op=1
   ·obtain ⟨er,h3⟩:=q6 o1
    exact m_val lit er _ e D x need (q5 o1) h3 hb o1
   by_cases o2:x.op=2
   ·exact m_path lit _ e D x need hb o2
   refine m_call lit _ e D x need hT h01 hm (by have:=hk.1;omega) hb b o1 o2 r1 r2 r3 (r4 b o1 o2) ?_
   have h5:=acG (fun y=>txtN lit k y 0) x.args
   have hs:=ah6 (l:=x.args) (f:=fun y=>(txtN lit k y 0).size+2) (g:=fun y=>wX lit k y+6) (fun y hy=>by
    have:=aeB (lit:=lit) (k:=k) (y:=y) 0
    have:=acr lit k y (hsz.2 y hy)
    omega)
   have hw':100+x.text.size+(lit (x.value.getD 0 default)).size+(x.args.map fun y=>wX lit k y+6).sum≤549755813888:=hw
   omega
  unfold txtN
  by_cases hb:aa1 x.op<need
  ·rw [if_pos hb]
   exact m_par e D x need _ (key 1 (agR _)) hb (by omega)
  ·rw [if_neg hb]
   exact key need (by omega)
def rsvX:Nat→X→Bool
 | 0,_=>false
 | k+1,x=>if abJ x.op=true then (decide (0<(abo x.text).1.length) && resB ((abo x.text).1.getD 0 (0,0,⟨#[]⟩)).2.2) else x.args.any (rsvX k)
theorem ajz (e:Nat):∀ (k D:Nat) (x:X),X.le (e+1) (D+1) x→X.le (e+1) k x→Af Tryz.prog 16 [encX (e+1) (D+1) .any fun _=>x] [] (.bool fun _=>rsvX k x) []
 | 0,_,_,_,h=>h.elim
 | k + 1,D,x,hx,hk=>by
  have hA:∀ i,i<x.args.length→Af Tryz.prog 16 [encX (e+1) D .any fun _=>x.args.getD i default] [] (.bool fun _=>rsvX k (x.args.getD i default)) []:=fun i hi=>by
   have hy:=X.abm hx hi
   obtain ⟨c,rfl⟩:=X.lP hy
   exact ajz e k c _ hy (X.abm hk hi)
  have hm:=hk.2.2.1
  have h1:=adL x.text (Nat.le_trans hx.1 (by decide))
  have h2:=agi ((abo x.text).1.getD 0 (0,0,⟨#[]⟩)).2.2
  obtain ⟨Z,hZ⟩:∃ Z,Z=rsvX (k+1) x:=⟨_,rfl⟩
  rw [← hZ]
  unfold rsvX at hZ
  obtain ⟨f,hf⟩:∃ f,f=rsvX k:=⟨_,rfl⟩
  rw [← hf] at hZ hA
  clear hf hk hx
  generalize abo x.text=P at *
  obtain ⟨P,pe⟩:=P
  dsimp only at h1 h2 hZ
  generalize hr:resB (P.getD 0 (0,0,⟨#[]⟩)).2.2=r at *
  by_cases hp:abJ x.op=true
  ·rw [if_pos hp] at hZ
   have hp':x.op=2∨x.op=22∨x.op=26:=by simpa [abJ,or_assoc] using hp
   clear hA hr
   (apply Af.of tF mF [.tmp 2] kp16 [(2,[(2,.tup [slcP fun _=>P,.int .i64 fun _=>pe],[])]),(3,[(8,.bool fun _=>r,[])]),(7,[(5,.any,[])])] Tryz.func16 (fun _=>?_);(any_goals ((with_reducible refine wI ?_);cbv;(try dsimp only [nc] at *);(repeat' (with_reducible first|exact ‹False›.elim|exact nZ|refine oC ?_ ?_|refine VC.mk rfl ?_ ?_ ?_|(apply Ca.mk<;>intro _)|refine cV (fun _=>?_) fun _=>?_|((first|apply xE|apply uE);cbv;(try dsimp only [nc] at *)))))))
   all_goals (try simp only [Int.toNat_zero,ite_self] at *)
   any_goals ((with_reducible first|refine nO ?_|refine sO (fun _=>?_));first|exact h1|exact h2)
   all_goals (try (exact absurd hp' (by omega)))
   ((all_goals (try (with_reducible ((first|refine rE ?_|refine nE ?_);cbv;(try dsimp only [nc] at *);(try simp only [wl,nc]);(repeat' apply And.intro);all_goals (try exact wZ)))));(all_goals (try ((with_reducible rw [aC]);(try simp only [wl,nc]);(repeat' (with_reducible apply And.intro));(all_goals (try exact cZ))))))
   rw [hZ]
   by_cases q:0<P.length
   ·rw [if_pos (decide_eq_true (by omega)),decide_eq_true q,Bool.true_and]
   ·rw [if_neg (by simp only [decide_eq_true_eq];omega),decide_eq_false q,Bool.false_and]
  ·rw [if_neg hp] at hZ
   have hp':¬x.op=2∧¬x.op=22∧¬x.op=26:=by simpa [abJ,and_assoc] using hp
   clear h1 h2 hr
   (apply Af.of tF mF [.tmp 2] kp16 [(2,[(2,.any,[])]),(3,[(8,.any,[])])] Tryz.func16 (fun _=>?_);(any_goals ((with_reducible refine wI ?_);cbv;(try dsimp only [nc] at *);(repeat' (with_reducible first|exact ‹False›.elim|exact nZ|refine oC ?_ ?_|refine VC.mk rfl ?_ ?_ ?_|(apply Ca.mk<;>intro _)|refine cV (fun _=>?_) fun _=>?_|((first|apply xE|apply uE);cbv;(try dsimp only [nc] at *)))))))
   all_goals (try simp only [Int.toNat_zero,ite_self] at *)
   all_goals (try (exact absurd hp' (by omega)))
   ((all_goals (try (with_reducible ((first|refine rE ?_|refine nE ?_);cbv;(try dsimp only [nc] at *);(try simp only [wl,nc]);(repeat' apply And.intro);all_goals (try exact wZ)))));(all_goals (try ((with_reducible rw [aC]);(try simp only [wl,nc]);(repeat' (with_reducible apply And.intro));(all_goals (try exact cZ))))))
   refine .loop (fun i:Nat=>⟨48,[(5,.int .i64 fun _=>(i:Int)),(1,.ptr 1 0)],[(1,.box [.any,.any,.any,.any,.slc .any 5 (fun _=>x.args.length) (subX (e+1) (D+1) .any fun _=>x)])]⟩)
    (fun i=>i≤x.args.length∧(x.args.drop i).any f=Z) (fun i=>x.args.length - i) 0 ⟨Nat.zero_le _,hZ.symm⟩ ?_ fun i E hi=>?_
   ·(exact aZ)
   obtain ⟨g1,g2⟩:=hi
   by_cases hi:i<x.args.length
   ·rw [List.drop_eq_getElem_cons hi,List.any_cons] at g2
    have e1:x.args.getD i default=x.args[i]:=by simp [List.getD,hi]
    rw [← e1] at g2
    have h3:=hA i hi
    generalize f (x.args.getD i default)=b at *
    apply AWp.wk tF mF [(7,[(5,.bool fun _=>b,[])])] kp16 ?_
    (any_goals ((with_reducible refine wI ?_);cbv;(try dsimp only [nc] at *);(repeat' (with_reducible first|exact ‹False›.elim|exact nZ|refine oC ?_ ?_|refine VC.mk rfl ?_ ?_ ?_|(apply Ca.mk<;>intro _)|refine cV (fun _=>?_) fun _=>?_|((first|apply xE|apply uE);cbv;(try dsimp only [nc] at *))))))
    all_goals (try simp only [Int.toNat_natCast])
    any_goals ((with_reducible refine nO ?_);exact h3)
    all_goals (try (exact absurd hi (Nat.not_lt.2 ‹_›)))
    ((all_goals (try (with_reducible ((first|refine rE ?_|refine nE ?_);cbv;(try dsimp only [nc] at *);(try simp only [wl,nc]);(repeat' apply And.intro);all_goals (try exact wZ)))));(all_goals (try ((with_reducible rw [aC]);(try simp only [wl,nc]);(repeat' (with_reducible apply And.intro));(all_goals (try exact cZ))))))
    ·rw [← g2,‹b=true›,Bool.true_or]
    ·rw [‹b=false›,Bool.false_or] at g2
     refine dE (i+1) ⟨⟨by omega,g2⟩,by omega⟩ ?_
     (focus (cbv;(try dsimp only [nc] at *);(try simp only [wl,nc]);(repeat' (with_reducible apply And.intro));all_goals (try exact wZ)))
     exact w64n (by omega)
   ·rw [List.drop_eq_nil_of_le (by omega)] at g2
    apply AWp.wk tF mF [(7,[(5,.any,[])])] kp16 ?_
    (any_goals ((with_reducible refine wI ?_);cbv;(try dsimp only [nc] at *);(repeat' (with_reducible first|exact ‹False›.elim|exact nZ|refine oC ?_ ?_|refine VC.mk rfl ?_ ?_ ?_|(apply Ca.mk<;>intro _)|refine cV (fun _=>?_) fun _=>?_|((first|apply xE|apply uE);cbv;(try dsimp only [nc] at *))))))
    all_goals (try (exact absurd ‹i<x.args.length› hi))
    ((all_goals (try (with_reducible ((first|refine rE ?_|refine nE ?_);cbv;(try dsimp only [nc] at *);(try simp only [wl,nc]);(repeat' apply And.intro);all_goals (try exact wZ)))));(all_goals (try ((with_reducible rw [aC]);(try simp only [wl,nc]);(repeat' (with_reducible apply And.intro));(all_goals (try exact cZ))))))
    first|exact g2|exact g2.symm
def accX (g:Int→Int→Int) (f:X→Int):List X→Int→Int
 | [],n=>n
 | y :: r,n=>accX g f r (g n (f y))
def depX:Nat→X→Int
 | 0,_=>0
 | k+1,x=>IntKind.i64.wrap (accX (fun a b=>if a<b then b else a) (depX k) x.args 0+1)
theorem ag0 (e:Nat):∀ (k D:Nat) (x:X),X.le (e+1) (D+1) x→X.le (e+1) k x→Af Tryz.prog 37 [encX (e+1) (D+1) .any fun _=>x] [] (.int .i64 fun _=>depX k x) []
 | 0,_,_,_,h=>h.elim
 | k + 1,D,x,hx,hk=>by
  have hA:∀ i,i<x.args.length→Af Tryz.prog 37 [encX (e+1) D .any fun _=>x.args.getD i default] [] (.int .i64 fun _=>depX k (x.args.getD i default)) []:=fun i hi=>by
   have hy:=X.abm hx hi
   obtain ⟨c,rfl⟩:=X.lP hy
   exact ag0 e k c _ hy (X.abm hk hi)
  have hm:=hk.2.2.1
  obtain ⟨Z,hZ⟩:∃ Z,Z=accX (fun a b=>if a<b then b else a) (depX k) x.args 0:=⟨_,rfl⟩
  unfold depX
  rw [← hZ]
  obtain ⟨f,hf⟩:∃ f,f=depX k:=⟨_,rfl⟩
  rw [← hf] at hZ hA
  clear hf hk hx
  (apply Af.of tF mF [.tmp 2] kp37 [] Tryz.func37 (fun _=>?_);(any_goals ((with_reducible refine wI ?_);cbv;(try dsimp only [nc] at *);(repeat' (with_reducible first|exact ‹False›.elim|exact nZ|refine oC ?_ ?_|refine VC.mk rfl ?_ ?_ ?_|(apply Ca.mk<;>intro _)|refine cV (fun _=>?_) fun _=>?_|((first|apply xE|apply uE);cbv;(try dsimp only [nc] at *)))))))
  refine .loop (fun q:Nat×Int=>⟨22,[(4,.int .i64 fun _=>(q.1:Int)),(3,.int .i64 fun _=>q.2),(1,.ptr 1 0)],[(1,.box [.any,.any,.any,.any,.slc .any 5 (fun _=>x.args.length) (subX (e+1) (D+1) .any fun _=>x)])]⟩)
   (fun q=>q.1≤x.args.length∧accX (fun a b=>if a<b then b else a) f (x.args.drop q.1) q.2=Z) (fun q=>x.args.length - q.1) (0,0) ⟨Nat.zero_le _,hZ.symm⟩ ?_ fun q E hq=>?_
  ·(exact aZ)
  obtain ⟨i,n⟩:=q
  obtain ⟨g1,g2⟩:=hq
  dsimp only at g1 g2
  by_cases hi:i<x.args.length
  ·rw [List.drop_eq_getElem_cons hi,accX] at g2
   have e1:x.args.getD i default=x.args[i]:=by simp [List.getD,hi]
   rw [← e1] at g2
   have h3:=hA i hi
   generalize f (x.args.getD i default)=b at *
   apply AWp.wk tF mF [(5,[(6,.int .i64 fun _=>b,[])])] kp37 ?_
   (any_goals ((with_reducible refine wI ?_);cbv;(try dsimp only [nc] at *);(repeat' (with_reducible first|exact ‹False›.elim|exact nZ|refine oC ?_ ?_|refine VC.mk rfl ?_ ?_ ?_|(apply Ca.mk<;>intro _)|refine cV (fun _=>?_) fun _=>?_|((first|apply xE|apply uE);cbv;(try dsimp only [nc] at *))))))
   all_goals (try simp only [Int.toNat_natCast])
   any_goals ((with_reducible refine nO ?_);exact h3)
   all_goals (try (exact absurd hi (Nat.not_lt.2 ‹_›)))
   ((all_goals (try (with_reducible ((first|refine rE ?_|refine nE ?_);cbv;(try dsimp only [nc] at *);(try simp only [wl,nc]);(repeat' apply And.intro);all_goals (try exact wZ)))));(all_goals (try ((with_reducible rw [aC]);(try simp only [wl,nc]);(repeat' (with_reducible apply And.intro));(all_goals (try exact cZ))))))
   refine dE (ι:=Nat×Int) (μ:=fun q=>x.args.length - q.1) (i:=(i,n)) (i+1,if n<b then b else n) ⟨⟨by dsimp only;omega,g2⟩,by dsimp only;omega⟩ ?_
   (focus (cbv;(try dsimp only [nc] at *);(try simp only [wl,nc]);(repeat' (with_reducible apply And.intro));all_goals (try exact wZ)))
   exact w64n (by omega)
  ·rw [List.drop_eq_nil_of_le (by omega),accX] at g2
   apply AWp.wk tF mF [(5,[(6,.any,[])])] kp37 ?_
   (any_goals ((with_reducible refine wI ?_);cbv;(try dsimp only [nc] at *);(repeat' (with_reducible first|exact ‹False›.elim|exact nZ|refine oC ?_ ?_|refine VC.mk rfl ?_ ?_ ?_|(apply Ca.mk<;>intro _)|refine cV (fun _=>?_) fun _=>?_|((first|apply xE|apply uE);cbv;(try dsimp only [nc] at *))))))
   all_goals (try (exact absurd ‹i<x.args.length› hi))
   ((all_goals (try (with_reducible ((first|refine rE ?_|refine nE ?_);cbv;(try dsimp only [nc] at *);(try simp only [wl,nc]);(repeat' apply And.intro);all_goals (try exact wZ)))));(all_goals (try ((with_reducible rw [aC]);(try simp only [wl,nc]);(repeat' (with_reducible apply And.intro));(all_goals (try exact cZ))))))
   rw [g2]
def sizX:Nat→X→Int
 | 0,_=>0
 | k+1,x=>accX (fun a b=>IntKind.i64.wrap (a+b)) (sizX k) x.args 1
theorem ah8 (e:Nat):∀ (k D:Nat) (x:X),X.le (e+1) (D+1) x→X.le (e+1) k x→Af Tryz.prog 38 [encX (e+1) (D+1) .any fun _=>x] [] (.int .i64 fun _=>sizX k x) []
 | 0,_,_,_,h=>h.elim
 | k + 1,D,x,hx,hk=>by
  have hA:∀ i,i<x.args.length→Af Tryz.prog 38 [encX (e+1) D .any fun _=>x.args.getD i default] [] (.int .i64 fun _=>sizX k (x.args.getD i default)) []:=fun i hi=>by
   have hy:=X.abm hx hi
   obtain ⟨c,rfl⟩:=X.lP hy
   exact ah8 e k c _ hy (X.abm hk hi)
  have hm:=hk.2.2.1
  obtain ⟨Z,hZ⟩:∃ Z,Z=accX (fun a b=>IntKind.i64.wrap (a+b)) (sizX k) x.args 1:=⟨_,rfl⟩
  unfold sizX
  rw [← hZ]
  obtain ⟨f,hf⟩:∃ f,f=sizX k:=⟨_,rfl⟩
  rw [← hf] at hZ hA
  clear hf hk hx
  (apply Af.of tF mF [.tmp 2] kp38 [] Tryz.func38 (fun _=>?_);(any_goals ((with_reducible refine wI ?_);cbv;(try dsimp only [nc] at *);(repeat' (with_reducible first|exact ‹False›.elim|exact nZ|refine oC ?_ ?_|refine VC.mk rfl ?_ ?_ ?_|(apply Ca.mk<;>intro _)|refine cV (fun _=>?_) fun _=>?_|((first|apply xE|apply uE);cbv;(try dsimp only [nc] at *)))))))
  refine .loop (fun q:Nat×Int=>⟨21,[(4,.int .i64 fun _=>(q.1:Int)),(3,.int .i64 fun _=>q.2),(1,.ptr 1 0)],[(1,.box [.any,.any,.any,.any,.slc .any 5 (fun _=>x.args.length) (subX (e+1) (D+1) .any fun _=>x)])]⟩)
   (fun q=>q.1≤x.args.length∧accX (fun a b=>IntKind.i64.wrap (a+b)) f (x.args.drop q.1) q.2=Z) (fun q=>x.args.length - q.1) (0,1) ⟨Nat.zero_le _,hZ.symm⟩ ?_ fun q E hq=>?_
  ·(exact aZ)
  obtain ⟨i,n⟩:=q
  obtain ⟨g1,g2⟩:=hq
  dsimp only at g1 g2
  by_cases hi:i<x.args.length
  ·rw [List.drop_eq_getElem_cons hi,accX] at g2
   have e1:x.args.getD i default=x.args[i]:=by simp [List.getD,hi]
   rw [← e1] at g2
   have h3:=hA i hi
   generalize f (x.args.getD i default)=b at *
   apply AWp.wk tF mF [(5,[(6,.int .i64 fun _=>b,[])])] kp38 ?_
   (any_goals ((with_reducible refine wI ?_);cbv;(try dsimp only [nc] at *);(repeat' (with_reducible first|exact ‹False›.elim|exact nZ|refine oC ?_ ?_|refine VC.mk rfl ?_ ?_ ?_|(apply Ca.mk<;>intro _)|refine cV (fun _=>?_) fun _=>?_|((first|apply xE|apply uE);cbv;(try dsimp only [nc] at *))))))
   all_goals (try simp only [Int.toNat_natCast])
   any_goals ((with_reducible refine nO ?_);exact h3)
   all_goals (try (exact absurd hi (Nat.not_lt.2 ‹_›)))
   ((all_goals (try (with_reducible ((first|refine rE ?_|refine nE ?_);cbv;(try dsimp only [nc] at *);(try simp only [wl,nc]);(repeat' apply And.intro);all_goals (try exact wZ)))));(all_goals (try ((with_reducible rw [aC]);(try simp only [wl,nc]);(repeat' (with_reducible apply And.intro));(all_goals (try exact cZ))))))
   refine dE (ι:=Nat×Int) (μ:=fun q=>x.args.length - q.1) (i:=(i,n)) (i+1,IntKind.i64.wrap (n+b)) ⟨⟨by dsimp only;omega,g2⟩,by dsimp only;omega⟩ ?_
   (focus (cbv;(try dsimp only [nc] at *);(try simp only [wl,nc]);(repeat' (with_reducible apply And.intro));all_goals (try exact wZ)))
   ·exact w64n (by omega)
  ·rw [List.drop_eq_nil_of_le (by omega),accX] at g2
   apply AWp.wk tF mF [(5,[(6,.any,[])])] kp38 ?_
   (any_goals ((with_reducible refine wI ?_);cbv;(try dsimp only [nc] at *);(repeat' (with_reducible first|exact ‹False›.elim|exact nZ|refine oC ?_ ?_|refine VC.mk rfl ?_ ?_ ?_|(apply Ca.mk<;>intro _)|refine cV (fun _=>?_) fun _=>?_|((first|apply xE|apply uE);cbv;(try dsimp only [nc] at *))))))
   all_goals (try (exact absurd ‹i<x.args.length› hi))
   (all_goals exact eZ)
theorem aky (e k D:Nat) (x:X) (hx:X.le (e+1) (D+1) x) (hk:X.le (e+1) k x):∃ b:Bool,Af Tryz.prog 13 [encX (e+1) (D+1) .any fun _=>x] [] (.bool fun _=>b) []:=by
 have h1:=ag0 e k D x hx hk
 have h2:=ah8 e k D x hx hk
 generalize depX k x=d at *
 generalize sizX k x=s at *
 refine ⟨decide (d≤12) && decide (s≤300),?_⟩
 (apply Af.of tF mF [.tmp 2] kp13 [(1,[(1,.int .i64 fun _=>d,[]),(5,.int .i64 fun _=>s,[])])] Tryz.func13 (fun _=>?_);(any_goals ((with_reducible refine wI ?_);cbv;(try dsimp only [nc] at *);(repeat' (with_reducible first|exact ‹False›.elim|exact nZ|refine oC ?_ ?_|refine VC.mk rfl ?_ ?_ ?_|(apply Ca.mk<;>intro _)|refine cV (fun _=>?_) fun _=>?_|((first|apply xE|apply uE);cbv;(try dsimp only [nc] at *)))))))
 all_goals (try simp only [ite_self])
 any_goals ((with_reducible first|refine nO ?_|refine sO (fun _=>?_));first|exact h1|exact h2)
 ((all_goals (try (with_reducible ((first|refine rE ?_|refine nE ?_);cbv;(try dsimp only [nc] at *);(try simp only [wl,nc]);(repeat' apply And.intro);all_goals (try exact wZ)))));(all_goals (try ((with_reducible rw [aC]);(try simp only [wl,nc]);(repeat' (with_reducible apply And.intro));(all_goals (try exact cZ))))))
 all_goals trace_state
 all_goals (by_cases q1:d≤12<;>by_cases q2:s≤300<;>simp [q1,q2])
end Go.Ai
