/- Chapter 10: the reference reads a record. -/
import Derived.Test.YtlplmdipoacnlaaGreatDoorRfA
import Derived.Test.YtlplmdipoacnlaaGreatDoorRdB
import Derived.Test.YtlplmdipoacnlaaGreatDoorRdA
set_option linter.all false
namespace Go.Ai
open Go Go.Proofs
set_option maxRecDepth 100000
set_option maxHeartbeats 4000000
theorem rdD_mem {p:ByteArray×V→Prop}:∀ (fs:List TF) (l:FL),(∀ f ∈ fs,fN f=3→p (fM f,(fDef f).getD 0 default))→(∀ x ∈ l,p x)→(∀ x ∈ (rdD fs l).1,p x)∧(rdD fs l).1.length≤l.length+fs.length
 | [],l,_,hl=>⟨hl,by simp [rdD]⟩
 | f :: fs,l,h,hl=>by
  have hs:=fun g (hg:g ∈ fs)=>h g (List.mem_cons_of_mem _ hg)
  rw [rdD]
  split
  ·have:=rdD_mem fs l hs hl
   exact ⟨this.1,by simp only [List.length_cons];omega⟩
  split
  ·exact ⟨hl,by simp only [List.length_cons];omega⟩
  split
  ·have:=rdD_mem fs (l++[(fM f,(fDef f).getD 0 default)]) hs fun x hx=>by
    rcases List.mem_append.1 hx with hx|hx
    ·exact hl x hx
    ·rw [List.mem_singleton.1 hx];exact h f (List.mem_cons_self ..) ‹_›
   refine ⟨this.1,?_⟩
   have:=this.2
   simp only [List.length_append,List.length_cons,List.length_nil] at *
   omega
  ·have:=rdD_mem fs l hs hl
   exact ⟨this.1,by simp only [List.length_cons];omega⟩
theorem fieldF_app {c:Nat} {l:FL} {a:ByteArray} {v:V}:∀ k,k<l.length+1→LeL (catF (fun _=>l.length) (fF c .any fun _=>l) (litArr [.str (fun _=>a) :: cells c .any fun _=>v]) fun _=>k) (fF c .any (fun _=>l++[(a,v)]) fun _=>k):=by
 refine cat_le (n:=fun _=>l.length) (m:=1) (fun k hk=>LeL.of_eq ?_) (fun k hk=>LeL.of_eq ?_)
 ·have hk:k<l.length:=hk
  simp only [fF,List.getD_eq_getElem?_getD,List.getElem?_append_left hk]
 ·have:k=0:=by omega
  subst this
  simp [fF,litArr]
theorem fieldF_up {e c:Nat} {l:FL} {a:ByteArray} {v:V} (hv:V.le e v) (hc:e≤c):∀ k,k<l.length+1→LeL (catF (fun _=>l.length) (fF c .any fun _=>l) (litArr [.str (fun _=>a) :: cells e .any fun _=>v]) fun _=>k) (fF c .any (fun _=>l++[(a,v)]) fun _=>k):=by
 refine cat_le (n:=fun _=>l.length) (m:=1) (fun k hk=>LeL.of_eq ?_) (fun k hk=>?_)
 ·have hk:k<l.length:=hk
  simp only [fF,List.getD_eq_getElem?_getD,List.getElem?_append_left hk]
 ·have:k=0:=by omega
  subst this
  have h:=(cells_mono hv hc).cons (.str fun _=>a)
  simpa [fF,litArr] using h
theorem hasN_take {n:ByteArray} {l:FL} {j:Nat} (hj:j<l.length):hasN n (l.take (j+1))=(hasN n (l.take j) || decide ((l.getD j default).1=n)):=by
 unfold hasN
 rw [List.take_succ_eq_append_getElem hj,List.any_append]
 simp [List.getD,hj]
theorem refRec78_ok (e d c:Nat) (t:Ty) (ht:Ty.le e (d+1) t) (hk:t.kind=9) (hto:ownT t=0) (hec:e≤c) (hc:0<c) (s:ByteArray) (hs:s.size≤536870912) (p0:Int) (h0:0≤p0) (h1:p0≤s.size)
 (n:Nat) (hn:n≤4611686018427387903) (g:Ty→ByteArray→Int→R4)
 (hg:∀ (num q:Int),0≤iI (bY num) t.fields→0≤q→q≤s.size→(rdP (g (fT (gT t (bY num)))) s q).2.2.2=0 →
   q<(rdP (g (fT (gT t (bY num)))) s q).2.1∧(rdP (g (fT (gT t (bY num)))) s q).2.1≤s.size∧V.le c (rdP (g (fT (gT t (bY num)))) s q).1)
 (hP:∀ (num q:Int),0≤iI (bY num) t.fields→0≤q→q≤s.size→Af Tryz.prog 77 [encT e d .any fun _=>fT (gT t (bY num)),.str fun _=>s,.int .i64 fun _=>q] []
   (.tup [encV c .any fun _=>(rdP (g (fT (gT t (bY num)))) s q).1,.int .i64 fun _=>(rdP (g (fT (gT t (bY num)))) s q).2.1,.int .i64 fun _=>(rdP (g (fT (gT t (bY num)))) s q).2.2.1,.int .i64 fun _=>(rdP (g (fT (gT t (bY num)))) s q).2.2.2]) []) :
 Af Tryz.prog 78 [encT e (d+1) .any fun _=>t,.str fun _=>s,.int .i64 fun _=>p0,.int .i64 fun _=>n] []
  (.tup [encV (c+1) .any fun _=>(rdR t g s n p0).1,.int .i64 fun _=>(rdR t g s n p0).2.1,.int .i64 fun _=>(rdR t g s n p0).2.2.1,.int .i64 fun _=>(rdR t g s n p0).2.2.2]) []:=by
 obtain ⟨R,hR⟩:∃ R,R=rdR t g s n p0:=⟨_,rfl⟩
 obtain ⟨F,hF⟩:∃ F,F=rdF t g s n 0 [] p0:=⟨_,rfl⟩
 have h64:=ownT_len hto (.inl hk)
 have hfl:=ht.2.2.2.1
 have hRe:R=if F.2.2.2≠0 then (default,0,F.2.2.1,F.2.2.2) else if (rdD t.fields F.1).2≠0 then (default,0,F.2.1,19) else (recV (rdD t.fields F.1).1,F.2.1,0,0):=by rw [hR,hF];rfl
 rw [← hR]
 clear hR
 (apply Af.of tF mF [.cell 8 30,.tmp 9,.tmp 10,.tmp 11] kp78 [(40,[(1,encV (c+1) .any fun _=>R.1,[])])] Tryz.func78 (fun _=>?_);(any_goals ((with_reducible refine wI ?_);cbv;(try dsimp only [nc] at *);(repeat' (with_reducible first|exact aO|exact oN|refine oC ?_ ?_|refine VC.mk rfl ?_ ?_ ?_|(apply Ca.mk<;>intro _)|(apply Cv.mk<;>intro zq<;>(try simp only [nc,cl] at zq)<;>(try simp only [bl,dl] at zq)<;>(revert zq;intro _))|((first|apply xE|apply uE);cbv;(try dsimp only [nc] at *)))))))
 ((all_goals (try (with_reducible ((first|refine rE ?_|refine nE ?_);(focus (cbv;(try dsimp only [nc] at *);(try simp only [wl,nc]);(repeat' (with_reducible apply And.intro));all_goals (try exact wZ)))))));(all_goals (try ((with_reducible rw [aC]);(try simp only [wl,nc]);(repeat' (with_reducible apply And.intro));(all_goals (try exact cZ))))))
 have hRz:F.2.2.2≠0→R=(default,0,F.2.2.1,F.2.2.2):=fun z=>by rw [hRe,if_pos z]
 refine .loop (fun p:Nat×Int×FL×Int=>⟨182,[(14,.int .i64 fun _=>p.1),(9,.int .i64 fun _=>p.2.2.2),(13,.int .i64 fun _=>p.2.1),(12,.aref 122 0 fun _=>p.2.2.1.length),(8,.ptr 8 0),(4,boxT e (d+1) fun _=>t),(1,.str fun _=>s),(3,.int .i64 fun _=>n)],
  [(8,.box (cells 1 .any fun _=>default)),(122,.arr false 73 7 0 (fun _=>p.2.2.1.length) (fF c .any fun _=>p.2.2.1))]⟩)
  (fun p=>p.1≤n∧(0≤p.2.2.2∧p.2.2.2≤s.size)∧(p.2.2.1.length:Int)≤p.2.2.2∧(∀ x ∈ p.2.2.1,x.1.size≤1073741824∧V.le c x.2)∧F=rdF t g s (n - p.1) p.2.1 p.2.2.1 p.2.2.2) (fun p=>n - p.1) (0,0,[],p0)
  ⟨Nat.zero_le _,⟨h0,h1⟩,by simpa using h0,by simp,hF⟩ ?_ fun p E hi=>?_
 ·(focus (cbv;(try dsimp only [nc] at *);(try simp only [wl,nc]);(repeat' (with_reducible apply And.intro));all_goals (try exact wZ)))
  all_goals rfl
 obtain ⟨i1,i2,i3,i4,i5⟩:=hi
 by_cases h:p.1<n
 ·obtain ⟨m,hm⟩:∃ m,n - p.1=m+1:=⟨n - p.1 - 1,by omega⟩
  have hA:=refTake_ok s p.2.2.2 i2.1 i2.2 (by omega)
  have hAg:=refTakeV_good (s:=s) (a:=p.2.2.2) i2.1 i2.2 (by omega)
  rw [hm,rdF] at i5
  obtain ⟨A,hAe⟩:∃ A,A=tV s p.2.2.2:=⟨_,rfl⟩
  rw [← hAe] at hA hAg i5
  have hB:=fun z=>refTake_ok s A.2.1 (by have:=hAg z;omega) (hAg z).2.1 (by omega)
  have hBg:=fun z=>refTakeV_good (s:=s) (a:=A.2.1) (by have:=hAg z;omega) (hAg z).2.1 (by omega)
  obtain ⟨B,hBe⟩:∃ B,B=tV s A.2.1:=⟨_,rfl⟩
  rw [← hBe] at hB hBg i5
  have hN:Af Tryz.prog 76 [encT e (d+1) .any fun _=>t,.int .i64 fun _=>A.1] [] (.int .i64 fun _=>iI (bY A.1) t.fields) []:=refNumber_ok e d t ht A.1
  have hPc:=fun (z:A.2.2.2=0) (q:0≤iI (bY A.1) t.fields)=>hP A.1 A.2.1 q (by have:=hAg z;omega) (hAg z).2.1
  have hPg:=fun (z:A.2.2.2=0) (q:0≤iI (bY A.1) t.fields)=>hg A.1 A.2.1 q (by have:=hAg z;omega) (hAg z).2.1
  obtain ⟨f,hf⟩:∃ f,f=gT t (bY A.1):=⟨_,rfl⟩
  rw [← hf] at hPc hPg i5
  obtain ⟨P,hPe⟩:∃ P,P=rdP (g (fT f)) s A.2.1:=⟨_,rfl⟩
  rw [← hPe] at hPc hPg i5
  have hfm:0≤iI (bY A.1) t.fields→f ∈ t.fields:=fun q=>by rw [hf];exact getTF_mem q
  have hil:=idxI_lt (p:=bY A.1) (l:=t.fields)
  have hf':t.fields.getD (iI (bY A.1) t.fields).toNat default=f:=hf.symm
  obtain ⟨I,hI⟩:∃ I,I=iI (bY A.1) t.fields:=⟨_,rfl⟩
  rw [← hI] at hN hPc hPg i5 hfm hil hf'
  clear hAe hBe hPe hI hf hP hg hF
  apply AWp.wk tF mF [(7,[(2,.tup [.int .i64 fun _=>A.1,.int .i64 fun _=>A.2.1,.int .i64 fun _=>A.2.2.1,.int .i64 fun _=>A.2.2.2],[])]),(15,[(2,.int .i64 fun _=>I,[])]),(17,[(2,.tup [.int .i64 fun _=>B.1,.int .i64 fun _=>B.2.1,.int .i64 fun _=>B.2.2.1,.int .i64 fun _=>B.2.2.2],[])]),
   (23,[(8,.tup [encV c .any fun _=>P.1,.int .i64 fun _=>P.2.1,.int .i64 fun _=>P.2.2.1,.int .i64 fun _=>P.2.2.2],[])])] kp78 ?_
  (any_goals ((with_reducible refine wI ?_);cbv;(try dsimp only [nc] at *);(repeat' (with_reducible first|exact aO|exact oN|refine oC ?_ ?_|refine VC.mk rfl ?_ ?_ ?_|(apply Ca.mk<;>intro _)|(apply Cv.mk<;>intro zq<;>(try simp only [nc,cl] at zq)<;>(try simp only [bl,dl] at zq)<;>(revert zq;intro _))|((first|apply xE|apply uE);cbv;(try dsimp only [nc] at *))))))
  all_goals (try (exfalso;omega))
  all_goals (try simp only [hf'])
  (any_goals ((with_reducible refine bZ ?_)<;>exact hA))
  (any_goals ((with_reducible refine bZ ?_);(try dsimp only);(have q:=hN;refine Af.wN q ?_;clear q);(focus (cbv;(try dsimp only [nc] at *);(try simp only [wl,nc]);(repeat' (with_reducible apply And.intro));all_goals (try exact wZ)))))
  any_goals (with_reducible refine nO ?_)<;>first
   | exact hB ‹A.2.2.2=0›
   | (refine Af.wN (hPc ‹A.2.2.2=0› (by omega)) ?_;(focus (cbv;(try dsimp only [nc] at *);(try simp only [wl,nc]);(repeat' (with_reducible apply And.intro));all_goals (try exact wZ))))
  ((all_goals (try (with_reducible ((first|refine rE ?_|refine nE ?_);(focus (cbv;(try dsimp only [nc] at *);(try simp only [wl,nc]);(repeat' (with_reducible apply And.intro));all_goals (try exact wZ)))))));(all_goals (try ((with_reducible rw [aC]);(try simp only [wl,nc]);(repeat' (with_reducible apply And.intro));(all_goals (try exact cZ))))))
  all_goals first
   | (have q:F=(p.2.2.1,0,A.2.2.1,A.2.2.2):=by rw [i5,if_pos ‹¬ A.2.2.2=0›]
      have q2:=hRz (by rw [q];first|assumption|exact (show (2:Int)≠0 by decide)|exact (show (24:Int)≠0 by decide)|exact (show (29:Int)≠0 by decide))
      rw [q] at q2
      rw [q2]
      first
       | done
       | rfl
       | exact fun i hi=>absurd hi (Nat.not_lt_zero i))
   | (have q:F=(p.2.2.1,0,p.2.2.2,2):=by rw [i5,if_neg (fun z=>z ‹A.2.2.2=0›),if_pos ‹A.1<1∨9999<A.1›]
      have q2:=hRz (by rw [q];first|assumption|exact (show (2:Int)≠0 by decide)|exact (show (24:Int)≠0 by decide)|exact (show (29:Int)≠0 by decide))
      rw [q] at q2
      rw [q2]
      first
       | done
       | rfl
       | exact fun i hi=>absurd hi (Nat.not_lt_zero i))
   | (have q:F=(p.2.2.1,0,p.2.2.2,24):=by rw [i5,if_neg (fun z=>z ‹A.2.2.2=0›),if_neg (show ¬ (A.1<1∨9999<A.1) by omega),if_pos ‹A.1≤p.2.1›]
      have q2:=hRz (by rw [q];first|assumption|exact (show (2:Int)≠0 by decide)|exact (show (24:Int)≠0 by decide)|exact (show (29:Int)≠0 by decide))
      rw [q] at q2
      rw [q2]
      first
       | done
       | rfl
       | exact fun i hi=>absurd hi (Nat.not_lt_zero i))
   | skip
  all_goals
   rw [if_neg (fun z=>z ‹A.2.2.2=0›),if_neg (show ¬ (A.1<1∨9999<A.1) by omega),if_neg (show ¬ A.1≤p.2.1 by omega)] at i5
   have hA1:=hAg ‹A.2.2.2=0›
   have hB1:=hBg ‹A.2.2.2=0›
  all_goals first
   | (have hI:=‹I<0›
      rw [if_pos hI] at i5)
   | rw [if_neg (show ¬ I<0 by omega)] at i5
  all_goals first
   | (have q:F=(p.2.2.1,0,B.2.2.1,B.2.2.2):=by rw [i5,if_pos ‹¬ B.2.2.2=0›]
      have q2:=hRz (by rw [q];first|assumption|exact (show (29:Int)≠0 by decide))
      rw [q] at q2
      rw [q2]
      first
       | done
       | rfl
       | exact fun i hi=>absurd hi (Nat.not_lt_zero i))
   | (have q:F=(p.2.2.1,0,P.2.2.1,P.2.2.2):=by rw [i5,if_pos ‹¬ P.2.2.2=0›]
      have q2:=hRz (by rw [q];first|assumption|exact (show (29:Int)≠0 by decide))
      rw [q] at q2
      rw [q2]
      first
       | done
       | rfl
       | exact fun i hi=>absurd hi (Nat.not_lt_zero i))
   | skip
  all_goals (try (
   have hB2:=hB1 ‹B.2.2.2=0›
   have hw:IntKind.i64.wrap ((s.size:Int) - B.2.1)=(s.size:Int) - B.2.1:=w64 (by omega) (by omega)
   simp only [hw] at *
   rw [if_neg (fun z=>z ‹B.2.2.2=0›)] at i5))
  all_goals first
   | (have q:F=(p.2.2.1,0,(s.size:Int),29):=by rw [i5,if_pos ‹(s.size:Int) - B.2.1<B.1›]
      have q2:=hRz (by rw [q];first|assumption|exact (show (29:Int)≠0 by decide))
      rw [q] at q2
      rw [q2]
      first
       | done
       | rfl
       | exact fun i hi=>absurd hi (Nat.not_lt_zero i))
   | skip
  all_goals first
   | (rw [if_neg (show ¬ (s.size:Int) - B.2.1<B.1 by omega)] at i5
      refine dE (p.1+1,A.1,p.2.2.1,B.2.1+B.1) ⟨⟨by show p.1+1≤n;omega,by show 0≤B.2.1+B.1∧B.2.1+B.1≤s.size;omega,by show (p.2.2.1.length:Int)≤B.2.1+B.1;omega,i4,by show F=rdF t g s (n - (p.1+1)) A.1 p.2.2.1 (B.2.1+B.1);rw [i5,show n - (p.1+1)=m by omega]⟩,by show n - (p.1+1)<n - p.1;omega⟩ ?_
      (focus (cbv;(try dsimp only [nc] at *);(try simp only [wl,nc]);(repeat' (with_reducible apply And.intro));all_goals (try exact wZ)))
      ·exact w64n (by omega)
      ·exact w64 (by omega) (by omega))
   | (rw [if_neg (fun z=>z ‹P.2.2.2=0›)] at i5
      have hP1:=hPg ‹A.2.2.2=0› (by omega) ‹P.2.2.2=0›
      refine dE (p.1+1,A.1,p.2.2.1++[(fM f,P.1)],P.2.1) ⟨⟨by show p.1+1≤n;omega,by show 0≤P.2.1∧P.2.1≤s.size;omega,?_,?_,by show F=rdF t g s (n - (p.1+1)) A.1 (p.2.2.1++[(fM f,P.1)]) P.2.1;rw [i5,show n - (p.1+1)=m by omega]⟩,by show n - (p.1+1)<n - p.1;omega⟩ ?_
      ·show ((p.2.2.1++[(fM f,P.1)]).length:Int)≤P.2.1
       rw [List.length_append];simp only [List.length_cons,List.length_nil];omega
      ·intro x hx
       rcases List.mem_append.1 hx with hx|hx
       ·exact i4 x hx
       ·rw [List.mem_singleton.1 hx];exact ⟨(ht.2.2.2.2.2 f (hfm (by omega))).1,hP1.2.2⟩
      (focus (cbv;(try dsimp only [nc] at *);(try simp only [wl,nc]);(repeat' (with_reducible apply And.intro));all_goals (try exact wZ)))
      ·exact w64n (by omega)
      all_goals first
       | (simp;done)
       | exact fieldF_app)
 ·rw [show n - p.1=0 by omega,rdF] at i5
  have hF1:F.1=p.2.2.1∧F.2.1=p.2.2.2∧F.2.2.2=0:=by rw [i5];exact ⟨rfl,rfl,rfl⟩
  rw [if_neg (fun z=>z hF1.2.2),hF1.1,hF1.2.1] at hRe
  clear hRz hP hg hF i5 hF1
  obtain ⟨p1,p2,l0,pos⟩:=p
  simp only at *
  have hDm:=rdD_mem (p:=fun x=>x.1.size≤1073741824∧V.le c x.2) t.fields l0 (fun f hf _=>def_le ht hf c hec hc) i4
  obtain ⟨D,hD⟩:∃ D,D=rdD t.fields l0:=⟨_,rfl⟩
  rw [← hD] at hRe hDm
  have hRc:=refRecV_ok c D.1 (by omega) hDm.1
  apply AWp.wk tF mF [(7,[(2,.any,[])]),(15,[(2,.any,[])]),(17,[(2,.any,[])]),(23,[(8,.any,[])])] kp78 ?_
  (any_goals ((with_reducible refine wI ?_);cbv;(try dsimp only [nc] at *);(repeat' (with_reducible first|exact aO|exact oN|refine oC ?_ ?_|refine VC.mk rfl ?_ ?_ ?_|(apply Ca.mk<;>intro _)|(apply Cv.mk<;>intro zq<;>(try simp only [nc,cl] at zq)<;>(try simp only [bl,dl] at zq)<;>(revert zq;intro _))|((first|apply xE|apply uE);cbv;(try dsimp only [nc] at *))))))
  all_goals (try (exfalso;omega))
  ((all_goals (try (with_reducible ((first|refine rE ?_|refine nE ?_);(focus (cbv;(try dsimp only [nc] at *);(try simp only [wl,nc]);(repeat' (with_reducible apply And.intro));all_goals (try exact wZ)))))));(all_goals (try ((with_reducible rw [aC]);(try simp only [wl,nc]);(repeat' (with_reducible apply And.intro));(all_goals (try exact cZ))))))
  refine .loop (fun q:Nat×FL=>⟨182,[(25,.int .i64 fun _=>q.1),(12,.aref 122 0 fun _=>q.2.length),(8,.ptr 8 0),(9,.int .i64 fun _=>pos),(4,boxT e (d+1) fun _=>t)],
   [(8,.box (cells 1 .any fun _=>default)),(122,.arr false 73 7 0 (fun _=>q.2.length) (fF c .any fun _=>q.2))]⟩)
   (fun q=>q.1≤t.fields.length∧q.2.length≤l0.length+q.1∧D=rdD (t.fields.drop q.1) q.2) (fun q=>t.fields.length - q.1) (0,l0) ⟨Nat.zero_le _,Nat.le_refl _,by rw [hD,List.drop_zero]⟩ ?_ fun q E hi=>?_
  ·(focus (cbv;(try dsimp only [nc] at *);(try simp only [wl,nc]);(repeat' (with_reducible apply And.intro));all_goals (try exact wZ)))
   all_goals rfl
  obtain ⟨j1,j2,j3⟩:=hi
  by_cases hlt:q.1<t.fields.length
  ·obtain ⟨f,hf⟩:∃ f,f=t.fields.getD q.1 default:=⟨_,rfl⟩
   have hfm:f ∈ t.fields:=by rw [hf];exact gD hlt
   have hdr:t.fields.drop q.1=f :: t.fields.drop (q.1+1):=by
    rw [List.drop_eq_getElem_cons hlt,hf];simp [List.getD,hlt]
   rw [hdr,rdD] at j3
   apply AWp.wk tF mF [] kp78 ?_
   (any_goals ((with_reducible refine wI ?_);cbv;(try dsimp only [nc] at *);(repeat' (with_reducible first|exact aO|exact oN|refine oC ?_ ?_|refine VC.mk rfl ?_ ?_ ?_|(apply Ca.mk<;>intro _)|(apply Cv.mk<;>intro zq<;>(try simp only [nc,cl] at zq)<;>(try simp only [bl,dl] at zq)<;>(revert zq;intro _))|((first|apply xE|apply uE);cbv;(try dsimp only [nc] at *))))))
   all_goals (try exact absurd hlt (Nat.not_lt.2 ‹t.fields.length≤q.1›))
   all_goals (try simp only [Int.toNat_natCast,← hf])
   ((all_goals (try (with_reducible ((first|refine rE ?_|refine nE ?_);(focus (cbv;(try dsimp only [nc] at *);(try simp only [wl,nc]);(repeat' (with_reducible apply And.intro));all_goals (try exact wZ)))))));(all_goals (try ((with_reducible rw [aC]);(try simp only [wl,nc]);(repeat' (with_reducible apply And.intro));(all_goals (try exact cZ))))))
   refine .loop (fun j:Nat=>⟨182,[(28,.int .i64 fun _=>j),(27,.bool fun _=>hasN (fM f) (q.2.take j)),(26,.ptr 26 0),(25,.int .i64 fun _=>q.1),(12,.aref 122 0 fun _=>q.2.length),(8,.ptr 8 0),(9,.int .i64 fun _=>pos),(4,boxT e (d+1) fun _=>t)],
    [(26,.box (cF e d .any fun _=>f)),(8,.box (cells 1 .any fun _=>default)),(122,.arr false 73 7 0 (fun _=>q.2.length) (fF c .any fun _=>q.2))]⟩)
    (fun j=>j≤q.2.length) (fun j=>q.2.length - j) 0 (Nat.zero_le _) ?_ fun j E hj=>?_
   ·(focus (cbv;(try dsimp only [nc] at *);(try simp only [wl,nc]);(repeat' (with_reducible apply And.intro));all_goals (try exact wZ)))
    all_goals rfl
   by_cases hjl:j<q.2.length
   ·have hT:=hasN_take (n:=fM f) hjl
    obtain ⟨b,hb⟩:∃ b,b=hasN (fM f) (q.2.take j):=⟨_,rfl⟩
    rw [← hb] at hT ⊢
    apply AWp.wk tF mF [] kp78 ?_
    (any_goals ((with_reducible refine wI ?_);cbv;(try dsimp only [nc] at *);(repeat' (with_reducible first|exact aO|exact oN|refine oC ?_ ?_|refine VC.mk rfl ?_ ?_ ?_|(apply Ca.mk<;>intro _)|(apply Cv.mk<;>intro zq<;>(try simp only [nc,cl] at zq)<;>(try simp only [bl,dl] at zq)<;>(revert zq;intro _))|((first|apply xE|apply uE);cbv;(try dsimp only [nc] at *))))))
    all_goals (try exact absurd hjl (Nat.not_lt.2 ‹q.2.length≤j›))
    all_goals (try simp only [Int.toNat_natCast])
    ((all_goals (try (with_reducible ((first|refine rE ?_|refine nE ?_);(focus (cbv;(try dsimp only [nc] at *);(try simp only [wl,nc]);(repeat' (with_reducible apply And.intro));all_goals (try exact wZ)))))));(all_goals (try ((with_reducible rw [aC]);(try simp only [wl,nc]);(repeat' (with_reducible apply And.intro));(all_goals (try exact cZ))))))
    refine dE (j+1) ⟨by show j+1≤q.2.length;omega,by show q.2.length - (j+1)<q.2.length - j;omega⟩ ?_
    (focus (cbv;(try dsimp only [nc] at *);(try simp only [wl,nc]);(repeat' (with_reducible apply And.intro));all_goals (try exact wZ)))
    ·exact w64n (by omega)
    ·rw [hT]
     cases b<;>simp
   ·rw [show j=q.2.length by omega,List.take_length]
    obtain ⟨b,hb⟩:∃ b,b=hasN (fM f) q.2:=⟨_,rfl⟩
    rw [← hb] at j3 ⊢
    have hd3:fN f=3→0<(fDef f).length:=ownT_def hto hk hfm
    obtain ⟨z,hz⟩:∃ z,z=(fDef f).getD 0 default:=⟨_,rfl⟩
    have hde:=ht.2.2.2.2.2 f hfm
    have hzl:fN f=3→V.le e z:=fun w=>by rw [hz];exact hde.2.2.1 _ (gD (hd3 w))
    rw [← hz] at j3
    apply AWp.wk tF mF [] kp78 ?_
    have h00:Int.toNat 0=0:=rfl
    (any_goals ((with_reducible refine wI ?_);cbv;(try dsimp only [nc] at *);(repeat' (with_reducible first|exact aO|exact oN|refine oC ?_ ?_|refine VC.mk rfl ?_ ?_ ?_|(apply Ca.mk<;>intro _)|(apply Cv.mk<;>intro zq<;>(try simp only [nc,cl] at zq)<;>(try simp only [bl,dl] at zq)<;>(revert zq;intro _))|((first|apply xE|apply uE);cbv;(try dsimp only [nc] at *))))))
    all_goals (try (exfalso;omega))
    all_goals (try (have hq3:=hd3 (by omega)))
    all_goals (try simp only [Int.toNat_natCast,h00,← hz])
    ((all_goals (try (with_reducible ((first|refine rE ?_|refine nE ?_);(focus (cbv;(try dsimp only [nc] at *);(try simp only [wl,nc]);(repeat' (with_reducible apply And.intro));all_goals (try exact wZ)))))));(all_goals (try ((with_reducible rw [aC]);(try simp only [wl,nc]);(repeat' (with_reducible apply And.intro));(all_goals (try exact cZ))))))
    all_goals first
     | (have w:=‹b=false∧fN f=1›
        have q0:D=(q.2,19):=by rw [j3,if_neg (by rw [w.1];simp),if_pos w.2]
        have q2:R=(default,0,pos,19):=by rw [hRe,q0];exact if_pos (show ¬ (19:Int)=0 by decide)
        rw [q2]
        first
         | done
         | rfl
         | exact fun i hi=>absurd hi (Nat.not_lt_zero i))
     | (have w:=‹b=false∧fN f=3›
        rw [if_neg (by rw [w.1];simp),if_neg (by omega),if_pos w.2] at j3
        refine dE (q.1+1,q.2++[(fM f,z)]) ⟨⟨by show q.1+1≤_;omega,by show (q.2++[_]).length≤l0.length+(q.1+1);rw [List.length_append];simp only [List.length_cons,List.length_nil];omega,j3⟩,by show t.fields.length - (q.1+1)<_;omega⟩ ?_
        (focus (cbv;(try dsimp only [nc] at *);(try simp only [wl,nc]);(repeat' (with_reducible apply And.intro));all_goals (try exact wZ)))
        ·exact w64n (by omega)
        all_goals first
         | (simp;done)
         | exact fieldF_up (hzl w.2) hec)
     | (have j4:D=rdD (t.fields.drop (q.1+1)) q.2:=by
         by_cases w:b=true
         ·rw [if_pos w] at j3;exact j3
         ·rw [if_neg w,if_neg ((‹b=true∨¬ fN f=1›).resolve_left w),if_neg ((‹b=true∨¬ fN f=3›).resolve_left w)] at j3;exact j3
        refine dE (q.1+1,q.2) ⟨⟨by show q.1+1≤_;omega,by show q.2.length≤l0.length+(q.1+1);omega,j4⟩,by show t.fields.length - (q.1+1)<_;omega⟩ ?_
        (focus (cbv;(try dsimp only [nc] at *);(try simp only [wl,nc]);(repeat' (with_reducible apply And.intro));all_goals (try exact wZ)))
        exact w64n (by omega))
  ·rw [List.drop_eq_nil_iff.2 (by omega),rdD] at j3
   have hD1:D.1=q.2∧D.2=0:=by rw [j3];exact ⟨rfl,rfl⟩
   rw [if_neg (fun z=>z hD1.2)] at hRe
   have hR1:R.1=recV q.2:=by rw [hRe,hD1.1]
   rw [hD1.1] at hRc
   refine AWp.weak (weakS_of (s':=⟨182,[(25,.int .i64 fun _=>q.1),(12,slcF c .any fun _=>q.2),(8,.ptr 8 0),(9,.int .i64 fun _=>pos),(4,boxT e (d+1) fun _=>t)],[(8,.box (cells 1 .any fun _=>default))]⟩) ?_) ?_
   ·(focus (cbv;(try dsimp only [nc] at *);(try simp only [wl,nc]);(repeat' (with_reducible apply And.intro));all_goals (try exact wZ)))
   apply AWp.wk tF mF [(40,[(1,encV (c+1) .any fun _=>recV q.2,[])])] kp78 ?_
   (any_goals ((with_reducible refine wI ?_);cbv;(try dsimp only [nc] at *);(repeat' (with_reducible first|exact aO|exact oN|refine oC ?_ ?_|refine VC.mk rfl ?_ ?_ ?_|(apply Ca.mk<;>intro _)|(apply Cv.mk<;>intro zq<;>(try simp only [nc,cl] at zq)<;>(try simp only [bl,dl] at zq)<;>(revert zq;intro _))|((first|apply xE|apply uE);cbv;(try dsimp only [nc] at *))))))
   all_goals (try exact absurd ‹q.1<t.fields.length› hlt)
   rw [← hR1] at hRc
   (any_goals ((with_reducible refine bZ ?_)<;>exact hRc))
   ((all_goals (try (with_reducible ((first|refine rE ?_|refine nE ?_);(focus (cbv;(try dsimp only [nc] at *);(try simp only [wl,nc]);(repeat' (with_reducible apply And.intro));all_goals (try exact wZ)))))));(all_goals (try ((with_reducible rw [aC]);(try simp only [wl,nc]);(repeat' (with_reducible apply And.intro));(all_goals (try exact cZ))))))
   all_goals (rw [hRe];done)
theorem rfL_good {f:Int→R4} {s:ByteArray} {Q:V→Prop} (hf:∀ q:Int,0≤q→q≤s.size→Q (f q).1∧((f q).2.2.2=0→q<(f q).2.1∧(f q).2.1≤s.size)) :
 ∀ (n:Nat) (l:List V) (p:Int),0≤p→p≤s.size→(∀ x ∈ l,Q x)→(l.length:Int)≤p →
 (∀ x ∈ (rfL f n l p).1,Q x)∧(rfL f n l p).1.length≤s.size∧((rfL f n l p).2.2.2=0→p≤(rfL f n l p).2.1∧(rfL f n l p).2.1≤s.size)
 | 0,l,p,h0,h1,hl,hp=>⟨hl,by show l.length≤s.size;omega,fun _=>⟨Int.le_refl _,h1⟩⟩
 | n + 1,l,p,h0,h1,hl,hp=>by
  obtain ⟨q1,q2⟩:=hf p h0 h1
  rw [rfL]
  split
  ·exact ⟨hl,by show l.length≤s.size;omega,fun z=>absurd z ‹_›⟩
  ·rename_i hz
   obtain ⟨k1,k2⟩:=q2 (by omega)
   obtain ⟨r1,r2,r3⟩:=rfL_good hf n (l++[(f p).1]) (f p).2.1 (by omega) k2 (fun x hx=>by
    rcases List.mem_append.1 hx with hx|hx
    ·exact hl x hx
    ·rw [List.mem_singleton.1 hx];exact q1) (by rw [List.length_append];simp only [List.length_cons,List.length_nil];omega)
   exact ⟨r1,r2,fun z=>⟨by have:=r3 z;omega,(r3 z).2⟩⟩
theorem rdP_good {g:ByteArray→Int→R4} {s:ByteArray} {Q:V→Prop} (hs:s.size≤536870912) (hd:Q default)
 (hg:∀ (u:ByteArray) (q:Int),u.size≤s.size→0≤q→q≤u.size→Q (g u q).1∧((g u q).2.2.2=0→q<(g u q).2.1∧(g u q).2.1≤u.size)) (p:Int) (h0:0≤p) (h1:p≤s.size) :
 Q (rdP g s p).1∧((rdP g s p).2.2.2=0→p<(rdP g s p).2.1∧(rdP g s p).2.1≤s.size):=by
 have hA:=refTakeV_good (s:=s) (a:=p) h0 h1 (by omega)
 unfold rdP
 split
 ·exact ⟨hd,fun z=>absurd z ‹_›⟩
 split
 ·exact ⟨hd,fun z=>absurd z (show ¬ (29:Int)=0 by decide)⟩
 rename_i z1 z2
 obtain ⟨a1,a2,a3,a4⟩:=hA (by omega)
 have he:((s.extract 0 ((tV s p).2.1+(tV s p).1).toNat).size:Int)=(tV s p).2.1+(tV s p).1:=by rw [ByteArray.size_extract];omega
 obtain ⟨q1,q2⟩:=hg (s.extract 0 ((tV s p).2.1+(tV s p).1).toNat) (tV s p).2.1 (by omega) (by omega) (by omega)
 generalize g (s.extract 0 ((tV s p).2.1+(tV s p).1).toNat) (tV s p).2.1=X at q1 q2
 rw [he] at q2
 unfold endP
 split
 ·exact ⟨q1,fun z=>absurd z ‹_›⟩
 split
 ·exact ⟨q1,fun z=>absurd z (show ¬ (5:Int)=0 by decide)⟩
 ·refine ⟨q1,fun _=>?_⟩
  have:=q2 (by omega)
  show p<X.2.1∧X.2.1≤s.size
  omega
theorem rdF_good {t:Ty} {g:Ty→ByteArray→Int→R4} {s:ByteArray} {Q:ByteArray×V→Prop} (hs:s.size≤536870912)
 (hg:∀ (num q:Int),0≤iI (bY num) t.fields→0≤q→q≤s.size→Q (fM (gT t (bY num)),(rdP (g (fT (gT t (bY num)))) s q).1) ∧
   ((rdP (g (fT (gT t (bY num)))) s q).2.2.2=0→q<(rdP (g (fT (gT t (bY num)))) s q).2.1∧(rdP (g (fT (gT t (bY num)))) s q).2.1≤s.size)) :
 ∀ (n:Nat) (last:Int) (l:FL) (p:Int),0≤p→p≤s.size→(∀ x ∈ l,Q x)→(l.length:Int)≤p →
 (∀ x ∈ (rdF t g s n last l p).1,Q x)∧(rdF t g s n last l p).1.length≤s.size∧((rdF t g s n last l p).2.2.2=0→p≤(rdF t g s n last l p).2.1∧(rdF t g s n last l p).2.1≤s.size)
 | 0,last,l,p,h0,h1,hl,hp=>⟨hl,by show l.length≤s.size;omega,fun _=>⟨Int.le_refl _,h1⟩⟩
 | n + 1,last,l,p,h0,h1,hl,hp=>by
  have hA:=refTakeV_good (s:=s) (a:=p) h0 h1 (by omega)
  rw [rdF]
  split
  ·exact ⟨hl,by show l.length≤s.size;omega,fun z=>absurd z ‹_›⟩
  split
  ·exact ⟨hl,by show l.length≤s.size;omega,fun z=>absurd z (show ¬ (2:Int)=0 by decide)⟩
  split
  ·exact ⟨hl,by show l.length≤s.size;omega,fun z=>absurd z (show ¬ (24:Int)=0 by decide)⟩
  rename_i z1 z2 z3
  obtain ⟨a1,a2,a3,a4⟩:=hA (by omega)
  have hB:=refTakeV_good (s:=s) (a:=(tV s p).2.1) (by omega) a2 (by omega)
  split
  ·split
   ·exact ⟨hl,by show l.length≤s.size;omega,fun z=>absurd z ‹_›⟩
   split
   ·exact ⟨hl,by show l.length≤s.size;omega,fun z=>absurd z (show ¬ (29:Int)=0 by decide)⟩
   ·obtain ⟨b1,b2,b3,b4⟩:=hB (by omega)
    obtain ⟨r1,r2,r3⟩:=rdF_good hs hg n (tV s p).1 l ((tV s (tV s p).2.1).2.1+(tV s (tV s p).2.1).1) (by omega) (by omega) hl (by omega)
    exact ⟨r1,r2,fun z=>⟨by have:=r3 z;omega,(r3 z).2⟩⟩
  ·rename_i z4
   obtain ⟨q1,q2⟩:=hg (tV s p).1 (tV s p).2.1 (by omega) (by omega) a2
   split
   ·exact ⟨hl,by show l.length≤s.size;omega,fun z=>absurd z ‹_›⟩
   ·obtain ⟨k1,k2⟩:=q2 (by omega)
    obtain ⟨r1,r2,r3⟩:=rdF_good hs hg n (tV s p).1 (l++[(fM (gT t (bY (tV s p).1)),(rdP (g (fT (gT t (bY (tV s p).1)))) s (tV s p).2.1).1)]) (rdP (g (fT (gT t (bY (tV s p).1)))) s (tV s p).2.1).2.1 (by omega) k2 (fun x hx=>by
     rcases List.mem_append.1 hx with hx|hx
     ·exact hl x hx
     ·rw [List.mem_singleton.1 hx];exact q1) (by rw [List.length_append];simp only [List.length_cons,List.length_nil];omega)
    exact ⟨r1,r2,fun z=>⟨by have:=r3 z;omega,(r3 z).2⟩⟩
theorem v0_le {c:Nat} {t:Ty} {i:Int} {s:ByteArray} {l:List V} (hs:s.size≤1073741824) (hl:l.length≤1073741824) (h:∀ x ∈ l,V.le c x):V.le (c+1) (v0 t i s l):=⟨hl,Nat.zero_le _,hs,h,fun _ q=>(by cases q)⟩
theorem v0_nil {c:Nat} {t:Ty} {i:Int}:V.le (c+1) (v0 t i ⟨#[]⟩ []):=v0_le (Nat.zero_le _) (Nat.zero_le _) fun _ q=>(by cases q)
theorem accR_good {D c:Nat} {t:Ty} {p q:Int} {v:V} {m:Int} (hv:V.le c v) (h:p<q∧q≤m):V.le c (accR D t p v q).1∧((accR D t p v q).2.2.2=0→p<(accR D t p v q).2.1∧(accR D t p v q).2.1≤m):=by
 unfold accR
 split
 ·exact ⟨hv,fun z=>absurd z (show ¬ (18:Int)=0 by decide)⟩
 ·exact ⟨hv,fun _=>h⟩
theorem rdV_good (e:Nat):∀ (d:Nat) (t:Ty) (s:ByteArray) (p:Int),Ty.le e d t→Ty.ok e d t→s.size≤536870912→0≤p→p≤s.size →
 V.le (d+e) (rdV d t s p).1∧((rdV d t s p).2.2.2=0→p<(rdV d t s p).2.1∧(rdV d t s p).2.1≤s.size)
 | 0,_,_,_,h,_,_,_,_=>h.elim
 | d + 1,t,s,p,ht,hto,hs,h0,h1=>by
  have hA:=refTakeV_good (s:=s) (a:=p) h0 h1 (by omega)
  have hgt:∀ q,0≤iI q t.fields→gT t q ∈ t.fields:=fun q w=>getTF_mem w
  have hc:d+1+e=d+e+1:=by omega
  rw [hc,rdV]
  split
  ·split
   ·exact ⟨v0_nil,fun z=>absurd z (show ¬ (29:Int)=0 by decide)⟩
   split
   ·exact ⟨v0_nil,fun z=>absurd z (show ¬ (3:Int)=0 by decide)⟩
   ·exact ⟨v0_nil,fun _=>by show p<p+1∧p+1≤s.size;omega⟩
  split
  ·exact ⟨v0_nil,fun z=>absurd z ‹_›⟩
  rename_i z1 z2
  obtain ⟨a1,a2,a3,a4⟩:=hA (by omega)
  split
  ·split
   ·exact ⟨v0_nil,fun z=>absurd z (show ¬ (29:Int)=0 by decide)⟩
   ·refine accR_good (v0_le ?_ (Nat.zero_le _) fun _ q=>(by cases q)) (by omega)
    rw [ByteArray.size_extract];omega
  split
  ·split
   ·exact ⟨v0_nil,fun z=>absurd z (show ¬ (18:Int)=0 by decide)⟩
   ·have hx:0<t.elem.length:=by have:=ownT_elem hto.1 ‹_›;omega
    have hte:Ty.le e d (t.elem.getD 0 default):=ht.2.2.2.2.1 _ (gD hx)
    obtain ⟨r1,r2,r3⟩:=rfL_good (s:=s) (Q:=V.le (d+e)) (fun q q0 q1=>rdV_good e d (t.elem.getD 0 default) s q hte (Ty.ok_elem hto ‹_› (gD hx)) hs q0 q1) (tV s p).1.toNat [] (tV s p).2.1 (by omega) a2 (by simp) (by simp only [List.length_nil];omega)
    exact ⟨v0_le (Nat.zero_le _) (by omega) r1,fun z=>⟨Int.lt_of_lt_of_le a1 (r3 z).1,(r3 z).2⟩⟩
  have hdl:0<d+e→V.le (d+e) (default:V):=fun h=>by
   obtain ⟨c,hc⟩:∃ c,d+e=c+1:=⟨d+e - 1,by omega⟩
   rw [hc];exact default_le c
  have hP:t.kind=9∨t.kind=10→∀ (num q:Int),0≤iI (bY num) t.fields→0≤q→q≤s.size→V.le (d+e) (rdP (rdV d (fT (gT t (bY num)))) s q).1 ∧
   ((rdP (rdV d (fT (gT t (bY num)))) s q).2.2.2=0→q<(rdP (rdV d (fT (gT t (bY num)))) s q).2.1∧(rdP (rdV d (fT (gT t (bY num)))) s q).2.1≤s.size):=fun hk num q hi q0 q1=>by
   have hle:=(ht.2.2.2.2.2 _ (hgt _ hi)).2.2.2
   obtain ⟨b,hb⟩:=Ty.lP hle
   exact rdP_good (Q:=V.le (d+e)) hs (hdl (by omega)) (fun u w u1 u2 u3=>rdV_good e d _ u w hle (Ty.ok_field hto hk (hgt _ hi)) (by omega) u2 u3) q q0 q1
  split
  ·rename_i hk
   split
   ·exact ⟨v0_nil,fun z=>absurd z (show ¬ (21:Int)=0 by decide)⟩
   ·rename_i hi
    obtain ⟨r1,r2⟩:=hP (.inr hk) (tV s p).1 (tV s p).2.1 (by omega) (by omega) a2
    refine ⟨v0_le (ht.2.2.2.2.2 _ (hgt _ (by omega))).1 (by simp) (fun x hx=>by rw [List.mem_singleton.1 hx];exact r1),fun z=>⟨Int.lt_trans a1 (r2 z).1,(r2 z).2⟩⟩
  split
  ·rename_i hk
   have h64:=ownT_len hto.1 (.inl hk)
   have hF:=rdF_good (t:=t) (g:=rdV d) (Q:=fun x=>x.1.size≤1073741824∧V.le (d+e) x.2) hs (fun num q hi q0 q1=>⟨⟨(ht.2.2.2.2.2 _ (hgt _ hi)).1,(hP (.inl hk) num q hi q0 q1).1⟩,(hP (.inl hk) num q hi q0 q1).2⟩) (tV s p).1.toNat 0 [] (tV s p).2.1 (by omega) a2 (by simp) (by simp only [List.length_nil];omega)
   unfold rdR
   split
   ·exact ⟨default_le _,fun z=>absurd z ‹_›⟩
   split
   ·exact ⟨default_le _,fun z=>absurd z (show ¬ (19:Int)=0 by decide)⟩
   ·have hD:=rdD_mem (p:=fun x=>x.1.size≤1073741824∧V.le (d+e) x.2) t.fields _ (fun f hf _=>def_le ht hf (d+e) (by omega) (by obtain ⟨c,hc⟩:=Ty.lP (ht.2.2.2.2.2 f hf).2.2.2;omega)) hF.1
    refine ⟨recV_le (by have:=hD.2;have:=hF.2.1;omega) hD.1,fun z=>?_⟩
    have:=hF.2.2 (by omega)
    exact ⟨by show p<(rdF t (rdV d) s _ 0 [] _).2.1;omega,this.2⟩
  ·exact accR_good v0_nil (by omega)
end Go.Ai
