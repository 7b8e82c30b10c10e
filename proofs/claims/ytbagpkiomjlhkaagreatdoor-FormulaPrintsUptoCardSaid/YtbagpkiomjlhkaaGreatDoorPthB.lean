/- Chapter 5: paths: all parts of a text. -/
import Derived.Test.YtbagpkiomjlhkaaGreatDoorPthA
set_option linter.all false
namespace Go.Ai
open Go Go.Proofs
set_option maxRecDepth 100000
set_option maxHeartbeats 4000000
def ah4 (p:Prt):Bool :=
 if p.1=1∨p.1=4 then decide (p.2.1=0) && isName p.2.2
 else if p.1=2 then decide (p.2.2=⟨#[]⟩) && (decide (0≤p.2.1) && decide (p.2.1<256))
 else if p.1=3 then decide (p.2.2=⟨#[]⟩) && decide (p.2.1=0) else false
theorem akm (p:Prt) (hs:p.2.2.size≤1073741824):Af Tryz.prog 98 [encP fun _=>p] [] (.bool fun _=>ah4 p) []:=by
 have h1:=afm p.2.2 (by omega)
 obtain ⟨v,hv⟩:∃ v,v=ah4 p:=⟨_,rfl⟩
 rw [← hv]
 unfold ah4 at hv
 generalize isName p.2.2=b at *
 obtain ⟨k,i,n⟩:=p
 dsimp only at h1 hv
 (apply Af.of tF mF [.tmp 2] kp98 [(4,[(6,.bool fun _=>b,[])])] Tryz.func98 (fun _=>?_);(any_goals ((with_reducible refine wI ?_);cbv;(try dsimp only [nc] at *);(repeat' (with_reducible first|exact ‹False›.elim|exact nZ|refine oC ?_ ?_|refine VC.mk rfl ?_ ?_ ?_|(apply Ca.mk<;>intro _)|refine cV (fun _=>?_) fun _=>?_|((first|apply xE|apply uE);cbv;(try dsimp only [nc] at *)))))))
 all_goals (try simp only [ite_self])
 any_goals ((with_reducible first|refine nO ?_|refine sO (fun _=>?_));exact h1)
 all_goals (try (exact absurd ‹k=1› ‹¬k=1›))
 all_goals (try (exact absurd ‹k=4› ‹¬k=4›))
 ((all_goals (try (with_reducible ((first|refine rE ?_|refine nE ?_);cbv;(try dsimp only [nc] at *);(try simp only [wl,nc]);(repeat' apply And.intro);all_goals (try exact wZ)))));(all_goals (try ((with_reducible rw [aC]);(try simp only [wl,nc]);(repeat' (with_reducible apply And.intro));(all_goals (try exact cZ))))))
 all_goals (rw [hv];clear hv h1;by_cases hi:i=0<;>by_cases hn:n=⟨#[]⟩<;>by_cases h5:(0:Int)≤i<;>simp [*])
def acR:Nat→List Prt→ByteArray→Option (List Prt)
 | 0,l,_=>some l
 | n+1,l,rest=>if rest=⟨#[]⟩ then some l else if (acP rest).2.2=false∨ah4 (acP rest).1=false then none else acR n (l++[(acP rest).1]) (acP rest).2.1
def abo (s:ByteArray):List Prt×Int :=
 if s=⟨#[]⟩ then ([],4) else if 200<s.size then ([],5) else
 match acR 202 [] (⟨#[46]⟩++s) with
 | none=>([],13)
 | some l=>if 16<l.length then ([],9) else (l,0)
theorem akD (l:List Prt) (t:Prt) (i:Nat) (hi:i<l.length+1):LeL (catF (fun _=>l.length) (alT fun _=>l) (aaL [af8 fun _=>t]) fun _=>i) (alT (fun _=>l++[t]) fun _=>i):=by
 refine LeL.of_eq ?_
 have e:∀ a b:Prt,a=b→(af8 fun _=>a)=af8 fun _=>b:=fun a b h=>by rw [h]
 unfold catF
 by_cases q:i<l.length
 ·rw [if_pos q]
  refine e _ _ ?_
  show l.getD i _=(l++[t]).getD i _
  rw [List.getD_eq_getElem?_getD,List.getD_eq_getElem?_getD,List.getElem?_append_left q]
 ·rw [if_neg q]
  obtain rfl:i=l.length:=by omega
  have h1:(aaL [af8 fun _=>t] fun _=>l.length - l.length)=af8 fun _=>t:=by rw [Nat.sub_self];rfl
  refine h1.trans (e _ _ ?_)
  show t=(l++[t]).getD l.length _
  rw [List.getD_eq_getElem?_getD,List.getElem?_append_right (Nat.le_refl _),Nat.sub_self];rfl
theorem ai9 {s:ByteArray} (h:s≠⟨#[]⟩):0<s.size:=by
 rcases Nat.eq_zero_or_pos s.size with q|q
 ·exact absurd (ByteArray.ext (Array.eq_empty_of_size_eq_zero q)) h
 ·exact q
theorem adL (s:ByteArray) (hs:s.size≤100000000000):Af Tryz.prog 43 [.str fun _=>s] [] (.tup [slcP fun _=>(abo s).1,.int .i64 fun _=>(abo s).2]) []:=by
 unfold abo
 by_cases c1:s=⟨#[]⟩
 ·rw [if_pos c1]
  have c1':s.size=0:=by rw [c1];rfl
  clear c1
  (apply Af.of tF mF [.tmp 2,.tmp 3] kp43 [] Tryz.func43 (fun _=>?_);(any_goals ((with_reducible refine wI ?_);cbv;(try dsimp only [nc] at *);(repeat' (with_reducible first|exact ‹False›.elim|exact nZ|refine oC ?_ ?_|refine VC.mk rfl ?_ ?_ ?_|(apply Ca.mk<;>intro _)|refine cV (fun _=>?_) fun _=>?_|((first|apply xE|apply uE);cbv;(try dsimp only [nc] at *)))))))
  all_goals (try (exact absurd c1' ‹¬s.size=0›))
  (all_goals exact eZ)
 rw [if_neg c1]
 have c1':¬ s.size=0:=fun h=>by have:=ai9 c1;omega
 by_cases c2:200<s.size
 ·rw [if_pos c2]
  (apply Af.of tF mF [.tmp 2,.tmp 3] kp43 [] Tryz.func43 (fun _=>?_);(any_goals ((with_reducible refine wI ?_);cbv;(try dsimp only [nc] at *);(repeat' (with_reducible first|exact ‹False›.elim|exact nZ|refine oC ?_ ?_|refine VC.mk rfl ?_ ?_ ?_|(apply Ca.mk<;>intro _)|refine cV (fun _=>?_) fun _=>?_|((first|apply xE|apply uE);cbv;(try dsimp only [nc] at *)))))))
  all_goals (try (exact absurd ‹s.size=0› c1'))
  all_goals (try (exact absurd ‹(s.size:Int)≤200› (by omega)))
  (all_goals exact eZ)
 rw [if_neg c2]
 obtain ⟨Z,hZ⟩:∃ Z,Z=acR 202 [] (⟨#[46]⟩++s):=⟨_,rfl⟩
 rw [← hZ]
 (apply Af.of tF mF [.tmp 2,.tmp 3] kp43 [] Tryz.func43 (fun _=>?_);(any_goals ((with_reducible refine wI ?_);cbv;(try dsimp only [nc] at *);(repeat' (with_reducible first|exact ‹False›.elim|exact nZ|refine oC ?_ ?_|refine VC.mk rfl ?_ ?_ ?_|(apply Ca.mk<;>intro _)|refine cV (fun _=>?_) fun _=>?_|((first|apply xE|apply uE);cbv;(try dsimp only [nc] at *)))))))
 all_goals (try (exact absurd ‹s.size=0› c1'))
 all_goals (try (exact absurd ‹200<(s.size:Int)› (by omega)))
 ·intro c hc
  obtain rfl:=List.mem_singleton.1 hc
  show 1+s.size≤_;omega
 have hds:(⟨#[46]⟩++s:ByteArray).size=s.size+1:=by rw [ByteArray.size_append];show 1+s.size=_;omega
 generalize (⟨#[46]⟩++s:ByteArray)=s0 at *
 refine .loop (fun q:Nat×List Prt×ByteArray=>⟨42,[(5,.str fun _=>q.2.2),(4,.aref 36 1 fun _=>q.2.1.length)],[(36,.arr false 71 3 1 (fun _=>q.2.1.length) (alT fun _=>q.2.1))]⟩)
  (fun q=>acR q.1 q.2.1 q.2.2=Z∧q.2.2.size+1≤q.1∧q.2.2.size≤201∧q.2.1.length+q.1≤300) (fun q=>q.1) (202,[],s0) ⟨hZ.symm,by dsimp only;omega,by dsimp only;omega,by dsimp only [List.length_nil];omega⟩ ?_ fun q E hq=>?_
 ·(exact aZ)
 obtain ⟨n,l,rest⟩:=q
 obtain ⟨q1,q2,q4,q5⟩:=hq
 dsimp only at q1 q2 q4 q5
 obtain ⟨n,rfl⟩:∃ m,n=m+1:=⟨n - 1,by omega⟩
 simp only [acR] at q1
 by_cases c3:rest=⟨#[]⟩
 ·rw [if_pos c3] at q1
  have c3':rest.size=0:=by rw [c3];rfl
  subst q1
  dsimp only
  by_cases c4:16<l.length
  ·rw [if_pos c4]
   apply AWp.wk tF mF [] kp43 ?_
   (any_goals ((with_reducible refine wI ?_);cbv;(try dsimp only [nc] at *);(repeat' (with_reducible first|exact ‹False›.elim|exact nZ|refine oC ?_ ?_|refine VC.mk rfl ?_ ?_ ?_|(apply Ca.mk<;>intro _)|refine cV (fun _=>?_) fun _=>?_|((first|apply xE|apply uE);cbv;(try dsimp only [nc] at *))))))
   all_goals (try (exact absurd c3' ‹¬rest.size=0›))
   all_goals (try (exact absurd ‹(l.length:Int)≤16› (by omega)))
   (all_goals exact eZ)
  ·rw [if_neg c4]
   apply AWp.wk tF mF [] kp43 ?_
   (any_goals ((with_reducible refine wI ?_);cbv;(try dsimp only [nc] at *);(repeat' (with_reducible first|exact ‹False›.elim|exact nZ|refine oC ?_ ?_|refine VC.mk rfl ?_ ?_ ?_|(apply Ca.mk<;>intro _)|refine cV (fun _=>?_) fun _=>?_|((first|apply xE|apply uE);cbv;(try dsimp only [nc] at *))))))
   all_goals (try (exact absurd c3' ‹¬rest.size=0›))
   all_goals (try (exact absurd ‹16<(l.length:Int)› (by omega)))
   (all_goals exact eZ)
 ·rw [if_neg c3] at q1
  have c3':¬ rest.size=0:=fun h=>by have:=ai9 c3;omega
  have h1:=alI rest (by omega) (by omega)
  have h2:=akm (acP rest).1 (by have:=ako (s:=rest);omega)
  have hless:=akp (s:=rest) (by omega)
  generalize acP rest=t at *
  obtain ⟨p,r2,b⟩:=t
  dsimp only at h1 h2 hless q1
  generalize ah4 p=vb at *
  by_cases c4:b=false∨vb=false
  ·rw [if_pos c4] at q1
   subst q1
   dsimp only
   apply AWp.wk tF mF [(8,[(1,.tup [encP fun _=>p,.str fun _=>r2,.bool fun _=>b],[])]),(9,[(4,.bool fun _=>vb,[])])] kp43 ?_
   (any_goals ((with_reducible refine wI ?_);cbv;(try dsimp only [nc] at *);(repeat' (with_reducible first|exact ‹False›.elim|exact nZ|refine oC ?_ ?_|refine VC.mk rfl ?_ ?_ ?_|(apply Ca.mk<;>intro _)|refine cV (fun _=>?_) fun _=>?_|((first|apply xE|apply uE);cbv;(try dsimp only [nc] at *))))))
   all_goals (try simp only [ite_self])
   any_goals ((with_reducible first|refine nO ?_|refine sO (fun _=>?_));first|exact h1|exact h2)
   all_goals (try (exact absurd ‹rest.size=0› c3'))
   all_goals (try (exact absurd ‹b=true∧vb=true› (fun g=>c4.elim (fun k=>by rw [g.1] at k;cases k) (fun k=>by rw [g.2] at k;cases k))))
   (all_goals exact eZ)
  ·rw [if_neg c4] at q1
   apply AWp.wk tF mF [(8,[(1,.tup [encP fun _=>p,.str fun _=>r2,.bool fun _=>b],[])]),(9,[(4,.bool fun _=>vb,[])])] kp43 ?_
   (any_goals ((with_reducible refine wI ?_);cbv;(try dsimp only [nc] at *);(repeat' (with_reducible first|exact ‹False›.elim|exact nZ|refine oC ?_ ?_|refine VC.mk rfl ?_ ?_ ?_|(apply Ca.mk<;>intro _)|refine cV (fun _=>?_) fun _=>?_|((first|apply xE|apply uE);cbv;(try dsimp only [nc] at *))))))
   all_goals (try simp only [ite_self])
   any_goals ((with_reducible first|refine nO ?_|refine sO (fun _=>?_));first|exact h1|exact h2)
   all_goals (try (exact absurd ‹rest.size=0› c3'))
   all_goals (try (exact absurd ‹b=false∨vb=false› c4))
   ((all_goals (try (with_reducible ((first|refine rE ?_|refine nE ?_);cbv;(try dsimp only [nc] at *);(try simp only [wl,nc]);(repeat' apply And.intro);all_goals (try exact wZ)))));(all_goals (try ((with_reducible rw [aC]);(try simp only [wl,nc]);(repeat' (with_reducible apply And.intro));(all_goals (try exact cZ))))))
   refine dE (ι:=Nat×List Prt×ByteArray) (μ:=fun q=>q.1) (i:=(n+1,l,rest)) (n,l++[p],r2) ?_ ?_
   ·refine ⟨⟨q1,?_,?_,?_⟩,?_⟩
    ·dsimp only;omega
    ·dsimp only;omega
    ·dsimp only;rw [List.length_append];show l.length+1+n≤_;omega
    ·dsimp only;omega
   (focus (cbv;(try dsimp only [nc] at *);(try simp only [wl,nc]);(repeat' (with_reducible apply And.intro));all_goals (try exact wZ)))
   ·rw [List.length_append];rfl
   ·rw [List.length_append];rfl
   ·rw [List.length_append];rfl
   ·exact akD l p
theorem ae3 (s:ByteArray) (hs:s.size≤100000000000) (_:Asc s):Af Tryz.prog 43 [.str fun _=>s] [] (.tup [slcP fun _=>(abo s).1,.int .i64 fun _=>(abo s).2]) []:=adL s hs
end Go.Ai

namespace Go.Ai
open Go Go.Proofs
set_option maxRecDepth 100000
def peV (s:ByteArray):Int:=(abo s).2
theorem ajK (t:ByteArray) (h:peV t=0):t.size≤200:=by
 unfold peV abo at h
 by_cases c1:t=⟨#[]⟩
 ·rw [c1];decide
 rw [if_neg c1] at h
 by_cases c2:200<t.size
 ·rw [if_pos c2] at h;exact absurd h (by decide)
 ·omega
theorem amd (t:ByteArray) (hs:t.size≤100000000000) (ha:Asc t):Af Tryz.prog 43 [.str fun _=>t] [] (.tup [.any,.int .i64 fun _=>peV t]) []:=by
 have h:=ae3 t hs ha
 unfold slcP at h
 refine Af.weak_out h ?_
 unfold peV
 (exact aZ)
end Go.Ai
