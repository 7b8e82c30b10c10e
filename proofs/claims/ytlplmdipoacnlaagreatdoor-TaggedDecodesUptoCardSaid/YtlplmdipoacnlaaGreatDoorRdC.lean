/- Chapter 10: variants and lists are read. -/
import Derived.Test.YtlplmdipoacnlaaGreatDoorRdB
import Derived.Test.YtlplmdipoacnlaaGreatDoorTyF
import Derived.Test.YtlplmdipoacnlaaGreatDoorFnG
set_option linter.all false
namespace Go.Ai
open Go Go.Proofs
set_option maxRecDepth 100000
set_option maxHeartbeats 4000000
def wbox (s:ByteArray) (c:Nat) (l:List V):AO:=.box [.int .i64 fun _=>10,.int .i64 fun _=>0,.int .i64 fun _=>0,.str fun _=>s,slcV c .any fun _=>l,.nil]
theorem partVar_ok (e d c:Nat) (f:TF) (s:ByteArray) (r:Rd) (h:r.good)
 (hR:∀ p:Rd,p.good→p.s=r.s→Af Tryz.prog 61 [.ptr 1000 0,encT e d .any fun _=>fT f] [(1000,Rd.box fun _=>p)] (encV c .any fun _=>(dV d (fT f) p).1) [(1000,Rd.box fun _=>(dV d (fT f) p).2)]) :
 Af Tryz.prog 74 [.ptr 1000 0,.func 147 [.ptr 1001001000 0,.ptr 1001001001 0]] [(1000,Rd.box fun _=>r),(1001001000,.box (cF e d .any fun _=>f)),(1001001001,vbox (fun _=>10) (fun _=>0) (fun _=>0) (fun _=>s))]
  (.tup []) [(1000,Rd.box fun _=>(partR (varK (dV d) (fT f)) [] r).2),(1001001000,.box (cF e d .any fun _=>f)),(1001001001,wbox s c (partR (varK (dV d) (fT f)) [] r).1)]:=by
 obtain ⟨g1,g2,g3,g4,g5,g6,g7,g8⟩:=numR_good h
 obtain ⟨k1,k2,k3,k4,k5,k6⟩:=sub2_good h
 have hsg:=subR_good h
 have hN:=number_ok r h
 have hB:=bytes_ok (nR r).2 g1 (nR r).1 ⟨g2,g3⟩
 have hpe:(subR r).s=r.s∧(subR r).pos=(nR r).2.pos∧(subR r).fin=(sub2 r).pos∧(subR r).bad=0∧(subR r).e=0:=⟨rfl,rfl,rfl,rfl,rfl⟩
 have hF:=fun z:(sub2 r).e=0=>var1_ok e d c f (subR r) (dV d (fT f) (subR r)).2 (dV d (fT f) (subR r)).1 s (hR _ (hsg z).1 rfl)
 obtain ⟨R,hRR⟩:∃ R,R=partR (varK (dV d) (fT f)) [] r:=⟨_,rfl⟩
 obtain ⟨X,hX⟩:∃ X,X=varK (dV d) (fT f) [] (subR r):=⟨_,rfl⟩
 have hRe:R=if (sub2 r).e≠0 then ([],sub2 r) else (X.1,backR (sub2 r) (longR X.2)):=by rw [hRR,hX];rfl
 have hs2:(bR (nR r).2 (nR r).1).2=sub2 r:=rfl
 rw [← hRR]
 have hX1:(dV d (fT f) (subR r)).2=X.2:=by rw [hX];rfl
 have hX2:slcV c .any (fun _=>[(dV d (fT f) (subR r)).1])=slcV c .any fun _=>X.1:=by rw [hX];rfl
 rw [hX1,hX2] at hF
 rw [hs2] at hB
 obtain ⟨r2,hr2⟩:∃ r2,r2=sub2 r:=⟨_,rfl⟩
 obtain ⟨r1,hr1⟩:∃ r1,r1=(nR r).2:=⟨_,rfl⟩
 obtain ⟨n,hn⟩:∃ n,n=(nR r).1:=⟨_,rfl⟩
 obtain ⟨x,hx⟩:∃ x,x=(bR (nR r).2 (nR r).1).1:=⟨_,rfl⟩
 obtain ⟨p,hp⟩:∃ p,p=subR r:=⟨_,rfl⟩
 rw [← hx,← hr1,← hr2,← hn] at hB
 rw [← hn,← hr1] at hN
 rw [← hr2,← hp] at hF
 rw [← hr2,← hr1,← hp] at hpe
 rw [← hr2] at hRe k1 k3 k5
 rw [← hr1] at k5
 have hL1:=fail_ok X.2 X.2.pos 5
 obtain ⟨Y,hY⟩:∃ Y,Y=longR X.2:=⟨_,rfl⟩
 have hYe:Y=if X.2.pos<X.2.fin then X.2.fail X.2.pos 5 else X.2:=hY
 rw [← hY] at hRe
 have hL2:=fail_ok r2 Y.bad Y.e
 obtain ⟨Z,hZ⟩:∃ Z,Z=backR r2 Y:=⟨_,rfl⟩
 have hZe:Z=if Y.e≠0 then r2.fail Y.bad Y.e else r2:=hZ
 rw [← hZ] at hRe
 clear hX1 hX2 hRR hX hs2 hx hr1 hr2 hn hp hsg hR hY hZ
 (apply Af.of tF mF [] kp74 [(0,[(1,.int .i64 fun _=>n,[(1000,Rd.box fun _=>r1)])]),(2,[(2,.str fun _=>x,[(1000,Rd.box fun _=>r2)])]),
   (5,[(2,.tup [],[(1000,Rd.box fun _=>X.2),(1001,.box (cF e d .any fun _=>f)),(1002,wbox s c X.1)])]),
   (7,[(5,.tup [],[(1000,Rd.box fun _=>Y)])]),(9,[(9,.tup [],[(1000,Rd.box fun _=>Z)])])] Tryz.func74 (fun _=>?_);(any_goals ((with_reducible refine wI ?_);cbv;(try dsimp only [nc] at *);(repeat' (with_reducible first|exact aO|exact oN|refine oC ?_ ?_|refine VC.mk rfl ?_ ?_ ?_|(apply Ca.mk<;>intro _)|(apply Cv.mk<;>intro zq<;>(try simp only [nc,cl] at zq)<;>(try simp only [bl,dl] at zq)<;>(revert zq;intro _))|((first|apply xE|apply uE);cbv;(try dsimp only [nc] at *)))))))
 (any_goals ((with_reducible refine bZ ?_)<;>exact hN))
 (any_goals ((with_reducible refine bZ ?_)<;>exact hB))
 any_goals (with_reducible refine nO ?_)<;>first
  | (have hy:Y=X.2.fail X.2.pos 5:=by rw [hYe,if_pos ‹X.2.pos<X.2.fin›]
     rw [← hy] at hL1;exact hL1)
  | (have hz:Z=r2.fail Y.bad Y.e:=by rw [hZe,if_pos ‹¬ Y.e=0›]
     rw [← hz] at hL2;exact hL2)
  | (have hy:Y=X.2:=by rw [hYe,if_neg (Int.not_lt.2 ‹X.2.fin≤X.2.pos›)]
     have hz:Z=r2.fail Y.bad Y.e:=by rw [hZe,hy,if_pos ‹¬ X.2.e=0›]
     rw [← hz,hy] at hL2;exact hL2)
  | (refine Af.wN (hF ‹r2.e=0›) ?_;(focus (cbv;(try dsimp only [nc] at *);(try simp only [wl,nc]);(repeat' (with_reducible apply And.intro));all_goals (try exact wZ))))
 all_goals (try exact k3.trans hpe.1.symm)
 ((all_goals (try (with_reducible ((first|refine rE ?_|refine nE ?_);(focus (cbv;(try dsimp only [nc] at *);(try simp only [wl,nc]);(repeat' (with_reducible apply And.intro));all_goals (try exact wZ)))))));(all_goals (try ((with_reducible rw [aC]);(try simp only [wl,nc]);(repeat' (with_reducible apply And.intro));(all_goals (try exact cZ))))))
 all_goals first
  | (have hq:R=([],r2):=by rw [hRe,if_pos ‹¬ r2.e=0›]
     rw [hq];first|done|rfl|exact fun i _=>LeL.of_eq rfl)
  | (have hq:R=(X.1,Z):=by rw [hRe,if_neg (fun z=>z ‹r2.e=0›)]
     first
     | (rw [hq];first|done|exact fun i _=>LeL.of_eq rfl)
     | (have hz:Z=r2:=by rw [hZe,if_neg (fun z=>z ‹Y.e=0›)]
        rw [hq,hz];done)
     | (have hy:Y=X.2:=by rw [hYe,if_neg (Int.not_lt.2 ‹X.2.fin≤X.2.pos›)]
        have hz:Z=r2:=by rw [hZe,hy,if_neg (fun z=>z ‹X.2.e=0›)]
        rw [hq,hz];done))
theorem readVar_ok (e d c:Nat) (t:Ty) (ht:Ty.le e (d+1) t) (hk:t.kind=10) (r:Rd) (h:r.good)
 (hR:∀ (num:Int) (p:Rd),p.good→p.s=r.s→0≤iI (bY num) t.fields→Af Tryz.prog 61 [.ptr 1000 0,encT e d .any fun _=>fT (gT t (bY num))] [(1000,Rd.box fun _=>p)] (encV c .any fun _=>(dV d (fT (gT t (bY num))) p).1) [(1000,Rd.box fun _=>(dV d (fT (gT t (bY num))) p).2)]) :
 Af Tryz.prog 118 [.ptr 1000 0,encT e (d+1) .any fun _=>t] [(1000,Rd.box fun _=>r)] (encV (c+1) .any fun _=>(varR (dV d) t r).1) [(1000,Rd.box fun _=>(varR (dV d) t r).2)]:=by
 obtain ⟨g1,g2,g3,g4,g5,g6,g7,g8⟩:=numR_good h
 have hN:=number_ok r h
 obtain ⟨n,hn⟩:∃ n,n=(nR r).1:=⟨_,rfl⟩
 obtain ⟨q,hq⟩:∃ q,q=(nR r).2:=⟨_,rfl⟩
 by_cases hi:iI (bY n) t.fields<0
 ·have hRe:varR (dV d) t r=(default,q.fail r.pos 21):=by unfold varR;rw [← hn,← hq,if_pos hi]
  have hNo:=Numbered_no e d t ht n (fun z=>by have:=z.2;omega)
  have hFa:=fail_ok q r.pos 21
  rw [hRe]
  rw [← hn,← hq] at hN
  clear hRe hn hq hR
  (apply Af.of tF mF [.cell 4 30] kp118 [(2,[(1,.int .i64 fun _=>n,[(1000,Rd.box fun _=>q)])]),(3,[(2,.tup [encTF e d .any fun _=>default,.bool fun _=>false],[])]),(5,[(2,.tup [],[(1000,Rd.box fun _=>q.fail r.pos 21)])]),(8,[(2,.tup [],[(1000,Rd.box fun _=>q),(1001001000,.box (cF e d .any fun _=>default)),(1001001001,wbox ⟨#[]⟩ c [])])])] Tryz.func118 (fun _=>?_);(any_goals ((with_reducible refine wI ?_);cbv;(try dsimp only [nc] at *);(repeat' (with_reducible first|exact aO|exact oN|refine oC ?_ ?_|refine VC.mk rfl ?_ ?_ ?_|(apply Ca.mk<;>intro _)|(apply Cv.mk<;>intro zq<;>(try simp only [nc,cl] at zq)<;>(try simp only [bl,dl] at zq)<;>(revert zq;intro _))|((first|apply xE|apply uE);cbv;(try dsimp only [nc] at *)))))))
  (any_goals ((with_reducible refine bZ ?_)<;>exact hN))
  (any_goals ((with_reducible refine bZ ?_);(try dsimp only);(have q:=hNo;refine Af.wN q ?_;clear q);(focus (cbv;(try dsimp only [nc] at *);(try simp only [wl,nc]);(repeat' (with_reducible apply And.intro));all_goals (try exact wZ)))))
  (any_goals ((with_reducible refine bZ ?_)<;>exact hFa))
  ((all_goals (try (with_reducible ((first|refine rE ?_|refine nE ?_);(focus (cbv;(try dsimp only [nc] at *);(try simp only [wl,nc]);(repeat' (with_reducible apply And.intro));all_goals (try exact wZ)))))));(all_goals (try ((with_reducible rw [aC]);(try simp only [wl,nc]);(repeat' (with_reducible apply And.intro));(all_goals (try exact cZ))))))
 ·obtain ⟨f,hf⟩:∃ f,f=gT t (bY n):=⟨_,rfl⟩
  have hY:=Numbered_yes e d t ht n ⟨.inr hk,by omega⟩
  obtain ⟨X,hX⟩:∃ X,X=partR (varK (dV d) (fT f)) [] q:=⟨_,rfl⟩
  have hRe:varR (dV d) t r=(.mk 10 0 0 (fM f) X.1 [],X.2):=by unfold varR;rw [← hn,← hq,if_neg hi,hX,hf]
  have hP:=partVar_ok e d c f (fM f) q (hq ▸ g1) fun p h1 h2=>by rw [hf];exact hR n p h1 (by rw [h2,hq,g5]) (by omega)
  rw [hRe]
  rw [← hX] at hP
  rw [← hf] at hY
  rw [← hn,← hq] at hN
  clear hRe hX hf hn hq hR
  (apply Af.of tF mF [.cell 4 30] kp118 [(2,[(1,.int .i64 fun _=>n,[(1000,Rd.box fun _=>q)])]),(3,[(2,.tup [encTF e d .any fun _=>f,.bool fun _=>true],[])]),(5,[(2,.tup [],[(1000,Rd.box fun _=>q)])]),(8,[(2,.tup [],[(1000,Rd.box fun _=>X.2),(1001001000,.box (cF e d .any fun _=>f)),(1001001001,wbox (fM f) c X.1)])])] Tryz.func118 (fun _=>?_);(any_goals ((with_reducible refine wI ?_);cbv;(try dsimp only [nc] at *);(repeat' (with_reducible first|exact aO|exact oN|refine oC ?_ ?_|refine VC.mk rfl ?_ ?_ ?_|(apply Ca.mk<;>intro _)|(apply Cv.mk<;>intro zq<;>(try simp only [nc,cl] at zq)<;>(try simp only [bl,dl] at zq)<;>(revert zq;intro _))|((first|apply xE|apply uE);cbv;(try dsimp only [nc] at *)))))))
  (any_goals ((with_reducible refine bZ ?_)<;>exact hN))
  (any_goals ((with_reducible refine bZ ?_);(try dsimp only);(have q:=hY;refine Af.wN q ?_;clear q);(focus (cbv;(try dsimp only [nc] at *);(try simp only [wl,nc]);(repeat' (with_reducible apply And.intro));all_goals (try exact wZ)))))
  (any_goals ((with_reducible refine bZ ?_);(try dsimp only);(have q:=hP;refine Af.wN q ?_;clear q);(focus (cbv;(try dsimp only [nc] at *);(try simp only [wl,nc]);(repeat' (with_reducible apply And.intro));all_goals (try exact wZ)))))
  ((all_goals (try (with_reducible ((first|refine rE ?_|refine nE ?_);(focus (cbv;(try dsimp only [nc] at *);(try simp only [wl,nc]);(repeat' (with_reducible apply And.intro));all_goals (try exact wZ)))))));(all_goals (try ((with_reducible rw [aC]);(try simp only [wl,nc]);(repeat' (with_reducible apply And.intro));(all_goals (try exact cZ))))))
  all_goals rfl
end Go.Ai

namespace Go.Ai
open Go Go.Proofs
set_option maxRecDepth 100000
set_option maxHeartbeats 2000000
theorem goT_mono {f g:Ty→Int→Int×Int} {bad:Nat→Bool}:∀ (xs:List Ty) (i:Nat) (l l':Int),(∀ x ∈ xs,∀ l l',0≤l→l≤l'→(f x l).1=0→(g x l').1=0∧(f x l).2≤(g x l').2∧0≤(f x l).2)→0≤l→l≤l' →
 (goT f bad i xs l).1=0→(goT g bad i xs l').1=0∧(goT f bad i xs l).2≤(goT g bad i xs l').2∧0≤(goT f bad i xs l).2
 | [],_,l,l',_,h0,hl,_=>⟨rfl,hl,h0⟩
 | x :: xs,i,l,l',h,h0,hl,hz=>by
  simp only [goT] at hz ⊢
  split at hz
  ·exact absurd hz ‹_›
  ·rename_i hf
   obtain ⟨h1,h2,h3⟩:=h x (List.mem_cons_self ..) l l' h0 hl (by omega)
   split at hz
   ·cases hz
   ·rename_i hb
    rw [if_neg (by omega),if_neg hb,if_neg hf,if_neg hb]
    exact goT_mono xs (i+1) _ _ (fun y hy=>h y (List.mem_cons_of_mem _ hy)) h3 h2 hz
theorem runT_mono (e:Nat):∀ (d:Nat) (lev lev':Int) (t:Ty) (l l':Int),lev'≤lev→0≤l→l≤l'→(runT e d lev t l).1=0→(runT e d lev' t l').1=0∧(runT e d lev t l).2≤(runT e d lev' t l').2∧0≤(runT e d lev t l).2
 | 0,_,_,_,l,l',_,h0,hl,_=>⟨rfl,hl,h0⟩
 | d + 1,lev,lev',t,l,l',hv,h0,hl,hz=>by
  simp only [runT] at hz ⊢
  split at hz
  ·cases hz
  split at hz
  ·cases hz
  split at hz
  ·exact absurd hz ‹_›
  ·rename_i a b c
   rw [if_neg (by omega),if_neg (by omega),if_neg c,if_neg a,if_neg b,if_neg c]
   exact goT_mono (pS t) 0 (l - 1) (l' - 1) (fun x _ l l' q0 q1 q2=>runT_mono e d (lev+1) (lev'+1) x l l' (by omega) q0 q1 q2) (by omega) (by omega) hz
theorem goT_sub {f:Ty→Int→Int×Int} {bad:Nat→Bool}:∀ (xs:List Ty) (i:Nat) (l:Int),(∀ x ∈ xs,∀ l,0≤l→0≤(f x l).2∧(f x l).2≤l)→0≤l→(goT f bad i xs l).1=0→∀ x ∈ xs,∃ l1,0≤l1∧l1≤l∧(f x l1).1=0
 | [],_,_,_,_,_=>fun x hx=>by cases hx
 | y :: xs,i,l,h,h0,hz=>fun x hx=>by
  simp only [goT] at hz
  split at hz
  ·exact absurd hz ‹_›
  ·have h1:=h y (List.mem_cons_self ..) l h0
   split at hz
   ·cases hz
   ·rcases List.mem_cons.1 hx with rfl|hx
    ·exact ⟨l,h0,Int.le_refl _,by omega⟩
    ·obtain ⟨l1,a,b,c⟩:=goT_sub xs (i+1) _ (fun y hy=>h y (List.mem_cons_of_mem _ hy)) h1.1 hz x hx
     exact ⟨l1,a,by omega,c⟩
theorem maxTo_ge {g:Nat→Int} {m:Int}:∀ (n i:Nat),i<n→g i≤maxTo g m n
 | 0,_,h=>absurd h (Nat.not_lt_zero _)
 | n + 1,i,h=>by
  simp only [maxTo]
  rcases Nat.lt_succ_iff_lt_or_eq.1 h with h|rfl
  ·have:=maxTo_ge (g:=g) (m:=m) n i h
   omega
  ·omega
theorem maxTo_base {g:Nat→Int} {m:Int}:∀ (n:Nat),m≤maxTo g m n
 | 0=>Int.le_refl _
 | n+1=>by
  have:=maxTo_base (g:=g) (m:=m) n
  simp only [maxTo]
  omega
theorem greatT_part {e d:Nat} {t:Ty}:∀ x ∈ pS t,greatT e d x≤greatT e (d+1) t:=fun x hx=>by
 simp only [greatT,pS] at *
 split at hx
 ·obtain ⟨i,hi,rfl⟩:=List.getElem_of_mem hx
  have h1:=maxTo_ge (g:=fun i=>greatT e d (t.elem.getD i default)) (m:=leastT e (d+1) t) t.elem.length i hi
  have h2:=maxTo_base (g:=fun i=>greatT e d (fT (t.fields.getD i default))) (m:=maxTo (fun i=>greatT e d (t.elem.getD i default)) (leastT e (d+1) t) t.elem.length) t.fields.length
  simp only [List.getD_eq_getElem?_getD,List.getElem?_eq_getElem hi,Option.getD_some] at h1
  exact Int.le_trans h1 h2
 split at hx
 ·obtain ⟨f,hf,rfl⟩:=List.mem_map.1 hx
  obtain ⟨i,hi,rfl⟩:=List.getElem_of_mem hf
  have h1:=maxTo_ge (g:=fun i=>greatT e d (fT (t.fields.getD i default))) (m:=maxTo (fun i=>greatT e d (t.elem.getD i default)) (leastT e (d+1) t) t.elem.length) t.fields.length i hi
  simp only [List.getD_eq_getElem?_getD,List.getElem?_eq_getElem hi,Option.getD_some] at h1 ⊢
  exact h1
 ·cases hx
theorem chkT_part {e d:Nat} {t:Ty} (h:chkT e (d+1) t=0):∀ x ∈ pS t,chkT e d x=0:=fun x hx=>by
 have hr:(runT e (d+1) 1 t 4096).1=0:=by
  unfold chkT at h
  split at h
  ·exact absurd h ‹_›
  ·omega
 have hg:greatT e (d+1) t≤4096:=by
  unfold chkT at h
  rw [if_neg (by omega)] at h
  split at h
  ·cases h
  ·omega
 have hr2:=hr
 simp only [runT] at hr2
 rw [if_neg (by decide),if_neg (by decide)] at hr2
 split at hr2
 ·exact absurd hr2 ‹_›
 obtain ⟨l1,a,b,c⟩:=goT_sub _ _ _ (fun y _ l h0=>runT_le e d (1+1) y l h0) (by decide) hr2 x hx
 have h2:=(runT_mono e d (1+1) 1 x l1 4096 (by decide) a (by omega) c).1
 have h3:=greatT_part (e:=e) (d:=d) (t:=t) x hx
 unfold chkT
 rw [if_neg (by omega),if_neg (by omega)]
def Ty.chk (e:Nat):Nat→Ty→Prop
 | 0,_=>False
 | d+1,t=>Ty.le e (d+1) t∧Ty.ok e (d+1) t∧chkT e (d+1) t=0∧∀ x ∈ pS t,Ty.chk e d x
theorem Ty.chk_of (e:Nat):∀ (d:Nat) (t:Ty),Ty.le e d t→chkT e d t=0→Ty.chk e d t
 | 0,_,h,_=>h.elim
 | d+1,t,ht,h=>⟨ht,chkT_ok ht h,h,fun x hx=>Ty.chk_of e d x (partsT_le ht x hx) (chkT_part h x hx)⟩
end Go.Ai

namespace Go.Ai
open Go Go.Proofs
set_option maxRecDepth 100000
set_option maxHeartbeats 4000000
theorem listR_err {f:Rd→V×Rd} (n:Nat) (l:List V) (r:Rd) (h:n=0∨r.e≠0):listR f n l r=(l,r):=by
 cases n with
 | zero=>rfl
 | succ n=>rw [listR,if_pos (by omega)]
theorem listV_app {c:Nat} {l:List V} {v:V}:∀ k,k<l.length+1→LeL (catF (fun _=>l.length) (listF c .any fun _=>l) (litArr [cells c .any fun _=>v]) fun _=>k) (listF c .any (fun _=>l++[v]) fun _=>k):=by
 refine cat_le (n:=fun _=>l.length) (m:=1) (fun k hk=>LeL.of_eq ?_) (fun k hk=>LeL.of_eq ?_)
 ·have hk:k<l.length:=hk
  simp only [listF,List.getD_eq_getElem?_getD,List.getElem?_append_left hk]
 ·have:k=0:=by omega
  subst this
  simp [listF,litArr]
theorem readList_ok (e d c:Nat) (t:Ty) (ht:Ty.le e (d+1) t) (h1:t.elem.length=1) (hm:0≤t.min∧t.max≤256) (r:Rd) (h:r.good) (ha:∀ q:Rd,q.good→q.aft (dV d (t.elem.getD 0 default) q).2)
 (hR:∀ p:Rd,p.good→p.s=r.s→Af Tryz.prog 61 [.ptr 1000 0,encT e d .any fun _=>t.elem.getD 0 default] [(1000,Rd.box fun _=>p)] (encV c .any fun _=>(dV d (t.elem.getD 0 default) p).1) [(1000,Rd.box fun _=>(dV d (t.elem.getD 0 default) p).2)]) :
 Af Tryz.prog 116 [.ptr 1000 0,encT e (d+1) .any fun _=>t] [(1000,Rd.box fun _=>r)] (encV (c+1) .any fun _=>(lstR (dV d (t.elem.getD 0 default)) t r).1) [(1000,Rd.box fun _=>(lstR (dV d (t.elem.getD 0 default)) t r).2)]:=by
 obtain ⟨g1,g2,g3,g4,g5,g6,g7,g8⟩:=numR_good h
 have hN:=number_ok r h
 obtain ⟨n,hn⟩:∃ n:Nat,(nR r).1=n:=⟨(nR r).1.toNat,by omega⟩
 obtain ⟨q,hq⟩:∃ q,q=(nR r).2:=⟨_,rfl⟩
 obtain ⟨x,hx⟩:∃ x,x=t.elem.getD 0 default:=⟨_,rfl⟩
 obtain ⟨u,hu⟩:∃ u,u=if (n:Int)<t.min∨t.max<n then q.fail r.pos 18 else q:=⟨_,rfl⟩
 obtain ⟨Y,hY⟩:∃ Y,Y=listR (dV d x) n [] u:=⟨_,rfl⟩
 have hRe:lstR (dV d (t.elem.getD 0 default)) t r=(.mk 8 0 0 ⟨#[]⟩ Y.1 [],Y.2):=by unfold lstR;simp only [hn,Int.toNat_natCast,← hq,← hx,← hu,← hY]
 have hFa:=fail_ok q r.pos 18
 rw [hRe]
 rw [← hx] at hR ha
 rw [hn,← hq] at hN
 have hug:u.good∧u.s=r.s∧(u.e=0→n≤256):=by
  rw [hu]
  split
  ·have:=aft_fail (hq ▸ g1:q.good) r.pos (e:=18) (by decide)
   exact ⟨this.1.good,by rw [this.1.s,hq,g5],fun z=>absurd z this.2⟩
  ·exact ⟨hq ▸ g1,by rw [hq,g5],fun _=>by omega⟩
 have hu2:((n:Int)<t.min∨t.max<n)→u=q.fail r.pos 18:=fun z=>by rw [hu,if_pos z]
 have hu3:¬((n:Int)<t.min∨t.max<n)→u=q:=fun z=>by rw [hu,if_neg z]
 have hFa2:((n:Int)<t.min∨t.max<n)→_:=fun z=>(hu2 z) ▸ hFa
 clear hRe hq hn hu
 (apply Af.of tF mF [.cell 4 30] kp116 [(2,[(1,.int .i64 fun _=>n,[(1000,Rd.box fun _=>q)])]),(4,[(2,.tup [],[(1000,Rd.box fun _=>u)])])] Tryz.func116 (fun _=>?_);(any_goals ((with_reducible refine wI ?_);cbv;(try dsimp only [nc] at *);(repeat' (with_reducible first|exact aO|exact oN|refine oC ?_ ?_|refine VC.mk rfl ?_ ?_ ?_|(apply Ca.mk<;>intro _)|(apply Cv.mk<;>intro zq<;>(try simp only [nc,cl] at zq)<;>(try simp only [bl,dl] at zq)<;>(revert zq;intro _))|((first|apply xE|apply uE);cbv;(try dsimp only [nc] at *)))))))
 (any_goals ((with_reducible refine bZ ?_)<;>exact hN))
 any_goals (with_reducible refine nO ?_)<;>exact hFa2 ‹(n:Int)<t.min∨t.max<n›
 ((all_goals (try (with_reducible ((first|refine rE ?_|refine nE ?_);(focus (cbv;(try dsimp only [nc] at *);(try simp only [wl,nc]);(repeat' (with_reducible apply And.intro));all_goals (try exact wZ)))))));(all_goals (try ((with_reducible rw [aC]);(try simp only [wl,nc]);(repeat' (with_reducible apply And.intro));(all_goals (try exact cZ))))))
 all_goals
  refine .loop (fun p:Nat×List V×Rd=>⟨51,[(7,.ptr 7 0),(6,.int .i64 fun _=>p.1),(4,.ptr 4 0),(3,.ptr 3 0),(0,.ptr 1000 0)],
   [(1000,Rd.box fun _=>p.2.2),(3,.box (cl' e (d+1) .any fun _=>t)),(4,.box (cells 1 .any fun _=>default)),(7,.box [.int .i64 fun _=>8,.int .i64 fun _=>0,.int .i64 fun _=>0,.str fun _=>⟨#[]⟩,.aref 77 0 fun _=>p.2.1.length,.nil]),(77,.arr false 30 6 0 (fun _=>p.2.1.length) (listF c .any fun _=>p.2.1))]⟩)
   (fun p=>p.1≤n∧p.2.2.good∧p.2.2.s=r.s∧(p.2.2.e=0→p.2.1.length+p.1≤256)∧Y=listR (dV d x) p.1 p.2.1 p.2.2) (fun p=>p.1) (n,[],u) ⟨Nat.le_refl _,hug.1,hug.2.1,fun z=>by have:=hug.2.2 z;simp only [List.length_nil];omega,hY⟩ ?_ fun p E hi=>?_
  ·(focus (cbv;(try dsimp only [nc] at *);(try simp only [wl,nc]);(repeat' (with_reducible apply And.intro));all_goals (try exact wZ)))
   all_goals first
    | rfl
    | (rw [hu3 (by omega)];done)
  obtain ⟨i1,i2,i3,i4,i5⟩:=hi
  have hC:=hR p.2.2 i2 i3
  have hat:=ha p.2.2 i2
  obtain ⟨X,hX⟩:∃ X,X=dV d x p.2.2:=⟨_,rfl⟩
  rw [← hX] at hC hat
  have hst:∀ m,p.1=m+1→p.2.2.e=0→Y=listR (dV d x) m (p.2.1++[X.1]) X.2:=fun m hm he=>by
   rw [i5,hm,listR,if_neg (by omega),← hX]
  apply AWp.wk tF mF [(8,[(7,encV c .any fun _=>X.1,[(1000,Rd.box fun _=>X.2)])])] kp116 ?_
  have h00:Int.toNat 0=0:=rfl
  (any_goals ((with_reducible refine wI ?_);cbv;(try dsimp only [nc] at *);(repeat' (with_reducible first|exact aO|exact oN|refine oC ?_ ?_|refine VC.mk rfl ?_ ?_ ?_|(apply Ca.mk<;>intro _)|(apply Cv.mk<;>intro zq<;>(try simp only [nc,cl] at zq)<;>(try simp only [bl,dl] at zq)<;>(revert zq;intro _))|((first|apply xE|apply uE);cbv;(try dsimp only [nc] at *))))))
  all_goals (try simp only [h00,← hx])
  all_goals (try (have hz0:=i4 (And.right ‹_∧p.2.2.e=0›)))
  any_goals (with_reducible refine nO ?_)<;>exact hC
  ((all_goals (try (with_reducible ((first|refine rE ?_|refine nE ?_);(focus (cbv;(try dsimp only [nc] at *);(try simp only [wl,nc]);(repeat' (with_reducible apply And.intro));all_goals (try exact wZ)))))));(all_goals (try ((with_reducible rw [aC]);(try simp only [wl,nc]);(repeat' (with_reducible apply And.intro));(all_goals (try exact cZ))))))
  all_goals first
   | (obtain ⟨m,hm⟩:∃ m,p.1=m+1:=⟨p.1 - 1,by omega⟩
      refine dE (m,p.2.1++[X.1],X.2) ⟨⟨by show m≤n;omega,hat.good,by show X.2.s=r.s;rw [hat.s,i3],fun _=>by simp only [List.length_append,List.length_cons,List.length_nil];omega,hst m hm (And.right ‹_∧p.2.2.e=0›)⟩,by show m<p.1;omega⟩ ?_
      (focus (cbv;(try dsimp only [nc] at *);(try simp only [wl,nc]);(repeat' (with_reducible apply And.intro));all_goals (try exact wZ)))
      ·show IntKind.i64.wrap ((p.1:Int) - 1)=(m:Int)
       rw [w64 (by omega) (by omega)];omega
      all_goals first
       | (simp;done)
       | exact listV_app)
   | (have hy:Y=(p.2.1,p.2.2):=by rw [i5];exact listR_err _ _ _ (by omega)
      rw [hy]
      first
      | done
      | rfl
      | exact fun i _=>LeL.of_eq rfl)
theorem fieldsF_le (e d:Nat) (t:Ty) (r:Rd) (ht:Ty.le e (d+1) t) (hto:Ty.ok e (d+1) t) (hk:t.kind=9) (h:r.few) :
 (∀ x ∈ (fieldsF (dV d) t r).1,x.1.size≤1073741824∧V.le (d+e) x.2)∧(fieldsF (dV d) t r).1.length≤536870912∧(fieldsF (dV d) t r).2.good:=by
 obtain ⟨h1,h2⟩:=h
 have hn:=(aft_num h1).1
 have hnf:=hn.few ⟨h1,h2⟩
 have hgt:∀ p,0≤iI p t.fields→gT t p ∈ t.fields:=fun p q=>getTF_mem q
 have hf:=fieldsR_mem (k:=fldK (dV d) t) (p:=fun x=>x.1.size≤1073741824∧V.le (d+e) x.2) (fldK_mem fun n r h q=>⟨(ht.2.2.2.2.2 _ (hgt _ q)).1,decV_le e d _ r (ht.2.2.2.2.2 _ (hgt _ q)).2.2.2 (Ty.ok_field hto (.inl hk) (hgt _ q)) h⟩) (nR r).1.toNat 0 [] _ hnf (by simp)
 have ha:=aft_fields (k:=fldK (dV d) t) (nR r).1.toNat 0 [] _ hn.good
 obtain ⟨q1,q2,q3,q4⟩:=ha.good
 have q5:=ha.s
 have q7:=hn.s
 have q8:=hn.good.1
 rw [q5,q7] at q3
 refine ⟨hf.1,?_,ha.good⟩
 have:=hf.2
 simp only [fieldsF] at *
 simp only [List.length_nil] at *
 omega
theorem ownT_max {t:Ty} (h:ownT t=0) (hk:t.kind=8):t.max≤256:=by
 simp only [ownT] at h
 split at h
 ·cases h
 split at h
 ·cases h
 split at h
 ·omega
 split at h
 ·cases h
 ·rename_i q
  have h2:kHi t.kind=256:=by rw [hk];decide
  rw [h2] at q
  omega
theorem read_ok (e:Nat) (he:e+1≤1073741824):∀ (d:Nat) (t:Ty) (r:Rd),Ty.chk (e+1) d t→r.few →
 Af Tryz.prog 61 [.ptr 1000 0,encT (e+1) d .any fun _=>t] [(1000,Rd.box fun _=>r)] (encV (d+(e+1)) .any fun _=>(dV d t r).1) [(1000,Rd.box fun _=>(dV d t r).2)]
 | 0,_,_,h,_=>h.elim
 | d + 1,t,r,hck,h=>by
  obtain ⟨ht,hto,hch,hp⟩:=hck
  by_cases hz:r.e≠0
  ·rw [dV,if_pos hz]
   exact read_err _ _ _ _ _ hz
  have hz:r.e=0:=by omega
  have hfew:∀ p:Rd,p.good→p.s=r.s→p.few:=fun p h1 h2=>⟨h1,by rw [h2];exact h.2⟩
  have hpf:∀ f ∈ t.fields,t.kind=9∨t.kind=10→fT f ∈ pS t:=fun f hf hk=>by
   simp only [pS];rw [if_neg (by omega),if_pos hk];exact List.mem_map_of_mem hf
  have hR:t.kind=9∨t.kind=10→∀ (num:Int) (p:Rd),p.good→p.s=r.s→0≤iI (bY num) t.fields→Af Tryz.prog 61 [.ptr 1000 0,encT (e+1) d .any fun _=>fT (gT t (bY num))] [(1000,Rd.box fun _=>p)] (encV (d+(e+1)) .any fun _=>(dV d (fT (gT t (bY num))) p).1) [(1000,Rd.box fun _=>(dV d (fT (gT t (bY num))) p).2)] :=
   fun hk num p h1 h2 h3=>read_ok e he d _ p (hp _ (hpf _ (getTF_mem h3) hk)) (hfew p h1 h2)
  have hcc:d+1+(e+1)=d+(e+1)+1:=by omega
  rw [dV,if_neg (by rw [hz];simp)]
  by_cases h8:t.kind=8
  ·rw [if_pos h8,hcc]
   have h1:=ownT_elem hto.1 h8
   have hm:=ownT_min hto.1 h8
   have hmx:=ownT_max hto.1 h8
   have hx:t.elem.getD 0 default ∈ pS t:=by simp only [pS];rw [if_pos h8];exact gD (by omega)
   refine read_any _ _ _ _ _ _ _ hz 8 116 [] (by simp [rMap]) h8 ?_
   exact readList_ok (e+1) d (d+(e+1)) t ht h1 ⟨hm.1,hmx⟩ r h.1 (fun q hq=>(aft_dec d _ q hq).1) fun p h2 h3=>read_ok e he d _ p (hp _ hx) (hfew p h2 h3)
  rw [if_neg h8]
  by_cases h9:t.kind=9
  ·rw [if_pos h9,hcc]
   obtain ⟨f1,f2,f3⟩:=fieldsF_le (e+1) d t r ht hto h9 h
   refine read_any _ _ _ _ _ _ _ hz 9 117 [] (by simp [rMap]) h9 ?_
   exact readRec_ok (e+1) d (d+(e+1)) t ht h9 hto.1 (by omega) r h f1 f2 f3 (by omega) (hR (.inl h9))
  rw [if_neg h9]
  by_cases h10:t.kind=10
  ·rw [if_pos h10,hcc]
   refine read_any _ _ _ _ _ _ _ hz 10 118 [] (by simp [rMap]) h10 ?_
   exact readVar_ok (e+1) d (d+(e+1)) t ht h10 r h.1 (hR (.inr h10))
  rw [if_neg h10]
  have hn:=(aft_num h.1).1
  by_cases h1:t.kind=1
  ·have hsr:scalR t r=(.mk t.kind (boolR 0 r).1 t.scale ⟨#[]⟩ [] [],(boolR 0 r).2):=by unfold scalR;rw [if_pos h1]
   rw [hsr]
   refine read_any _ _ _ _ _ _ _ hz 1 112 [fptr 115] (by simp [rMap]) h1 ?_
   exact scal_ok e (d+1) 115 _ t he ht hch r (boolR 0 r).2 t.kind (boolR 0 r).1 t.scale ⟨#[]⟩ rfl rfl (Nat.zero_le _) (readBool_ok r h.1 _ _ _ _)
  by_cases h45:t.kind=4∨t.kind=5
  ·have hsr:scalR t r=(.mk t.kind 0 t.scale (bR (nR r).2 (nR r).1).1 [] [],(bR (nR r).2 (nR r).1).2):=by unfold scalR;rw [if_neg h1,if_pos h45]
   have hb:(bR (nR r).2 (nR r).1).1.size≤1073741824:=by
    have:=bytesR_size hn.good (n:=(nR r).1) (aft_num h.1).2.2.1
    have h3:=hn.s
    rw [h3] at this
    have:=h.2
    omega
   rw [hsr]
   have hS:=scal_ok e (d+1) 114 (d+1+(e+1)) t he ht hch r (bR (nR r).2 (nR r).1).2 t.kind 0 t.scale (bR (nR r).2 (nR r).1).1 rfl rfl hb (readStr_ok r h.1 _ _ _ _)
   rcases h45 with h4|h5
   ·exact read_any _ _ _ _ _ _ _ hz 4 112 [fptr 114] (by simp [rMap]) h4 hS
   ·exact read_any _ _ _ _ _ _ _ hz 5 112 [fptr 114] (by simp [rMap]) h5 hS
  ·have hk:t.kind=2∨t.kind=3∨t.kind=6∨t.kind=7:=by
    have:=hto.1
    simp only [ownT] at this
    split at this
    ·cases this
    ·omega
   have hsr:scalR t r=(.mk t.kind (unzigI (nR r).1) t.scale ⟨#[]⟩ [] [],(nR r).2):=by unfold scalR;rw [if_neg h1,if_neg h45]
   rw [hsr]
   have hS:=scal_ok e (d+1) 113 (d+1+(e+1)) t he ht hch r (nR r).2 t.kind (unzigI (nR r).1) t.scale ⟨#[]⟩ rfl rfl (Nat.zero_le _) (readNum_ok r h.1 _ _ _ _)
   rcases hk with h2|h3|h6|h7
   ·exact read_any _ _ _ _ _ _ _ hz 2 112 [fptr 113] (by simp [rMap]) h2 hS
   ·exact read_any _ _ _ _ _ _ _ hz 3 112 [fptr 113] (by simp [rMap]) h3 hS
   ·exact read_any _ _ _ _ _ _ _ hz 6 112 [fptr 113] (by simp [rMap]) h6 hS
   ·exact read_any _ _ _ _ _ _ _ hz 7 112 [fptr 113] (by simp [rMap]) h7 hS
def decodeV (e d:Nat) (t:Ty) (s:ByteArray):V×Int×Int :=
 if chkT e d t≠0 then (default,0,chkT e d t) else
 if (longR (dV d t (rdAt s 0)).2).e≠0 then (default,(longR (dV d t (rdAt s 0)).2).bad,(longR (dV d t (rdAt s 0)).2).e) else
 if 4096<sV (d+e) (dV d t (rdAt s 0)).1 then (default,0,9) else ((dV d t (rdAt s 0)).1,0,0)
theorem Decode_ok (e d:Nat) (t:Ty) (he:d+(e+1)≤1073741824) (ht:Ty.le (e+1) d t) (s:ByteArray) (hs:s.size≤536870912)
 (hz:chkT (e+1) d t=0→(longR (dV d t (rdAt s 0)).2).e=0→sV (d+(e+1)) (dV d t (rdAt s 0)).1≤4611686018427387904) :
 Af Tryz.prog 33 [encT (e+1) d .any fun _=>t,.str fun _=>s] [] (.tup [encV (d+(e+1)) .any fun _=>(decodeV (e+1) d t s).1,.int .i64 fun _=>(decodeV (e+1) d t s).2.1,.int .i64 fun _=>(decodeV (e+1) d t s).2.2]) []:=by
 have hg:(rdAt s 0).good:=rdAt_good (by omega) (by omega) (by omega)
 have hC:=schemaCheck_ok e d t (by omega) ht
 have hRd:=fun z:chkT (e+1) d t=0=>read_ok e (by omega) d t (rdAt s 0) (Ty.chk_of (e+1) d t ht z) ⟨hg,hs⟩
 have hle:=fun z:chkT (e+1) d t=0=>decV_le (e+1) d t (rdAt s 0) ht (chkT_ok ht z) ⟨hg,hs⟩
 obtain ⟨D,hD⟩:∃ D,D=decodeV (e+1) d t s:=⟨_,rfl⟩
 obtain ⟨K,hK⟩:∃ K,K=chkT (e+1) d t:=⟨_,rfl⟩
 obtain ⟨X,hX⟩:∃ X,X=dV d t (rdAt s 0):=⟨_,rfl⟩
 have hDe:D=if K≠0 then (default,0,K) else if (longR X.2).e≠0 then (default,(longR X.2).bad,(longR X.2).e) else if 4096<sV (d+(e+1)) X.1 then (default,0,9) else (X.1,0,0):=by rw [hD,hK,hX];rfl
 rw [← hD]
 rw [← hK] at hC hRd hle hz
 rw [← hX] at hRd hle hz
 have hL:=fail_ok X.2 X.2.pos 5
 obtain ⟨Y,hY⟩:∃ Y,Y=X.2.fail X.2.pos 5:=⟨_,rfl⟩
 rw [← hY] at hL
 have h1:X.2.pos<X.2.fin→longR X.2=Y:=fun h=>by rw [longR,if_pos h,hY]
 have h2:X.2.fin≤X.2.pos→longR X.2=X.2:=fun h=>by rw [longR,if_neg (by omega)]
 obtain ⟨N,hN⟩:∃ N,N=sV (d+(e+1)) X.1:=⟨_,rfl⟩
 have hSz:K=0→(longR X.2).e=0→Af Tryz.prog 62 [encV (d+(e+1)) .any fun _=>X.1] [] (.int .i64 fun _=>N) []:=fun z z2=>by
  rw [hN];exact Size_ok (d+e) X.1 (hle z) (by omega) (hz z z2)
 rw [← hN] at hDe
 clear hD hK hX hY hN hz hle
 obtain ⟨c,hc⟩:∃ c,d+(e+1)=c:=⟨_,rfl⟩
 rw [hc] at hRd hSz ⊢
 clear hc he
 obtain ⟨d,rfl⟩:=Ty.lP ht
 (apply Af.of tF mF [.cell 4 30,.tmp 5,.tmp 6] kp33 [(1,[(1,.int .i64 fun _=>K,[])]),(5,[(2,encV c .any fun _=>X.1,[(1000,Rd.box fun _=>X.2)])]),(7,[(5,.tup [],[(1000,Rd.box fun _=>Y)])]),(10,[(1,.int .i64 fun _=>N,[])])] Tryz.func33 (fun _=>?_);(any_goals ((with_reducible refine wI ?_);cbv;(try dsimp only [nc] at *);(repeat' (with_reducible first|exact aO|exact oN|refine oC ?_ ?_|refine VC.mk rfl ?_ ?_ ?_|(apply Ca.mk<;>intro _)|(apply Cv.mk<;>intro zq<;>(try simp only [nc,cl] at zq)<;>(try simp only [bl,dl] at zq)<;>(revert zq;intro _))|((first|apply xE|apply uE);cbv;(try dsimp only [nc] at *)))))))
 (any_goals ((with_reducible refine bZ ?_)<;>exact hC))
 any_goals (with_reducible refine nO ?_)<;>first
  | exact hL
  | exact hRd ‹K=0›
  | exact hSz ‹K=0› (by rw [h1 ‹_›];assumption)
  | exact hSz ‹K=0› (by rw [h2 ‹_›];assumption)
 ((all_goals (try (with_reducible ((first|refine rE ?_|refine nE ?_);(focus (cbv;(try dsimp only [nc] at *);(try simp only [wl,nc]);(repeat' (with_reducible apply And.intro));all_goals (try exact wZ)))))));(all_goals (try ((with_reducible rw [aC]);(try simp only [wl,nc]);(repeat' (with_reducible apply And.intro));(all_goals (try exact cZ))))))
 all_goals first
  | (have hq:D=(default,0,K):=by rw [hDe,if_pos ‹¬ K=0›]
     rw [hq];done)
  | (have hq:D=(default,0,K):=by rw [hDe,if_pos ‹¬ K=0›]
     rw [hq];rfl)
  | (have hq:D=if Y.e≠0 then (default,Y.bad,Y.e) else if 4096<N then (default,0,9) else (X.1,0,0):=by rw [hDe,if_neg (fun z=>z ‹K=0›),h1 ‹X.2.pos<X.2.fin›]
     first
      | rw [if_pos ‹¬ Y.e=0›] at hq
      | rw [if_neg (fun z=>z ‹Y.e=0›),if_pos (show 4096<N by omega)] at hq
      | rw [if_neg (fun z=>z ‹Y.e=0›),if_neg (show ¬ 4096<N by omega)] at hq
     rw [hq]
     first
      | done
      | rfl
      | exact fun i _=>LeL.of_eq rfl)
  | (have hq:D=if X.2.e≠0 then (default,X.2.bad,X.2.e) else if 4096<N then (default,0,9) else (X.1,0,0):=by rw [hDe,if_neg (fun z=>z ‹K=0›),h2 ‹X.2.fin≤X.2.pos›]
     first
      | rw [if_pos ‹¬ X.2.e=0›] at hq
      | rw [if_neg (fun z=>z ‹X.2.e=0›),if_pos (show 4096<N by omega)] at hq
      | rw [if_neg (fun z=>z ‹X.2.e=0›),if_neg (show ¬ 4096<N by omega)] at hq
     rw [hq]
     first
      | done
      | rfl
      | exact fun i _=>LeL.of_eq rfl)
end Go.Ai
