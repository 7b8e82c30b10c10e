/- Chapter 10: one field of a record is read; the value of a variant. -/
import Derived.Test.YtlplmdipoacnlaaGreatDoorRdA
import Derived.Test.YtlplmdipoacnlaaGreatDoorRec
import Derived.Test.YtlplmdipoacnlaaGreatDoorCheck
set_option linter.all false
namespace Go.Ai
open Go Go.Proofs
set_option maxRecDepth 100000
set_option maxHeartbeats 4000000
theorem var1_ok (e d c:Nat) (f:TF) (p q:Rd) (x:V) (s:ByteArray) (hR:Af Tryz.prog 61 [.ptr 1000 0,encT e d .any fun _=>fT f] [(1000,Rd.box fun _=>p)] (encV c .any fun _=>x) [(1000,Rd.box fun _=>q)]) :
    Af Tryz.prog 147 [.ptr 1000 0,.ptr 1001 0,.ptr 1002 0] [(1000,Rd.box fun _=>p),(1001,.box (cF e d .any fun _=>f)),(1002,vbox (fun _=>10) (fun _=>0) (fun _=>0) (fun _=>s))]
      (.tup []) [(1000,Rd.box fun _=>q),(1001,.box (cF e d .any fun _=>f)),(1002,.box [.int .i64 fun _=>10,.int .i64 fun _=>0,.int .i64 fun _=>0,.str fun _=>s,slcV c .any fun _=>[x],.nil])]:=by
  (apply Af.of tF mF [] kp147 [(0,[(3,encV c .any fun _=>x,[(1000,Rd.box fun _=>q)])])] Tryz.func147 (fun _=>?_);(any_goals ((with_reducible refine wI ?_);cbv;(try dsimp only [nc] at *);(repeat' (with_reducible first|exact aO|exact oN|refine oC ?_ ?_|refine VC.mk rfl ?_ ?_ ?_|(apply Ca.mk<;>intro _)|(apply Cv.mk<;>intro zq<;>(try simp only [nc,cl] at zq)<;>(try simp only [bl,dl] at zq)<;>(revert zq;intro _))|((first|apply xE|apply uE);cbv;(try dsimp only [nc] at *)))))))
  (any_goals ((with_reducible refine bZ ?_);(try dsimp only);(have q:=hR;refine Af.wN q ?_;clear q);(focus (cbv;(try dsimp only [nc] at *);(try simp only [wl,nc]);(repeat' (with_reducible apply And.intro));all_goals (try exact wZ)))))
  ((all_goals (try (with_reducible ((first|refine rE ?_|refine nE ?_);(focus (cbv;(try dsimp only [nc] at *);(try simp only [wl,nc]);(repeat' (with_reducible apply And.intro));all_goals (try exact wZ)))))));(all_goals (try ((with_reducible rw [aC]);(try simp only [wl,nc]);(repeat' (with_reducible apply And.intro));(all_goals (try exact cZ))))))
  · rfl
  · intro i hi
    have:i=0:=by omega
    subst this
    exact LeL.of_eq rfl
theorem fldF_upd {c:Nat} {l:FL} {a:ByteArray} {v:V} {z:(Unit→Nat)→List AV}:∀ i,i<l.length+1→LeL (fupd (catF (fun _=>l.length) (fF c .any fun _=>l) z) (fun _=>(l.length:Int).toNat) (.str (fun _=>a) :: cells c .any fun _=>v) fun _=>i) (fF c .any (fun _=>l++[(a,v)]) fun _=>i):=by
  intro i hi
  refine LeL.of_eq ?_
  simp only [fupd,Int.toNat_natCast]
  by_cases h:i=l.length
  · rw [if_pos h,h]
    simp only [fF,List.getD_eq_getElem?_getD]
    rw [List.getElem?_append_right (Nat.le_refl _)]
    simp
  · have hl:i<l.length:=by omega
    rw [if_neg h]
    simp only [catF,if_pos hl,fF,List.getD_eq_getElem?_getD]
    rw [List.getElem?_append_left hl]
theorem fld_ok (e d c:Nat) (t:Ty) (ht:Ty.le e (d+1) t) (hk:t.kind=9∨t.kind=10) (num:Int) (p:Rd) (hp:p.good) (l:FL) (hl:l.length≤1073741824)
    (hR:0≤iI (bY num) t.fields→Af Tryz.prog 61 [.ptr 1000 0,encT e d .any fun _=>fT (gT t (bY num))] [(1000,Rd.box fun _=>p)] (encV c .any fun _=>(dV d (fT (gT t (bY num))) p).1) [(1000,Rd.box fun _=>(dV d (fT (gT t (bY num))) p).2)]) :
    Af Tryz.prog 143 [.int .i64 fun _=>num,.ptr 1001 0,.ptr 1002 0,.ptr 1003 0]
      [(1001,Rd.box fun _=>p),(1002,.box (cl' e (d+1) .any fun _=>t)),(1003,.box [.aref 1001003000 0 fun _=>l.length]),(1001003000,.arr false 73 7 0 (fun _=>l.length) (fF c .any fun _=>l))]
      (.tup []) [(1001,Rd.box fun _=>(fldK (dV d) t num l p).2),(1002,.box (cl' e (d+1) .any fun _=>t)),(1003,.box [.aref 1001003000 1 fun _=>(fldK (dV d) t num l p).1.length]),
        (1001003000,.arr false 73 7 1 (fun _=>(fldK (dV d) t num l p).1.length) (fF c .any fun _=>(fldK (dV d) t num l p).1))]:=by
  obtain ⟨X,hX⟩:∃ X,X=fldK (dV d) t num l p:=⟨_,rfl⟩
  rw [← hX]
  by_cases hi:iI (bY num) t.fields<0
  · have hXe:X=(l,p.to p.fin):=by rw [hX,fldK,if_pos hi]
    have hN:=Numbered_no e d t ht num (fun z=>by have:=z.2;omega)
    rw [hXe]
    clear hX hXe
    have hpe:(p.to p.fin).s=p.s∧(p.to p.fin).pos=p.fin∧(p.to p.fin).fin=p.fin∧(p.to p.fin).bad=p.bad∧(p.to p.fin).e=p.e:=⟨rfl,rfl,rfl,rfl,rfl⟩
    (apply Af.of tF mF [] kp143 [(0,[(2,.tup [encTF e d .any fun _=>default,.bool fun _=>false],[])]),(3,[(6,encV c .any fun _=>default,[(1000,Rd.box fun _=>p)])])] Tryz.func143 (fun _=>?_);(any_goals ((with_reducible refine wI ?_);cbv;(try dsimp only [nc] at *);(repeat' (with_reducible first|exact aO|exact oN|refine oC ?_ ?_|refine VC.mk rfl ?_ ?_ ?_|(apply Ca.mk<;>intro _)|(apply Cv.mk<;>intro zq<;>(try simp only [nc,cl] at zq)<;>(try simp only [bl,dl] at zq)<;>(revert zq;intro _))|((first|apply xE|apply uE);cbv;(try dsimp only [nc] at *)))))))
    (any_goals ((with_reducible refine bZ ?_);(try dsimp only);(have q:=hN;refine Af.wN q ?_;clear q);(focus (cbv;(try dsimp only [nc] at *);(try simp only [wl,nc]);(repeat' (with_reducible apply And.intro));all_goals (try exact wZ)))))
    ((all_goals (try (with_reducible ((first|refine rE ?_|refine nE ?_);(focus (cbv;(try dsimp only [nc] at *);(try simp only [wl,nc]);(repeat' (with_reducible apply And.intro));all_goals (try exact wZ)))))));(all_goals (try ((with_reducible rw [aC]);(try simp only [wl,nc]);(repeat' (with_reducible apply And.intro));(all_goals (try exact cZ))))))
    all_goals rfl
  · obtain ⟨f,hf⟩:∃ f,f=gT t (bY num):=⟨_,rfl⟩
    obtain ⟨x,hx⟩:∃ x,x=dV d (fT f) p:=⟨_,rfl⟩
    have hXe:X=(l++[(fM f,x.1)],x.2):=by rw [hX,fldK,if_neg hi,hx,hf]
    have hN:=Numbered_yes e d t ht num ⟨hk,by omega⟩
    have hRf:=hR (by omega)
    rw [← hf] at hN hRf
    rw [← hx] at hRf
    clear hR
    rw [hXe]
    clear hX hXe hx hf
    (apply Af.of tF mF [] kp143 [(0,[(2,.tup [encTF e d .any fun _=>f,.bool fun _=>true],[])]),(3,[(6,encV c .any fun _=>x.1,[(1000,Rd.box fun _=>x.2)])])] Tryz.func143 (fun _=>?_);(any_goals ((with_reducible refine wI ?_);cbv;(try dsimp only [nc] at *);(repeat' (with_reducible first|exact aO|exact oN|refine oC ?_ ?_|refine VC.mk rfl ?_ ?_ ?_|(apply Ca.mk<;>intro _)|(apply Cv.mk<;>intro zq<;>(try simp only [nc,cl] at zq)<;>(try simp only [bl,dl] at zq)<;>(revert zq;intro _))|((first|apply xE|apply uE);cbv;(try dsimp only [nc] at *)))))))
    (any_goals ((with_reducible refine bZ ?_);(try dsimp only);(have q:=hN;refine Af.wN q ?_;clear q);(focus (cbv;(try dsimp only [nc] at *);(try simp only [wl,nc]);(repeat' (with_reducible apply And.intro));all_goals (try exact wZ)))))
    (any_goals ((with_reducible refine bZ ?_);(try dsimp only);(have q:=hRf;refine Af.wN q ?_;clear q);(focus (cbv;(try dsimp only [nc] at *);(try simp only [wl,nc]);(repeat' (with_reducible apply And.intro));all_goals (try exact wZ)))))
    ((all_goals (try (with_reducible ((first|refine rE ?_|refine nE ?_);(focus (cbv;(try dsimp only [nc] at *);(try simp only [wl,nc]);(repeat' (with_reducible apply And.intro));all_goals (try exact wZ)))))));(all_goals (try ((with_reducible rw [aC]);(try simp only [wl,nc]);(repeat' (with_reducible apply And.intro));(all_goals (try exact cZ))))))
    all_goals first
      | (simp;done)
      | exact fldF_upd
theorem fR' (e d c:Nat) (t:Ty) (ht:Ty.le e (d+1) t) (hk:t.kind=9∨t.kind=10) (num:Int) (p:Rd) (hp:p.good) (l:FL) (hl:l.length≤1073741824)
    (hR:0≤iI (bY num) t.fields→Af Tryz.prog 61 [.ptr 1000 0,encT e d .any fun _=>fT (gT t (bY num))] [(1000,Rd.box fun _=>p)] (encV c .any fun _=>(dV d (fT (gT t (bY num))) p).1) [(1000,Rd.box fun _=>(dV d (fT (gT t (bY num))) p).2)]) :
    Af Tryz.prog 75 [.ptr 1000 0,.ptr 1001 0,.ptr 1002 0]
      [(1000,Rd.box fun _=>p),(1001,.box [.func 143 [.ptr 1002001000000 0,.ptr 1002001000001 0]]),(1002,.box [.int .i64 fun _=>num]),(1002001000000,.box (cl' e (d+1) .any fun _=>t)),(1002001000001,.box [.aref 1002002000001000 0 fun _=>l.length]),(1002002000001000,.arr false 73 7 0 (fun _=>l.length) (fF c .any fun _=>l))]
      (.tup []) [(1000,Rd.box fun _=>(fldK (dV d) t num l p).2),(1001,.box [.func 143 [.ptr 1002001000000 0,.ptr 1002001000001 0]]),(1002,.box [.int .i64 fun _=>num]),(1002001000000,.box (cl' e (d+1) .any fun _=>t)),
        (1002001000001,.box [.aref 1002002000001000 1 fun _=>(fldK (dV d) t num l p).1.length]),(1002002000001000,.arr false 73 7 1 (fun _=>(fldK (dV d) t num l p).1.length) (fF c .any fun _=>(fldK (dV d) t num l p).1))]:=by
  have hF:=fld_ok e d c t ht hk num p hp l hl hR
  obtain ⟨X,hX⟩:∃ X,X=fldK (dV d) t num l p:=⟨_,rfl⟩
  rw [← hX] at hF ⊢
  clear hX hR
  (apply Af.of tF mF [] kp75 [(0,[(3,.tup [],[(1001,Rd.box fun _=>X.2),(1002,.box (cl' e (d+1) .any fun _=>t)),(1003,.box [.aref 1001003000 1 fun _=>X.1.length]),(1001003000,.arr false 73 7 1 (fun _=>X.1.length) (fF c .any fun _=>X.1))])])] Tryz.func75 (fun _=>?_);(any_goals ((with_reducible refine wI ?_);cbv;(try dsimp only [nc] at *);(repeat' (with_reducible first|exact aO|exact oN|refine oC ?_ ?_|refine VC.mk rfl ?_ ?_ ?_|(apply Ca.mk<;>intro _)|(apply Cv.mk<;>intro zq<;>(try simp only [nc,cl] at zq)<;>(try simp only [bl,dl] at zq)<;>(revert zq;intro _))|((first|apply xE|apply uE);cbv;(try dsimp only [nc] at *)))))))
  (any_goals ((with_reducible refine bZ ?_);(try dsimp only);(have q:=hF;refine Af.wN q ?_;clear q);(exact aZ)))
  (all_goals (try exact eZ))
theorem partRec_ok (e d c:Nat) (t:Ty) (ht:Ty.le e (d+1) t) (hk:t.kind=9∨t.kind=10) (num:Int) (r:Rd) (h:r.good) (l:FL) (hl:l.length≤1073741824)
    (hR:∀ p:Rd,p.good→p.s=r.s→0≤iI (bY num) t.fields→Af Tryz.prog 61 [.ptr 1000 0,encT e d .any fun _=>fT (gT t (bY num))] [(1000,Rd.box fun _=>p)] (encV c .any fun _=>(dV d (fT (gT t (bY num))) p).1) [(1000,Rd.box fun _=>(dV d (fT (gT t (bY num))) p).2)]) :
    Af Tryz.prog 74 [.ptr 1000 0,.func 75 [.ptr 1001001000 0,.ptr 1001001001 0]]
      [(1000,Rd.box fun _=>r),(1001001000,.box [.func 143 [.ptr 1002002000000000 0,.ptr 1002002000000001 0]]),(1001001001,.box [.int .i64 fun _=>num]),(1002002000000000,.box (cl' e (d+1) .any fun _=>t)),(1002002000000001,.box [.aref 1002002001000001000 0 fun _=>l.length]),(1002002001000001000,.arr false 73 7 0 (fun _=>l.length) (fF c .any fun _=>l))]
      (.tup []) [(1000,Rd.box fun _=>(partR (fldK (dV d) t num) l r).2),(1001001000,.box [.func 143 [.ptr 1002002000000000 0,.ptr 1002002000000001 0]]),(1001001001,.box [.int .i64 fun _=>num]),(1002002000000000,.box (cl' e (d+1) .any fun _=>t)),
        (1002002000000001,.box [.aref 1002002001000001000 1 fun _=>(partR (fldK (dV d) t num) l r).1.length]),(1002002001000001000,.arr false 73 7 1 (fun _=>(partR (fldK (dV d) t num) l r).1.length) (fF c .any fun _=>(partR (fldK (dV d) t num) l r).1))]:=by
  obtain ⟨g1,g2,g3,g4,g5,g6,g7,g8⟩:=numR_good h
  obtain ⟨k1,k2,k3,k4,k5,k6⟩:=sub2_good h
  have hsg:=subR_good h
  have hN:=number_ok r h
  have hB:=bytes_ok (nR r).2 g1 (nR r).1 ⟨g2,g3⟩
  have hpe:(subR r).s=r.s∧(subR r).pos=(nR r).2.pos∧(subR r).fin=(sub2 r).pos∧(subR r).bad=0∧(subR r).e=0:=⟨rfl,rfl,rfl,rfl,rfl⟩
  have hF:=fun z:(sub2 r).e=0=>fR' e d c t ht hk num (subR r) (hsg z).1 l hl (hR _ (hsg z).1 rfl)
  obtain ⟨R,hRR⟩:∃ R,R=partR (fldK (dV d) t num) l r:=⟨_,rfl⟩
  obtain ⟨X,hX⟩:∃ X,X=fldK (dV d) t num l (subR r):=⟨_,rfl⟩
  have hRe:R=if (sub2 r).e≠0 then (l,sub2 r) else (X.1,backR (sub2 r) (longR X.2)):=by rw [hRR,hX];rfl
  have hs2:(bR (nR r).2 (nR r).1).2=sub2 r:=rfl
  rw [← hRR]
  rw [← hX] at hF
  rw [hs2] at hB
  obtain ⟨r2,hr2⟩:∃ r2,r2=sub2 r:=⟨_,rfl⟩
  obtain ⟨r1,hr1⟩:∃ r1,r1=(nR r).2:=⟨_,rfl⟩
  obtain ⟨n,hn⟩:∃ n,n=(nR r).1:=⟨_,rfl⟩
  obtain ⟨x,hx⟩:∃ x,x=(bR (nR r).2 (nR r).1).1:=⟨_,rfl⟩
  obtain ⟨p,hp⟩:∃ p,p=subR r:=⟨_,rfl⟩
  rw [← hx,← hr1,← hr2,← hn] at hB
  rw [← hn,← hr1] at hN
  rw [← hr2,← hp] at hF
  rw [← hr2,← hr1,← hp] at hpe
  rw [← hr2] at hRe k1 k3 k5
  rw [← hr1] at k5
  have hL1:=fail_ok X.2 X.2.pos 5
  obtain ⟨Y,hY⟩:∃ Y,Y=longR X.2:=⟨_,rfl⟩
  have hYe:Y=if X.2.pos<X.2.fin then X.2.fail X.2.pos 5 else X.2:=hY
  rw [← hY] at hRe
  have hL2:=fail_ok r2 Y.bad Y.e
  obtain ⟨Z,hZ⟩:∃ Z,Z=backR r2 Y:=⟨_,rfl⟩
  have hZe:Z=if Y.e≠0 then r2.fail Y.bad Y.e else r2:=hZ
  rw [← hZ] at hRe
  clear hRR hX hs2 hx hr1 hr2 hn hp hsg hR hY hZ
  (apply Af.of tF mF [] kp74 [(0,[(1,.int .i64 fun _=>n,[(1000,Rd.box fun _=>r1)])]),(2,[(2,.str fun _=>x,[(1000,Rd.box fun _=>r2)])]),
    (5,[(2,.tup [],[(1000,Rd.box fun _=>X.2),(1001,.box [.func 143 [.ptr 1002001000000 0,.ptr 1002001000001 0]]),(1002,.box [.int .i64 fun _=>num]),(1002001000000,.box (cl' e (d+1) .any fun _=>t)),(1002001000001,.box [.aref 1002002000001000 1 fun _=>X.1.length]),(1002002000001000,.arr false 73 7 1 (fun _=>X.1.length) (fF c .any fun _=>X.1))])]),
    (7,[(5,.tup [],[(1000,Rd.box fun _=>Y)])]),(9,[(9,.tup [],[(1000,Rd.box fun _=>Z)])])] Tryz.func74 (fun _=>?_);(any_goals ((with_reducible refine wI ?_);cbv;(try dsimp only [nc] at *);(repeat' (with_reducible first|exact aO|exact oN|refine oC ?_ ?_|refine VC.mk rfl ?_ ?_ ?_|(apply Ca.mk<;>intro _)|(apply Cv.mk<;>intro zq<;>(try simp only [nc,cl] at zq)<;>(try simp only [bl,dl] at zq)<;>(revert zq;intro _))|((first|apply xE|apply uE);cbv;(try dsimp only [nc] at *)))))))
  (any_goals ((with_reducible refine bZ ?_)<;>exact hN))
  (any_goals ((with_reducible refine bZ ?_)<;>exact hB))
  any_goals (with_reducible refine nO ?_)<;>first
    | (have hy:Y=X.2.fail X.2.pos 5:=by rw [hYe,if_pos ‹X.2.pos<X.2.fin›]
       rw [← hy] at hL1;exact hL1)
    | (have hz:Z=r2.fail Y.bad Y.e:=by rw [hZe,if_pos ‹¬ Y.e=0›]
       rw [← hz] at hL2;exact hL2)
    | (have hy:Y=X.2:=by rw [hYe,if_neg (Int.not_lt.2 ‹X.2.fin≤X.2.pos›)]
       have hz:Z=r2.fail Y.bad Y.e:=by rw [hZe,hy,if_pos ‹¬ X.2.e=0›]
       rw [← hz,hy] at hL2;exact hL2)
    | (refine Af.wN (hF ‹r2.e=0›) ?_;(focus (cbv;(try dsimp only [nc] at *);(try simp only [wl,nc]);(repeat' (with_reducible apply And.intro));all_goals (try exact wZ))))
  all_goals (try exact k3.trans hpe.1.symm)
  ((all_goals (try (with_reducible ((first|refine rE ?_|refine nE ?_);(focus (cbv;(try dsimp only [nc] at *);(try simp only [wl,nc]);(repeat' (with_reducible apply And.intro));all_goals (try exact wZ)))))));(all_goals (try ((with_reducible rw [aC]);(try simp only [wl,nc]);(repeat' (with_reducible apply And.intro));(all_goals (try exact cZ))))))
  all_goals first
    | (have hq:R=(l,r2):=by rw [hRe,if_pos ‹¬ r2.e=0›]
       rw [hq];first|done|exact fun i _=>LeL.of_eq rfl)
    | (have hq:R=(X.1,Z):=by rw [hRe,if_neg (fun z=>z ‹r2.e=0›)]
       first
       | (rw [hq];first|done|exact fun i _=>LeL.of_eq rfl)
       | (have hz:Z=r2:=by rw [hZe,if_neg (fun z=>z ‹Y.e=0›)]
          rw [hq,hz];done)
       | (have hy:Y=X.2:=by rw [hYe,if_neg (Int.not_lt.2 ‹X.2.fin≤X.2.pos›)]
          have hz:Z=r2:=by rw [hZe,hy,if_neg (fun z=>z ‹X.2.e=0›)]
          rw [hq,hz];done))
theorem fieldsR_err {α:Type} {k:Int→α→Rd→α×Rd} (n:Nat) (last:Int) (l:α) (r:Rd) (h:n=0∨r.e≠0):fieldsR k n last l r=(l,r):=by
  cases n with
  | zero=>rfl
  | succ n=>rw [fieldsR,if_pos (by omega)]
theorem fieldsRec_ok (e d c:Nat) (t:Ty) (ht:Ty.le e (d+1) t) (hk:t.kind=9∨t.kind=10) (r:Rd) (h:r.good) (hs:r.s.size≤536870912)
    (hR:∀ (num:Int) (p:Rd),p.good→p.s=r.s→0≤iI (bY num) t.fields→Af Tryz.prog 61 [.ptr 1000 0,encT e d .any fun _=>fT (gT t (bY num))] [(1000,Rd.box fun _=>p)] (encV c .any fun _=>(dV d (fT (gT t (bY num))) p).1) [(1000,Rd.box fun _=>(dV d (fT (gT t (bY num))) p).2)]) :
    Af Tryz.prog 54 [.ptr 1000 0,.func 143 [.ptr 1001001000 0,.ptr 1001001001 0]] [(1000,Rd.box fun _=>r),(1001001000,.box (cl' e (d+1) .any fun _=>t)),(1001001001,.box [.nil])]
      (.tup []) [(1000,Rd.box fun _=>(fieldsF (dV d) t r).2),(1001001000,.box (cl' e (d+1) .any fun _=>t)),(1001001001,.box [.aref 200 1 fun _=>(fieldsF (dV d) t r).1.length]),(200,.arr false 73 7 1 (fun _=>(fieldsF (dV d) t r).1.length) (fF c .any fun _=>(fieldsF (dV d) t r).1))]:=by
  obtain ⟨g1,g2,g3,g4,g5,g6,g7,g8⟩:=numR_good h
  have hN:=number_ok r h
  obtain ⟨R,hRR⟩:∃ R,R=fieldsF (dV d) t r:=⟨_,rfl⟩
  rw [← hRR]
  obtain ⟨r0,hr0⟩:∃ r0,r0=(nR r).2:=⟨_,rfl⟩
  obtain ⟨n,hn⟩:∃ n:Nat,(nR r).1=n:=⟨(nR r).1.toNat,by omega⟩
  have hRe:R=fieldsR (fldK (dV d) t) n 0 [] r0:=by rw [hRR,fieldsF,hn,hr0,Int.toNat_natCast]
  rw [hn,← hr0] at hN
  (apply Af.of tF mF [] kp54 [(2,[(1,.int .i64 fun _=>n,[(1000,Rd.box fun _=>r0)])])] Tryz.func54 (fun _=>?_);(any_goals ((with_reducible refine wI ?_);cbv;(try dsimp only [nc] at *);(repeat' (with_reducible first|exact aO|exact oN|refine oC ?_ ?_|refine VC.mk rfl ?_ ?_ ?_|(apply Ca.mk<;>intro _)|(apply Cv.mk<;>intro zq<;>(try simp only [nc,cl] at zq)<;>(try simp only [bl,dl] at zq)<;>(revert zq;intro _))|((first|apply xE|apply uE);cbv;(try dsimp only [nc] at *)))))))
  (any_goals ((with_reducible refine bZ ?_)<;>exact hN))
  ((all_goals (try (with_reducible ((first|refine rE ?_|refine nE ?_);(focus (cbv;(try dsimp only [nc] at *);(try simp only [wl,nc]);(repeat' (with_reducible apply And.intro));all_goals (try exact wZ)))))));(all_goals (try ((with_reducible rw [aC]);(try simp only [wl,nc]);(repeat' (with_reducible apply And.intro));(all_goals (try exact cZ))))))
  refine .loop (fun p:Nat×Int×FL×Rd=>⟨54,[(5,.int .i64 fun _=>p.1),(4,.int .i64 fun _=>p.2.1),(3,.ptr 3 0),(0,.ptr 1000 0)],[(1000,Rd.box fun _=>p.2.2.2),(1001001000,.box (cl' e (d+1) .any fun _=>t)),(1001001001,.box [.aref 200 1 fun _=>p.2.2.1.length]),(3,.box [.func 143 [.ptr 1001001000 0,.ptr 1001001001 0]]),(200,.arr false 73 7 1 (fun _=>p.2.2.1.length) (fF c .any fun _=>p.2.2.1))]⟩)
    (fun p=>p.1≤n∧p.2.2.2.good∧p.2.2.2.s=r.s∧(p.2.2.1.length:Int)≤p.2.2.2.pos∧R=fieldsR (fldK (dV d) t) p.1 p.2.1 p.2.2.1 p.2.2.2) (fun p=>p.1) (n,0,[],r0) ⟨Nat.le_refl _,by rw [hr0];exact g1,by rw [hr0];exact g5,by rw [hr0];show (0:Int)≤_;exact g1.1,hRe⟩ ?_ fun p E hi=>?_
  · (focus (cbv;(try dsimp only [nc] at *);(try simp only [wl,nc]);(repeat' (with_reducible apply And.intro));all_goals (try exact wZ)))
  obtain ⟨i1,i2,i3,i4,i5⟩:=hi
  obtain ⟨q1,q2,q3,q4⟩:=id i2
  have hll:p.2.2.1.length≤1073741824:=by rw [i3] at q3;omega
  obtain ⟨e1,e2,e3,e4,e5,e6,e7,e8⟩:=numR_good i2
  obtain ⟨s1,s2,s3,s4⟩:=stepR_good p.2.1 i2
  have hNq:=number_ok p.2.2.2 i2
  obtain ⟨k,hkk⟩:∃ k,k=(nR p.2.2.2).1:=⟨_,rfl⟩
  obtain ⟨w,hw⟩:∃ w,w=(nR p.2.2.2).2:=⟨_,rfl⟩
  obtain ⟨u,hu⟩:∃ u,u=stepR p.2.1 p.2.2.2:=⟨_,rfl⟩
  have hue:u=if k<1∨9999<k then w.fail p.2.2.2.pos 2 else if k≤p.2.1 then w.fail p.2.2.2.pos 24 else w:=by rw [hu,hkk,hw];rfl
  have hpg:=aft_part (k:=fldK (dV d) t k) (l:=p.2.2.1) (hu ▸ s1:u.good)
  have hpl:((partR (fldK (dV d) t k) p.2.2.1 u).1.length:Int)≤p.2.2.1.length+((partR (fldK (dV d) t k) p.2.2.1 u).2.pos - u.pos):=by
    have hp0:=hpg.1.pos
    obtain ⟨b1,b2⟩:=aft_sub2 (hu ▸ s1:u.good)
    unfold partR at hp0 ⊢
    split
    · rename_i q
      rw [if_pos q] at hp0
      simp only at hp0 ⊢;omega
    · rename_i q
      have hb:=(aft_back (p:=longR (fldK (dV d) t k p.2.2.1 (subR u)).2) b1.good).pos
      have:=b2 (by omega)
      have hl1:(fldK (dV d) t k p.2.2.1 (subR u)).1.length≤p.2.2.1.length+1:=by
        unfold fldK
        split
        · exact Nat.le_succ _
        · simp
      simp only;omega
  have hPt:=partRec_ok e d c t ht hk k u (hu ▸ s1) p.2.2.1 hll fun q h1 h2 h3=>hR k q h1 (by rw [h2,hu,s3,i3]) h3
  obtain ⟨X,hX⟩:∃ X,X=partR (fldK (dV d) t k) p.2.2.1 u:=⟨_,rfl⟩
  rw [← hX] at hPt hpg hpl
  rw [← hkk,← hw] at hNq
  have hF1:=fail_ok w p.2.2.2.pos 2
  have hF2:=fail_ok w p.2.2.2.pos 24
  have hst:∀ m,p.1=m+1→p.2.2.2.e=0→R=if w.e≠0 then (p.2.2.1,w) else fieldsR (fldK (dV d) t) m k X.1 X.2:=fun m hm he=>by
    rw [i5,hm,fieldsR,if_neg (by omega),← hkk,← hw,← hu,hX]
  rw [← hu] at s2 s3 s4
  have hXl:(X.1.length:Int)≤X.2.pos:=by omega
  clear hX hu hkk hw hR hpl
  have hns:(1≤k∧k≤9999)→p.2.1<k→u=w:=fun a b=>by rw [hue,if_neg (by omega),if_neg (by omega)]
  have hPw:(1≤k∧k≤9999)→p.2.1<k→_:=fun a b=>(hns a b) ▸ hPt
  apply AWp.wk tF mF [(6,[(1,.int .i64 fun _=>k,[(1000,Rd.box fun _=>w)])]),(9,[(2,.tup [],[(1000,Rd.box fun _=>u)])]),(11,[(2,.tup [],[(1000,Rd.box fun _=>u)])]),
    (13,[(2,.tup [],[(1000,Rd.box fun _=>X.2),(1001001000,.box [.func 143 [.ptr 1002002000000000 0,.ptr 1002002000000001 0]]),(1001001001,.box [.int .i64 fun _=>k]),(1002002000000000,.box (cl' e (d+1) .any fun _=>t)),(1002002000000001,.box [.aref 1002002001000001000 1 fun _=>X.1.length]),(1002002001000001000,.arr false 73 7 1 (fun _=>X.1.length) (fF c .any fun _=>X.1))])])] kp54 ?_
  (any_goals ((with_reducible refine wI ?_);cbv;(try dsimp only [nc] at *);(repeat' (with_reducible first|exact aO|exact oN|refine oC ?_ ?_|refine VC.mk rfl ?_ ?_ ?_|(apply Ca.mk<;>intro _)|(apply Cv.mk<;>intro zq<;>(try simp only [nc,cl] at zq)<;>(try simp only [bl,dl] at zq)<;>(revert zq;intro _))|((first|apply xE|apply uE);cbv;(try dsimp only [nc] at *))))))
  (any_goals ((with_reducible refine bZ ?_)<;>exact hNq))
  any_goals (with_reducible refine nO ?_)<;>first
    | (have hux:u=w.fail p.2.2.2.pos 2:=by rw [hue,if_pos ‹k<1∨9999<k›]
       rw [← hux] at hF1;exact hF1)
    | (have hux:u=w.fail p.2.2.2.pos 24:=by rw [hue,if_neg (by omega),if_pos ‹k≤p.2.1›]
       rw [← hux] at hF2;exact hF2)
    | exact hPt
    | exact hPw ‹1≤k∧k≤9999› ‹p.2.1<k›
  ((all_goals (try (with_reducible ((first|refine rE ?_|refine nE ?_);(focus (cbv;(try dsimp only [nc] at *);(try simp only [wl,nc]);(repeat' (with_reducible apply And.intro));all_goals (try exact wZ)))))));(all_goals (try ((with_reducible rw [aC]);(try simp only [wl,nc]);(repeat' (with_reducible apply And.intro));(all_goals (try exact cZ))))))
  all_goals (try (
    obtain ⟨m,hm⟩:∃ m,p.1=m+1:=⟨p.1 - 1,by omega⟩
    have hR':=hst m hm (And.right ‹_∧p.2.2.2.e=0›)
    rw [if_pos ‹¬ w.e=0›] at hR'
    rw [hR']
    first
      | done
      | exact fun i _=>LeL.of_eq rfl))
  all_goals (try (
    have hR':R=(p.2.2.1,p.2.2.2):=by rw [i5];exact fieldsR_err _ _ _ _ (by omega)
    rw [hR']
    first
      | done
      | exact fun i _=>LeL.of_eq rfl))
  all_goals
    obtain ⟨m,hm⟩:∃ m,p.1=m+1:=⟨p.1 - 1,by omega⟩
    have hR':=hst m hm (And.right ‹_∧p.2.2.2.e=0›)
    rw [if_neg (fun z=>z ‹w.e=0›)] at hR'
    refine dE (m,k,X.1,X.2) ⟨⟨by show m≤n;omega,hpg.1.good,by show X.2.s=r.s;rw [hpg.1.s,s3,i3],hXl,hR'⟩,by show m<p.1;omega⟩ ?_
    (focus (cbv;(try dsimp only [nc] at *);(try simp only [wl,nc]);(repeat' (with_reducible apply And.intro));all_goals (try exact wZ)))
    show IntKind.i64.wrap ((p.1:Int) - 1)=(m:Int)
    rw [w64 (by omega) (by omega)];omega
def ownF (c:Nat) (l:FL):AO:=.arr false 73 7 0 (fun _=>l.length) (fF c .any fun _=>l)
theorem IndexF_o (e d c:Nat) (y:TF) (fn:FuncId) (p:ByteArray×V→Bool) (l:FL) (hl:l.length≤1073741824)
    (hc:∀ x ∈ l,Af Tryz.prog fn [.agg (rowF c x),.ptr 1001 0] [(1001,.box (cF e d .any fun _=>y))] (.bool fun _=>p x) [(1001,.box (cF e d .any fun _=>y))]) :
    Af Tryz.prog 172 [.aref 1000 0 fun _=>l.length,.func fn [.ptr capP 0]] [(1000,ownF c l),(capP,.box (cF e d .any fun _=>y))] (.int .i64 fun _=>iI p l) [(1000,ownF c l),(capP,.box (cF e d .any fun _=>y))]:=by
  (apply Af.of tF mF [.tmp 4] kp172 [] Tryz.func172 (fun _=>?_);(any_goals ((with_reducible refine wI ?_);cbv;(try dsimp only [nc] at *);(repeat' (with_reducible first|exact aO|exact oN|refine oC ?_ ?_|refine VC.mk rfl ?_ ?_ ?_|(apply Ca.mk<;>intro _)|(apply Cv.mk<;>intro zq<;>(try simp only [nc,cl] at zq)<;>(try simp only [bl,dl] at zq)<;>(revert zq;intro _))|((first|apply xE|apply uE);cbv;(try dsimp only [nc] at *)))))))
  ((all_goals (try (with_reducible ((first|refine rE ?_|refine nE ?_);(focus (cbv;(try dsimp only [nc] at *);(try simp only [wl,nc]);(repeat' (with_reducible apply And.intro));all_goals (try exact wZ)))))));(all_goals (try ((with_reducible rw [aC]);(try simp only [wl,nc]);(repeat' (with_reducible apply And.intro));(all_goals (try exact cZ))))))
  refine .loop (fun i:Nat=>⟨19,[(8,.int .i64 fun _=>i),(7,.int .i64 fun _=>l.length),(1,.func fn [.ptr capP 0]),(0,.aref 1000 0 fun _=>l.length)],[(1000,ownF c l),(capP,.box (cF e d .any fun _=>y))]⟩)
    (fun i=>i≤l.length∧∀ j,j<i→p (l.getD j default)=false) (fun i=>l.length - i) 0 (by simp) ?_ fun i E hi=>?_
  · (focus (cbv;(try dsimp only [nc] at *);(try simp only [wl,nc]);(repeat' (with_reducible apply And.intro));all_goals (try exact wZ)))
  apply AWp.wk tF mF [(4,[(5,.bool (fun _=>?_),[(1001,.box (cF e d .any fun _=>y))])])] kp172 ?_
  (any_goals ((with_reducible refine wI ?_);cbv;(try dsimp only [nc] at *);(repeat' (with_reducible first|exact aO|exact oN|refine oC ?_ ?_|refine VC.mk rfl ?_ ?_ ?_|(apply Ca.mk<;>intro _)|(apply Cv.mk<;>intro zq<;>(try simp only [nc,cl] at zq)<;>(try simp only [bl,dl] at zq)<;>(revert zq;intro _))|((first|apply xE|apply uE);cbv;(try dsimp only [nc] at *))))))
  (any_goals ((with_reducible refine bZ ?_)<;>exact (hc _ (getD_mem ‹_›))))
  ((all_goals (try (with_reducible ((first|refine rE ?_|refine nE ?_);(focus (cbv;(try dsimp only [nc] at *);(try simp only [wl,nc]);(repeat' (with_reducible apply And.intro));all_goals (try exact wZ)))))));(all_goals (try ((with_reducible rw [aC]);(try simp only [wl,nc]);(repeat' (with_reducible apply And.intro));(all_goals (try exact cZ))))))
  · exact (idxI_at ‹_› ‹_› hi.2).symm
  · refine dE (i+1) ⟨⟨by omega,fun j hj=>?_⟩,by omega⟩ ?_
    · rcases Nat.lt_succ_iff_lt_or_eq.1 hj with hj|rfl
      · exact hi.2 j hj
      · assumption
    · (focus (cbv;(try dsimp only [nc] at *);(try simp only [wl,nc]);(repeat' (with_reducible apply And.intro));all_goals (try exact wZ)))
      exact w64n (by omega)
  · exact (idxI_none fun j hj=>hi.2 j (by omega)).symm
theorem rec2_ok (e d c:Nat) (x:ByteArray×V) (y:TF):Af Tryz.prog 145 [.agg (rowF c x),.ptr 1001 0] [(1001,.box (cF e d .any fun _=>y))] (.bool fun _=>decide (x.1=fM y)) [(1001,.box (cF e d .any fun _=>y))]:=by
  (apply Af.of tF mF [.tmp 3] kp145 [] Tryz.func145 (fun _=>?_);(any_goals ((with_reducible refine wI ?_);cbv;(try dsimp only [nc] at *);(repeat' (with_reducible first|exact aO|exact oN|refine oC ?_ ?_|refine VC.mk rfl ?_ ?_ ?_|(apply Ca.mk<;>intro _)|(apply Cv.mk<;>intro zq<;>(try simp only [nc,cl] at zq)<;>(try simp only [bl,dl] at zq)<;>(revert zq;intro _))|((first|apply xE|apply uE);cbv;(try dsimp only [nc] at *)))))))
  (all_goals (try exact eZ))
theorem hasN_ok (e d c:Nat) (y:TF) (l:FL) (hl:l.length≤1073741824) :
    Af Tryz.prog 144 [.aref 1000 0 fun _=>l.length,.func 145 [.ptr capP 0]] [(1000,ownF c l),(capP,.box (cF e d .any fun _=>y))] (.bool fun _=>hasN (fM y) l) [(1000,ownF c l),(capP,.box (cF e d .any fun _=>y))]:=by
  (apply Af.of tF mF [.tmp 4] kp144 [(1,[(2,.int .i64 (fun _=>?_),[(1000,ownF c l),(capP,.box (cF e d .any fun _=>y))])])] Tryz.func144 (fun _=>?_);(any_goals ((with_reducible refine wI ?_);cbv;(try dsimp only [nc] at *);(repeat' (with_reducible first|exact aO|exact oN|refine oC ?_ ?_|refine VC.mk rfl ?_ ?_ ?_|(apply Ca.mk<;>intro _)|(apply Cv.mk<;>intro zq<;>(try simp only [nc,cl] at zq)<;>(try simp only [bl,dl] at zq)<;>(revert zq;intro _))|((first|apply xE|apply uE);cbv;(try dsimp only [nc] at *)))))))
  (any_goals ((with_reducible refine bZ ?_)<;>exact (IndexF_o e d c y 145 (fun x=>decide (x.1=fM y)) l hl fun x _=>rec2_ok e d c x y)))
  ((all_goals (try (with_reducible ((first|refine rE ?_|refine nE ?_);(focus (cbv;(try dsimp only [nc] at *);(try simp only [wl,nc]);(repeat' (with_reducible apply And.intro));all_goals (try exact wZ)))))));(all_goals (try ((with_reducible rw [aC]);(try simp only [wl,nc]);(repeat' (with_reducible apply And.intro));(all_goals (try exact cZ))))))
  exact idxI_any
theorem LeL.trans {a b c:List AV} (h:LeL a b) (k:LeL b c):LeL a c:=by
  refine ⟨h.1.trans k.1,fun z=>k.2.1 (h.2.1 z),fun w D B j av av' v h1 h2 hv=>?_⟩
  have hlt:j<b.length:=by rw [← h.1];exact (List.getElem?_eq_some_iff.1 h1).1
  exact k.2.2 w D B j _ av' v (List.getElem?_eq_getElem hlt) h2 (h.2.2 w D B j av _ v h1 (List.getElem?_eq_getElem hlt) hv)
theorem cells_mono {d:Nat} {v:V} (h:V.le d v):∀ {c:Nat},d≤c→LeL (cells d .any fun _=>v) (cells c .any fun _=>v)
  | 0, hc => by have:d=0:=by omega
                subst this;exact LeL.of_eq rfl
  | c+1,hc=>by
    by_cases q:d=c+1
    · subst q;exact LeL.of_eq rfl
    · exact (cells_mono h (c:=c) (by omega)).trans (cells_up c (fun _=>v) (V.le_mono h (by omega)))
theorem new_mono {d c:Nat} {v:V} (h:V.le d v) (hc:d≤c):LeL (cells d .new fun _=>v) (cells c .any fun _=>v):=(le_cells d _).trans (cells_mono h hc)
theorem LeL.cons {l m:List AV} (h:LeL l m) (a:AV):LeL (a :: l) (a :: m):=by
  refine ⟨by simp [h.1],fun z=>?_,fun w D B j av av' v h1 h2 hv=>?_⟩
  · simp only [List.all_cons,Bool.and_eq_true] at z ⊢
    exact ⟨z.1,h.2.1 z.2⟩
  · cases j with
    | zero=>simp at h1 h2;subst h1;subst h2;exact hv
    | succ j=>exact h.2.2 w D B j av av' v (by simpa using h1) (by simpa using h2) hv
theorem clone_up {e c:Nat} {z:V} (hz:V.le e z) (hc:e≤c):Af Tryz.prog 142 [encV e .any fun _=>z] [] (encV c .any fun _=>z) []:=by
  obtain ⟨e,rfl⟩:=V.lP hz
  obtain ⟨c,rfl⟩:∃ k,c=k+1:=⟨c - 1,by omega⟩
  refine (Clone_ok _ z hz).weak_out ?_
  (focus (cbv;(try dsimp only [nc] at *);(try simp only [wl,nc]);(repeat' (with_reducible apply And.intro));all_goals (try exact wZ)))
  · exact fun i hi=>new_mono (V.le_list hz hi) (by omega)
  · exact fun i hi=>(new_mono (V.le_field hz hi) (by omega)).cons _
theorem readRec_ok (e d c:Nat) (t:Ty) (ht:Ty.le e (d+1) t) (hk:t.kind=9) (hto:ownT t=0) (hec:e≤c) (r:Rd) (h:r.few)
    (hle:∀ x ∈ (fieldsF (dV d) t r).1,x.1.size≤1073741824∧V.le c x.2) (hlen:(fieldsF (dV d) t r).1.length≤536870912) (hg:(fieldsF (dV d) t r).2.good) (hc:0<c)
    (hR:∀ (num:Int) (p:Rd),p.good→p.s=r.s→0≤iI (bY num) t.fields→Af Tryz.prog 61 [.ptr 1000 0,encT e d .any fun _=>fT (gT t (bY num))] [(1000,Rd.box fun _=>p)] (encV c .any fun _=>(dV d (fT (gT t (bY num))) p).1) [(1000,Rd.box fun _=>(dV d (fT (gT t (bY num))) p).2)]) :
    Af Tryz.prog 117 [.ptr 1000 0,encT e (d+1) .any fun _=>t] [(1000,Rd.box fun _=>r)] (encV (c+1) .any fun _=>(recR (dV d) t r).1) [(1000,Rd.box fun _=>(recR (dV d) t r).2)]:=by
  have hFl:=fieldsRec_ok e d c t ht (.inl hk) r h.1 h.2 hR
  obtain ⟨F,hF⟩:∃ F,F=fieldsF (dV d) t r:=⟨_,rfl⟩
  have h64:=ownT_len hto (.inl hk)
  obtain ⟨Y,hY⟩:∃ Y,Y=defsR t.fields F.1 F.2:=⟨_,rfl⟩
  have hRe:recR (dV d) t r=(recV Y.1,Y.2):=by rw [hY,hF];rfl
  rw [hRe]
  rw [← hF] at hFl hle hlen hg
  have hm:=defsR_mem (p:=fun x=>x.1.size≤1073741824∧V.le c x.2) t.fields F.1 F.2 (fun f hf _=>def_le ht hf c hec hc) hle
  rw [← hY] at hm
  have hRc:=Record_ok c Y.1 (by omega) hm.1
  have hYl:Y.1.length≤1073741824:=by omega
  clear hF hRe hR
  have hfl:=ht.2.2.2.1
  (apply Af.of tF mF [.cell 4 30] kp117 [(2,[(2,.tup [],[(1000,Rd.box fun _=>F.2),(1001001000,.box (cl' e (d+1) .any fun _=>t)),(1001001001,.box [.aref 200 1 fun _=>F.1.length]),(200,.arr false 73 7 1 (fun _=>F.1.length) (fF c .any fun _=>F.1))])]),(13,[(1,encV (c+1) .new fun _=>recV Y.1,[(1000,ownF c Y.1)])])] Tryz.func117 (fun _=>?_);(any_goals ((with_reducible refine wI ?_);cbv;(try dsimp only [nc] at *);(repeat' (with_reducible first|exact aO|exact oN|refine oC ?_ ?_|refine VC.mk rfl ?_ ?_ ?_|(apply Ca.mk<;>intro _)|(apply Cv.mk<;>intro zq<;>(try simp only [nc,cl] at zq)<;>(try simp only [bl,dl] at zq)<;>(revert zq;intro _))|((first|apply xE|apply uE);cbv;(try dsimp only [nc] at *)))))))
  (any_goals ((with_reducible refine bZ ?_);(try dsimp only);(have q:=hFl;refine Af.wN q ?_;clear q);(focus (cbv;(try dsimp only [nc] at *);(try simp only [wl,nc]);(repeat' (with_reducible apply And.intro));all_goals (try exact wZ)))))
  ((all_goals (try (with_reducible ((first|refine rE ?_|refine nE ?_);(focus (cbv;(try dsimp only [nc] at *);(try simp only [wl,nc]);(repeat' (with_reducible apply And.intro));all_goals (try exact wZ)))))));(all_goals (try ((with_reducible rw [aC]);(try simp only [wl,nc]);(repeat' (with_reducible apply And.intro));(all_goals (try exact cZ))))))
  refine .loop (fun p:Nat×FL×Rd=>⟨49,[(14,.int .i64 fun _=>p.1),(13,.int .i64 fun _=>t.fields.length),(12,slcTF e d .any fun _=>t.fields),(5,.ptr 5 0),(4,.ptr 4 0),(0,.ptr 1000 0)],
      [(1000,Rd.box fun _=>p.2.2),(4,.box (cells 1 .any fun _=>default)),(5,.box [.aref 110200 1 fun _=>p.2.1.length]),(110200,.arr false 73 7 1 (fun _=>p.2.1.length) (fF c .any fun _=>p.2.1))]⟩)
    (fun p=>p.1≤t.fields.length∧p.2.2.good∧p.2.1.length≤F.1.length+p.1∧Y=defsR (t.fields.drop p.1) p.2.1 p.2.2) (fun p=>t.fields.length - p.1) (0,F.1,F.2) ⟨Nat.zero_le _,hg,Nat.le_refl _,by rw [hY,List.drop_zero]⟩ ?_ fun p E hi=>?_
  · (focus (cbv;(try dsimp only [nc] at *);(try simp only [wl,nc]);(repeat' (with_reducible apply And.intro));all_goals (try exact wZ)))
    all_goals rfl
  obtain ⟨i1,i2,i3,i4⟩:=hi
  by_cases hlt:p.1<t.fields.length
  · obtain ⟨f,hf⟩:∃ f,f=t.fields.getD p.1 default:=⟨_,rfl⟩
    have hfm:f ∈ t.fields:=by rw [hf];exact gD hlt
    have hdr:t.fields.drop p.1=f :: t.fields.drop (p.1+1):=by
      rw [List.drop_eq_getElem_cons hlt,hf];simp [List.getD,hlt]
    rw [hdr,defsR] at i4
    have hN:=hasN_ok e d c f p.2.1 (by omega)
    have hFa:=fail_ok p.2.2 p.2.2.pos 19
    have hfg:=fail_good i2 p.2.2.pos 19
    have hde:=ht.2.2.2.2.2 f hfm
    obtain ⟨z,hz⟩:∃ z,z=(fDef f).getD 0 default:=⟨_,rfl⟩
    have hd3:fN f=3→0<(fDef f).length:=ownT_def hto hk hfm
    have hzl:fN f=3→V.le e z:=fun q=>by rw [hz];exact hde.2.2.1 _ (gD (hd3 q))
    have hCl:fN f=3→Af Tryz.prog 142 [encV e .any fun _=>z] [] (encV c .any fun _=>z) []:=fun q=>clone_up (hzl q) hec
    rw [← hz] at i4
    have hff:cF e d .any (fun _=>t.fields.getD p.1 default)=cF e d .any fun _=>f:=by rw [hf]
    apply AWp.wk tF mF [(6,[(2,.bool fun _=>hasN (fM f) p.2.1,[(1000,ownF c p.2.1),(capP,.box (cF e d .any fun _=>f))])]),(9,[(5,.tup [],[(1000,Rd.box fun _=>p.2.2.fail p.2.2.pos 19)])]),(11,[(7,encV c .any fun _=>z,[])])] kp117 ?_
    have h00:Int.toNat 0=0:=rfl
    (any_goals ((with_reducible refine wI ?_);cbv;(try dsimp only [nc] at *);(repeat' (with_reducible first|exact aO|exact oN|refine oC ?_ ?_|refine VC.mk rfl ?_ ?_ ?_|(apply Ca.mk<;>intro _)|(apply Cv.mk<;>intro zq<;>(try simp only [nc,cl] at zq)<;>(try simp only [bl,dl] at zq)<;>(revert zq;intro _))|((first|apply xE|apply uE);cbv;(try dsimp only [nc] at *))))))
    all_goals (try exact absurd hlt (Nat.not_lt.2 ‹t.fields.length≤p.1›))
    all_goals (try (have hq3:=hd3 ‹fN f=3›))
    all_goals (try simp only [Int.toNat_natCast,h00,← hf,← hz])
    (any_goals ((with_reducible refine bZ ?_)<;>exact hN))
    (any_goals ((with_reducible refine bZ ?_)<;>exact hFa))
    any_goals (with_reducible refine nO ?_)<;>exact hCl ‹fN f=3›
    ((all_goals (try (with_reducible ((first|refine rE ?_|refine nE ?_);(focus (cbv;(try dsimp only [nc] at *);(try simp only [wl,nc]);(repeat' (with_reducible apply And.intro));all_goals (try exact wZ)))))));(all_goals (try ((with_reducible rw [aC]);(try simp only [wl,nc]);(repeat' (with_reducible apply And.intro));(all_goals (try exact cZ))))))
    · rw [if_pos ‹hasN (fM f) p.2.1=true›] at i4
      refine dE (p.1+1,p.2.1,p.2.2) ⟨⟨by show p.1+1≤_;omega,i2,by show p.2.1.length≤F.1.length+(p.1+1);omega,i4⟩,by show t.fields.length - (p.1+1)<_;omega⟩ ?_
      (focus (cbv;(try dsimp only [nc] at *);(try simp only [wl,nc]);(repeat' (with_reducible apply And.intro));all_goals (try exact wZ)))
      exact w64n (by omega)
    · rw [if_neg (by rw [‹hasN (fM f) p.2.1=false›];simp),if_pos ‹fN f=1›] at i4
      refine dE (p.1+1,p.2.1,p.2.2.fail p.2.2.pos 19) ⟨⟨by show p.1+1≤_;omega,hfg.1,by show p.2.1.length≤F.1.length+(p.1+1);omega,i4⟩,by show t.fields.length - (p.1+1)<_;omega⟩ ?_
      (focus (cbv;(try dsimp only [nc] at *);(try simp only [wl,nc]);(repeat' (with_reducible apply And.intro));all_goals (try exact wZ)))
      exact w64n (by omega)
    · rw [if_neg (by rw [‹hasN (fM f) p.2.1=false›];simp),if_neg ‹¬ fN f=1›,if_pos ‹fN f=3›] at i4
      refine dE (p.1+1,p.2.1++[(fM f,z)],p.2.2) ⟨⟨by show p.1+1≤_;omega,i2,by show (p.2.1++[_]).length≤F.1.length+(p.1+1);rw [List.length_append];simp only [List.length_cons,List.length_nil];omega,i4⟩,by show t.fields.length - (p.1+1)<_;omega⟩ ?_
      (focus (cbv;(try dsimp only [nc] at *);(try simp only [wl,nc]);(repeat' (with_reducible apply And.intro));all_goals (try exact wZ)))
      · exact w64n (by omega)
      all_goals first
        | (simp;done)
        | exact fldF_upd
    · rw [if_neg (by rw [‹hasN (fM f) p.2.1=false›];simp),if_neg ‹¬ fN f=1›,if_neg ‹¬ fN f=3›] at i4
      refine dE (p.1+1,p.2.1,p.2.2) ⟨⟨by show p.1+1≤_;omega,i2,by show p.2.1.length≤F.1.length+(p.1+1);omega,i4⟩,by show t.fields.length - (p.1+1)<_;omega⟩ ?_
      (focus (cbv;(try dsimp only [nc] at *);(try simp only [wl,nc]);(repeat' (with_reducible apply And.intro));all_goals (try exact wZ)))
      exact w64n (by omega)
  · have hp:p.1=t.fields.length:=by omega
    have hdn:t.fields.drop p.1=[]:=List.drop_eq_nil_iff.2 (by omega)
    rw [hdn,defsR] at i4
    have h1:p.2.1=Y.1:=by rw [i4]
    have h2:p.2.2=Y.2:=by rw [i4]
    apply AWp.wk tF mF [] kp117 ?_
    (any_goals ((with_reducible refine wI ?_);cbv;(try dsimp only [nc] at *);(repeat' (with_reducible first|exact aO|exact oN|refine oC ?_ ?_|refine VC.mk rfl ?_ ?_ ?_|(apply Ca.mk<;>intro _)|(apply Cv.mk<;>intro zq<;>(try simp only [nc,cl] at zq)<;>(try simp only [bl,dl] at zq)<;>(revert zq;intro _))|((first|apply xE|apply uE);cbv;(try dsimp only [nc] at *))))))
    all_goals (try exact absurd ‹p.1<t.fields.length› hlt)
    · refine nO ?_
      dsimp only
      rw [h1]
      refine hRc.borrow ?_ (by simp [AV.pureL,slcF]) (fun av h=>?_) (pure_cells _ _ _) (fresh_encV _ _)
      · (focus (cbv;(try dsimp only [nc] at *);(try simp only [wl,nc]);(repeat' (with_reducible apply And.intro));all_goals (try exact wZ)))
      · simp at h;subst h
        exact .slc fun i _ av h=>by
          rcases List.mem_cons.1 h with rfl|h
          · exact .str _
          · exact nf_cells _ _ av h
    ((all_goals (try (with_reducible ((first|refine rE ?_|refine nE ?_);(focus (cbv;(try dsimp only [nc] at *);(try simp only [wl,nc]);(repeat' (with_reducible apply And.intro));all_goals (try exact wZ)))))));(all_goals (try ((with_reducible rw [aC]);(try simp only [wl,nc]);(repeat' (with_reducible apply And.intro));(all_goals (try exact cZ))))))
    all_goals first
      | (rw [h2];done)
      | exact fun i _=>le_cells _ _
      | exact fun i _=>(le_cells _ _).cons _
end Go.Ai
