/- Chapter 10: the reference's Read and Decode. -/
import Derived.Test.YtlplmdipoacnlaaGreatDoorRfB
import Derived.Test.YtlplmdipoacnlaaGreatDoorEncC
import Derived.Test.YtlplmdipoacnlaaGreatDoorRdC
set_option linter.all false
namespace Go.Ai
open Go Go.Proofs
set_option maxRecDepth 100000
set_option maxHeartbeats 4000000
theorem refRead_step (e d c:Nat) (t:Ty) (ht:Ty.le e (d+1) t) (hto:ownT t=0) (s:ByteArray) (p:Int) (hs:s.size≤536870912) (h0:0≤p) (h1:p≤s.size)
    (hacc:∀ (i:Int) (u:ByteArray),u.size≤536870912→Af Tryz.prog 19 [encT e (d+1) .any fun _=>t,encV 1 .any fun _=>v0 t i u []] [] (.bool fun _=>accV 1 (d+1) t (v0 t i u [])) [])
    (hR:t.kind=8→∀ q:Int,0≤q→q≤s.size→Af Tryz.prog 58 [encT e d .any fun _=>t.elem.getD 0 default,.str fun _=>s,.int .i64 fun _=>q] []
      (.tup [encV c .any fun _=>(rdV d (t.elem.getD 0 default) s q).1,.int .i64 fun _=>(rdV d (t.elem.getD 0 default) s q).2.1,.int .i64 fun _=>(rdV d (t.elem.getD 0 default) s q).2.2.1,.int .i64 fun _=>(rdV d (t.elem.getD 0 default) s q).2.2.2]) [])
    (hg:t.kind=8→∀ q:Int,0≤q→q≤s.size→(rdV d (t.elem.getD 0 default) s q).2.2.2=0→q<(rdV d (t.elem.getD 0 default) s q).2.1∧(rdV d (t.elem.getD 0 default) s q).2.1≤s.size)
    (hP:t.kind=10→∀ (num q:Int),0≤iI (bY num) t.fields→0≤q→q≤s.size→Af Tryz.prog 77 [encT e d .any fun _=>fT (gT t (bY num)),.str fun _=>s,.int .i64 fun _=>q] []
      (.tup [encV c .any fun _=>(rdP (rdV d (fT (gT t (bY num)))) s q).1,.int .i64 fun _=>(rdP (rdV d (fT (gT t (bY num)))) s q).2.1,.int .i64 fun _=>(rdP (rdV d (fT (gT t (bY num)))) s q).2.2.1,.int .i64 fun _=>(rdP (rdV d (fT (gT t (bY num)))) s q).2.2.2]) [])
    (hZ:t.kind=9→∀ (n:Nat) (q:Int),n≤4611686018427387903→0≤q→q≤s.size→Af Tryz.prog 78 [encT e (d+1) .any fun _=>t,.str fun _=>s,.int .i64 fun _=>q,.int .i64 fun _=>n] []
      (.tup [encV (c+1) .any fun _=>(rdR t (rdV d) s n q).1,.int .i64 fun _=>(rdR t (rdV d) s n q).2.1,.int .i64 fun _=>(rdR t (rdV d) s n q).2.2.1,.int .i64 fun _=>(rdR t (rdV d) s n q).2.2.2]) []) :
    Af Tryz.prog 58 [encT e (d+1) .any fun _=>t,.str fun _=>s,.int .i64 fun _=>p] []
      (.tup [encV (c+1) .any fun _=>(rdV (d+1) t s p).1,.int .i64 fun _=>(rdV (d+1) t s p).2.1,.int .i64 fun _=>(rdV (d+1) t s p).2.2.1,.int .i64 fun _=>(rdV (d+1) t s p).2.2.2]) []:=by
  have hA:=refTake_ok s p h0 h1 (by omega)
  have hAg:=refTakeV_good (s:=s) (a:=p) h0 h1 (by omega)
  obtain ⟨R,hRe⟩:∃ R,R=rdV (d+1) t s p:=⟨_,rfl⟩
  rw [← hRe]
  rw [rdV] at hRe
  obtain ⟨A,hAe⟩:∃ A,A=tV s p:=⟨_,rfl⟩
  rw [← hAe] at hA hAg hRe
  clear hAe
  have hU:A.2.2.2=0→Af Tryz.prog 27 [.int .i64 fun _=>A.1] [] (.int .i64 fun _=>unzigI A.1) []:=fun z=>refUnzigzag_ok A.1 (by have:=hAg z;unfold numBad;omega)
  have hN:Af Tryz.prog 76 [encT e (d+1) .any fun _=>t,.int .i64 fun _=>A.1] [] (.int .i64 fun _=>iI (bY A.1) t.fields) []:=refNumber_ok e d t ht A.1
  have hPc:=fun (k:t.kind=10) (z:A.2.2.2=0) (q:0≤iI (bY A.1) t.fields)=>hP k A.1 A.2.1 q (by have:=hAg z;omega) (hAg z).2.1
  have hZc:t.kind=9→A.2.2.2=0→Af Tryz.prog 78 [encT e (d+1) .any fun _=>t,.str fun _=>s,.int .i64 fun _=>A.2.1,.int .i64 fun _=>A.1] []
      (.tup [encV (c+1) .any fun _=>(rdR t (rdV d) s A.1.toNat A.2.1).1,.int .i64 fun _=>(rdR t (rdV d) s A.1.toNat A.2.1).2.1,.int .i64 fun _=>(rdR t (rdV d) s A.1.toNat A.2.1).2.2.1,.int .i64 fun _=>(rdR t (rdV d) s A.1.toNat A.2.1).2.2.2]) []:=fun k z=>by
    have h2:=hAg z
    have:=hZ k A.1.toNat A.2.1 (by omega) (by omega) (by omega)
    rwa [Int.toNat_of_nonneg h2.2.2.1] at this
  obtain ⟨f,hf⟩:∃ f,f=gT t (bY A.1):=⟨_,rfl⟩
  rw [← hf] at hPc hRe
  obtain ⟨P,hPe⟩:∃ P,P=rdP (rdV d (fT f)) s A.2.1:=⟨_,rfl⟩
  rw [← hPe] at hPc hRe
  have hil:=idxI_lt (p:=bY A.1) (l:=t.fields)
  have hf':t.fields.getD (iI (bY A.1) t.fields).toNat default=f:=hf.symm
  obtain ⟨I,hI⟩:∃ I,I=iI (bY A.1) t.fields:=⟨_,rfl⟩
  rw [← hI] at hN hPc hil hf' hRe
  obtain ⟨Z,hZe⟩:∃ Z,Z=rdR t (rdV d) s A.1.toNat A.2.1:=⟨_,rfl⟩
  rw [← hZe] at hZc hRe
  obtain ⟨L,hL⟩:∃ L,L=rfL (rdV d (t.elem.getD 0 default) s) A.1.toNat [] A.2.1:=⟨_,rfl⟩
  rw [← hL] at hRe
  obtain ⟨W,hW⟩:∃ W,W=if t.kind=4∨t.kind=5 then v0 t 0 (s.extract A.2.1.toNat (A.2.1+A.1).toNat) [] else v0 t (unzigI A.1) ⟨#[]⟩ []:=⟨_,rfl⟩
  obtain ⟨a,ha⟩:∃ a,a=accV 1 (d+1) t W:=⟨_,rfl⟩
  have hel:=fun q:t.kind=8=>ownT_elem hto q
  have hmm:=fun q:t.kind=8=>ownT_min hto q
  have hmx:=fun q:t.kind=8=>ownT_max hto q
  have hbw:IntKind.i64.wrap ((s.data[p.toNat]?.getD 0).toNat:Int)=((s.data[p.toNat]?.getD 0).toNat:Int):=by
    have:(s.data[p.toNat]?.getD 0).toNat<256:=UInt8.toNat_lt _
    exact w64 (by omega) (by omega)
  have hpw:p<s.size→IntKind.i64.wrap (p+1)=p+1:=fun z=>w64 (by omega) (by omega)
  clear hPe hI hf hP hZ hZe
  (apply Af.of tF mF [.cell 6 30,.tmp 7,.tmp 8,.tmp 9] kp58 [(10,[(2,.tup [.int .i64 fun _=>A.1,.int .i64 fun _=>A.2.1,.int .i64 fun _=>A.2.2.1,.int .i64 fun _=>A.2.2.2],[])]),
    (33,[(2,.int .i64 fun _=>I,[])]),(36,[(8,.tup [encV c .any fun _=>P.1,.int .i64 fun _=>P.2.1,.int .i64 fun _=>P.2.2.1,.int .i64 fun _=>P.2.2.2],[])]),(14,[(1,.int .i64 fun _=>unzigI A.1,[])]),(41,[(2,.bool fun _=>a,[])]),
    (40,[(4,.tup [encV (c+1) .any fun _=>Z.1,.int .i64 fun _=>Z.2.1,.int .i64 fun _=>Z.2.2.1,.int .i64 fun _=>Z.2.2.2],[])])] Tryz.func58 (fun _=>?_);(any_goals ((with_reducible refine wI ?_);cbv;(try dsimp only [nc] at *);(repeat' (with_reducible first|exact aO|exact oN|refine oC ?_ ?_|refine VC.mk rfl ?_ ?_ ?_|(apply Ca.mk<;>intro _)|(apply Cv.mk<;>intro zq<;>(try simp only [nc,cl] at zq)<;>(try simp only [bl,dl] at zq)<;>(revert zq;intro _))|((first|apply xE|apply uE);cbv;(try dsimp only [nc] at *)))))))
  all_goals (try (exfalso;omega))
  all_goals (try simp only [hf'])
  (any_goals ((with_reducible refine bZ ?_)<;>exact hA))
  all_goals (try (
    have hg1:=hAg ‹A.2.2.2=0›
    have hw1:IntKind.i64.wrap ((s.size:Int) - A.2.1)=(s.size:Int) - A.2.1:=w64 (by omega) (by omega)
    have hw2:IntKind.i64.wrap (A.2.1+A.1)=A.2.1+A.1:=w64 (by omega) (by omega)
    simp only [hw1,hw2] at *))
  any_goals (with_reducible refine nO ?_)<;>first
    | exact hU ‹A.2.2.2=0›
    | (refine Af.wN hN ?_;(focus (cbv;(try dsimp only [nc] at *);(try simp only [wl,nc]);(repeat' (with_reducible apply And.intro));all_goals (try exact wZ)));done)
    | (refine Af.wN (hPc ‹t.kind=10› ‹A.2.2.2=0› (by omega)) ?_;(focus (cbv;(try dsimp only [nc] at *);(try simp only [wl,nc]);(repeat' (with_reducible apply And.intro));all_goals (try exact wZ)));done)
    | (refine Af.wN (hZc ‹t.kind=9› ‹A.2.2.2=0›) ?_;(focus (cbv;(try dsimp only [nc] at *);(try simp only [wl,nc]);(repeat' (with_reducible apply And.intro));all_goals (try exact wZ)));done)
    | (have q:W=v0 t 0 (s.extract A.2.1.toNat (A.2.1+A.1).toNat) []:=by rw [hW,if_pos (by omega)]
       have hx:=hacc 0 (s.extract A.2.1.toNat (A.2.1+A.1).toNat) (by rw [ByteArray.size_extract];omega)
       rw [show accV 1 (d+1) t (v0 t 0 (s.extract A.2.1.toNat (A.2.1+A.1).toNat) [])=a by rw [ha,q]] at hx
       refine Af.wN hx ?_
       (focus (cbv;(try dsimp only [nc] at *);(try simp only [wl,nc]);(repeat' (with_reducible apply And.intro));all_goals (try exact wZ)))
       done)
    | (have q:W=v0 t (unzigI A.1) ⟨#[]⟩ []:=by rw [hW,if_neg (by omega)]
       have hx:=hacc (unzigI A.1) ⟨#[]⟩ (Nat.zero_le _)
       rw [show accV 1 (d+1) t (v0 t (unzigI A.1) ⟨#[]⟩ [])=a by rw [ha,q]] at hx
       refine Af.wN hx ?_
       (focus (cbv;(try dsimp only [nc] at *);(try simp only [wl,nc]);(repeat' (with_reducible apply And.intro));all_goals (try exact wZ)))
       done)
  ((all_goals (try (with_reducible ((first|refine rE ?_|refine nE ?_);(focus (cbv;(try dsimp only [nc] at *);(try simp only [wl,nc]);(repeat' (with_reducible apply And.intro));all_goals (try exact wZ)))))));(all_goals (try ((with_reducible rw [aC]);(try simp only [wl,nc]);(repeat' (with_reducible apply And.intro));(all_goals (try exact cZ))))))
  all_goals first
    | (have q:R=(v0 t 0 ⟨#[]⟩ [],0,(s.size:Int),29):=by rw [hRe,if_pos ‹t.kind=1›,if_pos ‹(s.size:Int)≤p›]
       first
         | (rw [q];done)
         | (rw [q];rfl)
         | (rw [q];exact fun i hi=>absurd hi (Nat.not_lt_zero i))
         | (rw [q];exact fun _ _=>LeL.of_eq rfl))
    | (have q:R=(v0 t 0 ⟨#[]⟩ [],0,p,3):=by rw [hRe,if_pos ‹t.kind=1›,if_neg (show ¬ (s.size:Int)≤p by omega),if_pos ‹1<byt s p.toNat›]
       first
         | (rw [q];done)
         | (rw [q];rfl)
         | (rw [q];exact fun i hi=>absurd hi (Nat.not_lt_zero i))
         | (rw [q];exact fun _ _=>LeL.of_eq rfl))
    | (have hb1:¬ 1<byt s p.toNat:=by
         first
           | omega
           | exact fun z=>absurd (show (1:Int)<((s.data[p.toNat]?.getD 0).toNat:Int) from z) (by omega)
       have q:R=(v0 t (byt s p.toNat) ⟨#[]⟩ [],p+1,0,0):=by rw [hRe,if_pos ‹t.kind=1›,if_neg (show ¬ (s.size:Int)≤p by omega),if_neg hb1]
       first
         | (rw [q];done)
         | (rw [q];rfl)
         | (rw [q];exact hpw (by omega))
         | (rw [q];exact hbw)
         | (rw [q];exact fun i hi=>absurd hi (Nat.not_lt_zero i))
         | (rw [q];exact fun _ _=>LeL.of_eq rfl))
    | (have q:R=(v0 t 0 ⟨#[]⟩ [],0,A.2.2.1,A.2.2.2):=by rw [hRe,if_neg ‹¬ t.kind=1›,if_pos ‹¬ A.2.2.2=0›]
       first
         | (rw [q];done)
         | (rw [q];rfl)
         | (rw [q];exact fun i hi=>absurd hi (Nat.not_lt_zero i))
         | (rw [q];exact fun _ _=>LeL.of_eq rfl))
    | (have q:R=(v0 t 0 ⟨#[]⟩ [],0,(s.size:Int),29):=by rw [hRe,if_neg (show ¬ t.kind=1 by omega),if_neg (fun z=>z ‹A.2.2.2=0›),if_pos (show t.kind=4∨t.kind=5 by omega),if_pos ‹(s.size:Int) - A.2.1<A.1›]
       first
         | (rw [q];done)
         | (rw [q];rfl)
         | (rw [q];exact fun i hi=>absurd hi (Nat.not_lt_zero i))
         | (rw [q];exact fun _ _=>LeL.of_eq rfl))
    | (have q:R=(v0 t 0 (s.extract A.2.1.toNat (A.2.1+A.1).toNat) [],0,p,18):=by rw [hRe,if_neg (show ¬ t.kind=1 by omega),if_neg (fun z=>z ‹A.2.2.2=0›),if_pos (show t.kind=4∨t.kind=5 by omega),if_neg (show ¬ (s.size:Int) - A.2.1<A.1 by omega),accR,if_pos (by rw [← ‹a=false›,ha,hW,if_pos (show t.kind=4∨t.kind=5 by omega)])]
       first
         | (rw [q];done)
         | (rw [q];rfl)
         | (rw [q];exact fun i hi=>absurd hi (Nat.not_lt_zero i))
         | (rw [q];exact fun _ _=>LeL.of_eq rfl))
    | (have q:R=(v0 t 0 (s.extract A.2.1.toNat (A.2.1+A.1).toNat) [],A.2.1+A.1,0,0):=by rw [hRe,if_neg (show ¬ t.kind=1 by omega),if_neg (fun z=>z ‹A.2.2.2=0›),if_pos (show t.kind=4∨t.kind=5 by omega),if_neg (show ¬ (s.size:Int) - A.2.1<A.1 by omega),accR,if_neg (fun z=>by rw [hW,if_pos (show t.kind=4∨t.kind=5 by omega),z] at ha;rw [ha] at *;contradiction)]
       first
         | (rw [q];done)
         | (rw [q];rfl)
         | (rw [q];exact fun i hi=>absurd hi (Nat.not_lt_zero i))
         | (rw [q];exact fun _ _=>LeL.of_eq rfl))
    | (have q:R=(v0 t 0 ⟨#[]⟩ [],0,p,18):=by rw [hRe,if_neg (show ¬ t.kind=1 by omega),if_neg (fun z=>z ‹A.2.2.2=0›),if_neg (show ¬ (t.kind=4∨t.kind=5) by omega),if_pos ‹t.kind=8›,if_pos (show A.1<t.min∨t.max<A.1 by omega)]
       first
         | (rw [q];done)
         | (rw [q];rfl)
         | (rw [q];exact fun i hi=>absurd hi (Nat.not_lt_zero i))
         | (rw [q];exact fun _ _=>LeL.of_eq rfl))
    | (have q:R=(v0 t 0 ⟨#[]⟩ [],0,p,21):=by rw [hRe,if_neg (show ¬ t.kind=1 by omega),if_neg (fun z=>z ‹A.2.2.2=0›),if_neg (show ¬ (t.kind=4∨t.kind=5) by omega),if_neg (show ¬ t.kind=8 by omega),if_pos ‹t.kind=10›,if_pos ‹I<0›]
       first
         | (rw [q];done)
         | (rw [q];rfl)
         | (rw [q];exact fun i hi=>absurd hi (Nat.not_lt_zero i))
         | (rw [q];exact fun _ _=>LeL.of_eq rfl))
    | (have q:R=(v0 t 0 (fM f) [P.1],P.2):=by rw [hRe,if_neg (show ¬ t.kind=1 by omega),if_neg (fun z=>z ‹A.2.2.2=0›),if_neg (show ¬ (t.kind=4∨t.kind=5) by omega),if_neg (show ¬ t.kind=8 by omega),if_pos ‹t.kind=10›,if_neg (show ¬ I<0 by omega)]
       first
         | (rw [q];done)
         | (rw [q];rfl)
         | (rw [q];exact fun i hi=>absurd hi (Nat.not_lt_zero i))
         | (rw [q]; exact fun i hi => by obtain rfl:i=0:=by omega
                                         exact LeL.of_eq rfl))
    | (have q:R=Z:=by rw [hRe,if_neg (show ¬ t.kind=1 by omega),if_neg (fun z=>z ‹A.2.2.2=0›),if_neg (show ¬ (t.kind=4∨t.kind=5) by omega),if_neg (show ¬ t.kind=8 by omega),if_neg (show ¬ t.kind=10 by omega),if_pos ‹t.kind=9›]
       first
         | (rw [q];done)
         | (rw [q];rfl)
         | (rw [q];exact fun i hi=>absurd hi (Nat.not_lt_zero i))
         | (rw [q];exact fun _ _=>LeL.of_eq rfl))
    | (have q:R=(v0 t (unzigI A.1) ⟨#[]⟩ [],0,p,18):=by rw [hRe,if_neg (show ¬ t.kind=1 by omega),if_neg (fun z=>z ‹A.2.2.2=0›),if_neg (show ¬ (t.kind=4∨t.kind=5) by omega),if_neg (show ¬ t.kind=8 by omega),if_neg (show ¬ t.kind=10 by omega),if_neg (show ¬ t.kind=9 by omega),accR,if_pos (by rw [← ‹a=false›,ha,hW,if_neg (show ¬ (t.kind=4∨t.kind=5) by omega)])]
       first
         | (rw [q];done)
         | (rw [q];rfl)
         | (rw [q];exact fun i hi=>absurd hi (Nat.not_lt_zero i))
         | (rw [q];exact fun _ _=>LeL.of_eq rfl))
    | (have q:R=(v0 t (unzigI A.1) ⟨#[]⟩ [],A.2.1,0,0):=by rw [hRe,if_neg (show ¬ t.kind=1 by omega),if_neg (fun z=>z ‹A.2.2.2=0›),if_neg (show ¬ (t.kind=4∨t.kind=5) by omega),if_neg (show ¬ t.kind=8 by omega),if_neg (show ¬ t.kind=10 by omega),if_neg (show ¬ t.kind=9 by omega),accR,if_neg (fun z=>by rw [hW,if_neg (show ¬ (t.kind=4∨t.kind=5) by omega),z] at ha;rw [ha] at *;contradiction)]
       first
         | (rw [q];done)
         | (rw [q];rfl)
         | (rw [q];exact fun i hi=>absurd hi (Nat.not_lt_zero i))
         | (rw [q];exact fun _ _=>LeL.of_eq rfl))
    | skip
  have h8:=‹t.kind=8›
  have hz:=‹A.2.2.2=0›
  have hg1:=hAg hz
  have hRL:R=(v0 t 0 ⟨#[]⟩ L.1,L.2):=by rw [hRe,if_neg (show ¬ t.kind=1 by omega),if_neg (fun z=>z hz),if_neg (show ¬ (t.kind=4∨t.kind=5) by omega),if_pos h8,if_neg (by omega)]
  obtain ⟨n,hn⟩:∃ n:Nat,A.1=n:=⟨A.1.toNat,by omega⟩
  have hR8:=hR h8
  have hg8:=hg h8
  have he1:=hel h8
  obtain ⟨x,hx⟩:∃ x,x=t.elem.getD 0 default:=⟨_,rfl⟩
  rw [← hx] at hR8 hg8 hL
  rw [hn,Int.toNat_natCast] at hL
  refine .loop (fun q:Nat×List V×Int=>⟨191,[(11,.int .i64 fun _=>q.1),(7,.int .i64 fun _=>q.2.2),(6,.ptr 6 0),(3,boxT e (d+1) fun _=>t),(10,.int .i64 fun _=>A.1),(1,.str fun _=>s)],
      [(6,.box [.int .i64 fun _=>t.kind,.int .i64 fun _=>0,.int .i64 fun _=>t.scale,.str fun _=>⟨#[]⟩,.aref 130 0 fun _=>q.2.1.length,.nil]),(130,.arr false 30 6 0 (fun _=>q.2.1.length) (listF c .any fun _=>q.2.1))]⟩)
    (fun q=>q.1≤n∧(0≤q.2.2∧q.2.2≤s.size)∧(q.2.1.length:Int)≤q.2.2∧L=rfL (rdV d x s) (n - q.1) q.2.1 q.2.2) (fun q=>n - q.1) (0,[],A.2.1) ⟨Nat.zero_le _,by show 0≤A.2.1∧A.2.1≤(s.size:Int);omega,by show ((([]:List V).length:Nat):Int)≤A.2.1;rw [List.length_nil];omega,hL⟩ ?_ fun q E hi=>?_
  · (focus (cbv;(try dsimp only [nc] at *);(try simp only [wl,nc]);(repeat' (with_reducible apply And.intro));all_goals (try exact wZ)))
    all_goals rfl
  obtain ⟨i1,i2,i3,i4⟩:=hi
  by_cases h:q.1<n
  · obtain ⟨m,hm⟩:∃ m,n - q.1=m+1:=⟨n - q.1 - 1,by omega⟩
    have hC:=hR8 q.2.2 i2.1 i2.2
    have hCg:=hg8 q.2.2 i2.1 i2.2
    rw [hm,rfL] at i4
    obtain ⟨X,hX⟩:∃ X,X=rdV d x s q.2.2:=⟨_,rfl⟩
    rw [← hX] at hC hCg i4
    apply AWp.wk tF mF [(27,[(6,.tup [encV c .any fun _=>X.1,.int .i64 fun _=>X.2.1,.int .i64 fun _=>X.2.2.1,.int .i64 fun _=>X.2.2.2],[])])] kp58 ?_
    have h00:Int.toNat 0=0:=rfl
    (any_goals ((with_reducible refine wI ?_);cbv;(try dsimp only [nc] at *);(repeat' (with_reducible first|exact aO|exact oN|refine oC ?_ ?_|refine VC.mk rfl ?_ ?_ ?_|(apply Ca.mk<;>intro _)|(apply Cv.mk<;>intro zq<;>(try simp only [nc,cl] at zq)<;>(try simp only [bl,dl] at zq)<;>(revert zq;intro _))|((first|apply xE|apply uE);cbv;(try dsimp only [nc] at *))))))
    all_goals (try (exfalso;omega))
    all_goals (try simp only [h00,← hx])
    (any_goals ((with_reducible refine bZ ?_);(try dsimp only);(have q:=hC;refine Af.wN q ?_;clear q);(focus (cbv;(try dsimp only [nc] at *);(try simp only [wl,nc]);(repeat' (with_reducible apply And.intro));all_goals (try exact wZ)))))
    ((all_goals (try (with_reducible ((first|refine rE ?_|refine nE ?_);(focus (cbv;(try dsimp only [nc] at *);(try simp only [wl,nc]);(repeat' (with_reducible apply And.intro));all_goals (try exact wZ)))))));(all_goals (try ((with_reducible rw [aC]);(try simp only [wl,nc]);(repeat' (with_reducible apply And.intro));(all_goals (try exact cZ))))))
    all_goals first
      | (have q2:R=(v0 t 0 ⟨#[]⟩ q.2.1,0,X.2.2.1,X.2.2.2):=by rw [hRL,i4,if_pos ‹¬ X.2.2.2=0›]
         first
           | (rw [q2];done)
           | (rw [q2];rfl)
           | (rw [q2];exact fun _ _=>LeL.of_eq rfl))
      | (have hX1:=hCg ‹X.2.2.2=0›
         rw [if_neg (fun z=>z ‹X.2.2.2=0›)] at i4
         refine dE (q.1+1,q.2.1++[X.1],X.2.1) ⟨⟨by show q.1+1≤n;omega,by show 0≤X.2.1∧X.2.1≤s.size;omega,by show ((q.2.1++[X.1]).length:Int)≤X.2.1;rw [List.length_append];simp only [List.length_cons,List.length_nil];omega,by show L=rfL (rdV d x s) (n - (q.1+1)) (q.2.1++[X.1]) X.2.1;rw [i4,show n - (q.1+1)=m by omega]⟩,by show n - (q.1+1)<n - q.1;omega⟩ ?_
         (focus (cbv;(try dsimp only [nc] at *);(try simp only [wl,nc]);(repeat' (with_reducible apply And.intro));all_goals (try exact wZ)))
         · exact w64n (by omega)
         all_goals first
           | (simp;done)
           | exact listV_app)
  · rw [show n - q.1=0 by omega,rfL] at i4
    have q2:R=(v0 t 0 ⟨#[]⟩ q.2.1,q.2.2,0,0):=by rw [hRL,i4]
    apply AWp.wk tF mF [(27,[(6,.any,[])])] kp58 ?_
    (any_goals ((with_reducible refine wI ?_);cbv;(try dsimp only [nc] at *);(repeat' (with_reducible first|exact aO|exact oN|refine oC ?_ ?_|refine VC.mk rfl ?_ ?_ ?_|(apply Ca.mk<;>intro _)|(apply Cv.mk<;>intro zq<;>(try simp only [nc,cl] at zq)<;>(try simp only [bl,dl] at zq)<;>(revert zq;intro _))|((first|apply xE|apply uE);cbv;(try dsimp only [nc] at *))))))
    all_goals (try (exfalso;omega))
    ((all_goals (try (with_reducible ((first|refine rE ?_|refine nE ?_);(focus (cbv;(try dsimp only [nc] at *);(try simp only [wl,nc]);(repeat' (with_reducible apply And.intro));all_goals (try exact wZ)))))));(all_goals (try ((with_reducible rw [aC]);(try simp only [wl,nc]);(repeat' (with_reducible apply And.intro));(all_goals (try exact cZ))))))
    all_goals first
      | (rw [q2];done)
      | (rw [q2];rfl)
      | (rw [q2];exact fun _ _=>LeL.of_eq rfl)
theorem refRead_ok (e:Nat) (he:0<e):∀ (d:Nat) (t:Ty) (s:ByteArray) (p:Int),Ty.chk e d t→s.size≤536870912→0≤p→p≤s.size →
    Af Tryz.prog 58 [encT e d .any fun _=>t,.str fun _=>s,.int .i64 fun _=>p] []
      (.tup [encV (d+e) .any fun _=>(rdV d t s p).1,.int .i64 fun _=>(rdV d t s p).2.1,.int .i64 fun _=>(rdV d t s p).2.2.1,.int .i64 fun _=>(rdV d t s p).2.2.2]) []
  | 0,_,_,_,h,_,_,_=>h.elim
  | d + 1,t,s,p,hck,hs,h0,h1=>by
    obtain ⟨ht,hto,hch,hp⟩:=hck
    have hgt:∀ q,0≤iI q t.fields→gT t q ∈ t.fields:=fun q w=>getTF_mem w
    have hpf:∀ f ∈ t.fields,t.kind=9∨t.kind=10→fT f ∈ pS t:=fun f hf hk=>by
      simp only [pS];rw [if_neg (by omega),if_pos hk];exact List.mem_map_of_mem hf
    have hel:t.kind=8→t.elem.getD 0 default ∈ pS t:=fun h8=>by
      simp only [pS];rw [if_pos h8];exact gD (by have:=ownT_elem hto.1 h8;omega)
    have hx:∀ x ∈ pS t,Ty.chk e d x:=hp
    have hle:∀ x ∈ pS t,Ty.le e d x∧Ty.ok e d x:=fun x hm=>by
      have:=hx x hm
      cases d with
      | zero=>exact this.elim
      | succ d=>exact ⟨this.1,this.2.1⟩
    have hpart:t.kind=9∨t.kind=10→∀ (num q:Int),0≤iI (bY num) t.fields→0≤q→q≤s.size→Af Tryz.prog 77 [encT e d .any fun _=>fT (gT t (bY num)),.str fun _=>s,.int .i64 fun _=>q] []
        (.tup [encV (d+e) .any fun _=>(rdP (rdV d (fT (gT t (bY num)))) s q).1,.int .i64 fun _=>(rdP (rdV d (fT (gT t (bY num)))) s q).2.1,.int .i64 fun _=>(rdP (rdV d (fT (gT t (bY num)))) s q).2.2.1,.int .i64 fun _=>(rdP (rdV d (fT (gT t (bY num)))) s q).2.2.2]) []:=fun hk num q hi q0 q1 =>
      refPart_ok e d (d+e) _ (hle _ (hpf _ (hgt _ hi) hk)).1 s q (by omega) q0 q1 _ fun u w u1 u2 u3=>refRead_ok e he d _ u w (hx _ (hpf _ (hgt _ hi) hk)) (by omega) u2 u3
    have hgood:t.kind=9∨t.kind=10→∀ (num q:Int),0≤iI (bY num) t.fields→0≤q→q≤s.size→V.le (d+e) (rdP (rdV d (fT (gT t (bY num)))) s q).1 ∧
        ((rdP (rdV d (fT (gT t (bY num)))) s q).2.2.2=0→q<(rdP (rdV d (fT (gT t (bY num)))) s q).2.1∧(rdP (rdV d (fT (gT t (bY num)))) s q).2.1≤s.size):=fun hk num q hi q0 q1=>by
      have hl:=hle _ (hpf _ (hgt _ hi) hk)
      obtain ⟨b,hb⟩:=Ty.lP hl.1
      exact rdP_good (Q:=V.le (d+e)) hs (by rw [show d+e=(b+e)+1 by omega];exact default_le _) (fun u w u1 u2 u3=>rdV_good e d _ u w hl.1 hl.2 (by omega) u2 u3) q q0 q1
    rw [show d+1+e=d+e+1 by omega]
    refine refRead_step e d (d+e) t ht hto.1 s p hs h0 h1 (fun i u hu=>?_) (fun h8 q q0 q1=>refRead_ok e he d _ s q (hx _ (hel h8)) hs q0 q1) (fun h8 q q0 q1=>(rdV_good e d _ s q (hle _ (hel h8)).1 (hle _ (hel h8)).2 hs q0 q1).2) (fun hk=>hpart (.inr hk)) fun hk n q hn q0 q1=>?_
    · exact refAccepts_ok e (d+1) 1 t _ ht hto (v0_le (by omega) (Nat.zero_le _) fun _ w=>(by cases w)) (by decide) (by simp [sV,kz,v0,V.list,V.fields])
    · exact refRec78_ok e d (d+e) t ht hk hto.1 (by omega) (by omega) s hs q q0 q1 n hn (rdV d) (fun num w hi w0 w1 hz=>⟨((hgood (.inl hk) num w hi w0 w1).2 hz).1,((hgood (.inl hk) num w hi w0 w1).2 hz).2,(hgood (.inl hk) num w hi w0 w1).1⟩) (hpart (.inl hk))
def rdecV (e d:Nat) (t:Ty) (s:ByteArray):V×Int×Int :=
  if chkT e d t≠0 then (default,0,chkT e d t) else
  if (rdV d t s 0).2.2.2≠0 then (default,(rdV d t s 0).2.2.1,(rdV d t s 0).2.2.2) else
  if (rdV d t s 0).2.1<s.size then (default,(rdV d t s 0).2.1,5) else
  if 4096<sV (d+e) (rdV d t s 0).1 then (default,0,9) else ((rdV d t s 0).1,0,0)
theorem refDecode_ok (e d:Nat) (t:Ty) (he:e+1≤1073741824) (ht:Ty.le (e+1) d t) (hsz:Ty.sz (e+1) d t) (s:ByteArray) (hs:s.size≤536870912)
    (hz:chkT (e+1) d t=0→(rdV d t s 0).2.2.2=0→sV (d+(e+1)) (rdV d t s 0).1≤4611686018427387904) :
    Af Tryz.prog 30 [encT (e+1) d .any fun _=>t,.str fun _=>s] [] (.tup [encV (d+(e+1)) .any fun _=>(rdecV (e+1) d t s).1,.int .i64 fun _=>(rdecV (e+1) d t s).2.1,.int .i64 fun _=>(rdecV (e+1) d t s).2.2]) []:=by
  have hC:=refCheckT_ok e d t he ht hsz
  have hR:=fun z:chkT (e+1) d t=0=>refRead_ok (e+1) (Nat.succ_pos _) d t s 0 (Ty.chk_of (e+1) d t ht z) hs (by decide) (by omega)
  have hle:=fun z:chkT (e+1) d t=0=>(rdV_good (e+1) d t s 0 ht (chkT_ok ht z) hs (by decide) (by omega)).1
  obtain ⟨D,hD⟩:∃ D,D=rdecV (e+1) d t s:=⟨_,rfl⟩
  obtain ⟨K,hK⟩:∃ K,K=chkT (e+1) d t:=⟨_,rfl⟩
  obtain ⟨X,hX⟩:∃ X,X=rdV d t s 0:=⟨_,rfl⟩
  have hDe:D=if K≠0 then (default,0,K) else if X.2.2.2≠0 then (default,X.2.2.1,X.2.2.2) else if X.2.1<s.size then (default,X.2.1,5) else if 4096<sV (d+(e+1)) X.1 then (default,0,9) else (X.1,0,0):=by rw [hD,hK,hX];rfl
  rw [← hD]
  rw [← hK] at hC hR hle hz
  rw [← hX] at hR hle hz
  obtain ⟨N,hN⟩:∃ N,N=sV (d+(e+1)) X.1:=⟨_,rfl⟩
  have hSz:K=0→X.2.2.2=0→Af Tryz.prog 59 [encV (d+(e+1)) .any fun _=>X.1] [] (.int .i64 fun _=>N) []:=fun z z2=>by
    rw [hN];exact refSize_ok (d+(e+1)) X.1 (hle z) (hz z z2)
  rw [← hN] at hDe
  clear hD hK hX hN hz hle
  obtain ⟨c,hc⟩:∃ c,d+(e+1)=c+1:=⟨d+e,by omega⟩
  rw [hc] at hR hSz ⊢
  clear hc he
  obtain ⟨d,rfl⟩:=Ty.lP ht
  (apply Af.of tF mF [.cell 4 30,.tmp 5,.tmp 6] kp30 [(1,[(1,.int .i64 fun _=>K,[])]),(4,[(2,.tup [encV (c+1) .any fun _=>X.1,.int .i64 fun _=>X.2.1,.int .i64 fun _=>X.2.2.1,.int .i64 fun _=>X.2.2.2],[])]),(9,[(1,.int .i64 fun _=>N,[])])] Tryz.func30 (fun _=>?_);(any_goals ((with_reducible refine wI ?_);cbv;(try dsimp only [nc] at *);(repeat' (with_reducible first|exact aO|exact oN|refine oC ?_ ?_|refine VC.mk rfl ?_ ?_ ?_|(apply Ca.mk<;>intro _)|(apply Cv.mk<;>intro zq<;>(try simp only [nc,cl] at zq)<;>(try simp only [bl,dl] at zq)<;>(revert zq;intro _))|((first|apply xE|apply uE);cbv;(try dsimp only [nc] at *)))))))
  (any_goals ((with_reducible refine bZ ?_)<;>exact hC))
  any_goals (with_reducible refine nO ?_)<;>first
    | exact hR ‹K=0›
    | (refine Af.wN (hR ‹K=0›) ?_;(focus (cbv;(try dsimp only [nc] at *);(try simp only [wl,nc]);(repeat' (with_reducible apply And.intro));all_goals (try exact wZ)));done)
    | exact hSz ‹K=0› ‹X.2.2.2=0›
  ((all_goals (try (with_reducible ((first|refine rE ?_|refine nE ?_);(focus (cbv;(try dsimp only [nc] at *);(try simp only [wl,nc]);(repeat' (with_reducible apply And.intro));all_goals (try exact wZ)))))));(all_goals (try ((with_reducible rw [aC]);(try simp only [wl,nc]);(repeat' (with_reducible apply And.intro));(all_goals (try exact cZ))))))
  all_goals first
    | (have q:D=(default,0,K):=by rw [hDe,if_pos ‹¬ K=0›]
       first
         | (rw [q];done)
         | (rw [q];rfl)
         | (rw [q];exact fun i hi=>absurd hi (Nat.not_lt_zero i)))
    | (have q:D=(default,X.2.2.1,X.2.2.2):=by rw [hDe,if_neg (fun z=>z ‹K=0›),if_pos ‹¬ X.2.2.2=0›]
       first
         | (rw [q];done)
         | (rw [q];rfl)
         | (rw [q];exact fun i hi=>absurd hi (Nat.not_lt_zero i)))
    | (have q:D=(default,X.2.1,5):=by rw [hDe,if_neg (fun z=>z ‹K=0›),if_neg (fun z=>z ‹X.2.2.2=0›),if_pos ‹X.2.1<(s.size:Int)›]
       first
         | (rw [q];done)
         | (rw [q];rfl)
         | (rw [q];exact fun i hi=>absurd hi (Nat.not_lt_zero i)))
    | (have q:D=(default,0,9):=by rw [hDe,if_neg (fun z=>z ‹K=0›),if_neg (fun z=>z ‹X.2.2.2=0›),if_neg (by omega),if_pos (by omega)]
       first
         | (rw [q];done)
         | (rw [q];rfl)
         | (rw [q];exact fun i hi=>absurd hi (Nat.not_lt_zero i)))
    | (have q:D=(X.1,0,0):=by rw [hDe,if_neg (fun z=>z ‹K=0›),if_neg (fun z=>z ‹X.2.2.2=0›),if_neg (by omega),if_neg (by omega)]
       first
         | (rw [q];done)
         | (rw [q];rfl)
         | (rw [q];exact fun _ _=>LeL.of_eq rfl))
end Go.Ai
