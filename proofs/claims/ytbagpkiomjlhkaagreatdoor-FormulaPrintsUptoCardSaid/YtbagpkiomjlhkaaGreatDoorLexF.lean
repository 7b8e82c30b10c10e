/- Chapter 15: the tokens of a text: the walk. -/
import Derived.Test.YtbagpkiomjlhkaaGreatDoorLexE
import Derived.Test.YtbagpkiomjlhkaaGreatDoorLexA
set_option linter.all false
namespace Go.Ai
open Go Go.Proofs
set_option maxRecDepth 100000
set_option maxHeartbeats 4000000
abbrev ScI:=Nat×List Tok×Nat×(Int×Int)×Int×Nat
def scanI (s:ByteArray) (x:ScI):SS :=
 ⟨124,[(9,.int .i64 fun _=>x.2.2.2.2.1),(8,.int .i64 fun _=>(x.2.2.2.2.2:Int)),(4,.int .i64 fun _=>x.2.2.2.1.2),(3,.int .i64 fun _=>x.2.2.2.1.1),(7,.bref 29 5),(6,.ptr 18 0),(2,.aref 119 1 fun _=>x.2.1.length),(0,.str fun _=>s)],
  [(18,boxC s x.2.2.1 0 0),(29,.box [.bptr 103 18,.bptr 104 18,.bptr 105 18,.bptr 106 18,.bptr 107 18]),(119,.arr false 52 8 1 (fun _=>x.2.1.length) (akE fun _=>x.2.1))]⟩
theorem afA (l:List Tok) (t:Tok) (i:Nat) (hi:i<l.length+1):LeL (catF (fun _=>l.length) (akE fun _=>l) (aaL [acT fun _=>t]) fun _=>i) (akE (fun _=>l++[t]) fun _=>i):=by
 refine LeL.of_eq ?_
 have e:∀ a b:Tok,a=b→(acT fun _=>a)=acT fun _=>b:=fun a b h=>by rw [h]
 unfold catF
 by_cases q:i<l.length
 ·rw [if_pos q]
  refine e _ _ ?_
  show l.getD i default=(l++[t]).getD i default
  rw [List.getD_eq_getElem?_getD,List.getD_eq_getElem?_getD,List.getElem?_append_left q]
 ·rw [if_neg q]
  obtain rfl:i=l.length:=by omega
  have h1:(aaL [acT fun _=>t] fun _=>l.length - l.length)=acT fun _=>t:=by rw [Nat.sub_self];rfl
  refine h1.trans (e _ _ ?_)
  show t=(l++[t]).getD l.length default
  rw [List.getD_eq_getElem?_getD,List.getElem?_append_right (Nat.le_refl _),Nat.sub_self];rfl
theorem anw {s:ByteArray} {i:Nat} (h:byt s i≠0):i<s.size:=by
 rcases Nat.lt_or_ge i s.size with g|g
 ·exact g
 ·exact absurd (afa g) h
theorem digB_pos {c:Int} (h:digB c=true):c≠0:=by
 intro q
 rw [q] at h
 exact absurd h (by decide)
theorem tokV_le {dec:ByteArray→Int×Int×Int} {s:ByteArray} {i:Nat} {kd a sc e:Int} {x:ByteArray} {j:Nat} (h:tokV dec s i=some (kd,x,a,sc,j,e)) (hi:i<s.size):i<j∧j≤s.size:=by
 have wle:∀ (p:Int→Bool) (m:Nat),m<s.size→p (byt s m)=true→m<aag s p m∧aag s p m≤s.size:=fun p m hm hp=>by
  rw [abw ⟨hm,hp⟩]
  have:=abb (s:=s) (p:=p) (i:=m+1) (by omega)
  omega
 unfold tokV at h
 split at h
 ·rename_i hl
  simp only [Option.some.injEq,Prod.mk.injEq] at h
  obtain ⟨_,_,_,_,rfl,_⟩:=h
  exact wle adM i hi (by unfold adM;rw [hl];rfl)
 split at h
 ·rename_i hd
  have h1:=wle digB i hi hd
  dsimp only at h
  generalize aag s digB i=w at h h1
  have h2:∀ k,k=(if byt s w=46∧digB (byt s (w+1))=true then aag s digB (w+1) else w)→w≤k∧k≤s.size:=by
   intro k hk
   split at hk
   ·rename_i q
    have:=wle digB (w+1) (anw (digB_pos q.2)) q.2
    omega
   ·omega
  generalize hk:(if byt s w=46∧digB (byt s (w+1))=true then aag s digB (w+1) else w)=k at h
  have h3:=h2 k hk.symm
  have h4:∀ q,q=(if k=w∧byt s w=100∧adM (byt s (w+1))=false then w+1 else k)→w≤q∧q≤s.size:=by
   intro q hq
   split at hq
   ·rename_i g
    have:=anw (s:=s) (i:=w) (by rw [g.2.1];decide)
    omega
   ·omega
  generalize hq:(if k=w∧byt s w=100∧adM (byt s (w+1))=false then w+1 else k)=q at h
  have h5:=h4 q hq.symm
  split at h
  ·simp only [Option.some.injEq,Prod.mk.injEq] at h
   obtain ⟨_,_,_,_,rfl,_⟩:=h
   omega
  ·simp only [Option.some.injEq,Prod.mk.injEq] at h
   obtain ⟨_,_,_,_,rfl,_⟩:=h
   omega
 split at h
 ·rename_i hp
  simp only [Option.some.injEq,Prod.mk.injEq] at h
  obtain ⟨_,_,_,_,rfl,_⟩:=h
  have:byt s (i+1)≠0:=by
   intro q
   unfold amj at hp
   rw [q] at hp
   simp at hp
  have:=anw this
  omega
 split at h
 ·simp only [Option.some.injEq,Prod.mk.injEq] at h
  obtain ⟨_,_,_,_,rfl,_⟩:=h
  omega
 ·cases h
theorem byt_ext {s:ByteArray} {i j k:Nat} (h:k<j - i) (hj:j≤s.size):byt (s.extract i j) k=byt s (i+k):=by
 have h2:(s.extract i j).data[k]? = s.data[i+k]? := by
  rw [ByteArray.data_extract,Array.getElem?_extract,if_pos (by have:s.data.size=s.size:=rfl;omega)]
 unfold byt
 rw [h2]
theorem scan_ok {dec:ByteArray→Int×Int×Int} {s:ByteArray} (hp:PlainT dec s) (L:List Tok) (h:akB dec s=some L) :
 Af Tryz.prog 51 [.str fun _=>s] [] (.tup [slcK fun _=>L,.int .i64 fun _=>0,.int .i64 fun _=>0,.int .i64 fun _=>0]) []:=by
 have hs:=hp.size
 unfold akB at h
 rw [if_neg (by omega)] at h
 (apply Af.of tF mF [.tmp 2,.tmp 3,.tmp 4,.tmp 5] kp51 [] Tryz.func51 (fun _=>?_);(any_goals ((with_reducible refine wI ?_);cbv;(try dsimp only [nc] at *);(repeat' (with_reducible first|exact ‹False›.elim|exact nZ|refine oC ?_ ?_|refine VC.mk rfl ?_ ?_ ?_|(apply Ca.mk<;>intro _)|refine cV (fun _=>?_) fun _=>?_|((first|apply xE|apply uE);cbv;(try dsimp only [nc] at *)))))))
 all_goals (try (exact absurd ‹65536<(s.size:Int)› (by omega)))
 refine .loop (scanI s) (fun x=>scanL dec s x.1 x.2.1 x.2.2.2.2.2 x.2.2.1 x.2.2.2.1 x.2.2.2.2.1=some L∧(x.2.2.2.2.2≤x.2.2.1∧x.2.2.1≤s.size)∧(0≤x.2.2.2.1.1∧x.2.2.2.1.1≤1+(x.2.2.2.2.2:Int))∧(0≤x.2.2.2.1.2∧x.2.2.2.1.2≤1+(x.2.2.2.2.2:Int))∧x.2.1.length≤16384)
  (fun x=>x.1) (s.size+1,[],0,(1,1),-1,0) ⟨h,⟨Nat.le_refl _,Nat.zero_le _⟩,⟨(by decide:(0:Int)≤1),(by decide:(1:Int)≤1+((0:Nat):Int))⟩,⟨(by decide:(0:Int)≤1),(by decide:(1:Int)≤1+((0:Nat):Int))⟩,(by decide:0≤16384)⟩ ?_ fun x E hx=>?_
 ·unfold scanI
  (exact aZ)
 obtain ⟨n,l,i,p,last,f⟩:=x
 obtain ⟨g1,⟨gf,g2⟩,g3,g4,g5⟩:=hx
 dsimp only at g1 g2 g3 g4 g5 gf
 cases n with
 | zero=>cases g1
 | succ n =>
  simp only [scanL] at g1
  have hbl:=anB s i 0 0 (by omega) g2
  obtain ⟨b1,b2⟩:=afe (s:=s) (s.size - i) i g2
  have b1:i≤abH s i:=b1
  have b2:abH s i≤s.size:=b2
  obtain ⟨j,hj⟩:∃ j,j=abH s i:=⟨_,rfl⟩
  rw [← hj] at g1 hbl b1 b2
  have hX:(s.extract f j).size=j - f:=by rw [ByteArray.size_extract];omega
  have hXb:∀ k,k<(s.extract f j).size→byt (s.extract f j) k=byt s (f+k):=fun k hk=>byt_ext (by omega) b2
  obtain ⟨X,hX0⟩:∃ X,X=s.extract f j:=⟨_,rfl⟩
  rw [← hX0] at hX hXb
  by_cases q:s.size≤j
  ·rw [if_pos q] at g1
   have hL:L=l++[.mk 0 (posV s f j p).1 (posV s f j p).2 ⟨#[]⟩ ⟨#[]⟩ 0 0 false]:=(Option.some.inj g1).symm
   clear g1 h
   apply AWp.wk tF mF [(7,[(1,.tup [],[(1000,boxC s j 0 0)])])] kp51 ?_
   (any_goals ((with_reducible refine wI ?_);cbv;(try dsimp only [nc] at *);(repeat' (with_reducible first|exact ‹False›.elim|exact nZ|refine oC ?_ ?_|refine VC.mk rfl ?_ ?_ ?_|(apply Ca.mk<;>intro _)|refine cV (fun _=>?_) fun _=>?_|((first|apply xE|apply uE);cbv;(try dsimp only [nc] at *))))))
   any_goals ((with_reducible refine nO ?_);exact hbl)
   ((all_goals (try (with_reducible ((first|refine rE ?_|refine nE ?_);cbv;(try dsimp only [nc] at *);(try simp only [wl,nc]);(repeat' apply And.intro);all_goals (try exact wZ)))));(all_goals (try ((with_reducible rw [aC]);(try simp only [wl,nc]);(repeat' (with_reducible apply And.intro));(all_goals (try exact cZ))))))
   ·show (s.extract f j).size≤_
    rw [← hX0,hX];omega
   refine .loop (fun k:Nat=>⟨124,[(41,.int .i64 fun _=>(k:Int)),(40,.int .i64 fun _=>(X.size:Int)),(39,.slc .any 1 (fun _=>X.size) fun y=>[.int .u8 fun _=>byt X (y ())]),(9,.int .i64 fun _=>last),(4,.int .i64 fun _=>(posV s f (f+k) p).2),(3,.int .i64 fun _=>(posV s f (f+k) p).1),(7,.bref 29 5),(6,.ptr 18 0),(2,.aref 119 1 fun _=>l.length),(0,.str fun _=>s)],
    [(18,boxC s j 0 0),(29,.box [.bptr 103 18,.bptr 104 18,.bptr 105 18,.bptr 106 18,.bptr 107 18]),(119,.arr false 52 8 1 (fun _=>l.length) (akE fun _=>l))]⟩)
    (fun k=>k≤X.size) (fun k=>X.size - k) 0 (Nat.zero_le _) ?_ fun k E hk=>?_
   ·(focus (cbv;(try dsimp only [nc] at *);(try simp only [wl,nc]);(repeat' (with_reducible apply And.intro));all_goals (try exact wZ)))
    ·rw [hX0];rfl
    ·rw [hX0];rfl
    ·intro k hk
     rw [hX0];exact LeL.of_eq rfl
    ·exact (congrArg Prod.snd ado).symm
    ·exact (congrArg Prod.fst ado).symm
   have hv:=hXb k
   have hsn:=ahl (s:=s) (i:=f) (j:=f+k) (p:=p) (Nat.le_add_right _ _)
   have hle:=aiI (s:=s) (i:=f) (j:=f+k) (p:=p) (b:=1+(f:Int)) g3.1 g4.1 g3.2 g4.2 (by omega) (Nat.le_add_right _ _)
   apply AWp.wk tF mF [] kp51 ?_
   (any_goals ((with_reducible refine wI ?_);cbv;(try dsimp only [nc] at *);(repeat' (with_reducible first|exact ‹False›.elim|exact nZ|refine oC ?_ ?_|refine VC.mk rfl ?_ ?_ ?_|(apply Ca.mk<;>intro _)|refine cV (fun _=>?_) fun _=>?_|((first|apply xE|apply uE);cbv;(try dsimp only [nc] at *))))))
   all_goals (try (exact absurd ‹j<s.size› (by omega)))
   ((all_goals (try (with_reducible ((first|refine rE ?_|refine nE ?_);cbv;(try dsimp only [nc] at *);(try simp only [wl,nc]);(repeat' apply And.intro);all_goals (try exact wZ)))));(all_goals (try ((with_reducible rw [aC]);(try simp only [wl,nc]);(repeat' (with_reducible apply And.intro));(all_goals (try exact cZ))))))
   ·rename_i hk h10
    refine dE (k+1) ⟨by omega,by omega⟩ ?_
    rw [hv hk] at h10
    rw [if_pos h10] at hsn
    (focus (cbv;(try dsimp only [nc] at *);(try simp only [wl,nc]);(repeat' (with_reducible apply And.intro));all_goals (try exact wZ)))
    ·exact w64n (by omega)
    ·exact (congrArg Prod.snd hsn).symm
    ·refine Eq.trans (w64 (by omega) (by omega)) (congrArg Prod.fst hsn).symm
   ·rename_i hk h10
    refine dE (k+1) ⟨by omega,by omega⟩ ?_
    rw [hv hk] at h10
    rw [if_neg h10] at hsn
    (focus (cbv;(try dsimp only [nc] at *);(try simp only [wl,nc]);(repeat' (with_reducible apply And.intro));all_goals (try exact wZ)))
    ·exact w64n (by omega)
    ·refine Eq.trans (w64 (by omega) (by omega)) (congrArg Prod.snd hsn).symm
    ·exact (congrArg Prod.fst hsn).symm
   ·rw [hL];simp
   ·intro m hm
    have hkj:f+k=j:=by omega
    rw [hkj,hL];exact afA l (.mk 0 (posV s f j p).1 (posV s f j p).2 ⟨#[]⟩ ⟨#[]⟩ 0 0 false) m hm
  ·rw [if_neg q] at g1
   by_cases q2:l.length=16384
   ·rw [if_pos q2] at g1;cases g1
   rw [if_neg q2] at g1
   split at g1
   ·rename_i kd x a sc j' e htok
    by_cases q3:e=0
    ·rw [if_pos q3] at g1
     subst q3
     have htl:=tokV_le htok (by omega)
     obtain ⟨T,hT⟩:∃ T,T=Tok.mk kd (posV s f j p).1 (posV s f j p).2 x ⟨#[]⟩ a sc (decide ((j:Int)=last)):=⟨_,rfl⟩
     have hw:=way_tok hp (by omega:j<s.size) (posV s f j p).1 (posV s f j p).2 0 (decide ((j:Int)=last)) htok
     rw [← hT] at g1 hw
     clear h htok
     apply AWp.wk tF mF [(7,[(1,.tup [],[(1000,boxC s j 0 0)])]),(22,[(2,.bool fun _=>true,[(1000,.box ac6),(1001001000,boxK T),(1001000000,boxC s j' 0 0)])])] kp51 ?_
     (any_goals ((with_reducible refine wI ?_);cbv;(try dsimp only [nc] at *);(repeat' (with_reducible first|exact ‹False›.elim|exact nZ|refine oC ?_ ?_|refine VC.mk rfl ?_ ?_ ?_|(apply Ca.mk<;>intro _)|refine cV (fun _=>?_) fun _=>?_|((first|apply xE|apply uE);cbv;(try dsimp only [nc] at *))))))
     any_goals ((with_reducible refine nO ?_);exact hbl)
     ((all_goals (try (with_reducible ((first|refine rE ?_|refine nE ?_);cbv;(try dsimp only [nc] at *);(try simp only [wl,nc]);(repeat' apply And.intro);all_goals (try exact wZ)))));(all_goals (try ((with_reducible rw [aC]);(try simp only [wl,nc]);(repeat' (with_reducible apply And.intro));(all_goals (try exact cZ))))))
     ·show (s.extract f j).size≤_
      rw [← hX0,hX];omega
     refine .loop (fun k:Nat=>⟨124,[(41,.int .i64 fun _=>(k:Int)),(40,.int .i64 fun _=>(X.size:Int)),(39,.slc .any 1 (fun _=>X.size) fun y=>[.int .u8 fun _=>byt X (y ())]),(9,.int .i64 fun _=>last),(4,.int .i64 fun _=>(posV s f (f+k) p).2),(3,.int .i64 fun _=>(posV s f (f+k) p).1),(7,.bref 29 5),(6,.ptr 18 0),(2,.aref 119 1 fun _=>l.length),(0,.str fun _=>s)],
      [(18,boxC s j 0 0),(29,.box [.bptr 103 18,.bptr 104 18,.bptr 105 18,.bptr 106 18,.bptr 107 18]),(119,.arr false 52 8 1 (fun _=>l.length) (akE fun _=>l))]⟩)
      (fun k=>k≤X.size) (fun k=>X.size - k) 0 (Nat.zero_le _) ?_ fun k E hk=>?_
     ·(focus (cbv;(try dsimp only [nc] at *);(try simp only [wl,nc]);(repeat' (with_reducible apply And.intro));all_goals (try exact wZ)))
      ·rw [hX0];rfl
      ·rw [hX0];rfl
      ·intro k hk
       rw [hX0];exact LeL.of_eq rfl
      ·exact (congrArg Prod.snd ado).symm
      ·exact (congrArg Prod.fst ado).symm
     have hv:=hXb k
     have hsn:=ahl (s:=s) (i:=f) (j:=f+k) (p:=p) (Nat.le_add_right _ _)
     have hle:=aiI (s:=s) (i:=f) (j:=f+k) (p:=p) (b:=1+(f:Int)) g3.1 g4.1 g3.2 g4.2 (by omega) (Nat.le_add_right _ _)
     apply AWp.wk tF mF [] kp51 ?_
     (any_goals ((with_reducible refine wI ?_);cbv;(try dsimp only [nc] at *);(repeat' (with_reducible first|exact ‹False›.elim|exact nZ|refine oC ?_ ?_|refine VC.mk rfl ?_ ?_ ?_|(apply Ca.mk<;>intro _)|refine cV (fun _=>?_) fun _=>?_|((first|apply xE|apply uE);cbv;(try dsimp only [nc] at *))))))
     any_goals ((with_reducible refine nO ?_);rw [show f+k=j by omega];exact hw)
     all_goals (try (exact absurd ‹s.size≤j› (by omega)))
     all_goals (try (exact absurd ‹(l.length:Int)=16384› (by omega)))
     all_goals (try (exact absurd trivial ‹¬True›))
     ((all_goals (try (with_reducible ((first|refine rE ?_|refine nE ?_);cbv;(try dsimp only [nc] at *);(try simp only [wl,nc]);(repeat' apply And.intro);all_goals (try exact wZ)))));(all_goals (try ((with_reducible rw [aC]);(try simp only [wl,nc]);(repeat' (with_reducible apply And.intro));(all_goals (try exact cZ))))))
     ·rename_i hk h10
      refine dE (k+1) ⟨by omega,by omega⟩ ?_
      rw [hv hk] at h10
      rw [if_pos h10] at hsn
      (focus (cbv;(try dsimp only [nc] at *);(try simp only [wl,nc]);(repeat' (with_reducible apply And.intro));all_goals (try exact wZ)))
      ·exact w64n (by omega)
      ·exact (congrArg Prod.snd hsn).symm
      ·refine Eq.trans (w64 (by omega) (by omega)) (congrArg Prod.fst hsn).symm
     ·rename_i hk h10
      refine dE (k+1) ⟨by omega,by omega⟩ ?_
      rw [hv hk] at h10
      rw [if_neg h10] at hsn
      (focus (cbv;(try dsimp only [nc] at *);(try simp only [wl,nc]);(repeat' (with_reducible apply And.intro));all_goals (try exact wZ)))
      ·exact w64n (by omega)
      ·refine Eq.trans (w64 (by omega) (by omega)) (congrArg Prod.snd hsn).symm
      ·exact (congrArg Prod.fst hsn).symm
     ·have hp1:=aiI (s:=s) (i:=f) (j:=j) (p:=p) (b:=1+(f:Int)) g3.1 g4.1 g3.2 g4.2 (by omega) (by omega)
      have hp3:posV s f (f+k) p=posV s f j p:=by rw [show f+k=j by omega]
      refine dE (ι:=ScI) (μ:=fun x=>x.1) (i:=(n+1,l,i,p,last,f)) (I:=scanI s) (n,l++[T],j',posV s f j p,(j':Int),j) ?_ ?_
      ·refine ⟨⟨g1,⟨?_,?_⟩,⟨?_,?_⟩,⟨?_,?_⟩,?_⟩,?_⟩
       all_goals dsimp only
       all_goals (try omega)
       rw [List.length_append];show l.length+1≤_;omega
      unfold scanI
      (focus (cbv;(try dsimp only [nc] at *);(try simp only [wl,nc]);(repeat' (with_reducible apply And.intro));all_goals (try exact wZ)))
      ·rw [hp3]
      ·rw [hp3]
      ·rw [List.length_append];rfl
      ·rw [List.length_append];rfl
      ·rw [List.length_append];rfl
      ·exact fun m hm=>afA l T m hm
    ·rw [if_neg q3] at g1;cases g1
   ·cases g1
theorem new_ok {dec:ByteArray→Int×Int×Int} {s:ByteArray} (hp:PlainT dec s) (L:List Tok) (h:akB dec s=some L) :
 Af Tryz.prog 20 [.str fun _=>s] [] (.ptr 19 0) [(19,boxS fun _=>.mk L 0 0 0)]:=by
 have h1:=scan_ok hp L h
 (apply Af.of tF mF [.tmp 2] kp20 [(1,[(1,.tup [slcK fun _=>L,.int .i64 fun _=>0,.int .i64 fun _=>0,.int .i64 fun _=>0],[])])] Tryz.func20 (fun _=>?_);(any_goals ((with_reducible refine wI ?_);cbv;(try dsimp only [nc] at *);(repeat' (with_reducible first|exact ‹False›.elim|exact nZ|refine oC ?_ ?_|refine VC.mk rfl ?_ ?_ ?_|(apply Ca.mk<;>intro _)|refine cV (fun _=>?_) fun _=>?_|((first|apply xE|apply uE);cbv;(try dsimp only [nc] at *)))))))
 any_goals ((with_reducible refine nO ?_);exact h1)
 ((all_goals (try (with_reducible ((first|refine rE ?_|refine nE ?_);cbv;(try dsimp only [nc] at *);(try simp only [wl,nc]);(repeat' apply And.intro);all_goals (try exact wZ)))));(all_goals (try ((with_reducible rw [aC]);(try simp only [wl,nc]);(repeat' (with_reducible apply And.intro));(all_goals (try exact cZ))))))
 all_goals rfl
end Go.Ai
