/- TaggedSkips. -/
import Derived.Test.YtlplmdipoacnlaaGreatDoorSkpP
import Derived.Test.YtlplmdipoacnlaaGreatDoorReadT
import Derived.Test.YtlplmdipoacnlaaGreatDoorSkpA
set_option linter.all false
namespace Go.Ai
open Go Go.Proofs
set_option maxRecDepth 100000
set_option maxHeartbeats 4000000
def lessP (n:Int) (l:PL):PL:=l.filter fun b=>decide (b.1<n)
theorem lessP_take {n:Int} {l:PL} {i:Nat} (h:i<l.length):lessP n (l.take (i+1))=if (l.getD i default).1<n then lessP n (l.take i)++[l.getD i default] else lessP n (l.take i):=by
  have:l.getD i default=l[i]:=by simp [List.getD,h]
  rw [this,List.take_succ_eq_append_getElem h]
  unfold lessP
  rw [List.filter_append]
  by_cases q:l[i].1<n
  · rw [if_pos q,List.filter_cons_of_pos (by simpa using q)];rfl
  · rw [if_neg q,List.filter_cons_of_neg (by simpa using q)];simp
theorem rowsP_left {l m:PL} {k:Nat} (h:k<l.length):rowsP (fun _=>l) (fun _=>k)=rowsP (fun _=>l++m) fun _=>k:=by
  simp only [rowsP,List.getD_eq_getElem?_getD,List.getElem?_append_left h]
theorem rowsP_right {l m:PL} {k j:Nat} (h:j=l.length):rowsP (fun _=>m) (fun _=>k)=rowsP (fun _=>l++m) fun _=>j+k:=by
  subst h
  simp only [rowsP,List.getD_eq_getElem?_getD,List.getElem?_append_right (Nat.le_add_right _ _),Nat.add_sub_cancel_left]
theorem rowsP_drop {l:PL} {a k:Nat}:rowsP (fun _=>l) (fun _=>a+k)=rowsP (fun _=>l.drop a) fun _=>k:=by
  simp only [rowsP,List.getD_eq_getElem?_getD,List.getElem?_drop]
def ownP (l:PL):AO:=.arr false 60 2 0 (fun _=>l.length) (rowsP fun _=>l)
theorem nf_slcP (l:PL):NF (slcP fun _=>l):=.slc fun i _ av h=>by
  rcases List.mem_cons.1 h with rfl|h
  · exact .int _ _
  · rcases List.mem_cons.1 h with rfl|h
    · exact .str _
    · cases h
theorem Skips_ok (e d c:Nat) (t:Ty) (v:V) (n:Int) (b:ByteArray) (he:d+(e+1)≤1073741824) (hcM:c≤d+(e+1)) (ht:Ty.le (e+1) d t) (hz:Ty.sz (e+1) d t) (hv:V.le c v) (hc:c≤1073741824) (hs:sizeV c v≤1073741824) (hbs:b.size≤1048576) :
    Af Tryz.prog 12 [encT (e+1) d .any fun _=>t,encV c .any fun _=>v,.agg [.int .i64 fun _=>n,.str fun _=>b]] [] (.bool fun _=>true) []:=by
  have hS:=Small_ok (e+1) d t ht
  have hSV:=SmallValue_ok c v hv
  have hE:=Encode_ok e d c t v (by omega) ht hv hc
  have hCk:=refCheckT_ok e d t (by omega) ht hz
  obtain ⟨a,ha⟩:∃ a,a=(smallT (e+1) d 12 t 200).1:=⟨_,rfl⟩
  obtain ⟨g,hgg⟩:∃ b,b=(smallV c 12 v 300).1:=⟨_,rfl⟩
  obtain ⟨S,hSS⟩:∃ S,S=encS (e+1) d c t v:=⟨_,rfl⟩
  obtain ⟨X,hX⟩:∃ X,X=encE (e+1) d c t v:=⟨_,rfl⟩
  obtain ⟨K,hK⟩:∃ K,K=chkT (e+1) d t:=⟨_,rfl⟩
  obtain ⟨A,hA⟩:∃ A,A=accV c d t v:=⟨_,rfl⟩
  have hAc:K=0→Af Tryz.prog 19 [encT (e+1) d .any fun _=>t,encV c .any fun _=>v] [] (.bool fun _=>A) []:=fun h=>by
    rw [hA];exact refAccepts_ok (e+1) d c t v ht (chkT_ok ht (by rw [← hK];exact h)) hv hc hs
  obtain ⟨d,rfl⟩:=Ty.lP ht
  obtain ⟨c,rfl⟩:=V.lP hv
  obtain ⟨P,hP⟩:∃ P,P=valP d t v:=⟨_,rfl⟩
  obtain ⟨M,hM⟩:∃ M,M=insP P (n,b):=⟨_,rfl⟩
  obtain ⟨U,hU⟩:∃ U,U=baL (putN M.length++bytesP M):=⟨_,rfl⟩
  have key:K=0→A=true→t.kind=9→(1≤n∧n≤9999)→(∀ j,j<t.fields.length→fNum (t.fields.getD j default)≠n) →
      X = 0∧(S.size≤300→Af Tryz.prog 29 [.str fun _=>S] [] (.tup [slcP fun _=>P,.int .i64 fun _=>0,.int .i64 fun _=>0]) []∧P.length=v.fields.length∧P.length≤64 ∧
        Af Tryz.prog 31 [slcP fun _=>M] [] (.tup [.str fun _=>U,.int .i64 fun _=>0]) []∧S.size<U.size ∧
        Af Tryz.prog 33 [encT (e+1) (d+1) .any fun _=>t,.str fun _=>U] [] (.tup [encV (d+1+(e+1)) .any fun _=>v,.int .i64 fun _=>0,.int .i64 fun _=>0]) [] ∧
        Af Tryz.prog 32 [encT (e+1) (d+1) .any fun _=>t,.str fun _=>U] [] (.tup [slcI fun _=>[n],.int .i64 fun _=>0]) [] ∧
        Af Tryz.prog 32 [encT (e+1) (d+1) .any fun _=>t,.str fun _=>S] [] (.tup [slcI fun _=>[],.int .i64 fun _=>0]) []):=fun h1 h2 h3 h4 h5=>by
    have hck:chkT (e+1) (d+1) t=0:=by rw [← hK];exact h1
    have hto:=chkT_ok ht hck
    have hX0:X=0:=by rw [hX,encE,← hK,← hA,if_neg (by omega),if_neg (by rw [h2];simp)]
    have hSe:S=baL (encN (d+1) t v):=by rw [hSS,encS,← hX,if_pos hX0]
    rw [hA] at h2
    refine ⟨hX0,fun hs3=>?_⟩
    have hln:(encN (d+1) t v).length≤300:=by rw [hSe,bS] at hs3;exact hs3
    obtain ⟨s1,s2,s3,s4,s5,s6,s7,s8,s9,s10,s11,s12,s13⟩:=skip_facts (x:=(n,b)) hck hto h3 hv h2 h4 hbs (fun f hf q=>by
      obtain ⟨j,hj,rfl⟩:=List.getElem_of_mem hf
      exact h5 j hj (by simpa [List.getD,hj] using q)) (by omega)
    rw [← hP,← hM] at s5 s6 s7 s8 s9 s10 s11 s13
    rw [← hP] at s1 s2 s4
    rw [← hU] at s5 s9 s10 s11 s13
    rw [← hSe] at s1 s12
    have hUz:U.size≤536870912:=by rw [hU,bS];omega
    have p1:=Parts_ok S (by omega)
    rw [s1] at p1
    have hMs:∀ x ∈ M,x.2.size≤1048576:=fun x hx=>by
      rw [hM] at hx
      unfold insP at hx
      rcases List.mem_append.1 hx with hx|hx
      · have:=s4 x (List.mem_filter.1 hx).1;omega
      · rcases List.mem_cons.1 hx with rfl|hx
        · exact hbs
        · have:=s4 x (List.mem_of_mem_drop hx);omega
    have p2:=Join_ok M (by omega) hMs
    rw [s5] at p2
    have p3:=Decode_ok e (d+1) t he ht U hUz fun _ _=>by omega
    rw [s9] at p3
    have p4 := Unknown_ok (e+1) d t ht U (by omega) (fun _=>by
      rw [s13];show M.length≤_
      rw [hU,bS,List.length_append]
      have:M.length≤(bytesP M).length:=by
        have:∀ l:PL,l.length≤(bytesP l).length:=fun l=>by
          induction l with
          | nil=>exact Nat.le_refl _
          | cons x l ih =>
            have:0<(putN x.1.toNat).length:=by rw [putN];split<;>simp
            rw [bytesP_cons,List.length_append,List.length_cons]
            simp only [partN,List.length_append];omega
        exact this M
      omega)
    rw [s11] at p4
    have p5:=Unknown_ok (e+1) d t ht S (by omega) (fun _=>by
      rw [s1];show P.length≤_
      have h7:=(valP_enc hto h3 hv (V.ok_of_chk (by simp only [accV,Bool.and_eq_true,decide_eq_true_eq] at h2;exact h2.1)) (by simp only [accV,Bool.and_eq_true,decide_eq_true_eq] at h2;exact h2.2)).1
      rw [hSe,bS,h7,← hP,List.length_append]
      have:∀ l:PL,l.length≤(bytesP l).length:=fun l=>by
        induction l with
        | nil=>exact Nat.le_refl _
        | cons x l ih =>
          have:0<(putN x.1.toNat).length:=by rw [putN];split<;>simp
          rw [bytesP_cons,List.length_append,List.length_cons]
          simp only [partN,List.length_append];omega
      have:=this P
      omega)
    rw [s12] at p5
    exact ⟨p1,s2,by omega,p2,by rw [hSe,hU,bS,bS];exact s7,p3,p4,p5⟩
  have hMe:M=lessP n P++(n,b) :: P.drop (lessP n P).length:=hM
  have hEq:=equal_up hv hcM
  rw [← ha] at hS
  rw [← hgg] at hSV
  rw [← hSS,← hX] at hE
  rw [← hK] at hCk
  clear ha hgg hSS hX hK hA hP hM hU
  obtain ⟨Q,hQ⟩:∃ M,d+1+(e+1)=M:=⟨_,rfl⟩
  rw [hQ] at key hEq
  clear hQ hcM he
  (apply Af.of tF mF [.tmp 6] kp12 [(1,[(0,.bool fun _=>true,[]),(4,.bool fun _=>a,[]),(9,.bool fun _=>g,[]),(19,.int .i64 fun _=>K,[]),(25,.bool fun _=>A,[])]),(2,[(0,.bool fun _=>true,[])]),
    (8,[(2,.tup [.str fun _=>S,.int .i64 fun _=>X],[])]),(11,[(1,.tup [slcP fun _=>P,.int .i64 fun _=>0,.int .i64 fun _=>0],[])]),(22,[(1,.tup [.str fun _=>U,.int .i64 fun _=>0],[(1000,ownP M)])]),
    (23,[(2,.tup [encV Q .any fun _=>v,.int .i64 fun _=>0,.int .i64 fun _=>0],[])]),(24,[(2,.tup [slcI fun _=>[n],.int .i64 fun _=>0],[])]),(25,[(2,.tup [slcI fun _=>[],.int .i64 fun _=>0],[])]),(26,[(12,.bool fun _=>true,[])])] Tryz.func12 (fun _=>?_);(any_goals ((with_reducible refine wI ?_);cbv;(try dsimp only [nc] at *);(repeat' (with_reducible first|exact aN.2 trivial|exact oN|refine oC ?_ ?_|refine VC.mk rfl ?_ ?_ ?_|refine Ca.mk (fun _=>?_) (fun _=>?_)|(refine Cv.mk ?_ ?_<;>intro zq<;>(try simp only [nc,cl] at zq)<;>(try simp only [bl,dl] at zq)<;>(revert zq;intro _))|((first|refine xE ?_|refine uE ?_);cbv;(try dsimp only [nc] at *)))))))
  (any_goals ((with_reducible first|refine nO ?_|refine sO (fun _=>?_))<;>exact known_ok))
  (any_goals ((with_reducible first|refine nO ?_|refine sO (fun _=>?_))<;>exact hS))
  (any_goals ((with_reducible first|refine nO ?_|refine sO (fun _=>?_))<;>exact hSV))
  (any_goals ((with_reducible first|refine nO ?_|refine sO (fun _=>?_))<;>exact hCk))
  any_goals (with_reducible refine sO (fun z=>?_))<;>exact hAc (by simp at z;exact z.2)
  ((all_goals (try (with_reducible ((first|refine rE ?_|refine nE ?_);(focus (cbv;(try dsimp only [nc] at *);(try simp only [wl,nc]);(repeat' (with_reducible apply And.intro));all_goals (try exact wZ)))))));(all_goals (try ((with_reducible rw [aC]);(try simp only [wl,nc]);(repeat' (with_reducible apply And.intro));(all_goals (try exact cZ))))))
  have hfl:=ht.2.2.2.1
  refine .loop (fun i:Nat=>⟨220,[(7,.int .i64 fun _=>i),(5,.ptr 5 0),(4,.ptr 4 0),(3,.ptr 3 0)],[(3,.box (cl' (e+1) (d+1) .any fun _=>t)),(4,.box (cells (c+1) .any fun _=>v)),(5,.box [.int .i64 fun _=>n,.str fun _=>b])]⟩)
    (fun i=>i≤t.fields.length∧∀ j,j<i→fNum (t.fields.getD j default)≠n) (fun i=>t.fields.length - i) 0 ⟨Nat.zero_le _,fun j hj=>absurd hj (Nat.not_lt_zero _)⟩ ?_ fun i E hi=>?_
  · (focus (cbv;(try dsimp only [nc] at *);(try simp only [wl,nc]);(repeat' (with_reducible apply And.intro));all_goals (try exact wZ)))
  obtain ⟨i1,i2⟩:=hi
  by_cases hlt:i<t.fields.length
  · apply AWp.wk tF mF [] kp12 ?_
    (any_goals ((with_reducible refine wI ?_);cbv;(try dsimp only [nc] at *);(repeat' (with_reducible first|exact aN.2 trivial|exact oN|refine oC ?_ ?_|refine VC.mk rfl ?_ ?_ ?_|refine Ca.mk (fun _=>?_) (fun _=>?_)|(refine Cv.mk ?_ ?_<;>intro zq<;>(try simp only [nc,cl] at zq)<;>(try simp only [bl,dl] at zq)<;>(revert zq;intro _))|((first|refine xE ?_|refine uE ?_);cbv;(try dsimp only [nc] at *))))))
    all_goals (try exact absurd hlt (Nat.not_lt.2 ‹t.fields.length≤i›))
    all_goals (try simp only [Int.toNat_natCast])
    ((all_goals (try (with_reducible ((first|refine rE ?_|refine nE ?_);(focus (cbv;(try dsimp only [nc] at *);(try simp only [wl,nc]);(repeat' (with_reducible apply And.intro));all_goals (try exact wZ)))))));(all_goals (try ((with_reducible rw [aC]);(try simp only [wl,nc]);(repeat' (with_reducible apply And.intro));(all_goals (try exact cZ))))))
    refine dE (i+1) ⟨⟨by omega,fun j hj=>?_⟩,by omega⟩ ?_
    · rcases Nat.lt_succ_iff_lt_or_eq.1 hj with hj|rfl
      · exact i2 j hj
      · assumption
    · (focus (cbv;(try dsimp only [nc] at *);(try simp only [wl,nc]);(repeat' (with_reducible apply And.intro));all_goals (try exact wZ)))
      exact w64n (by omega)
  have hn5:∀ j,j<t.fields.length→fNum (t.fields.getD j default)≠n:=fun j hj=>i2 j (by omega)
  apply AWp.wk tF mF [] kp12 ?_
  (any_goals ((with_reducible refine wI ?_);cbv;(try dsimp only [nc] at *);(repeat' (with_reducible first|exact aN.2 trivial|exact oN|refine oC ?_ ?_|refine VC.mk rfl ?_ ?_ ?_|refine Ca.mk (fun _=>?_) (fun _=>?_)|(refine Cv.mk ?_ ?_<;>intro zq<;>(try simp only [nc,cl] at zq)<;>(try simp only [bl,dl] at zq)<;>(revert zq;intro _))|((first|refine xE ?_|refine uE ?_);cbv;(try dsimp only [nc] at *))))))
  all_goals (try exact absurd ‹i<t.fields.length› hlt)
  all_goals
    have hq0:=‹(((((_∧t.kind=9)∧K=0)∧A=true)∧(b.size:Int)≤40)∧1≤n)∧n≤9999›
    obtain ⟨hx0,hk2⟩:=key hq0.1.1.1.1.2 hq0.1.1.1.2 hq0.1.1.1.1.1.2 ⟨hq0.1.2,hq0.2⟩ hn5
  (any_goals ((with_reducible first|refine nO ?_|refine sO (fun _=>?_))<;>exact hE))
  any_goals (with_reducible refine nO ?_)<;>exact (hk2 (by omega)).1
  ((all_goals (try (with_reducible ((first|refine rE ?_|refine nE ?_);(focus (cbv;(try dsimp only [nc] at *);(try simp only [wl,nc]);(repeat' (with_reducible apply And.intro));all_goals (try exact wZ)))))));(all_goals (try ((with_reducible rw [aC]);(try simp only [wl,nc]);(repeat' (with_reducible apply And.intro));(all_goals (try exact cZ))))))
  · rw [hx0];rfl
  · have hl:=(hk2 (by omega)).2.1
    have hz9:=‹(¬True∨¬True)∨¬(P.length:Int)=v.fields.length›
    simp only [not_true_eq_false,false_or] at hz9
    omega
  obtain ⟨hPa,hPl,hP64,hJo,hSU,hDe,hU1,hU2⟩:=hk2 (by omega)
  refine .loop (fun p:Nat×PL=>⟨220,[(14,.int .i64 fun _=>p.1),(13,.aref 99 0 fun _=>p.2.length),(10,slcP fun _=>P),(8,.str fun _=>S),(5,.ptr 5 0),(4,.ptr 4 0),(3,.ptr 3 0)],
      [(3,.box (cl' (e+1) (d+1) .any fun _=>t)),(4,.box (cells (c+1) .any fun _=>v)),(5,.box [.int .i64 fun _=>n,.str fun _=>b]),(99,ownP p.2)]⟩)
    (fun p=>p.1≤P.length∧p.2=lessP n (P.take p.1)) (fun p=>P.length - p.1) (0,[]) ⟨Nat.zero_le _,by simp [lessP]⟩ ?_ fun p E hi=>?_
  · (focus (cbv;(try dsimp only [nc] at *);(try simp only [wl,nc]);(repeat' (with_reducible apply And.intro));all_goals (try exact wZ)))
  obtain ⟨j1,j2⟩:=hi
  by_cases hlt:p.1<P.length
  · have hlen:p.2.length≤64:=by
      rw [j2]
      have:=List.length_filter_le (fun b:Int×ByteArray=>decide (b.1<n)) (P.take p.1)
      rw [List.length_take] at this
      show (List.filter _ _).length≤64
      omega
    apply AWp.wk tF mF [] kp12 ?_
    (any_goals ((with_reducible refine wI ?_);cbv;(try dsimp only [nc] at *);(repeat' (with_reducible first|exact aN.2 trivial|exact oN|refine oC ?_ ?_|refine VC.mk rfl ?_ ?_ ?_|refine Ca.mk (fun _=>?_) (fun _=>?_)|(refine Cv.mk ?_ ?_<;>intro zq<;>(try simp only [nc,cl] at zq)<;>(try simp only [bl,dl] at zq)<;>(revert zq;intro _))|((first|refine xE ?_|refine uE ?_);cbv;(try dsimp only [nc] at *))))))
    all_goals (try exact absurd hlt (Nat.not_lt.2 ‹P.length≤p.1›))
    all_goals (try simp only [Int.toNat_natCast])
    ((all_goals (try (with_reducible ((first|refine rE ?_|refine nE ?_);(focus (cbv;(try dsimp only [nc] at *);(try simp only [wl,nc]);(repeat' (with_reducible apply And.intro));all_goals (try exact wZ)))))));(all_goals (try ((with_reducible rw [aC]);(try simp only [wl,nc]);(repeat' (with_reducible apply And.intro));(all_goals (try exact cZ))))))
    · obtain ⟨q,hq⟩:∃ q,q=p.2++[P.getD p.1 default]:=⟨_,rfl⟩
      refine dE (p.1+1,q) ⟨⟨by show p.1+1≤_;omega,?_⟩,by show P.length - (p.1+1)<_;omega⟩ ?_
      · show q=lessP n (P.take (p.1+1))
        rw [hq,lessP_take hlt,if_pos ‹(P.getD p.1 default).1<n›,j2]
      · (focus (cbv;(try dsimp only [nc] at *);(try simp only [wl,nc]);(repeat' (with_reducible apply And.intro));all_goals (try exact wZ)))
        · exact w64n (by omega)
        all_goals first
          | (rw [hq];simp;done)
          | (rw [hq];exact rowsP_app)
    · refine dE (p.1+1,p.2) ⟨⟨by show p.1+1≤_;omega,?_⟩,by show P.length - (p.1+1)<_;omega⟩ ?_
      · show p.2=lessP n (P.take (p.1+1))
        rw [lessP_take hlt,if_neg (Int.not_lt.2 ‹n≤(P.getD p.1 default).1›),j2]
      · (focus (cbv;(try dsimp only [nc] at *);(try simp only [wl,nc]);(repeat' (with_reducible apply And.intro));all_goals (try exact wZ)))
        exact w64n (by omega)
  · have hp2:p.2=lessP n P:=by rw [j2,List.take_of_length_le (by omega)]
    have hll:(lessP n P).length≤P.length:=List.length_filter_le _ _
    have hw:IntKind.i64.wrap (((p.2.length+1:Nat):Int) - 1)=p.2.length:=by rw [w64 (by rw [hp2];omega) (by rw [hp2];omega)];omega
    have hMl:M.length=p.2.length+1+(P.length - p.2.length):=by
      rw [hMe,List.length_append,List.length_cons,List.length_drop,hp2];omega
    have hsp:M=(p.2++[(n,b)])++P.drop p.2.length:=by rw [hMe,hp2];simp
    have h64:p.2.length≤P.length:=by rw [hp2];exact hll
    have hrow:∀ i,i<p.2.length+1+(P.length - p.2.length)→LeL (catF (fun _=>p.2.length+1) (catF (fun _=>p.2.length) (rowsP fun _=>p.2) (litArr [[AV.int .i64 fun _=>n,AV.str fun _=>b]])) (fun j=>rowsP (fun _=>P) fun _=>p.2.length+j PUnit.unit) fun _=>i) (rowsP (fun _=>M) fun _=>i):=by
      refine cat_le (n:=fun _=>p.2.length+1) (m:=P.length - p.2.length) (fun k hk=>?_) (fun k hk=>LeL.of_eq ?_)
      · have hk:k<p.2.length+1:=hk
        rw [hsp]
        exact LeL.trans (rowsP_app k hk) (LeL.of_eq (rowsP_left (by simp;omega)))
      · rw [hsp]
        exact rowsP_drop.trans (rowsP_right (by simp))
    have hJ2:Af Tryz.prog 31 [.aref 1000 0 fun _=>M.length] [(1000,ownP M)] (.tup [.str fun _=>U,.int .i64 fun _=>0]) [(1000,ownP M)]:=by
      refine hJo.borrow ?_ (by simp [AV.pureL,slcP]) (fun av h=>?_) (by simp [AV.pureL]) (.tup fun c hc=>?_)
      · (focus (cbv;(try dsimp only [nc] at *);(try simp only [wl,nc]);(repeat' (with_reducible apply And.intro));all_goals (try exact wZ)))
      · simp at h;subst h;exact nf_slcP _
      · rcases List.mem_cons.1 hc with rfl|hc
        · exact .str _
        · rcases List.mem_cons.1 hc with rfl|hc
          · exact .int _ _
          · cases hc
    apply AWp.wk tF mF [] kp12 ?_
    (any_goals ((with_reducible refine wI ?_);cbv;(try dsimp only [nc] at *);(repeat' (with_reducible first|exact aN.2 trivial|exact oN|refine oC ?_ ?_|refine VC.mk rfl ?_ ?_ ?_|refine Ca.mk (fun _=>?_) (fun _=>?_)|(refine Cv.mk ?_ ?_<;>intro zq<;>(try simp only [nc,cl] at zq)<;>(try simp only [bl,dl] at zq)<;>(revert zq;intro _))|((first|refine xE ?_|refine uE ?_);cbv;(try dsimp only [nc] at *))))))
    all_goals (try exact absurd ‹p.1<P.length› hlt)
    all_goals (try simp only [hw,Int.toNat_natCast])
    (any_goals ((with_reducible first|refine nO ?_|refine sO (fun _=>?_));(try dsimp only);(have q:=hJ2;refine Af.wN q ?_;clear q);(focus (cbv;(try dsimp only [nc] at *);(try simp only [wl,nc]);(repeat' (with_reducible apply And.intro));all_goals (try exact wZ)))))
    (any_goals ((with_reducible first|refine nO ?_|refine sO (fun _=>?_))<;>exact hDe))
    (any_goals ((with_reducible first|refine nO ?_|refine sO (fun _=>?_))<;>exact hU1))
    (any_goals ((with_reducible first|refine nO ?_|refine sO (fun _=>?_))<;>exact hU2))
    (any_goals ((with_reducible first|refine nO ?_|refine sO (fun _=>?_));(try dsimp only);(have q:=hEq;refine Af.wN q ?_;clear q);(focus (cbv;(try dsimp only [nc] at *);(try simp only [wl,nc]);(repeat' (with_reducible apply And.intro));all_goals (try exact wZ)))))
    ((all_goals (try (with_reducible ((first|refine rE ?_|refine nE ?_);(focus (cbv;(try dsimp only [nc] at *);(try simp only [wl,nc]);(repeat' (with_reducible apply And.intro));all_goals (try exact wZ)))))));(all_goals (try ((with_reducible rw [aC]);(try simp only [wl,nc]);(repeat' (with_reducible apply And.intro));(all_goals (try exact cZ))))))
    rw [decide_eq_true (show (S.size:Int)<U.size by omega)]
    simp
end Go.Ai

namespace Go.Proofs.YtlplmdipoacnlaaGreatDoor
open Go Go.Ai Go.RowKit Go.ChangeShapes Go.WideShapes Go.ChangeAt
set_option maxRecDepth 100000
theorem skps_contract (H:Type) (enc:TypeId×Value→H) (W:World) (base:Nat) (args:Array Value) (ds gs:List (DataW H)) (before:List MemPlace)
    (hval:∀ (j:Nat) t v,Tryz.f12.params[j]? = some t→args[j]? = some v→Value.okWide Tryz.prog W .any base t v)
    (hW:DataW.Whole enc Tryz.prog Tryz.f12.params.toList Rows.taggedSkipsSpec.vars false W args.toList ds gs before) (hk:Rows.uptoSmall H (ds++gs)=true) (hL:laidMetH Tryz.prog Rows.taggedSkipsUptoRow.laid W) :
    Calls Tryz.prog 12 args W fun e W'=>∃ v,e=.returned v∧Rows.taggedSkipsSpec.post enc Tryz.prog Tryz.f12 false true false false W args v W':=by
  have hW':=hW
  obtain ⟨p,q,hA,hV,rfl,_,_⟩:=hW
  obtain rfl:=vars_nil hV
  rw [Tryz.params12] at hA hval
  obtain ⟨v0,vs0,d0,ds0,pa0,pb0,hargs,rfl,rfl,t0,r0⟩:=trodAll_cons hA
  obtain ⟨v1,vs1,d1,ds1,pa1,pb1,rfl,rfl,rfl,t1,r1⟩:=trodAll_cons r0
  obtain ⟨v2,vs2,d2,ds2,pa2,pb2,rfl,rfl,rfl,t2,r2⟩:=trodAll_cons r1
  obtain ⟨rfl,rfl,rfl⟩:=trodAll_nil r2
  obtain rfl:args=#[v0,v1,v2]:=by cases args;simp_all
  have hb:Rows.uptoBulkAll ([d0,d1,d2]++[])≤1048576:=of_decide_eq_true hk
  simp only [List.append_nil,Rows.uptoBulkAll] at hb
  obtain ⟨x0,h0,z0,a0⟩:=open_type t0 (by omega)
  obtain ⟨x1,h1,b1,a1⟩:=open_value t1 (by omega)
  obtain ⟨x2,h2,a2⟩:=open_part t2 (by omega)
  refine (calls_law (Skips_ok 1048575 1048576 1048576 x0 x1 x2.1 x2.2 (by omega) (by omega) h0 z0 h1 (by omega) (by omega) h2) rfl (tabs_of hL) fun i av hi=>?_).mono fun e W' ⟨he,hbel⟩=>⟨_,he,?_⟩
  · match i with
    | 0=>simp only [List.getElem?_cons_zero,Option.some.injEq] at hi;subst hi;exact a0
    | 1=>simp only [List.getElem?_cons_zero,List.getElem?_cons_succ,Option.some.injEq] at hi;subst hi;exact a1
    | 2=>simp only [List.getElem?_cons_zero,List.getElem?_cons_succ,Option.some.injEq] at hi;subst hi;exact a2
    | i+3=>simp at hi
  · refine post_law (s:=Rows.taggedSkipsSpec) rfl (by kernel_rfl) rfl ?_ hW' hbel
    rw [Tryz.params12]
    intro t ht
    have:t=26∨t=30∨t=60:=by simp at ht;grind
    rcases this with rfl|rfl|rfl
    · exact ⟨by kernel_rfl,of_decide_eq_true (by kernel_rfl)⟩
    · exact ⟨by kernel_rfl,of_decide_eq_true (by kernel_rfl)⟩
    · exact ⟨by kernel_rfl,of_decide_eq_true (by kernel_rfl)⟩
theorem skps_reads (os:Os) {H:Type} (enc:TypeId×Value→H):∃ places,DataW.whole enc Tryz.prog ((lW os).forCall (fun _ _=>0) ⟨#[],#[.agg #[.int .i64 0,.int .i64 0,.int .i64 0,.int .i64 0,.slice none 0 0,.slice none 0 0,.slice none 0 0],.agg #[.int .i64 0,.int .i64 0,.int .i64 0,.string ⟨#[]⟩,.slice none 0 0,.slice none 0 0],.agg #[.int .i64 0,.string ⟨#[]⟩]],[]⟩).memory Tryz.f12.params.toList Rows.taggedSkipsSpec.vars false (#[.agg #[.int .i64 0,.int .i64 0,.int .i64 0,.int .i64 0,.slice none 0 0,.slice none 0 0,.slice none 0 0],.agg #[.int .i64 0,.int .i64 0,.int .i64 0,.string ⟨#[]⟩,.slice none 0 0,.slice none 0 0],.agg #[.int .i64 0,.string ⟨#[]⟩]]:Array Value).toList 8=some ([.agg [.lit (.int .i64 0),.lit (.int .i64 0),.lit (.int .i64 0),.lit (.int .i64 0),.nil,.nil,.nil],.agg [.lit (.int .i64 0),.lit (.int .i64 0),.lit (.int .i64 0),.lit (.string []),.nil,.nil],.agg [.lit (.int .i64 0),.lit (.string [])]],[],places) :=
  ⟨[],by kernel_rfl⟩
theorem skps_laid (os:Os):laidMet Tryz.prog Rows.taggedSkipsUptoRow.laid ((lW os).forCall (fun _ _=>0) ⟨#[],#[.agg #[.int .i64 0,.int .i64 0,.int .i64 0,.int .i64 0,.slice none 0 0,.slice none 0 0,.slice none 0 0],.agg #[.int .i64 0,.int .i64 0,.int .i64 0,.string ⟨#[]⟩,.slice none 0 0,.slice none 0 0],.agg #[.int .i64 0,.string ⟨#[]⟩]],[]⟩).memory :=
  laidMet_of_run' 8 (by kernel_rfl) (by kernel_rfl)
theorem skps_lifted (os:Os) (started:os.Started) (H:Type) (enc:TypeId×Value→H) (F:Stop.Interp) :
    ReturnsInHanded {} Tryz.checked os 12 .any ((Rows.OpenSpec.upto Rows.taggedSkipsSpec).preRow enc Tryz.prog Tryz.f12 Rows.taggedSkipsUptoRow.domain false Rows.taggedSkipsUptoRow.laid) (((Rows.OpenSpec.upto Rows.taggedSkipsSpec).at F).post enc Tryz.prog Tryz.f12 false true false false):=by
  obtain ⟨places,hx⟩:=skps_reads os enc
  refine returnsInHanded_of_row (C:=Tryz.checked) (s:=Rows.OpenSpec.upto Rows.taggedSkipsSpec) own4 started (by kernel_rfl) Tryz.func12
    (witness_row_at (enc:=enc) (C:=Tryz.checked) false (lW os) #[.agg #[.int .i64 0,.int .i64 0,.int .i64 0,.int .i64 0,.slice none 0 0,.slice none 0 0,.slice none 0 0],.agg #[.int .i64 0,.int .i64 0,.int .i64 0,.string ⟨#[]⟩,.slice none 0 0,.slice none 0 0],.agg #[.int .i64 0,.string ⟨#[]⟩]] rfl (by kernel_rfl) (by kernel_rfl) (by kernel_rfl)
      (OpenSpec.preRow_of_cond 8 hx (by kernel_rfl) (fun k hk=>by cases hk;kernel_rfl) (by kernel_rfl) (skps_laid os))) ?_
  intro W base args ds gs before hval hW _ hcond _ hL _ _
  exact skps_contract H enc W base args ds gs before hval hW (hcond _ rfl) hL
theorem skps_said:Rows.TaggedSkipsUptoSaid :=
  OpenClaim.holds_of_cond 12 Tryz.f12 rfl rfl rfl rfl rfl rfl rfl ⟨rfl,rfl,rfl,rfl,rfl⟩ rfl rfl rfl rfl rfl (by kernel_rfl) Tryz.func12 (by kernel_rfl)
    (of_decide_eq_true (by kernel_rfl)) (by unfold Func.isWrapper;first|(rw [if_pos (by decide +kernel)];kernel_rfl)|(rw [if_neg (by decide +kernel)];exact ⟨rfl,rfl⟩))
    (fun os started H enc _ F=>by rw [OpenClaim.pre_eq_preRow];exact skps_lifted os started H enc F)
theorem skps_plain (f:FuncId) (fn:Func) (hf:Tryz.pinned.checked.prog.funcNamed Rows.taggedSkipsUptoRow.func=some f) (hfn:Tryz.pinned.checked.prog.funcs[f]? = some fn) :
    false=Tryz.pinned.checked.prog.looks []∧∀ (j:Nat) t,fn.params[j]? = some t→Tryz.pinned.checked.prog.wantsStandIn t=false:=by
  obtain rfl:f=12:=Option.some.inj ((show Tryz.prog.funcNamed Rows.taggedSkipsUptoRow.func=some 12 by kernel_rfl).symm.trans hf) |>.symm
  obtain rfl:fn=Tryz.f12:=(Option.some.inj (Tryz.func12.symm.trans hfn)).symm
  refine ⟨by kernel_rfl,fun j t ht=>?_⟩
  rw [Tryz.params12] at ht
  have hm:=Array.mem_of_getElem? ht
  have:t=26∨t=30∨t=60:=by simp at hm;grind
  rcases this with rfl|rfl|rfl
  · exact (show Tryz.prog.wantsStandIn 26=false by kernel_rfl)
  · exact (show Tryz.prog.wantsStandIn 30=false by kernel_rfl)
  · exact (show Tryz.prog.wantsStandIn 60=false by kernel_rfl)
theorem taggedSkips_holds:Rows.TaggedSkipsUptoCardSaid :=
  Claim7.holds_tied_plain_at .later [] _ _ _ _ skps_said (fun _ h=>by cases h) (by kernel_rfl) (fun _ h=>by cases h) taggedSkipsUpto_row_tie rfl ⟨rfl,rfl⟩ (by kernel_rfl) rfl skps_plain (by kernel_rfl)
#print axioms taggedSkips_holds
end Go.Proofs.YtlplmdipoacnlaaGreatDoor
