/- Numbers as bytes (chapter 10): what is put is taken. The plain law; no program in sight. -/
import Derived.Test.YtlplmdipoacnlaaGreatDoorEngA
import Derived.Test.YtlplmdipoacnlaaGreatDoorEngC
import Derived.Test.YtlplmdipoacnlaaGreatDoorFnA
set_option linter.all false
namespace Go.Ai
def putN (n:Nat):List Nat:=if n<128 then [n] else (n % 128+128) :: putN (n / 128)
termination_by n
decreasing_by omega
def takeN:List Nat→Nat→Nat→Except Nat (Nat×Nat)
  | l,i,acc =>
    if i ≥ 9 then .error 2 else
    match l with
    | []=>.error 1
    | b :: r=>if 128≤b then takeN r (i+1) (acc+b % 128 * 128 ^ i) else if b=0∧0<i∨4611686018427387903<acc+b * 128 ^ i then .error 2 else .ok (acc+b * 128 ^ i,i+1)
def zigI (n:Int):Int:=if n<0 then -2 * n - 1 else 2 * n
def unzigI (n:Int):Int:=if n % 2=1 then -(n / 2+1) else n / 2
end Go.Ai

namespace Go.Ai
open Go Go.Proofs
set_option maxRecDepth 100000
set_option maxHeartbeats 2000000
def bytF (l:List Nat):(Unit→Nat)→List AV:=fun i=>[.int .u8 fun _=>((l.getD (i ()) 0:Nat):Int)]
def baL (l:List Nat):ByteArray:=⟨(l.map UInt8.ofNat).toArray⟩
theorem isByte_bytF (l:List Nat) (i:Nat):isByte (bytF l fun _=>i)=true:=rfl
theorem bytesA_bytF (l:List Nat) (n:Unit→Nat) (h:n ()=l.length):bytesA n (bytF l)=baL l:=by
  unfold bytesA baL
  rw [h]
  congr 2
  refine List.ext_getElem (by simp) fun i h1 h2=>?_
  have hi:i<l.length:=by simpa using h2
  simp [bytF,byteOfA,hi]
theorem bytF_app {l:List Nat} {b:Nat} {g:(Unit→Nat)→List AV} {n:Unit→Nat} (hn:n ()=l.length) (hg:LeL (g fun _=>0) [.int .u8 fun _=>(b:Int)]) :
    ∀ k,k<n ()+1→LeL (catF n (bytF l) g fun _=>k) (bytF (l++[b]) fun _=>k):=by
  refine cat_le (m:=1) (fun k hk=>LeL.of_eq ?_) (fun k hk=>?_)
  · have hk:k<l.length:=by omega
    simp only [bytF]
    congr 3
    simp [List.getD,List.getElem?_append_left hk]
  · have:k=0:=by omega
    subst this
    have e:bytF (l++[b]) (fun _=>n ()+0)=[.int .u8 fun _=>(b:Int)]:=by
      simp only [bytF,hn,Nat.add_zero]
      simp
    rw [e];exact hg
theorem u8 {x:Int} (h1:0≤x) (h2:x<256):IntKind.u8.wrap x=x:=by simp [IntKind.wrap,IntKind.bits,IntKind.signed];omega
theorem tmod_nat (n m:Nat):Int.tmod (n:Int) (m:Int)=((n % m:Nat):Int):=rfl
theorem tdiv_nat (n m:Nat):Int.tdiv (n:Int) (m:Int)=((n / m:Nat):Int):=rfl
theorem putN_lt {n:Nat} (h:n<128):putN n=[n]:=by rw [putN,if_pos h]
theorem putN_ge {n:Nat} (h:¬ n<128):putN n=(n % 128+128) :: putN (n / 128):=by rw [putN,if_neg h]
theorem putN_len:∀ (k n:Nat),n<128 ^ (k+1)→(putN n).length≤k+1
  | 0,n,h=>by rw [putN_lt (by simpa using h)];simp
  | k + 1,n,h=>by
    by_cases h1:n<128
    · rw [putN_lt h1];simp
    · rw [putN_ge h1,List.length_cons]
      have:=putN_len k (n / 128) (by rw [Nat.div_lt_iff_lt_mul (by decide),← Nat.pow_succ];exact h)
      omega
theorem putN_pos (n:Nat):0<(putN n).length:=by
  rw [putN];split<;>simp
theorem put_round {l:List Nat} {n:Nat} (_h:n<9223372036854775808):∀ k,k<l.length+1→LeL (catF (fun _=>l.length) (bytF l) (litArr [[AV.int .u8 fun _=>IntKind.u8.wrap (IntKind.i64.wrap ((n:Int).tmod 128+128))]]) fun _=>k) (bytF (l++[n % 128+128]) fun _=>k):=by
  refine bytF_app (n:=fun _=>l.length) rfl ?_
  have e:IntKind.u8.wrap (IntKind.i64.wrap ((n:Int).tmod 128+128))=((n % 128+128:Nat):Int):=by
    rw [show (128:Int)=((128:Nat):Int) from rfl,tmod_nat,w64 (by omega) (by omega),u8 (by omega) (by omega)];rfl
  rw [e];exact LeL.of_eq rfl
theorem put_last {l:List Nat} {n:Nat} (h:n<128):∀ k,k<l.length+1→LeL (catF (fun _=>l.length) (bytF l) (litArr [[AV.int .u8 fun _=>IntKind.u8.wrap (n:Int)]]) fun _=>k) (bytF (l++[n]) fun _=>k):=by
  refine bytF_app (n:=fun _=>l.length) rfl ?_
  rw [u8 (by omega) (by omega)];exact LeL.of_eq rfl
theorem put_div {n:Nat} (h:n<9223372036854775808):IntKind.i64.wrap ((n:Int).tdiv 128)=((n / 128:Nat):Int):=by
  rw [show (128:Int)=((128:Nat):Int) from rfl,tdiv_nat,w64 (by omega) (by omega)]
theorem put_false (l:List Nat) (n:Nat) (hn:n<9223372036854775808) (hl:l.length≤35184372000000) (q:List Nat) (hq:q=l++putN n):Af Tryz.prog 51 [.aref 1000 0 fun _=>l.length,.int .i64 fun _=>n] [(1000,.arr false 5 1 0 (fun _=>l.length) (bytF l))]
    (.aref 1000 1 fun _=>q.length) [(1000,.arr false 5 1 1 (fun _=>q.length) (bytF q))]:=by
  have hlen:=putN_len 8 n (by omega)
  (apply Af.of tF mF [.tmp 4] kp51 [] Tryz.func51 (fun _=>?_);(any_goals ((with_reducible refine wI ?_);cbv;(try dsimp only [nc] at *);(repeat' (with_reducible first|exact aO|exact oN|refine oC ?_ ?_|refine VC.mk rfl ?_ ?_ ?_|(apply Ca.mk<;>intro _)|(apply Cv.mk<;>intro zq<;>(try simp only [nc,cl] at zq)<;>(try simp only [bl,dl] at zq)<;>(revert zq;intro _))|((first|apply xE|apply uE);cbv;(try dsimp only [nc] at *)))))))
  ((all_goals (try (with_reducible ((first|refine rE ?_|refine nE ?_);(focus (cbv;(try dsimp only [nc] at *);(try simp only [wl,nc]);(repeat' (with_reducible apply And.intro));all_goals (try exact wZ)))))));(all_goals (try ((with_reducible rw [aC]);(try simp only [wl,nc]);(repeat' (with_reducible apply And.intro));(all_goals (try exact cZ))))))
  refine .loop (fun i:List Nat×Nat=>⟨21,[(0,.aref 1000 1 fun _=>i.1.length),(1,.int .i64 fun _=>i.2)],[(1000,.arr false 5 1 1 (fun _=>i.1.length) (bytF i.1))]⟩)
    (fun i=>i.2≤n∧i.1++putN i.2=q) (fun i=>i.2) (l,n) ⟨Nat.le_refl _,hq.symm⟩ ?_ fun i E hi=>?_
  · (focus (cbv;(try dsimp only [nc] at *);(try simp only [wl,nc]);(repeat' (with_reducible apply And.intro));all_goals (try exact wZ)))
  have hle:=congrArg List.length (hi.2.trans hq)
  simp only [List.length_append] at hle
  have hp:=putN_pos i.2
  obtain ⟨m2,hm2⟩:∃ m2,m2=i.1++[i.2 % 128+128]:=⟨_,rfl⟩
  have hl2:m2.length=i.1.length+1:=by rw [hm2];simp
  apply AWp.wk tF mF [] kp51 ?_
  (any_goals ((with_reducible refine wI ?_);cbv;(try dsimp only [nc] at *);(repeat' (with_reducible first|exact aO|exact oN|refine oC ?_ ?_|refine VC.mk rfl ?_ ?_ ?_|(apply Ca.mk<;>intro _)|(apply Cv.mk<;>intro zq<;>(try simp only [nc,cl] at zq)<;>(try simp only [bl,dl] at zq)<;>(revert zq;intro _))|((first|apply xE|apply uE);cbv;(try dsimp only [nc] at *))))))
  ((all_goals (try (with_reducible ((first|refine rE ?_|refine nE ?_);(focus (cbv;(try dsimp only [nc] at *);(try simp only [wl,nc]);(repeat' (with_reducible apply And.intro));all_goals (try exact wZ)))))));(all_goals (try ((with_reducible rw [aC]);(try simp only [wl,nc]);(repeat' (with_reducible apply And.intro));(all_goals (try exact cZ))))))
  · refine dE (m2,i.2 / 128) ?_ ?_
    · refine ⟨⟨by simp only;omega,?_⟩,by simp only;omega⟩
      rw [← hi.2,putN_ge (n:=i.2) (by omega),hm2];simp
    (focus (cbv;(try dsimp only [nc] at *);(try simp only [wl,nc]);(repeat' (with_reducible apply And.intro));all_goals (try exact wZ)))
    · exact put_div (n:=i.2) (by omega)
    · rw [hm2];exact put_round (n:=i.2) (by omega)
  all_goals have e:q=i.1++[i.2]:=by rw [← hi.2,putN_lt (by omega)]
  all_goals first
    | (simp [e];done)
    | (rw [e];exact put_last (n:=i.2) (by omega))
theorem put_nil (n:Nat) (hn:n<9223372036854775808) (q:List Nat) (hq:q=putN n):Af Tryz.prog 51 [.nil,.int .i64 fun _=>n] [] (.aref 15 0 fun _=>q.length) [(15,.arr false 5 1 0 (fun _=>q.length) (bytF q))]:=by
  have hlen:=putN_len 8 n (by omega)
  (apply Af.of tF mF [.tmp 4] kp51 [] Tryz.func51 (fun _=>?_);(any_goals ((with_reducible refine wI ?_);cbv;(try dsimp only [nc] at *);(repeat' (with_reducible first|exact aO|exact oN|refine oC ?_ ?_|refine VC.mk rfl ?_ ?_ ?_|(apply Ca.mk<;>intro _)|(apply Cv.mk<;>intro zq<;>(try simp only [nc,cl] at zq)<;>(try simp only [bl,dl] at zq)<;>(revert zq;intro _))|((first|apply xE|apply uE);cbv;(try dsimp only [nc] at *)))))))
  ((all_goals (try (with_reducible ((first|refine rE ?_|refine nE ?_);(focus (cbv;(try dsimp only [nc] at *);(try simp only [wl,nc]);(repeat' (with_reducible apply And.intro));all_goals (try exact wZ)))))));(all_goals (try ((with_reducible rw [aC]);(try simp only [wl,nc]);(repeat' (with_reducible apply And.intro));(all_goals (try exact cZ))))))
  refine .loop (fun i:List Nat×Nat=>⟨21,[(0,.aref 15 0 fun _=>i.1.length),(1,.int .i64 fun _=>i.2)],[(15,.arr false 5 1 0 (fun _=>i.1.length) (bytF i.1))]⟩)
    (fun i=>i.2≤n∧i.1++putN i.2=q) (fun i=>i.2) ([],n) ⟨Nat.le_refl _,hq.symm⟩ ?_ fun i E hi=>?_
  · (focus (cbv;(try dsimp only [nc] at *);(try simp only [wl,nc]);(repeat' (with_reducible apply And.intro));all_goals (try exact wZ)))
  have hle:=congrArg List.length (hi.2.trans hq)
  simp only [List.length_append] at hle
  have hp:=putN_pos i.2
  obtain ⟨m2,hm2⟩:∃ m2,m2=i.1++[i.2 % 128+128]:=⟨_,rfl⟩
  have hl2:m2.length=i.1.length+1:=by rw [hm2];simp
  apply AWp.wk tF mF [] kp51 ?_
  (any_goals ((with_reducible refine wI ?_);cbv;(try dsimp only [nc] at *);(repeat' (with_reducible first|exact aO|exact oN|refine oC ?_ ?_|refine VC.mk rfl ?_ ?_ ?_|(apply Ca.mk<;>intro _)|(apply Cv.mk<;>intro zq<;>(try simp only [nc,cl] at zq)<;>(try simp only [bl,dl] at zq)<;>(revert zq;intro _))|((first|apply xE|apply uE);cbv;(try dsimp only [nc] at *))))))
  ((all_goals (try (with_reducible ((first|refine rE ?_|refine nE ?_);(focus (cbv;(try dsimp only [nc] at *);(try simp only [wl,nc]);(repeat' (with_reducible apply And.intro));all_goals (try exact wZ)))))));(all_goals (try ((with_reducible rw [aC]);(try simp only [wl,nc]);(repeat' (with_reducible apply And.intro));(all_goals (try exact cZ))))))
  · refine dE (m2,i.2 / 128) ?_ ?_
    · refine ⟨⟨by simp only;omega,?_⟩,by simp only;omega⟩
      rw [← hi.2,putN_ge (n:=i.2) (by omega),hm2];simp
    (focus (cbv;(try dsimp only [nc] at *);(try simp only [wl,nc]);(repeat' (with_reducible apply And.intro));all_goals (try exact wZ)))
    · exact put_div (n:=i.2) (by omega)
    · rw [hm2];exact put_round (n:=i.2) (by omega)
  all_goals have e:q=i.1++[i.2]:=by rw [← hi.2,putN_lt (by omega)]
  all_goals first
    | (simp [e];done)
    | (rw [e];exact put_last (n:=i.2) (by omega))
theorem zigzag_ok (n:Int) (h1 : -2305843009213693952≤n) (h2:n<2305843009213693952):Af Tryz.prog 52 [.int .i64 fun _=>n] [] (.int .i64 fun _=>zigI n) []:=by
  (apply Af.of tF mF [.tmp 2] kp52 [] Tryz.func52 (fun _=>?_);(any_goals ((with_reducible refine wI ?_);cbv;(try dsimp only [nc] at *);(repeat' (with_reducible first|exact aO|exact oN|refine oC ?_ ?_|refine VC.mk rfl ?_ ?_ ?_|(apply Ca.mk<;>intro _)|(apply Cv.mk<;>intro zq<;>(try simp only [nc,cl] at zq)<;>(try simp only [bl,dl] at zq)<;>(revert zq;intro _))|((first|apply xE|apply uE);cbv;(try dsimp only [nc] at *)))))))
  ((all_goals (try (with_reducible ((first|refine rE ?_|refine nE ?_);(focus (cbv;(try dsimp only [nc] at *);(try simp only [wl,nc]);(repeat' (with_reducible apply And.intro));all_goals (try exact wZ)))))));(all_goals (try ((with_reducible rw [aC]);(try simp only [wl,nc]);(repeat' (with_reducible apply And.intro));(all_goals (try exact cZ))))))
  all_goals
    simp only [zigI]
    split
    all_goals first
      | omega
      | (rw [w64 (x := -2 * n) (by omega) (by omega),w64 (by omega) (by omega)])
      | (rw [w64 (by omega) (by omega)])
def zigBad (n:Int):Prop:=n < -2305843009213693952∨2305843009213693952≤n
instance (n:Int):Decidable (zigBad n):=inferInstanceAs (Decidable (_∨_))
def numBad (n:Int):Prop:=n<0∨4611686018427387903<n
instance (n:Int):Decidable (numBad n):=inferInstanceAs (Decidable (_∨_))
theorem tmod_pos {n:Int} (h:0≤n) (m:Nat):n.tmod m=n % m:=Int.tmod_eq_emod_of_nonneg h
theorem tdiv_pos {n:Int} (h:0≤n) (m:Nat):n.tdiv m=n / m:=Int.tdiv_eq_ediv_of_nonneg h
theorem unzigzag_ok (n:Int) (h:¬ numBad n):Af Tryz.prog 53 [.int .i64 fun _=>n] [] (.int .i64 fun _=>unzigI n) []:=by
  have hn:0≤n∧n≤4611686018427387903:=by unfold numBad at h;omega
  (apply Af.of tF mF [.tmp 2] kp53 [] Tryz.func53 (fun _=>?_);(any_goals ((with_reducible refine wI ?_);cbv;(try dsimp only [nc] at *);(repeat' (with_reducible first|exact aO|exact oN|refine oC ?_ ?_|refine VC.mk rfl ?_ ?_ ?_|(apply Ca.mk<;>intro _)|(apply Cv.mk<;>intro zq<;>(try simp only [nc,cl] at zq)<;>(try simp only [bl,dl] at zq)<;>(revert zq;intro _))|((first|apply xE|apply uE);cbv;(try dsimp only [nc] at *)))))))
  ((all_goals (try (with_reducible ((first|refine rE ?_|refine nE ?_);(focus (cbv;(try dsimp only [nc] at *);(try simp only [wl,nc]);(repeat' (with_reducible apply And.intro));all_goals (try exact wZ)))))));(all_goals (try ((with_reducible rw [aC]);(try simp only [wl,nc]);(repeat' (with_reducible apply And.intro));(all_goals (try exact cZ))))))
  all_goals
    have e1:=tmod_pos hn.1 2
    have e2:=tdiv_pos hn.1 2
    simp only [Int.cast_ofNat_Int] at e1 e2
    simp only [unzigI]
    rw [e2]
    split
    all_goals first
      | omega
      | (rw [w64 (x:=n / 2) (by omega) (by omega),w64 (x:=n / 2+1) (by omega) (by omega),w64 (by omega) (by omega)];omega)
      | (rw [w64 (by omega) (by omega)])
theorem refUnzigzag_ok (n:Int) (h:¬ numBad n):Af Tryz.prog 27 [.int .i64 fun _=>n] [] (.int .i64 fun _=>unzigI n) []:=by
  have hn:0≤n∧n≤4611686018427387903:=by unfold numBad at h;omega
  (apply Af.of tF mF [.tmp 2] kp27 [] Tryz.func27 (fun _=>?_);(any_goals ((with_reducible refine wI ?_);cbv;(try dsimp only [nc] at *);(repeat' (with_reducible first|exact aO|exact oN|refine oC ?_ ?_|refine VC.mk rfl ?_ ?_ ?_|(apply Ca.mk<;>intro _)|(apply Cv.mk<;>intro zq<;>(try simp only [nc,cl] at zq)<;>(try simp only [bl,dl] at zq)<;>(revert zq;intro _))|((first|apply xE|apply uE);cbv;(try dsimp only [nc] at *)))))))
  ((all_goals (try (with_reducible ((first|refine rE ?_|refine nE ?_);(focus (cbv;(try dsimp only [nc] at *);(try simp only [wl,nc]);(repeat' (with_reducible apply And.intro));all_goals (try exact wZ)))))));(all_goals (try ((with_reducible rw [aC]);(try simp only [wl,nc]);(repeat' (with_reducible apply And.intro));(all_goals (try exact cZ))))))
  all_goals
    have e1:=tmod_pos hn.1 2
    have e2:=tdiv_pos hn.1 2
    simp only [Int.cast_ofNat_Int] at e1 e2
    simp only [unzigI]
    split
    all_goals first
      | omega
      | (rw [w64 (x:=n+1) (by omega) (by omega),w64 (x:=0 - (n+1)) (by omega) (by omega),show (0 - (n+1)).tdiv 2 = -((n+1).tdiv 2) by rw [show 0 - (n+1) = -(n+1) by omega,Int.neg_tdiv],Int.tdiv_eq_ediv_of_nonneg (by omega),w64 (by omega) (by omega)];omega)
      | (rw [e2,w64 (by omega) (by omega)])
def putS (n:Int):ByteArray:=baL (putN n.toNat)
theorem Put_ok (n:Int):Af Tryz.prog 23 [.int .i64 fun _=>n] [] (.tup [.str fun _=>if numBad n then ⟨#[]⟩ else putS n,.int .i64 fun _=>if numBad n then 2 else 0]) []:=by
  by_cases hb:numBad n
  · (apply Af.of tF mF [.tmp 2,.tmp 3] kp23 [(3,[(1,.nil,[])])] Tryz.func23 (fun _=>?_);(any_goals ((with_reducible refine wI ?_);cbv;(try dsimp only [nc] at *);(repeat' (with_reducible first|exact aO|exact oN|refine oC ?_ ?_|refine VC.mk rfl ?_ ?_ ?_|(apply Ca.mk<;>intro _)|(apply Cv.mk<;>intro zq<;>(try simp only [nc,cl] at zq)<;>(try simp only [bl,dl] at zq)<;>(revert zq;intro _))|((first|apply xE|apply uE);cbv;(try dsimp only [nc] at *)))))))
    all_goals (try exact absurd hb (by unfold numBad;omega))
    ((all_goals (try (with_reducible ((first|refine rE ?_|refine nE ?_);(focus (cbv;(try dsimp only [nc] at *);(try simp only [wl,nc]);(repeat' (with_reducible apply And.intro));all_goals (try exact wZ)))))));(all_goals (try ((with_reducible rw [aC]);(try simp only [wl,nc]);(repeat' (with_reducible apply And.intro));(all_goals (try exact cZ))))))
    all_goals first
      | exact (if_pos hb).symm
  obtain ⟨m,rfl⟩:∃ m:Nat,n=m:=⟨n.toNat,by unfold numBad at hb;omega⟩
  obtain ⟨q,hq⟩:∃ q,q=putN m:=⟨_,rfl⟩
  (apply Af.of tF mF [.tmp 2,.tmp 3] kp23 [(3,[(1,.aref 15 0 (fun _=>q.length),[(15,.arr false 5 1 0 (fun _=>q.length) (bytF q))])])] Tryz.func23 (fun _=>?_);(any_goals ((with_reducible refine wI ?_);cbv;(try dsimp only [nc] at *);(repeat' (with_reducible first|exact aO|exact oN|refine oC ?_ ?_|refine VC.mk rfl ?_ ?_ ?_|(apply Ca.mk<;>intro _)|(apply Cv.mk<;>intro zq<;>(try simp only [nc,cl] at zq)<;>(try simp only [bl,dl] at zq)<;>(revert zq;intro _))|((first|apply xE|apply uE);cbv;(try dsimp only [nc] at *)))))))
  (any_goals ((with_reducible refine bZ ?_)<;>exact (put_nil m (by unfold numBad at hb;omega) q hq)))
  ((all_goals (try (with_reducible ((first|refine rE ?_|refine nE ?_);(focus (cbv;(try dsimp only [nc] at *);(try simp only [wl,nc]);(repeat' (with_reducible apply And.intro));all_goals (try exact wZ)))))));(all_goals (try ((with_reducible rw [aC]);(try simp only [wl,nc]);(repeat' (with_reducible apply And.intro));(all_goals (try exact cZ))))))
  all_goals first
    | exact absurd ‹(m:Int)<0∨4611686018427387903<(m:Int)› hb
    | exact fun i _=>isByte_bytF q i
    | exact (if_neg hb).symm
    | (rw [if_neg hb,bytesA_bytF _ _ rfl,hq];rfl)
end Go.Ai
