/- Which slots are read later: functions that the base's own texts leave out. -/
import Derived.Test.YtlplmdipoacnlaaGreatDoorFnA
import Derived.Test.YtlplmdipoacnlaaGreatDoorTyD
import Derived.Test.YtlplmdipoacnlaaGreatDoorNumB
set_option linter.all false
namespace Go.Ai
def kq76:List Nat:=[6,38,1062,38,1048614,16,16]
def byNo (s:Int) (x:TF):Bool:=fNum x == s
end Go.Ai

namespace Go.Ai
open Go Go.Proofs
set_option maxRecDepth 100000
set_option maxHeartbeats 2000000
theorem take_inv:∀ (l:List Nat) (i acc n k:Nat),(∀ b ∈ l,b<256)→takeN l i acc=.ok (n,k)→∃ m,putN m=l.take (k - i)∧n=acc+m * 128 ^ i∧(i=0∨0<m)∧k - i≤l.length∧i<k
  | [],i,acc,n,k,_,h=>by
    rw [takeN] at h
    split at h<;>cases h
  | b :: r,i,acc,n,k,hb,h=>by
    rw [takeN] at h
    split at h
    · cases h
    · have hb0:=hb b (by simp)
      split at h
      · obtain ⟨m,h1,h2,h3,h4,h5⟩:=take_inv r (i+1) _ n k (fun x hx=>hb x (by simp [hx])) h
        have hm:0<m:=by omega
        refine ⟨b % 128+128 * m,?_,?_,.inr (by omega),?_,by omega⟩
        · rw [putN_ge (by omega),show (b % 128+128 * m) % 128=b % 128 by omega,show (b % 128+128 * m) / 128=m by omega,h1,show k - i=(k - (i+1))+1 by omega,List.take_succ_cons]
          congr 1;omega
        · rw [h2,Nat.pow_succ,Nat.add_mul,Nat.add_assoc]
          congr 2
          rw [Nat.mul_comm 128 m,Nat.mul_assoc,Nat.mul_comm 128]
        · simp only [List.length_cons];omega
      · split at h
        · cases h
        · simp only [Except.ok.injEq,Prod.mk.injEq] at h
          obtain ⟨h1,h2⟩:=h
          refine ⟨b,?_,h1.symm,by omega,?_,by omega⟩
          · rw [putN_lt (by omega),show k - i=1 by omega];simp
          · simp only [List.length_cons];omega
theorem take_len {l:List Nat} {n k:Nat} (hb:∀ b ∈ l,b<256) (h:takeN l 0 0=.ok (n,k)):putN n=l.take k∧0<k∧k≤l.length:=by
  obtain ⟨m,h1,h2,_,h4,h5⟩:=take_inv l 0 0 n k hb h
  simp only [Nat.pow_zero,Nat.mul_one,Nat.zero_add,Nat.sub_zero] at h1 h2 h4
  subst h2
  exact ⟨h1,h5,h4⟩
theorem take_most:∀ (l:List Nat) (i acc n k:Nat),takeN l i acc=.ok (n,k)→n≤4611686018427387903
  | [],i,acc,n,k,h=>by
    rw [takeN] at h
    split at h<;>cases h
  | b :: r,i,acc,n,k,h=>by
    rw [takeN] at h
    split at h
    · cases h
    · split at h
      · exact take_most r _ _ n k h
      · split at h
        · cases h
        · simp only [Except.ok.injEq,Prod.mk.injEq] at h
          omega
theorem room_byte (r:Rd):∀ b ∈ r.room,b<256:=fun b hb=>by
  have:=List.mem_of_mem_take (List.mem_of_mem_drop hb)
  obtain ⟨x,_,rfl⟩:=List.mem_map.1 this
  exact x.toNat_lt
theorem numR_good {r:Rd} (h:r.good):(nR r).2.good∧0≤(nR r).1∧(nR r).1≤4611686018427387903∧(nR r).2.fin=r.fin∧(nR r).2.s=r.s∧r.pos≤(nR r).2.pos∧((nR r).2.e=0→r.e=0∧r.pos<(nR r).2.pos)∧((nR r).2.e≠0→(nR r).1=0):=by
  obtain ⟨h1,h2,h3,h4⟩:=h
  have hg:r.good:=⟨h1,h2,h3,h4⟩
  by_cases he:r.e=0
  · cases hk:takeN r.room 0 0 with
    | ok p =>
      obtain ⟨n,k⟩:=p
      obtain ⟨q1,q2,q3⟩:=take_len (room_byte r) hk
      have hl:=Rd.room_len hg
      have hm:=take_most _ _ _ _ _ hk
      rw [numR_get he hk]
      simp only [Rd.to,Rd.good]
      refine ⟨⟨by omega,by omega,h3,h4⟩,by omega,by omega,trivial,trivial,by omega,fun _=>⟨he,by omega⟩,fun q=>absurd he q⟩
    | error k =>
      have:nR r=(0,if k=1 then r.fail r.fin 29 else r.fail r.pos 3):=by simp [nR,he,hk]
      rw [this]
      by_cases hk1:k=1
      · simp only [hk1,if_true,Rd.fail,he,Rd.good]
        exact ⟨⟨h1,h2,h3,h4⟩,by omega,by omega,trivial,trivial,by omega,fun q=>(by cases q),fun _=>trivial⟩
      · simp only [hk1,if_false,Rd.fail,he,if_true,Rd.good]
        exact ⟨⟨h1,h2,h3,h4⟩,by omega,by omega,trivial,trivial,by omega,fun q=>(by cases q),fun _=>trivial⟩
  · have:nR r=(0,r):=by simp [nR,he]
    rw [this]
    exact ⟨hg,by omega,by simp,rfl,rfl,Int.le_refl _,fun q=>absurd q he,fun _=>rfl⟩
def bR (r:Rd) (n:Int):ByteArray×Rd :=
  if r.e≠0 then (⟨#[]⟩,r) else if r.fin - r.pos<n then (⟨#[]⟩,r.fail r.fin 29) else (r.s.extract r.pos.toNat (r.pos+n).toNat,r.to (r.pos+n))
theorem bytesR_good {r:Rd} (h:r.good) {n:Int} (hn:0≤n):(bR r n).2.good∧(bR r n).2.fin=r.fin∧(bR r n).2.s=r.s∧r.pos≤(bR r n).2.pos∧((bR r n).2.e=0→r.e=0∧n≤r.fin - r.pos∧(bR r n).2.pos=r.pos+n):=by
  obtain ⟨h1,h2,h3,h4⟩:=h
  by_cases he:r.e=0
  · by_cases hc:r.fin - r.pos<n
    · simp only [bR,he,hc,ne_eq,not_true_eq_false,if_false,if_true,Rd.fail,Rd.good]
      exact ⟨⟨h1,h2,h3,h4⟩,trivial,trivial,Int.le_refl _,fun q=>(by cases q)⟩
    · simp only [bR,he,hc,ne_eq,not_true_eq_false,if_false,Rd.to,Rd.good]
      exact ⟨⟨by omega,by omega,h3,h4⟩,trivial,trivial,by omega,fun _=>⟨trivial,by omega,trivial⟩⟩
  · have:bR r n=(⟨#[]⟩,r):=by simp [bR,he]
    rw [this]
    exact ⟨⟨h1,h2,h3,h4⟩,rfl,rfl,Int.le_refl _,fun q=>absurd q he⟩
def longR (r:Rd):Rd:=if r.pos<r.fin then r.fail r.pos 5 else r
theorem bytes_ok (r:Rd) (h:r.good) (n:Int) (hn:0≤n∧n≤4611686018427387903):Af Tryz.prog 56 [.ptr 1000 0,.int .i64 fun _=>n] [(1000,Rd.box fun _=>r)] (.str fun _=>(bR r n).1) [(1000,Rd.box fun _=>(bR r n).2)]:=by
  obtain ⟨h1,h2,h3,h4⟩:=h
  have hw:IntKind.i64.wrap (r.fin - r.pos)=r.fin - r.pos:=w64 (by omega) (by omega)
  have hw2:IntKind.i64.wrap (r.pos+n)=r.pos+n:=w64 (by omega) (by omega)
  have hw3:IntKind.i64.wrap (r.pos+n - n)=r.pos:=by rw [show r.pos+n - n=r.pos by omega];exact w64 (by omega) (by omega)
  by_cases he:r.e=0
  · by_cases hc:r.fin - r.pos<n
    · have hB:bR r n=(⟨#[]⟩,r.fail r.fin 29):=by simp [bR,he,hc]
      rw [hB]
      (apply Af.of tF mF [.tmp 4] kp56 [(0,[(0,.nil,[])]),(4,[(5,.tup [],[(1000,Rd.box fun _=>r.fail r.fin 29)])])] Tryz.func56 (fun _=>?_);(any_goals ((with_reducible refine wI ?_);cbv;(try dsimp only [nc] at *);(repeat' (with_reducible first|exact aO|exact oN|refine oC ?_ ?_|refine VC.mk rfl ?_ ?_ ?_|(apply Ca.mk<;>intro _)|(apply Cv.mk<;>intro zq<;>(try simp only [nc,cl] at zq)<;>(try simp only [bl,dl] at zq)<;>(revert zq;intro _))|((first|apply xE|apply uE);cbv;(try dsimp only [nc] at *)))))))
      all_goals (try (exfalso;first|omega|(rw [hw] at *;omega)))
      (any_goals ((with_reducible refine bZ ?_)<;>exact (fail_ok r r.fin 29)))
      ((all_goals (try (with_reducible ((first|refine rE ?_|refine nE ?_);(focus (cbv;(try dsimp only [nc] at *);(try simp only [wl,nc]);(repeat' (with_reducible apply And.intro));all_goals (try exact wZ)))))));(all_goals (try ((with_reducible rw [aC]);(try simp only [wl,nc]);(repeat' (with_reducible apply And.intro));(all_goals (try exact cZ))))))
    · have hB:bR r n=(r.s.extract r.pos.toNat (r.pos+n).toNat,r.to (r.pos+n)):=by simp [bR,he,hc]
      rw [hB]
      (apply Af.of tF mF [.tmp 4] kp56 [(0,[(0,.nil,[])]),(4,[(5,.tup [],[(1000,Rd.box fun _=>r.fail r.fin 29)])])] Tryz.func56 (fun _=>?_);(any_goals ((with_reducible refine wI ?_);cbv;(try dsimp only [nc] at *);(repeat' (with_reducible first|exact aO|exact oN|refine oC ?_ ?_|refine VC.mk rfl ?_ ?_ ?_|(apply Ca.mk<;>intro _)|(apply Cv.mk<;>intro zq<;>(try simp only [nc,cl] at zq)<;>(try simp only [bl,dl] at zq)<;>(revert zq;intro _))|((first|apply xE|apply uE);cbv;(try dsimp only [nc] at *)))))))
      all_goals (try (exfalso;first|omega|(rw [hw] at *;omega)))
      all_goals (try simp only [hw2,hw3] at *)
      ((all_goals (try (with_reducible ((first|refine rE ?_|refine nE ?_);(focus (cbv;(try dsimp only [nc] at *);(try simp only [wl,nc]);(repeat' (with_reducible apply And.intro));all_goals (try exact wZ)))))));(all_goals (try ((with_reducible rw [aC]);(try simp only [wl,nc]);(repeat' (with_reducible apply And.intro));(all_goals (try exact cZ))))))
      all_goals first
        | exact hw2
        | rfl
        | (simp only [hw2,hw3];done)
        | omega
  · have hB:bR r n=(⟨#[]⟩,r):=by simp [bR,he]
    rw [hB]
    (apply Af.of tF mF [.tmp 4] kp56 [(0,[(0,.nil,[])]),(4,[(5,.tup [],[(1000,Rd.box fun _=>r.fail r.fin 29)])])] Tryz.func56 (fun _=>?_);(any_goals ((with_reducible refine wI ?_);cbv;(try dsimp only [nc] at *);(repeat' (with_reducible first|exact aO|exact oN|refine oC ?_ ?_|refine VC.mk rfl ?_ ?_ ?_|(apply Ca.mk<;>intro _)|(apply Cv.mk<;>intro zq<;>(try simp only [nc,cl] at zq)<;>(try simp only [bl,dl] at zq)<;>(revert zq;intro _))|((first|apply xE|apply uE);cbv;(try dsimp only [nc] at *)))))))
    all_goals (try (exfalso;omega))
    ((all_goals (try (with_reducible ((first|refine rE ?_|refine nE ?_);(focus (cbv;(try dsimp only [nc] at *);(try simp only [wl,nc]);(repeat' (with_reducible apply And.intro));all_goals (try exact wZ)))))));(all_goals (try ((with_reducible rw [aC]);(try simp only [wl,nc]);(repeat' (with_reducible apply And.intro));(all_goals (try exact cZ))))))
def Rd.all (r:Rd):ByteArray:=r.s.extract r.pos.toNat r.fin.toNat
def sub2 (r:Rd):Rd:=(bR (nR r).2 (nR r).1).2
theorem sub2_good {r:Rd} (h:r.good):(sub2 r).good∧(sub2 r).fin=r.fin∧(sub2 r).s=r.s∧r.pos≤(nR r).2.pos∧(nR r).2.pos≤(sub2 r).pos∧((sub2 r).e=0→r.e=0∧r.pos<(sub2 r).pos):=by
  obtain ⟨g1,g2,g3,g4,g5,g6,g7,g8⟩:=numR_good h
  obtain ⟨k1,k2,k3,k4,k5⟩:=bytesR_good g1 g2
  refine ⟨k1,k2.trans g4,k3.trans g5,g6,k4,fun q=>?_⟩
  obtain ⟨q1,q2,q3⟩:=k5 q
  obtain ⟨q4,q5⟩:=g7 q1
  exact ⟨q4,by show r.pos<(bR (nR r).2 (nR r).1).2.pos;omega⟩
end Go.Ai

namespace Go.Ai
open Go Go.Proofs
set_option maxRecDepth 100000
set_option maxHeartbeats 4000000
def stepR (last:Int) (r:Rd):Rd:=if (nR r).1<1∨9999<(nR r).1 then (nR r).2.fail r.pos 2 else if (nR r).1≤last then (nR r).2.fail r.pos 24 else (nR r).2
theorem fail_good {r:Rd} (h:r.good) (a e:Int):(r.fail a e).good∧(r.fail a e).fin=r.fin∧(r.fail a e).s=r.s∧(r.fail a e).pos=r.pos:=by
  unfold Rd.fail
  split
  · exact ⟨h,rfl,rfl,rfl⟩
  · exact ⟨h,rfl,rfl,rfl⟩
theorem stepR_good {r:Rd} (last:Int) (h:r.good):(stepR last r).good∧(stepR last r).fin=r.fin∧(stepR last r).s=r.s∧r.pos≤(stepR last r).pos:=by
  obtain ⟨g1,g2,g3,g4,g5,g6,g7,g8⟩:=numR_good h
  unfold stepR
  split
  · obtain ⟨a,b,c,d⟩:=fail_good g1 r.pos 2
    exact ⟨a,b.trans g4,c.trans g5,by omega⟩
  split
  · obtain ⟨a,b,c,d⟩:=fail_good g1 r.pos 24
    exact ⟨a,b.trans g4,c.trans g5,by omega⟩
  · exact ⟨g1,g4,g5,g6⟩
end Go.Ai
