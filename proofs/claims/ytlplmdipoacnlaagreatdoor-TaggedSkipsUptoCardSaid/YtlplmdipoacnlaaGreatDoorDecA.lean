/- Which slots are read later: functions that the base's own texts leave out. -/
import Derived.Test.YtlplmdipoacnlaaGreatDoorFnA
import Derived.Test.YtlplmdipoacnlaaGreatDoorTyD
import Derived.Test.YtlplmdipoacnlaaGreatDoorNumB
set_option linter.all false
namespace Go.Ai
def kq29:List Nat:=[5,36,36,4194340,36,8589934628,28,28]
def kq31:List Nat:=[1,17,49,14384,30768,14512,145584,12,67123344,12,14512,14512,14384,14384,12]
def kq32:List Nat:=[6,65542,48,324,16777540,48,580,469762564,1006633476,469764612,469772804,1099981392388,469762564,469762564,48]
end Go.Ai

namespace Go.Ai
open Go Go.Proofs
set_option maxRecDepth 100000
set_option maxHeartbeats 2000000
theorem take_inv:∀ (l:List Nat) (i acc n k:Nat),(∀ b ∈ l,b<256)→takeN l i acc=.ok (n,k)→∃ m,putN m=l.take (k - i)∧n=acc+m * 128 ^ i∧(i=0∨0<m)∧k - i≤l.length∧i<k
  | [],i,acc,n,k,_,h=>by
    rw [takeN] at h
    split at h<;>cases h
  | b :: r,i,acc,n,k,hb,h=>by
    rw [takeN] at h
    split at h
    · cases h
    · have hb0:=hb b (by simp)
      split at h
      · obtain ⟨m,h1,h2,h3,h4,h5⟩:=take_inv r (i+1) _ n k (fun x hx=>hb x (by simp [hx])) h
        have hm:0<m:=by omega
        refine ⟨b % 128+128 * m,?_,?_,.inr (by omega),?_,by omega⟩
        · rw [putN_ge (by omega),show (b % 128+128 * m) % 128=b % 128 by omega,show (b % 128+128 * m) / 128=m by omega,h1,show k - i=(k - (i+1))+1 by omega,List.take_succ_cons]
          congr 1;omega
        · rw [h2,Nat.pow_succ,Nat.add_mul,Nat.add_assoc]
          congr 2
          rw [Nat.mul_comm 128 m,Nat.mul_assoc,Nat.mul_comm 128]
        · simp only [List.length_cons];omega
      · split at h
        · cases h
        · simp only [Except.ok.injEq,Prod.mk.injEq] at h
          obtain ⟨h1,h2⟩:=h
          refine ⟨b,?_,h1.symm,by omega,?_,by omega⟩
          · rw [putN_lt (by omega),show k - i=1 by omega];simp
          · simp only [List.length_cons];omega
theorem take_len {l:List Nat} {n k:Nat} (hb:∀ b ∈ l,b<256) (h:takeN l 0 0=.ok (n,k)):putN n=l.take k∧0<k∧k≤l.length:=by
  obtain ⟨m,h1,h2,_,h4,h5⟩:=take_inv l 0 0 n k hb h
  simp only [Nat.pow_zero,Nat.mul_one,Nat.zero_add,Nat.sub_zero] at h1 h2 h4
  subst h2
  exact ⟨h1,h5,h4⟩
theorem take_most:∀ (l:List Nat) (i acc n k:Nat),takeN l i acc=.ok (n,k)→n≤4611686018427387903
  | [],i,acc,n,k,h=>by
    rw [takeN] at h
    split at h<;>cases h
  | b :: r,i,acc,n,k,h=>by
    rw [takeN] at h
    split at h
    · cases h
    · split at h
      · exact take_most r _ _ n k h
      · split at h
        · cases h
        · simp only [Except.ok.injEq,Prod.mk.injEq] at h
          omega
theorem room_byte (r:Rd):∀ b ∈ r.room,b<256:=fun b hb=>by
  have:=List.mem_of_mem_take (List.mem_of_mem_drop hb)
  obtain ⟨x,_,rfl⟩:=List.mem_map.1 this
  exact x.toNat_lt
theorem numR_good {r:Rd} (h:r.good):(numR r).2.good∧0≤(numR r).1∧(numR r).1≤4611686018427387903∧(numR r).2.fin=r.fin∧(numR r).2.s=r.s∧r.pos≤(numR r).2.pos∧((numR r).2.e=0→r.e=0∧r.pos<(numR r).2.pos)∧((numR r).2.e≠0→(numR r).1=0):=by
  obtain ⟨h1,h2,h3,h4⟩:=h
  have hg:r.good:=⟨h1,h2,h3,h4⟩
  by_cases he:r.e=0
  · cases hk:takeN r.room 0 0 with
    | ok p =>
      obtain ⟨n,k⟩:=p
      obtain ⟨q1,q2,q3⟩:=take_len (room_byte r) hk
      have hl:=Rd.room_len hg
      have hm:=take_most _ _ _ _ _ hk
      rw [numR_get he hk]
      simp only [Rd.to,Rd.good]
      refine ⟨⟨by omega,by omega,h3,h4⟩,by omega,by omega,trivial,trivial,by omega,fun _=>⟨he,by omega⟩,fun q=>absurd he q⟩
    | error k =>
      have:numR r=(0,if k=1 then r.fail r.fin 29 else r.fail r.pos 3):=by simp [numR,he,hk]
      rw [this]
      by_cases hk1:k=1
      · simp only [hk1,if_true,Rd.fail,he,Rd.good]
        exact ⟨⟨h1,h2,h3,h4⟩,by omega,by omega,trivial,trivial,by omega,fun q=>(by cases q),fun _=>trivial⟩
      · simp only [hk1,if_false,Rd.fail,he,if_true,Rd.good]
        exact ⟨⟨h1,h2,h3,h4⟩,by omega,by omega,trivial,trivial,by omega,fun q=>(by cases q),fun _=>trivial⟩
  · have:numR r=(0,r):=by simp [numR,he]
    rw [this]
    exact ⟨hg,by omega,by simp,rfl,rfl,Int.le_refl _,fun q=>absurd q he,fun _=>rfl⟩
def bR (r:Rd) (n:Int):ByteArray×Rd :=
  if r.e≠0 then (⟨#[]⟩,r) else if r.fin - r.pos<n then (⟨#[]⟩,r.fail r.fin 29) else (r.s.extract r.pos.toNat (r.pos+n).toNat,r.to (r.pos+n))
theorem bytesR_good {r:Rd} (h:r.good) {n:Int} (hn:0≤n):(bR r n).2.good∧(bR r n).2.fin=r.fin∧(bR r n).2.s=r.s∧r.pos≤(bR r n).2.pos∧((bR r n).2.e=0→r.e=0∧n≤r.fin - r.pos∧(bR r n).2.pos=r.pos+n):=by
  obtain ⟨h1,h2,h3,h4⟩:=h
  by_cases he:r.e=0
  · by_cases hc:r.fin - r.pos<n
    · simp only [bR,he,hc,ne_eq,not_true_eq_false,if_false,if_true,Rd.fail,Rd.good]
      exact ⟨⟨h1,h2,h3,h4⟩,trivial,trivial,Int.le_refl _,fun q=>(by cases q)⟩
    · simp only [bR,he,hc,ne_eq,not_true_eq_false,if_false,Rd.to,Rd.good]
      exact ⟨⟨by omega,by omega,h3,h4⟩,trivial,trivial,by omega,fun _=>⟨trivial,by omega,trivial⟩⟩
  · have:bR r n=(⟨#[]⟩,r):=by simp [bR,he]
    rw [this]
    exact ⟨⟨h1,h2,h3,h4⟩,rfl,rfl,Int.le_refl _,fun q=>absurd q he⟩
def longR (r:Rd):Rd:=if r.pos<r.fin then r.fail r.pos 5 else r
theorem bytes_ok (r:Rd) (h:r.good) (n:Int) (hn:0≤n∧n≤4611686018427387903):Af Tryz.prog 56 [.ptr 1000 0,.int .i64 fun _=>n] [(1000,Rd.box fun _=>r)] (.str fun _=>(bR r n).1) [(1000,Rd.box fun _=>(bR r n).2)]:=by
  obtain ⟨h1,h2,h3,h4⟩:=h
  have hw:IntKind.i64.wrap (r.fin - r.pos)=r.fin - r.pos:=w64 (by omega) (by omega)
  have hw2:IntKind.i64.wrap (r.pos+n)=r.pos+n:=w64 (by omega) (by omega)
  have hw3:IntKind.i64.wrap (r.pos+n - n)=r.pos:=by rw [show r.pos+n - n=r.pos by omega];exact w64 (by omega) (by omega)
  by_cases he:r.e=0
  · by_cases hc:r.fin - r.pos<n
    · have hB:bR r n=(⟨#[]⟩,r.fail r.fin 29):=by simp [bR,he,hc]
      rw [hB]
      (apply Af.of tF mF [.tmp 4] kp56 [(0,[(0,.nil,[])]),(4,[(5,.tup [],[(1000,Rd.box fun _=>r.fail r.fin 29)])])] Tryz.func56 (fun _=>?_);(any_goals ((with_reducible refine wI ?_);cbv;(try dsimp only [nc] at *);(repeat' (with_reducible first|exact aN.2 trivial|exact oN|refine oC ?_ ?_|refine VC.mk rfl ?_ ?_ ?_|refine Ca.mk (fun _=>?_) (fun _=>?_)|(refine Cv.mk ?_ ?_<;>intro zq<;>(try simp only [nc,cl] at zq)<;>(try simp only [bl,dl] at zq)<;>(revert zq;intro _))|((first|refine xE ?_|refine uE ?_);cbv;(try dsimp only [nc] at *)))))))
      all_goals (try (exfalso;first|omega|(rw [hw] at *;omega)))
      (any_goals ((with_reducible first|refine nO ?_|refine sO (fun _=>?_))<;>exact (fail_ok r r.fin 29)))
      ((all_goals (try (with_reducible ((first|refine rE ?_|refine nE ?_);(focus (cbv;(try dsimp only [nc] at *);(try simp only [wl,nc]);(repeat' (with_reducible apply And.intro));all_goals (try exact wZ)))))));(all_goals (try ((with_reducible rw [aC]);(try simp only [wl,nc]);(repeat' (with_reducible apply And.intro));(all_goals (try exact cZ))))))
    · have hB:bR r n=(r.s.extract r.pos.toNat (r.pos+n).toNat,r.to (r.pos+n)):=by simp [bR,he,hc]
      rw [hB]
      (apply Af.of tF mF [.tmp 4] kp56 [(0,[(0,.nil,[])]),(4,[(5,.tup [],[(1000,Rd.box fun _=>r.fail r.fin 29)])])] Tryz.func56 (fun _=>?_);(any_goals ((with_reducible refine wI ?_);cbv;(try dsimp only [nc] at *);(repeat' (with_reducible first|exact aN.2 trivial|exact oN|refine oC ?_ ?_|refine VC.mk rfl ?_ ?_ ?_|refine Ca.mk (fun _=>?_) (fun _=>?_)|(refine Cv.mk ?_ ?_<;>intro zq<;>(try simp only [nc,cl] at zq)<;>(try simp only [bl,dl] at zq)<;>(revert zq;intro _))|((first|refine xE ?_|refine uE ?_);cbv;(try dsimp only [nc] at *)))))))
      all_goals (try (exfalso;first|omega|(rw [hw] at *;omega)))
      all_goals (try simp only [hw2,hw3] at *)
      ((all_goals (try (with_reducible ((first|refine rE ?_|refine nE ?_);(focus (cbv;(try dsimp only [nc] at *);(try simp only [wl,nc]);(repeat' (with_reducible apply And.intro));all_goals (try exact wZ)))))));(all_goals (try ((with_reducible rw [aC]);(try simp only [wl,nc]);(repeat' (with_reducible apply And.intro));(all_goals (try exact cZ))))))
      all_goals first
        | exact hw2
        | rfl
        | (simp only [hw2,hw3];done)
        | omega
  · have hB:bR r n=(⟨#[]⟩,r):=by simp [bR,he]
    rw [hB]
    (apply Af.of tF mF [.tmp 4] kp56 [(0,[(0,.nil,[])]),(4,[(5,.tup [],[(1000,Rd.box fun _=>r.fail r.fin 29)])])] Tryz.func56 (fun _=>?_);(any_goals ((with_reducible refine wI ?_);cbv;(try dsimp only [nc] at *);(repeat' (with_reducible first|exact aN.2 trivial|exact oN|refine oC ?_ ?_|refine VC.mk rfl ?_ ?_ ?_|refine Ca.mk (fun _=>?_) (fun _=>?_)|(refine Cv.mk ?_ ?_<;>intro zq<;>(try simp only [nc,cl] at zq)<;>(try simp only [bl,dl] at zq)<;>(revert zq;intro _))|((first|refine xE ?_|refine uE ?_);cbv;(try dsimp only [nc] at *)))))))
    all_goals (try (exfalso;omega))
    ((all_goals (try (with_reducible ((first|refine rE ?_|refine nE ?_);(focus (cbv;(try dsimp only [nc] at *);(try simp only [wl,nc]);(repeat' (with_reducible apply And.intro));all_goals (try exact wZ)))))));(all_goals (try ((with_reducible rw [aC]);(try simp only [wl,nc]);(repeat' (with_reducible apply And.intro));(all_goals (try exact cZ))))))
abbrev PL:=List (Int×ByteArray)
def rowsP (l:Unit→PL):(Unit→Nat)→List AV:=fun i=>[.int .i64 fun _=>((l ()).getD (i ()) default).1,.str fun _=>((l ()).getD (i ()) default).2]
def Rd.all (r:Rd):ByteArray:=r.s.extract r.pos.toNat r.fin.toNat
theorem bytes_all {r:Rd} (h:r.good) (he:r.e=0):bR r (r.fin - r.pos)=(r.all,r.to r.fin):=by
  simp only [bR,he,ne_eq,not_true_eq_false,if_false,Int.lt_irrefl,Rd.all]
  rw [show r.pos+(r.fin - r.pos)=r.fin by omega]
theorem rowsP_app {l:PL} {a:Int} {b:ByteArray}:∀ k,k<l.length+1→LeL (catF (fun _=>l.length) (rowsP fun _=>l) (litArr [[AV.int .i64 fun _=>a,AV.str fun _=>b]]) fun _=>k) (rowsP (fun _=>l++[(a,b)]) fun _=>k):=by
  refine cat_le (n:=fun _=>l.length) (m:=1) (fun k hk=>LeL.of_eq ?_) (fun k hk=>LeL.of_eq ?_)
  · have hk:k<l.length:=hk
    simp only [rowsP,List.getD_eq_getElem?_getD,List.getElem?_append_left hk]
  · have:k=0:=by omega
    subst this
    simp [rowsP,litArr]
theorem Parts1_ok (num:Int) (r:Rd) (h:r.good) (he:r.e=0) (l:PL) (hl:l.length≤1073741824) :
    Af Tryz.prog 55 [.int .i64 fun _=>num,.ptr 1001 0,.ptr 1002 0] [(1001,Rd.box fun _=>r),(1002,.box [.aref 1001002000 0 fun _=>l.length]),(1001002000,.arr false 60 2 0 (fun _=>l.length) (rowsP fun _=>l))]
      (.tup []) [(1001,Rd.box fun _=>r.to r.fin),(1002,.box [.aref 1001002000 1 fun _=>l.length+1]),(1001002000,.arr false 60 2 1 (fun _=>l.length+1) (rowsP fun _=>l++[(num,r.all)]))]:=by
  have hB:=bytes_ok r h (r.fin - r.pos) (by obtain ⟨h1,h2,h3,h4⟩:=h;omega)
  rw [bytes_all h he] at hB
  obtain ⟨h1,h2,h3,h4⟩:=h
  have hw:IntKind.i64.wrap (r.fin - r.pos)=r.fin - r.pos:=w64 (by omega) (by omega)
  (apply Af.of tF mF [] kp55 [(0,[(12,.str fun _=>r.all,[(1000,Rd.box fun _=>r.to r.fin)])])] Tryz.func55 (fun _=>?_);(any_goals ((with_reducible refine wI ?_);cbv;(try dsimp only [nc] at *);(repeat' (with_reducible first|exact aN.2 trivial|exact oN|refine oC ?_ ?_|refine VC.mk rfl ?_ ?_ ?_|refine Ca.mk (fun _=>?_) (fun _=>?_)|(refine Cv.mk ?_ ?_<;>intro zq<;>(try simp only [nc,cl] at zq)<;>(try simp only [bl,dl] at zq)<;>(revert zq;intro _))|((first|refine xE ?_|refine uE ?_);cbv;(try dsimp only [nc] at *)))))))
  all_goals (try simp only [hw])
  (any_goals ((with_reducible first|refine nO ?_|refine sO (fun _=>?_));(try dsimp only);(have q:=hB;refine Af.wN q ?_;clear q);(focus (cbv;(try dsimp only [nc] at *);(try simp only [wl,nc]);(repeat' (with_reducible apply And.intro));all_goals (try exact wZ)))))
  ((all_goals (try (with_reducible ((first|refine rE ?_|refine nE ?_);(focus (cbv;(try dsimp only [nc] at *);(try simp only [wl,nc]);(repeat' (with_reducible apply And.intro));all_goals (try exact wZ)))))));(all_goals (try ((with_reducible rw [aC]);(try simp only [wl,nc]);(repeat' (with_reducible apply And.intro));(all_goals (try exact cZ))))))
  exact rowsP_app
theorem fields1A_ok (num:Int) (r:Rd) (h:r.good) (he:r.e=0) (l:PL) (hl:l.length≤1073741824) :
    Af Tryz.prog 75 [.ptr 1000 0,.ptr 1001 0,.ptr 1002 0] [(1000,Rd.box fun _=>r),(1001,.box [.func 55 [.ptr 1002001000000 0]]),(1002,.box [.int .i64 fun _=>num]),(1002001000000,.box [.aref 1002002000000000 0 fun _=>l.length]),(1002002000000000,.arr false 60 2 0 (fun _=>l.length) (rowsP fun _=>l))]
      (.tup []) [(1000,Rd.box fun _=>r.to r.fin),(1001,.box [.func 55 [.ptr 1002001000000 0]]),(1002,.box [.int .i64 fun _=>num]),(1002001000000,.box [.aref 1002002000000000 1 fun _=>l.length+1]),(1002002000000000,.arr false 60 2 1 (fun _=>l.length+1) (rowsP fun _=>l++[(num,r.all)]))]:=by
  have hP:=Parts1_ok num r h he l hl
  (apply Af.of tF mF [] kp75 [(0,[(3,.tup [],[(1001,Rd.box fun _=>r.to r.fin),(1002,.box [.aref 1001002000 1 fun _=>l.length+1]),(1001002000,.arr false 60 2 1 (fun _=>l.length+1) (rowsP fun _=>l++[(num,r.all)]))])])] Tryz.func75 (fun _=>?_);(any_goals ((with_reducible refine wI ?_);cbv;(try dsimp only [nc] at *);(repeat' (with_reducible first|exact aN.2 trivial|exact oN|refine oC ?_ ?_|refine VC.mk rfl ?_ ?_ ?_|refine Ca.mk (fun _=>?_) (fun _=>?_)|(refine Cv.mk ?_ ?_<;>intro zq<;>(try simp only [nc,cl] at zq)<;>(try simp only [bl,dl] at zq)<;>(revert zq;intro _))|((first|refine xE ?_|refine uE ?_);cbv;(try dsimp only [nc] at *)))))))
  (any_goals ((with_reducible first|refine nO ?_|refine sO (fun _=>?_));(try dsimp only);(have q:=hP;refine Af.wN q ?_;clear q);(exact aZ)))
  (all_goals (try exact eZ))
def sub2 (r:Rd):Rd:=(bR (numR r).2 (numR r).1).2
def partA (num:Int) (l:PL) (r:Rd):PL×Rd:=if (sub2 r).e≠0 then (l,sub2 r) else (l++[(num,(Rd.mk r.s (numR r).2.pos (sub2 r).pos 0 0).all)],sub2 r)
theorem sub2_good {r:Rd} (h:r.good):(sub2 r).good∧(sub2 r).fin=r.fin∧(sub2 r).s=r.s∧r.pos≤(numR r).2.pos∧(numR r).2.pos≤(sub2 r).pos∧((sub2 r).e=0→r.e=0∧r.pos<(sub2 r).pos):=by
  obtain ⟨g1,g2,g3,g4,g5,g6,g7,g8⟩:=numR_good h
  obtain ⟨k1,k2,k3,k4,k5⟩:=bytesR_good g1 g2
  refine ⟨k1,k2.trans g4,k3.trans g5,g6,k4,fun q=>?_⟩
  obtain ⟨q1,q2,q3⟩:=k5 q
  obtain ⟨q4,q5⟩:=g7 q1
  exact ⟨q4,by show r.pos<(bR (numR r).2 (numR r).1).2.pos;omega⟩
theorem partA_ok (num:Int) (r:Rd) (h:r.good) (l:PL) (hl:l.length≤1073741824) :
    Af Tryz.prog 74 [.ptr 1000 0,.func 75 [.ptr 1001001000 0,.ptr 1001001001 0]] [(1000,Rd.box fun _=>r),(1001001000,.box [.func 55 [.ptr 1002002000000000 0]]),(1001001001,.box [.int .i64 fun _=>num]),(1002002000000000,.box [.aref 1002002001000000000 0 fun _=>l.length]),(1002002001000000000,.arr false 60 2 0 (fun _=>l.length) (rowsP fun _=>l))]
      (.tup []) [(1000,Rd.box fun _=>(partA num l r).2),(1001001000,.box [.func 55 [.ptr 1002002000000000 0]]),(1001001001,.box [.int .i64 fun _=>num]),(1002002000000000,.box [.aref 1002002001000000000 1 fun _=>(partA num l r).1.length]),(1002002001000000000,.arr false 60 2 1 (fun _=>(partA num l r).1.length) (rowsP fun _=>(partA num l r).1))]:=by
  obtain ⟨g1,g2,g3,g4,g5,g6,g7,g8⟩:=numR_good h
  obtain ⟨k1,k2,k3,k4,k5,k6⟩:=sub2_good h
  obtain ⟨r1,hr1⟩:∃ r1,r1=(numR r).2:=⟨_,rfl⟩
  obtain ⟨n,hn⟩:∃ n,n=(numR r).1:=⟨_,rfl⟩
  obtain ⟨r2,hr2⟩:∃ r2,r2=sub2 r:=⟨_,rfl⟩
  obtain ⟨x,hx⟩:∃ x,x=(bR r1 n).1:=⟨_,rfl⟩
  have hN:=number_ok r h
  have hB:=bytes_ok r1 (by rw [hr1];exact g1) n (by rw [hn];exact ⟨g2,g3⟩)
  have hs2:(bR r1 n).2=r2:=by rw [hr1,hn,hr2];rfl
  rw [← hn,← hr1] at hN
  rw [hs2,← hx] at hB
  obtain ⟨R,hR⟩:∃ R,R=partA num l r:=⟨_,rfl⟩
  rw [← hR]
  obtain ⟨p,hp⟩:∃ p,p=Rd.mk r.s r1.pos r2.pos 0 0:=⟨_,rfl⟩
  have hRe:R=if r2.e≠0 then (l,r2) else (l++[(num,p.all)],r2):=by rw [hR,hp,hr2,hr1];rfl
  rw [← hr2] at k1 k2 k3 k5 k6
  rw [← hr1] at k4 k5
  have hpg:p.good:=by
    rw [hp]
    obtain ⟨a1,a2,a3,a4⟩:=k1
    obtain ⟨b1,b2,b3,b4⟩:=h
    exact ⟨by show 0≤r1.pos;omega,k5,by show r2.pos≤r.s.size;omega,b4⟩
  have hF:=fields1A_ok num p hpg (by rw [hp]) l hl
  have hpe:p.s=r2.s∧p.pos=r1.pos∧p.fin=r2.pos∧p.bad=0∧p.e=0:=by rw [hp];exact ⟨k3.symm,rfl,rfl,rfl,rfl⟩
  clear hR hp hr2 hr1 hn hs2 hx
  (apply Af.of tF mF [] kp74 [(0,[(1,.int .i64 fun _=>n,[(1000,Rd.box fun _=>r1)])]),(2,[(2,.str fun _=>x,[(1000,Rd.box fun _=>r2)])]),
    (5,[(2,.tup [],[(1000,Rd.box fun _=>p.to p.fin),(1001,.box [.func 55 [.ptr 1002001000000 0]]),(1002,.box [.int .i64 fun _=>num]),(1002001000000,.box [.aref 1002002000000000 1 fun _=>l.length+1]),(1002002000000000,.arr false 60 2 1 (fun _=>l.length+1) (rowsP fun _=>l++[(num,p.all)]))])]),
    (7,[(5,.tup [],[(1000,Rd.box fun _=>p)])]),(9,[(9,.tup [],[(1000,Rd.box fun _=>r2)])])] Tryz.func74 (fun _=>?_);(any_goals ((with_reducible refine wI ?_);cbv;(try dsimp only [nc] at *);(repeat' (with_reducible first|exact aN.2 trivial|exact oN|refine oC ?_ ?_|refine VC.mk rfl ?_ ?_ ?_|refine Ca.mk (fun _=>?_) (fun _=>?_)|(refine Cv.mk ?_ ?_<;>intro zq<;>(try simp only [nc,cl] at zq)<;>(try simp only [bl,dl] at zq)<;>(revert zq;intro _))|((first|refine xE ?_|refine uE ?_);cbv;(try dsimp only [nc] at *)))))))
  all_goals (try exact absurd ‹(p.to p.fin).pos<(p.to p.fin).fin› (Int.lt_irrefl _))
  all_goals (try exact absurd hpe.2.2.2.2 ‹¬ (p.to p.fin).e=0›)
  (any_goals ((with_reducible first|refine nO ?_|refine sO (fun _=>?_))<;>exact hN))
  (any_goals ((with_reducible first|refine nO ?_|refine sO (fun _=>?_))<;>exact hB))
  (any_goals ((with_reducible first|refine nO ?_|refine sO (fun _=>?_));(try dsimp only);(have q:=hF;refine Af.wN q ?_;clear q);(focus (cbv;(try dsimp only [nc] at *);(try simp only [wl,nc]);(repeat' (with_reducible apply And.intro));all_goals (try exact wZ)))))
  ((all_goals (try (with_reducible ((first|refine rE ?_|refine nE ?_);(focus (cbv;(try dsimp only [nc] at *);(try simp only [wl,nc]);(repeat' (with_reducible apply And.intro));all_goals (try exact wZ)))))));(all_goals (try ((with_reducible rw [aC]);(try simp only [wl,nc]);(repeat' (with_reducible apply And.intro));(all_goals (try exact cZ))))))
  all_goals first
    | exact hpe.1.symm
    | (have hq:R=(l,r2):=by rw [hRe,if_pos ‹¬ r2.e=0›]
       rw [hq];done)
    | (have hq:R=(l,r2):=by rw [hRe,if_pos ‹¬ r2.e=0›]
       rw [hq];exact fun i _=>LeL.of_eq rfl)
    | (have hq:R=(l++[(num,p.all)],r2):=by rw [hRe,if_neg (fun z=>z ‹r2.e=0›)]
       rw [hq];done)
    | (have hq:R=(l++[(num,p.all)],r2):=by rw [hRe,if_neg (fun z=>z ‹r2.e=0›)]
       rw [hq];simp;done)
    | (have hq:R=(l++[(num,p.all)],r2):=by rw [hRe,if_neg (fun z=>z ‹r2.e=0›)]
       rw [hq];exact fun i _=>LeL.of_eq rfl)
def fieldsA:Nat→Int→PL→Rd→PL×Rd
  | 0,_,l,r=>(l,r)
  | n + 1,last,l,r =>
    if r.e≠0 then (l,r) else
    if (numR r).2.e≠0 then (l,(numR r).2) else
    fieldsA n (numR r).1 (partA (numR r).1 l (if (numR r).1<1∨9999<(numR r).1 then (numR r).2.fail r.pos 2 else if (numR r).1≤last then (numR r).2.fail r.pos 24 else (numR r).2)).1
      (partA (numR r).1 l (if (numR r).1<1∨9999<(numR r).1 then (numR r).2.fail r.pos 2 else if (numR r).1≤last then (numR r).2.fail r.pos 24 else (numR r).2)).2
end Go.Ai

namespace Go.Ai
open Go Go.Proofs
set_option maxRecDepth 100000
set_option maxHeartbeats 4000000
def stepR (last:Int) (r:Rd):Rd:=if (numR r).1<1∨9999<(numR r).1 then (numR r).2.fail r.pos 2 else if (numR r).1≤last then (numR r).2.fail r.pos 24 else (numR r).2
theorem fail_good {r:Rd} (h:r.good) (a e:Int):(r.fail a e).good∧(r.fail a e).fin=r.fin∧(r.fail a e).s=r.s∧(r.fail a e).pos=r.pos:=by
  unfold Rd.fail
  split
  · exact ⟨h,rfl,rfl,rfl⟩
  · exact ⟨h,rfl,rfl,rfl⟩
theorem stepR_good {r:Rd} (last:Int) (h:r.good):(stepR last r).good∧(stepR last r).fin=r.fin∧(stepR last r).s=r.s∧r.pos≤(stepR last r).pos:=by
  obtain ⟨g1,g2,g3,g4,g5,g6,g7,g8⟩:=numR_good h
  unfold stepR
  split
  · obtain ⟨a,b,c,d⟩:=fail_good g1 r.pos 2
    exact ⟨a,b.trans g4,c.trans g5,by omega⟩
  split
  · obtain ⟨a,b,c,d⟩:=fail_good g1 r.pos 24
    exact ⟨a,b.trans g4,c.trans g5,by omega⟩
  · exact ⟨g1,g4,g5,g6⟩
theorem partA_good {r:Rd} (k:Int) (l:PL) (h:r.good) (hl:(l.length:Int)≤r.pos):(partA k l r).2.good∧(partA k l r).2.fin=r.fin∧(partA k l r).2.s=r.s∧r.pos≤(partA k l r).2.pos∧((partA k l r).1.length:Int)≤(partA k l r).2.pos:=by
  obtain ⟨k1,k2,k3,k4,k5,k6⟩:=sub2_good h
  unfold partA
  split
  · exact ⟨k1,k2,k3,by show r.pos≤(sub2 r).pos;omega,by show (l.length:Int)≤(sub2 r).pos;omega⟩
  · have:=k6 (by omega)
    refine ⟨k1,k2,k3,by show r.pos≤(sub2 r).pos;omega,?_⟩
    show ((l++[_]).length:Int)≤(sub2 r).pos
    rw [List.length_append];simp only [List.length_cons,List.length_nil];omega
theorem fieldsA_succ (n:Nat) (last:Int) (l:PL) (r:Rd):fieldsA (n+1) last l r=if r.e≠0 then (l,r) else if (numR r).2.e≠0 then (l,(numR r).2) else fieldsA n (numR r).1 (partA (numR r).1 l (stepR last r)).1 (partA (numR r).1 l (stepR last r)).2:=rfl
theorem fieldsA_err (n:Nat) (last:Int) (l:PL) (r:Rd) (h:n=0∨r.e≠0):fieldsA n last l r=(l,r):=by
  cases n with
  | zero=>rfl
  | succ n=>rw [fieldsA_succ,if_pos (by omega)]
def fieldsV (r:Rd):PL×Rd:=fieldsA (numR r).1.toNat 0 [] (numR r).2
theorem fieldsA_ok (r:Rd) (h:r.good) (hs:r.s.size≤1073741824) :
    Af Tryz.prog 54 [.ptr 1000 0,.func 55 [.ptr 1001001000 0]] [(1000,Rd.box fun _=>r),(1001001000,.box [.nil])]
      (.tup []) [(1000,Rd.box fun _=>(fieldsV r).2),(1001001000,.box [.aref 200 1 fun _=>(fieldsV r).1.length]),(200,.arr false 60 2 1 (fun _=>(fieldsV r).1.length) (rowsP fun _=>(fieldsV r).1))]:=by
  obtain ⟨g1,g2,g3,g4,g5,g6,g7,g8⟩:=numR_good h
  have hN:=number_ok r h
  obtain ⟨R,hR⟩:∃ R,R=fieldsV r:=⟨_,rfl⟩
  rw [← hR]
  obtain ⟨r0,hr0⟩:∃ r0,r0=(numR r).2:=⟨_,rfl⟩
  obtain ⟨n,hn⟩:∃ n:Nat,(numR r).1=n:=⟨(numR r).1.toNat,by omega⟩
  have hRe:R=fieldsA n 0 [] r0:=by rw [hR,fieldsV,hn,hr0,Int.toNat_natCast]
  rw [hn,← hr0] at hN
  (apply Af.of tF mF [] kp54 [(2,[(1,.int .i64 fun _=>n,[(1000,Rd.box fun _=>r0)])])] Tryz.func54 (fun _=>?_);(any_goals ((with_reducible refine wI ?_);cbv;(try dsimp only [nc] at *);(repeat' (with_reducible first|exact aN.2 trivial|exact oN|refine oC ?_ ?_|refine VC.mk rfl ?_ ?_ ?_|refine Ca.mk (fun _=>?_) (fun _=>?_)|(refine Cv.mk ?_ ?_<;>intro zq<;>(try simp only [nc,cl] at zq)<;>(try simp only [bl,dl] at zq)<;>(revert zq;intro _))|((first|refine xE ?_|refine uE ?_);cbv;(try dsimp only [nc] at *)))))))
  (any_goals ((with_reducible first|refine nO ?_|refine sO (fun _=>?_))<;>exact hN))
  ((all_goals (try (with_reducible ((first|refine rE ?_|refine nE ?_);(focus (cbv;(try dsimp only [nc] at *);(try simp only [wl,nc]);(repeat' (with_reducible apply And.intro));all_goals (try exact wZ)))))));(all_goals (try ((with_reducible rw [aC]);(try simp only [wl,nc]);(repeat' (with_reducible apply And.intro));(all_goals (try exact cZ))))))
  refine .loop (fun p:Nat×Int×PL×Rd=>⟨54,[(5,.int .i64 fun _=>p.1),(4,.int .i64 fun _=>p.2.1),(3,.ptr 3 0),(0,.ptr 1000 0)],[(1000,Rd.box fun _=>p.2.2.2),(1001001000,.box [.aref 200 1 fun _=>p.2.2.1.length]),(3,.box [.func 55 [.ptr 1001001000 0]]),(200,.arr false 60 2 1 (fun _=>p.2.2.1.length) (rowsP fun _=>p.2.2.1))]⟩)
    (fun p=>p.1≤n∧p.2.2.2.good∧p.2.2.2.s=r.s∧(p.2.2.1.length:Int)≤p.2.2.2.pos∧R=fieldsA p.1 p.2.1 p.2.2.1 p.2.2.2) (fun p=>p.1) (n,0,[],r0) ⟨Nat.le_refl _,by rw [hr0];exact g1,by rw [hr0];exact g5,by rw [hr0];show (0:Int)≤_;exact g1.1,hRe⟩ ?_ fun p E hi=>?_
  · (focus (cbv;(try dsimp only [nc] at *);(try simp only [wl,nc]);(repeat' (with_reducible apply And.intro));all_goals (try exact wZ)))
  obtain ⟨i1,i2,i3,i4,i5⟩:=hi
  obtain ⟨q1,q2,q3,q4⟩:=id i2
  have hll:p.2.2.1.length≤1073741824:=by rw [i3] at q3;omega
  obtain ⟨e1,e2,e3,e4,e5,e6,e7,e8⟩:=numR_good i2
  obtain ⟨s1,s2,s3,s4⟩:=stepR_good p.2.1 i2
  have hNq:=number_ok p.2.2.2 i2
  obtain ⟨k,hk⟩:∃ k,k=(numR p.2.2.2).1:=⟨_,rfl⟩
  obtain ⟨w,hw⟩:∃ w,w=(numR p.2.2.2).2:=⟨_,rfl⟩
  obtain ⟨u,hu⟩:∃ u,u=stepR p.2.1 p.2.2.2:=⟨_,rfl⟩
  have hue:u=if k<1∨9999<k then w.fail p.2.2.2.pos 2 else if k≤p.2.1 then w.fail p.2.2.2.pos 24 else w:=by rw [hu,hk,hw];rfl
  have hpg:=partA_good k p.2.2.1 (hu ▸ s1) (by rw [hu];omega)
  have hPt:=partA_ok k u (hu ▸ s1) p.2.2.1 hll
  obtain ⟨X,hX⟩:∃ X,X=partA k p.2.2.1 u:=⟨_,rfl⟩
  rw [← hX] at hPt hpg
  rw [← hk,← hw] at hNq
  have hF1:=fail_ok w p.2.2.2.pos 2
  have hF2:=fail_ok w p.2.2.2.pos 24
  have hst:∀ m,p.1=m+1→p.2.2.2.e=0→R=if w.e≠0 then (p.2.2.1,w) else fieldsA m k X.1 X.2:=fun m hm he=>by
    rw [i5,hm,fieldsA_succ,if_neg (by omega),← hk,← hw,← hu,hX]
  rw [← hu] at s2 s3 s4
  clear hX hu hk hw
  have hns:(1≤k∧k≤9999)→p.2.1<k→u=w:=fun a b=>by rw [hue,if_neg (by omega),if_neg (by omega)]
  have hPw:(1≤k∧k≤9999)→p.2.1<k→_:=fun a b=>(hns a b) ▸ hPt
  apply AWp.wk tF mF [(6,[(1,.int .i64 fun _=>k,[(1000,Rd.box fun _=>w)])]),(9,[(2,.tup [],[(1000,Rd.box fun _=>u)])]),(11,[(2,.tup [],[(1000,Rd.box fun _=>u)])]),
    (13,[(2,.tup [],[(1000,Rd.box fun _=>X.2),(1001001000,.box [.func 55 [.ptr 1002002000000000 0]]),(1001001001,.box [.int .i64 fun _=>k]),(1002002000000000,.box [.aref 1002002001000000000 1 fun _=>X.1.length]),(1002002001000000000,.arr false 60 2 1 (fun _=>X.1.length) (rowsP fun _=>X.1))])])] kp54 ?_
  (any_goals ((with_reducible refine wI ?_);cbv;(try dsimp only [nc] at *);(repeat' (with_reducible first|exact aN.2 trivial|exact oN|refine oC ?_ ?_|refine VC.mk rfl ?_ ?_ ?_|refine Ca.mk (fun _=>?_) (fun _=>?_)|(refine Cv.mk ?_ ?_<;>intro zq<;>(try simp only [nc,cl] at zq)<;>(try simp only [bl,dl] at zq)<;>(revert zq;intro _))|((first|refine xE ?_|refine uE ?_);cbv;(try dsimp only [nc] at *))))))
  (any_goals ((with_reducible first|refine nO ?_|refine sO (fun _=>?_))<;>exact hNq))
  any_goals (with_reducible refine nO ?_)<;>first
    | (have hux:u=w.fail p.2.2.2.pos 2:=by rw [hue,if_pos ‹k<1∨9999<k›]
       rw [← hux] at hF1;exact hF1)
    | (have hux:u=w.fail p.2.2.2.pos 24:=by rw [hue,if_neg (by omega),if_pos ‹k≤p.2.1›]
       rw [← hux] at hF2;exact hF2)
    | exact hPt
    | exact hPw ‹1≤k∧k≤9999› ‹p.2.1<k›
  ((all_goals (try (with_reducible ((first|refine rE ?_|refine nE ?_);(focus (cbv;(try dsimp only [nc] at *);(try simp only [wl,nc]);(repeat' (with_reducible apply And.intro));all_goals (try exact wZ)))))));(all_goals (try ((with_reducible rw [aC]);(try simp only [wl,nc]);(repeat' (with_reducible apply And.intro));(all_goals (try exact cZ))))))
  all_goals (try (
    obtain ⟨m,hm⟩:∃ m,p.1=m+1:=⟨p.1 - 1,by omega⟩
    have hR':=hst m hm (And.right ‹_∧p.2.2.2.e=0›)
    rw [if_pos ‹¬ w.e=0›] at hR'
    rw [hR']
    first
      | done
      | exact fun i _=>LeL.of_eq rfl))
  all_goals (try (
    have hR':R=(p.2.2.1,p.2.2.2):=by rw [i5];exact fieldsA_err _ _ _ _ (by omega)
    rw [hR']
    first
      | done
      | exact fun i _=>LeL.of_eq rfl))
  all_goals
    obtain ⟨m,hm⟩:∃ m,p.1=m+1:=⟨p.1 - 1,by omega⟩
    have hR':=hst m hm (And.right ‹_∧p.2.2.2.e=0›)
    rw [if_neg (fun z=>z ‹w.e=0›)] at hR'
    refine dE (m,k,X.1,X.2) ⟨⟨by show m≤n;omega,hpg.1,by show X.2.s=r.s;rw [hpg.2.2.1,s3,i3],hpg.2.2.2.2,hR'⟩,by show m<p.1;omega⟩ ?_
    (focus (cbv;(try dsimp only [nc] at *);(try simp only [wl,nc]);(repeat' (with_reducible apply And.intro));all_goals (try exact wZ)))
    show IntKind.i64.wrap ((p.1:Int) - 1)=(m:Int)
    rw [w64 (by omega) (by omega)];omega
end Go.Ai
