/- Chapter 10: numbers are read from bytes. -/
import Derived.Test.YtlplmdipoacnlaaGreatDoorNum
set_option linter.all false
namespace Go.Ai
open Go Go.Proofs
set_option maxRecDepth 100000
set_option maxHeartbeats 2000000
structure Rd where
  s:ByteArray
  pos:Int
  fin:Int
  bad:Int
  e:Int
def Rd.box (r:Unit→Rd):AO:=.box [.str fun _=>(r ()).s,.int .i64 fun _=>(r ()).pos,.int .i64 fun _=>(r ()).fin,.int .i64 fun _=>(r ()).bad,.int .i64 fun _=>(r ()).e]
def Rd.fail (r:Rd) (a e:Int):Rd:=if r.e=0 then ⟨r.s,r.pos,r.fin,a,e⟩ else r
def Rd.to (r:Rd) (a:Int):Rd:=⟨r.s,a,r.fin,r.bad,r.e⟩
theorem fail_ok (r:Rd) (a e:Int):Af Tryz.prog 57 [.ptr 1000 0,.int .i64 fun _=>a,.int .i64 fun _=>e] [(1000,Rd.box fun _=>r)] (.tup []) [(1000,Rd.box fun _=>r.fail a e)]:=by
  by_cases h:r.e=0
  all_goals
    (apply Af.of tF mF [] kp57 [] Tryz.func57 (fun _=>?_);(any_goals ((with_reducible refine wI ?_);cbv;(try dsimp only [nc] at *);(repeat' (with_reducible first|exact aN.2 trivial|exact oN|refine oC ?_ ?_|refine VC.mk rfl ?_ ?_ ?_|refine Ca.mk (fun _=>?_) (fun _=>?_)|(refine Cv.mk ?_ ?_<;>intro zq<;>(try simp only [nc,cl] at zq)<;>(try simp only [bl,dl] at zq)<;>(revert zq;intro _))|((first|refine xE ?_|refine uE ?_);cbv;(try dsimp only [nc] at *)))))))
    ((all_goals (try (with_reducible ((first|refine rE ?_|refine nE ?_);(focus (cbv;(try dsimp only [nc] at *);(try simp only [wl,nc]);(repeat' (with_reducible apply And.intro));all_goals (try exact wZ)))))));(all_goals (try ((with_reducible rw [aC]);(try simp only [wl,nc]);(repeat' (with_reducible apply And.intro));(all_goals (try exact cZ))))))
    all_goals (try exact absurd ‹_› h)
    all_goals (try (simp only [Rd.fail,h,if_true,if_false];done))
def Rd.room (r:Rd):List Nat:=(((r.s.data.toList.map UInt8.toNat).take r.fin.toNat).drop r.pos.toNat)
def Rd.good (r:Rd):Prop:=0≤r.pos∧r.pos≤r.fin∧r.fin≤r.s.size∧r.s.size≤35184372088832
theorem Rd.room_len {r:Rd} (h:r.good):r.room.length=(r.fin - r.pos).toNat:=by
  have hs:r.s.data.toList.length=r.s.size:=Array.length_toList ..
  obtain ⟨h1,h2,h3,h4⟩:=h
  simp only [Rd.room,List.length_drop,List.length_take,List.length_map,hs]
  omega
theorem Rd.room_get {r:Rd} (h:r.good) {i:Nat} (hi:i<r.room.length):byt r.s (r.pos+i).toNat=((r.room.getD i 0:Nat):Int):=by
  have hl:=Rd.room_len h
  obtain ⟨h1,h2,h3,h4⟩:=h
  have hs:r.s.data.size=r.s.size:=rfl
  have e:(r.pos+i).toNat=r.pos.toNat+i:=by omega
  have hlt:r.pos.toNat+i<r.s.data.size:=by omega
  have hlt2:r.pos.toNat+i<r.fin.toNat:=by omega
  unfold byt
  rw [e]
  have hg:r.s.data[r.pos.toNat+i]? = some r.s.data[r.pos.toNat+i]:=Array.getElem?_eq_getElem hlt
  have:r.room[i]? = some (r.s.data[r.pos.toNat+i]).toNat:=by
    simp only [Rd.room,List.getElem?_drop,List.getElem?_take,if_pos hlt2,List.getElem?_map,Array.getElem?_toList,hg,Option.map_some]
  rw [List.getD_eq_getElem?_getD,this,hg]
  rfl
def valN (l:List Nat):Nat→Nat
  | 0=>0
  | i+1=>valN l i+l.getD i 0 % 128 * 128 ^ i
theorem valN_lt (l:List Nat):∀ i,valN l i<128 ^ i
  | 0=>by simp [valN]
  | i+1=>by
    have h1:=valN_lt l i
    have h2:l.getD i 0 % 128≤127:=by omega
    have h3:l.getD i 0 % 128 * 128 ^ i≤127 * 128 ^ i:=Nat.mul_le_mul_right _ h2
    simp only [valN,Nat.pow_succ]
    omega
theorem takeN_scan {l:List Nat}:∀ {i:Nat},i≤l.length→i≤9→(∀ j,j<i→128≤l.getD j 0)→takeN l 0 0=takeN (l.drop i) i (valN l i)
  | 0,_,_,_=>by simp [valN]
  | i + 1,h1,h2,h3=>by
    rw [takeN_scan (i:=i) (by omega) (by omega) fun j hj=>h3 j (by omega)]
    have hd:l.drop i=l.getD i 0 :: l.drop (i+1):=by
      rw [List.drop_eq_getElem_cons (by omega)];simp [List.getD,show i<l.length by omega]
    have:=h3 i (by omega)
    rw [hd,takeN,if_neg (by omega)]
    simp only [if_pos this,valN]
theorem takeN_end {l:List Nat} {i:Nat} (h1:i=l.length) (h2:i<9) (h3:∀ j,j<i→128≤l.getD j 0):takeN l 0 0=.error 1:=by
  rw [takeN_scan (by omega) (by omega) h3,List.drop_of_length_le (by omega),takeN,if_neg (by omega)]
theorem takeN_nine {l:List Nat} (h1:9≤l.length) (h3:∀ j,j<9→128≤l.getD j 0):takeN l 0 0=.error 2:=by
  rw [takeN_scan h1 (by omega) h3,takeN.eq_def]
  simp
theorem takeN_stop {l:List Nat} {i:Nat} (h1:i<l.length) (h2:i<9) (h3:∀ j,j<i→128≤l.getD j 0) (h4:l.getD i 0<128) :
    takeN l 0 0=if l.getD i 0=0∧0<i∨4611686018427387903<valN l (i+1) then .error 2 else .ok (valN l (i+1),i+1):=by
  have hd:l.drop i=l.getD i 0 :: l.drop (i+1):=by
    rw [List.drop_eq_getElem_cons h1];simp [List.getD,h1]
  rw [takeN_scan (by omega) (by omega) h3,hd,takeN,if_neg (by omega)]
  simp only [if_neg (show ¬ 128≤l.getD i 0 by omega),valN,Nat.mod_eq_of_lt h4]
def numR (r:Rd):Int×Rd :=
  if r.e≠0 then (0,r) else
  match takeN r.room 0 0 with
  | .ok (n,k)=>(n,r.to (r.pos+k))
  | .error k=>(0,if k=1 then r.fail r.fin 29 else r.fail r.pos 3)
theorem u64 {n:Nat} (h:n<18446744073709551616):IntKind.u64.wrap (n:Int)=(n:Int):=by simp [IntKind.wrap,IntKind.bits,IntKind.signed];omega
theorem acc_step {a b i:Nat} (ha:a<128 ^ i) (hi:i<9) :
    IntKind.u64.wrap ((BitVec.ofInt IntKind.u64.bits (a:Int) ||| BitVec.ofInt IntKind.u64.bits (IntKind.u64.wrap (IntKind.u64.wrap ((b:Int).tmod 128) * 2 ^ (min (IntKind.i64.wrap (7 * (i:Int))).toNat IntKind.u64.bits)))).toNat:Int)=((a+b % 128 * 128 ^ i:Nat):Int):=by
  have hx:b % 128<128:=Nat.mod_lt _ (by decide)
  have e0:(b:Int).tmod 128=((b % 128:Nat):Int):=rfl
  rw [e0]
  generalize b % 128=x at hx
  have hp:(128:Nat) ^ i=2 ^ (7 * i):=by rw [Nat.pow_mul]
  have h63:(2:Nat) ^ (7 * i)≤2 ^ 56:=Nat.pow_le_pow_right (by decide) (by omega)
  have h56:(2:Nat) ^ 56=72057594037927936:=by decide
  have hxm:x * 2 ^ (7 * i)≤127 * 2 ^ (7 * i):=Nat.mul_le_mul_right _ (by omega)
  have e1:(min (IntKind.i64.wrap (7 * (i:Int))).toNat IntKind.u64.bits)=7 * i:=by
    rw [w64 (by omega) (by omega)]
    have:(7 * (i:Int)).toNat=7 * i:=by omega
    rw [this]
    show min (7 * i) 64=_
    omega
  rw [e1,u64 (n:=x) (by omega),show ((x:Nat):Int) * 2 ^ (7 * i)=((x * 2 ^ (7 * i):Nat):Int) by simp,u64 (n:=x * 2 ^ (7 * i)) (by omega)]
  have hb:IntKind.u64.bits=64:=rfl
  rw [hb,BitVec.ofInt_natCast,BitVec.ofInt_natCast,BitVec.toNat_or,BitVec.toNat_ofNat,BitVec.toNat_ofNat,Nat.mod_eq_of_lt (by omega),Nat.mod_eq_of_lt (by omega)]
  have ho:a ||| x * 2 ^ (7 * i)=a+x * 2 ^ (7 * i):=by
    have:=Nat.shiftLeft_add_eq_or_of_lt (b:=a) (i:=7 * i) (by omega) x
    rw [Nat.shiftLeft_eq] at this
    rw [Nat.or_comm,← this,Nat.add_comm]
  rw [ho,hp,u64 (by omega)]
theorem numR_end {r:Rd} (he:r.e=0) (h:takeN r.room 0 0=.error 1):numR r=(0,r.fail r.fin 29):=by simp [numR,he,h]
theorem numR_bad {r:Rd} (he:r.e=0) (h:takeN r.room 0 0=.error 2):numR r=(0,r.fail r.pos 3):=by simp [numR,he,h]
theorem numR_get {r:Rd} (he:r.e=0) {n k:Nat} (h:takeN r.room 0 0=.ok (n,k)):numR r=((n:Int),r.to (r.pos+k)):=by simp [numR,he,h]
theorem number_ok (r:Rd) (h:r.good):Af Tryz.prog 50 [.ptr 1000 0] [(1000,Rd.box fun _=>r)] (.int .i64 fun _=>(numR r).1) [(1000,Rd.box fun _=>(numR r).2)]:=by
  by_cases he:r.e=0
  · (apply Af.of tF mF [.tmp 2] kp50 [(17,[(5,.tup [],[(1000,Rd.box fun _=>r.fail r.pos 3)])])] Tryz.func50 (fun _=>?_);(any_goals ((with_reducible refine wI ?_);cbv;(try dsimp only [nc] at *);(repeat' (with_reducible first|exact aN.2 trivial|exact oN|refine oC ?_ ?_|refine VC.mk rfl ?_ ?_ ?_|refine Ca.mk (fun _=>?_) (fun _=>?_)|(refine Cv.mk ?_ ?_<;>intro zq<;>(try simp only [nc,cl] at zq)<;>(try simp only [bl,dl] at zq)<;>(revert zq;intro _))|((first|refine xE ?_|refine uE ?_);cbv;(try dsimp only [nc] at *)))))))
    ((all_goals (try (with_reducible ((first|refine rE ?_|refine nE ?_);(focus (cbv;(try dsimp only [nc] at *);(try simp only [wl,nc]);(repeat' (with_reducible apply And.intro));all_goals (try exact wZ)))))));(all_goals (try ((with_reducible rw [aC]);(try simp only [wl,nc]);(repeat' (with_reducible apply And.intro));(all_goals (try exact cZ))))))
    all_goals (try exact absurd he ‹_›)
    have hl:=Rd.room_len h
    have hgd:=h
    obtain ⟨g1,g2,g3,g4⟩:=hgd
    have hs:r.s.size=r.s.data.size:=rfl
    refine .loop (fun i:Nat=>⟨80,[(11,.int .i64 fun _=>i),(3,.int .u64 fun _=>valN r.room i),(0,.ptr 1000 0)],[(1000,Rd.box fun _=>r)]⟩)
      (fun i=>i≤9∧i≤r.room.length∧∀ j,j<i→128≤r.room.getD j 0) (fun i=>9 - i) 0 (by simp) ?_ fun i E hi=>?_
    · (focus (cbv;(try dsimp only [nc] at *);(try simp only [wl,nc]);(repeat' (with_reducible apply And.intro));all_goals (try exact wZ)))
    have hw:IntKind.i64.wrap (r.pos+i)=r.pos+i:=w64 (by omega) (by omega)
    have hb:i<r.room.length→((r.s.data[(r.pos+i).toNat]?.getD 0).toNat:Int)=((r.room.getD i 0:Nat):Int):=fun q=>Rd.room_get h q
    have ha:i<9→∀ b:Nat,_:=fun q b=>acc_step (b:=b) (valN_lt r.room i) q
    have hv:=valN_lt r.room (i+1)
    apply AWp.wk tF mF [(8,[(5,.tup [],[(1000,Rd.box fun _=>r.fail r.fin 29)])])] kp50 ?_
    (any_goals ((with_reducible refine wI ?_);cbv;(try dsimp only [nc] at *);(repeat' (with_reducible first|exact aN.2 trivial|exact oN|refine oC ?_ ?_|refine VC.mk rfl ?_ ?_ ?_|refine Ca.mk (fun _=>?_) (fun _=>?_)|(refine Cv.mk ?_ ?_<;>intro zq<;>(try simp only [nc,cl] at zq)<;>(try simp only [bl,dl] at zq)<;>(revert zq;intro _))|((first|refine xE ?_|refine uE ?_);cbv;(try dsimp only [nc] at *))))))
    (any_goals ((with_reducible first|refine nO ?_|refine sO (fun _=>?_))<;>exact (fail_ok _ _ _)))
    ((all_goals (try (with_reducible ((first|refine rE ?_|refine nE ?_);(focus (cbv;(try dsimp only [nc] at *);(try simp only [wl,nc]);(repeat' (with_reducible apply And.intro));all_goals (try exact wZ)))))));(all_goals (try ((with_reducible rw [aC]);(try simp only [wl,nc]);(repeat' (with_reducible apply And.intro));(all_goals (try exact cZ))))))
    all_goals (simp only [hw] at *)
    all_goals first
      | (have hN:=numR_end he (takeN_end (i:=i) (by omega) (by omega) hi.2.2)
         rw [hN];done)
      | (have hN:=numR_bad he (takeN_nine (by omega) fun j hj=>hi.2.2 j (by omega))
         rw [hN];done)
      | (have hi9:i<9:=by omega
         have hil:i<r.room.length:=by omega
         have hbi:=hb hil
         simp only [hbi,ha hi9] at *
         first
           | (have hN:=numR_bad he ((takeN_stop hil hi9 hi.2.2 (by omega)).trans (if_pos (by simp only [valN];omega)))
              rw [hN];done)
           | (have hk:=valN_lt r.room (i+1)
              have hN:=numR_get he ((takeN_stop hil hi9 hi.2.2 (by omega)).trans (if_neg (by simp only [valN];omega)))
              rw [hN]
              first
                | rfl
                | (rw [w64 (by omega) (by omega)];rfl)
                | (simp only [valN,w64 (x:=(i:Int)+1) (by omega) (by omega),Rd.to];rw [w64 (by omega) (by omega)];first|rfl|omega))
           | (refine dE (i+1) ⟨⟨by omega,by omega,fun j hj=>?_⟩,by omega⟩ ?_
              · rcases Nat.lt_succ_iff_lt_or_eq.1 hj with hj|rfl
                · exact hi.2.2 j hj
                · omega
              · (focus (cbv;(try dsimp only [nc] at *);(try simp only [wl,nc]);(repeat' (with_reducible apply And.intro));all_goals (try exact wZ)))
                all_goals first|exact w64n (by omega)|rfl))
  · have hN:numR r=(0,r):=by simp [numR,he]
    rw [hN]
    (apply Af.of tF mF [.tmp 2] kp50 [(17,[(5,.tup [],[(1000,Rd.box fun _=>r)])])] Tryz.func50 (fun _=>?_);(any_goals ((with_reducible refine wI ?_);cbv;(try dsimp only [nc] at *);(repeat' (with_reducible first|exact aN.2 trivial|exact oN|refine oC ?_ ?_|refine VC.mk rfl ?_ ?_ ?_|refine Ca.mk (fun _=>?_) (fun _=>?_)|(refine Cv.mk ?_ ?_<;>intro zq<;>(try simp only [nc,cl] at zq)<;>(try simp only [bl,dl] at zq)<;>(revert zq;intro _))|((first|refine xE ?_|refine uE ?_);cbv;(try dsimp only [nc] at *)))))))
    all_goals (try exact absurd ‹r.e=0› he)
    ((all_goals (try (with_reducible ((first|refine rE ?_|refine nE ?_);(focus (cbv;(try dsimp only [nc] at *);(try simp only [wl,nc]);(repeat' (with_reducible apply And.intro));all_goals (try exact wZ)))))));(all_goals (try ((with_reducible rw [aC]);(try simp only [wl,nc]);(repeat' (with_reducible apply And.intro));(all_goals (try exact cZ))))))
def rdAt (s:ByteArray) (a:Int):Rd:=⟨s,a,s.size,0,0⟩
theorem rdAt_good {s:ByteArray} {a:Int} (h0:0≤a) (h1:a≤s.size) (hs:s.size≤35184372088832):(rdAt s a).good:=⟨h0,h1,Int.le_refl _,hs⟩
end Go.Ai
