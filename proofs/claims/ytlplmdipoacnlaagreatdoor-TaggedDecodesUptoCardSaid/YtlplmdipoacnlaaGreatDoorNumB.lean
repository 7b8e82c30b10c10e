/- Chapter 10: numbers are read from bytes. -/
import Derived.Test.YtlplmdipoacnlaaGreatDoorNum
set_option linter.all false
namespace Go.Ai
open Go Go.Proofs
set_option maxRecDepth 100000
set_option maxHeartbeats 2000000
structure Rd where
  s:ByteArray
  pos:Int
  fin:Int
  bad:Int
  e:Int
def Rd.box (r:Unit→Rd):AO:=.box [.str fun _=>(r ()).s,.int .i64 fun _=>(r ()).pos,.int .i64 fun _=>(r ()).fin,.int .i64 fun _=>(r ()).bad,.int .i64 fun _=>(r ()).e]
def Rd.fail (r:Rd) (a e:Int):Rd:=if r.e=0 then ⟨r.s,r.pos,r.fin,a,e⟩ else r
def Rd.to (r:Rd) (a:Int):Rd:=⟨r.s,a,r.fin,r.bad,r.e⟩
theorem fail_ok (r:Rd) (a e:Int):Af Tryz.prog 57 [.ptr 1000 0,.int .i64 fun _=>a,.int .i64 fun _=>e] [(1000,Rd.box fun _=>r)] (.tup []) [(1000,Rd.box fun _=>r.fail a e)]:=by
  by_cases h:r.e=0
  all_goals
    (apply Af.of tF mF [] kp57 [] Tryz.func57 (fun _=>?_);(any_goals ((with_reducible refine wI ?_);cbv;(try dsimp only [nc] at *);(repeat' (with_reducible first|exact aO|exact oN|refine oC ?_ ?_|refine VC.mk rfl ?_ ?_ ?_|(apply Ca.mk<;>intro _)|(apply Cv.mk<;>intro zq<;>(try simp only [nc,cl] at zq)<;>(try simp only [bl,dl] at zq)<;>(revert zq;intro _))|((first|apply xE|apply uE);cbv;(try dsimp only [nc] at *)))))))
    ((all_goals (try (with_reducible ((first|refine rE ?_|refine nE ?_);(focus (cbv;(try dsimp only [nc] at *);(try simp only [wl,nc]);(repeat' (with_reducible apply And.intro));all_goals (try exact wZ)))))));(all_goals (try ((with_reducible rw [aC]);(try simp only [wl,nc]);(repeat' (with_reducible apply And.intro));(all_goals (try exact cZ))))))
    all_goals (try exact absurd ‹_› h)
    all_goals (try (simp only [Rd.fail,h,if_true,if_false];done))
def Rd.room (r:Rd):List Nat:=(((r.s.data.toList.map UInt8.toNat).take r.fin.toNat).drop r.pos.toNat)
def Rd.good (r:Rd):Prop:=0≤r.pos∧r.pos≤r.fin∧r.fin≤r.s.size∧r.s.size≤35184372088832
theorem Rd.room_len {r:Rd} (h:r.good):r.room.length=(r.fin - r.pos).toNat:=by
  have hs:r.s.data.toList.length=r.s.size:=Array.length_toList ..
  obtain ⟨h1,h2,h3,h4⟩:=h
  simp only [Rd.room,List.length_drop,List.length_take,List.length_map,hs]
  omega
theorem Rd.room_get {r:Rd} (h:r.good) {i:Nat} (hi:i<r.room.length):byt r.s (r.pos+i).toNat=((r.room.getD i 0:Nat):Int):=by
  have hl:=Rd.room_len h
  obtain ⟨h1,h2,h3,h4⟩:=h
  have hs:r.s.data.size=r.s.size:=rfl
  have e:(r.pos+i).toNat=r.pos.toNat+i:=by omega
  have hlt:r.pos.toNat+i<r.s.data.size:=by omega
  have hlt2:r.pos.toNat+i<r.fin.toNat:=by omega
  unfold byt
  rw [e]
  have hg:r.s.data[r.pos.toNat+i]? = some r.s.data[r.pos.toNat+i]:=Array.getElem?_eq_getElem hlt
  have:r.room[i]? = some (r.s.data[r.pos.toNat+i]).toNat:=by
    simp only [Rd.room,List.getElem?_drop,List.getElem?_take,if_pos hlt2,List.getElem?_map,Array.getElem?_toList,hg,Option.map_some]
  rw [List.getD_eq_getElem?_getD,this,hg]
  rfl
theorem byt_lt (s:ByteArray) (i:Nat):0≤byt s i∧byt s i<256:=by
  unfold byt
  have:=((s.data[i]?).getD 0).toNat_lt
  omega
def valN (l:List Nat):Nat→Nat
  | 0=>0
  | i+1=>valN l i+l.getD i 0 % 128 * 128 ^ i
theorem valN_lt (l:List Nat):∀ i,valN l i<128 ^ i
  | 0=>by simp [valN]
  | i+1=>by
    have h1:=valN_lt l i
    have h2:l.getD i 0 % 128≤127:=by omega
    have h3:l.getD i 0 % 128 * 128 ^ i≤127 * 128 ^ i:=Nat.mul_le_mul_right _ h2
    simp only [valN,Nat.pow_succ]
    omega
theorem takeN_scan {l:List Nat}:∀ {i:Nat},i≤l.length→i≤9→(∀ j,j<i→128≤l.getD j 0)→takeN l 0 0=takeN (l.drop i) i (valN l i)
  | 0,_,_,_=>by simp [valN]
  | i + 1,h1,h2,h3=>by
    rw [takeN_scan (i:=i) (by omega) (by omega) fun j hj=>h3 j (by omega)]
    have hd:l.drop i=l.getD i 0 :: l.drop (i+1):=by
      rw [List.drop_eq_getElem_cons (by omega)];simp [List.getD,show i<l.length by omega]
    have:=h3 i (by omega)
    rw [hd,takeN,if_neg (by omega)]
    simp only [if_pos this,valN]
theorem takeN_end {l:List Nat} {i:Nat} (h1:i=l.length) (h2:i<9) (h3:∀ j,j<i→128≤l.getD j 0):takeN l 0 0=.error 1:=by
  rw [takeN_scan (by omega) (by omega) h3,List.drop_of_length_le (by omega),takeN,if_neg (by omega)]
theorem takeN_nine {l:List Nat} (h1:9≤l.length) (h3:∀ j,j<9→128≤l.getD j 0):takeN l 0 0=.error 2:=by
  rw [takeN_scan h1 (by omega) h3,takeN.eq_def]
  simp
theorem takeN_stop {l:List Nat} {i:Nat} (h1:i<l.length) (h2:i<9) (h3:∀ j,j<i→128≤l.getD j 0) (h4:l.getD i 0<128) :
    takeN l 0 0=if l.getD i 0=0∧0<i∨4611686018427387903<valN l (i+1) then .error 2 else .ok (valN l (i+1),i+1):=by
  have hd:l.drop i=l.getD i 0 :: l.drop (i+1):=by
    rw [List.drop_eq_getElem_cons h1];simp [List.getD,h1]
  rw [takeN_scan (by omega) (by omega) h3,hd,takeN,if_neg (by omega)]
  simp only [if_neg (show ¬ 128≤l.getD i 0 by omega),valN,Nat.mod_eq_of_lt h4]
def nR (r:Rd):Int×Rd :=
  if r.e≠0 then (0,r) else
  match takeN r.room 0 0 with
  | .ok (n,k)=>(n,r.to (r.pos+k))
  | .error k=>(0,if k=1 then r.fail r.fin 29 else r.fail r.pos 3)
theorem u64 {n:Nat} (h:n<18446744073709551616):IntKind.u64.wrap (n:Int)=(n:Int):=by simp [IntKind.wrap,IntKind.bits,IntKind.signed];omega
theorem acc_step {a b i:Nat} (ha:a<128 ^ i) (hi:i<9) :
    IntKind.u64.wrap ((BitVec.ofInt IntKind.u64.bits (a:Int) ||| BitVec.ofInt IntKind.u64.bits (IntKind.u64.wrap (IntKind.u64.wrap ((b:Int).tmod 128) * 2 ^ (min (IntKind.i64.wrap (7 * (i:Int))).toNat IntKind.u64.bits)))).toNat:Int)=((a+b % 128 * 128 ^ i:Nat):Int):=by
  have hx:b % 128<128:=Nat.mod_lt _ (by decide)
  have e0:(b:Int).tmod 128=((b % 128:Nat):Int):=rfl
  rw [e0]
  generalize b % 128=x at hx
  have hp:(128:Nat) ^ i=2 ^ (7 * i):=by rw [Nat.pow_mul]
  have h63:(2:Nat) ^ (7 * i)≤2 ^ 56:=Nat.pow_le_pow_right (by decide) (by omega)
  have h56:(2:Nat) ^ 56=72057594037927936:=by decide
  have hxm:x * 2 ^ (7 * i)≤127 * 2 ^ (7 * i):=Nat.mul_le_mul_right _ (by omega)
  have e1:(min (IntKind.i64.wrap (7 * (i:Int))).toNat IntKind.u64.bits)=7 * i:=by
    rw [w64 (by omega) (by omega)]
    have:(7 * (i:Int)).toNat=7 * i:=by omega
    rw [this]
    show min (7 * i) 64=_
    omega
  rw [e1,u64 (n:=x) (by omega),show ((x:Nat):Int) * 2 ^ (7 * i)=((x * 2 ^ (7 * i):Nat):Int) by simp,u64 (n:=x * 2 ^ (7 * i)) (by omega)]
  have hb:IntKind.u64.bits=64:=rfl
  rw [hb,BitVec.ofInt_natCast,BitVec.ofInt_natCast,BitVec.toNat_or,BitVec.toNat_ofNat,BitVec.toNat_ofNat,Nat.mod_eq_of_lt (by omega),Nat.mod_eq_of_lt (by omega)]
  have ho:a ||| x * 2 ^ (7 * i)=a+x * 2 ^ (7 * i):=by
    have:=Nat.shiftLeft_add_eq_or_of_lt (b:=a) (i:=7 * i) (by omega) x
    rw [Nat.shiftLeft_eq] at this
    rw [Nat.or_comm,← this,Nat.add_comm]
  rw [ho,hp,u64 (by omega)]
theorem numR_end {r:Rd} (he:r.e=0) (h:takeN r.room 0 0=.error 1):nR r=(0,r.fail r.fin 29):=by simp [nR,he,h]
theorem numR_bad {r:Rd} (he:r.e=0) (h:takeN r.room 0 0=.error 2):nR r=(0,r.fail r.pos 3):=by simp [nR,he,h]
theorem numR_get {r:Rd} (he:r.e=0) {n k:Nat} (h:takeN r.room 0 0=.ok (n,k)):nR r=((n:Int),r.to (r.pos+k)):=by simp [nR,he,h]
theorem number_ok (r:Rd) (h:r.good):Af Tryz.prog 50 [.ptr 1000 0] [(1000,Rd.box fun _=>r)] (.int .i64 fun _=>(nR r).1) [(1000,Rd.box fun _=>(nR r).2)]:=by
  by_cases he:r.e=0
  · (apply Af.of tF mF [.tmp 2] kp50 [(17,[(5,.tup [],[(1000,Rd.box fun _=>r.fail r.pos 3)])])] Tryz.func50 (fun _=>?_);(any_goals ((with_reducible refine wI ?_);cbv;(try dsimp only [nc] at *);(repeat' (with_reducible first|exact aO|exact oN|refine oC ?_ ?_|refine VC.mk rfl ?_ ?_ ?_|(apply Ca.mk<;>intro _)|(apply Cv.mk<;>intro zq<;>(try simp only [nc,cl] at zq)<;>(try simp only [bl,dl] at zq)<;>(revert zq;intro _))|((first|apply xE|apply uE);cbv;(try dsimp only [nc] at *)))))))
    ((all_goals (try (with_reducible ((first|refine rE ?_|refine nE ?_);(focus (cbv;(try dsimp only [nc] at *);(try simp only [wl,nc]);(repeat' (with_reducible apply And.intro));all_goals (try exact wZ)))))));(all_goals (try ((with_reducible rw [aC]);(try simp only [wl,nc]);(repeat' (with_reducible apply And.intro));(all_goals (try exact cZ))))))
    all_goals (try exact absurd he ‹_›)
    have hl:=Rd.room_len h
    have hgd:=h
    obtain ⟨g1,g2,g3,g4⟩:=hgd
    have hs:r.s.size=r.s.data.size:=rfl
    refine .loop (fun i:Nat=>⟨80,[(11,.int .i64 fun _=>i),(3,.int .u64 fun _=>valN r.room i),(0,.ptr 1000 0)],[(1000,Rd.box fun _=>r)]⟩)
      (fun i=>i≤9∧i≤r.room.length∧∀ j,j<i→128≤r.room.getD j 0) (fun i=>9 - i) 0 (by simp) ?_ fun i E hi=>?_
    · (focus (cbv;(try dsimp only [nc] at *);(try simp only [wl,nc]);(repeat' (with_reducible apply And.intro));all_goals (try exact wZ)))
    have hw:IntKind.i64.wrap (r.pos+i)=r.pos+i:=w64 (by omega) (by omega)
    have hb:i<r.room.length→((r.s.data[(r.pos+i).toNat]?.getD 0).toNat:Int)=((r.room.getD i 0:Nat):Int):=fun q=>Rd.room_get h q
    have ha:i<9→∀ b:Nat,_:=fun q b=>acc_step (b:=b) (valN_lt r.room i) q
    have hv:=valN_lt r.room (i+1)
    apply AWp.wk tF mF [(8,[(5,.tup [],[(1000,Rd.box fun _=>r.fail r.fin 29)])])] kp50 ?_
    (any_goals ((with_reducible refine wI ?_);cbv;(try dsimp only [nc] at *);(repeat' (with_reducible first|exact aO|exact oN|refine oC ?_ ?_|refine VC.mk rfl ?_ ?_ ?_|(apply Ca.mk<;>intro _)|(apply Cv.mk<;>intro zq<;>(try simp only [nc,cl] at zq)<;>(try simp only [bl,dl] at zq)<;>(revert zq;intro _))|((first|apply xE|apply uE);cbv;(try dsimp only [nc] at *))))))
    (any_goals ((with_reducible refine bZ ?_)<;>exact (fail_ok _ _ _)))
    ((all_goals (try (with_reducible ((first|refine rE ?_|refine nE ?_);(focus (cbv;(try dsimp only [nc] at *);(try simp only [wl,nc]);(repeat' (with_reducible apply And.intro));all_goals (try exact wZ)))))));(all_goals (try ((with_reducible rw [aC]);(try simp only [wl,nc]);(repeat' (with_reducible apply And.intro));(all_goals (try exact cZ))))))
    all_goals (simp only [hw] at *)
    all_goals first
      | (have hN:=numR_end he (takeN_end (i:=i) (by omega) (by omega) hi.2.2)
         rw [hN];done)
      | (have hN:=numR_bad he (takeN_nine (by omega) fun j hj=>hi.2.2 j (by omega))
         rw [hN];done)
      | (have hi9:i<9:=by omega
         have hil:i<r.room.length:=by omega
         have hbi:=hb hil
         simp only [hbi,ha hi9] at *
         first
           | (have hN:=numR_bad he ((takeN_stop hil hi9 hi.2.2 (by omega)).trans (if_pos (by simp only [valN];omega)))
              rw [hN];done)
           | (have hk:=valN_lt r.room (i+1)
              have hN:=numR_get he ((takeN_stop hil hi9 hi.2.2 (by omega)).trans (if_neg (by simp only [valN];omega)))
              rw [hN]
              first
                | rfl
                | (rw [w64 (by omega) (by omega)];rfl)
                | (simp only [valN,w64 (x:=(i:Int)+1) (by omega) (by omega),Rd.to];rw [w64 (by omega) (by omega)];first|rfl|omega))
           | (refine dE (i+1) ⟨⟨by omega,by omega,fun j hj=>?_⟩,by omega⟩ ?_
              · rcases Nat.lt_succ_iff_lt_or_eq.1 hj with hj|rfl
                · exact hi.2.2 j hj
                · omega
              · (focus (cbv;(try dsimp only [nc] at *);(try simp only [wl,nc]);(repeat' (with_reducible apply And.intro));all_goals (try exact wZ)))
                all_goals first|exact w64n (by omega)|rfl))
  · have hN:nR r=(0,r):=by simp [nR,he]
    rw [hN]
    (apply Af.of tF mF [.tmp 2] kp50 [(17,[(5,.tup [],[(1000,Rd.box fun _=>r)])])] Tryz.func50 (fun _=>?_);(any_goals ((with_reducible refine wI ?_);cbv;(try dsimp only [nc] at *);(repeat' (with_reducible first|exact aO|exact oN|refine oC ?_ ?_|refine VC.mk rfl ?_ ?_ ?_|(apply Ca.mk<;>intro _)|(apply Cv.mk<;>intro zq<;>(try simp only [nc,cl] at zq)<;>(try simp only [bl,dl] at zq)<;>(revert zq;intro _))|((first|apply xE|apply uE);cbv;(try dsimp only [nc] at *)))))))
    all_goals (try exact absurd ‹r.e=0› he)
    ((all_goals (try (with_reducible ((first|refine rE ?_|refine nE ?_);(focus (cbv;(try dsimp only [nc] at *);(try simp only [wl,nc]);(repeat' (with_reducible apply And.intro));all_goals (try exact wZ)))))));(all_goals (try ((with_reducible rw [aC]);(try simp only [wl,nc]);(repeat' (with_reducible apply And.intro));(all_goals (try exact cZ))))))
def rdAt (s:ByteArray) (a:Int):Rd:=⟨s,a,s.size,0,0⟩
theorem rdAt_good {s:ByteArray} {a:Int} (h0:0≤a) (h1:a≤s.size) (hs:s.size≤35184372088832):(rdAt s a).good:=⟨h0,h1,Int.le_refl _,hs⟩
def tV (s:ByteArray) (a:Int):Int×Int×Int×Int :=
  match takeN (rdAt s a).room 0 0 with
  | .ok (n,k)=>(n,a+k,0,0)
  | .error k=>(0,0,if k=1 then (s.size,29) else (a,3))
theorem refTake_end {s:ByteArray} {a:Int} (h:takeN (rdAt s a).room 0 0=.error 1):tV s a=(0,0,(s.size:Int),29):=by simp [tV,h]
theorem refTake_bad {s:ByteArray} {a:Int} (h:takeN (rdAt s a).room 0 0=.error 2):tV s a=(0,0,a,3):=by simp [tV,h]
theorem refTake_get {s:ByteArray} {a:Int} {n k:Nat} (h:takeN (rdAt s a).room 0 0=.ok (n,k)):tV s a=((n:Int),a+k,0,0):=by simp [tV,h]
theorem valN_most {l:List Nat} {i:Nat} (hi:i<9) (hb:l.getD i 0<128):4611686018427387903<valN l (i+1)↔i=8∧63<l.getD i 0:=by
  have h1:=valN_lt l i
  have e:l.getD i 0 % 128=l.getD i 0:=Nat.mod_eq_of_lt hb
  simp only [valN,e]
  have hcase:i=8∨i≤7:=by omega
  rcases hcase with rfl|h
  · have h8:(128:Nat) ^ 8=72057594037927936:=by decide
    rw [h8] at h1 ⊢
    omega
  · have hp:(128:Nat) ^ i≤128 ^ 7:=Nat.pow_le_pow_right (by decide) h
    have h7:(128:Nat) ^ 7=562949953421312:=by decide
    have hm:l.getD i 0 * 128 ^ i≤127 * 128 ^ 7:=Nat.mul_le_mul (by omega) hp
    rw [h7] at hp hm
    omega
theorem refTake_ok (s:ByteArray) (a:Int) (h0:0≤a) (h1:a≤s.size) (hs:s.size≤35184372088832):Af Tryz.prog 22 [.str fun _=>s,.int .i64 fun _=>a] []
    (.tup [.int .i64 fun _=>(tV s a).1,.int .i64 fun _=>(tV s a).2.1,.int .i64 fun _=>(tV s a).2.2.1,.int .i64 fun _=>(tV s a).2.2.2]) []:=by
  have hg:=rdAt_good h0 h1 hs
  have hl:=Rd.room_len hg
  have hl2:(rdAt s a).room.length=((s.size:Int) - a).toNat:=hl
  have hsz:s.size=s.data.size:=rfl
  (apply Af.of tF mF [.tmp 4,.tmp 5,.tmp 6,.tmp 7] kp22 [] Tryz.func22 (fun _=>?_);(any_goals ((with_reducible refine wI ?_);cbv;(try dsimp only [nc] at *);(repeat' (with_reducible first|exact aO|exact oN|refine oC ?_ ?_|refine VC.mk rfl ?_ ?_ ?_|(apply Ca.mk<;>intro _)|(apply Cv.mk<;>intro zq<;>(try simp only [nc,cl] at zq)<;>(try simp only [bl,dl] at zq)<;>(revert zq;intro _))|((first|apply xE|apply uE);cbv;(try dsimp only [nc] at *)))))))
  ((all_goals (try (with_reducible ((first|refine rE ?_|refine nE ?_);(focus (cbv;(try dsimp only [nc] at *);(try simp only [wl,nc]);(repeat' (with_reducible apply And.intro));all_goals (try exact wZ)))))));(all_goals (try ((with_reducible rw [aC]);(try simp only [wl,nc]);(repeat' (with_reducible apply And.intro));(all_goals (try exact cZ))))))
  refine .loop (fun i:Nat=>⟨82,[(8,.int .i64 fun _=>a+i),(4,.int .i64 fun _=>0),(1,.int .i64 fun _=>a),(0,.str fun _=>s)],[]⟩)
    (fun i=>i≤9∧i≤(rdAt s a).room.length∧∀ j,j<i→128≤(rdAt s a).room.getD j 0) (fun i=>9 - i) 0 (by simp) ?_ fun i E hi=>?_
  · (focus (cbv;(try dsimp only [nc] at *);(try simp only [wl,nc]);(repeat' (with_reducible apply And.intro));all_goals (try exact wZ)))
  have hw:IntKind.i64.wrap (a+i - a)=i:=by rw [w64 (by omega) (by omega)];omega
  have hb:i<(rdAt s a).room.length→((s.data[(a+i).toNat]?.getD 0).toNat:Int)=(((rdAt s a).room.getD i 0:Nat):Int):=fun q=>Rd.room_get hg q
  apply AWp.wk tF mF [] kp22 ?_
  (any_goals ((with_reducible refine wI ?_);cbv;(try dsimp only [nc] at *);(repeat' (with_reducible first|exact aO|exact oN|refine oC ?_ ?_|refine VC.mk rfl ?_ ?_ ?_|(apply Ca.mk<;>intro _)|(apply Cv.mk<;>intro zq<;>(try simp only [nc,cl] at zq)<;>(try simp only [bl,dl] at zq)<;>(revert zq;intro _))|((first|apply xE|apply uE);cbv;(try dsimp only [nc] at *))))))
  ((all_goals (try (with_reducible ((first|refine rE ?_|refine nE ?_);(focus (cbv;(try dsimp only [nc] at *);(try simp only [wl,nc]);(repeat' (with_reducible apply And.intro));all_goals (try exact wZ)))))));(all_goals (try ((with_reducible rw [aC]);(try simp only [wl,nc]);(repeat' (with_reducible apply And.intro));(all_goals (try exact cZ))))))
  all_goals (try simp only [hw] at *)
  all_goals first
    | (rw [refTake_bad (takeN_nine (by omega) fun j hj=>hi.2.2 j (by omega))];done)
    | (rw [refTake_end (takeN_end (i:=i) (by omega) (by omega) hi.2.2)];done)
    | (have hil:i<(rdAt s a).room.length:=by omega
       have hbi:=hb hil
       simp only [hbi] at *
       first
         | (refine dE (i+1) ⟨⟨by omega,by omega,fun j hj=>?_⟩,by omega⟩ ?_
            · rcases Nat.lt_succ_iff_lt_or_eq.1 hj with hj|rfl
              · exact hi.2.2 j hj
              · omega
            · (focus (cbv;(try dsimp only [nc] at *);(try simp only [wl,nc]);(repeat' (with_reducible apply And.intro));all_goals (try exact wZ)))
              rw [w64 (by omega) (by omega)];omega)
         | (have hi9:i<9:=by omega
            have hb8:(rdAt s a).room.getD i 0<128:=by omega
            have hm:=valN_most hi9 hb8
            rw [refTake_bad ((takeN_stop hil hi9 hi.2.2 hb8).trans (if_pos (by rw [hm];omega)))]
            done)
         | skip)
  have hil:i<(rdAt s a).room.length:=by omega
  have hi9:i<9:=by omega
  have hb8:(rdAt s a).room.getD i 0<128:=by omega
  have hm:=valN_most hi9 hb8
  have hT:=refTake_get ((takeN_stop hil hi9 hi.2.2 hb8).trans (if_neg (by rw [hm];omega)))
  generalize hV:valN (rdAt s a).room (i+1)=V at hT hm
  have hVm:V≤4611686018427387903:=by omega
  refine .loop (fun c:Nat×Nat=>⟨82,[(9,.int .i64 fun _=>a+c.1 - 1),(8,.int .i64 fun _=>a+i),(4,.int .i64 fun _=>c.2),(1,.int .i64 fun _=>a),(0,.str fun _=>s)],[]⟩)
    (fun c=>c.1≤i+1∧c.2 * 128 ^ c.1+valN (rdAt s a).room c.1=V) (fun c=>c.1) (i+1,0) ⟨Nat.le_refl _,by rw [hV];simp⟩ ?_ fun c E hc=>?_
  · (focus (cbv;(try dsimp only [nc] at *);(try simp only [wl,nc]);(repeat' (with_reducible apply And.intro));all_goals (try exact wZ)))
  apply AWp.wk tF mF [] kp22 ?_
  (any_goals ((with_reducible refine wI ?_);cbv;(try dsimp only [nc] at *);(repeat' (with_reducible first|exact aO|exact oN|refine oC ?_ ?_|refine VC.mk rfl ?_ ?_ ?_|(apply Ca.mk<;>intro _)|(apply Cv.mk<;>intro zq<;>(try simp only [nc,cl] at zq)<;>(try simp only [bl,dl] at zq)<;>(revert zq;intro _))|((first|apply xE|apply uE);cbv;(try dsimp only [nc] at *))))))
  ((all_goals (try (with_reducible ((first|refine rE ?_|refine nE ?_);(focus (cbv;(try dsimp only [nc] at *);(try simp only [wl,nc]);(repeat' (with_reducible apply And.intro));all_goals (try exact wZ)))))));(all_goals (try ((with_reducible rw [aC]);(try simp only [wl,nc]);(repeat' (with_reducible apply And.intro));(all_goals (try exact cZ))))))
  · obtain ⟨d,hd⟩:∃ d,c.1=d+1:=⟨c.1 - 1,by omega⟩
    have hc2:=hc.2
    simp only [hd,valN,Nat.pow_succ] at hc2
    obtain ⟨n',hn'⟩:∃ n',n'=c.2 * 128+(rdAt s a).room.getD d 0 % 128:=⟨_,rfl⟩
    have hV2:n' * 128 ^ d+valN (rdAt s a).room d=V:=by
      rw [← hc2,hn',Nat.add_mul,Nat.mul_assoc,Nat.mul_comm 128 (128 ^ d)];omega
    have hle:n'≤V:=by
      have:n' * 1≤n' * 128 ^ d:=Nat.mul_le_mul_left _ (Nat.pow_pos (by decide))
      omega
    have hbd:((s.data[(a+c.1 - 1).toNat]?.getD 0).toNat:Int)=(((rdAt s a).room.getD d 0:Nat):Int):=by
      have:=Rd.room_get hg (i:=d) (by omega)
      rw [show a+(c.1:Int) - 1=(rdAt s a).pos+d by rw [hd];show a+((d+1:Nat):Int) - 1=a+d;omega]
      exact this
    have hbl:(rdAt s a).room.getD d 0<256:=by
      have:=byt_lt s (a+c.1 - 1).toNat
      unfold byt at this
      omega
    refine dE (d,n') ⟨⟨by simp only;omega,hV2⟩,by simp only;omega⟩ ?_
    (focus (cbv;(try dsimp only [nc] at *);(try simp only [wl,nc]);(repeat' (with_reducible apply And.intro));all_goals (try exact wZ)))
    · rw [w64 (by omega) (by omega)];omega
    · rw [hbd,w64 (x:=(((rdAt s a).room.getD d 0:Nat):Int)) (by omega) (by omega),w64 (x:=(c.2:Int) * 128) (by omega) (by omega),show (128:Int)=((128:Nat):Int) from rfl,tmod_nat,w64 (by omega) (by omega),hn']
      omega
  all_goals first
    | (rw [hT];done)
    | (rw [hT]
       have hc0:c.1=0:=by omega
       have hc2:=hc.2
       simp only [hc0,valN,Nat.pow_zero] at hc2
       first|omega|(rw [w64 (by omega) (by omega)];simp only;omega))
end Go.Ai
