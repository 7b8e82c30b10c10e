/- Chapter 8: the reference's texts. -/
import Derived.Test.YtalghhdapjmbbaaGreatDoorSubE
import Derived.Test.YtalghhdapjmbbaaGreatDoorSubA
import Derived.Test.YtalghhdapjmbbaaGreatDoorEncA
import Derived.Test.YtalghhdapjmbbaaGreatDoorSubB
set_option linter.all false
namespace Go.Ai
open Go Go.Proofs
set_option maxRecDepth 100000
set_option maxHeartbeats 4000000
theorem refText_ok (e d:Nat) (t:Ty) (ht:Ty.le e (d+1) t) (w:ByteArray):Af Tryz.prog 57 [encT e (d+1) .any fun _=>t,.str fun _=>w] [] (.bool fun _=>txtB t w) []:=by
  have hwl:=ht.1
  (apply Af.of tF mF [.tmp 4] kp57 [] Tryz.func57 (fun _=>?_);(any_goals ((with_reducible refine wI ?_);cbv;(try dsimp only [nc] at *);(repeat' (with_reducible first|exact aO|exact oN|refine oC ?_ ?_|refine VC.mk rfl ?_ ?_ ?_|(apply Ca.mk<;>intro _)|(apply Cv.mk<;>intro zq<;>(try simp only [nc,cl] at zq)<;>(try simp only [bl,dl] at zq)<;>(revert zq;intro _))|((first|apply xE|apply uE);cbv;(try dsimp only [nc] at *)))))))
  ((all_goals (try (with_reducible ((first|refine rE ?_|refine nE ?_);(focus (cbv;(try dsimp only [nc] at *);(try simp only [wl,nc]);(repeat' (with_reducible apply And.intro));all_goals (try exact wZ)))))));(all_goals (try ((with_reducible rw [aC]);(try simp only [wl,nc]);(repeat' (with_reducible apply And.intro));(all_goals (try exact cZ))))))
  refine .loop (fun i:Nat=>⟨38,[(5,.int .i64 fun _=>i),(2,.ptr 2 0),(1,.str fun _=>w)],[(2,.box (cl' e (d+1) .any fun _=>t))]⟩)
    (fun i=>i≤t.words.length∧∀ j,j<i→t.words.getD j ⟨#[]⟩≠w) (fun i=>t.words.length - i) 0 (by simp) ?_ fun i E hi=>?_
  · (focus (cbv;(try dsimp only [nc] at *);(try simp only [wl,nc]);(repeat' (with_reducible apply And.intro));all_goals (try exact wZ)))
  apply AWp.wk tF mF [] kp57 ?_
  (any_goals ((with_reducible refine wI ?_);cbv;(try dsimp only [nc] at *);(repeat' (with_reducible first|exact aO|exact oN|refine oC ?_ ?_|refine VC.mk rfl ?_ ?_ ?_|(apply Ca.mk<;>intro _)|(apply Cv.mk<;>intro zq<;>(try simp only [nc,cl] at zq)<;>(try simp only [bl,dl] at zq)<;>(revert zq;intro _))|((first|apply xE|apply uE);cbv;(try dsimp only [nc] at *))))))
  ((all_goals (try (with_reducible ((first|refine rE ?_|refine nE ?_);(focus (cbv;(try dsimp only [nc] at *);(try simp only [wl,nc]);(repeat' (with_reducible apply And.intro));all_goals (try exact wZ)))))));(all_goals (try ((with_reducible rw [aC]);(try simp only [wl,nc]);(repeat' (with_reducible apply And.intro));(all_goals (try exact cZ))))))
  · have hlt:=‹i<t.words.length›
    have hm:w ∈ t.words:=by rw [← ‹t.words.getD i _=w›];exact gD hlt
    exact ((txtB_in (by omega)).2 hm).symm
  · refine dE (i+1) ⟨⟨by omega,fun j hj=>?_⟩,by omega⟩ ?_
    · rcases Nat.lt_succ_iff_lt_or_eq.1 hj with hj|rfl
      · exact hi.2 j hj
      · assumption
    · (focus (cbv;(try dsimp only [nc] at *);(try simp only [wl,nc]);(repeat' (with_reducible apply And.intro));all_goals (try exact wZ)))
      exact w64n (by omega)
  · by_cases h0:0<t.words.length
    · have hn:txtB t w=false:=by
        cases q:txtB t w with
        | false=>rfl
        | true =>
          obtain ⟨j,hj,he⟩:=List.getElem_of_mem ((txtB_in h0).1 q)
          exact absurd (by simpa [List.getD,hj] using he) (hi.2 j (by omega))
      rw [hn]
      simp
      intro q;rw [q] at h0;simp at h0
    · unfold txtB
      rw [if_neg h0]
      simp [show t.words.length=0 by omega]
theorem isByte_one {x:Unit→Int} (i:Nat) (h:i<1):isByte (litArr [[AV.int .u8 x]] fun _=>i)=true:=by
  have:i=0:=by omega
  subst this;rfl
theorem u8 {x:Int} (h1:0≤x) (h2:x<256):IntKind.u8.wrap x=x:=by simp [IntKind.wrap,IntKind.bits,IntKind.signed];omega
theorem bytesA_b (b:Unit→Int):bytesA (fun _=>1) (litArr [[AV.int .u8 b]])=oneS (UInt8.ofNat (b ()).toNat):=by
  simp [bytesA,oneS,litArr,byteOfA,List.range_succ]
theorem repS_succ (b:UInt8) (n:Nat):repS b (n+1)=repS b n++oneS b:=by
  have:(repS b (n+1)).data=(repS b n++oneS b).data:=by
    rw [ByteArray.data_append]
    apply Array.toList_inj.1;simp [repS,oneS,List.replicate_succ']
  exact ByteArray.ext this
theorem findIdx_at {α:Type} {p:α→Bool} {l:List α} {i:Nat} {x:α} (hi:i<l.length) (h:p (l.getD i x)=true) (hj:∀ j,j<i→p (l.getD j x)=false):l.findIdx p=i:=by
  rw [List.findIdx_eq hi]
  refine ⟨by simpa [List.getD,hi] using h,fun j q=>?_⟩
  have:=hj j q
  simpa [List.getD,show j<l.length by omega] using this
theorem findIdx_no {α:Type} {p:α→Bool} {l:List α} {x:α} (hj:∀ j,j<l.length→p (l.getD j x)=false):¬ l.findIdx p<l.length:=by
  intro h
  have h1:=List.findIdx_getElem (w:=h) (p:=p)
  have h2:=hj _ h
  rw [show l.getD (l.findIdx p) x=l[l.findIdx p] by simp [List.getD,h]] at h2
  rw [h1] at h2;cases h2
theorem range_getD8 (n i x:Nat) (h:i<n):(List.range n).getD i x=i:=by simp [List.getD,h]
theorem firstC_at {s t:Ty} {i:Nat} (hi:i<95) (h:txtB t (candS s i)=false) (hj:∀ j,j<i→txtB t (candS s j)=true):firstC s t=i:=by
  unfold firstC
  refine findIdx_at (x:=0) (by rw [List.length_range];exact hi) ?_ fun j q=>?_
  · rw [range_getD8 _ _ _ hi,h];rfl
  · rw [range_getD8 _ _ _ (by omega),hj j q];rfl
theorem firstC_no {s t:Ty} (hj:∀ j,j<95→txtB t (candS s j)=true):¬ firstC s t<95:=by
  have:=findIdx_no (p:=fun i=>!txtB t (candS s i)) (l:=List.range 95) (x:=0) fun j q=>by
    rw [List.length_range] at q
    rw [range_getD8 _ _ _ q,hj j q];rfl
  rw [List.length_range] at this
  exact this
theorem repeated_ok (b:UInt8) (n:Int) (hn:n≤1073741824):Af Tryz.prog 59 [.int .u8 fun _=>(b.toNat:Int),.int .i64 fun _=>n] [] (.str fun _=>repS b n.toNat) []:=by
  have hb:UInt8.ofNat ((b.toNat:Int)).toNat=b:=by rw [Int.toNat_natCast];simp
  (apply Af.of tF mF [.tmp 4] kp59 [] Tryz.func59 (fun _=>?_);(any_goals ((with_reducible refine wI ?_);cbv;(try dsimp only [nc] at *);(repeat' (with_reducible first|exact aO|exact oN|refine oC ?_ ?_|refine VC.mk rfl ?_ ?_ ?_|(apply Ca.mk<;>intro _)|(apply Cv.mk<;>intro zq<;>(try simp only [nc,cl] at zq)<;>(try simp only [bl,dl] at zq)<;>(revert zq;intro _))|((first|apply xE|apply uE);cbv;(try dsimp only [nc] at *)))))))
  ((all_goals (try (with_reducible ((first|refine rE ?_|refine nE ?_);(focus (cbv;(try dsimp only [nc] at *);(try simp only [wl,nc]);(repeat' (with_reducible apply And.intro));all_goals (try exact wZ)))))));(all_goals (try ((with_reducible rw [aC]);(try simp only [wl,nc]);(repeat' (with_reducible apply And.intro));(all_goals (try exact cZ))))))
  refine .loop (fun i:Nat=>⟨18,[(6,.int .i64 fun _=>i),(5,.str fun _=>repS b i),(1,.int .i64 fun _=>n),(0,.int .u8 fun _=>(b.toNat:Int))],[]⟩)
    (fun i=>i=0∨(i:Int)≤n) (fun i=>n.toNat - i) 0 (by simp) ?_ fun i E hi=>?_
  · (focus (cbv;(try dsimp only [nc] at *);(try simp only [wl,nc]);(repeat' (with_reducible apply And.intro));all_goals (try exact wZ)))
  apply AWp.wk tF mF [] kp59 ?_
  (any_goals ((with_reducible refine wI ?_);cbv;(try dsimp only [nc] at *);(repeat' (with_reducible first|exact aO|exact oN|refine oC ?_ ?_|refine VC.mk rfl ?_ ?_ ?_|(apply Ca.mk<;>intro _)|(apply Cv.mk<;>intro zq<;>(try simp only [nc,cl] at zq)<;>(try simp only [bl,dl] at zq)<;>(revert zq;intro _))|((first|apply xE|apply uE);cbv;(try dsimp only [nc] at *))))))
  ((all_goals (try (with_reducible ((first|refine rE ?_|refine nE ?_);(focus (cbv;(try dsimp only [nc] at *);(try simp only [wl,nc]);(repeat' (with_reducible apply And.intro));all_goals (try exact wZ)))))));(all_goals (try ((with_reducible rw [aC]);(try simp only [wl,nc]);(repeat' (with_reducible apply And.intro));(all_goals (try exact cZ))))))
  · exact fun i hi=>isByte_one i hi
  · rw [bytesA_b,repS_size,show (oneS (UInt8.ofNat ((b.toNat:Int)).toNat)).size=1 from rfl];omega
  · refine dE (i+1) ⟨by omega,by omega⟩ ?_
    (focus (cbv;(try dsimp only [nc] at *);(try simp only [wl,nc]);(repeat' (with_reducible apply And.intro));all_goals (try exact wZ)))
    · exact w64n (by omega)
    · rw [bytesA_b,hb,repS_succ]
  · rw [show n.toNat=i by omega]
theorem otherV_none {s t:Ty} (h1:¬ (s.min=0∧txtB t ⟨#[]⟩=false)) (h2:¬ (0<s.max∧firstC s t<95)):otherV s t=(⟨#[]⟩,false):=by unfold otherV;rw [if_neg h1,if_neg h2]
theorem otherV_at {s t:Ty} {i:Nat} (h1:¬ (s.min=0∧txtB t ⟨#[]⟩=false)) (hm:0<s.max) (hi:i<95) (h:txtB t (candS s i)=false) (hj:∀ j,j<i→txtB t (candS s j)=true):otherV s t=(candS s i,true):=by
  have hf:=firstC_at hi h hj
  unfold otherV;rw [if_neg h1,if_pos ⟨hm,by omega⟩,hf]
theorem other_ok (e d:Nat) (s t:Ty) (hs:Ty.le e (d+1) s) (ht:Ty.le e (d+1) t) (hb:s.min≤1024):Af Tryz.prog 58 [encT e (d+1) .any fun _=>s,encT e (d+1) .any fun _=>t] [] (.tup [.str fun _=>(otherV s t).1,.bool fun _=>(otherV s t).2]) []:=by
  have h0:=refText_ok e d t ht ⟨#[]⟩
  have hM:∃ k:Nat,k≤1024∧Max.max s.min 1=(k:Int)+1∧(Max.max s.min 1 - 1).toNat=k:=⟨(Max.max s.min 1 - 1).toNat,by omega,by omega,rfl⟩
  obtain ⟨k,hk,hk1,hk2⟩:=hM
  have hr:=repeated_ok 97 k (by omega)
  have hB:∀ i:Nat,i<95→bytesA (fun _=>1) (litArr [[AV.int .u8 fun _=>IntKind.u8.wrap (32+(i:Int))]])=oneS (UInt8.ofNat (32+i)):=fun i hi=>by
    rw [bytesA_b,u8 (by omega) (by omega)]
    congr 2
  have hc:∀ i,candS s i=repS 97 k++oneS (UInt8.ofNat (32+i)):=fun i=>by unfold candS;rw [hk2]
  (apply Af.of tF mF [.tmp 4,.tmp 5] kp58 [(1,[(5,.bool fun _=>txtB t ⟨#[]⟩,[])])] Tryz.func58 (fun _=>?_);(any_goals ((with_reducible refine wI ?_);cbv;(try dsimp only [nc] at *);(repeat' (with_reducible first|exact aO|exact oN|refine oC ?_ ?_|refine VC.mk rfl ?_ ?_ ?_|(apply Ca.mk<;>intro _)|(apply Cv.mk<;>intro zq<;>(try simp only [nc,cl] at zq)<;>(try simp only [bl,dl] at zq)<;>(revert zq;intro _))|((first|apply xE|apply uE);cbv;(try dsimp only [nc] at *)))))))
  (any_goals ((with_reducible refine bZ ?_);(try dsimp only);(have q:=h0;refine Af.wN q ?_;clear q);(focus (cbv;(try dsimp only [nc] at *);(try simp only [wl,nc]);(repeat' (with_reducible apply And.intro));all_goals (try exact wZ)))))
  ((all_goals (try (with_reducible ((first|refine rE ?_|refine nE ?_);(focus (cbv;(try dsimp only [nc] at *);(try simp only [wl,nc]);(repeat' (with_reducible apply And.intro));all_goals (try exact wZ)))))));(all_goals (try ((with_reducible rw [aC]);(try simp only [wl,nc]);(repeat' (with_reducible apply And.intro));(all_goals (try exact cZ))))))
  · unfold otherV;rw [if_pos ‹_›]
  · unfold otherV;rw [if_pos ‹_›]
  rename_i hno
  have hno':¬ (s.min=0∧txtB t ⟨#[]⟩=false):=fun q=>by
    rcases hno with z|z
    · exact z q.1
    · rw [q.2] at z;cases z
  refine .loop (fun i:Nat=>⟨42,[(7,.int .i64 fun _=>(32+i:Int)),(6,.int .i64 fun _=>(k:Int)+1),(3,.ptr 3 0),(2,.ptr 2 0)],[(2,.box (cl' e (d+1) .any fun _=>s)),(3,.box (cl' e (d+1) .any fun _=>t))]⟩)
    (fun i=>i≤95∧∀ j,j<i→txtB t (candS s j)=true) (fun i=>95 - i) 0 (by simp) ?_ fun i E hi=>?_
  · (focus (cbv;(try dsimp only [nc] at *);(try simp only [wl,nc]);(repeat' (with_reducible apply And.intro));all_goals (try exact wZ)))
    simp only [if_true]
    rw [← hk1];omega
  have htx:=refText_ok e d t ht (candS s i)
  apply AWp.wk tF mF [(7,[(2,.str fun _=>repS 97 k,[])]),(8,[(2,.bool fun _=>txtB t (candS s i),[])])] kp58 ?_
  (any_goals ((with_reducible refine wI ?_);cbv;(try dsimp only [nc] at *);(repeat' (with_reducible first|exact aO|exact oN|refine oC ?_ ?_|refine VC.mk rfl ?_ ?_ ?_|(apply Ca.mk<;>intro _)|(apply Cv.mk<;>intro zq<;>(try simp only [nc,cl] at zq)<;>(try simp only [bl,dl] at zq)<;>(revert zq;intro _))|((first|apply xE|apply uE);cbv;(try dsimp only [nc] at *))))))
  (any_goals ((with_reducible refine bZ ?_);(try dsimp only);(have q:=hr;refine Af.wN q ?_;clear q);(focus (cbv;(try dsimp only [nc] at *);(try simp only [wl,nc]);(repeat' (with_reducible apply And.intro));all_goals (try exact wZ)))))
  (any_goals ((with_reducible refine bZ ?_);(try dsimp only);(have q:=htx;refine Af.wN q ?_;clear q);(focus (cbv;(try dsimp only [nc] at *);(try simp only [wl,nc]);(repeat' (with_reducible apply And.intro));all_goals (try exact wZ)))))
  all_goals (try rw [hB i (by omega)])
  ((all_goals (try (with_reducible ((first|refine rE ?_|refine nE ?_);(focus (cbv;(try dsimp only [nc] at *);(try simp only [wl,nc]);(repeat' (with_reducible apply And.intro));all_goals (try exact wZ)))))));(all_goals (try ((with_reducible rw [aC]);(try simp only [wl,nc]);(repeat' (with_reducible apply And.intro));(all_goals (try exact cZ))))))
  · exact fun i hi=>isByte_one i hi
  · rw [repS_size,show (oneS (UInt8.ofNat (32+i))).size=1 from rfl];omega
  · rw [w64 (by omega) (by omega)];omega
  · rw [hc]
  · rw [← hc,otherV_at hno' (by omega) (by omega) ‹_› hi.2]
  · rw [otherV_at hno' (by omega) (by omega) ‹_› hi.2]
  · refine dE (i+1) ⟨⟨by omega,fun j hj=>?_⟩,by omega⟩ ?_
    · rcases Nat.lt_succ_iff_lt_or_eq.1 hj with hj|rfl
      · exact hi.2 j hj
      · assumption
    · (focus (cbv;(try dsimp only [nc] at *);(try simp only [wl,nc]);(repeat' (with_reducible apply And.intro));all_goals (try exact wZ)))
      rw [w64 (by omega) (by omega)];omega
  all_goals
    rw [otherV_none hno' fun q=>?_]
    rcases ‹_∨_› with z|z
    · exact absurd q.2 (firstC_no fun j hj=>hi.2 j (by omega))
    · omega
theorem wrong_ok (e d:Nat) (s t:Ty) (hs:Ty.le e (d+1) s) (ht:Ty.le e (d+1) t) (hb:s.min≤1024) (hb2:s.max≤1024):Af Tryz.prog 32 [encT e (d+1) .any fun _=>s,encT e (d+1) .any fun _=>t] [] (.tup [.str fun _=>(wrongV s t).1,.bool fun _=>(wrongV s t).2]) []:=by
  have hr:=repeated_ok 97 s.min (by omega)
  have hr2:=repeated_ok 97 s.max (by omega)
  have hwl:=hs.1
  (apply Af.of tF mF [.tmp 4,.tmp 5] kp32 [(9,[(2,.tup [.str fun _=>(otherV s t).1,.bool fun _=>(otherV s t).2],[])]),(11,[(2,.str fun _=>repS 97 s.min.toNat,[])]),(13,[(2,.str fun _=>repS 97 s.max.toNat,[])])] Tryz.func32 (fun _=>?_);(any_goals ((with_reducible refine wI ?_);cbv;(try dsimp only [nc] at *);(repeat' (with_reducible first|exact aO|exact oN|refine oC ?_ ?_|refine VC.mk rfl ?_ ?_ ?_|(apply Ca.mk<;>intro _)|(apply Cv.mk<;>intro zq<;>(try simp only [nc,cl] at zq)<;>(try simp only [bl,dl] at zq)<;>(revert zq;intro _))|((first|apply xE|apply uE);cbv;(try dsimp only [nc] at *)))))))
  (any_goals ((with_reducible refine bZ ?_);(try dsimp only);(have q:=(other_ok e d s t hs ht hb);refine Af.wN q ?_;clear q);(focus (cbv;(try dsimp only [nc] at *);(try simp only [wl,nc]);(repeat' (with_reducible apply And.intro));all_goals (try exact wZ)))))
  (any_goals ((with_reducible refine bZ ?_);(try dsimp only);(have q:=hr;refine Af.wN q ?_;clear q);(focus (cbv;(try dsimp only [nc] at *);(try simp only [wl,nc]);(repeat' (with_reducible apply And.intro));all_goals (try exact wZ)))))
  (any_goals ((with_reducible refine bZ ?_);(try dsimp only);(have q:=hr2;refine Af.wN q ?_;clear q);(focus (cbv;(try dsimp only [nc] at *);(try simp only [wl,nc]);(repeat' (with_reducible apply And.intro));all_goals (try exact wZ)))))
  ((all_goals (try (with_reducible ((first|refine rE ?_|refine nE ?_);(focus (cbv;(try dsimp only [nc] at *);(try simp only [wl,nc]);(repeat' (with_reducible apply And.intro));all_goals (try exact wZ)))))));(all_goals (try ((with_reducible rw [aC]);(try simp only [wl,nc]);(repeat' (with_reducible apply And.intro));(all_goals (try exact cZ))))))
  · refine .loop (fun i:Nat=>⟨60,[(6,.int .i64 fun _=>i),(3,.ptr 3 0),(2,.ptr 2 0)],[(2,.box (cl' e (d+1) .any fun _=>s)),(3,.box (cl' e (d+1) .any fun _=>t))]⟩)
      (fun i=>i≤s.words.length∧∀ j,j<i→txtB t (s.words.getD j ⟨#[]⟩)=true) (fun i=>s.words.length - i) 0 (by simp) ?_ fun i E hi=>?_
    · (focus (cbv;(try dsimp only [nc] at *);(try simp only [wl,nc]);(repeat' (with_reducible apply And.intro));all_goals (try exact wZ)))
    have htx:=refText_ok e d t ht (s.words.getD i ⟨#[]⟩)
    have hgo:0<s.words.length:=by omega
    apply AWp.wk tF mF [(5,[(6,.bool fun _=>txtB t (s.words.getD i ⟨#[]⟩),[])])] kp32 ?_
    (any_goals ((with_reducible refine wI ?_);cbv;(try dsimp only [nc] at *);(repeat' (with_reducible first|exact aO|exact oN|refine oC ?_ ?_|refine VC.mk rfl ?_ ?_ ?_|(apply Ca.mk<;>intro _)|(apply Cv.mk<;>intro zq<;>(try simp only [nc,cl] at zq)<;>(try simp only [bl,dl] at zq)<;>(revert zq;intro _))|((first|apply xE|apply uE);cbv;(try dsimp only [nc] at *))))))
    (any_goals ((with_reducible refine bZ ?_);(try dsimp only);(have q:=htx;refine Af.wN q ?_;clear q);(focus (cbv;(try dsimp only [nc] at *);(try simp only [wl,nc]);(repeat' (with_reducible apply And.intro));all_goals (try exact wZ)))))
    ((all_goals (try (with_reducible ((first|refine rE ?_|refine nE ?_);(focus (cbv;(try dsimp only [nc] at *);(try simp only [wl,nc]);(repeat' (with_reducible apply And.intro));all_goals (try exact wZ)))))));(all_goals (try ((with_reducible rw [aC]);(try simp only [wl,nc]);(repeat' (with_reducible apply And.intro));(all_goals (try exact cZ))))))
    · have hf:=findIdx_at (p:=fun w=>!txtB t w) (l:=s.words) (x:=⟨#[]⟩) ‹i<s.words.length› (by simpa using ‹txtB t (s.words.getD i ⟨#[]⟩)=false›) fun j hj=>by show (!txtB t _)=false;rw [hi.2 j hj];rfl
      unfold wrongV;rw [if_pos hgo,hf,if_pos ‹i<s.words.length›,Int.toNat_natCast]
    · have hf:=findIdx_at (p:=fun w=>!txtB t w) (l:=s.words) (x:=⟨#[]⟩) ‹i<s.words.length› (by simpa using ‹txtB t (s.words.getD i ⟨#[]⟩)=false›) fun j hj=>by show (!txtB t _)=false;rw [hi.2 j hj];rfl
      unfold wrongV;rw [if_pos hgo,hf,if_pos ‹i<s.words.length›]
    · refine dE (i+1) ⟨⟨by omega,fun j hj=>?_⟩,by omega⟩ ?_
      · rcases Nat.lt_succ_iff_lt_or_eq.1 hj with hj|rfl
        · exact hi.2 j hj
        · assumption
      · (focus (cbv;(try dsimp only [nc] at *);(try simp only [wl,nc]);(repeat' (with_reducible apply And.intro));all_goals (try exact wZ)))
        exact w64n (by omega)
    all_goals
      unfold wrongV
      rw [if_pos hgo,if_neg (findIdx_no (x:=⟨#[]⟩) fun j hj=>by show (!txtB t _)=false;rw [hi.2 j (by omega)];rfl)]
  all_goals
    unfold wrongV
    rw [if_neg (show ¬ 0<s.words.length by omega)]
    first
      | (rw [if_pos (show 0<t.words.length by omega)];done)
      | (rw [if_neg (show ¬ 0<t.words.length by omega),if_pos ‹s.min<t.min›];done)
      | (rw [if_neg (show ¬ 0<t.words.length by omega),if_neg (show ¬ s.min<t.min by omega),if_pos ‹t.max<s.max›];done)
      | (rw [if_neg (show ¬ 0<t.words.length by omega),if_neg (show ¬ s.min<t.min by omega),if_neg (show ¬ t.max<s.max by omega)];done)
def firstB (f:Ty→Ty→Bool) (k:Int) (t:Ty) (x:TF):Bool:=offB f t x || (decide (k=9) && (decide (fN x=2) && !decide (fN (gT t (bQ (fM x)))=2)))
theorem refFirst_ok (e d:Nat) (s t:Ty) (hs:Ty.le e (d+1) s) (ht:Ty.le e (d+1) t)
    (hw:∀ x ∈ s.fields,0≤iI (bQ (fM x)) t.fields→Af Tryz.prog 18 [encT e d .any fun _=>fT x,encT e d .any fun _=>fT (gT t (bQ (fM x)))] [] (.bool fun _=>withinB d (fT x) (fT (gT t (bQ (fM x))))) []) :
    Af Tryz.prog 33 [encT e (d+1) .any fun _=>s,encT e (d+1) .any fun _=>t] [] (.int .i64 fun _=>iI (firstB (withinB d) s.kind t) s.fields) []:=by
  have hfl:=hs.2.2.2.1
  have hft:=ht.2.2.2.1
  (apply Af.of tF mF [.tmp 4] kp33 [] Tryz.func33 (fun _=>?_);(any_goals ((with_reducible refine wI ?_);cbv;(try dsimp only [nc] at *);(repeat' (with_reducible first|exact aO|exact oN|refine oC ?_ ?_|refine VC.mk rfl ?_ ?_ ?_|(apply Ca.mk<;>intro _)|(apply Cv.mk<;>intro zq<;>(try simp only [nc,cl] at zq)<;>(try simp only [bl,dl] at zq)<;>(revert zq;intro _))|((first|apply xE|apply uE);cbv;(try dsimp only [nc] at *)))))))
  ((all_goals (try (with_reducible ((first|refine rE ?_|refine nE ?_);(focus (cbv;(try dsimp only [nc] at *);(try simp only [wl,nc]);(repeat' (with_reducible apply And.intro));all_goals (try exact wZ)))))));(all_goals (try ((with_reducible rw [aC]);(try simp only [wl,nc]);(repeat' (with_reducible apply And.intro));(all_goals (try exact cZ))))))
  refine .loop (fun i:Nat=>⟨58,[(5,.int .i64 fun _=>i),(3,.ptr 3 0),(2,.ptr 2 0)],[(2,.box (cl' e (d+1) .any fun _=>s)),(3,.box (cl' e (d+1) .any fun _=>t))]⟩)
    (fun i=>i≤s.fields.length∧∀ j,j<i→firstB (withinB d) s.kind t (s.fields.getD j default)=false) (fun i=>s.fields.length - i) 0 (by simp) ?_ fun i E hi=>?_
  · (focus (cbv;(try dsimp only [nc] at *);(try simp only [wl,nc]);(repeat' (with_reducible apply And.intro));all_goals (try exact wZ)))
  by_cases hlt:i<s.fields.length
  · obtain ⟨x,hx⟩:∃ x,x=s.fields.getD i default:=⟨_,rfl⟩
    have hxm:x ∈ s.fields:=by rw [hx];exact getD_mem hlt
    have hF:=refFieldT_ok e d t ht (fM x)
    have hw':=hw x hxm
    have hil:iI (bQ (fM x)) t.fields<(t.fields.length:Int):=idxI_lt
    obtain ⟨b,hb⟩:∃ b,b=withinB d (fT x) (fT (gT t (bQ (fM x)))):=⟨_,rfl⟩
    have hR:firstB (withinB d) s.kind t x=(decide (iI (bQ (fM x)) t.fields<0) || !b || (decide (s.kind=9) && (decide (fN x=2) && !decide (fN (gT t (bQ (fM x)))=2)))):=by rw [hb];rfl
    rw [← hb] at hw'
    have hg:t.fields.getD (iI (bQ (fM x)) t.fields).toNat default=gT t (bQ (fM x)):=rfl
    apply AWp.wk tF mF [(5,[(3,.int .i64 fun _=>iI (bQ (fM x)) t.fields,[])]),(6,[(11,.bool fun _=>b,[])])] kp33 ?_
    (any_goals ((with_reducible refine wI ?_);cbv;(try dsimp only [nc] at *);(repeat' (with_reducible first|exact aO|exact oN|refine oC ?_ ?_|refine VC.mk rfl ?_ ?_ ?_|(apply Ca.mk<;>intro _)|(apply Cv.mk<;>intro zq<;>(try simp only [nc,cl] at zq)<;>(try simp only [bl,dl] at zq)<;>(revert zq;intro _))|((first|apply xE|apply uE);cbv;(try dsimp only [nc] at *))))))
    all_goals (try simp only [Int.toNat_natCast,← hx])
    (any_goals ((with_reducible refine bZ ?_)<;>exact hF))
    any_goals (with_reducible refine sO (fun z=>?_))<;>exact hw' (by simpa using z)
    ((all_goals (try (with_reducible ((first|refine rE ?_|refine nE ?_);(focus (cbv;(try dsimp only [nc] at *);(try simp only [wl,nc]);(repeat' (with_reducible apply And.intro));all_goals (try exact wZ)))))));(all_goals (try ((with_reducible rw [aC]);(try simp only [wl,nc]);(repeat' (with_reducible apply And.intro));(all_goals (try exact cZ))))))
    · intro p q;rw [p,q];rfl
    · intro p q;rw [p,q];rfl
    · rename_i h
      rw [← hx,hg] at h
      refine (idxI_at hlt ?_ hi.2).symm
      rw [← hx,hR]
      grind
    · rename_i h
      rw [← hx,hg] at h
      refine dE (i+1) ⟨⟨by omega,fun j hj=>?_⟩,by omega⟩ ?_
      · rcases Nat.lt_succ_iff_lt_or_eq.1 hj with hj|rfl
        · exact hi.2 j hj
        · rw [← hx,hR]
          grind
      · (focus (cbv;(try dsimp only [nc] at *);(try simp only [wl,nc]);(repeat' (with_reducible apply And.intro));all_goals (try exact wZ)))
        exact w64n (by omega)
  apply AWp.wk tF mF [(5,[(3,.int .i64 fun _=>0,[])]),(6,[(11,.bool fun _=>true,[])])] kp33 ?_
  (any_goals ((with_reducible refine wI ?_);cbv;(try dsimp only [nc] at *);(repeat' (with_reducible first|exact aO|exact oN|refine oC ?_ ?_|refine VC.mk rfl ?_ ?_ ?_|(apply Ca.mk<;>intro _)|(apply Cv.mk<;>intro zq<;>(try simp only [nc,cl] at zq)<;>(try simp only [bl,dl] at zq)<;>(revert zq;intro _))|((first|apply xE|apply uE);cbv;(try dsimp only [nc] at *))))))
  all_goals (try exact absurd ‹i<s.fields.length› hlt)
  ((all_goals (try (with_reducible ((first|refine rE ?_|refine nE ?_);(focus (cbv;(try dsimp only [nc] at *);(try simp only [wl,nc]);(repeat' (with_reducible apply And.intro));all_goals (try exact wZ)))))));(all_goals (try ((with_reducible rw [aC]);(try simp only [wl,nc]);(repeat' (with_reducible apply And.intro));(all_goals (try exact cZ))))))
  exact (idxI_none fun j hj=>hi.2 j (by omega)).symm
theorem firstB_case {f:Ty→Ty→Bool} {t:Ty}:firstB f 10 t=offB f t:=by funext x;simp [firstB]
theorem firstB_rec {f:Ty→Ty→Bool} {t:Ty}:firstB f 9 t=wrongB f t:=by funext x;simp [firstB,wrongB]
theorem withinB_rec {d:Nat} {s t:Ty} (hk:s.kind=t.kind) (h:s.kind=9):withinB (d+1) s t=recsB (withinB d) s t:=by
  simp only [withinB];rw [if_neg (by omega),if_neg (by omega),if_neg (by omega),if_neg (by omega),if_pos h]
theorem withinB_var {d:Nat} {s t:Ty} (hk:s.kind=t.kind) (h:s.kind=10):withinB (d+1) s t=casesB (withinB d) s t:=by
  simp only [withinB];rw [if_neg (by omega),if_neg (by omega),if_neg (by omega),if_neg (by omega),if_neg (by omega),if_pos h]
theorem bndI (s t:Ty):(if decide (t.min≤s.min)=true then decide (s.max≤t.max) else false)=bndB s t:=by unfold bndB;((((try simp only [nc,cl] at *)<;>(try rw [Bool.eq_iff_iff]))<;>(try simp only [bl,false_iff,true_iff,iff_true,iff_false,dec_t,dec_f,ne_eq,Decidable.not_not] at *))<;>(first|omega|grind))
theorem refWithin_step (e d:Nat) (s t:Ty) (hs:Ty.le e (d+1) s) (ht:Ty.le e (d+1) t) (hso:Ty.ok e (d+1) s) (hto:Ty.ok e (d+1) t)
    (ih:∀ x y,Ty.le e d x→Ty.le e d y→Ty.ok e d x→Ty.ok e d y→Af Tryz.prog 18 [encT e d .any fun _=>x,encT e d .any fun _=>y] [] (.bool fun _=>withinB d x y) []) :
    Af Tryz.prog 18 [encT e (d+1) .any fun _=>s,encT e (d+1) .any fun _=>t] [] (.bool fun _=>withinB (d+1) s t) []:=by
  have hks:=ownT_kind hso.1
  have hfs:=hs.2.2.2.1
  have hft:=ht.2.2.2.1
  have hwv:=fun (k4:s.kind=4) (kk:s.kind=t.kind)=>wrongV_within hso.1 hto.1 k4 (kk ▸ k4)
  have hw4:=fun (k4:s.kind=4)=>wrong_ok e d s t hs ht (by
    by_cases hw:s.words.length=0
    · have:=ownT_bnd hso.1 (.inl k4) hw;omega
    · have:=(ownT_words hso.1 k4).2 (by omega);omega) (by
    by_cases hw:s.words.length=0
    · have:=ownT_bnd hso.1 (.inl k4) hw;omega
    · have:=(ownT_words hso.1 k4).2 (by omega);omega)
  have he:=fun (k8:s.kind=8) (kk:s.kind=t.kind)=>ih (s.elem.getD 0 default) (t.elem.getD 0 default) (hs.2.2.2.2.1 _ (gD (by have:=ownT_elem hso.1 k8;omega))) (ht.2.2.2.2.1 _ (gD (by have:=ownT_elem hto.1 (kk ▸ k8);omega))) (Ty.ok_elem0 hso k8) (Ty.ok_elem0 hto (kk ▸ k8))
  have hf:=fun (k9:s.kind=9∨s.kind=10) (kk:s.kind=t.kind)=>refFirst_ok e d s t hs ht fun x hx h0=>ih _ _ (hs.2.2.2.2.2 x hx).2.2.2 (ht.2.2.2.2.2 _ (getTF_mem h0)).2.2.2 (Ty.ok_field hso k9 hx) (Ty.ok_field hto (kk ▸ k9) (getTF_mem h0))
  obtain ⟨R,hR⟩:∃ R,R=withinB (d+1) s t:=⟨_,rfl⟩
  rw [← hR]
  generalize hq:iI (firstB (withinB d) s.kind t) s.fields=q at hf
  generalize hb:withinB d (s.elem.getD 0 default) (t.elem.getD 0 default)=b at he
  (apply Af.of tF mF [.tmp 4] kp18 [(8,[(2,.tup [.str fun _=>(wrongV s t).1,.bool fun _=>(wrongV s t).2],[])]),(11,[(14,.bool fun _=>b,[])]),(13,[(2,.int .i64 fun _=>q,[])]),(15,[(2,.int .i64 fun _=>q,[])])] Tryz.func18 (fun _=>?_);(any_goals ((with_reducible refine wI ?_);cbv;(try dsimp only [nc] at *);(repeat' (with_reducible first|exact aO|exact oN|refine oC ?_ ?_|refine VC.mk rfl ?_ ?_ ?_|(apply Ca.mk<;>intro _)|(apply Cv.mk<;>intro zq<;>(try simp only [nc,cl] at zq)<;>(try simp only [bl,dl] at zq)<;>(revert zq;intro _))|((first|apply xE|apply uE);cbv;(try dsimp only [nc] at *)))))))
  any_goals (with_reducible first|refine nO ?_|refine sO (fun _=>?_))
  any_goals first
    | exact hw4 ‹s.kind=4›
    | exact he ‹s.kind=8› ‹s.kind=t.kind∧s.scale=t.scale›.1
    | exact hf (.inl ‹s.kind=9›) ‹s.kind=t.kind∧s.scale=t.scale›.1
    | exact hf (.inr ‹s.kind=10›) ‹s.kind=t.kind∧s.scale=t.scale›.1
  ((all_goals (try (with_reducible ((first|refine rE ?_|refine nE ?_);(focus (cbv;(try dsimp only [nc] at *);(try simp only [wl,nc]);(repeat' (with_reducible apply And.intro));all_goals (try exact wZ)))))));(all_goals (try ((with_reducible rw [aC]);(try simp only [wl,nc]);(repeat' (with_reducible apply And.intro));(all_goals (try exact cZ))))))
  · rw [hR]
    symm
    by_cases hz:withinB (d+1) s t=true
    · have h1:=withinB_kind hz
      have h2:=withinB_scale' hso.1 hto.1 hz
      rcases ‹_∨_› with z|z
      · exact absurd h1 z
      · exact absurd h2 z
    · simpa using hz
  · rename_i kk k1
    rw [hR,withinB_num kk.1 (by omega) (by omega) (by omega) (by omega) kk.2,decide_eq_true k1];rfl
  · rename_i kk _ k4
    rw [hR,hwv k4 kk.1,Bool.not_not,withinB_text kk.1 k4]
  · rename_i kk _ _ k8
    have:=ownT_elem hso.1 k8
    exact fun _=>by omega
  · rename_i kk _ _ k8
    have:=ownT_elem hto.1 (kk.1 ▸ k8)
    exact fun _=>by omega
  · rename_i kk _ _ k8
    rw [bndI,hR,withinB_list kk.1 k8,hb]
    cases bndB s t<;>cases b<;>by_cases z:s.max=0<;>simp [z]
  · rename_i kk _ _ _ k10
    rw [hR,withinB_var kk.1 k10,← hq,k10,firstB_case]
    unfold casesB
    rw [← idxI_any]
    by_cases z:iI (offB (withinB d) t) s.fields<0
    · rw [decide_eq_true z,decide_eq_false (by omega)];rfl
    · rw [decide_eq_false z,decide_eq_true (by omega)];rfl
  · rename_i kk _ _ _ _ k9 h0
    rw [k9,firstB_rec] at hq
    rw [hR,withinB_rec kk.1 k9]
    unfold recsB
    rw [← idxI_any (p:=wrongB (withinB d) t),hq,decide_eq_true h0];simp
  · rename_i kk _ _ _ _ k9 h0
    rw [k9,firstB_rec] at hq
    have hR2:R=!(t.fields.any (missB s)):=by
      rw [hR,withinB_rec kk.1 k9]
      unfold recsB
      rw [← idxI_any (p:=wrongB (withinB d) t),hq,decide_eq_false (show ¬ 0≤q by omega)];simp
    clear hR hq hf he hw4 hwv ih
    refine .loop (fun i:Nat=>⟨104,[(8,.int .i64 fun _=>i),(3,.ptr 3 0),(2,.ptr 2 0)],[(2,.box (cl' e (d+1) .any fun _=>s)),(3,.box (cl' e (d+1) .any fun _=>t))]⟩)
      (fun i=>i≤t.fields.length∧∀ j,j<i→missB s (t.fields.getD j default)=false) (fun i=>t.fields.length - i) 0 (by simp) ?_ fun i E hi=>?_
    · (focus (cbv;(try dsimp only [nc] at *);(try simp only [wl,nc]);(repeat' (with_reducible apply And.intro));all_goals (try exact wZ)))
    obtain ⟨x,hx⟩:∃ x,x=t.fields.getD i default:=⟨_,rfl⟩
    have hF:=refFieldT_ok e d s hs (fM x)
    apply AWp.wk tF mF [(20,[(15,.int .i64 fun _=>iI (bQ (fM x)) s.fields,[])])] kp18 ?_
    (any_goals ((with_reducible refine wI ?_);cbv;(try dsimp only [nc] at *);(repeat' (with_reducible first|exact aO|exact oN|refine oC ?_ ?_|refine VC.mk rfl ?_ ?_ ?_|(apply Ca.mk<;>intro _)|(apply Cv.mk<;>intro zq<;>(try simp only [nc,cl] at zq)<;>(try simp only [bl,dl] at zq)<;>(revert zq;intro _))|((first|apply xE|apply uE);cbv;(try dsimp only [nc] at *))))))
    all_goals (try simp only [Int.toNat_natCast,← hx])
    (any_goals ((with_reducible refine bZ ?_)<;>exact hF))
    ((all_goals (try (with_reducible ((first|refine rE ?_|refine nE ?_);(focus (cbv;(try dsimp only [nc] at *);(try simp only [wl,nc]);(repeat' (with_reducible apply And.intro));all_goals (try exact wZ)))))));(all_goals (try ((with_reducible rw [aC]);(try simp only [wl,nc]);(repeat' (with_reducible apply And.intro));(all_goals (try exact cZ))))))
    · rename_i hlt h
      rw [hR2]
      symm
      rw [Bool.not_eq_false',List.any_eq_true]
      rw [← hx] at h
      refine ⟨x,by rw [hx];exact getD_mem hlt,?_⟩
      unfold missB
      rw [decide_eq_true h.1,decide_eq_true h.2];rfl
    · rename_i hlt h
      refine dE (i+1) ⟨⟨by omega,fun j hj=>?_⟩,by omega⟩ ?_
      · rcases Nat.lt_succ_iff_lt_or_eq.1 hj with hj|rfl
        · exact hi.2 j hj
        · rw [← hx] at h ⊢
          exact missB_false.2 fun z=>by rcases h with h|h<;>omega
      · (focus (cbv;(try dsimp only [nc] at *);(try simp only [wl,nc]);(repeat' (with_reducible apply And.intro));all_goals (try exact wZ)))
        exact w64n (by omega)
    · rw [hR2]
      symm
      rw [anyN]
      intro y hy
      obtain ⟨j,hj,he⟩:=List.getElem_of_mem hy
      have:=hi.2 j (by omega)
      rw [show t.fields.getD j default=y by simpa [List.getD,hj] using he] at this
      exact this
  · rename_i kk k1 k4 k8 k10 k9
    rw [bndI,hR,withinB_num kk.1 (by omega) (by omega) (by omega) (by omega) kk.2,decide_eq_false k1];rfl
theorem refWithin_ok (e:Nat):∀ (d:Nat) (s t:Ty),Ty.le e d s→Ty.le e d t→Ty.ok e d s→Ty.ok e d t→Af Tryz.prog 18 [encT e d .any fun _=>s,encT e d .any fun _=>t] [] (.bool fun _=>withinB d s t) []
  | 0,_,_,h,_,_,_=>h.elim
  | d+1,s,t,hs,ht,hso,hto=>refWithin_step e d s t hs ht hso hto fun x y h1 h2 h3 h4=>refWithin_ok e d x y h1 h2 h3 h4
end Go.Ai
