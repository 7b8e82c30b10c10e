/- Chapter 8: a text that another type has not, as the program looks for it; members. -/
import Derived.Test.YtalghhdapjmbbaaGreatDoorWitC
import Derived.Test.YtalghhdapjmbbaaGreatDoorSubF
import Derived.Test.YtalghhdapjmbbaaGreatDoorSubE
set_option linter.all false
namespace Go.Ai
open Go Go.Proofs
set_option maxRecDepth 100000
set_option maxHeartbeats 4000000
def freeV (s t:Ty):ByteArray:=if s.min=0∧txtB t ⟨#[]⟩=false then ⟨#[]⟩ else if firstC s t<95 then candS s (firstC s t) else ⟨#[]⟩
theorem freeV_at {s t:Ty} {i:Nat} (h1:¬ (s.min=0∧txtB t ⟨#[]⟩=false)) (hi:i<95) (h:txtB t (candS s i)=false) (hj:∀ j,j<i→txtB t (candS s j)=true):freeV s t=candS s i:=by
  have hf:=firstC_at hi h hj
  unfold freeV;rw [if_neg h1,if_pos (by omega),hf]
theorem freeV_no {s t:Ty} (h1:¬ (s.min=0∧txtB t ⟨#[]⟩=false)) (hj:∀ j,j<95→txtB t (candS s j)=true):freeV s t=⟨#[]⟩:=by
  unfold freeV;rw [if_neg h1,if_neg (firstC_no hj)]
theorem freeV_size {s t:Ty} (h:s.min≤1024):(freeV s t).size≤1073741824:=by
  have hz:(⟨#[]⟩:ByteArray).size=0:=rfl
  unfold freeV
  split
  · omega
  split
  · rw [candS_size];omega
  · omega
theorem free_ok (e d:Nat) (s t:Ty) (hs:Ty.le e (d+1) s) (ht:Ty.le e (d+1) t) (hb:s.min≤1024):Af Tryz.prog 44 [encT e (d+1) .any fun _=>s,encT e (d+1) .any fun _=>t] [] (.str fun _=>freeV s t) []:=by
  have h0:=hasW_ok e d t ht ⟨#[]⟩
  have hM:∃ k:Nat,k≤1024∧Max.max s.min 1=(k:Int)+1∧(Max.max s.min 1 - 1).toNat=k:=⟨(Max.max s.min 1 - 1).toNat,by omega,by omega,rfl⟩
  obtain ⟨k,hk,hk1,hk2⟩:=hM
  have hr:=Repeat_ok 97 k (by omega) (by omega)
  have hB:∀ i:Nat,i<95→bytesA (fun _=>1) (litArr [[AV.int .u8 fun _=>(32+(i:Int))]])=oneS (UInt8.ofNat (32+i)):=fun i hi=>by
    rw [bytesA_b]
    congr 2
  have hc:∀ i,candS s i=repS 97 k++oneS (UInt8.ofNat (32+i)):=fun i=>by unfold candS;rw [hk2]
  (apply Af.of tF mF [.tmp 4] kp44 [(1,[(5,.bool fun _=>txtB t ⟨#[]⟩,[])]),(3,[(4,.str fun _=>repS 97 k,[])])] Tryz.func44 (fun _=>?_);(any_goals ((with_reducible refine wI ?_);cbv;(try dsimp only [nc] at *);(repeat' (with_reducible first|exact aO|exact oN|refine oC ?_ ?_|refine VC.mk rfl ?_ ?_ ?_|(apply Ca.mk<;>intro _)|(apply Cv.mk<;>intro zq<;>(try simp only [nc,cl] at zq)<;>(try simp only [bl,dl] at zq)<;>(revert zq;intro _))|((first|apply xE|apply uE);cbv;(try dsimp only [nc] at *)))))))
  (any_goals ((with_reducible refine bZ ?_);(try dsimp only);(have q:=h0;refine Af.wN q ?_;clear q);(focus (cbv;(try dsimp only [nc] at *);(try simp only [wl,nc]);(repeat' (with_reducible apply And.intro));all_goals (try exact wZ)))))
  (any_goals ((with_reducible refine bZ ?_);(try dsimp only);(have q:=hr;refine Af.wN q ?_;clear q);(focus (cbv;(try dsimp only [nc] at *);(try simp only [wl,nc]);(repeat' (with_reducible apply And.intro));all_goals (try exact wZ)))))
  ((all_goals (try (with_reducible ((first|refine rE ?_|refine nE ?_);(focus (cbv;(try dsimp only [nc] at *);(try simp only [wl,nc]);(repeat' (with_reducible apply And.intro));all_goals (try exact wZ)))))));(all_goals (try ((with_reducible rw [aC]);(try simp only [wl,nc]);(repeat' (with_reducible apply And.intro));(all_goals (try exact cZ))))))
  · unfold freeV;rw [if_pos ‹_›]
  · simp only [if_true]
    rw [show (if s.min<1 then 1 else s.min)=(k:Int)+1 by rw [← hk1];omega,w64 (by omega) (by omega)];omega
  rename_i hno
  have hno':¬ (s.min=0∧txtB t ⟨#[]⟩=false):=fun q=>by
    rcases hno with z|z
    · exact z q.1
    · rw [q.2] at z;cases z
  refine .loop (fun i:Nat=>⟨35,[(6,.int .u8 fun _=>(32+i:Int)),(5,.str fun _=>repS 97 k),(3,.ptr 3 0)],[(3,.box (cl' e (d+1) .any fun _=>t))]⟩)
    (fun i=>i≤95∧∀ j,j<i→txtB t (candS s j)=true) (fun i=>95 - i) 0 (by simp) ?_ fun i E hi=>?_
  · (focus (cbv;(try dsimp only [nc] at *);(try simp only [wl,nc]);(repeat' (with_reducible apply And.intro));all_goals (try exact wZ)))
  have htx:=hasW_ok e d t ht (candS s i)
  apply AWp.wk tF mF [(8,[(2,.bool fun _=>txtB t (candS s i),[])])] kp44 ?_
  (any_goals ((with_reducible refine wI ?_);cbv;(try dsimp only [nc] at *);(repeat' (with_reducible first|exact aO|exact oN|refine oC ?_ ?_|refine VC.mk rfl ?_ ?_ ?_|(apply Ca.mk<;>intro _)|(apply Cv.mk<;>intro zq<;>(try simp only [nc,cl] at zq)<;>(try simp only [bl,dl] at zq)<;>(revert zq;intro _))|((first|apply xE|apply uE);cbv;(try dsimp only [nc] at *))))))
  all_goals (try rw [hB i (by omega)])
  (any_goals ((with_reducible refine bZ ?_);(try dsimp only);(have q:=htx;refine Af.wN q ?_;clear q);(focus (cbv;(try dsimp only [nc] at *);(try simp only [wl,nc]);(repeat' (with_reducible apply And.intro));all_goals (try exact wZ)))))
  ((all_goals (try (with_reducible ((first|refine rE ?_|refine nE ?_);(focus (cbv;(try dsimp only [nc] at *);(try simp only [wl,nc]);(repeat' (with_reducible apply And.intro));all_goals (try exact wZ)))))));(all_goals (try ((with_reducible rw [aC]);(try simp only [wl,nc]);(repeat' (with_reducible apply And.intro));(all_goals (try exact cZ))))))
  · exact fun i hi=>isByte_one i hi
  · rw [repS_size,show (oneS (UInt8.ofNat (32+i))).size=1 from rfl];omega
  · rw [hc]
  · rw [← hc,freeV_at hno' (by omega) ‹_› hi.2]
  · refine dE (i+1) ⟨⟨by omega,fun j hj=>?_⟩,by omega⟩ ?_
    · rcases Nat.lt_succ_iff_lt_or_eq.1 hj with hj|rfl
      · exact hi.2 j hj
      · assumption
    · (focus (cbv;(try dsimp only [nc] at *);(try simp only [wl,nc]);(repeat' (with_reducible apply And.intro));all_goals (try exact wZ)))
      rw [u8 (by omega) (by omega)];omega
  · exact (freeV_no hno' fun j hj=>hi.2 j (by omega)).symm
theorem row_v {c:Nat} (v:V):∀ i,i<1→LeL (litArr [cells c .any fun _=>v] fun _=>i) (cells c .any fun _=>[v].getD i default):=fun i hi=>by
  have:i=0:=by omega
  subst this
  exact LeL.of_eq rfl
theorem member_ex (e d c:Nat) (x:TF) (t:Ty) (he:e+1≤1073741824) (hcd:d+(e+1)=c) (hx:Ty.le (e+1) d (fT x)) (ht:Ty.le (e+1) (d+1) t) (hnd:(t.fields.map fM).Nodup)
    (hw:0≤iI (bQ (fM x)) t.fields→Af Tryz.prog 22 [encT (e+1) d .any fun _=>fT x,encT (e+1) d .any fun _=>fT (gT t (bQ (fM x)))] [] (.bool fun _=>withinB d (fT x) (fT (gT t (bQ (fM x))))) [])
    (hi:0≤iI (bQ (fM x)) t.fields→withinB d (fT x) (fT (gT t (bQ (fM x))))=false→∃ v b,V.le c v∧Af Tryz.prog 23 [encT (e+1) d .any fun _=>fT x,encT (e+1) d .any fun _=>fT (gT t (bQ (fM x)))] [] (.tup [encV c .any fun _=>v,.bool fun _=>b]) []) :
    ∃ l b,l.length≤1∧(iI (bQ (fM x)) t.fields<0∨withinB d (fT x) (fT (gT t (bQ (fM x))))=false→0<l.length)∧(∀ v ∈ l,V.le c v)∧Af Tryz.prog 47 [encTF (e+1) d .any fun _=>x,encT (e+1) (d+1) .any fun _=>t] [] (.tup [slcV c .any fun _=>l,.bool fun _=>b]) []:=by
  have h1:=lst_ok e d (fT x) he hx
  have h2:=lstW_le e d (fT x) hx
  rw [hcd] at h1 h2
  generalize lstW (e+1) d (fT x)=W at h1 h2
  obtain ⟨w,wb⟩:=W
  simp only at h1 h2
  obtain ⟨c,rfl⟩:=V.lP h2
  have hfl:=ht.2.2.2.1
  generalize withinB d (fT x) (fT (gT t (bQ (fM x))))=a at hw hi
  rcases names_case (t:=t) (n:=fM x) with ⟨n1,n2,n3,n4⟩|⟨n1,n2⟩
  · have hw':=hw n2
    have hi':=hi n2
    clear hw hi
    have n1':¬ kHas (t.fields.map fM) (fM x)=false:=by rw [n1];simp
    cases a with
    | true =>
      refine ⟨[],true,by simp,fun h=>by (rcases h with h|h;omega;cases h),fun _ h=>(by cases h),?_⟩
      (apply Af.of tF mF [.tmp 4,.tmp 5] kp47 [(1,[(1,namesA t,[])]),(3,[(2,.tup [encV (c+1) .any fun _=>w,.bool fun _=>wb],[])]),(5,[(8,.bool fun _=>true,[])]),(7,[(8,.tup [encV (c+1) .any fun _=>w,.bool fun _=>wb],[])])] Tryz.func47 (fun _=>?_);(any_goals ((with_reducible refine wI ?_);cbv;(try dsimp only [nc] at *);(repeat' (with_reducible first|exact aO|exact oN|refine oC ?_ ?_|refine VC.mk rfl ?_ ?_ ?_|(apply Ca.mk<;>intro _)|(apply Cv.mk<;>intro zq<;>(try simp only [nc,cl] at zq)<;>(try simp only [bl,dl] at zq)<;>(revert zq;intro _))|((first|apply xE|apply uE);cbv;(try dsimp only [nc] at *)))))))
      all_goals (try (exact absurd ‹kHas _ _=false› n1'))
      (any_goals ((with_reducible refine bZ ?_)<;>exact (names_ok (e+1) d t ht hnd)))
      all_goals (try simp only [n1,if_true,Int.toNat_natCast,n4])
      any_goals (refine nO ?_;first|exact hw')
      ((all_goals (try (with_reducible ((first|refine rE ?_|refine nE ?_);(focus (cbv;(try dsimp only [nc] at *);(try simp only [wl,nc]);(repeat' (with_reducible apply And.intro));all_goals (try exact wZ)))))));(all_goals (try ((with_reducible rw [aC]);(try simp only [wl,nc]);(repeat' (with_reducible apply And.intro));(all_goals (try exact cZ))))))
    | false =>
      obtain ⟨v,b,hv,hwi⟩:=hi' rfl
      refine ⟨[v],b,by simp,fun _=>by simp,fun y hy=>by rw [List.mem_singleton.1 hy];exact hv,?_⟩
      (apply Af.of tF mF [.tmp 4,.tmp 5] kp47 [(1,[(1,namesA t,[])]),(3,[(2,.tup [encV (c+1) .any fun _=>w,.bool fun _=>wb],[])]),(5,[(8,.bool fun _=>false,[])]),(7,[(8,.tup [encV (c+1) .any fun _=>v,.bool fun _=>b],[])])] Tryz.func47 (fun _=>?_);(any_goals ((with_reducible refine wI ?_);cbv;(try dsimp only [nc] at *);(repeat' (with_reducible first|exact aO|exact oN|refine oC ?_ ?_|refine VC.mk rfl ?_ ?_ ?_|(apply Ca.mk<;>intro _)|(apply Cv.mk<;>intro zq<;>(try simp only [nc,cl] at zq)<;>(try simp only [bl,dl] at zq)<;>(revert zq;intro _))|((first|apply xE|apply uE);cbv;(try dsimp only [nc] at *)))))))
      all_goals (try (exact absurd ‹kHas _ _=false› n1'))
      (any_goals ((with_reducible refine bZ ?_)<;>exact (names_ok (e+1) d t ht hnd)))
      all_goals (try simp only [n1,if_true,Int.toNat_natCast,n4])
      any_goals (refine nO ?_;first|exact hw'|exact hwi)
      ((all_goals (try (with_reducible ((first|refine rE ?_|refine nE ?_);(focus (cbv;(try dsimp only [nc] at *);(try simp only [wl,nc]);(repeat' (with_reducible apply And.intro));all_goals (try exact wZ)))))));(all_goals (try ((with_reducible rw [aC]);(try simp only [wl,nc]);(repeat' (with_reducible apply And.intro));(all_goals (try exact cZ))))))
      · rfl
      · exact row_v v
  · have n1':¬ kHas (t.fields.map fM) (fM x)=true:=by rw [n1];simp
    refine ⟨[w],wb,by simp,fun _=>by simp,fun y hy=>by rw [List.mem_singleton.1 hy];exact h2,?_⟩
    (apply Af.of tF mF [.tmp 4,.tmp 5] kp47 [(1,[(1,namesA t,[])]),(3,[(2,.tup [encV (c+1) .any fun _=>w,.bool fun _=>wb],[])]),(5,[(8,.bool fun _=>true,[])]),(7,[(8,.tup [encV (c+1) .any fun _=>w,.bool fun _=>wb],[])])] Tryz.func47 (fun _=>?_);(any_goals ((with_reducible refine wI ?_);cbv;(try dsimp only [nc] at *);(repeat' (with_reducible first|exact aO|exact oN|refine oC ?_ ?_|refine VC.mk rfl ?_ ?_ ?_|(apply Ca.mk<;>intro _)|(apply Cv.mk<;>intro zq<;>(try simp only [nc,cl] at zq)<;>(try simp only [bl,dl] at zq)<;>(revert zq;intro _))|((first|apply xE|apply uE);cbv;(try dsimp only [nc] at *)))))))
    all_goals (try (exact absurd ‹kHas _ _=true› n1'))
    (any_goals ((with_reducible refine bZ ?_)<;>exact (names_ok (e+1) d t ht hnd)))
    all_goals (try simp only [n1])
    any_goals (refine nO ?_;first|exact h1)
    ((all_goals (try (with_reducible ((first|refine rE ?_|refine nE ?_);(focus (cbv;(try dsimp only [nc] at *);(try simp only [wl,nc]);(repeat' (with_reducible apply And.intro));all_goals (try exact wZ)))))));(all_goals (try ((with_reducible rw [aC]);(try simp only [wl,nc]);(repeat' (with_reducible apply And.intro));(all_goals (try exact cZ))))))
    · rfl
    · exact row_v w
def bndW (s t:Ty):Int:=if s.min<t.min then s.min else s.max
theorem wit_num2 (e d c:Nat) (s t:Ty) (ks:s.kind=2∨s.kind=3∨s.kind=6∨s.kind=7) (kt:t.kind=s.kind) (hsc:s.kind=3→s.scale=t.scale) :
    Af Tryz.prog 23 [encT e d .any fun _=>s,encT e d .any fun _=>t] [] (.tup [encV (c+1) .any fun _=>.mk s.kind (bndW s t) s.scale ⟨#[]⟩ [] [],.bool fun _=>true]) []:=by
  rcases ks with ks|ks|ks|ks <;>
  · rw [encT_kind ks,encT_kind (kt.trans ks),ks]
    (apply Af.of tF mF [.cell 4 33,.tmp 5] kp23 [] Tryz.func23 (fun _=>?_);(any_goals ((with_reducible refine wI ?_);cbv;(try dsimp only [nc] at *);(repeat' (with_reducible first|exact aO|exact oN|refine oC ?_ ?_|refine VC.mk rfl ?_ ?_ ?_|(apply Ca.mk<;>intro _)|(apply Cv.mk<;>intro zq<;>(try simp only [nc,cl] at zq)<;>(try simp only [bl,dl] at zq)<;>(revert zq;intro _))|((first|apply xE|apply uE);cbv;(try dsimp only [nc] at *)))))))
    all_goals (try (exact absurd trivial ‹¬True›))
    all_goals (try (exfalso;omega))
    all_goals (try (exfalso;simp_all;done))
    ((all_goals (try (with_reducible ((first|refine rE ?_|refine nE ?_);(focus (cbv;(try dsimp only [nc] at *);(try simp only [wl,nc]);(repeat' (with_reducible apply And.intro));all_goals (try exact wZ)))))));(all_goals (try ((with_reducible rw [aC]);(try simp only [wl,nc]);(repeat' (with_reducible apply And.intro));(all_goals (try exact cZ))))))
    all_goals first
      | rfl
      | (unfold bndW;rw [if_pos ‹_›];rfl)
      | (unfold bndW;rw [if_neg (by omega)];rfl)
theorem wit_bytes (e d c:Nat) (s t:Ty) (ks:s.kind=5) (kt:t.kind=5) (hb:0≤s.min∧s.min≤s.max∧s.max≤1024) :
    Af Tryz.prog 23 [encT e d .any fun _=>s,encT e d .any fun _=>t] [] (.tup [encV (c+1) .any fun _=>mkV 5 0 0 (repS 0 (bndW s t).toNat),.bool fun _=>true]) []:=by
  have hb1:s.min<t.min→bndW s t=s.min:=fun q=>by unfold bndW;rw [if_pos q]
  have hb2:t.min≤s.min→bndW s t=s.max:=fun q=>by unfold bndW;rw [if_neg (by omega)]
  have hR:=Repeat_ok 0 (bndW s t) (by unfold bndW;split<;>omega) (by unfold bndW;split<;>omega)
  have hT:=any_of (Bytes_ok (repS 0 (bndW s t).toNat) c)
  generalize bndW s t=b at *
  rw [encT_kind ks,encT_kind kt]
  (apply Af.of tF mF [.cell 4 33,.tmp 5] kp23 [(13,[(1,.str fun _=>repS 0 b.toNat,[]),(2,encV (c+1) .any fun _=>mkV 5 0 0 (repS 0 b.toNat),[])])] Tryz.func23 (fun _=>?_);(any_goals ((with_reducible refine wI ?_);cbv;(try dsimp only [nc] at *);(repeat' (with_reducible first|exact aO|exact oN|refine oC ?_ ?_|refine VC.mk rfl ?_ ?_ ?_|(apply Ca.mk<;>intro _)|(apply Cv.mk<;>intro zq<;>(try simp only [nc,cl] at zq)<;>(try simp only [bl,dl] at zq)<;>(revert zq;intro _))|((first|apply xE|apply uE);cbv;(try dsimp only [nc] at *)))))))
  all_goals (try (exact absurd trivial ‹¬True›))
  all_goals (try (exfalso;omega))
  all_goals (try (exfalso;simp_all;done))
  any_goals (refine nO ?_;first|exact hT|(rw [← hb1 ‹_›];exact hR)|(rw [← hb2 ‹_›];exact hR))
  ((all_goals (try (with_reducible ((first|refine rE ?_|refine nE ?_);(focus (cbv;(try dsimp only [nc] at *);(try simp only [wl,nc]);(repeat' (with_reducible apply And.intro));all_goals (try exact wZ)))))));(all_goals (try ((with_reducible rw [aC]);(try simp only [wl,nc]);(repeat' (with_reducible apply And.intro));(all_goals (try exact cZ))))))
end Go.Ai
