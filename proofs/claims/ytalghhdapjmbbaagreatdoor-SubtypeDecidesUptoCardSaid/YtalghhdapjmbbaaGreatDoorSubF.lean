/- Chapter 8: the reference's texts. -/
import Derived.Test.YtalghhdapjmbbaaGreatDoorSubE
import Derived.Test.YtalghhdapjmbbaaGreatDoorSubA
import Derived.Test.YtalghhdapjmbbaaGreatDoorEncA
import Derived.Test.YtalghhdapjmbbaaGreatDoorSubB
set_option linter.all false
namespace Go.Ai
open Go Go.Proofs
set_option maxRecDepth 100000
set_option maxHeartbeats 4000000
theorem isByte_one {x:Unit→Int} (i:Nat) (h:i<1):isByte (litArr [[AV.int .u8 x]] fun _=>i)=true:=by
  have:i=0:=by omega
  subst this;rfl
theorem u8 {x:Int} (h1:0≤x) (h2:x<256):IntKind.u8.wrap x=x:=by simp [IntKind.wrap,IntKind.bits,IntKind.signed];omega
theorem bytesA_b (b:Unit→Int):bytesA (fun _=>1) (litArr [[AV.int .u8 b]])=oneS (UInt8.ofNat (b ()).toNat):=by
  simp [bytesA,oneS,litArr,byteOfA,List.range_succ]
theorem findIdx_at {α:Type} {p:α→Bool} {l:List α} {i:Nat} {x:α} (hi:i<l.length) (h:p (l.getD i x)=true) (hj:∀ j,j<i→p (l.getD j x)=false):l.findIdx p=i:=by
  rw [List.findIdx_eq hi]
  refine ⟨by simpa [List.getD,hi] using h,fun j q=>?_⟩
  have:=hj j q
  simpa [List.getD,show j<l.length by omega] using this
theorem findIdx_no {α:Type} {p:α→Bool} {l:List α} {x:α} (hj:∀ j,j<l.length→p (l.getD j x)=false):¬ l.findIdx p<l.length:=by
  intro h
  have h1:=List.findIdx_getElem (w:=h) (p:=p)
  have h2:=hj _ h
  rw [show l.getD (l.findIdx p) x=l[l.findIdx p] by simp [List.getD,h]] at h2
  rw [h1] at h2;cases h2
theorem range_getD8 (n i x:Nat) (h:i<n):(List.range n).getD i x=i:=by simp [List.getD,h]
theorem firstC_at {s t:Ty} {i:Nat} (hi:i<95) (h:txtB t (candS s i)=false) (hj:∀ j,j<i→txtB t (candS s j)=true):firstC s t=i:=by
  unfold firstC
  refine findIdx_at (x:=0) (by rw [List.length_range];exact hi) ?_ fun j q=>?_
  · rw [range_getD8 _ _ _ hi,h];rfl
  · rw [range_getD8 _ _ _ (by omega),hj j q];rfl
theorem firstC_no {s t:Ty} (hj:∀ j,j<95→txtB t (candS s j)=true):¬ firstC s t<95:=by
  have:=findIdx_no (p:=fun i=>!txtB t (candS s i)) (l:=List.range 95) (x:=0) fun j q=>by
    rw [List.length_range] at q
    rw [range_getD8 _ _ _ q,hj j q];rfl
  rw [List.length_range] at this
  exact this
end Go.Ai
