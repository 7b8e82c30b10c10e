/- TaggedReturns. -/
import Derived.Test.YtlplmdipoacnlaaGreatDoorRdC
import Derived.Test.YtlplmdipoacnlaaGreatDoorDecP
import Derived.Test.YtlplmdipoacnlaaGreatDoorEncE
import Derived.Test.YtlplmdipoacnlaaGreatDoorEncC
import Derived.Test.YtlplmdipoacnlaaGreatDoorWrB
import Derived.Test.YtlplmdipoacnlaaGreatDoorTot
set_option linter.all false
namespace Go.Ai
open Go Go.Proofs
set_option maxRecDepth 100000
set_option maxHeartbeats 4000000
theorem strN_256 (s:ByteArray):∀ x ∈ strN s,x<256:=fun x hx=>by
  obtain ⟨y,_,rfl⟩:=List.mem_map.1 hx
  exact y.toNat_lt
theorem concat_256 {g:Nat→List Nat}:∀ n,(∀ i,i<n→∀ x ∈ g i,x<256)→∀ x ∈ concatTo g n,x<256
  | 0,_=>fun x hx=>by simp [concatTo] at hx
  | n+1,h=>fun x hx=>by
    simp only [concatTo] at hx
    rcases List.mem_append.1 hx with hx|hx
    · exact concat_256 n (fun i hi=>h i (by omega)) x hx
    · exact h n (by omega) x hx
theorem whole_256 {l:List Nat} (h:∀ x ∈ l,x<256):∀ x ∈ wholeN l,x<256:=fun x hx=>by
  rcases List.mem_append.1 hx with hx|hx
  · exact putN_256 _ x hx
  · exact h x hx
theorem encN_256 (e:Nat):∀ (d c:Nat) (t:Ty) (v:V),Ty.ok e d t→V.le c v→V.ok c v→hasT d t v=true→∀ x ∈ encN d t v,x<256
  | 0,_,_,_,h,_,_,_=>h.elim
  | d + 1,c,t,v,hto,hv,hvo,hh=>by
    obtain ⟨c,rfl⟩:=V.le_pos hv
    have hvk:=hasT_kind hh
    have hown:=V.ok_self hvo
    simp only [encN]
    split
    · have hb:=V.ok_bool hown (by omega)
      intro x hx;simp at hx;omega
    split
    · exact putN_256 _
    split
    · intro x hx
      rcases List.mem_append.1 hx with hx|hx
      · exact putN_256 _ x hx
      · exact strN_256 _ x hx
    split
    · have hk:t.kind=8:=‹_›
      have h1:=ownT_elem hto.1 hk
      have hx:t.elem.getD 0 default ∈ t.elem:=getD_in (by omega)
      intro y hy
      rcases List.mem_append.1 hy with hy|hy
      · exact putN_256 _ y hy
      · refine concat_256 _ (fun i hi=>?_) y hy
        have hxl:v.list.getD i default ∈ v.list:=getD_in hi
        exact encN_256 e d c _ _ (Ty.ok_elem hto hk hx) (hv.2.2.2.1 _ hxl) (V.ok_kid hvo (by simp only [kids];rw [if_pos (by omega)];exact hxl)) (hasT_list hh hk _ hxl)
    split
    · have hk:t.kind=9:=‹_›
      have hnd:=(ownT_nodup hto.1 (.inl hk)).2
      intro y hy
      rcases List.mem_append.1 hy with hy|hy
      · exact putN_256 _ y hy
      · refine concat_256 _ (fun i hi=>?_) y hy
        have hfm:(sortT t.fields).getD i default ∈ t.fields:=sortT_mem.1 (getD_in (by rw [sortT_len];exact hi))
        intro z hz
        unfold fldN at hz
        split at hz
        · rename_i q
          rcases List.mem_append.1 hz with hz|hz
          · exact putN_256 _ z hz
          · obtain ⟨hm,hT⟩:=hasT_fld hh hk hnd hfm q.2
            exact whole_256 (encN_256 e d c _ _ (Ty.ok_field hto (.inl hk) hfm) (hv.2.2.2.2 _ hm).2 (V.ok_kid hvo (by simp only [kids];rw [if_neg (by omega),if_pos (by omega)];exact List.mem_map_of_mem (f:=(·.2)) hm)) hT) z hz
        · cases hz
    split
    · have hk:t.kind=10:=‹_›
      have h1:=V.ok_list hown (by omega)
      have hxl:v.list.getD 0 default ∈ v.list:=getD_in (by omega)
      obtain ⟨h0,hT⟩:=hasT_var hh hk
      intro y hy
      rcases List.mem_append.1 hy with hy|hy
      · exact putN_256 _ y hy
      · exact whole_256 (encN_256 e d c _ _ (Ty.ok_field hto (.inr hk) (getTF_mem h0)) (hv.2.2.2.1 _ hxl) (V.ok_kid hvo (by simp only [kids];rw [if_pos (by omega)];exact hxl)) hT) y hy
    · intro x hx;cases hx
theorem dec_back {e d c:Nat} {t:Ty} {v:V} {m:ByteArray} (hto:Ty.ok e d t) (hv:V.le c v) (hvo:V.ok c v) (hh:hasT d t v=true) (hz:(baL (encN d t v)++m).size≤536870912) :
    decV d t (rdAt (baL (encN d t v)++m) 0)=(v,rdAt (baL (encN d t v)++m) (baL (encN d t v)).size):=by
  have hb:=encN_256 e d c t v hto hv hvo hh
  have hg:(rdAt (baL (encN d t v)++m) 0).good:=rdAt_good (by omega) (by omega) (by omega)
  have hr:(rdAt (baL (encN d t v)++m) 0).room=encN d t v++strN m:=by
    show ((strN (baL (encN d t v)++m)).take (baL (encN d t v)++m).size).drop 0=_
    rw [List.drop_zero,List.take_of_length_le (by rw [strN_len];exact Nat.le_refl _)]
    have:strN (baL (encN d t v)++m)=strN (baL (encN d t v))++strN m:=by simp [strN,ByteArray.data_append]
    rw [this,strN_of hb]
  rw [dec_enc e d c t v hto hv hvo hh _ _ hg rfl hr]
  show (v,Rd.to _ _)=_
  simp only [Rd.to,rdAt,baL_size,Int.zero_add]
end Go.Ai
