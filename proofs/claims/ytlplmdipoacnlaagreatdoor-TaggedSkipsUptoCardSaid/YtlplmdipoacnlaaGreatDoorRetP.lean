/- TaggedReturns. -/
import Derived.Test.YtlplmdipoacnlaaGreatDoorRdC
import Derived.Test.YtlplmdipoacnlaaGreatDoorDecP
import Derived.Test.YtlplmdipoacnlaaGreatDoorEncE
import Derived.Test.YtlplmdipoacnlaaGreatDoorEncC
import Derived.Test.YtlplmdipoacnlaaGreatDoorWrB
import Derived.Test.YtlplmdipoacnlaaGreatDoorTot
set_option linter.all false
namespace Go.Ai
open Go Go.Proofs
set_option maxRecDepth 100000
set_option maxHeartbeats 4000000
theorem sizeV_any:∀ (c d:Nat) (v:V),V.le c v→sizeV d v≤sizeV c v
  | _,0,_,_=>Nat.zero_le _
  | 0,_+1,_,h=>h.elim
  | c + 1,d+1,v,h=>by
    simp only [sizeV]
    have:∀ l:List V,(∀ x ∈ l,V.le c x)→(l.map (sizeV d)).sum≤(l.map (sizeV c)).sum:=by
      intro l
      induction l with
      | nil=>intro _;exact Nat.le_refl _
      | cons x l ih =>
        intro hl
        have h1:=sizeV_any c d x (hl x (List.mem_cons_self ..))
        have h2:=ih fun y hy=>hl y (List.mem_cons_of_mem _ hy)
        simp only [List.map_cons,List.sum_cons];omega
    have:=this (kids v) fun x hx=>kids_le h hx
    omega
theorem strN_256 (s:ByteArray):∀ x ∈ strN s,x<256:=fun x hx=>by
  obtain ⟨y,_,rfl⟩:=List.mem_map.1 hx
  exact y.toNat_lt
theorem concat_256 {g:Nat→List Nat}:∀ n,(∀ i,i<n→∀ x ∈ g i,x<256)→∀ x ∈ cT g n,x<256
  | 0,_=>fun x hx=>by simp [cT] at hx
  | n+1,h=>fun x hx=>by
    simp only [cT] at hx
    rcases List.mem_append.1 hx with hx|hx
    · exact concat_256 n (fun i hi=>h i (by omega)) x hx
    · exact h n (by omega) x hx
theorem whole_256 {l:List Nat} (h:∀ x ∈ l,x<256):∀ x ∈ wholeN l,x<256:=fun x hx=>by
  rcases List.mem_append.1 hx with hx|hx
  · exact putN_256 _ x hx
  · exact h x hx
theorem encN_256 (e:Nat):∀ (d c:Nat) (t:Ty) (v:V),Ty.ok e d t→V.le c v→V.ok c v→hasT d t v=true→∀ x ∈ encN d t v,x<256
  | 0,_,_,_,h,_,_,_=>h.elim
  | d + 1,c,t,v,hto,hv,hvo,hh=>by
    obtain ⟨c,rfl⟩:=V.lP hv
    have hvk:=hasT_kind hh
    have hown:=V.ok_self hvo
    simp only [encN]
    split
    · have hb:=V.ok_bool hown (by omega)
      intro x hx;simp at hx;omega
    split
    · exact putN_256 _
    split
    · intro x hx
      rcases List.mem_append.1 hx with hx|hx
      · exact putN_256 _ x hx
      · exact strN_256 _ x hx
    split
    · have hk:t.kind=8:=‹_›
      have h1:=ownT_elem hto.1 hk
      have hx:t.elem.getD 0 default ∈ t.elem:=getD_in (by omega)
      intro y hy
      rcases List.mem_append.1 hy with hy|hy
      · exact putN_256 _ y hy
      · refine concat_256 _ (fun i hi=>?_) y hy
        have hxl:v.list.getD i default ∈ v.list:=getD_in hi
        exact encN_256 e d c _ _ (Ty.ok_elem hto hk hx) (hv.2.2.2.1 _ hxl) (V.ok_kid hvo (by simp only [kids];rw [if_pos (by omega)];exact hxl)) (hasT_list hh hk _ hxl)
    split
    · have hk:t.kind=9:=‹_›
      have hnd:=(ownT_nodup hto.1 (.inl hk)).2
      intro y hy
      rcases List.mem_append.1 hy with hy|hy
      · exact putN_256 _ y hy
      · refine concat_256 _ (fun i hi=>?_) y hy
        have hfm:(sortT t.fields).getD i default ∈ t.fields:=sortT_mem.1 (getD_in (by rw [sortT_len];exact hi))
        intro z hz
        unfold fldN at hz
        split at hz
        · rename_i q
          rcases List.mem_append.1 hz with hz|hz
          · exact putN_256 _ z hz
          · obtain ⟨hm,hT⟩:=hasT_fld hh hk hnd hfm q.2
            exact whole_256 (encN_256 e d c _ _ (Ty.ok_field hto (.inl hk) hfm) (hv.2.2.2.2 _ hm).2 (V.ok_kid hvo (by simp only [kids];rw [if_neg (by omega),if_pos (by omega)];exact List.mem_map_of_mem (f:=(·.2)) hm)) hT) z hz
        · cases hz
    split
    · have hk:t.kind=10:=‹_›
      have h1:=V.ok_list hown (by omega)
      have hxl:v.list.getD 0 default ∈ v.list:=getD_in (by omega)
      obtain ⟨h0,hT⟩:=hasT_var hh hk
      intro y hy
      rcases List.mem_append.1 hy with hy|hy
      · exact putN_256 _ y hy
      · exact whole_256 (encN_256 e d c _ _ (Ty.ok_field hto (.inr hk) (getTF_mem h0)) (hv.2.2.2.1 _ hxl) (V.ok_kid hvo (by simp only [kids];rw [if_pos (by omega)];exact hxl)) hT) y hy
    · intro x hx;cases hx
theorem equal_up {M c:Nat} {v:V} (hv:V.le c v) (hc:c≤M):Af Tryz.prog 34 [encV M .any fun _=>v,encV c .any fun _=>v] [] (.bool fun _=>true) []:=by
  obtain ⟨c,rfl⟩:=V.lP hv
  obtain ⟨M,rfl⟩:∃ k,M=k+1:=⟨M - 1,by omega⟩
  have h:=refEqual_ok (M+1) v v (V.le_mono hv hc) (V.le_mono hv hc)
  have hr:(cmpV (M+1) v v == 0)=true:=by rw [(cmpV_cmp _).refl];rfl
  rw [hr] at h
  refine Af.wN h ?_
  (focus (cbv;(try dsimp only [nc] at *);(try simp only [wl,nc]);(repeat' (with_reducible apply And.intro));all_goals (try exact wZ)))
  · exact fun i hi=>cells_mono (V.le_list hv hi) (by omega)
  · exact fun i hi=>(cells_mono (V.le_field hv hi) (by omega)).cons _
end Go.Ai
