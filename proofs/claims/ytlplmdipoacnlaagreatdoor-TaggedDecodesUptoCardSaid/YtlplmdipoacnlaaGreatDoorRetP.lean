/- TaggedReturns. -/
import Derived.Test.YtlplmdipoacnlaaGreatDoorRdC
import Derived.Test.YtlplmdipoacnlaaGreatDoorDecP
import Derived.Test.YtlplmdipoacnlaaGreatDoorEncE
import Derived.Test.YtlplmdipoacnlaaGreatDoorEncC
import Derived.Test.YtlplmdipoacnlaaGreatDoorWrB
import Derived.Test.YtlplmdipoacnlaaGreatDoorTot
set_option linter.all false
namespace Go.Ai
open Go Go.Proofs
set_option maxRecDepth 100000
set_option maxHeartbeats 4000000
theorem sizeV_any:∀ (c d:Nat) (v:V),V.le c v→sV d v≤sV c v
  | _,0,_,_=>Nat.zero_le _
  | 0,_+1,_,h=>h.elim
  | c + 1,d+1,v,h=>by
    simp only [sV]
    have:∀ l:List V,(∀ x ∈ l,V.le c x)→(l.map (sV d)).sum≤(l.map (sV c)).sum:=by
      intro l
      induction l with
      | nil=>intro _;exact Nat.le_refl _
      | cons x l ih =>
        intro hl
        have h1:=sizeV_any c d x (hl x (List.mem_cons_self ..))
        have h2:=ih fun y hy=>hl y (List.mem_cons_of_mem _ hy)
        simp only [List.map_cons,List.sum_cons];omega
    have:=this (kz v) fun x hx=>kids_le h hx
    omega
theorem equal_up {M c:Nat} {v:V} (hv:V.le c v) (hc:c≤M):Af Tryz.prog 34 [encV M .any fun _=>v,encV c .any fun _=>v] [] (.bool fun _=>true) []:=by
  obtain ⟨c,rfl⟩:=V.lP hv
  obtain ⟨M,rfl⟩:∃ k,M=k+1:=⟨M - 1,by omega⟩
  have h:=refEqual_ok (M+1) v v (V.le_mono hv hc) (V.le_mono hv hc)
  have hr:(cmpV (M+1) v v == 0)=true:=by rw [(cmpV_cmp _).refl];rfl
  rw [hr] at h
  refine Af.wN h ?_
  (focus (cbv;(try dsimp only [nc] at *);(try simp only [wl,nc]);(repeat' (with_reducible apply And.intro));all_goals (try exact wZ)))
  · exact fun i hi=>cells_mono (V.le_list hv hi) (by omega)
  · exact fun i hi=>(cells_mono (V.le_field hv hi) (by omega)).cons _
end Go.Ai
