/- Chapter 10: what is decoded is what was encoded: names in order, records. -/
import Derived.Test.YtlplmdipoacnlaaGreatDoorRdA
import Derived.Test.YtlplmdipoacnlaaGreatDoorWrB
import Derived.Test.YtlplmdipoacnlaaGreatDoorDecC
import Derived.Test.YtlplmdipoacnlaaGreatDoorEncD
set_option linter.all false
namespace Go.Ai
open Go Go.Proofs
set_option maxRecDepth 100000
set_option maxHeartbeats 2000000
theorem fieldsE_zero {l:List (ByteArray×V)}:∀ {n:Nat},fieldsE l n=0↔∀ i,i<n→isName (l.getD i default).1=true∧(0<i→(l.getD i default).1≠(l.getD (i - 1) default).1∧ltB (l.getD i default).1 (l.getD (i - 1) default).1=false)
  | 0=>⟨fun _ i h=>by omega,fun _=>rfl⟩
  | n + 1 => by
    constructor
    · intro h i hi
      have h0:fieldsE l n=0:=by
        simp only [fieldsE] at h
        split at h
        · exact h
        · rename_i q;simpa using q
      rcases Nat.lt_succ_iff_lt_or_eq.1 hi with hi|rfl
      · exact fieldsE_zero.1 h0 i hi
      · simp only [fieldsE,h0] at h
        rw [if_neg (by simp)] at h
        by_cases q1:isName (l.getD i default).1=false
        · rw [if_pos q1] at h;cases h
        · rw [if_neg q1] at h
          refine ⟨by simpa using q1,fun hi0=>?_⟩
          by_cases q2:(l.getD i default).1=(l.getD (i - 1) default).1
          · rw [if_pos ⟨hi0,q2⟩] at h;cases h
          · rw [if_neg (fun q=>q2 q.2)] at h
            refine ⟨q2,?_⟩
            by_cases q3:ltB (l.getD i default).1 (l.getD (i - 1) default).1=true
            · rw [if_pos ⟨hi0,q3⟩] at h;cases h
            · simpa using q3
    · intro h
      have h0:=(fieldsE_zero (l:=l) (n:=n)).2 fun i hi=>h i (by omega)
      obtain ⟨q1,q2⟩:=h n (by omega)
      simp only [fieldsE,h0]
      rw [if_neg (fun q=>q rfl),if_neg (fun q=>by rw [q1] at q;cases q),if_neg (fun q=>(q2 q.1).1 q.2),if_neg (fun q=>by have:=(q2 q.1).2;rw [this] at q;cases q.2)]
theorem ltB_iff (a b:ByteArray):ltB a b=true↔ltS a b:=by
  unfold ltB
  rw [bytesLess_lt,ByteArray.toList_eq,ByteArray.toList_eq,decide_eq_true_eq]
  rfl
theorem next_lt {a b:ByteArray}:(b≠a∧ltB b a=false)↔ltS a b:=by
  constructor
  · rintro ⟨h1,h2⟩
    rcases ltS_tri a b with h|h|h
    · exact h
    · exact absurd h.symm h1
    · rw [(ltB_iff b a).2 h] at h2;cases h2
  · intro h
    refine ⟨fun e=>by subst e;exact ltS_irrefl _ h,?_⟩
    cases q:ltB b a with
    | false=>rfl
    | true=>exact (ltS_asymm h ((ltB_iff b a).1 q)).elim
def Names (l:List (ByteArray×V)):Prop:=∀ i,i<l.length→isName (l.getD i default).1=true∧(0<i→ltS (l.getD (i - 1) default).1 (l.getD i default).1)
theorem rule9_zero {l:List (ByteArray×V)}:rule9 l=0↔l.length≤64∧Names l:=by
  unfold rule9 Names
  by_cases h:64<l.length
  · rw [if_pos h];exact ⟨fun q=>(by cases q),fun q=>(by omega)⟩
  · rw [if_neg h,fieldsE_zero]
    refine ⟨fun q=>⟨by omega,fun i hi=>⟨(q i hi).1,fun h0=>next_lt.1 ((q i hi).2 h0)⟩⟩,fun q i hi=>⟨(q.2 i hi).1,fun h0=>next_lt.2 ((q.2 i hi).2 h0)⟩⟩
theorem leN_iff (x y:ByteArray×V):leN x y=true↔¬ ltS y.1 x.1:=by
  simp only [leN,Bool.not_eq_true',decide_eq_false_iff_not,cmpS_lt]
theorem V.ok_uses {vs:ByteArray→Bool} {v:V} (h:ownE vs v=0):usesB v=true∧isNull v=false:=by
  unfold ownE at h
  split at h
  · cases h
  split at h
  · cases h
  split at h
  · cases h
  · rename_i a b c
    exact ⟨by simpa using c,by simpa using a⟩
def Rd.adv (r:Rd) (l:List Nat):Rd:=r.to (r.pos+l.length)
theorem adv_room {r:Rd} (h:r.good) {l rest:List Nat} (hr:r.room=l++rest):(r.adv l).good∧(r.adv l).room=rest:=by
  have hl:=Rd.room_len h
  obtain ⟨h1,h2,h3,h4⟩:=h
  rw [hr,List.length_append] at hl
  refine ⟨⟨by show 0≤r.pos+l.length;omega,by show r.pos+l.length≤r.fin;omega,h3,h4⟩,?_⟩
  have:(r.adv l).room=r.room.drop l.length:=by
    show (List.take r.fin.toNat _).drop (r.pos+l.length).toNat=_
    unfold Rd.room
    rw [List.drop_drop,show (r.pos+(l.length:Int)).toNat=r.pos.toNat+l.length by omega]
    rfl
  rw [this,hr,List.drop_left]
theorem chk_one {v:V} (h:ownE vsD v=0):chk 1 v=0:=by
  have hp:preV 1 1 v=[(1,0,v)]:=by
    simp only [preV]
    have:((kz v).map fun _=>([]:List (Int×Nat×V))).flatten=[]:=by
      induction kz v with
      | nil=>rfl
      | cons x l ih=>simpa using ih
    rw [this]
  unfold chk
  rw [hp]
  simp [checkE,fI,checkAt,h]
theorem tok_scale {t:Ty} (h:ownT t=0) (hk:t.kind≠3):t.scale=0:=by
  have h1:=ownT_form h
  unfold formE at h1
  grind
end Go.Ai
