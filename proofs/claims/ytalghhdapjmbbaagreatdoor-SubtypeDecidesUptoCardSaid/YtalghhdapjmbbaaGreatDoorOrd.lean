/- The order of strings. -/
import Derived.Test.YtalghhdapjmbbaaGreatDoorFnD
import Derived.Sort.LotA
set_option linter.all false
namespace Go.Ai
open Go
theorem cb_spec:∀ x y:List UInt8,(x<y∧Lib.compareBytes x y = -1)∨(x=y∧Lib.compareBytes x y=0)∨(y<x∧Lib.compareBytes x y=1)
  | [],[]=>.inr (.inl ⟨rfl,rfl⟩)
  | [],b :: m=>.inl ⟨by simp,rfl⟩
  | a :: l,[]=>.inr (.inr ⟨by simp,rfl⟩)
  | a :: l,b :: m=>by
    simp only [Lib.compareBytes]
    by_cases h1:a<b
    · rw [if_pos h1];exact .inl ⟨List.cons_lt_cons_iff.2 (.inl h1),rfl⟩
    · rw [if_neg h1]
      by_cases h2:b<a
      · rw [if_pos h2];exact .inr (.inr ⟨List.cons_lt_cons_iff.2 (.inl h2),rfl⟩)
      · rw [if_neg h2]
        have e:a=b:=by
          have h3:b≤a:=by rw [UInt8.le_iff_toNat_le];rw [UInt8.lt_iff_toNat_lt] at h1;omega
          have h4:a≤b:=by rw [UInt8.le_iff_toNat_le];rw [UInt8.lt_iff_toNat_lt] at h2;omega
          exact UInt8.le_antisymm h4 h3
        subst e
        rcases cb_spec l m with ⟨q1,q2⟩|⟨q1,q2⟩|⟨q1,q2⟩
        · exact .inl ⟨List.cons_lt_cons_iff.2 (.inr ⟨rfl,q1⟩),q2⟩
        · exact .inr (.inl ⟨by rw [q1],q2⟩)
        · exact .inr (.inr ⟨List.cons_lt_cons_iff.2 (.inr ⟨rfl,q1⟩),q2⟩)
def ltS (a b:ByteArray):Prop:=a.data.toList<b.data.toList
theorem ltS_irrefl (a:ByteArray):¬ ltS a a:=List.lt_irrefl _
theorem ltS_trans {a b c:ByteArray} (h1:ltS a b) (h2:ltS b c):ltS a c:=List.lt_trans h1 h2
theorem bytes_ext {a b:ByteArray} (h:a.data.toList=b.data.toList):a=b:=by
  cases a;cases b;simp only at h;congr 1;exact Array.ext' h
theorem cmpS_spec (a b:ByteArray):(ltS a b∧cmpS a b = -1)∨(a=b∧cmpS a b=0)∨(ltS b a∧cmpS a b=1):=by
  rcases cb_spec a.data.toList b.data.toList with ⟨q1,q2⟩|⟨q1,q2⟩|⟨q1,q2⟩
  · exact .inl ⟨q1,q2⟩
  · exact .inr (.inl ⟨bytes_ext q1,q2⟩)
  · exact .inr (.inr ⟨q1,q2⟩)
theorem ltS_asymm {a b:ByteArray} (h1:ltS a b) (h2:ltS b a):False:=ltS_irrefl a (ltS_trans h1 h2)
theorem cmpS_lt {a b:ByteArray}:cmpS a b<0↔ltS a b:=by
  rcases cmpS_spec a b with ⟨q1,q2⟩|⟨q1,q2⟩|⟨q1,q2⟩
  · exact ⟨fun _=>q1,fun _=>by omega⟩
  · subst q1;exact ⟨fun h=>by omega,fun h=>(ltS_irrefl _ h).elim⟩
  · exact ⟨fun h=>by omega,fun h=>(ltS_asymm q1 h).elim⟩
theorem cmpS_eq {a b:ByteArray}:cmpS a b=0↔a=b:=by
  rcases cmpS_spec a b with ⟨q1,q2⟩|⟨q1,q2⟩|⟨q1,q2⟩
  · exact ⟨fun h=>by omega,fun h=>by subst h;exact (ltS_irrefl _ q1).elim⟩
  · exact ⟨fun _=>q1,fun _=>q2⟩
  · exact ⟨fun h=>by omega,fun h=>by subst h;exact (ltS_irrefl _ q1).elim⟩
theorem ltS_tri (a b:ByteArray):ltS a b∨a=b∨ltS b a:=by
  rcases cmpS_spec a b with ⟨q1,_⟩|⟨q1,_⟩|⟨q1,_⟩
  · exact .inl q1
  · exact .inr (.inl q1)
  · exact .inr (.inr q1)
end Go.Ai
