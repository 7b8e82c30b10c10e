/- Compare is a total order: in plain words. -/
import Derived.Test.YtalghhdapjmbbaaGreatDoorFnE
import Derived.Test.YtalghhdapjmbbaaGreatDoorOrd
set_option linter.all false
namespace Go.Ai
open Go
structure Cmp {α:Type} (c:α→α→Int):Prop where
  val:∀ a b,c a b = -1∨c a b=0∨c a b=1
  neg:∀ a b,c b a = - c a b
  tr:∀ a b d,c a b≤0→c b d≤0→c a d=min (c a b) (c b d)
theorem Cmp.refl {α:Type} {c:α→α→Int} (h:Cmp c) (a:α):c a a=0:=by have:=h.neg a a;omega
def seqC {α:Type} (c1 c2:α→α→Int) (a b:α):Int:=if c1 a b≠0 then c1 a b else c2 a b
theorem Cmp.seq {α:Type} {c1 c2:α→α→Int} (h1:Cmp c1) (h2:Cmp c2):Cmp (seqC c1 c2) where
  val a b:=by
    have:=h1.val a b;have:=h2.val a b
    unfold seqC;split<;>assumption
  neg a b:=by
    have p:=h1.neg a b;have q:=h2.neg a b
    unfold seqC
    rw [p,q]
    split<;>split<;>omega
  tr a b d:=by
    have v1:=h1.val a b;have v2:=h1.val b d;have v3:=h1.val a d
    have w1:=h2.val a b;have w2:=h2.val b d;have w3:=h2.val a d
    have t1:=h1.tr a b d;have t2:=h2.tr a b d
    unfold seqC
    split<;>split<;>split<;>intro p q<;>(first|omega|(have:=t1 (by omega) (by omega);omega)|(have:=t1 (by omega) (by omega);have:=t2 (by omega) (by omega);omega))
theorem Cmp.map {α β:Type} {c:β→β→Int} (h:Cmp c) (f:α→β):Cmp fun a b=>c (f a) (f b):=⟨fun a b=>h.val _ _,fun a b=>h.neg _ _,fun a b d=>h.tr _ _ _⟩
end Go.Ai
