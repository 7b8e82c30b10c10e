/- Compare is a total order: in plain words. -/
import Derived.Test.YtlplmdipoacnlaaGreatDoorFnE
import Derived.Test.YtlplmdipoacnlaaGreatDoorOrd
set_option linter.all false
namespace Go.Ai
open Go
structure Cmp {α:Type} (c:α→α→Int):Prop where
  val:∀ a b,c a b = -1∨c a b=0∨c a b=1
  neg:∀ a b,c b a = - c a b
  tr:∀ a b d,c a b≤0→c b d≤0→c a d=min (c a b) (c b d)
theorem Cmp.refl {α:Type} {c:α→α→Int} (h:Cmp c) (a:α):c a a=0:=by have:=h.neg a a;omega
def seqC {α:Type} (c1 c2:α→α→Int) (a b:α):Int:=if c1 a b≠0 then c1 a b else c2 a b
theorem Cmp.seq {α:Type} {c1 c2:α→α→Int} (h1:Cmp c1) (h2:Cmp c2):Cmp (seqC c1 c2) where
  val a b:=by
    have:=h1.val a b;have:=h2.val a b
    unfold seqC;split<;>assumption
  neg a b:=by
    have p:=h1.neg a b;have q:=h2.neg a b
    unfold seqC
    rw [p,q]
    split<;>split<;>omega
  tr a b d:=by
    have v1:=h1.val a b;have v2:=h1.val b d;have v3:=h1.val a d
    have w1:=h2.val a b;have w2:=h2.val b d;have w3:=h2.val a d
    have t1:=h1.tr a b d;have t2:=h2.tr a b d
    unfold seqC
    split<;>split<;>split<;>intro p q<;>(first|omega|(have:=t1 (by omega) (by omega);omega)|(have:=t1 (by omega) (by omega);have:=t2 (by omega) (by omega);omega))
theorem Cmp.map {α β:Type} {c:β→β→Int} (h:Cmp c) (f:α→β):Cmp fun a b=>c (f a) (f b):=⟨fun a b=>h.val _ _,fun a b=>h.neg _ _,fun a b d=>h.tr _ _ _⟩
theorem cmpI_cmp : Cmp cmpI where
  val a b := by unfold cmpI;split;· simp
                split<;>simp
  neg a b := by unfold cmpI;repeat' split
                all_goals omega
  tr a b d := by unfold cmpI;repeat' split
                 all_goals omega
theorem cmpS_cmp:Cmp cmpS where
  val a b:=by rcases cmpS_spec a b with ⟨_,h⟩|⟨_,h⟩|⟨_,h⟩<;>simp [h]
  neg a b:=cmpS_neg a b
  tr a b d h1 h2:=by
    rcases cmpS_spec a b with ⟨p1,p2⟩|⟨p1,p2⟩|⟨p1,p2⟩
    · rcases cmpS_spec b d with ⟨q1,q2⟩|⟨q1,q2⟩|⟨q1,q2⟩
      · have:=cmpS_lt.2 (ltS_trans p1 q1)
        rcases cmpS_spec a d with ⟨r1,r2⟩|⟨r1,r2⟩|⟨r1,r2⟩<;>omega
      · subst q1;omega
      · omega
    · subst p1
      rcases cmpS_spec a d with ⟨r1,r2⟩|⟨r1,r2⟩|⟨r1,r2⟩<;>omega
    · omega
theorem lexC_cmp {α : Type} {c:α→α→Int} (h:Cmp c):Cmp (lexC c) where
  val := by
    intro a
    induction a with
    | nil=>intro b;cases b<;>simp [lexC]
    | cons x l ih =>
      intro b
      cases b with
      | nil=>simp [lexC]
      | cons y m => simp only [lexC];split;· exact h.val x y
                    exact ih m
  neg := by
    intro a
    induction a with
    | nil=>intro b;cases b<;>simp [lexC]
    | cons x l ih =>
      intro b
      cases b with
      | nil=>simp [lexC]
      | cons y m =>
        have p:=h.neg x y;have q:=ih m
        simp only [lexC]
        rw [p,q]
        split<;>split<;>omega
  tr := by
    have hv:∀ a b,lexC c a b = -1∨lexC c a b=0∨lexC c a b=1:=by
      intro a
      induction a with
      | nil=>intro b;cases b<;>simp [lexC]
      | cons x l ih =>
        intro b
        cases b with
        | nil=>simp [lexC]
        | cons y m => simp only [lexC];split;· exact h.val x y
                      exact ih m
    intro a
    induction a with
    | nil =>
      intro b d
      cases b with
      | nil =>
        intro _ _
        cases d<;>simp only [lexC]<;>decide
      | cons y m =>
        cases d with
        | nil=>simp [lexC]
        | cons z n =>
          have:=hv (y :: m) (z :: n)
          simp only [lexC] at *
          split<;>intro _ _<;>omega
    | cons x l ih =>
      intro b d
      cases b with
      | nil=>simp [lexC]
      | cons y m =>
        cases d with
        | nil=>simp [lexC]
        | cons z n =>
          have v1:=h.val x y;have v2:=h.val y z;have v3:=h.val x z
          have w1:=hv l m;have w2:=hv m n;have w3:=hv l n
          have t1:=h.tr x y z;have t2:=ih m n
          simp only [lexC]
          split<;>split<;>split<;>intro p q<;>(first|omega|(have:=t1 (by omega) (by omega);omega)|(have:=t1 (by omega) (by omega);have:=t2 (by omega) (by omega);omega))
theorem firstL_two (x y:Int):firstL [x,y]=if x≠0 then x else y:=by
  simp only [firstL];split
  · rfl
  · split
    · rfl
    · omega
theorem cmpFd_cmp {c:V→V→Int} (h:Cmp c):Cmp (cmpFd c):=by
  have:cmpFd c=seqC (fun x y:ByteArray×V=>cmpS x.1 y.1) (fun x y=>c x.2 y.2):=by
    funext x y
    exact firstL_two _ _
  rw [this]
  exact (cmpS_cmp.map fun x:ByteArray×V=>x.1).seq (h.map fun x:ByteArray×V=>x.2)
theorem cmpV_cmp:∀ d,Cmp (cmpV d)
  | 0=>⟨fun a b=>.inr (.inl rfl),fun a b=>rfl,fun a b d _ _=>rfl⟩
  | d + 1 => by
    have ih:=cmpV_cmp d
    have : cmpV (d+1)=seqC (fun a b=>cmpI a.kind b.kind) (seqC (fun a b=>cmpI a.int b.int) (seqC (fun a b=>cmpI a.scale b.scale) (seqC (fun a b=>cmpS a.text b.text) (seqC (fun a b=>lexC (cmpV d) a.list b.list) (fun a b=>lexC (cmpFd (cmpV d)) a.fields b.fields))))):=by
      funext a b
      rw [cmpV_eq]
      simp only [firstL,seqC]
      split
      · rfl
      · split
        · rfl
        · split
          · rfl
          · split
            · rfl
            · split
              · rfl
              · split
                · rfl
                · omega
    rw [this]
    exact (cmpI_cmp.map V.kind).seq ((cmpI_cmp.map V.int).seq ((cmpI_cmp.map V.scale).seq ((cmpS_cmp.map V.text).seq (((lexC_cmp ih).map V.list).seq ((lexC_cmp (cmpFd_cmp ih)).map V.fields)))))
end Go.Ai
