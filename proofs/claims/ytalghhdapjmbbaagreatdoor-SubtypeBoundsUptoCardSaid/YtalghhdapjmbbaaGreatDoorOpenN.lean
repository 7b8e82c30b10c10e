/- Arguments of a law, opened: two integers. -/
import Derived.Test.YtalghhdapjmbbaaGreatDoorJoin
import Derived.ChangeMaps5
set_option linter.all false
namespace Go.Ai
open Go Go.Proofs Go.Proofs.YtalghhdapjmbbaaGreatDoor Go.ChangeShapes
set_option maxRecDepth 100000
section
variable {H:Type} {enc:TypeId×Value→H} {W:World} {v:Value} {d:DataW H} {p:List MemPlace}
theorem open_pair (hd:DataW.Trod enc Tryz.prog W 0 (fun _=>true) true 43 v d p) :
    ∃ x y:Int,RD W (fun b=>b<W.heap.size) W.heap.size (.agg [.int .i64 fun _=>x,.int .i64 fun _=>y]) v:=by
  obtain ⟨fuel,ht⟩:=hd
  have c3:Tryz.prog.cellsOf 3=1:=by kernel_rfl
  have c43:Tryz.prog.cellsOf 43=2:=by kernel_rfl
  obtain ⟨xs,n,rfl,hz2,hl,hxl,hf⟩:=DataW.trod_array Tryz.underlying43 ht
  rw [c43] at hl
  obtain ⟨x0,r0,rfl,l0⟩:=lS (n:=1) (l:=xs) (by simpa using hxl)
  obtain ⟨x1,r1,rfl,l1⟩:=lS l0
  obtain rfl:=List.eq_nil_of_length_eq_zero l1
  obtain ⟨v0,s0,e,m0⟩:=lS hl
  obtain ⟨v1,s1,rfl,m1⟩:=lS m0
  obtain rfl:=List.eq_nil_of_length_eq_zero m1
  have f0:=hf 0 (by omega)
  have f1:=hf 1 (by omega)
  rw [e] at f0 f1
  simp only [c3,Nat.zero_mul,Nat.one_mul,List.drop_zero,List.drop_succ_cons,List.take_succ_cons,List.take_zero,List.getElem?_cons_zero,List.getElem?_cons_succ] at f0 f1
  obtain ⟨a0,e0,_,_⟩:=DataW.trod_int Tryz.underlying3 f0
  obtain ⟨a1,e1,_,_⟩:=DataW.trod_int Tryz.underlying3 f1
  cases e0;cases e1
  refine ⟨a0,a1,?_⟩
  have hs:v.cells.size=2:=by simpa using hl
  cases v with
  | agg vs =>
    have e:vs.toList=[.int .i64 a0,.int .i64 a1]:=by simpa [Value.cells] using e
    refine .agg _ _ (by show 2=vs.size;simpa [Value.cells] using hs.symm) fun i av u q1 q2=>?_
    rw [← Array.getElem?_toList,e] at q2
    match i with
    | 0=>simp at q1 q2;subst q1;subst q2;exact .int _ _
    | 1=>simp at q1 q2;subst q1;subst q2;exact .int _ _
    | n+2=>simp at q1
  | _=>simp [Value.cells] at hs
end
end Go.Ai
