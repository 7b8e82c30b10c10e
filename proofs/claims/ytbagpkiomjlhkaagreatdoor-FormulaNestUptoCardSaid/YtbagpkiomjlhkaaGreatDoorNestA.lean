/- Chapter 17: nested texts. -/
import Derived.Test.YtbagpkiomjlhkaaGreatDoorEqX
import Derived.Test.YtbagpkiomjlhkaaGreatDoorKnB
set_option linter.all false
namespace Go.Ai
open Go Go.Proofs
set_option maxRecDepth 100000
set_option maxHeartbeats 4000000
def preN (c:Nat):ByteArray:=[(⟨#[40]⟩:ByteArray),⟨#[110,111,116,32]⟩,⟨#[45,32]⟩].getD c ⟨#[]⟩
def wideN (c:Nat):Int:=([1,4,2]:List Int).getD c 0
def nestS (c:Nat):Nat→ByteArray
  | 0=>⟨#[]⟩
  | k+1=>nestS c k++preN c
def nestE (c:Nat):Nat→ByteArray
  | 0=>⟨#[]⟩
  | k+1=>if c=0 then nestE c k++⟨#[41]⟩ else nestE c k
def nestT (c k:Nat):ByteArray:=nestS c k++bA++nestE c k
def parsN (L:List Tok):X×Int×Int×Int:=parseF pe1 (ckX (oneP 0)) L
def nestV (c k:Nat) (r:X×Int×Int×Int):Bool :=
  if 32<k then r.2.2.2 == 23 && (r.2.1 == 1 && r.2.2.1 == 1+wideN c * 32)
  else if c=0 then r.2.2.2 == 0 && eqX (fun _ _=>true) 1 r.1 (xPath bA)
  else if 8≤k then r.2.2.2 == 23 && (r.2.1 == 1 && r.2.2.1 == 1+wideN c * k+1)
  else r.2.2.2 == 0 && szX 60 r.1 == k+1
def nestOk (c k:Nat):Bool :=
  match scanV dec1 (nestT c k) with
  | none=>false
  | some L=>decide ((nestT c k).size≤65536) && ((List.range ((nestT c k).size+1)).all (fun i=>byt (nestT c k) i != 34 && (!digB (byt (nestT c k) i) || (!digB (byt (nestT c k) (i+1)) && byt (nestT c k) (i+1) != 46 && byt (nestT c k) (i+1) != 100))) &&
    (L.all tokB && (decide (L.getLast?.map (·.kind)=some 0) && (decide (L.length≤65537) && (leB 60 (exprV pe1 (.mk L 0 0 0)).1 && (plB 9 (exprV pe1 (.mk L 0 0 0)).1 && (leB 60 (parsN L).1 && nestV c k (parsN L))))))))
def nestR (c a:Nat):Bool:=(List.range 5).all fun k=>nestOk c (5 * a+k+1)
theorem nest0_0:nestR 0 0=true:=by kernel_rfl
theorem nest0_1:nestR 0 1=true:=by kernel_rfl
theorem nest0_2:nestR 0 2=true:=by kernel_rfl
theorem nest0_3:nestR 0 3=true:=by kernel_rfl
theorem nest0_4:nestR 0 4=true:=by kernel_rfl
theorem nest0_5:nestR 0 5=true:=by kernel_rfl
theorem nest0_6:nestR 0 6=true:=by kernel_rfl
theorem nest0_7:nestR 0 7=true:=by kernel_rfl
theorem nest0_8:nestR 0 8=true:=by kernel_rfl
theorem nest0_9:nestR 0 9=true:=by kernel_rfl
theorem nestA0:∀ a,a<10→nestR 0 a=true
  | 0,_=>nest0_0
  | 1,_=>nest0_1
  | 2,_=>nest0_2
  | 3,_=>nest0_3
  | 4,_=>nest0_4
  | 5,_=>nest0_5
  | 6,_=>nest0_6
  | 7,_=>nest0_7
  | 8,_=>nest0_8
  | 9,_=>nest0_9
theorem nest1_0:nestR 1 0=true:=by kernel_rfl
theorem nest1_1:nestR 1 1=true:=by kernel_rfl
theorem nest1_2:nestR 1 2=true:=by kernel_rfl
theorem nest1_3:nestR 1 3=true:=by kernel_rfl
theorem nest1_4:nestR 1 4=true:=by kernel_rfl
theorem nest1_5:nestR 1 5=true:=by kernel_rfl
theorem nest1_6:nestR 1 6=true:=by kernel_rfl
theorem nest1_7:nestR 1 7=true:=by kernel_rfl
theorem nest1_8:nestR 1 8=true:=by kernel_rfl
theorem nest1_9:nestR 1 9=true:=by kernel_rfl
theorem nestA1:∀ a,a<10→nestR 1 a=true
  | 0,_=>nest1_0
  | 1,_=>nest1_1
  | 2,_=>nest1_2
  | 3,_=>nest1_3
  | 4,_=>nest1_4
  | 5,_=>nest1_5
  | 6,_=>nest1_6
  | 7,_=>nest1_7
  | 8,_=>nest1_8
  | 9,_=>nest1_9
theorem nest2_0:nestR 2 0=true:=by kernel_rfl
theorem nest2_1:nestR 2 1=true:=by kernel_rfl
theorem nest2_2:nestR 2 2=true:=by kernel_rfl
theorem nest2_3:nestR 2 3=true:=by kernel_rfl
theorem nest2_4:nestR 2 4=true:=by kernel_rfl
theorem nest2_5:nestR 2 5=true:=by kernel_rfl
theorem nest2_6:nestR 2 6=true:=by kernel_rfl
theorem nest2_7:nestR 2 7=true:=by kernel_rfl
theorem nest2_8:nestR 2 8=true:=by kernel_rfl
theorem nest2_9:nestR 2 9=true:=by kernel_rfl
theorem nestA2:∀ a,a<10→nestR 2 a=true
  | 0,_=>nest2_0
  | 1,_=>nest2_1
  | 2,_=>nest2_2
  | 3,_=>nest2_3
  | 4,_=>nest2_4
  | 5,_=>nest2_5
  | 6,_=>nest2_6
  | 7,_=>nest2_7
  | 8,_=>nest2_8
  | 9,_=>nest2_9
end Go.Ai
