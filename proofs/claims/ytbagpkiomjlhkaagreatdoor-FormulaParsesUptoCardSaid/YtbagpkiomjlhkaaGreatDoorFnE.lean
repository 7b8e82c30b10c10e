/- Chapter 4: copies. -/
import Derived.Test.YtbagpkiomjlhkaaGreatDoorValA
import Derived.Shelf.Small.Bits
import Derived.Shelf.Small.Strs
import Derived.Shelf.Small.Wraps
import Derived.Shelf.Strconv.Itoa0
import Derived.Ground.Names2Prog
import Derived.Shelf.Slices.SearchI
import Derived.Test.YtbagpkiomjlhkaaGreatDoorProg
import Derived.Test.YtbagpkiomjlhkaaGreatDoorFnD
import Derived.Test.YtbagpkiomjlhkaaGreatDoorRows
import Derived.Deep.Slices
set_option linter.all false
namespace Go.Ai
open Go Go.Proofs
set_option maxRecDepth 100000
set_option maxHeartbeats 4000000
end Go.Ai

namespace Go.Proofs
open Go.Shelf
def Tryz.ap7:Go.Shelf.Ren:=⟨fun|106=>178|213=>231|265=>255|n=>n,fun|9=>9|3=>3|n=>n,fun|n=>n⟩
def Tryz.lays106:Go.Proofs.Lays.n106 Tryz.prog Tryz.ap7:={
 mixed:=by kernel_rfl
 f106:=Tryz.func178.trans (congrArg some (by kernel_rfl))
 f213:=Tryz.func231.trans (congrArg some (by kernel_rfl))
 f265:=Tryz.func255.trans (congrArg some (by kernel_rfl))
 t3:=Tryz.underlying3
 a3:=Tryz.isAgg3
 z3:=Tryz.sizeOf3
 v3:=Tryz.zeroValue3
 t9:=Tryz.underlying9
 a9:=Tryz.isAgg9
 z9:=Tryz.sizeOf9
 v9:=Tryz.zeroValue9 }
open Go.RowKit in
def Tryz.strings_Compare(a b:ByteArray)(w:World):
 Calls Tryz.prog 178 #[.string a,.string b] w fun e w'=>e=.returned (.int .i64 (Lib.compareBytes a.data.toList b.data.toList))∧w'=w:=Any.strings_Compare Tryz.lays106 a b w
end Go.Proofs

namespace Go.Ai
open Go Go.Proofs
set_option maxRecDepth 100000
set_option maxHeartbeats 4000000
def cmpS(a b:ByteArray):Int:=Lib.compareBytes a.data.toList b.data.toList
def cmpI(x y:Int):Int:=if x<y then -1 else if y<x then 1 else 0
def aoe(a b:ByteArray):Af Tryz.prog 178 [.str fun _=>a,.str fun _=>b] [] (.int .i64 fun _=>cmpS a b) []:=
 Af.pure (vals:=#[.string a,.string b]) Tryz.func178 rfl rfl (Tryz.strings_Compare a b)
def isNaN_ok(n:Int):Af Tryz.prog 230 [.int .i64 fun _=>n] [] (.bool fun _=>false) []:=by
 (refine fB [.tmp 2] kp230 [] Tryz.func230 fun _=>?_;repeat' with_reducible first|exact⟨⟩|refine mA ?_ ?_|refine mC (fun _=>?_) fun _=>?_)
 ((((try simp only[nc,cl]at*)<;>(try rw[Bool.eq_iff_iff]))<;>(try simp only[bl,false_iff,true_iff,iff_true,iff_false,aja,ajb,ne_eq,Decidable.not_not]at*))<;>(first|omega|grind))
def aoQ(x y:Int):Af Tryz.prog 177 [.int .i64 fun _=>x,.int .i64 fun _=>y] [] (.int .i64 fun _=>cmpI x y) []:=by
 (apply Af.of tF mF [.tmp 4] kp177 [(1,[(1,.bool (fun _=>?_),[])]),(2,[(1,.bool (fun _=>?_),[])])] Tryz.func177 (fun _=>?_);(repeat' with_reducible first|exact nY|refine oC ?_ ?_|refine vQ ?_ ?_ ?_|refine cV (fun _=>?_) fun _=>?_|refine wQ ?_|fail))
 (any_goals((with_reducible refine bZ ?_)<;>exact(isNaN_ok _)))
 (all_goals try first|exact eZ|with_reducible (refine rQ ?_;repeat' first|apply And.intro|exact wZ)|(refine sQ ?_;repeat' first|with_reducible apply And.intro|exact cZ))
 all_goals(try simp only[cmpI]);((try simp only[nc,cl]at*)<;>grind)
def ao6:List Int->Int
 | []=>0
 | a::r=>if a≠0 then a else ao6 r
theorem aov(a:Int):∀l:List Int,ao6 (l++[a])=if ao6 l≠0 then ao6 l else a
 | []=>by
  simp only[List.nil_append,ao6];by_cases h:a=0
  ·simp[h]
  ·simp[h]
 | b::r=>by
  simp only[List.cons_append,ao6,aov a r];split<;>simp_all
def apb(l:List Int):fI (fun i=>l.getD i 0) l.length=ao6 l:=by
 have:∀k,k<=l.length->fI (fun i=>l.getD i 0) k=ao6 (l.take k):=by
  intro k
  induction k with
  | zero=>intro _;simp[fI,ao6]
  | succ k ih=>
   intro hk;have hg:l.getD k 0=l[k]:=by simp[List.getD,show k<l.length by omega]
   rw[List.take_succ_eq_append_getElem (by omega),aov,<- ih (by omega),<- hg];rfl
 simpa using this l.length (Nat.le_refl _)
def lexC{α β:Type}(c:α->β->Int):List α->List β->Int
 | [],[]=>0
 | [],_::_ => -1
 | _::_,[]=>1
 | a::l,b::m=>if c a b≠0 then c a b else lexC c l m
def aof{α β:Type}{c:α->β->Int}{l:List α}{m:List β}{i:Nat}(h1:i<l.length)(h2:i<m.length)(da:α)(db:β):
 lexC c (l.drop i) (m.drop i)=if c (l.getD i da) (m.getD i db)≠0 then c (l.getD i da) (m.getD i db)else lexC c (l.drop (i+1)) (m.drop (i+1)):=by
 rw[List.drop_eq_getElem_cons h1,List.drop_eq_getElem_cons h2];simp only[lexC,List.getD,List.getElem?_eq_getElem h1,List.getElem?_eq_getElem h2,Option.getD_some]
def aoZ{α β:Type}{c:α->β->Int}{l:List α}{m:List β}{i:Nat}(h1:i<l.length)(h2:m.length<=i):lexC c (l.drop i) (m.drop i)=1:=by
 rw[List.drop_eq_getElem_cons h1,List.drop_eq_nil_iff.2 h2];rfl
def aoq{α β:Type}{c:α->β->Int}{l:List α}{m:List β}{i:Nat}(h1:l.length<=i)(hi:i<=m.length)(hl:i=l.length):lexC c (l.drop i) (m.drop i)=if l.length<m.length then -1 else 0:=by
 rw[List.drop_eq_nil_iff.2 h1];by_cases h:i<m.length
 ·rw[List.drop_eq_getElem_cons h,if_pos (by omega)];rfl
 ·rw[List.drop_eq_nil_iff.2 (by omega),if_neg (by omega)];rfl
def rowF(d:Nat)(x:ByteArray×V):List AV:=.str (fun _=>x.1)::cells d .any fun _=>x.2
def aqj(c:V->V->Int)(x y:ByteArray×V):Int:=ao6 [cmpS x.1 y.1,c x.2 y.2]
def cmpV:Nat->V->V->Int
 | 0,_,_=>0
 | d+1,a,b=>ao6 [cmpI a.kind b.kind,cmpI a.int b.int,cmpI a.scale b.scale,cmpS a.text b.text,lexC (cmpV d) a.list b.list,lexC (aqj (cmpV d)) a.fields b.fields]
def iI{α:Type}(p:α->Bool)(l:List α):Int:=if l.findIdx p<l.length then(l.findIdx p:Int)else -1
def findI(v:V)(s:ByteArray):Int:=iI (fun x:ByteArray×V=>decide (x.1=s)) v.fields
def hasF(v:V)(s:ByteArray):Prop:=v.kind=9∧0<=findI v s
instance (v:V)(s:ByteArray):Decidable (hasF v s):=inferInstanceAs (Decidable (_∧_))
def aeN(a:ByteArray):a.data.toList.length=a.size:=Array.length_toList ..
end Go.Ai

namespace Go.Ai
open Go Go.Proofs Go.Proofs.YtbagpkiomjlhkaaGreatDoor Go.RowKit Go.Lib
set_option maxRecDepth 100000
section
variable {H:Type}
end
section
variable {H:Type}
end
end Go.Ai
