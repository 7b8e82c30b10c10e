/- Chapter 4: copies. -/
import Derived.Test.YtbagpkiomjlhkaaGreatDoorValA
import Derived.Shelf.Small.Bits
import Derived.Shelf.Small.Strs
import Derived.Shelf.Small.Wraps
import Derived.Shelf.Strconv.Itoa0
import Derived.Ground.Names2Prog
import Derived.Shelf.Slices.SearchI
import Derived.Test.YtbagpkiomjlhkaaGreatDoorProg
import Derived.Test.YtbagpkiomjlhkaaGreatDoorFnD
import Derived.Test.YtbagpkiomjlhkaaGreatDoorRows
import Derived.Deep.Slices
set_option linter.all false
namespace Go.Ai
open Go Go.Proofs Tryz
set_option maxRecDepth 100000
set_option maxHeartbeats 4000000
end Go.Ai

namespace Go.Proofs
open Go.Shelf
def Tryz.Rs:Go.Shelf.Ren:=⟨fun|106=>178|213=>231|265=>255|n=>n,fun|9=>9|3=>3|n=>n,fun|n=>n⟩
def Tryz.lays106:Go.Proofs.Lays.n106 Tryz.prog Tryz.Rs:={
 mixed:=by kernel_rfl
 f106:=Tryz.func178.trans (congrArg some (by kernel_rfl))
 f213:=Tryz.func231.trans (congrArg some (by kernel_rfl))
 f265:=Tryz.func255.trans (congrArg some (by kernel_rfl))
 t3:=Tryz.underlying3
 a3:=Tryz.isAgg3
 z3:=Tryz.sizeOf3
 v3:=Tryz.zeroValue3
 t9:=Tryz.underlying9
 a9:=Tryz.isAgg9
 z9:=Tryz.sizeOf9
 v9:=Tryz.zeroValue9 }
open Go.RowKit in
def Tryz.strings_Compare(a b:ByteArray)(w:World):
 Calls Tryz.prog 178 #[.string a,.string b] w fun e w'=>e=.returned (.int .i64 (Lib.compareBytes a.data.toList b.data.toList))∧w'=w:=Any.strings_Compare Tryz.lays106 a b w
end Go.Proofs

namespace Go.Ai
open Go Go.Proofs Tryz
set_option maxRecDepth 100000
set_option maxHeartbeats 4000000
def wy(a b:ByteArray):Int:=Lib.compareBytes a.data.toList b.data.toList
def rh(x y:Int):Int:=if x<y then -1 else if y<x then 1 else 0
def II(a b:ByteArray):Af prog 178 [.str fun _=>a,.str fun _=>b] [] (.int .i64 fun _=>wy a b) []:=
 Af.pure (vals:=#[.string a,.string b]) func178 rfl rfl (Tryz.strings_Compare a b)
def Rt(n:Int):Af prog 230 [.int .i64 fun _=>n] [] (.bool fun _=>false) []:=by
 (refine fB [.tmp 2] Ru [] func230 fun _=>?_;repeat' first|exact⟨⟩|apply mA|apply mC<;>intro)
 ((((try simp only[nc,cl]at*)<;>(try rw[mQ]))<;>(try simp only[bl,uU,uV,uW,uX,qc,qd,mT,gr]at*))<;>(first|omega|grind))
def QN(x y:Int):Af prog 177 [.int .i64 fun _=>x,.int .i64 fun _=>y] [] (.int .i64 fun _=>rh x y) []:=by
 (apply Af.of tF mF [.tmp 4] Rv [(1,[(1,.bool (fun _=>?_),[])]),(2,[(1,.bool (fun _=>?_),[])])] func177 (fun _=>?_);(repeat' with_reducible first|exact nY|refine oC ?_ ?_|refine vQ ?_ ?_ ?_|refine cV (fun _=>?_) fun _=>?_|refine wQ ?_|fail))
 (any_goals((with_reducible refine bZ ?_)<;>exact(Rt _)))
 (all_goals try first|exact eZ|with_reducible (refine rQ ?_;repeat' first|apply ai|exact wZ)|(refine sQ ?_;repeat' first|with_reducible apply ai|exact cZ))
 all_goals(try simp only[rh]);((try simp only[nc,cl]at*)<;>grind)
def lE:List Int->Int
 | []=>0
 | a::r=>if a≠0 then a else lE r
theorem IZ(a:Int):∀l:List Int,lE (l++[a])=if lE l≠0 then lE l else a
 | []=>by
  simp only[AZ,lE];by_cases h:a=0
  ·simp[h]
  ·simp[h]
 | b::r=>by
  simp only[pg,lE,IZ a r];split<;>simp_all
def QH(l:List Int):fI (fun i=>l.getD i 0) l.length=lE l:=by
 have:∀k,k<=l.length->fI (fun i=>l.getD i 0) k=lE (l.take k):=by
  intro k
  induction k with
  | zero=>intro _;simp[fI,lE]
  | succ k ih=>
   intro hk;have hg:l.getD k 0=l[k]:=by simp[List.getD,show k<l.length by omega]
   rw[FH zo,IZ,<- ih zo,<- hg];rfl
 simpa using this l.length (ao _)
def iS{α β:Type}(c:α->β->Int):List α->List β->Int
 | [],[]=>0
 | [],_::_ => -1
 | _::_,[]=>1
 | a::l,b::m=>if c a b≠0 then c a b else iS c l m
def zC{α β:Type}{c:α->β->Int}{l:List α}{m:List β}{i:Nat}(h1:i<l.length)(h2:i<m.length)(da:α)(db:β):
 iS c (l.drop i) (m.drop i)=if c (l.getD i da) (m.getD i db)≠0 then c (l.getD i da) (m.getD i db)else iS c (l.drop (i+1)) (m.drop (i+1)):=by
 rw[iH h1,iH h2];simp only[iS,List.getD,bf h1,bf h2,qF]
def IG{α β:Type}{c:α->β->Int}{l:List α}{m:List β}{i:Nat}(h1:i<l.length)(h2:m.length<=i):iS c (l.drop i) (m.drop i)=1:=by
 rw[iH h1,xV.2 h2];rfl
def zD{α β:Type}{c:α->β->Int}{l:List α}{m:List β}{i:Nat}(h1:l.length<=i)(hi:i<=m.length)(hl:i=l.length):iS c (l.drop i) (m.drop i)=if l.length<m.length then -1 else 0:=by
 rw[xV.2 h1];by_cases h:i<m.length
 ·rw[iH h,ae zo];rfl
 ·rw[xV.2 zo,aa zo];rfl
def oq(d:Nat)(x:ByteArray×V):List AV:=.str (fun _=>x.1)::cells d .any fun _=>x.2
def ww(c:V->V->Int)(x y:ByteArray×V):Int:=lE [wy x.1 y.1,c x.2 y.2]
def kT:Nat->V->V->Int
 | 0,_,_=>0
 | d+1,a,b=>lE [rh a.kind b.kind,rh a.int b.int,rh a.scale b.scale,wy a.text b.text,iS (kT d) a.list b.list,iS (ww (kT d)) a.fields b.fields]
def iI{α:Type}(p:α->Bool)(l:List α):Int:=if l.findIdx p<l.length then(l.findIdx p:Int)else -1
def Rw(v:V)(s:ByteArray):Int:=iI (fun x:ByteArray×V=>decide (x.1=s)) v.fields
def Rx(v:V)(s:ByteArray):Prop:=v.kind=9∧0<=Rw v s
instance (v:V)(s:ByteArray):Decidable (Rx v s):=inferInstanceAs (Decidable (_∧_))
def Dx(a:ByteArray):a.data.toList.length=a.size:=fY ..
end Go.Ai

namespace Go.Ai
open Go Go.Proofs Go.Proofs.YtbagpkiomjlhkaaGreatDoor Go.RowKit Go.Lib Tryz
set_option maxRecDepth 100000
section
variable {H:Type}
end
section
variable {H:Type}
end
end Go.Ai
