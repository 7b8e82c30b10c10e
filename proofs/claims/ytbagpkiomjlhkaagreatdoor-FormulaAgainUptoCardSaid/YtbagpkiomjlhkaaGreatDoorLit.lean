/- Chapter 13: the texts of Booleans and decimals. -/
import Derived.Test.YtbagpkiomjlhkaaGreatDoorKnA
import Derived.Test.YtbagpkiomjlhkaaGreatDoorQuo
import Derived.Test.YtbagpkiomjlhkaaGreatDoorCalR
set_option linter.all false
namespace Go.Ai
open Go Go.Proofs Go.Shelf Tryz
set_option maxRecDepth 100000
set_option maxHeartbeats 4000000
def nw(b:Bool):ByteArray:=⟨(Lib.formatBool b).toArray⟩
def Tm(b:Bool):Af prog 150 [.bool fun _=>b] [] (.str fun _=>nw b) []:=
 Af.pure (vals:=#[.bool b]) func150 rfl rfl fun w=>Any.strconv_FormatBool lays121 b w
def Tn(n s:Int)(h0 : -9223372036854775808<n)(h1:n<=9223372036854775807):Af prog 151 [.int .i64 fun _=>n,.int .i64 fun _=>s] [] (.str fun _=>(ej (n,s)).1) []:=by
 have h:=Gp (n,s) h0 h1;generalize ej (n,s)=r at*;obtain⟨t,e⟩:=r
 (apply Af.of tF mF [.tmp 4] To [(1,[(3,.ag [zR t,zI e],[])])] func151 (fun _=>?_);(repeat' with_reducible first|exact nY|refine oC ?_ ?_|refine vQ ?_ ?_ ?_|refine cV (fun _=>?_) fun _=>?_|refine wQ ?_|fail))
 all_goals try exact zB
 all_goals exact eZ
def Tp(e:Nat)(v:V)(hk:v.kind=1):Af prog 102 [aK (e+1) .any fun _=>v] [] (.str fun _=>nw (v.int==1)) []:=by
 have h1:=Tm (v.int==1);generalize nw (v.int==1)=t at*
 (refine fA [.tmp 2] rq [(6,[(3,zR t,[])]),(8,[(2,.any,[])]),(10,[(4,.any,[])]),(15,[(2,.any,[])]),(17,[(2,.any,[])]),(19,[(2,.any,[])]),(20,[(1,.any,[])]),(22,[(2,.any,[])]),(23,[(1,.any,[])]),(38,[(7,.any,[])])] func102 fun _=>?_;repeat' first|exact⟨⟩|apply mA|apply mC<;>intro)
 all_goals(try(exfalso;omega))
 all_goals try exact zB
 all_goals exact eZ
def Tq(e:Nat)(v:V)(t:ByteArray)(hk:v.kind=4)(h1:Af prog 152 [.str fun _=>v.text] [] (.str fun _=>t) []):Af prog 102 [aK (e+1) .any fun _=>v] [] (.str fun _=>t) []:=by
 (refine fA [.tmp 2] rq [(6,[(3,.any,[])]),(8,[(2,.any,[])]),(10,[(4,.any,[])]),(15,[(2,zR t,[])]),(17,[(2,.any,[])]),(19,[(2,.any,[])]),(20,[(1,.any,[])]),(22,[(2,.any,[])]),(23,[(1,.any,[])]),(38,[(7,.any,[])])] func102 fun _=>?_;repeat' first|exact⟨⟩|apply mA|apply mC<;>intro)
 all_goals(try(exfalso;omega))
 all_goals try exact zB
 all_goals exact eZ
def Tr(e:Nat)(v:V)(t:ByteArray)(hk:v.kind=5)(h1:Af prog 153 [.str fun _=>v.text] [] (.str fun _=>t) []):Af prog 102 [aK (e+1) .any fun _=>v] [] (.str fun _=>t) []:=by
 (refine fA [.tmp 2] rq [(6,[(3,.any,[])]),(8,[(2,.any,[])]),(10,[(4,.any,[])]),(15,[(2,.any,[])]),(17,[(2,zR t,[])]),(19,[(2,.any,[])]),(20,[(1,.any,[])]),(22,[(2,.any,[])]),(23,[(1,.any,[])]),(38,[(7,.any,[])])] func102 fun _=>?_;repeat' first|exact⟨⟩|apply mA|apply mC<;>intro)
 all_goals(try(exfalso;omega))
 all_goals try exact zB
 all_goals exact eZ
def Ts(e:Nat)(v:V)(hk:v.kind=3)(hn : -9223372036854775808<v.int∧v.int<=9223372036854775807)(hs:(ej (v.int,v.scale)).1.size<=1000):
 Af prog 102 [aK (e+1) .any fun _=>v] [] (.str fun _=>if v.scale=0 then(ej (v.int,v.scale)).1++⟨#[100]⟩else(ej (v.int,v.scale)).1) []:=by
 have h1:=Tn v.int v.scale hn.1 hn.2;generalize (ej (v.int,v.scale)).1=t at*;obtain⟨Z,hZ⟩:∃Z,Z=if v.scale=0 then t++⟨#[100]⟩else t:=⟨_,rfl⟩
 rw[<- hZ]
 (apply Af.of tF mF [.tmp 2] rq [(6,[(3,.any,[])]),(8,[(2,.any,[])]),(10,[(4,zR t,[])]),(15,[(2,.any,[])]),(17,[(2,.any,[])]),(19,[(2,.any,[])]),(20,[(1,.any,[])]),(22,[(2,.any,[])]),(23,[(1,.any,[])]),(38,[(7,.any,[])])] func102 (fun _=>?_);(repeat' with_reducible first|exact nY|refine oC ?_ ?_|refine vQ ?_ ?_ ?_|refine cV (fun _=>?_) fun _=>?_|refine wQ ?_|fail))
 all_goals(try(exfalso;omega))
 all_goals try exact zB
 (all_goals try first|exact eZ|with_reducible (refine rQ ?_;repeat' first|apply ai|exact wZ)|(refine sQ ?_;repeat' first|with_reducible apply ai|exact cZ))
 ·show t.size+1<=_;omega
 ·rw[hZ,ae ‹_›]
 ·rw[hZ,aa ‹_›]
end Go.Ai

namespace Go.Ai
open Go Go.Proofs Tryz
set_option maxRecDepth 100000
set_option maxHeartbeats 4000000
def Tt(e:Nat)(v:V)(t q:ByteArray)(f:Int)(hk:v.kind=6)(h1:Af prog 154 [.int .i64 fun _=>v.int] [] (.ag [.str fun _=>t,.int .i64 fun _=>f]) [])(h2:Af prog 152 [.str fun _=>t] [] (.str fun _=>q) [])(hq:q.size<=1000000):
 Af prog 102 [aK (e+1) .any fun _=>v] [] (.str fun _=>⟨#[100,97,116,101,32]⟩++q) []:=by
 have k:(ByteArray.mk #[100,97,116,101,32]).size=5:=rfl
 (apply Af.of tF mF [.tmp 2] rq [(6,[(3,.any,[])]),(8,[(2,.any,[])]),(10,[(4,.any,[])]),(15,[(2,.any,[])]),(17,[(2,.any,[])]),(19,[(2,.ag [zR t,zI f],[])]),(20,[(1,zR q,[])]),(22,[(2,.any,[])]),(23,[(1,.any,[])]),(38,[(7,.any,[])])] func102 (fun _=>?_);(repeat' with_reducible first|exact nY|refine oC ?_ ?_|refine vQ ?_ ?_ ?_|refine cV (fun _=>?_) fun _=>?_|refine wQ ?_|fail))
 all_goals(try(exfalso;omega))
 all_goals try exact zB
 (all_goals try first|exact eZ|with_reducible (refine rQ ?_;repeat' first|apply ai|exact wZ)|(refine sQ ?_;repeat' first|with_reducible apply ai|exact cZ))
 all_goals(rw[k];omega)
def Tu(e:Nat)(v:V)(t q:ByteArray)(f:Int)(hk:v.kind=7)(h1:Af prog 155 [.int .i64 fun _=>v.int] [] (.ag [.str fun _=>t,.int .i64 fun _=>f]) [])(h2:Af prog 152 [.str fun _=>t] [] (.str fun _=>q) [])(hq:q.size<=1000000):
 Af prog 102 [aK (e+1) .any fun _=>v] [] (.str fun _=>⟨#[116,105,109,101,32]⟩++q) []:=by
 have k:(ByteArray.mk #[116,105,109,101,32]).size=5:=rfl
 (apply Af.of tF mF [.tmp 2] rq [(6,[(3,.any,[])]),(8,[(2,.any,[])]),(10,[(4,.any,[])]),(15,[(2,.any,[])]),(17,[(2,.any,[])]),(19,[(2,.any,[])]),(20,[(1,.any,[])]),(22,[(2,.ag [zR t,zI f],[])]),(23,[(1,zR q,[])]),(38,[(7,.any,[])])] func102 (fun _=>?_);(repeat' with_reducible first|exact nY|refine oC ?_ ?_|refine vQ ?_ ?_ ?_|refine cV (fun _=>?_) fun _=>?_|refine wQ ?_|fail))
 all_goals(try(exfalso;omega))
 all_goals try exact zB
 (all_goals try first|exact eZ|with_reducible (refine rQ ?_;repeat' first|apply ai|exact wZ)|(refine sQ ?_;repeat' first|with_reducible apply ai|exact cZ))
 all_goals(rw[k];omega)
end Go.Ai
