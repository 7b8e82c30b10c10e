/- Chapter 1: the text of a number. -/
import Derived.Test.YtbagpkiomjlhkaaGreatDoorPthA
import Derived.Lib.ItoaLen
set_option linter.all false
namespace Go.Ai
open Go Go.Proofs
set_option maxRecDepth 100000
set_option maxHeartbeats 4000000
def repB(s:ByteArray)(c:Nat):ByteArray:=⟨(Lib.repeatL s.data.toList c).toArray⟩
def aeF(s:ByteArray)(c:Nat):(repB s c).size=c*s.size:=by
 show(Lib.repeatL s.data.toList c).toArray.size=_;rw[List.size_toArray,Lib.repeatL_length,Array.length_toList];rfl
def aik(s:ByteArray)(c:Nat)(hc:c<=1073741824)(hs:s.size*c<=1073741824):Af Tryz.prog 250 [.str fun _=>s,.int .i64 fun _=>(c:Int)] [] (.str fun _=>repB s c) []:=
 Af.akI (vals:=#[.string s,.int .i64 c]) Tryz.func250 rfl fun w hT=>
  (Any.strings_Repeat Tryz.amR Tryz.ac5 s c w (by omega) (by omega)).mono fun e w' ⟨he,hw⟩=>⟨_,he,fun w2 D B=>.str fun _=>repB s c,hw⟩
def abu(n:Int)(h0 : -9223372036854775808<=n)(h1:n<=9223372036854775807):(abD n).size<=21:=by
 have:=Lib.itoa_length_le n h0 h1;show(Lib.itoa n).toArray.size<=21;rw[List.size_toArray];exact this
def encN(n:Unit->Int×Int):AV:=.agg [.int .i64 fun _=>(n ()).1,.int .i64 fun _=>(n ()).2]
def absI(n:Int):Int:=if n < -n then -n else n
def abs_ok(n:Int)(h0 : -9223372036854775808<n)(h1:n<=9223372036854775807):Af Tryz.prog 249 [.int .i64 fun _=>n] [] (.int .i64 fun _=>absI n) []:=by
 (refine fB [.tmp 2] kp249 [] Tryz.func249 fun _=>?_;repeat' with_reducible first|exact⟨⟩|refine mA ?_ ?_|refine mC (fun _=>?_) fun _=>?_)
 have e:IntKind.i64.wrap (0-n) = -n:=(w64 (by omega) (by omega)).trans (by omega);rw[e,if_pos trivial];rfl
def numE(n:Int×Int):Int:=if -999999999999999<=n.1∧n.1<=999999999999999∧0<=n.2∧n.2<=12 then 0 else 2
def numE_ok(n:Int×Int)(h0 : -9223372036854775808<n.1)(h1:n.1<=9223372036854775807):Af Tryz.prog 248 [encN fun _=>n] [] (.int .i64 fun _=>numE n) []:=by
 have h:=abs_ok n.1 h0 h1;obtain⟨Z,hZ⟩:∃Z,Z=numE n:=⟨_,rfl⟩
 rw[<- hZ];unfold numE at hZ;obtain⟨a,ha⟩:∃a,a=absI n.1:=⟨_,rfl⟩
 rw[<- ha]at h;unfold absI at ha
 (refine fA [.tmp 2] kp248 [(1,[(2,zI a,[])])] Tryz.func248 fun _=>?_;repeat' with_reducible first|exact⟨⟩|refine mA ?_ ?_|refine mC (fun _=>?_) fun _=>?_)
 all_goals(try exact zB)
 all_goals(try simp only[ite_self])
 (all_goals try first|exact eZ|(refine qC ?_;repeat' with_reducible first|exact⟨⟩|refine mA ?_ ?_))
 all_goals(rw[hZ])
 all_goals(repeat' split)
 all_goals(first|rfl|(exfalso;revert ha;split<;>intro ha<;>omega))
def padB(n:Int×Int):ByteArray:=repB ⟨#[48]⟩ (n.2+1-(abD (absI n.1)).size).toNat++abD (absI n.1)
def decS(n:Int×Int):ByteArray:=
 if 0<n.2 then(padB n).extract 0 ((padB n).size-n.2).toNat++⟨#[46]⟩++(padB n).extract ((padB n).size-n.2).toNat (padB n).size else abD (absI n.1)
def decT(n:Int×Int):ByteArray×Int:=if numE n≠0 then(⟨#[]⟩,numE n)else(if n.1<0 then⟨#[45]⟩++decS n else decS n,0)
def ang(n:Int×Int)(h0 : -9223372036854775808<n.1)(h1:n.1<=9223372036854775807):Af Tryz.prog 217 [encN fun _=>n] [] (.tup [.str fun _=>(decT n).1,.int .i64 fun _=>(decT n).2]) []:=by
 have h2:=numE_ok n h0 h1;have h3:=abs_ok n.1 h0 h1;unfold decT;have hE:numE n=0->0<=n.2∧n.2<=12:=fun q=>by unfold numE at q;split at q<;>omega
 by_cases c1:numE n≠0
 ·rw[if_pos c1];generalize numE n=z at*;dsimp only
  (apply Af.of tF mF [.tmp 2,.tmp 3] kp217 [(1,[(1,.int .i64 fun _=>z,[])]),(4,[(2,.any,[]),(3,.any,[])]),(6,[(7,.any,[])])] Tryz.func217 (fun _=>?_);(any_goals((with_reducible refine wI ?_);cbv;(try dsimp only[nc]at*);(repeat'(with_reducible first|exact‹False›.elim|exact nZ|refine oC ?_ ?_|refine VC.mk rfl ?_ ?_ ?_|(apply Ca.mk<;>intro _)|refine cV (fun _=>?_) fun _=>?_|((first|apply xE|apply uE);cbv;(try dsimp only[nc]at*)))))))
  any_goals((with_reducible refine nO ?_);exact h2)
  all_goals(try(exact absurd ‹z=0› c1))
  all_goals exact eZ
 rw[if_neg c1];obtain⟨g1,g2⟩:=hE (Classical.not_not.1 c1);have hz:numE n=0:=Classical.not_not.1 c1;rw[hz]at h2;clear hz c1;have ha:0<=absI n.1∧absI n.1<=9223372036854775807:=by unfold absI;split<;>omega
 have h4:=afl (absI n.1) (by omega) ha.2;have hs:=abu (absI n.1) (by omega) ha.2;obtain⟨d,hd⟩:∃d,d=decS n:=⟨_,rfl⟩
 rw[<- hd];unfold decS padB at hd;generalize absI n.1=a at*;generalize abD a=d0 at*;dsimp only;by_cases c2:0<n.2
 ·rw[if_pos c2]at hd;obtain⟨m,hm⟩:∃m:Int,m=(((n.2+1-d0.size).toNat:Nat):Int):=⟨_,rfl⟩
  have h5:=aik ⟨#[48]⟩ (n.2+1-d0.size).toNat (by omega) (by show 1*_<=_;omega)
  have h6:=aeF ⟨#[48]⟩ (n.2+1-d0.size).toNat
  rw[show(ByteArray.mk #[48]).size=1 from rfl,Nat.mul_one]at h6;rw[<- hm]at h5;generalize repB ⟨#[48]⟩ (n.2+1-d0.size).toNat=rp at*;have hsz:(rp++d0).size=rp.size+d0.size:=ByteArray.size_append;obtain⟨d1,hd1⟩:∃d1,d1=rp++d0:=⟨_,rfl⟩
  rw[<- hd1]at hd hsz;have e1:IntKind.i64.wrap (n.2+1)=n.2+1:=w64 (by omega) (by omega);have e2:IntKind.i64.wrap (n.2+1-(d0.size:Int))=n.2+1-(d0.size:Int):=w64 (by omega) (by omega);have e3:IntKind.i64.wrap ((d1.size:Int)-n.2)=(d1.size:Int)-n.2:=w64 (by omega) (by omega);have e4:(if 0<n.2+1-(d0.size:Int)then n.2+1-(d0.size:Int)else 0)=m:=by split<;>omega
  have k1:(ByteArray.mk #[46]).size=1:=rfl;have k2:(ByteArray.mk #[45]).size=1:=rfl
  (apply Af.of tF mF [.tmp 2,.tmp 3] kp217 [(1,[(1,.int .i64 fun _=>0,[])]),(4,[(2,.int .i64 fun _=>a,[]),(3,.str fun _=>d0,[])]),(6,[(7,.str fun _=>rp,[])])] Tryz.func217 (fun _=>?_);(any_goals((with_reducible refine wI ?_);cbv;(try dsimp only[nc]at*);(repeat'(with_reducible first|exact‹False›.elim|exact nZ|refine oC ?_ ?_|refine VC.mk rfl ?_ ?_ ?_|(apply Ca.mk<;>intro _)|refine cV (fun _=>?_) fun _=>?_|((first|apply xE|apply uE);cbv;(try dsimp only[nc]at*)))))))
  all_goals(try(exact absurd trivial ‹¬True›))
  any_goals((with_reducible refine nO ?_);first|exact h2|exact h3|exact h4)
  all_goals(try simp only[<- hd1,e1,e2,e3,e4,if_true,Int.toNat_natCast,Int.toNat_zero])
  any_goals((with_reducible refine nO ?_);exact h5)
  (all_goals try first|exact eZ|with_reducible (refine rQ ?_;repeat' first|apply And.intro|exact wZ)|(refine sQ ?_;repeat' first|with_reducible apply And.intro|exact cZ))
  all_goals(try simp only[<- hd])
  ·rw[ByteArray.size_extract,k1];omega
  ·rw[ByteArray.size_append,ByteArray.size_extract,ByteArray.size_extract,k1];omega
  ·rw[hd,ByteArray.size_append,ByteArray.size_append,ByteArray.size_extract,ByteArray.size_extract,k1,k2];omega
  ·rw[if_pos ‹_›]
  ·rw[if_neg (by omega)]
 ·rw[if_neg c2]at hd;have k2:(ByteArray.mk #[45]).size=1:=rfl
  (apply Af.of tF mF [.tmp 2,.tmp 3] kp217 [(1,[(1,.int .i64 fun _=>0,[])]),(4,[(2,.int .i64 fun _=>a,[]),(3,.str fun _=>d0,[])]),(6,[(7,.any,[])])] Tryz.func217 (fun _=>?_);(any_goals((with_reducible refine wI ?_);cbv;(try dsimp only[nc]at*);(repeat'(with_reducible first|exact‹False›.elim|exact nZ|refine oC ?_ ?_|refine VC.mk rfl ?_ ?_ ?_|(apply Ca.mk<;>intro _)|refine cV (fun _=>?_) fun _=>?_|((first|apply xE|apply uE);cbv;(try dsimp only[nc]at*)))))))
  all_goals(try(exact absurd trivial ‹¬True›))
  any_goals((with_reducible refine nO ?_);first|exact h2|exact h3|exact h4)
  all_goals(try(exact absurd ‹0<n.2› c2))
  (all_goals try first|exact eZ|with_reducible (refine rQ ?_;repeat' first|apply And.intro|exact wZ)|(refine sQ ?_;repeat' first|with_reducible apply And.intro|exact cZ))
  ·rw[if_pos ‹_›,hd]
  ·rw[if_neg (by omega),hd]
def acQ(s:ByteArray):ByteArray:=(cutL s ⟨#[46]⟩).1++(cutL s ⟨#[46]⟩).2.1
def rawD(s:ByteArray):Int×Int:=((ab6 (acQ s)).1,((cutL s ⟨#[46]⟩).2.1.size:Int))
def decP(s:ByteArray):(Int×Int)×Int:=
 if s.size=0 then((0,0),4)else if 17<s.size then((0,0),5)else
 if(ab6 (acQ s)).2=false∨(decT (rawD s)).2≠0∨(decT (rawD s)).1≠s∨((cutL s ⟨#[46]⟩).2.2=true∧(cutL s ⟨#[46]⟩).2.1.size=0)then((0,0),13)else(rawD s,0)
def aqe(s:ByteArray)(hr:s.size<=17->(cutL s ⟨#[46]⟩).1.size+(cutL s ⟨#[46]⟩).2.1.size<=17 ∧ -9223372036854775808<(ab6 (acQ s)).1∧(ab6 (acQ s)).1<=9223372036854775807)(hs:s.size<=1073741824):
 Af Tryz.prog 167 [.str fun _=>s] [] (.tup [encN fun _=>(decP s).1,.int .i64 fun _=>(decP s).2]) []:=by
 have h1:=Cut_ok s ⟨#[46]⟩ hs;by_cases c2:17<s.size
 ·obtain⟨Z,hZ⟩:∃Z,Z=decP s:=⟨_,rfl⟩
  rw[<- hZ];unfold decP at hZ;rw[if_neg (by omega),if_pos c2]at hZ;subst hZ;dsimp only
  (refine fA [.cell 2 50,.tmp 3] kp167 [(5,[(1,.any,[])]),(6,[(3,.any,[])]),(8,[(1,.any,[])])] Tryz.func167 fun _=>?_;repeat' with_reducible first|exact⟨⟩|refine mA ?_ ?_|refine mC (fun _=>?_) fun _=>?_)
  all_goals(try(exfalso;omega))
  all_goals exact eZ
 obtain⟨g1,g2,g3⟩:=hr (by omega);have h2:=anQ (acQ s) (by unfold acQ;rw[ByteArray.size_append];omega);have h3:=ang (rawD s) g2 g3;obtain⟨Z,hZ⟩:∃Z,Z=decP s:=⟨_,rfl⟩
 rw[<- hZ];unfold decP at hZ;rw[if_neg c2]at hZ;unfold rawD at h3 hZ;obtain⟨W,hW⟩:∃W,W=acQ s:=⟨_,rfl⟩
 rw[<- hW]at h2 h3 hZ;unfold acQ at hW;generalize ab6 W=a at*;obtain⟨a1,a2⟩:=a;generalize cutL s ⟨#[46]⟩=q at*;obtain⟨q1,q2,q3⟩:=q;dsimp only at h1 h2 h3 hZ hW g1 g2 g3;generalize decT (a1,(q2.size:Int))=t at*;obtain⟨t1,t2⟩:=t;dsimp only at h3 hZ;by_cases c1:s.size=0
 ·rw[if_pos c1]at hZ;subst hZ;dsimp only
  (refine fA [.cell 2 50,.tmp 3] kp167 [(5,[(1,.any,[])]),(6,[(3,.any,[])]),(8,[(1,.any,[])])] Tryz.func167 fun _=>?_;repeat' with_reducible first|exact⟨⟩|refine mA ?_ ?_|refine mC (fun _=>?_) fun _=>?_)
  all_goals(try(exact absurd c1 ‹¬s.size=0›))
  all_goals exact eZ
 rw[if_neg c1]at hZ
 (refine fA [.cell 2 50,.tmp 3] kp167 [(5,[(1,.tup [zR q1,zR q2,zO q3],[])]),(6,[(3,.tup [zI a1,.ifc fun _=>a2],[])]),(8,[(1,.tup [zR t1,zI t2],[])])] Tryz.func167 fun _=>?_;repeat' with_reducible first|exact⟨⟩|refine mA ?_ ?_|refine mC (fun _=>?_) fun _=>?_)
 all_goals(try(exact absurd ‹s.size=0› c1))
 all_goals(try(exact absurd ‹17<(s.size:Int)› (by omega)))
 all_goals(try simp only[<- hW,ite_self])
 all_goals(try exact zB)
 (all_goals try first|exact eZ|(refine qC ?_;repeat' with_reducible first|exact⟨⟩|refine mA ?_ ?_))
 all_goals first
  | exact fun a b=>(by rw[a,b];rfl)
  | (have g:=‹((a2=false∨¬t2=0)∨¬t1=s)∨q3=true∧q2.size=0›
     have g':a2=false∨¬t2=0∨¬t1=s∨q3=true∧q2.size=0:=by
      rcases g with((h|h)|h)|h
      ·exact .inl h
      ·exact .inr (.inl h)
      ·exact .inr (.inr (.inl h))
      ·exact .inr (.inr (.inr h))
     rw[hZ,if_pos g'])
  | (obtain⟨⟨⟨p1,p2⟩,p3⟩,p4⟩:=‹((a2=true∧t2=0)∧t1=s)∧(q3=false∨¬q2.size=0)›
     rw [hZ,if_neg (fun g=>by
      rcases g with g|g|g|g
      ·rw[p1]at g;cases g
      ·exact g p2
      ·exact g p3
      ·rcases p4 with p4|p4
       ·rw[g.1]at p4;cases p4
       ·exact p4 g.2)])
end Go.Ai

namespace Go.Ai
open Go Go.Proofs
set_option maxRecDepth 100000
def dV(s:ByteArray):Int×Int×Int:=((decP s).1.1,(decP s).1.2,(decP s).2)
end Go.Ai
