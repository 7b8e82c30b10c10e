/- Chapter 1: the text of a number. -/
import Derived.Test.YtbagpkiomjlhkaaGreatDoorPthA
import Derived.Lib.ItoaLen
set_option linter.all false
namespace Go.Ai
open Go Go.Proofs Tryz
set_option maxRecDepth 100000
set_option maxHeartbeats 4000000
def pk(s:ByteArray)(c:Nat):ByteArray:=⟨(Lib.repeatL s.data.toList c).toArray⟩
def Bv(s:ByteArray)(c:Nat):(pk s c).size=c*s.size:=by
 show(Lib.repeatL s.data.toList c).toArray.size=_;rw[uL,Lib.repeatL_length,fY];rfl
def F4(s:ByteArray)(c:Nat)(hc:c<=1073741824)(hs:s.size*c<=1073741824):Af prog 250 [.str fun _=>s,.int .i64 fun _=>(c:Int)] [] (.str fun _=>pk s c) []:=
 Af.pp (vals:=#[.string s,.int .i64 c]) func250 rfl fun w hT=>
  (Any.strings_Repeat lays105 FR s c w zo zo).mono fun e w' ⟨he,hw⟩=>⟨_,he,fun w2 D B=>.str fun _=>pk s c,hw⟩
def qL(n:Int)(h0 : -9223372036854775808<=n)(h1:n<=9223372036854775807):(cE n).size<=21:=by
 have:=Lib.itoa_length_le n h0 h1;show(Lib.itoa n).toArray.size<=21;rw[uL];exact this
def yf(n:Unit->Int×Int):AV:=.agg [.int .i64 fun _=>(n ()).1,.int .i64 fun _=>(n ()).2]
def ei(n:Int):Int:=if n < -n then -n else n
def Gn(n:Int)(h0 : -9223372036854775808<n)(h1:n<=9223372036854775807):Af prog 249 [.int .i64 fun _=>n] [] (.int .i64 fun _=>ei n) []:=by
 (refine fB [.tmp 2] Nv [] func249 fun _=>?_;repeat' first|exact⟨⟩|apply mA|apply mC<;>intro)
 have e:IntKind.i64.wrap (0-n) = -n:=(ax zo zo).trans zo;rw[e,ae trivial];rfl
def gI(n:Int×Int):Int:=if -999999999999999<=n.1∧n.1<=999999999999999∧0<=n.2∧n.2<=12 then 0 else 2
def Nw(n:Int×Int)(h0 : -9223372036854775808<n.1)(h1:n.1<=9223372036854775807):Af prog 248 [yf fun _=>n] [] (.int .i64 fun _=>gI n) []:=by
 have h:=Gn n.1 h0 h1;obtain⟨Z,hZ⟩:∃Z,Z=gI n:=⟨_,rfl⟩
 rw[<- hZ];unfold gI at hZ;obtain⟨a,ha⟩:∃a,a=ei n.1:=⟨_,rfl⟩
 rw[<- ha]at h;unfold ei at ha
 (refine fA [.tmp 2] Nx [(1,[(2,zI a,[])])] func248 fun _=>?_;repeat' first|exact⟨⟩|apply mA|apply mC<;>intro)
 all_goals try exact zB
 all_goals(try simp only[aF])
 (all_goals try first|exact eZ|(refine qC ?_;repeat' first|exact⟨⟩|apply mA))
 all_goals(rw[hZ])
 all_goals(repeat' split)
 all_goals(first|rfl|(exfalso;revert ha;split<;>intro ha<;>omega))
def mc(n:Int×Int):ByteArray:=pk ⟨#[48]⟩ (n.2+1-(cE (ei n.1)).size).toNat++cE (ei n.1)
def eN(n:Int×Int):ByteArray:=
 if 0<n.2 then(mc n).extract 0 ((mc n).size-n.2).toNat++⟨#[46]⟩++(mc n).extract ((mc n).size-n.2).toNat (mc n).size else cE (ei n.1)
def ej(n:Int×Int):ByteArray×Int:=if gI n≠0 then(⟨#[]⟩,gI n)else(if n.1<0 then⟨#[45]⟩++eN n else eN n,0)
def Gp(n:Int×Int)(h0 : -9223372036854775808<n.1)(h1:n.1<=9223372036854775807):Af prog 217 [yf fun _=>n] [] (.ag [.str fun _=>(ej n).1,.int .i64 fun _=>(ej n).2]) []:=by
 have h2:=Nw n h0 h1;have h3:=Gn n.1 h0 h1;unfold ej;have hE:gI n=0->0<=n.2∧n.2<=12:=fun q=>by unfold gI at q;split at q<;>omega
 by_cases c1:gI n≠0
 ·rw[ae c1];generalize gI n=z at*;dsimp only
  (apply Af.of tF mF [.tmp 2,.tmp 3] BJ [(1,[(1,.int .i64 fun _=>z,[])]),(4,[(2,.any,[]),(3,.any,[])]),(6,[(7,.any,[])])] func217 (fun _=>?_);(any_goals((with_reducible refine wI ?_);cbv;(try dsimp only[nc]at*);(repeat'(with_reducible first|exact‹False›.elim|exact nZ|refine oC ?_ ?_|refine VC.mk rfl ?_ ?_ ?_|(apply Ca.mk<;>intro _)|refine cV (fun _=>?_) fun _=>?_|((first|apply xE|apply uE);cbv;(try dsimp only[nc]at*)))))))
  any_goals((with_reducible refine nO ?_);exact h2)
  all_goals try exact absurd ‹z=0› c1
  all_goals exact eZ
 rw[aa c1];obtain⟨g1,g2⟩:=hE (Classical.not_not.1 c1);have hz:gI n=0:=Classical.not_not.1 c1;rw[hz]at h2;clear hz c1;have ha:0<=ei n.1∧ei n.1<=9223372036854775807:=by unfold ei;split<;>omega
 have h4:=ve (ei n.1) zo ha.2;have hs:=qL (ei n.1) zo ha.2;obtain⟨d,hd⟩:∃d,d=eN n:=⟨_,rfl⟩
 rw[<- hd];unfold eN mc at hd;generalize ei n.1=a at*;generalize cE a=d0 at*;dsimp only;by_cases c2:0<n.2
 ·rw[ae c2]at hd;obtain⟨m,hm⟩:∃m:Int,m=(((n.2+1-d0.size).toNat:Nat):Int):=⟨_,rfl⟩
  have h5:=F4 ⟨#[48]⟩ (n.2+1-d0.size).toNat zo (by show 1*_<=_;omega)
  have h6:=Bv ⟨#[48]⟩ (n.2+1-d0.size).toNat
  rw[show(ByteArray.mk #[48]).size=1 from rfl,uJ]at h6;rw[<- hm]at h5;generalize pk ⟨#[48]⟩ (n.2+1-d0.size).toNat=rp at*;have hsz:(rp++d0).size=rp.size+d0.size:=aj;obtain⟨d1,hd1⟩:∃d1,d1=rp++d0:=⟨_,rfl⟩
  rw[<- hd1]at hd hsz;have e1:IntKind.i64.wrap (n.2+1)=n.2+1:=ax zo zo;have e2:IntKind.i64.wrap (n.2+1-(d0.size:Int))=n.2+1-(d0.size:Int):=ax zo zo;have e3:IntKind.i64.wrap ((d1.size:Int)-n.2)=(d1.size:Int)-n.2:=ax zo zo;have e4:(if 0<n.2+1-(d0.size:Int)then n.2+1-(d0.size:Int)else 0)=m:=by split<;>omega
  have k1:(ByteArray.mk #[46]).size=1:=rfl;have k2:(ByteArray.mk #[45]).size=1:=rfl
  (apply Af.of tF mF [.tmp 2,.tmp 3] BJ [(1,[(1,.int .i64 fun _=>0,[])]),(4,[(2,.int .i64 fun _=>a,[]),(3,.str fun _=>d0,[])]),(6,[(7,.str fun _=>rp,[])])] func217 (fun _=>?_);(any_goals((with_reducible refine wI ?_);cbv;(try dsimp only[nc]at*);(repeat'(with_reducible first|exact‹False›.elim|exact nZ|refine oC ?_ ?_|refine VC.mk rfl ?_ ?_ ?_|(apply Ca.mk<;>intro _)|refine cV (fun _=>?_) fun _=>?_|((first|apply xE|apply uE);cbv;(try dsimp only[nc]at*)))))))
  all_goals try exact absurd trivial ‹¬True›
  any_goals((with_reducible refine nO ?_);first|exact h2|exact h3|exact h4)
  all_goals(try simp only[<- hd1,e1,e2,e3,e4,bC,bu,gt])
  any_goals((with_reducible refine nO ?_);exact h5)
  (all_goals try first|exact eZ|with_reducible (refine rQ ?_;repeat' first|apply ai|exact wZ)|(refine sQ ?_;repeat' first|with_reducible apply ai|exact cZ))
  all_goals(try simp only[<- hd])
  ·rw[dh,k1];omega
  ·rw[aj,dh,dh,k1];omega
  ·rw[hd,aj,aj,dh,dh,k1,k2];omega
  ·rw[ae ‹_›]
  ·rw[aa zo]
 ·rw[aa c2]at hd;have k2:(ByteArray.mk #[45]).size=1:=rfl
  (apply Af.of tF mF [.tmp 2,.tmp 3] BJ [(1,[(1,.int .i64 fun _=>0,[])]),(4,[(2,.int .i64 fun _=>a,[]),(3,.str fun _=>d0,[])]),(6,[(7,.any,[])])] func217 (fun _=>?_);(any_goals((with_reducible refine wI ?_);cbv;(try dsimp only[nc]at*);(repeat'(with_reducible first|exact‹False›.elim|exact nZ|refine oC ?_ ?_|refine VC.mk rfl ?_ ?_ ?_|(apply Ca.mk<;>intro _)|refine cV (fun _=>?_) fun _=>?_|((first|apply xE|apply uE);cbv;(try dsimp only[nc]at*)))))))
  all_goals try exact absurd trivial ‹¬True›
  any_goals((with_reducible refine nO ?_);first|exact h2|exact h3|exact h4)
  all_goals try exact absurd ‹0<n.2› c2
  (all_goals try first|exact eZ|with_reducible (refine rQ ?_;repeat' first|apply ai|exact wZ)|(refine sQ ?_;repeat' first|with_reducible apply ai|exact cZ))
  ·rw[ae ‹_›,hd]
  ·rw[aa zo,hd]
def kD(s:ByteArray):ByteArray:=(cY s ⟨#[46]⟩).1++(cY s ⟨#[46]⟩).2.1
def jH(s:ByteArray):Int×Int:=((dy (kD s)).1,((cY s ⟨#[46]⟩).2.1.size:Int))
def decP(s:ByteArray):(Int×Int)×Int:=
 if s.size=0 then((0,0),4)else if 17<s.size then((0,0),5)else
 if(dy (kD s)).2=false∨(ej (jH s)).2≠0∨(ej (jH s)).1≠s∨((cY s ⟨#[46]⟩).2.2=true∧(cY s ⟨#[46]⟩).2.1.size=0)then((0,0),13)else(jH s,0)
def Ny(s:ByteArray)(hr:s.size<=17->(cY s ⟨#[46]⟩).1.size+(cY s ⟨#[46]⟩).2.1.size<=17 ∧ -9223372036854775808<(dy (kD s)).1∧(dy (kD s)).1<=9223372036854775807)(hs:s.size<=1073741824):
 Af prog 167 [.str fun _=>s] [] (.ag [yf fun _=>(decP s).1,.int .i64 fun _=>(decP s).2]) []:=by
 have h1:=Gq s ⟨#[46]⟩ hs;by_cases c2:17<s.size
 ·obtain⟨Z,hZ⟩:∃Z,Z=decP s:=⟨_,rfl⟩
  rw[<- hZ];unfold decP at hZ;rw[aa zo,ae c2]at hZ;subst hZ;dsimp only
  (refine fA [.cell 2 50,.tmp 3] BK [(5,[(1,.any,[])]),(6,[(3,.any,[])]),(8,[(1,.any,[])])] func167 fun _=>?_;repeat' first|exact⟨⟩|apply mA|apply mC<;>intro)
  all_goals(try(exfalso;omega))
  all_goals exact eZ
 obtain⟨g1,g2,g3⟩:=hr zo;have h2:=Gr (kD s) (by unfold kD;rw[aj];omega);have h3:=Gp (jH s) g2 g3;obtain⟨Z,hZ⟩:∃Z,Z=decP s:=⟨_,rfl⟩
 rw[<- hZ];unfold decP at hZ;rw[aa c2]at hZ;unfold jH at h3 hZ;obtain⟨W,hW⟩:∃W,W=kD s:=⟨_,rfl⟩
 rw[<- hW]at h2 h3 hZ;unfold kD at hW;generalize dy W=a at*;obtain⟨a1,a2⟩:=a;generalize cY s ⟨#[46]⟩=q at*;obtain⟨q1,q2,q3⟩:=q;dsimp only at h1 h2 h3 hZ hW g1 g2 g3;generalize ej (a1,(q2.size:Int))=t at*;obtain⟨t1,t2⟩:=t;dsimp only at h3 hZ;by_cases c1:s.size=0
 ·rw[ae c1]at hZ;subst hZ;dsimp only
  (refine fA [.cell 2 50,.tmp 3] BK [(5,[(1,.any,[])]),(6,[(3,.any,[])]),(8,[(1,.any,[])])] func167 fun _=>?_;repeat' first|exact⟨⟩|apply mA|apply mC<;>intro)
  all_goals try exact absurd c1 ‹¬s.size=0›
  all_goals exact eZ
 rw[aa c1]at hZ
 (refine fA [.cell 2 50,.tmp 3] BK [(5,[(1,.ag [zR q1,zR q2,zO q3],[])]),(6,[(3,.ag [zI a1,.bz fun _=>a2],[])]),(8,[(1,.ag [zR t1,zI t2],[])])] func167 fun _=>?_;repeat' first|exact⟨⟩|apply mA|apply mC<;>intro)
 all_goals try exact absurd ‹s.size=0› c1
 all_goals try exact absurd ‹17<(s.size:Int)› zo
 all_goals(try simp only[<- hW,aF])
 all_goals try exact zB
 (all_goals try first|exact eZ|(refine qC ?_;repeat' first|exact⟨⟩|apply mA))
 all_goals first
  | exact fun a b=>(by rw[a,b];rfl)
  | (have g:=‹((a2=false∨¬t2=0)∨¬t1=s)∨q3=true∧q2.size=0›
     have g':a2=false∨¬t2=0∨¬t1=s∨q3=true∧q2.size=0:=by
      rcases g with((h|h)|h)|h
      ·exact .inl h
      ·exact .inr (.inl h)
      ·exact .inr (.inr (.inl h))
      ·exact .inr (.inr (.inr h))
     rw[hZ,ae g'])
  | (obtain⟨⟨⟨p1,p2⟩,p3⟩,p4⟩:=‹((a2=true∧t2=0)∧t1=s)∧(q3=false∨¬q2.size=0)›
     rw [hZ,aa (fun g=>by
      rcases g with g|g|g|g
      ·rw[p1]at g;cases g
      ·exact g p2
      ·exact g p3
      ·rcases p4 with p4|p4
       ·rw[g.1]at p4;cases p4
       ·exact p4 g.2)])
end Go.Ai

namespace Go.Ai
open Go Go.Proofs Tryz
set_option maxRecDepth 100000
def dV(s:ByteArray):Int×Int×Int:=((decP s).1.1,(decP s).1.2,(decP s).2)
end Go.Ai
