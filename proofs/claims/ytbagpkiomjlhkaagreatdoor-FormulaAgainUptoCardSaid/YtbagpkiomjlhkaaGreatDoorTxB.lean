/- Chapter 17: the printer: binary operations, values, paths. -/
import Derived.Test.YtbagpkiomjlhkaaGreatDoorTxA
import Derived.Test.YtbagpkiomjlhkaaGreatDoorDec
set_option linter.all false
namespace Go.Ai
open Go Go.Proofs Tryz
set_option maxRecDepth 100000
set_option maxHeartbeats 4000000
def xI(lit:V->ByteArray)(T:X->Int->ByteArray)(e D:Nat)(x:X)(need:Int)(ha:∀i,i<x.args.length->ss T e D (x.args.getD i default))(hl:2<=x.args.length)(hs:(bh lit T x).size<=1152921504606846976)(hb:need<=aE x.op)(b:Nat)(b1:1<=b)(b7:b<=7)(b4:b≠4)(e1:aE x.op=b)(o3:¬x.op=3)(o16:¬x.op=16)(ct:¬x.op=25):
 Af prog 40 [aq (e+1) (D+1) .any fun _=>x,.int .i64 fun _=>need] [] (.str fun _=>bh lit T x) []:=by
 have h1:=nN x e (D+1);have h2:=ha 0 zo;have h4:=ha 1 zo;have h6:=F0 x.op b zo;have hw:IntKind.i64.wrap ((b:Int)+1)=(b:Int)+1:=ax zo zo;unfold bh at hs ⊢;rw[aa o3,aa o16,aa ct,e1]at hs ⊢;rw[e1]at h1 hb;rw[aa zo,ae zo,bu]at hs ⊢;have hs1:=hs;rw[aj,aj,aj,aj]at hs1;have h3:=h2 b zo zo zo;have h5:=h4 (b+1) zo zo zo;generalize T (x.args.getD 0 default) b=t at*;generalize T (x.args.getD 1 default) (b+1)=u at*;generalize gU x.op b=sy at*;clear h2 h4 ha e1 hs
 (apply Af.of tF mF [.tmp 4] mM [(1,[(1,.int .i64 fun _=>(b:Int),[])]),(3,[(1,.any,[])]),(5,[(5,.any,[])]),(7,[(4,.any,[])]),(13,[(4,.any,[]),(9,.any,[])]),(15,[(4,.any,[]),(9,.any,[]),(16,.any,[])]),(17,[(5,zR t,[]),(10,zR sy,[]),(19,zR u,[])])] func40 (fun _=>?_);(repeat' with_reducible first|exact nY|refine oC ?_ ?_|refine vQ ?_ ?_ ?_|refine cV (fun _=>?_) fun _=>?_|refine wQ ?_|fail))
 all_goals(try(exfalso;omega))
 all_goals try exact absurd ‹x.op=3› o3
 all_goals try exact absurd ‹x.op=16› o16
 all_goals try exact absurd ‹x.op=25› ct
 all_goals(try simp only[gt,show Int.toNat 1=1 from rfl,hw])
 all_goals try exact zB
 (all_goals try first|exact eZ|with_reducible (refine rQ ?_;repeat' first|apply ai|exact wZ)|(refine sQ ?_;repeat' first|with_reducible apply ai|exact cZ))
 all_goals(try(simp only[aj,dX,bp,bV]at*;omega))
def Ye(lit:V->ByteArray)(T:X->Int->ByteArray)(e D:Nat)(x:X)(need:Int)(ha:∀i,i<x.args.length->ss T e D (x.args.getD i default))(hl:2<=x.args.length)(hs:(bh lit T x).size<=1152921504606846976)(hb:need<=aE x.op)(e1:aE x.op=4)(o3:¬x.op=3)(o16:¬x.op=16)(ct:¬x.op=25):
 Af prog 40 [aq (e+1) (D+1) .any fun _=>x,.int .i64 fun _=>need] [] (.str fun _=>bh lit T x) []:=by
 have h1:=nN x e (D+1);have h2:=ha 0 zo;have h4:=ha 1 zo;have h6:=F0 x.op 4 zd;unfold bh at hs ⊢;rw[aa o3,aa o16,aa ct,e1]at hs ⊢;rw[e1]at h1 hb;rw[ae rfl]at hs ⊢;have hs1:=hs;rw[aj,aj,aj,aj]at hs1;have h3:=h2 5 zd zd zo;have h5:=h4 5 zd zd zo;generalize T (x.args.getD 0 default) 5=t at*;generalize T (x.args.getD 1 default) 5=u at*;generalize gU x.op 4=sy at*;clear h2 h4 ha e1 hs
 (refine fA [.tmp 4] mM [(1,[(1,zI 4,[])]),(3,[(1,.any,[])]),(5,[(5,.any,[])]),(7,[(4,.any,[])]),(13,[(4,.any,[]),(9,.any,[])]),(15,[(4,zR t,[]),(9,zR sy,[]),(16,zR u,[])])] func40 fun _=>?_;repeat' first|exact⟨⟩|apply mA|apply mC<;>intro)
 all_goals try exact absurd ‹(4:Int)<need› zo
 all_goals try exact absurd ‹x.op=3› o3
 all_goals try exact absurd ‹x.op=16› o16
 all_goals try exact absurd ‹x.op=25› ct
 all_goals(try simp only[gt,show Int.toNat 1=1 from rfl,ax (show(-9223372036854775808:Int)<=4+1 by decide) zd])
 all_goals try exact zB
 (all_goals try first|exact eZ|(refine qC ?_;repeat' first|exact⟨⟩|apply mA))
 all_goals(try(simp only[aj,dX,bp,bV]at*;omega))
def Yf(lit:V->ByteArray)(er:Int)(T:X->Int->ByteArray)(e D:Nat)(x:X)(need:Int)(hl:1<=x.value.length)(h3:Af prog 48 [aK (e+1) .any fun _=>x.value.getD 0 default] [] (.ag [.str fun _=>lit (x.value.getD 0 default),.int .i64 fun _=>er]) [])(hb:need<=aE x.op)(ho:x.op=1):
 Af prog 40 [aq (e+1) (D+1) .any fun _=>x,.int .i64 fun _=>need] [] (.str fun _=>bh lit T x) []:=by
 have h1:=nN x e (D+1);have e1:aE x.op=9:=by rw[ho];rfl
 unfold bh;rw[aa zo,aa zo,aa zo,e1,aa zd,aa zd,ae ho];rw[e1]at h1 hb;generalize lit (x.value.getD 0 default)=t at*;clear e1
 (refine fA [.tmp 4] mM [(1,[(1,zI 9,[])]),(3,[(1,.any,[])]),(5,[(5,.any,[])]),(7,[(4,.any,[])]),(13,[(4,.any,[]),(9,.any,[])]),(15,[(4,.any,[]),(9,.any,[]),(16,.any,[])]),(17,[(5,.any,[]),(10,.any,[]),(19,.any,[])]),(19,[(4,.ag [zR t,zI er],[])]),(25,[(2,.any,[])]),(27,[(3,.any,[])])] func40 fun _=>?_;repeat' first|exact⟨⟩|apply mA|apply mC<;>intro)
 all_goals try exact absurd ‹(9:Int)<need› zo
 all_goals(try(exfalso;omega))
 all_goals(try simp only[gt])
 all_goals try exact zB
 all_goals exact eZ
def Yg(lit:V->ByteArray)(T:X->Int->ByteArray)(e D:Nat)(x:X)(need:Int)(hb:need<=aE x.op)(ho:x.op=2):
 Af prog 40 [aq (e+1) (D+1) .any fun _=>x,.int .i64 fun _=>need] [] (.str fun _=>bh lit T x) []:=by
 have h1:=nN x e (D+1);have e1:aE x.op=9:=by rw[ho];rfl
 unfold bh;rw[aa zo,aa zo,aa zo,e1,aa zd,aa zd,aa zo,ae ho];rw[e1]at h1 hb;clear e1
 (refine fA [.tmp 4] mM [(1,[(1,zI 9,[])]),(3,[(1,.any,[])]),(5,[(5,.any,[])]),(7,[(4,.any,[])]),(13,[(4,.any,[]),(9,.any,[])]),(15,[(4,.any,[]),(9,.any,[]),(16,.any,[])]),(17,[(5,.any,[]),(10,.any,[]),(19,.any,[])]),(19,[(4,.any,[])]),(25,[(2,.any,[])]),(27,[(3,.any,[])])] func40 fun _=>?_;repeat' first|exact⟨⟩|apply mA|apply mC<;>intro)
 all_goals try exact absurd ‹(9:Int)<need› zo
 all_goals(try(exfalso;omega))
 all_goals try exact zB
 all_goals exact eZ
def Yh(lit:V->ByteArray)(T:X->Int->ByteArray)(e D:Nat)(x:X)(need:Int)(ha:∀i,i<x.args.length->ss T e D (x.args.getD i default))(hl:1<=x.args.length)(hm:x.args.length<=1073741824)(hs:(bh lit T x).size<=1099511627776)(hb:need<=aE x.op)(ho:x.op=25)
 (hj:∀(ts:List ByteArray) (t:ByteArray),t∈ts->t.size<=(bO ts cR).size):
 Af prog 40 [aq (e+1) (D+1) .any fun _=>x,.int .i64 fun _=>need] [] (.str fun _=>bh lit T x) []:=by
 have h1:=nN x e (D+1);have e1:aE x.op=4:=by rw[ho];rfl
 have h2:=ha 0 zo;unfold bh at hs ⊢;rw[aa zo,aa zo,ae ho]at hs ⊢;rw[e1]at h1 hb;have hs1:=hs;rw[aj,aj,aj]at hs1;have h3:=h2 5 zd zd zo
 have h4:=Mj (fun y=>T y 0) e D (x.args.drop 1) (by rw[gu];omega) (fun i hi=>by
  rw[gu]at hi;have e2:(x.args.drop 1).getD i default=x.args.getD (1+i) default:=by rw[cz,qG,cz]
  have hq:=hj ((x.args.drop 1).map fun y=>T y 0) (T (x.args.getD (1+i) default) 0) (by
   rw[<- e2];refine gG.2 ⟨_,?_,rfl⟩;simp only[List.getD,bf (show i<(x.args.drop 1).length by rw[gu];omega)];exact d9 _)
  rw[e2];exact ha (1+i) zo 0 zd zd zo) zo
 have e3:∀i,(x.args.drop 1).getD i default=x.args.getD (1+i) default:=fun i=>by rw[cz,qG,cz]
 generalize bO ((x.args.drop 1).map fun y=>T y 0) cR=u at*;generalize T (x.args.getD 0 default) 5=t at*;have e4:(x.args.drop 1).length=x.args.length-1:=gu;unfold eP at h4;simp only[e3,e4]at h4;clear h2 ha e1 hs hj e3
 (refine fA [.tmp 4] mM [(1,[(1,zI 4,[])]),(3,[(1,.any,[])]),(5,[(5,.any,[])]),(7,[(4,.any,[])]),(13,[(4,zR t,[]),(9,zR u,[])]),(15,[(4,.any,[]),(9,.any,[]),(16,.any,[])])] func40 fun _=>?_;repeat' first|exact⟨⟩|apply mA|apply mC<;>intro)
 all_goals try exact absurd ‹(4:Int)<need› zo
 all_goals try exact absurd ‹x.op=3› zo
 all_goals try exact absurd ‹x.op=16› zo
 all_goals try exact absurd ho ‹¬x.op=25›
 all_goals(try simp only[gt])
 all_goals try exact zB
 (all_goals try first|exact eZ|(refine qC ?_;repeat' first|exact⟨⟩|apply mA))
 all_goals(try(simp only[aj,dX,uj,bp,bV]at*;omega))
 all_goals rfl
def Yi{x:X}{I:ByteArray}{i:Nat}(hi:i<ba.length)(h:(ba.getD i default).2.1=x.op):
 (ba.map (·.1)).getD i ⟨#[]⟩++⟨#[40]⟩++I++⟨#[41]⟩=(ba.find? fun p=>p.2.1==x.op).elim ⟨#[]⟩ fun p=>p.1++⟨#[40]⟩++I++⟨#[41]⟩:=by
 have key:∀i,i<ba.length->∃p,(ba.find? fun p=>p.2.1==(ba.getD i default).2.1)=some p∧p.1=(ba.map (·.1)).getD i ⟨#[]⟩:=by
  have:=(zd:∀i,i<ba.length->(ba.find? fun p=>p.2.1==(ba.getD i default).2.1)=some (ba.getD i default)∧(ba.getD i default).1=(ba.map (·.1)).getD i ⟨#[]⟩)
  exact fun i hi=>⟨_,(this i hi).1,(this i hi).2⟩
 obtain⟨p,h1,h2⟩:=key i hi;rw[h]at h1;rw[h1,<- h2];rfl
def Yj{x:X}{I:ByteArray}(h:∀i,i<ba.length->(ba.getD i default).2.1≠x.op):((ba.find? fun p=>p.2.1==x.op).elim ⟨#[]⟩ fun p=>p.1++⟨#[40]⟩++I++⟨#[41]⟩)=⟨#[]⟩:=by
 have:ba.find? (fun p=>p.2.1==x.op)=none:=by
  rw[Ft];intro p hp;obtain⟨i,hi,rfl⟩:=sD hp;have:=h i hi;simpa[List.getD,hi]using this
 rw[this];rfl
def Yk:∃L,L=ba∧Af prog 90 [] [] (ox L) []:=⟨_,rfl,JF⟩
def Yl(lit:V->ByteArray)(T:X->Int->ByteArray)(e D:Nat)(x:X)(need:Int)(hT:∀i,i<x.args.length->ss T e D (x.args.getD i default))(hm:x.args.length<=1073741824)(ht:x.text.size<=1099511627776)
 (hb:need<=aE x.op) (e1:aE x.op=9) (o1:¬x.op=1) (o2:¬x.op=2) (o3:¬x.op=3) (o16:¬x.op=16) (ct:¬x.op=25) (hn:0<=x.int∧x.int<=1000)
 (hs:(bO (x.args.map fun y=>T y 0) cR).size<=1099511627776) (hj:∀(ts:List ByteArray) (t:ByteArray),t∈ts->t.size<=(bO ts cR).size):
 Af prog 40 [aq (e+1) (D+1) .any fun _=>x,.int .i64 fun _=>need] [] (.str fun _=>bh lit T x) []:=by
 have h1:=nN x e (D+1)
 have h2:=Mj (fun y=>T y 0) e D x.args hm (fun i hi=>by
  refine hT i hi 0 zd zd ?_;have:=hj (x.args.map fun y=>T y 0) (T (x.args.getD i default) 0) (gG.2 ⟨_,by simp[List.getD,hi],rfl⟩);omega) zo
 have h3:=ve x.int zo zo;have hi:=qL x.int zo zo;obtain⟨L,eL,h4⟩:=Yk;unfold bh;rw[aa o3,aa o16,aa ct,e1,aa zd,aa zd,aa o1,aa o2];rw[e1]at h1 hb;unfold w9 iZ;obtain⟨I,hI⟩:∃I,I=(if x.op=15∨(x.op=26∧x.int≠0)then(if 0<x.args.length then bO (x.args.map fun y=>T y 0) cR else x.text)++(⟨#[44,32]⟩++cE x.int)else if 0<x.args.length then bO (x.args.map fun y=>T y 0) cR else x.text):=⟨_,rfl⟩
 rw[<- hI];have hat:=fun i=>Yi (x:=x) (I:=I) (i:=i);have hno:=Yj (x:=x) (I:=I);rw[<- eL]at hat hno ⊢;have hsz:∀i,i<L.length->((L.map (fun p:ByteArray×Int×Int=>p.1)).getD i (⟨#[]⟩:ByteArray)).size<=100:=by rw[eL];decide
 generalize cE x.int=it at*;generalize bO (x.args.map fun y=>T y 0) cR=js at*;generalize ((L.find? fun p=>p.2.1==x.op).elim (⟨#[]⟩:ByteArray) fun p=>p.1++⟨#[40]⟩++I++⟨#[41]⟩)=z at*;have hz:I.size<=1099511627876:=by
  rw[hI]
  repeat' split
  all_goals(try simp only[aj,dX,bp,bV])
  all_goals omega
 unfold eP at h2;clear e1 hT hj eL;by_cases c1:0<x.args.length<;>by_cases c2:x.op=15∨(x.op=26∧x.int≠0)
 all_goals(simp only[c1,c2,bC,dg]at hI)
 all_goals((apply Af.of tF mF [.tmp 4] mM [(1,[(1,zI 9,[])]),(3,[(1,.any,[])]),(5,[(5,.any,[])]),(7,[(4,.any,[])]),(13,[(4,.any,[]),(9,.any,[])]),(15,[(4,.any,[]),(9,.any,[]),(16,.any,[])]),(17,[(5,.any,[]),(10,.any,[]),(19,.any,[])]),(19,[(4,.any,[])]),(25,[(2,zR js,[])]),(27,[(3,zR it,[])]),(28,[(0,ox L,[])])] func40 (fun _=>?_);(repeat' with_reducible first|exact nY|refine oC ?_ ?_|refine vQ ?_ ?_ ?_|refine cV (fun _=>?_) fun _=>?_|(apply Ca.mk<;>intro _)|refine wQ ?_|fail)))
 all_goals try exact absurd ‹(9:Int)<need› zo
 all_goals(try(exfalso;omega))
 all_goals try exact zB
 all_goals try focus((all_goals(try exact eZ));done)
 all_goals try focus((try simp only[aC,aN,ay]);simp only[aj,dX,bp,bV];(repeat'(with_reducible apply ai))<;>omega)
 all_goals(refine .loop (fun seen:List Nat=>⟨195,[(179,.ptr 179 0),(10,.str fun _=>I),(2,.ptr 2 0)],[(179,.it (fun _=>L.map (·.1)) (fun i=>.agg [.int .i64 fun _=>(L.getD (i ()) default).2.1,.int .i64 fun _=>(L.getD (i ()) default).2.2]) (fun _=>seen) false),(2,Br x.op)]⟩) (fun seen=>∀i∈seen,(L.getD i default).2.1≠x.op) (fun seen=>unseen L.length seen) [] (fun i hi=>by cases hi) ?_ fun seen E hs=>?_)
 all_goals try focus((focus(refine aQ ?_;repeat' first|with_reducible apply ai|exact wZ|fail));first|exact hI.symm|skip;done)
 all_goals(
  apply af.mW tF mF 2 [] mM ?_
  (any_goals((with_reducible refine Bq ?_);cbv;(try dsimp only[nc]at*);(repeat' with_reducible first|exact‹False›.elim|exact nZ|refine oC ?_ ?_|refine vQ ?_ ?_ ?_|refine cV (fun _=>?_) fun _=>?_|(apply Ca.mk<;>intro _)|fail)))
  ·refine iJ.pick tF mF (fun _=>[]) mM 179 rfl ‹_› (fun i hi hn=>?_)
   (repeat' with_reducible first|exact nY|refine oC ?_ ?_|refine vQ ?_ ?_ ?_|refine cV (fun _=>?_) fun _=>?_|(apply Ca.mk<;>intro _)|refine wQ ?_|fail)
   all_goals(try simp only[List.getLastD_concat,kr]at*)
   (all_goals try first|exact eZ|with_reducible (refine rQ ?_;repeat' first|apply ai|exact wZ)|(refine sQ ?_;repeat' first|with_reducible apply ai|exact cZ))
   iterate 3 (first|(focus(have q:=hsz i hi;simp only[aj,dX,bp,bV];omega))|skip)
   ·exact hat i hi ‹_›
   ·refine dE (ι:=List Nat) (μ:=fun seen=>unseen L.length seen) (i:=seen) (seen++[i]) ⟨fun j hj=>?_,Bo hi hn⟩ ?_
    ·rcases gB.1 hj with hj|hj
     ·exact hs j hj
     ·rw[dD.1 hj];assumption
    ·exact aZ
  ·(any_goals(repeat' with_reducible first|exact‹False›.elim|exact nZ|refine oC ?_ ?_|refine vQ ?_ ?_ ?_|refine cV (fun _=>?_) fun _=>?_|(apply Ca.mk<;>intro _)|refine oQ ?_|fail))
   (all_goals try first|exact eZ|with_reducible (refine rQ ?_;repeat' first|apply ai|exact wZ)|(refine sQ ?_;repeat' first|with_reducible apply ai|exact cZ))
   rename_i hall;exact(hno fun i hi=>hs i (hall i (by rw[kr];exact hi))).symm)
end Go.Ai
