/- Data that can be read: expressions in memory. -/
import Derived.Test.YtbagpkiomjlhkaaGreatDoorFnE
import Derived.Test.YtbagpkiomjlhkaaGreatDoorV
import Derived.Test.YtbagpkiomjlhkaaGreatDoorTabs
import Derived.ChangeMaps5
set_option linter.all false
namespace Go.Ai
open Go Go.Proofs Go.Proofs.YtbagpkiomjlhkaaGreatDoor Go.RowKit Go.Lib Tryz
set_option maxRecDepth 100000
set_option maxHeartbeats 4000000
def Up(e d:Nat)(x:X):(cQ e d .any fun _=>x).length=5∧(cQ e d .any fun _=>x).all AV.cell=true:=⟨rfl,rfl⟩
section
variable {H:Type}
def Kd{α:Type}[Inhabited α]{l:List α}{p:α->Prop}(h:∀i,i<l.length->p (l.getD i default)):∀x∈l,p x:=fun x hx=>by
 obtain⟨i,hi,rfl⟩:=sD hx;have:=h i hi
 rwa [show l.getD i default=l[i] by simp[List.getD,hi]]at this
def Uq{w:World}{B:Nat}{enc:TypeId×Value->H}{fuel:Nat}{cs:List Value}{z:DataW H×List MemPlace}(hz:Rows.uptoBulk z.1<=1048576)(h:DataW.trod enc prog w 0 (fun _=>true) true fuel 22 cs=some z):
 ∃(l:List V) (v:Value),cs=[v]∧l.length<=1048576∧(∀x∈l,V.le 1048576 x)∧RD w (fun b=>b<w.heap.size) B (.slc .any 6 (fun _=>l.length) fun j=>cells 1048576 .any fun _=>l.getD (j ()) default) v:=by
 have rm:prog.cellsOf 56=6:=zk
 obtain⟨l,D,v,e,hP,hb,hr⟩:=zG (M:=1048576) (B:=B) underlying22 rm zo (fun x=>cells 1048576 .any fun _=>x) (I1 1048576) (P:=fun x d=>V.le 1048576 x)
  (fun f cs z hz ht=>by
    obtain⟨x,⟨q1,q2⟩,q3⟩:=DB (B:=B) 1048576 f cs z zo (ao _) ht;exact⟨x,q1,q3⟩) hz h
 have hll:l.length<=Rows.uptoBulkAll ((List.range l.length).map D):=by have:=wG ((List.range l.length).map D);simpa using this
 exact⟨l,v,e,zo,Kd hP,hr⟩
theorem Ke{w:World}{B:Nat}{enc:TypeId×Value->H}:∀(M fuel:Nat) (cs:List Value) (z:DataW H×List MemPlace),Rows.uptoBulk z.1<=M->M<=1048576->DataW.trod enc prog w 0 (fun _=>true) true fuel 25 cs=some z ->
 ∃x:X,X.le 1048576 M x∧wH w B (cQ 1048576 M .any fun _=>x) cs
 | 0,fuel,cs,z,h,_,_=>by have:=zF z.1;omega
 | M+1,fuel,cs,z,h,hM,ht=>by
  obtain⟨xs,n,rfl,hz,hl,hxl,hf⟩:=DataW.trod_struct underlying25 ht;have Am:prog.cellsOf 25=5:=zk
  have c3:prog.cellsOf 3=1:=zk
  have c9:prog.cellsOf 9=1:=zk
  have wJ:prog.cellsOf 22=1:=zk
  have c23:prog.cellsOf 23=1:=zk
  rw[Am]at hl;obtain⟨x0,r0,rfl,l0⟩:=lS (n:=4) (l:=xs) (by simpa using hxl);obtain⟨x1,r1,rfl,l1⟩:=lS l0;obtain⟨x2,r2,rfl,l2⟩:=lS l1;obtain⟨x3,r3,rfl,l3⟩:=lS l2;obtain⟨x4,r4,rfl,l4⟩:=lS l3;obtain rfl:=qH l4;obtain⟨v0,s0,rfl,m0⟩:=lS hl;obtain⟨v1,s1,rfl,m1⟩:=lS m0;obtain⟨v2,s2,rfl,m2⟩:=lS m1;obtain⟨v3,s3,rfl,m3⟩:=lS m2;obtain⟨v4,s4,rfl,m4⟩:=lS m3;obtain rfl:=qH m4;have f0:=hf 0 _ rfl;have f1:=hf 1 _ rfl;have f2:=hf 2 _ rfl;have f3:=hf 3 _ rfl;have f4:=hf 4 _ rfl;simp only[c3,c9,wJ,c23,xO,List.drop_succ_cons,List.take_succ_cons,List.take_zero,pd,xP]at f0 f1 f2 f3 f4;obtain⟨a0,e0,_,_⟩:=Bg underlying3 f0;obtain⟨a1,e1,_,_⟩:=Bg underlying3 f1;obtain⟨a2,e2,ha2,_⟩:=FI underlying9 f2;cases e0;cases e1;cases e2;have hb:Rows.uptoBulk z.1=Rows.uptoBulkAll [x0.1,x1.1,x2.1,x3.1,x4.1]+1:=by rw[hz];simp[Rows.uptoBulk]
  simp only[Rows.uptoBulkAll]at hb;have htb:Rows.uptoBulk x2.1=a2.size+1:=by rw[ha2];simp[Rows.uptoBulk,Dx]
  obtain⟨wl,vw,ew,hwl,hws,hwr⟩:=Uq (B:=B) zo f3;obtain⟨l,D,vl,el,hP,hbl,hrl⟩:=zG (M:=M) (B:=B) underlying23 Am zo (fun x=>cQ 1048576 M .any fun _=>x) (Up 1048576 M) (P:=fun x _=>X.le 1048576 M x)
   (fun f cs z hz ht=>Ke M f cs z zo zo ht) zo f4
  cases ew;cases el;have hle1:=Kd (p:=fun x=>X.le 1048576 M x) hP;have hll:l.length<=Rows.uptoBulkAll ((List.range l.length).map D):=by have:=wG ((List.range l.length).map D);simpa using this
  refine⟨.mk a0 a1 a2 wl l,⟨by simp only[X.text];omega,by simp only[X.value];omega,by simp only[X.args];omega,hws,hle1⟩,rfl,?_⟩;intro j av v h1 h2
  match j with
  | 0=>simp[cQ,mw]at h1 h2;subst h1;subst h2;exact .int _ _
  | 1=>simp[cQ,mw]at h1 h2;subst h1;subst h2;exact .int _ _
  | 2=>simp[cQ,mw]at h1 h2;subst h1;subst h2;exact .str _
  | 3=>simp[cQ,mw]at h1 h2;subst h1;subst h2;exact hwr
  | 4=>simp[cQ,mw]at h1 h2;subst h1;subst h2;exact hrl
  | n+5=>simp[cQ,mw]at h1
end
end Go.Ai

namespace Go.Ai
open Go Go.Proofs Go.Proofs.YtbagpkiomjlhkaaGreatDoor Go.ChangeShapes Tryz
set_option maxRecDepth 100000
section
variable {H:Type}{enc:TypeId×Value->H}{W:World}{v:Value}{d:DataW H}{p:List MemPlace}
def Sm(hd:DataW.Trod enc prog W 0 (fun _=>true) true 25 v d p)(hb:Rows.uptoBulk d<=1048576):
 ∃x:X,X.le 1048576 1048576 x∧RD W (fun b=>b<W.heap.size) W.heap.size (aq 1048576 1048576 .any fun _=>x) v:=by
 obtain⟨fuel,ht⟩:=hd;obtain⟨x,h1,h3,h4⟩:=Ke (B:=W.heap.size) 1048576 fuel v.cells.toList (d,p) hb (ao _) ht;refine⟨x,h1,?_⟩;have hl:v.cells.size=5:=by rw[show(5:Nat)=(cQ 1048576 1048576 .any fun _=>x).length from rfl,<- h3];simp
 cases v with
 | agg vs=>exact .agg _ _ (by show 5=vs.size;simpa[Value.cells]using hl.symm) fun i av u q1 q2=>h4 i av u q1 (by simpa[Value.cells]using q2)
 | _=>simp[Value.cells]at hl
end
end Go.Ai
