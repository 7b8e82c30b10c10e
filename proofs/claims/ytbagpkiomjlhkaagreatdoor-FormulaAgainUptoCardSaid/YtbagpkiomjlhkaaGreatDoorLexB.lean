/- Chapter 15: the scanner: bytes, blanks, words. -/
import Derived.Test.YtbagpkiomjlhkaaGreatDoorLexA
import Derived.Shelf.Small.Strs
import Derived.Shelf.Strings.Prefix
import Derived.Ground.NamesProg
import Derived.Test.YtbagpkiomjlhkaaGreatDoorProg
import Derived.Test.YtbagpkiomjlhkaaGreatDoorFnD
import Derived.Test.YtbagpkiomjlhkaaGreatDoorEngC
set_option linter.all false
namespace Go.Ai
open Go Go.Proofs Tryz
set_option maxRecDepth 100000
set_option maxHeartbeats 4000000
def rD(c:Int):Af prog 166 [.int .u8 fun _=>c] [] (.bool fun _=>bD c) []:=by
 (refine fB [.tmp 2] SV [] func166 fun _=>?_;repeat' first|exact⟨⟩|apply mA|apply mC<;>intro)
 simp only[bD];((((try simp only[nc,cl]at*)<;>(try rw[mQ]))<;>(try simp only[bl,uU,uV,uW,uX,qc,qd,mT,gr]at*))<;>(first|omega|grind))
def DS(c:Int):Af prog 164 [.int .u8 fun _=>c] [] (.bool fun _=>bJ c) []:=by
 (refine fB [.tmp 2] SW [] func164 fun _=>?_;repeat' first|exact⟨⟩|apply mA|apply mC<;>intro)
 all_goals(try simp only[bJ])
 all_goals((((try simp only[nc,cl]at*)<;>(try rw[mQ]))<;>(try simp only[bl,uU,uV,uW,uX,qc,qd,mT,gr]at*))<;>(first|omega|grind))
def DT(c:Int):Af prog 165 [.int .u8 fun _=>c] [] (.bool fun _=>cx c) []:=by
 have h1:=DS c;have h2:=rD c;unfold cx;generalize bJ c=a at h1 ⊢;generalize bD c=b at h2 ⊢
 (apply Af.of tF mF [.tmp 2] SX [(1,[(1,.bool fun _=>a,[]),(4,.bool fun _=>b,[])])] func165 (fun _=>?_);(any_goals((with_reducible refine wI ?_);cbv;(try dsimp only[nc]at*);(repeat'(with_reducible first|exact‹False›.elim|exact nZ|refine oC ?_ ?_|refine VC.mk rfl ?_ ?_ ?_|(apply Ca.mk<;>intro _)|refine cV (fun _=>?_) fun _=>?_|((first|apply xE|apply uE);cbv;(try dsimp only[nc]at*)))))))
 any_goals(refine nO ?_;exact h1)
 any_goals((with_reducible refine sO (fun _=>?_));exact h2)
 (all_goals try first|exact eZ|with_reducible (refine rQ ?_;repeat' first|apply ai|exact wZ)|(refine sQ ?_;repeat' first|with_reducible apply ai|exact cZ))
 by_cases k:c=95<;>cases a<;>cases b<;>simp[k]
def ah(s:ByteArray)(at_:Nat)(w e:Int):AO:=.box [.str fun _=>s,.int .i64 fun _=>at_,.int .i64 fun _=>w,.int .i64 fun _=>e]
def qe{s:ByteArray}{i:Nat}(h:s.size<=i):ad s i=0:=by
 have h1:s.data.size<=i:=h;simp[ad,Array.getElem?_eq_none h1]
def d7(s:ByteArray)(i off:Nat)(w e:Int)(hi:i<=1073741824)(ho:off<=4):Af prog 157 [.ptr 1000 0,.int .i64 fun _=>off] [(1000,ah s i w e)] (.int .u8 fun _=>ad s (i+off)) [(1000,ah s i w e)]:=by
 (refine fB [.tmp 4] SY [] func157 fun _=>?_;repeat' first|exact⟨⟩|apply mA|apply mC<;>intro)
 ·rename_i h;rw[ax zo zo]at h;exact(qe zo).symm
 ·rw[ax zo zo,show((i:Int)+(off:Int)).toNat=i+off by omega];rfl
def mm(s:ByteArray)(i:Nat)(w e p q:Int):Af prog 109 [.ptr 1000 0,.int .i64 fun _=>p,.int .i64 fun _=>q] [(1000,ah s i w e)] (.ag []) [(1000,ah s i (if e=0 then p else w) (if e=0 then q else e))]:=by
 (refine fB [] SZ [] func109 fun _=>?_;repeat' first|exact⟨⟩|apply mA|apply mC<;>intro)
def zX(s:ByteArray)(i:Nat)(w e:Int)(hs:s.size<=1073741824)(hi:i<=s.size)(fn:FuncId)(p:Int->Bool)(hp:∀c,Af prog fn [.int .u8 fun _=>c] [] (.bool fun _=>p c) []):
 Af prog 158 [.ptr 1000 0,.func fn []] [(1000,ah s i w e)] (.str fun _=>s.extract i (bn s p i)) [(1000,ah s (bn s p i) w e)]:=by
 obtain⟨W,hW⟩:∃W,W=bn s p i:=⟨_,rfl⟩
 rw[<- hW]
 (refine fB [.tmp 4] DU [] func158 fun _=>?_;repeat' first|exact⟨⟩|apply mA|apply mC<;>intro)
 refine .loop (fun j:Nat=>⟨50,[(5,.int .i64 fun _=>i),(0,.ptr 1000 0),(1,.func fn [])],[(1000,ah s j w e)]⟩)
  (fun j=>i<=j∧j<=s.size∧W=bn s p j) (fun j=>s.size-j) i ⟨ao _,hi,hW⟩ ?_ fun j E hj=>?_
 ·exact aZ
 obtain⟨j1,j2,j3⟩:=hj;have DV:=hp (ad s j);by_cases q:j<s.size∧p (ad s j)=true
 ·rw[qf q]at j3;rw[q.2]at DV;have q1:=q.1;apply af.wk tF mF [(2,[(21,zO true,[])])] DU ?_
  (refine oA ?_;repeat' first|exact⟨⟩|apply mA|apply mC<;>intro)
  any_goals((with_reducible refine sO (fun _=>?_));exact DV)
  all_goals try exact absurd (‹s.size<=j∨False›.resolve_right id) zo
  (all_goals try first|exact eZ|(refine qC ?_;repeat' first|exact⟨⟩|apply mA))
  refine dE (j+1) ⟨⟨zo,zo,j3⟩,zo⟩ ?_
  (focus(refine aQ ?_;repeat' first|with_reducible apply ai|exact wZ|fail))
  exact aS zo
 ·rw[zY q]at j3;subst j3;apply af.wk tF mF [(2,[(21,.bool fun _=>p (ad s W),[])])] DU ?_
  (refine oA ?_;repeat' first|exact⟨⟩|apply mA|apply mC<;>intro)
  any_goals((with_reducible refine sO (fun _=>?_));exact DV)
  all_goals try exact absurd ‹W<s.size∧p (ad s W)=true› q
  (all_goals try first|exact eZ|(refine qC ?_;repeat' first|exact⟨⟩|apply mA))
  all_goals rfl
theorem zZ{s:ByteArray}:∀n i,i<=s.size->i<=iX s n i∧iX s n i<=s.size
 | 0,i,h=>⟨ao _,h⟩
 | n+1,i,h=>by
  simp only[iX];split
  ·split
   ·have:=zZ (s:=s) n (i+1) zo;omega
   split
   ·have h1:=jv (s:=s) (p:=fun c=>c != 10) h;have:=zZ (s:=s) n (bn s (fun c=>c != 10) i) h1.2;omega
   ·exact⟨ao _,h⟩
  ·exact⟨ao _,h⟩
end Go.Ai

namespace Go.Proofs
open Go.Shelf
def Tryz.S4:Go.Shelf.Ren:=⟨fun|137=>171|217=>225|266=>254|n=>n,fun|9=>9|5=>5|3=>3|n=>n,fun|n=>n⟩
def Tryz.lays137:Go.Proofs.Lays.n137 Tryz.prog Tryz.S4:={
 mixed:=by kernel_rfl
 f137:=Tryz.func171.trans (congrArg some (by kernel_rfl))
 f217:=Tryz.func225.trans (congrArg some (by kernel_rfl))
 f266:=Tryz.func254.trans (congrArg some (by kernel_rfl))
 t3:=Tryz.underlying3
 a3:=Tryz.isAgg3
 z3:=Tryz.sizeOf3
 v3:=Tryz.zeroValue3
 t5:=Tryz.underlying5
 a5:=Tryz.isAgg5
 z5:=Tryz.sizeOf5
 v5:=Tryz.zeroValue5
 t9:=Tryz.underlying9
 a9:=Tryz.isAgg9
 z9:=Tryz.sizeOf9
 v9:=Tryz.zeroValue9 }
def Tryz.S5:Go.Shelf.Ren:=⟨fun|99=>143|206=>196|n=>n,fun|9=>9|4=>4|3=>3|n=>n,fun|n=>n⟩
def Tryz.lays99:Go.Proofs.Lays.n99 Tryz.prog Tryz.S5:={
 mixed:=by kernel_rfl
 f99:=Tryz.func143.trans (congrArg some (by kernel_rfl))
 f206:=Tryz.func196.trans (congrArg some (by kernel_rfl))
 t3:=Tryz.underlying3
 a3:=Tryz.isAgg3
 z3:=Tryz.sizeOf3
 v3:=Tryz.zeroValue3
 t4:=Tryz.underlying4
 a4:=Tryz.isAgg4
 z4:=Tryz.sizeOf4
 v4:=Tryz.zeroValue4
 t9:=Tryz.underlying9
 a9:=Tryz.isAgg9
 z9:=Tryz.sizeOf9
 v9:=Tryz.zeroValue9 }
end Go.Proofs

namespace Go.Ai
open Go Go.Proofs Tryz
set_option maxRecDepth 100000
set_option maxHeartbeats 4000000
def ek(s:ByteArray)(c:Int):Int:=Lib.indexByte s.data.toList c.toNat.toUInt8
def ot(s:ByteArray)(c:Int):Af prog 171 [.str fun _=>s,.int .u8 fun _=>c] [] (.int .i64 fun _=>ek s c) []:=
 Af.pure (vals:=#[.string s,.int .u8 c]) func171 rfl rfl fun w=>Any.strings_IndexByte lays137 s c w
def z6(s:ByteArray)(i:Nat):(s.extract i s.size).data.toList=s.data.toList.drop i:=by
 rw[jh,xZ];simp only[List.extract];exact FJ (by rw[gu,fY];exact ao _)
def qg{s:ByteArray}{i:Nat}(h:i<s.size):∃b:UInt8,s.data.toList.drop i=b::s.data.toList.drop (i+1)∧ad s i=b.toNat:=by
 have h0:i<s.data.size:=h;have h1:i<s.data.toList.length:=by rw[fY];exact h0
 refine⟨s.data.toList[i],iH h1,?_⟩;unfold ad;rw[dC h0,Array.getElem_toList];rfl
theorem JI(s:ByteArray)(c:Nat)(hc:c<256):∀(n i:Nat) (k:Int),s.size-i=n->i<=s.size->k=Lib.indexByte (s.data.toList.drop i) c.toUInt8 ->
 (if k<0 then(s.size:Int)-i else k)=(bn s (fun x=>x != (c:Int)) i:Int)-i ∧ -1<=k
 | 0,i,k,hn,hi,hk=>by
  have:i=s.size:=zo
  subst this;have hd:s.data.toList.drop s.size=[]:=xV.2 (by rw[fY];exact ao _);rw[hd]at hk;have:k = -1:=hk;rw[zY zo,this];simp
 | n+1,i,k,hn,hi,hk=>by
  have hlt:i<s.size:=zo
  obtain⟨b,hb,hbt⟩:=qg hlt;obtain⟨ih,S6⟩:=JI s c hc n (i+1) _ zo zo rfl;rw[hb]at hk;simp only[Lib.indexByte]at hk;generalize Lib.indexByte (s.data.toList.drop (i+1)) c.toUInt8=m at ih S6 hk;have hcn:c.toUInt8.toNat=c:=by rw[Nat.toUInt8,UInt8.toNat_ofNat'];omega
  by_cases q:b=c.toUInt8
  ·have hbc:ad s i=(c:Int):=by rw[hbt,q,hcn]
   rw[ae (by rw[q];exact beq_self_eq_true _)]at hk;rw[zY (by rw[hbc];simp),hk];simp
  ·have hbc:ad s i≠(c:Int):=by
    rw[hbt];intro h;apply q;have h1:b.toNat=c:=by exact_mod_cast h
    exact ji.1 (by rw[h1,hcn])
   rw[aa (by simpa using q)]at hk;rw[qf ⟨hlt,by simpa using hbc⟩];generalize bn s (fun x=>x != (c:Int)) (i+1)=W at ih ⊢;by_cases k1:m = -1
   ·subst k1;rw[ae (by rfl)]at hk;subst hk;rw[ae zd]at ih ⊢;omega
   ·rw[aa (by simpa using k1)]at hk;rw[aa zo]at ih;rw[aa zo];omega
theorem DW{s:ByteArray}:∀n m i,i<=s.size->s.size-i<=n->s.size-i<=m->iX s n i=iX s m i
 | 0,0,_,_,_,_=>rfl
 | 0,m+1,i,hi,h,_=>by simp only[iX];rw[aa zo]
 | n+1,0,i,hi,_,h=>by simp only[iX];rw[aa zo]
 | n+1,m+1,i,hi,h1,h2=>by
  simp only[iX];split
  ·split
   ·exact DW n m (i+1) zo zo zo
   split
   ·rename_i q;have h3:=jv (s:=s) (p:=fun c=>c != 10) hi;have h4:bn s (fun c=>c != 10) i=bn s (fun c=>c != 10) (i+1):=qf ⟨‹_›,by rw[q.1];decide⟩;have h5:=jv (s:=s) (p:=fun c=>c != 10) (i:=i+1) zo;exact DW n m _ h3.2 zo zo
   ·rfl
  ·rfl
def S7{s:ByteArray}{i:Nat}(hi:i<s.size)(h:ad s i=32∨ad s i=9∨ad s i=10):dR s i=dR s (i+1):=by
 unfold dR;obtain⟨n,hn⟩:∃n,s.size-i=n+1:=⟨s.size-i-1,zo⟩
 rw[hn,iX,ae hi,ae h,show s.size-(i+1)=n by omega]
def JJ{s:ByteArray}{i:Nat}(hi:i<s.size)(h:ad s i=47∧ad s (i+1)=47):dR s i=dR s (bn s (fun c=>c != 10) i)∧i<bn s (fun c=>c != 10) i:=by
 have h3:=jv (s:=s) (p:=fun c=>c != 10) (i:=i) zo;have h4:bn s (fun c=>c != 10) i=bn s (fun c=>c != 10) (i+1):=qf ⟨hi,by rw[h.1];decide⟩;have h5:=jv (s:=s) (p:=fun c=>c != 10) (i:=i+1) zo;refine⟨?_,zo⟩;unfold dR;obtain⟨n,hn⟩:∃n,s.size-i=n+1:=⟨s.size-i-1,zo⟩
 rw[hn,iX,ae hi,aa zo,ae h];exact DW _ _ _ h3.2 zo zo
def JK{s:ByteArray}{i:Nat}(h:¬(i<s.size∧((ad s i=32∨ad s i=9∨ad s i=10)∨(ad s i=47∧ad s (i+1)=47)))):dR s i=i:=by
 unfold dR;cases q:s.size-i with
 | zero=>rfl
 | succ n=>
  rw[iX,ae zo,aa (fun k=>h ⟨zo,.inl k⟩),aa (fun k=>h ⟨zo,.inr k⟩)]
def S8(s:ByteArray)(i:Nat)(w e:Int)(hs:s.size<=1073741824)(hi:i<=s.size):Af prog 108 [.ptr 1000 0] [(1000,ah s i w e)] (.ag []) [(1000,ah s (dR s i) w e)]:=by
 obtain⟨W,hW⟩:∃W,W=dR s i:=⟨_,rfl⟩
 rw[<- hW]
 (refine fA [] JL [] func108 fun _=>?_;repeat' first|exact⟨⟩|apply mA|apply mC<;>intro)
 refine .loop (fun j:Nat=>⟨79,[(0,.ptr 1000 0)],[(1000,ah s j w e)]⟩)
  (fun j=>i<=j∧j<=s.size∧W=dR s j) (fun j=>s.size-j) i ⟨ao _,hi,hW⟩ ?_ fun j E hj=>?_
 ·exact aZ
 obtain⟨j1,j2,j3⟩:=hj;have hb1:=d7 s j 1 w e zo zo;have hi:=ot (s.extract j s.size) 10;obtain⟨hx,hx0⟩:=JI s 10 zo _ j _ rfl j2 rfl;rw[<- z6]at hx hx0;have hx':(if ek (s.extract j s.size) 10<0 then(s.size:Int)-j else ek (s.extract j s.size) 10)=(bn s (fun x=>x != 10) j:Int)-j ∧ -1<=ek (s.extract j s.size) 10:=⟨hx,hx0⟩
 clear hx hx0;have hl:=jv (s:=s) (p:=fun x=>x != 10) j2;obtain⟨k,hk⟩:∃k,k=ek (s.extract j s.size) 10:=⟨_,rfl⟩
 obtain⟨L,hL⟩:∃L,L=bn s (fun x=>x != 10) j:=⟨_,rfl⟩
 obtain⟨c,hc⟩:∃c,c=ad s (j+1):=⟨_,rfl⟩
 rw[<- hk]at hi hx';rw[<- hL]at hx' hl;rw[<- hc]at hb1;apply af.wk tF mF [(4,[(4,.int .u8 fun _=>c,[(1000,ah s j w e)])]),(5,[(9,zI k,[])])] JL ?_
 (refine oA ?_;repeat' first|exact⟨⟩|apply mA|apply mC<;>intro)
 any_goals((with_reducible refine sO (fun _=>?_));exact hb1)
 all_goals(try simp only[aF])
 all_goals try exact zB
 (all_goals try first|exact eZ|(refine qC ?_;repeat' first|exact⟨⟩|apply mA))
 ·rename_i q q1;refine dE (j+1) ⟨⟨zo,zo,?_⟩,zo⟩ ?_
  ·rw[j3];exact S7 q (by rcases q1 with(q1|q1)|q1<;>first|exact .inl q1|exact .inr (.inl q1)|exact .inr (.inr q1))
  ·(focus(refine aQ ?_;repeat' first|with_reducible apply ai|exact wZ|fail));exact aS zo
 ·rename_i q _ q1 q2;obtain⟨h1,h2⟩:=JJ q ⟨q1.1,hc▸q1.2⟩;rw[ae q2]at hx';rw[<- hL]at h1 h2;refine dE L ⟨⟨zo,zo,j3.trans h1⟩,zo⟩ ?_
  (focus(refine aQ ?_;repeat' first|with_reducible apply ai|exact wZ|fail))
  rw[ax (x:=(s.size:Int)-j) zo zo,ax zo zo];omega
 ·rename_i q _ q1 q2;obtain⟨h1,h2⟩:=JJ q ⟨q1.1,hc▸q1.2⟩;rw[aa zo]at hx';rw[<- hL]at h1 h2;refine dE L ⟨⟨zo,zo,j3.trans h1⟩,zo⟩ ?_
  (focus(refine aQ ?_;repeat' first|with_reducible apply ai|exact wZ|fail))
  rw[ax zo zo];omega
 ·rename_i _ q1 q2;rw[j3,JK];rintro⟨_,(h|h|h)|⟨h,h'⟩⟩
  ·exact q1.1.1 h
  ·exact q1.1.2 h
  ·exact q1.2 h
  ·rcases q2 with q2|q2
   ·exact q2 h
   ·exact q2 (hc.trans h')
 ·rw[j3,JK (fun h=>zo)]
def bE(t:Tok):AO:=.box (nv fun _=>t)
def Tok.set(t:Tok)(k:Int)(x:ByteArray):Tok:=mk k t.line t.col x t.value t.num t.scale t.joined
def S9(s:ByteArray)(i:Nat)(w e:Int)(t:Tok)(hi:i<=1073741824)(hl:bJ (ad s i)=false):Af prog 104 [.ptr 1000 0,.ptr 1001 0] [(1000,ah s i w e),(1001,bE t)] (.bool fun _=>false) [(1000,ah s i w e),(1001,bE t)]:=by
 have h0:=d7 s i 0 w e hi zo;have h1:=d7 s i 1 w e hi zo;have h2:=DS (ad s i);rw[hl]at h2;obtain⟨c,hc⟩:∃c,c=ad s (i+1):=⟨_,rfl⟩
 rw[<- hc]at h1
 (refine fA [.tmp 4] JM [(1,[(1,.int .u8 fun _=>ad s i,[(1000,ah s i w e)]),(2,zO false,[]),(6,.int .u8 fun _=>ad s i,[(1000,ah s i w e)]),(10,.int .u8 fun _=>c,[(1000,ah s i w e)])])] func104 fun _=>?_;repeat' first|exact⟨⟩|apply mA|apply mC<;>intro)
 all_goals(try simp only[aF])
 all_goals try exact zB
 all_goals try exact zB
 all_goals try exact zB
 (all_goals try first|exact eZ|(refine qC ?_;repeat' first|exact⟨⟩|apply mA))
 ·exact fun h=>by cases h
 ·rename_i h;exact h.1.elim
def Ta(s:ByteArray)(i:Nat)(w e:Int)(t:Tok)(hs:s.size<=1073741824)(hi:i<=s.size)(hl:bJ (ad s i)=true)(hq:¬(ad s i=120∧ad s (i+1)=34))(j:Nat)(hj:j=bn s cx i):
 Af prog 104 [.ptr 1000 0,.ptr 1001 0] [(1000,ah s i w e),(1001,bE t)] (.bool fun _=>true) [(1000,ah s j (if 64<j-i∧e=0 then i else w) (if 64<j-i∧e=0 then 5 else e)),(1001,bE (t.set 1 (s.extract i j)))]:=by
 have h0:=d7 s i 0 w e zo zo;have h1:=d7 s i 1 w e zo zo;have h2:=DS (ad s i);have h3:=zX s i w e hs hi 165 cx DT;have hjl:=jv (s:=s) (p:=cx) hi;rw[<- hj]at h3 hjl;have h4:=mm s j w e i 5;rw[hl]at h2;obtain⟨c,hc⟩:∃c,c=ad s (i+1):=⟨_,rfl⟩
 rw[<- hc]at hq h1;have hx:(s.extract i j).size=j-i:=by rw[dh];omega
 generalize s.extract i j=x at h3 hx ⊢;obtain⟨w2,hw2⟩:∃w2,w2=if 64<j-i∧e=0 then(i:Int)else w:=⟨_,rfl⟩
 obtain⟨e2,he2⟩:∃e2,e2=if 64<j-i∧e=0 then 5 else e:=⟨_,rfl⟩
 rw[<- hw2,<- he2]
 (refine fA [.tmp 4] JM [(1,[(1,.int .u8 fun _=>ad s i,[(1000,ah s i w e)]),(2,zO true,[]),(6,.int .u8 fun _=>ad s i,[(1000,ah s i w e)]),(10,.int .u8 fun _=>c,[(1000,ah s i w e)])]),
   (4,[(3,zR x,[(1000,ah s j w e)])]),(6,[(2,zT,[(1000,ah s j (if e=0 then i else w) (if e=0 then 5 else e))])])] func104 fun _=>?_;repeat' first|exact⟨⟩|apply mA|apply mC<;>intro)
 all_goals(try simp only[aF])
 all_goals try exact zB
 all_goals try exact zB
 all_goals try exact zB
 all_goals try exact zB
 all_goals try exact zB
 all_goals try exact absurd (‹False∨ad s i=120∧c=34›.resolve_left id) hq
 (all_goals try first|exact eZ|(refine qC ?_;repeat' first|exact⟨⟩|apply mA))
 all_goals(try rfl)
def Tb(s:ByteArray)(i:Nat)(w e:Int)(t:Tok)(hi:i<=1073741824)(hq:ad s i≠34):Af prog 106 [.ptr 1000 0,.ptr 1001 0] [(1000,ah s i w e),(1001,bE t)] (.bool fun _=>false) [(1000,ah s i w e),(1001,bE t)]:=by
 have h0:=d7 s i 0 w e hi zo;have h1:ad s (i+0)=ad s i:=rfl;rw[h1]at h0;obtain⟨c,hc⟩:∃c,c=ad s i:=⟨_,rfl⟩
 rw[<- hc]at hq h0
 (refine fA [.tmp 4] jw [(1,[(1,.int .u8 fun _=>c,[(1000,ah s i w e)])])] func106 fun _=>?_;repeat' first|exact⟨⟩|apply mA|apply mC<;>intro)
 all_goals(try simp only[aF])
 all_goals try exact zB
 all_goals try exact absurd ‹c=34› hq
 all_goals exact eZ
def Tc(s:ByteArray)(i:Nat)(w e:Int)(t:Tok)(hi:i<=1073741824)(hq:¬(ad s i=120∧ad s (i+1)=34)):Af prog 103 [.ptr 1000 0,.ptr 1001 0] [(1000,ah s i w e),(1001,bE t)] (.bool fun _=>false) [(1000,ah s i w e),(1001,bE t)]:=by
 have h0:=d7 s i 0 w e hi zo;have h1:=d7 s i 1 w e hi zo;have h2:ad s (i+0)=ad s i:=rfl;rw[h2]at h0;obtain⟨c,hc⟩:∃c,c=ad s i:=⟨_,rfl⟩
 obtain⟨c1,hc1⟩:∃c,c=ad s (i+1):=⟨_,rfl⟩
 rw[<- hc]at hq h0;rw[<- hc1]at hq h1
 (refine fA [.tmp 4] oy [(1,[(1,.int .u8 fun _=>c,[(1000,ah s i w e)]),(5,.int .u8 fun _=>c1,[(1000,ah s i w e)])])] func103 fun _=>?_;repeat' first|exact⟨⟩|apply mA|apply mC<;>intro)
 all_goals(try simp only[aF])
 all_goals try exact zB
 all_goals try exact zB
 all_goals try exact absurd ‹c=120∧c1=34› hq
 all_goals exact eZ
def dp(s p:ByteArray):Bool:=Lib.hasPrefix s.data.toList p.data.toList
def DX(s p:ByteArray):Af prog 143 [.str fun _=>s,.str fun _=>p] [] (.bool fun _=>dp s p) []:=
 Af.pure (vals:=#[.string s,.string p]) func143 rfl rfl fun w=>Any.strings_HasPrefix lays99 s p w
def dG(k:Nat):ByteArray:=vu [.str fun _=>⟨#[45,62]⟩,.str fun _=>⟨#[33,61]⟩,.str fun _=>⟨#[60,61]⟩,.str fun _=>⟨#[62,61]⟩,.str fun _=>⟨#[46,46]⟩] k
def ones:ByteArray:=⟨#[40,41,123,125,91,93,60,62,61,58,59,44,46,63,43,45,42,38,64,124]⟩
theorem Td:∀{j:Nat},j<5->(dG j).size=2
 | 0,_=>rfl
 | 1,_=>rfl
 | 2,_=>rfl
 | 3,_=>rfl
 | 4,_=>rfl
 | _+5,h=>zo
def DY(s:ByteArray)(i:Nat)(w e:Int)(t:Tok)(hs:s.size<=1073741824)(hi:i<s.size)(k:Nat)(hk:k<=5)(hb:∀j,j<k->dp (s.extract i s.size) (dG j)=false)
 (r:Bool) (at2:Nat) (t2:Tok)
 (hr:(k<5∧dp (s.extract i s.size) (dG k)=true∧r=true∧at2=i+2∧t2=t.set 5 (dG k))∨(k=5∧((ek ones (ad s i)<0∧r=false∧at2=i∧t2=t)∨(0<=ek ones (ad s i)∧r=true∧at2=i+1∧t2=t.set 5 (s.extract i (i+1)))))):
 Af prog 107 [.ptr 1000 0,.ptr 1001 0] [(1000,ah s i w e),(1001,bE t)] (.bool fun _=>r) [(1000,ah s at2 w e),(1001,bE t2)]:=by
 have key:∀j,dp (s.extract i s.size) (dG j)=false->Af prog 143 [.str fun _=>s.extract i s.size,.str fun _=>dG j] [] (.bool fun _=>false) []:=fun j h=>h▸DX _ _;have Te:∀j,dp (s.extract i s.size) (dG j)=true->Af prog 143 [.str fun _=>s.extract i s.size,.str fun _=>dG j] [] (.bool fun _=>true) []:=fun j h=>h▸DX _ _;have hx:=ot ones (ad s i);obtain⟨z,hz⟩:∃z,z=ek ones (ad s i):=⟨_,rfl⟩
 rw[<- hz]at hr hx
 (refine fB [.tmp 4] z7 [(9,[(9,zI z,[])])] func107 fun _=>?_;repeat' first|exact⟨⟩|apply mA|apply mC<;>intro)
 refine .loop (fun j:Nat=>⟨77,[(8,.int .i64 fun _=>j),(7,.agg [.str fun _=>⟨#[45,62]⟩,.str fun _=>⟨#[33,61]⟩,.str fun _=>⟨#[60,61]⟩,.str fun _=>⟨#[62,61]⟩,.str fun _=>⟨#[46,46]⟩]),(0,.ptr 1000 0),(1,.ptr 1001 0)],[(1000,ah s i w e),(1001,bE t)]⟩)
  (fun j=>j<=k) (fun j=>5-j) 0 (aB _) ?_ fun j E hj=>?_
 ·exact aZ
 by_cases q:j=5
 ·subst q;have hk5:k=5:=by omega
  obtain⟨h1,_⟩|⟨_,hr⟩:=hr
  ·omega
  clear hb hj;subst hk5;apply af.wk tF mF [] z7 ?_
  (refine oA ?_;repeat' first|exact⟨⟩|apply mA|apply mC<;>intro)
  all_goals try exact zB
  all_goals try exact absurd ‹((5:Nat):Int)<5› zd
  (all_goals try first|exact eZ|(refine qC ?_;repeat' first|exact⟨⟩|apply mA))
  all_goals first
   | (rcases hr with⟨_,rfl,rfl,rfl⟩|⟨hz1,_⟩
      ·rfl
      ·exact absurd ‹z<0› zo)
   | (rcases hr with⟨hz1,_⟩|⟨_,rfl,rfl,rfl⟩
      ·exact absurd ‹0<=z› zo
      ·first|rfl|exact aS zo|(rw[aS zo];rfl))
 by_cases q1:j<k
 ·have hf:=hb j q1;have hc:=key j hf;apply af.wk tF mF [(4,[(10,zO false,[])])] z7 ?_
  (refine oA ?_;repeat' first|exact⟨⟩|apply mA|apply mC<;>intro)
  all_goals try exact zB
  all_goals try exact zB
  all_goals try exact absurd ‹5<=(j:Int)› zo
  (all_goals try first|exact eZ|(refine qC ?_;repeat' first|exact⟨⟩|apply mA))
  refine dE (j+1) ⟨zo,zo⟩ ?_
  (focus(refine aQ ?_;repeat' first|with_reducible apply ai|exact wZ|fail))
  exact aS zo
 ·obtain rfl:j=k:=by omega
  obtain⟨h1,h2,h3,h4,h5⟩|⟨_,hr⟩:=hr
  ·have hc:=Te j h2;apply af.wk tF mF [(4,[(10,zO true,[])])] z7 ?_
   (refine oA ?_;repeat' first|exact⟨⟩|apply mA|apply mC<;>intro)
   all_goals try exact zB
   all_goals try exact zB
   all_goals try exact absurd ‹5<=(j:Int)› zo
   (all_goals try first|exact eZ|(refine qC ?_;repeat' first|exact⟨⟩|apply mA))
   all_goals first
    | exact h3.symm
    | (rw[h5];rfl)
    | (rw[h4]
       show IntKind.i64.wrap ((i:Int)+((dG j).size:Int))=_;rw[Td h1,ax zo zo];rfl)
  ·omega
def Tok.DZ(t:Tok)(x:ByteArray)(n sc:Int):Tok:=mk 2 t.line t.col x t.value n sc t.joined
def Tf(s:ByteArray)(i:Nat)(w e:Int)(t:Tok)(hi:i<=1073741824)(hl:bD (ad s i)=false):Af prog 105 [.ptr 1000 0,.ptr 1001 0] [(1000,ah s i w e),(1001,bE t)] (.bool fun _=>false) [(1000,ah s i w e),(1001,bE t)]:=by
 have h0:=d7 s i 0 w e hi zo;have h2:=rD (ad s i);rw[hl]at h2
 (refine fA [.tmp 4] rF [(1,[(1,.int .u8 fun _=>ad s i,[(1000,ah s i w e)]),(2,zO false,[])])] func105 fun _=>?_;repeat' first|exact⟨⟩|apply mA|apply mC<;>intro)
 all_goals try exact zB
 all_goals try exact zB
 all_goals exact eZ
def iy(f:FuncId)(s:ByteArray)(i:Nat)(w e:Int)(t:Tok)(r:Bool)(i':Nat)(w' e':Int)(t':Tok):Prop:=
 Af prog f [.ptr 1000 0,.ptr 1001 0] [(1000,ah s i w e),(1001,bE t)] (.bool fun _=>r) [(1000,ah s i' w' e'),(1001,bE t')]
def JN{f:FuncId}{s:ByteArray}{i i':Nat}{w e w' e':Int}{t t':Tok}{r:Bool}(h:iy f s i w e t r i' w' e' t'):
 Af prog 111 [.a8 f 1000,.ptr 1001 0] [(1000,ah s i w e),(1001,bE t)] (.bool fun _=>r) [(1000,ah s i' w' e'),(1001,bE t')]:=by
 unfold iy at h
 (refine fA [.tmp 3] Tg [(1,[(1,zO r,[(1000,ah s i' w' e'),(1001,bE t')])])] func111 fun _=>?_;repeat' first|exact⟨⟩|apply mA|apply mC<;>intro)
 all_goals try exact zB
 all_goals try exact eZ
 all_goals trace_state
end Go.Ai
