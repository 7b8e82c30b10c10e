/- Chapter 4: copies. -/
import Derived.Test.YtbagpkiomjlhkaaGreatDoorValA
import Derived.Shelf.Small.Bits
import Derived.Shelf.Small.Strs
import Derived.Shelf.Small.Wraps
import Derived.Shelf.Strconv.Itoa0
import Derived.Ground.Names2Prog
import Derived.Shelf.Slices.SearchI
import Derived.Test.YtbagpkiomjlhkaaGreatDoorProg
import Derived.Test.YtbagpkiomjlhkaaGreatDoorFnD
import Derived.Test.YtbagpkiomjlhkaaGreatDoorRows
import Derived.Deep.Slices
set_option linter.all false
namespace Go.Ai
open Go Go.Proofs Tryz
set_option maxRecDepth 100000
set_option maxHeartbeats 4000000
end Go.Ai

namespace Go.Proofs
open Go.Shelf
def Tryz.Rs:Go.Shelf.Ren:=⟨fun|106=>178|213=>231|265=>255|n=>n,fun|9=>9|3=>3|n=>n,fun|n=>n⟩
def Tryz.lays106:Go.Proofs.Lays.n106 Tryz.prog Tryz.Rs:={
 mixed:=by kernel_rfl
 f106:=Tryz.func178.trans (congrArg some (by kernel_rfl))
 f213:=Tryz.func231.trans (congrArg some (by kernel_rfl))
 f265:=Tryz.func255.trans (congrArg some (by kernel_rfl))
 t3:=Tryz.underlying3
 a3:=Tryz.isAgg3
 z3:=Tryz.sizeOf3
 v3:=Tryz.zeroValue3
 t9:=Tryz.underlying9
 a9:=Tryz.isAgg9
 z9:=Tryz.sizeOf9
 v9:=Tryz.zeroValue9 }
open Go.RowKit in
def Tryz.strings_Compare(a b:ByteArray)(w:World):
 Calls Tryz.prog 178 #[.string a,.string b] w fun e w'=>e=.returned (.int .i64 (Lib.compareBytes a.data.toList b.data.toList))∧w'=w:=Any.strings_Compare Tryz.lays106 a b w
end Go.Proofs

namespace Go.Ai
open Go Go.Proofs Tryz
set_option maxRecDepth 100000
set_option maxHeartbeats 4000000
def wy(a b:ByteArray):Int:=Lib.compareBytes a.data.toList b.data.toList
def rh(x y:Int):Int:=if x<y then -1 else if y<x then 1 else 0
def II(a b:ByteArray):Af prog 178 [.str fun _=>a,.str fun _=>b] [] (.int .i64 fun _=>wy a b) []:=
 Af.pure (vals:=#[.string a,.string b]) func178 rfl rfl (Tryz.strings_Compare a b)
def Rt(n:Int):Af prog 230 [.int .i64 fun _=>n] [] (.bool fun _=>false) []:=by
 (refine fB [.tmp 2] Ru [] func230 fun _=>?_;repeat' first|exact⟨⟩|apply mA|apply mC<;>intro)
 ((((try simp only[nc,cl]at*)<;>(try rw[mQ]))<;>(try simp only[bl,uU,uV,uW,uX,qc,qd,mT,gr]at*))<;>(first|omega|grind))
def QN(x y:Int):Af prog 177 [.int .i64 fun _=>x,.int .i64 fun _=>y] [] (.int .i64 fun _=>rh x y) []:=by
 (apply Af.of tF mF [.tmp 4] Rv [(1,[(1,.bool (fun _=>?_),[])]),(2,[(1,.bool (fun _=>?_),[])])] func177 (fun _=>?_);(repeat' with_reducible first|exact nY|refine oC ?_ ?_|refine vQ ?_ ?_ ?_|refine cV (fun _=>?_) fun _=>?_|refine wQ ?_|fail))
 (any_goals((with_reducible refine bZ ?_)<;>exact(Rt _)))
 (all_goals try first|exact eZ|with_reducible (refine rQ ?_;repeat' first|apply ai|exact wZ)|(refine sQ ?_;repeat' first|with_reducible apply ai|exact cZ))
 all_goals(try simp only[rh]);((try simp only[nc,cl]at*)<;>grind)
def lE:List Int->Int
 | []=>0
 | a::r=>if a≠0 then a else lE r
theorem IZ(a:Int):∀l:List Int,lE (l++[a])=if lE l≠0 then lE l else a
 | []=>by
  simp only[AZ,lE];by_cases h:a=0
  ·simp[h]
  ·simp[h]
 | b::r=>by
  simp only[pg,lE,IZ a r];split<;>simp_all
def QH(l:List Int):fI (fun i=>l.getD i 0) l.length=lE l:=by
 have:∀k,k<=l.length->fI (fun i=>l.getD i 0) k=lE (l.take k):=by
  intro k
  induction k with
  | zero=>intro _;simp[fI,lE]
  | succ k ih=>
   intro hk;have hg:l.getD k 0=l[k]:=by simp[List.getD,show k<l.length by omega]
   rw[FH zo,IZ,<- ih zo,<- hg];rfl
 simpa using this l.length (ao _)
def iS{α β:Type}(c:α->β->Int):List α->List β->Int
 | [],[]=>0
 | [],_::_ => -1
 | _::_,[]=>1
 | a::l,b::m=>if c a b≠0 then c a b else iS c l m
def zC{α β:Type}{c:α->β->Int}{l:List α}{m:List β}{i:Nat}(h1:i<l.length)(h2:i<m.length)(da:α)(db:β):
 iS c (l.drop i) (m.drop i)=if c (l.getD i da) (m.getD i db)≠0 then c (l.getD i da) (m.getD i db)else iS c (l.drop (i+1)) (m.drop (i+1)):=by
 rw[iH h1,iH h2];simp only[iS,List.getD,bf h1,bf h2,qF]
def IG{α β:Type}{c:α->β->Int}{l:List α}{m:List β}{i:Nat}(h1:i<l.length)(h2:m.length<=i):iS c (l.drop i) (m.drop i)=1:=by
 rw[iH h1,xV.2 h2];rfl
def zD{α β:Type}{c:α->β->Int}{l:List α}{m:List β}{i:Nat}(h1:l.length<=i)(hi:i<=m.length)(hl:i=l.length):iS c (l.drop i) (m.drop i)=if l.length<m.length then -1 else 0:=by
 rw[xV.2 h1];by_cases h:i<m.length
 ·rw[iH h,ae zo];rfl
 ·rw[xV.2 zo,aa zo];rfl
def oq(d:Nat)(x:ByteArray×V):List AV:=.str (fun _=>x.1)::cells d .any fun _=>x.2
def ww(c:V->V->Int)(x y:ByteArray×V):Int:=lE [wy x.1 y.1,c x.2 y.2]
def kT:Nat->V->V->Int
 | 0,_,_=>0
 | d+1,a,b=>lE [rh a.kind b.kind,rh a.int b.int,rh a.scale b.scale,wy a.text b.text,iS (kT d) a.list b.list,iS (ww (kT d)) a.fields b.fields]
def iI{α:Type}(p:α->Bool)(l:List α):Int:=if l.findIdx p<l.length then(l.findIdx p:Int)else -1
def Rw(v:V)(s:ByteArray):Int:=iI (fun x:ByteArray×V=>decide (x.1=s)) v.fields
def Rx(v:V)(s:ByteArray):Prop:=v.kind=9∧0<=Rw v s
instance (v:V)(s:ByteArray):Decidable (Rx v s):=inferInstanceAs (Decidable (_∧_))
def Dx(a:ByteArray):a.data.toList.length=a.size:=fY ..
end Go.Ai

namespace Go.Ai
open Go Go.Proofs Go.Proofs.YtbagpkiomjlhkaaGreatDoor Go.RowKit Go.Lib Tryz
set_option maxRecDepth 100000
section
variable {H:Type}
def zF(d:DataW H):1<=Rows.uptoBulk d:=by
 cases d with
 | lit l=>cases l<;>simp[Rows.uptoBulk]
 | nil=>simp[Rows.uptoBulk]
 | ptr d=>simp[Rows.uptoBulk]
 | slice elems spare=>simp[Rows.uptoBulk]
 | agg parts=>simp[Rows.uptoBulk]
 | iface t d=>simp[Rows.uptoBulk]
 | map entries=>simp[Rows.uptoBulk]
 | held h=>simp[Rows.uptoBulk]
theorem Dy{d:DataW H}:∀{l:List (DataW H)},d∈l->Rows.uptoBulk d<=Rows.uptoBulkAll l
 | x::r,h=>by
  simp only[Rows.uptoBulkAll];rcases bW.1 h with e|e
  ·subst e;omega
  ·have:=Dy e;omega
theorem wG:∀(l:List (DataW H)),l.length<=Rows.uptoBulkAll l
 | []=>zsi
 | x::r=>by have:=zF x;have:=wG r;simp only[Rows.uptoBulkAll,bp];omega
theorem Dz{α:Type}(f:α->Nat)(D:α->DataW H):∀(l:List α),(∀i∈l,f i<=Rows.uptoBulk (D i))->(l.map f).sum<=Rows.uptoBulkAll (l.map D)
 | [],_=>zsi
 | x::r,h=>by
  have:=h x (dJ ..);have:=Dz f D r fun i hi=>h i (cH _ hi);simp only[fZ,sH,Rows.uptoBulkAll];omega
def wH(w:World)(B:Nat)(row:List AV)(cs:List Value):Prop:=cs.length=row.length∧∀(j:Nat) (av:AV) (v:Value),row[j]? = some av->cs[j]? = some v->RD w (fun b=>b<w.heap.size) B av v
def I0{w:World}{a:Addr}{n:Nat}{cs:List Value}(h:w.cells? 0 a n=some cs):cs.length=n∧∀j,j<n->∃v,cs[j]? = some v∧w.cell? (a.add j)=some v:=by
 unfold World.cells? at h;rw[ae (aB _)]at h;have hl:cs.length=n:=by simpa using mapM_some_length h
 refine⟨hl,fun j hj=>?_⟩;have:=mapM_some_get h j j (by simp[hj]);rw[bf zo]at this ⊢;exact⟨_,rfl,this⟩
def zG{α:Type}[Inhabited α]{w:World}{B:Nat}{enc:TypeId×Value->H}{t e:TypeId}{k M fuel:Nat}(ht:prog.underlying t=some (.slice e))(hk:prog.cellsOf e=k)(k0:0<k)(row:α->List AV)(hrow:∀x,(row x).length=k∧(row x).all AV.cell=true)
 {P:α->DataW H->Prop} (hel:∀(f:Nat) (cs:List Value) (z:DataW H×List MemPlace),Rows.uptoBulk z.1<M->DataW.trod enc prog w 0 (fun _=>true) true f e cs=some z->∃x,P x z.1∧wH w B (row x) cs)
 {cs:List Value} {z:DataW H×List MemPlace} (hM:Rows.uptoBulk z.1<=M) (h:DataW.trod enc prog w 0 (fun _=>true) true fuel t cs=some z):
 ∃(l:List α) (D:Nat->DataW H) (v:Value),cs=[v]∧(∀i,i<l.length->P (l.getD i default) (D i))∧Rows.uptoBulkAll ((List.range l.length).map D)+1<=Rows.uptoBulk z.1 ∧
  RD w (fun b=>b<w.heap.size) B (.slc .any k (fun _=>l.length) fun i=>row (l.getD (i ()) default)) v:=by
 rcases Go.Deep.open_slice ht h with⟨rfl,rfl⟩|⟨a,len,cap,m,n,D,Pl,rfl,_,hlc,hcm,hm,rfl,hall⟩
 ·exact⟨[],fun _=>.nil,_,rfl,fun i hi=>absurd hi (uO _),by simp[Rows.uptoBulk,Rows.uptoBulkAll],.empty _ _ _ _ none 0 rfl (aB _)⟩
 ·simp only[bC]at hm;subst hm;have hb:Rows.uptoBulkAll ((List.range len).map D)+1<=Rows.uptoBulk (DataW.slice ((List.range len).map D) ((List.range (m-len)).map fun j=>D (len+j))):=by simp only[Rows.uptoBulk];omega
  have hx:∀i,i<len->∃x,P x (D i)∧∃cs',wH w B (row x) cs'∧w.cells? 0 (a.add (i*k)) k=some cs':=fun i hi=>by
   obtain⟨cs',h1,h2⟩:=hall i zo;rw[hk]at h1;have hlt:Rows.uptoBulk (D i)<M:=by
    have:=Dy (gG.2 ⟨i,qK.2 hi,rfl⟩:D i∈(List.range len).map D);simp only at hM;omega
   obtain⟨x,p,r⟩:=hel n cs' (D i,Pl i) hlt h2;exact⟨x,p,cs',r,h1⟩
  obtain⟨X,hX⟩:=Go.Deep.choose_lt hx;have hl:((List.range len).map X).length=len:=zsi
  have hg:∀i,i<len->((List.range len).map X).getD i default=X i:=fun i hi=>by simp[List.getD,hi]
  refine⟨(List.range len).map X,D,_,rfl,fun i hi=>?_,by rw[hl];exact hb,?_⟩
  ·rw[hl]at hi;rw[hg i hi];exact(hX i hi).1
  ·rcases sF len with h0|h0
   ·subst h0;exact .empty _ _ _ _ (some a) m zsi hcm
   ·obtain⟨b,o,spot⟩:=a;have hspot:spot=none:=by
     obtain⟨_,cs',_,hc⟩:=hX 0 h0;obtain⟨v,_,hv⟩:=(I0 hc).2 0 k0;obtain⟨_,_,_,_,h⟩:=World.shape?_of_cell? hv;simpa[Addr.add]using h
    subst hspot;have hcell:∀i,i<len->∃cs',wH w B (row (X i)) cs'∧cs'.length=k∧∀j,j<k->∃v,cs'[j]? = some v∧w.cell? ⟨b,o+(i*k+j),none⟩=some v:=fun i hi=>by
     obtain⟨_,cs',r,hc⟩:=hX i hi;obtain⟨q1,q2⟩:=I0 hc;refine⟨cs',r,q1,fun j hj=>?_⟩;obtain⟨v,h1,h2⟩:=q2 j hj;refine⟨v,h1,?_⟩;rw[li,li,ik]at h2;exact h2
    have hD:b<w.heap.size:=by
     obtain⟨cs',_,_,q⟩:=hcell 0 h0;obtain⟨v,_,hv⟩:=q 0 k0;exact block_lt_of_cell hv
    have hdiv:∀q,q<len*k->q/k<len∧q%k<k∧q/k*k+q%k=q:=fun q hq=>
     ⟨by rw[Nat.div_lt_iff_lt_mul k0];exact hq,xQ _ k0,by rw[Nat.mul_comm];exact Nat.div_add_mod q k⟩
    have DA:∀q,q<len*k->∃v,w.cell? ⟨b,o+q,none⟩=some v:=fun q hq=>by
     obtain⟨d1,d2,d3⟩:=hdiv q hq;obtain⟨cs',_,_,h⟩:=hcell _ d1;obtain⟨v,_,hv⟩:=h _ d2;rw[d3]at hv;exact⟨v,hv⟩
    obtain⟨c,hc⟩:∃c:Nat->Value,∀q,q<len*k->w.cell? ⟨b,o+q,none⟩=some (c q):=by
     haveI:Inhabited Value:=⟨undef⟩
     exact Go.Deep.choose_lt DA
    have key:RD w (fun b=>b<w.heap.size) B (.slc .any k (fun _=>((List.range len).map X).length) fun i=>row (((List.range len).map X).getD (i ()) default)) (.slice (some ⟨b,o,none⟩) ((List.range len).map X).length m):=by
     refine .slc .any k (fun _=>((List.range len).map X).length) _ b o m c (by show((List.range len).map X).length<=m;rw[hl];exact hlc) hcm hD trivial (fun q hq=>hc q (by simpa[hl]using hq)) (fun i _=>(hrow _).1) (fun i _=>(hrow _).2) (fun i j av hi hj=>?_);have hi2:i<len:=by simpa using hi
     simp only[hg i hi2]at hj;have hj2:j<k:=by have:=(bX.1 hj).1;rw[(hrow _).1]at this;exact this
     obtain⟨cs',⟨_,r⟩,_,h⟩:=hcell i hi2;obtain⟨v,h1,h2⟩:=h j hj2;have hlt:i*k+j<len*k:=by
      have:(i+1)*k<=len*k:=gE _ hi2;rw[fc]at this;omega
     rw[hc _ hlt]at h2;cases h2;exact r j av _ hj h1
    rw[hl]at key;rw[hl];exact key
end
def I1(d:Nat)(x:V):(cells d .any fun _=>x).length=6∧(cells d .any fun _=>x).all AV.cell=true:=⟨rfl,rfl⟩
def Ry(d:Nat)(x:ByteArray×V):(oq d x).length=7∧(oq d x).all AV.cell=true:=⟨rfl,rfl⟩
section
variable {H:Type}
def lS{α:Type}{l:List α}{n:Nat}(h:l.length=n+1):∃a r,l=a::r∧r.length=n:=by
 cases l with
 | nil=>cases h
 | cons a r=>exact⟨a,r,rfl,by simpa using h⟩
def I2{α β:Type}[Inhabited α](l:List α)(f:α->β):(List.range l.length).map (fun i=>f (l.getD i default))=l.map f:=by
 refine FA zsi fun i h1 h2=>?_;have:i<l.length:=by simpa using h2
 simp[List.getD,this]
def ia:Nat->V->Nat
 | 0,_=>0
 | d+1,v=>1+(v.list.map (ia d)).sum+(v.fields.map fun x=>ia d x.2).sum
theorem DB{w:World}{B:Nat}{enc:TypeId×Value->H}:∀(M fuel:Nat) (cs:List Value) (z:DataW H×List MemPlace),Rows.uptoBulk z.1<=M->M<=1048576->DataW.trod enc prog w 0 (fun _=>true) true fuel 56 cs=some z ->
 ∃x:V,(V.le M x∧ia M x<=Rows.uptoBulk z.1)∧wH w B (cells M .any fun _=>x) cs
 | 0,fuel,cs,z,h,_,_=>by have:=zF z.1;omega
 | M+1,fuel,cs,z,h,hM,ht=>by
  obtain⟨xs,n,rfl,hz,hl,hxl,hf⟩:=DataW.trod_struct underlying56 ht;have rm:prog.cellsOf 56=6:=zk
  have c3:prog.cellsOf 3=1:=zk
  have c9:prog.cellsOf 9=1:=zk
  have wJ:prog.cellsOf 22=1:=zk
  have c23:prog.cellsOf 54=1:=zk
  have I3:prog.cellsOf 173=7:=zk
  rw[rm]at hl;obtain⟨x0,r0,rfl,l0⟩:=lS (n:=5) (l:=xs) (by simpa using hxl);obtain⟨x1,r1,rfl,l1⟩:=lS l0;obtain⟨x2,r2,rfl,l2⟩:=lS l1;obtain⟨x3,r3,rfl,l3⟩:=lS l2;obtain⟨x4,r4,rfl,l4⟩:=lS l3;obtain⟨x5,r5,rfl,l5⟩:=lS l4;obtain rfl:=qH l5;obtain⟨v0,s0,rfl,m0⟩:=lS hl;obtain⟨v1,s1,rfl,m1⟩:=lS m0;obtain⟨v2,s2,rfl,m2⟩:=lS m1;obtain⟨v3,s3,rfl,m3⟩:=lS m2;obtain⟨v4,s4,rfl,m4⟩:=lS m3;obtain⟨v5,s5,rfl,m5⟩:=lS m4;obtain rfl:=qH m5;have f0:=hf 0 _ rfl;have f1:=hf 1 _ rfl;have f2:=hf 2 _ rfl;have f3:=hf 3 _ rfl;have f4:=hf 4 _ rfl;have f5:=hf 5 _ rfl;simp only[c3,c9,wJ,c23,xO,List.drop_succ_cons,List.take_succ_cons,List.take_zero,pd,xP]at f0 f1 f2 f3 f4 f5;obtain⟨a0,e0,_,_⟩:=Bg underlying3 f0;obtain⟨a1,e1,_,_⟩:=Bg underlying3 f1;obtain⟨a2,e2,_,_⟩:=Bg underlying3 f2;obtain⟨a3,e3,hx3,_⟩:=FI underlying9 f3;cases e0;cases e1;cases e2;cases e3;have hb:Rows.uptoBulk z.1=Rows.uptoBulkAll [x0.1,x1.1,x2.1,x3.1,x4.1,x5.1]+1:=by rw[hz];simp[Rows.uptoBulk]
  simp only[Rows.uptoBulkAll]at hb;have Zt:Rows.uptoBulk x3.1=a3.size+1:=by rw[hx3];simp[Rows.uptoBulk,Dx]
  obtain⟨l,D,vl,el,hP,hbl,hrl⟩:=zG (M:=M) (B:=B) underlying22 rm zo (fun x=>cells M .any fun _=>x) (I1 M) (P:=fun x d=>V.le M x∧ia M x<=Rows.uptoBulk d)
   (fun f cs z hz ht=>DB M f cs z zo zo ht) zo f4
  obtain⟨fl,D2,vf,ef,hP2,hbf,hrf⟩:=zG (M:=M) (B:=B) underlying54 I3 zo (fun x=>oq M x) (Ry M) (P:=fun x d=>x.1.size<=1048576∧V.le M x.2∧ia M x.2<=Rows.uptoBulk d)
   (fun f cs z hz ht=>by
     obtain⟨xs,n,rfl,hz2,hl,hxl,hf⟩:=DataW.trod_struct underlying173 ht;rw[I3]at hl;obtain⟨x0,r0,rfl,l0⟩:=lS (n:=1) (l:=xs) (by simpa using hxl);obtain⟨x1,r1,rfl,l1⟩:=lS l0;obtain rfl:=qH l1;obtain⟨v0,s0,rfl,m0⟩:=lS hl;have f0:=hf 0 _ rfl;have f1:DataW.trod enc prog w 0 (fun _=>true) true n 56 (List.take (prog.cellsOf 56) (List.drop 1 (v0::s0)))=some x1:=hf 1 _ rfl;simp only[c9,xO,List.take_succ_cons,List.take_zero,pd]at f0;rw[rm,List.drop_succ_cons,xO,FJ (uK m0)]at f1;obtain⟨t,e0,ht0,_⟩:=FI underlying9 f0;cases e0;have hb:Rows.uptoBulk z.1=Rows.uptoBulkAll [x0.1,x1.1]+1:=by rw[hz2];simp[Rows.uptoBulk]
     simp only[Rows.uptoBulkAll]at hb;have htb:Rows.uptoBulk x0.1=t.size+1:=by rw[ht0];simp[Rows.uptoBulk,Dx]
     obtain⟨x,⟨q1,q2⟩,q3,q4⟩:=DB M n s0 x1 zo zo f1;refine⟨(t,x),⟨by simp only;omega,q1,by simp only;omega⟩,?_,?_⟩
     ·show s0.length+1=(cells M .any fun _=>x).length+1;rw[q3]
     ·intro j av v h1 h2;cases j with
      | zero=>simp[oq]at h1 h2;subst h1;subst h2;exact .str _
      | succ j=>exact q4 j av v (by simpa[oq]using h1) (by simpa using h2)) zo f5
  cases el;cases ef;have hle1:∀x∈l,V.le M x∧ia M x<=1048576:=fun x hx=>by
   obtain⟨i,hi,rfl⟩:=sD hx;have:=hP i hi;rw[show l.getD i default=l[i] by simp[List.getD,hi]]at this;have hb2:=Dy (gG.2 ⟨i,qK.2 hi,rfl⟩:D i∈(List.range l.length).map D);exact⟨this.1,zo⟩
  have hle2:∀x∈fl,x.1.size<=1048576∧V.le M x.2:=fun x hx=>by
   obtain⟨i,hi,rfl⟩:=sD hx;have:=hP2 i hi;rw[show fl.getD i default=fl[i] by simp[List.getD,hi]]at this;exact⟨this.1,this.2.1⟩
  have hll:l.length<=Rows.uptoBulkAll ((List.range l.length).map D):=by have:=wG ((List.range l.length).map D);simpa using this
  have hfl:fl.length<=Rows.uptoBulkAll ((List.range fl.length).map D2):=by have:=wG ((List.range fl.length).map D2);simpa using this
  have hs1:(l.map (ia M)).sum<=Rows.uptoBulkAll ((List.range l.length).map D):=by
   have:=Dz (fun i=>ia M (l.getD i default)) D (List.range l.length) fun i hi=>(hP i (qK.1 hi)).2
   rwa [show(List.range l.length).map (fun i=>ia M (l.getD i default))=l.map (ia M)from I2 l (ia M)]at this
  have hs2:(fl.map fun x=>ia M x.2).sum<=Rows.uptoBulkAll ((List.range fl.length).map D2):=by
   have:=Dz (fun i=>ia M (fl.getD i default).2) D2 (List.range fl.length) fun i hi=>(hP2 i (qK.1 hi)).2.2
   rwa [show(List.range fl.length).map (fun i=>ia M (fl.getD i default).2)=fl.map (fun x=>ia M x.2)from I2 fl (fun x=>ia M x.2)]at this
  refine⟨.mk a0 a1 a2 a3 l fl,⟨⟨by simp only[V.list];omega,by simp only[V.fields];omega,by simp only[V.text];omega,fun x hx=>(hle1 x hx).1,fun x hx=>⟨by have:=(hle2 x hx).1;omega,(hle2 x hx).2⟩⟩,?_⟩,rfl,?_⟩
  ·have p0:=zF x0.1;show 1+(l.map (ia M)).sum+(fl.map fun x=>ia M x.2).sum<=_;omega
  ·intro j av v h1 h2
   match j with
   | 0=>simp[cells,nq]at h1 h2;subst h1;subst h2;exact .int _ _
   | 1=>simp[cells,nq]at h1 h2;subst h1;subst h2;exact .int _ _
   | 2=>simp[cells,nq]at h1 h2;subst h1;subst h2;exact .int _ _
   | 3=>simp[cells,nq]at h1 h2;subst h1;subst h2;exact .str _
   | 4=>simp[cells,nq]at h1 h2;subst h1;subst h2;exact hrl
   | 5=>simp[cells,nq]at h1 h2;subst h1;subst h2;exact hrf
   | n+6=>simp[cells,nq]at h1
end
end Go.Ai
