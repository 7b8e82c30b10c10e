/- Chapter 17: paths: what is read. -/
import Derived.Test.YtbagpkiomjlhkaaGreatDoorRdD
set_option linter.all false
namespace Go.Ai
open Go Go.Proofs Tryz
set_option maxRecDepth 100000
set_option maxHeartbeats 4000000
structure eu(P:Tok->Prop)(s:St):Prop where
 fin:∀t,s.l.getLast? = some t->t.kind=0
 len:s.l.length<=65537
 ne:s.e=0->s.l≠[]
 tk:∀t∈s.l,P t
def bU.st{P:Tok->Prop}{k:Nat}{r:Rd}(h:bU P k r):eu P r.s:=⟨h.fin,h.len,h.ne,h.tk⟩
def eu.go{P:Tok->Prop}{s s':St}(h:eu P s)(g:Steps s s'):eu P s':=by
 obtain⟨m,hm⟩:=g.d;exact⟨fun t ht=>h.fin t (getLast_drop _ m t (by rw[<- hm];exact ht)),aG g.len h.len,fun z=>g.ne (h.ne (fp fun k=>g.er k z)),fun t ht=>h.tk t (by rw[hm]at ht;exact uQ ht)⟩
def eu.less{P:Tok->Prop}{s:St}(h:eu P s)(hk:s.peek.kind≠0):s.next.l.length+1=s.l.length:=by
 unfold St.peek at hk;split at hk
 ·rename_i q;obtain⟨_,hl⟩:=lI q;have h1:1<s.l.length:=by
   rcases iG 1 s.l.length with h1|h1
   ·exact h1
   ·exfalso;cases hq:s.l with
    | nil=>rw[hq]at hl;exact absurd hl zsi
    | cons x t=>
     rw[hq]at h1;have:t=[]:=by
      cases t with
      | nil=>rfl
      | cons _ _=>simp at h1
     subst this;have:=h.fin x (by rw[hq];rfl);rw[hq]at hk;exact hk this
  unfold St.next;rw[ae ⟨q,h1⟩];show(s.l.drop 1).length+1=_;rw[gu];omega
 ·exact absurd rfl hk
def eu.text{P:Tok->Prop}(hP:∀t,P t->t.text.size<=65536){s:St}(h:eu P s):s.peek.text.size<=65536:=by
 unfold St.peek;split
 ·rename_i q;obtain⟨_,hl⟩:=lI q;refine hP _ ?_;rw[show s.l.getD 0 default=s.l[0] by simp[List.getD,hl]];exact h.tk _ (d9 hl)
 ·exact aB _
def Asc(t:ByteArray):Prop:=∀b∈t.data.toList,b.toNat<128
def Asc.app{a b:ByteArray}(ha:Asc a)(hb:Asc b):Asc (a++b):=by
 intro x hx;rw[iF,ph]at hx;rcases gB.1 hx with h|h
 ·exact ha x h
 ·exact hb x h
def Asc.nil:Asc ⟨#[]⟩:=fun b hb=>by cases hb
def eu.uB{P:Tok->Prop}(hA:∀t,P t->Asc t.text){s:St}(h:eu P s):Asc s.peek.text:=by
 unfold St.peek;split
 ·rename_i q;obtain⟨_,hl⟩:=lI q;refine hA _ ?_;rw[show s.l.getD 0 default=s.l[0] by simp[List.getD,hl]];exact h.tk _ (d9 hl)
 ·exact Asc.nil
def E7{P:Tok->Prop}(hA:∀t,P t->Asc t.text){s:St}(h:eu P s)(p:Tok->Bool):Asc (jF p s).1:=by
 unfold jF;split
 ·exact Asc.nil
 ·exact h.uB hA
def xD(p:Tok->Bool)(s:St):Steps s (jF p s).2:=by
 unfold jF;split
 ·exact .fail _ _
 ·exact .next _
def uC{P:Tok->Prop}(hP:∀t,P t->t.text.size<=65536){s:St}(h:eu P s)(p:Tok->Bool):(jF p s).1.size<=65536:=by
 unfold jF;split
 ·exact aB _
 ·exact h.text hP
def oH:ByteArray:=⟨#[46]⟩
def nB:ByteArray:=⟨#[63]⟩
def kf:ByteArray:=⟨#[91]⟩
def iC(acc:ByteArray)(s:St):Option (ByteArray×St):=
 if s.e≠0∨s.peek.joined=false then none
 else if s.aH oH=true∨s.aH nB=true then some (acc++(s.peek.text++(jF lf s.next).1),(jF lf s.next).2)
 else if s.aH kf=true then some (acc++s.peek.text++(jF fo s.next).1++(jF iD (jF fo s.next).2).1,(jF iD (jF fo s.next).2).2)
 else none
def eK:Nat->ByteArray->St->ByteArray×St
 | 0,acc,s=>(acc,s)
 | n+1,acc,s=>match iC acc s with
  | some q=>eK n q.1 q.2
  | none=>(acc,s)
def E8{P:Tok->Prop}(hP:∀t,P t->t.text.size<=65536){acc:ByteArray}{s:St}{q:ByteArray×St}(h:eu P s)(hq:iC acc s=some q):Steps s q.2∧q.2.l.length+1<=s.l.length∧q.1.size<=acc.size+200000:=by
 have ht:=h.text hP;have hn:Steps s s.next:=.next s;have hsn:=h.go hn;unfold iC at hq;split at hq
 ·cases hq
 split at hq
 ·rename_i hd;have hk:s.peek.kind≠0:=hd.elim (fun k=>(lN k).2) fun k=>(lN k).2;have hl:=h.less hk;cases hq;have g:=xD lf s.next;have g2:=g.len;have z:=uC hP hsn lf;refine⟨hn.trans g,by dsimp only;omega,?_⟩;dsimp only;rw[aj,aj];omega
 split at hq
 ·rename_i hd;have hl:=h.less (lN hd).2;cases hq;have g:=xD fo s.next;have z:=uC hP hsn fo;have h3:=hsn.go g;have g3:=xD iD (jF fo s.next).2;have z3:=uC hP h3 iD;have l1:=g.len;have l2:=g3.len;refine⟨(hn.trans g).trans g3,by dsimp only;omega,?_⟩;dsimp only;rw[aj,aj,aj];omega
 ·cases hq
def Xj{P:Tok->Prop}(hA:∀t,P t->Asc t.text){acc:ByteArray}{s:St}{q:ByteArray×St}(h:eu P s)(ha:Asc acc)(hq:iC acc s=some q):Asc q.1:=by
 have ht:=h.uB hA;have hsn:=h.go (.next s);unfold iC at hq;split at hq
 ·cases hq
 split at hq
 ·cases hq;exact ha.app (ht.app (E7 hA hsn lf))
 split at hq
 ·cases hq;exact((ha.app ht).app (E7 hA hsn fo)).app (E7 hA (hsn.go (xD fo _)) iD)
 ·cases hq
theorem LX{P:Tok->Prop}(hP:∀t,P t->t.text.size<=65536)(hA:∀t,P t->Asc t.text):∀(n:Nat) (acc:ByteArray) (s:St),eu P s->Asc acc->Asc (eK n acc s).1
 | 0,acc,s,h,ha=>ha
 | n+1,acc,s,h,ha=>by
  simp only[eK];split
  ·rename_i q hq;exact LX hP hA n q.1 q.2 (h.go (E8 hP h hq).1) (Xj hA h ha hq)
  ·exact ha
theorem E9{P:Tok->Prop}(hP:∀t,P t->t.text.size<=65536):∀(n:Nat) (acc:ByteArray) (s:St),eu P s->Steps s (eK n acc s).2∧(eK n acc s).1.size<=acc.size+200000*n
 | 0,acc,s,h=>⟨.refl _,ao _⟩
 | n+1,acc,s,h=>by
  simp only[eK];split
  ·rename_i q hq;obtain⟨a,b,c⟩:=E8 hP h hq;obtain⟨a2,c2⟩:=E9 hP n q.1 q.2 (h.go a);exact⟨a.trans a2,zo⟩
  ·exact⟨.refl _,by dsimp only;omega⟩
def dN(pe:ByteArray->Int)(s:St):ByteArray×St:=
 if s.e≠0 then(⟨#[]⟩,s)else if s.peek.kind≠1∨dQ s.peek.text=true then(⟨#[]⟩,s.fail 13)else
 if(eK s.l.length s.peek.text s.next).2.e≠0 then(⟨#[]⟩,(eK s.l.length s.peek.text s.next).2)
 else if((eK s.l.length s.peek.text s.next).2.fail (pe (eK s.l.length s.peek.text s.next).1)).e≠0 then(⟨#[]⟩,(eK s.l.length s.peek.text s.next).2.fail (pe (eK s.l.length s.peek.text s.next).1))
 else((eK s.l.length s.peek.text s.next).1,(eK s.l.length s.peek.text s.next).2.fail (pe (eK s.l.length s.peek.text s.next).1))
def Fa{P:Tok->Prop}(hP:∀t,P t->t.text.size<=65536){pe:ByteArray->Int}(hpe:∀t,pe t=0->t.size<=200){s:St}(h:eu P s):Steps s (dN pe s).2∧(dN pe s).1.size<=200∧((dN pe s).2.e=0->(dN pe s).2.l.length+1<=s.l.length):=by
 unfold dN;split
 ·rename_i q;exact⟨.refl _,aB _,fun z=>absurd z q⟩
 rename_i hz;have hz:s.e=0:=fp hz;have hok:s.ok=true:=by
  unfold St.ok;have:=mU.2 (h.ne hz);simp[hz,this]
 split
 ·refine⟨.fail _ _,aB _,fun z=>?_⟩;have:(s.fail 13).e≠0:=by
   unfold St.fail;rw[ae ⟨hok,zd⟩];exact(zd:(13:Int)≠0)
  exact absurd z this
 rename_i hk;have hk1:s.peek.kind=1:=fp fun k=>hk (.inl k);have hless:=h.less (by rw[hk1];decide);obtain⟨a,b⟩:=E9 hP s.l.length s.peek.text s.next (h.go (.next s));generalize eK s.l.length s.peek.text s.next=q at*;have a':=(Steps.next s).trans a;have al:=a.len;split
 ·rename_i q2;exact⟨a',aB _,fun z=>absurd z q2⟩
 rename_i hz2;have hz2:q.2.e=0:=fp hz2;have hok2:q.2.ok=true:=by
  unfold St.ok;have:=mU.2 (a'.ne (h.ne hz));simp[hz2,this]
 split
 ·rename_i q3;exact⟨a'.trans (.fail _ _),aB _,fun z=>absurd z q3⟩
 ·rename_i q3;have q3:(q.2.fail (pe q.1)).e=0:=fp q3;refine⟨a'.trans (.fail _ _),hpe _ ?_,fun _=>?_⟩
  ·refine fp fun k=>?_;unfold St.fail at q3;rw[ae ⟨hok2,k⟩]at q3;exact k q3
  ·show(q.2.fail (pe q.1)).l.length+1<=_;rw[rz];omega
def LY{P:Tok->Prop}(hP:∀t,P t->t.text.size<=65536)(hA:∀t,P t->Asc t.text){pe:ByteArray->Int}
 (hpc:∀t,t.size<=100000000000->Asc t->Af prog 43 [.str fun _=>t] [] (.ag [.any,.int .i64 fun _=>pe t]) []) (s:St) (h:eu P s):
 Af prog 21 [.ptr 1000 0] [(1000,am fun _=>s)] (.str fun _=>(dN pe s).1) [(1000,am fun _=>(dN pe s).2)]:=by
 have hl:=aG h.len (zd:65537<=1073741824);have h1:=rC s;have h2:=ju s;have h3:=DE s.peek.text;have h4:=j6 s 13;have h5:=kV s hl;have hsz:=h.text hP;have hn:=h.go (.next s);obtain⟨ga,gb⟩:=E9 hP s.l.length s.peek.text s.next hn;unfold dN;obtain⟨Q,hQ⟩:∃Q,Q=eK s.l.length s.peek.text s.next:=⟨_,rfl⟩
 rw[<- hQ]at ga gb ⊢;have h0:=h.len;have h6:=rC Q.2;have h7:=hpc Q.1 zo (by rw[hQ];exact LX hP hA _ _ _ hn (h.uB hA));have h8:=j6 Q.2 (pe Q.1);have h9:=rC (Q.2.fail (pe Q.1));by_cases c1:s.e≠0
 ·rw[ae c1];dsimp only;clear hQ h6 h7 h8 h9
  (refine fA [.tmp 2] sr [(1,[(4,.bool fun _=>s.e != 0,zS s)])] func21 fun _=>?_;repeat' first|exact⟨⟩|apply mA|apply mC<;>intro)
  all_goals(try simp only[aF])
  all_goals try exact zB
  all_goals try exact absurd ‹True∧s.e=0› (fun g=>c1 g.2)
  (all_goals try first|exact eZ|(refine qC ?_;repeat' first|exact⟨⟩|apply mA))
  exact fun _=>rfl
 rw[aa c1];have c1:s.e=0:=fp c1;rw[show(s.e != 0)=false by simp[c1]]at h1;by_cases c2:s.peek.kind≠1∨dQ s.peek.text=true
 ·rw[ae c2];dsimp only;clear hQ h6 h7 h8 h9;generalize dQ s.peek.text=b at*;generalize s.peek=k at*;generalize s.fail 13=u at*
  (refine fA [.tmp 2] sr [(1,[(4,zO false,zS s)]),(3,[(1,zK k,zS s)]),(4,[(6,zO b,[])]),(5,[(1,zT,zS u)])] func21 fun _=>?_;repeat' first|exact⟨⟩|apply mA|apply mC<;>intro)
  all_goals(try simp only[aF])
  all_goals try exact zB
  all_goals try exact absurd ‹False∧True› (fun g=>g.1)
  all_goals try exact absurd ‹k.kind=1∧b=false› (fun g=>c2.elim (fun q=>q g.1) (fun q=>by rw[g.2]at q;cases q))
  (all_goals try first|exact eZ|(refine qC ?_;repeat' first|exact⟨⟩|apply mA))
  exact fun _=>rfl
 rw[aa c2];have c3:s.peek.kind=1∧dQ s.peek.text=false:=⟨fp fun k=>c2 (.inl k),by simpa using fun k=>c2 (.inr k)⟩
 rw[c3.2]at h3;have hless:=h.less (by rw[c3.1];decide);generalize Q.2.fail (pe Q.1)=W at*;generalize pe Q.1=pq at*;generalize s.peek=k at*;obtain⟨X,hX⟩:∃X,X=if Q.2.e≠0 then Q.2 else W:=⟨_,rfl⟩
 obtain⟨B1,hB1⟩:∃b,b=(Q.2.e != 0):=⟨_,rfl⟩
 obtain⟨B2,hB2⟩:∃b,b=(X.e != 0):=⟨_,rfl⟩
 obtain⟨R,hR⟩:∃R,R=if B2=true then(⟨#[]⟩:ByteArray)else Q.1:=⟨_,rfl⟩
 rw[<- hB1]at h6;have h9:Af prog 52 [.ptr 1000 0] [(1000,am fun _=>X)] (.bool fun _=>B2) [(1000,am fun _=>X)]:=by
  rw[hB2,hX];split
  ·rw[hB1]at h6;exact h6
  ·exact h9
 have LZ:(if Q.2.e≠0 then((⟨#[]⟩:ByteArray),Q.2)else if W.e≠0 then(⟨#[]⟩,W)else(Q.1,W))=(R,X):=by
  rw[hR,hB2,hX];by_cases q:Q.2.e=0
  ·by_cases q2:W.e=0<;>simp[q,q2]
  ·simp[q]
 rw[LZ];clear LZ;dsimp only;have L0:B1=true->X=Q.2:=fun hb=>by rw[hX];rw[hb]at hB1;rw[ae (by simpa using hB1.symm)]
 have L1:B1=false->X=W:=fun hb=>by rw[hX];rw[hb]at hB1;rw[aa (by simpa using hB1.symm)]
 (refine fA [.tmp 2] sr [(1,[(4,zO false,zS s)]),(3,[(1,zK k,zS s)]),(4,[(6,zO false,[])]),(7,[(1,zK k,[(1000,am fun _=>s.next)])]),
   (16,[(1,zO B1,[(1000,am fun _=>Q.2)])]),(17,[(1,.ag [.any,zI pq],[])]),(18,[(2,zT,zS W)]),(19,[(1,zO B2,zS X)])] func21 fun _=>?_;repeat' first|exact⟨⟩|apply mA|apply mC<;>intro)
 all_goals(try simp only[aF])
 all_goals try exact zB
 all_goals try exact absurd ‹False∧True› (fun g=>g.1)
 all_goals try exact absurd ‹¬k.kind=1∧True› (fun g=>g.1 c3.1)
 (all_goals try first|exact eZ|(refine qC ?_;repeat' first|exact⟨⟩|apply mA))
 ·exact fun _=>rfl
 have hlen:=hn.len;have hls:s.next.l.length<s.l.length:=zo
 refine .loop (fun q:Nat×ByteArray×St=>⟨83,[(5,.func 56 []),(4,.str fun _=>q.2.1),(0,.ptr 1000 0)],[(1000,am fun _=>q.2.2)]⟩)
  (fun q=>eK q.1 q.2.1 q.2.2=Q∧eu P q.2.2∧q.2.2.l.length<q.1∧q.2.1.size+200000*q.1<=200000*65538) (fun q=>q.1) (s.l.length,k.text,s.next) ⟨hQ.symm,hn,hls,by dsimp only;omega⟩ ?_ fun q E hq=>?_
 ·exact aZ
 obtain⟨n,acc,t⟩:=q;obtain⟨q1,q2,q3,q4⟩:=hq;dsimp only at q1 q2 q3 q4;have tl:=aG q2.len (zd:65537<=1073741824);have t1:=rC t;have t2:=ju t;have t3:=lK t oH;have t4:=lK t nB;have t5:=lK t kf;have t6:=kV t tl;obtain⟨n,rfl⟩:∃m,n=m+1:=⟨n-1,zo⟩
 simp only[eK]at q1;cases hpp:iC acc t with
 | none=>
  rw[hpp]at q1;dsimp only at q1;subst q1;unfold iC at hpp;dsimp only at h6 h7 h8 h9 L0 L1 hR hB1;rw[<- hB1]at t1;have L2:B1=true∨t.peek.joined=false∨(t.aH oH=false∧t.aH nB=false∧t.aH kf=false):=by
   rw[hB1];split at hpp
   ·rename_i g;exact g.elim (fun g=>.inl (by simpa using g)) (fun g=>.inr (.inl g))
   split at hpp
   ·cases hpp
   split at hpp
   ·cases hpp
   ·rename_i g1 g2 g3;refine .inr (.inr ⟨?_,?_,?_⟩)
    ·simpa using fun g=>g2 (.inl g)
    ·simpa using fun g=>g2 (.inr g)
    ·simpa using g3
  clear hpp;generalize t.aH oH=b1 at*;generalize t.aH nB=b2 at*;generalize t.aH kf=b3 at*;generalize t.peek=p at*;cases B1 with
  | true=>
   have Fb:t=X:=(L0 rfl).symm;subst Fb;clear hB1;apply af.wk tF mF [(9,[(1,zO true,zS t),(5,zK p,zS t)]),(10,[(1,zO b1,zS t),(4,zO b2,zS t)]),(12,[(1,zO b3,zS t)])] sr ?_
   (refine oA ?_;repeat' first|exact⟨⟩|apply mA|apply mC<;>intro)
   all_goals(try simp only[aF])
   all_goals try exact absurd ‹False∧p.joined=true› (fun g=>g.1)
   all_goals try exact zB
   (all_goals try first|exact eZ|(refine qC ?_;repeat' first|exact⟨⟩|apply mA))
   all_goals first
    | (rw[hR,ae ‹B2=true›])
    | (rw[hR,aa (by rw[‹B2=false›];simp)])
    | trace_state
  | false=>
   have Fb:W=X:=(L1 rfl).symm;subst Fb;have L3:=L2.resolve_left zsi;clear L2;apply af.wk tF mF [(9,[(1,zO false,zS t),(5,zK p,zS t)]),(10,[(1,zO b1,zS t),(4,zO b2,zS t)]),(12,[(1,zO b3,zS t)])] sr ?_
   (refine oA ?_;repeat' first|exact⟨⟩|apply mA|apply mC<;>intro)
   all_goals(try simp only[aF])
   all_goals try exact zB
   all_goals try exact absurd ‹b1=true∨b2=true› (fun g=>L3.elim (fun k=>by have:=‹True∧p.joined=true›.2;rw[k]at this;cases this) (fun k=>g.elim (fun m=>by rw[k.1]at m;cases m) (fun m=>by rw[k.2.1]at m;cases m)))
   all_goals try exact absurd ‹b3=true› (fun g=>L3.elim (fun k=>by have:=‹True∧p.joined=true›.2;rw[k]at this;cases this) (fun k=>by rw[k.2.2]at g;cases g))
   (all_goals try first|exact eZ|(refine qC ?_;repeat' first|exact⟨⟩|apply mA))
   all_goals first
    | (rw[hR,ae ‹B2=true›])
    | (rw[hR,aa (by rw[‹B2=false›];simp)])
    | trace_state
 | some z=>
  rw[hpp]at q1;dsimp only at q1;obtain⟨a1,a2,a3⟩:=E8 hP q2 hpp;have z1:=q2.go a1;have hns:=q2.go (.next t);have j1:=E6 Xd t.next (aG hns.len zd);have ZE:=uC hP hns lf;have j2:=E6 Xf t.next (aG hns.len zd);have ZF:=uC hP hns fo;have hn2:=hns.go (xD fo t.next);have j3:=E6 Xh (jF fo t.next).2 (aG hn2.len zd);have ZG:=uC hP hn2 iD;have ZH:=q2.text hP;unfold iC at hpp;split at hpp
  ·cases hpp
  rename_i g0;have g1:t.e=0:=fp fun k=>g0 (.inl k);have g2:t.peek.joined=true:=by simpa using fun k=>g0 (.inr k)
  rw[show(t.e != 0)=false by simp[g1]]at t1;clear g0 g1;generalize t.aH oH=b1 at*;generalize t.aH nB=b2 at*;generalize t.aH kf=b3 at*;generalize t.peek=p at*;split at hpp
  ·rename_i gd;have hpp:=jg hpp;clear j2 j3;generalize (jF lf t.next).1=x at*;generalize (jF lf t.next).2=u at*;obtain rfl:=hpp;dsimp only at q1 a1 a2 a3 z1;apply af.wk tF mF [(9,[(1,zO false,zS t),(5,zK p,zS t)]),(10,[(1,zO b1,zS t),(4,zO b2,zS t)]),(12,[(1,zO b3,zS t)]),(11,[(2,zK p,[(1000,am fun _=>t.next)]),(6,zR x,zS u)])] sr ?_
   (refine oA ?_;repeat' first|exact⟨⟩|apply mA|apply mC<;>intro)
   all_goals(try simp only[aF])
   all_goals try exact zB
   all_goals try exact absurd ‹b1=false∧b2=false› (fun g=>gd.elim (fun m=>by rw[g.1]at m;cases m) (fun m=>by rw[g.2]at m;cases m))
   all_goals try exact absurd ‹False∨p.joined=false› (fun g=>g.elim id (fun m=>by rw[g2]at m;cases m))
   (all_goals try first|exact eZ|(refine qC ?_;repeat' first|exact⟨⟩|apply mA))
   ·rw[aj];omega
   refine dE (ι:=Nat×ByteArray×St) (μ:=fun q=>q.1) (i:=(n+1,acc,t)) (n,acc++(p.text++x),u) ?_ ?_
   ·refine⟨⟨q1,z1,?_,?_⟩,?_⟩
    ·dsimp only;omega
    ·dsimp only;omega
    ·dsimp only;omega
   exact aZ
  split at hpp
  ·rename_i gd gb;have L4:b1=false∧b2=false:=⟨by simpa using fun k=>gd (.inl k),by simpa using fun k=>gd (.inr k)⟩
   have hpp:=jg hpp;clear j1;have ZI:=aG hns.len (zd:65537<=1073741824);generalize (jF iD (jF fo t.next).2).1=x3 at*;generalize (jF iD (jF fo t.next).2).2=u3 at*;generalize (jF fo t.next).1=x at*;generalize (jF fo t.next).2=u at*;obtain rfl:=hpp;dsimp only at q1 a1 a2 a3 z1;apply af.wk tF mF [(9,[(1,zO false,zS t),(5,zK p,zS t)]),(10,[(1,zO b1,zS t),(4,zO b2,zS t)]),(12,[(1,zO b3,zS t)]),(13,[(2,zK p,[(1000,am fun _=>t.next)])]),(14,[(2,zR x,zS u)]),(15,[(2,zR x3,zS u3)])] sr ?_
   (refine oA ?_;repeat' first|exact⟨⟩|apply mA|apply mC<;>intro)
   all_goals(try simp only[aF])
   all_goals try exact zB
   all_goals try exact absurd ‹b1=true∨b2=true› (fun g=>g.elim (fun m=>by rw[L4.1]at m;cases m) (fun m=>by rw[L4.2]at m;cases m))
   all_goals try exact absurd ‹b3=false› (fun g=>by rw[gb]at g;cases g)
   all_goals try exact absurd ‹False∨p.joined=false› (fun g=>g.elim id (fun m=>by rw[g2]at m;cases m))
   (all_goals try first|exact eZ|(refine qC ?_;repeat' first|exact⟨⟩|apply mA))
   all_goals(try(rw[aj];omega))
   all_goals(try(rw[aj,aj];omega))
   refine dE (ι:=Nat×ByteArray×St) (μ:=fun q=>q.1) (i:=(n+1,acc,t)) (n,acc++p.text++x++x3,u3) ?_ ?_
   ·refine⟨⟨q1,z1,?_,?_⟩,?_⟩
    ·dsimp only;omega
    ·dsimp only;omega
    ·dsimp only;omega
   exact aZ
  ·cases hpp
end Go.Ai
