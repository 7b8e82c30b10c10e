/- Chapter 15: the first of the scanner's ways that takes a token. -/
import Derived.Test.YtbagpkiomjlhkaaGreatDoorLexB
import Derived.Test.YtbagpkiomjlhkaaGreatDoorV
import Derived.Test.YtbagpkiomjlhkaaGreatDoorLexA
set_option linter.all false
namespace Go.Ai
open Go Go.Proofs
set_option maxRecDepth 100000
set_option maxHeartbeats 4000000
def ac6:List AV:=[.bptr 103 1001000000,.bptr 104 1001000000,.bptr 105 1001000000,.bptr 106 1001000000,.bptr 107 1001000000]
def ways_ok(s:ByteArray)(i i':Nat)(w e w' e':Int)(t t':Tok)(k:Nat)(hk:k<=5)(hb:∀j,j<k->Meth (103+j) s i w e t false i w e t)
 (h:(k<5∧Meth (103+k) s i w e t true i' w' e' t')∨(k=5∧i'=i∧w'=w∧e'=e∧t'=t)) (r:Int) (hr:r=if k<5 then(k:Int)else -1):
 Af Tryz.prog 172 [.bref 1000 5,.func 111 [.ptr 1001001000 0]] [(1000,.box ac6),(1001001000,boxK t),(1001000000,boxC s i w e)] (.int .i64 fun _=>r) [(1000,.box ac6),(1001001000,boxK t'),(1001000000,boxC s i' w' e')]:=by
 (refine fA [.tmp 4] aee [] Tryz.func172 fun _=>?_;repeat' with_reducible first|exact⟨⟩|refine mA ?_ ?_|refine mC (fun _=>?_) fun _=>?_)
 refine .loop (fun j:Nat=>⟨19,[(8,.int .i64 fun _=>(j:Int)),(7,.int .i64 fun _=>5),(0,.bref 1000 5),(1,.func 111 [.ptr 1001001000 0])],[(1000,.box ac6),(1001001000,boxK t),(1001000000,boxC s i w e)]⟩)
  (fun j=>j<=k) (fun j=>5-j) 0 (Nat.zero_le _) ?_ fun j E hj=>?_
 ·exact aZ
 by_cases q:j=5
 ·subst q;have hk5:k=5:=by omega
  obtain⟨h1,_⟩|⟨_,rfl,rfl,rfl,rfl⟩:=h
  ·omega
  clear hb;subst hk5;rw[if_neg (by decide)]at hr;subst hr;apply AWp.wk tF mF [] aee ?_
  (refine oA ?_;repeat' with_reducible first|exact⟨⟩|refine mA ?_ ?_|refine mC (fun _=>?_) fun _=>?_)
  all_goals(try(exact absurd ‹((5:Nat):Int)<5› (by decide)))
  all_goals exact eZ
 by_cases q1:j<k
 ·have hf:=ajw (hb j q1);have hj5:j<5:=by omega
  clear hb h hj hr q;rcases j with _|_|_|_|_|j
  ·show AWp _ _ _ _ _ (SS.st ⟨19,[(8,.int .i64 fun _=>(0:Int)),(7,.int .i64 fun _=>5),(0,.bref 1000 5),(1,.func 111 [.ptr 1001001000 0])],[(1000,.box ac6),(1001001000,boxK t),(1001000000,boxC s i w e)]⟩);apply AWp.wk tF mF [(4,[(5,zO false,[(1000,boxC s i w e),(1001,boxK t)])])] aee ?_
   (refine oA ?_;repeat' with_reducible first|exact⟨⟩|refine mA ?_ ?_|refine mC (fun _=>?_) fun _=>?_)
   all_goals(try exact zB)
   all_goals(try(exact absurd ‹(5:Int)<=0› (by decide)))
   (all_goals try first|exact eZ|(refine qC ?_;repeat' with_reducible first|exact⟨⟩|refine mA ?_ ?_))
   refine dE 1 ⟨q1,by decide⟩ ?_
   exact aZ
  ·show AWp _ _ _ _ _ (SS.st ⟨19,[(8,.int .i64 fun _=>(1:Int)),(7,.int .i64 fun _=>5),(0,.bref 1000 5),(1,.func 111 [.ptr 1001001000 0])],[(1000,.box ac6),(1001001000,boxK t),(1001000000,boxC s i w e)]⟩);apply AWp.wk tF mF [(4,[(5,zO false,[(1000,boxC s i w e),(1001,boxK t)])])] aee ?_
   (refine oA ?_;repeat' with_reducible first|exact⟨⟩|refine mA ?_ ?_|refine mC (fun _=>?_) fun _=>?_)
   all_goals(try exact zB)
   all_goals(try(exact absurd ‹(5:Int)<=1› (by decide)))
   (all_goals try first|exact eZ|(refine qC ?_;repeat' with_reducible first|exact⟨⟩|refine mA ?_ ?_))
   refine dE 2 ⟨q1,by decide⟩ ?_
   exact aZ
  ·show AWp _ _ _ _ _ (SS.st ⟨19,[(8,.int .i64 fun _=>(2:Int)),(7,.int .i64 fun _=>5),(0,.bref 1000 5),(1,.func 111 [.ptr 1001001000 0])],[(1000,.box ac6),(1001001000,boxK t),(1001000000,boxC s i w e)]⟩);apply AWp.wk tF mF [(4,[(5,zO false,[(1000,boxC s i w e),(1001,boxK t)])])] aee ?_
   (refine oA ?_;repeat' with_reducible first|exact⟨⟩|refine mA ?_ ?_|refine mC (fun _=>?_) fun _=>?_)
   all_goals(try exact zB)
   all_goals(try(exact absurd ‹(5:Int)<=2› (by decide)))
   (all_goals try first|exact eZ|(refine qC ?_;repeat' with_reducible first|exact⟨⟩|refine mA ?_ ?_))
   refine dE 3 ⟨q1,by decide⟩ ?_
   exact aZ
  ·show AWp _ _ _ _ _ (SS.st ⟨19,[(8,.int .i64 fun _=>(3:Int)),(7,.int .i64 fun _=>5),(0,.bref 1000 5),(1,.func 111 [.ptr 1001001000 0])],[(1000,.box ac6),(1001001000,boxK t),(1001000000,boxC s i w e)]⟩);apply AWp.wk tF mF [(4,[(5,zO false,[(1000,boxC s i w e),(1001,boxK t)])])] aee ?_
   (refine oA ?_;repeat' with_reducible first|exact⟨⟩|refine mA ?_ ?_|refine mC (fun _=>?_) fun _=>?_)
   all_goals(try exact zB)
   all_goals(try(exact absurd ‹(5:Int)<=3› (by decide)))
   (all_goals try first|exact eZ|(refine qC ?_;repeat' with_reducible first|exact⟨⟩|refine mA ?_ ?_))
   refine dE 4 ⟨q1,by decide⟩ ?_
   exact aZ
  ·show AWp _ _ _ _ _ (SS.st ⟨19,[(8,.int .i64 fun _=>(4:Int)),(7,.int .i64 fun _=>5),(0,.bref 1000 5),(1,.func 111 [.ptr 1001001000 0])],[(1000,.box ac6),(1001001000,boxK t),(1001000000,boxC s i w e)]⟩);apply AWp.wk tF mF [(4,[(5,zO false,[(1000,boxC s i w e),(1001,boxK t)])])] aee ?_
   (refine oA ?_;repeat' with_reducible first|exact⟨⟩|refine mA ?_ ?_|refine mC (fun _=>?_) fun _=>?_)
   all_goals(try exact zB)
   all_goals(try(exact absurd ‹(5:Int)<=4› (by decide)))
   (all_goals try first|exact eZ|(refine qC ?_;repeat' with_reducible first|exact⟨⟩|refine mA ?_ ?_))
   refine dE 5 ⟨q1,by decide⟩ ?_
   exact aZ
  ·omega
 ·obtain rfl:j=k:=by omega
  obtain⟨h1,h2⟩|⟨h1,_⟩:=h
  ·have hf:=ajw h2;rw[if_pos h1]at hr;clear hb hj q h2 q1 hk;subst hr;rcases j with _|_|_|_|_|j
   ·show AWp _ _ _ _ _ (SS.st ⟨19,[(8,.int .i64 fun _=>(0:Int)),(7,.int .i64 fun _=>5),(0,.bref 1000 5),(1,.func 111 [.ptr 1001001000 0])],[(1000,.box ac6),(1001001000,boxK t),(1001000000,boxC s i w e)]⟩);apply AWp.wk tF mF [(4,[(5,zO true,[(1000,boxC s i' w' e'),(1001,boxK t')])])] aee ?_
    (refine oA ?_;repeat' with_reducible first|exact⟨⟩|refine mA ?_ ?_|refine mC (fun _=>?_) fun _=>?_)
    all_goals(try exact zB)
    all_goals(try(exact absurd ‹(5:Int)<=0› (by decide)))
    all_goals exact eZ
   ·show AWp _ _ _ _ _ (SS.st ⟨19,[(8,.int .i64 fun _=>(1:Int)),(7,.int .i64 fun _=>5),(0,.bref 1000 5),(1,.func 111 [.ptr 1001001000 0])],[(1000,.box ac6),(1001001000,boxK t),(1001000000,boxC s i w e)]⟩);apply AWp.wk tF mF [(4,[(5,zO true,[(1000,boxC s i' w' e'),(1001,boxK t')])])] aee ?_
    (refine oA ?_;repeat' with_reducible first|exact⟨⟩|refine mA ?_ ?_|refine mC (fun _=>?_) fun _=>?_)
    all_goals(try exact zB)
    all_goals(try(exact absurd ‹(5:Int)<=1› (by decide)))
    all_goals exact eZ
   ·show AWp _ _ _ _ _ (SS.st ⟨19,[(8,.int .i64 fun _=>(2:Int)),(7,.int .i64 fun _=>5),(0,.bref 1000 5),(1,.func 111 [.ptr 1001001000 0])],[(1000,.box ac6),(1001001000,boxK t),(1001000000,boxC s i w e)]⟩);apply AWp.wk tF mF [(4,[(5,zO true,[(1000,boxC s i' w' e'),(1001,boxK t')])])] aee ?_
    (refine oA ?_;repeat' with_reducible first|exact⟨⟩|refine mA ?_ ?_|refine mC (fun _=>?_) fun _=>?_)
    all_goals(try exact zB)
    all_goals(try(exact absurd ‹(5:Int)<=2› (by decide)))
    all_goals exact eZ
   ·show AWp _ _ _ _ _ (SS.st ⟨19,[(8,.int .i64 fun _=>(3:Int)),(7,.int .i64 fun _=>5),(0,.bref 1000 5),(1,.func 111 [.ptr 1001001000 0])],[(1000,.box ac6),(1001001000,boxK t),(1001000000,boxC s i w e)]⟩);apply AWp.wk tF mF [(4,[(5,zO true,[(1000,boxC s i' w' e'),(1001,boxK t')])])] aee ?_
    (refine oA ?_;repeat' with_reducible first|exact⟨⟩|refine mA ?_ ?_|refine mC (fun _=>?_) fun _=>?_)
    all_goals(try exact zB)
    all_goals(try(exact absurd ‹(5:Int)<=3› (by decide)))
    all_goals exact eZ
   ·show AWp _ _ _ _ _ (SS.st ⟨19,[(8,.int .i64 fun _=>(4:Int)),(7,.int .i64 fun _=>5),(0,.bref 1000 5),(1,.func 111 [.ptr 1001001000 0])],[(1000,.box ac6),(1001001000,boxK t),(1001000000,boxC s i w e)]⟩);apply AWp.wk tF mF [(4,[(5,zO true,[(1000,boxC s i' w' e'),(1001,boxK t')])])] aee ?_
    (refine oA ?_;repeat' with_reducible first|exact⟨⟩|refine mA ?_ ?_|refine mC (fun _=>?_) fun _=>?_)
    all_goals(try exact zB)
    all_goals(try(exact absurd ‹(5:Int)<=4› (by decide)))
    all_goals exact eZ
   ·omega
  ·omega
def any_ok(s:ByteArray)(i i':Nat)(w e w' e':Int)(t t':Tok)(k:Nat)(hk:k<=5)(hb:∀j,j<k->Meth (103+j) s i w e t false i w e t)
 (h:(k<5∧Meth (103+k) s i w e t true i' w' e' t')∨(k=5∧i'=i∧w'=w∧e'=e∧t'=t)) (r:Bool) (hr:r=decide (k<5)):
 Af Tryz.prog 110 [.bref 1000 5,.func 111 [.ptr 1001001000 0]] [(1000,.box ac6),(1001001000,boxK t),(1001000000,boxC s i w e)] (.bool fun _=>r) [(1000,.box ac6),(1001001000,boxK t'),(1001000000,boxC s i' w' e')]:=by
 have h1:=ways_ok s i i' w e w' e' t t' k hk hb h _ rfl;obtain⟨n,hn⟩:∃n:Int,n=if k<5 then(k:Int)else -1:=⟨_,rfl⟩
 rw[<- hn]at h1;have hb:r=decide (0<=n):=by
  rw[hr,hn];split
  ·rename_i q;simp[q]
  ·rename_i q;simp[q]
 rw[hb]
 (refine fA [.tmp 4] kp110 [(1,[(2,zI n,[(1000,.box ac6),(1001001000,boxK t'),(1001000000,boxC s i' w' e')])])] Tryz.func110 fun _=>?_;repeat' with_reducible first|exact⟨⟩|refine mA ?_ ?_|refine mC (fun _=>?_) fun _=>?_)
 all_goals(try exact zB)
 all_goals exact eZ
def aoh(s:ByteArray)(i:Nat):∃b:UInt8,byt s i=b.toNat:=by
 rcases Nat.lt_or_ge i s.size with h|h
 ·obtain⟨b,_,hb⟩:=adW h;exact⟨b,hb⟩
 ·exact⟨0,afa h⟩
def adn{s:ByteArray}{i:Nat}{a b:UInt8}(hi:i<s.size)(hb:b≠0):aaK (s.extract i s.size) ⟨#[a,b]⟩=(byt s i==(a.toNat:Int)&&byt s (i+1)==(b.toNat:Int)):=by
 unfold aaK Lib.hasPrefix;rw[ae8];obtain⟨x,hx,hx2⟩:=adW hi;rw[hx];have key:∀u v:UInt8,(u==v)=(((v.toNat:Nat):Int)==(u.toNat:Int)):=fun u v=>by
  rw[Bool.eq_iff_iff];simp only[beq_iff_eq];exact⟨fun h=>by rw[h],fun h=>UInt8.toNat_inj.1 (by omega)⟩
 rcases Nat.lt_or_ge (i+1) s.size with h|h
 ·obtain⟨y,hy,hy2⟩:=adW h;rw[hy,hx2,hy2];show(a==x&&(b==y&&true))=_;rw[Bool.and_true,key a x,key b y]
 ·have hd:s.data.toList.drop (i+1)=[]:=List.drop_eq_nil_iff.2 (by rw[Array.length_toList];exact h);rw[hd,afa h,hx2];show(a==x&&false)=_;have:((0:Int)==(b.toNat:Int))=false:=by
   rw[beq_eq_false_iff_ne];intro h0;exact hb (UInt8.toNat_inj.1 (by show b.toNat=0;omega))
  rw[this,Bool.and_false,Bool.and_false]
def akA(b:UInt8):(0<=idxB ones (b.toNat:Int))↔aiz (b.toNat:Int)=true:=by
 have key:((List.range 256).all fun n=>decide (0<=idxB ones (n:Int))==aiz (n:Int))=true:=by kernel_rfl
 have:=List.all_eq_true.1 key b.toNat (List.mem_range.2 b.toNat_lt)
 rw[<- eq_of_beq this];simp
def idx_neg(c:Int):idxB ones c<0↔¬0<=idxB ones c:=by omega
def apm{s:ByteArray}{i:Nat}(hi:i<s.size):(amj s i=false∧∀j,j<5->aaK (s.extract i s.size) (aaQ j)=false) ∨
 (amj s i=true∧∃k,k<5∧aaK (s.extract i s.size) (aaQ k)=true∧(∀j,j<k->aaK (s.extract i s.size) (aaQ j)=false)∧aaQ k=s.extract i (i+2)):=by
 have h0:aaK (s.extract i s.size) (aaQ 0)=(byt s i==45&&byt s (i+1)==62):=adn (a:=45) (b:=62) hi (by decide);have h1:aaK (s.extract i s.size) (aaQ 1)=(byt s i==33&&byt s (i+1)==61):=adn (a:=33) (b:=61) hi (by decide);have h2:aaK (s.extract i s.size) (aaQ 2)=(byt s i==60&&byt s (i+1)==61):=adn (a:=60) (b:=61) hi (by decide);have h3:aaK (s.extract i s.size) (aaQ 3)=(byt s i==62&&byt s (i+1)==61):=adn (a:=62) (b:=61) hi (by decide);have h4:aaK (s.extract i s.size) (aaQ 4)=(byt s i==46&&byt s (i+1)==46):=adn (a:=46) (b:=46) hi (by decide);have hp:amj s i=(aaK (s.extract i s.size) (aaQ 0)||aaK (s.extract i s.size) (aaQ 1)||aaK (s.extract i s.size) (aaQ 2)||aaK (s.extract i s.size) (aaQ 3)||aaK (s.extract i s.size) (aaQ 4)):=by
  rw[h0,h1,h2,h3,h4];rfl
 have hx:∀a b:UInt8,(byt s i==(a.toNat:Int)&&byt s (i+1)==(b.toNat:Int))=true->b≠0->(⟨#[a,b]⟩:ByteArray)=s.extract i (i+2):=by
  intro a b h hb;simp only[Bool.and_eq_true,beq_iff_eq]at h;obtain⟨h1,h2⟩:=h;have hlt:i+1<s.size:=by
   rcases Nat.lt_or_ge (i+1) s.size with h|h
   ·exact h
   ·rw[afa h]at h2;exact absurd (UInt8.toNat_inj.1 (show b.toNat=0 by omega)) hb
  obtain⟨x,hx,hx2⟩:=adW hi;obtain⟨y,hy,hy2⟩:=adW hlt;have ex:x=a:=UInt8.toNat_inj.1 (by omega);have ey:y=b:=UInt8.toNat_inj.1 (by omega);apply ByteArray.ext;apply Array.toList_inj.1;rw[ByteArray.data_extract,Array.toList_extract];simp only[List.extract];rw[hx,hy,ex,ey,show i+2-i=2 by omega];rfl
 have kk:∀k,k<5->aaK (s.extract i s.size) (aaQ k)=true->aaQ k=s.extract i (i+2):=by
  intro k hk hp;rcases k with _|_|_|_|_|k
  ·exact hx 45 62 (h0▸hp) (by decide)
  ·exact hx 33 61 (h1▸hp) (by decide)
  ·exact hx 60 61 (h2▸hp) (by decide)
  ·exact hx 62 61 (h3▸hp) (by decide)
  ·exact hx 46 46 (h4▸hp) (by decide)
  ·omega
 clear h0 h1 h2 h3 h4 hx;rw[hp];by_cases g:∃k,k<5∧aaK (s.extract i s.size) (aaQ k)=true
 ·refine .inr ?_;have least:∀n,(∃k,k<n∧aaK (s.extract i s.size) (aaQ k)=true)->∃k,k<n∧aaK (s.extract i s.size) (aaQ k)=true∧∀j,j<k->aaK (s.extract i s.size) (aaQ j)=false:=by
   intro n
   induction n with
   | zero=>rintro⟨k,hk,_⟩;omega
   | succ n ih=>
    rintro⟨k,hk,hp⟩;by_cases g:∃k,k<n∧aaK (s.extract i s.size) (aaQ k)=true
    ·obtain⟨k,a,b,c⟩:=ih g;exact⟨k,by omega,b,c⟩
    ·have hkn:k=n:=by
      rcases Nat.lt_or_ge k n with h|h
      ·exact absurd ⟨k,h,hp⟩ g
      ·omega
     subst hkn;refine⟨k,by omega,hp,fun j hj=>?_⟩;cases hq:aaK (s.extract i s.size) (aaQ j)with
     | false=>rfl
     | true=>exact absurd ⟨j,hj,hq⟩ g
  obtain⟨k,a,b,c⟩:=least 5 g;refine⟨?_,k,a,b,c,kk k a b⟩;rcases k with _|_|_|_|_|k
  ·simp[b]
  ·simp[b]
  ·simp[b]
  ·simp[b]
  ·simp[b]
  ·omega
 ·have f:∀j,j<5->aaK (s.extract i s.size) (aaQ j)=false:=fun j hj=>by
   cases hq:aaK (s.extract i s.size) (aaQ j)with
   | false=>rfl
   | true=>exact absurd ⟨j,hj,hq⟩ g
  refine .inl ⟨?_,f⟩;rw[f 0 (by omega),f 1 (by omega),f 2 (by omega),f 3 (by omega),f 4 (by omega)];rfl
structure PlainT(dec:ByteArray->Int×Int×Int)(s:ByteArray):Prop where
 size:s.size<=65536
 quote:∀i,byt s i≠34
 one:∀i,digB (byt s i)=true->digB (byt s (i+1))=false∧byt s (i+1)≠46∧byt s (i+1)≠100
 dec:∀i,digB (byt s i)=true->Af Tryz.prog 167 [.str fun _=>s.extract i (i+1)] [] (.tup [.agg [.int .i64 fun _=>(dec (s.extract i (i+1))).1,.int .i64 fun _=>(dec (s.extract i (i+1))).2.1],.int .i64 fun _=>0]) []∧(dec (s.extract i (i+1))).2.2=0
abbrev ScI:=Nat×List Tok×Nat×(Int×Int)×Int×Nat
def aoU(s:ByteArray)(x:ScI):SS:=
 ⟨124,[(9,.int .i64 fun _=>x.2.2.2.2.1),(8,.int .i64 fun _=>(x.2.2.2.2.2:Int)),(4,.int .i64 fun _=>x.2.2.2.1.2),(3,.int .i64 fun _=>x.2.2.2.1.1),(7,.bref 29 5),(6,.ptr 18 0),(2,.aref 119 1 fun _=>x.2.1.length),(0,.str fun _=>s)],
  [(18,boxC s x.2.2.1 0 0),(29,.box [.bptr 103 18,.bptr 104 18,.bptr 105 18,.bptr 106 18,.bptr 107 18]),(119,.arr false 52 8 1 (fun _=>x.2.1.length) (akE fun _=>x.2.1))]⟩
def afA(l:List Tok)(t:Tok)(i:Nat)(hi:i<l.length+1):LeL (catF (fun _=>l.length) (akE fun _=>l) (aaL [acT fun _=>t]) fun _=>i) (akE (fun _=>l++[t]) fun _=>i):=by
 refine LeL.of_eq ?_;have e:∀a b:Tok,a=b->(acT fun _=>a)=acT fun _=>b:=fun a b h=>by rw[h]
 unfold catF;by_cases q:i<l.length
 ·rw[if_pos q];refine e _ _ ?_;show l.getD i default=(l++[t]).getD i default;rw[List.getD_eq_getElem?_getD,List.getD_eq_getElem?_getD,List.getElem?_append_left q]
 ·rw[if_neg q];obtain rfl:i=l.length:=by omega
  have h1:(aaL [acT fun _=>t] fun _=>l.length-l.length)=acT fun _=>t:=by rw[Nat.sub_self];rfl
  refine h1.trans (e _ _ ?_);show t=(l++[t]).getD l.length default;rw[List.getD_eq_getElem?_getD,List.getElem?_append_right (Nat.le_refl _),Nat.sub_self];rfl
def anw{s:ByteArray}{i:Nat}(h:byt s i≠0):i<s.size:=by
 rcases Nat.lt_or_ge i s.size with g|g
 ·exact g
 ·exact absurd (afa g) h
def aok{s:ByteArray}{i j k:Nat}(h:k<j-i)(hj:j<=s.size):byt (s.extract i j) k=byt s (i+k):=by
 have h2:(s.extract i j).data[k]? = s.data[i+k]? := by
  rw[ByteArray.data_extract,Array.getElem?_extract,if_pos (by have:s.data.size=s.size:=rfl;omega)]
 unfold byt;rw[h2]
end Go.Ai
