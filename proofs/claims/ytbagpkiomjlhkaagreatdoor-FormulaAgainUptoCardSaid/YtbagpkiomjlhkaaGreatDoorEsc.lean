/- Chapter 15: the scanner: escapes. -/
import Derived.Test.YtbagpkiomjlhkaaGreatDoorNumA
import Derived.Test.YtbagpkiomjlhkaaGreatDoorQuo
import Derived.Laws.Cover4
set_option linter.all false
namespace Go.Ai
open Go Go.Proofs Go.RowKit Tryz
set_option maxRecDepth 100000
set_option maxHeartbeats 4000000
def ri(c:Int):aW c<16:=by
 unfold aW ek;rcases wA [((if 65<=c∧c<=70 then c+32 else c).toNat.toUInt8)] rj.data.toList with h|h
 ·rw[Lib.indexAny_one]at h;omega
 ·rw[Lib.indexAny_one]at h;have:rj.data.toList.length=16:=rfl;omega
def rk(p h:Int)(hp:0<=p∧p<72057594037927936)(hh:0<=h∧h<16):IntKind.i64.wrap ((BitVec.ofInt IntKind.i64.bits (IntKind.i64.wrap (p*2^(min (Int.toNat 4) IntKind.i64.bits))) ||| BitVec.ofInt IntKind.i64.bits h).toNat:Int)=p*16+h:=by
 obtain⟨P,rfl⟩:=Int.eq_ofNat_of_zero_le hp.1;obtain⟨H,rfl⟩:=Int.eq_ofNat_of_zero_le hh.1;have e1:(P:Int)*2^(min (Int.toNat 4) IntKind.i64.bits)=((P*16:Nat):Int):=by
  rw[show min (Int.toNat 4) IntKind.i64.bits=4 from rfl,show(2:Int)^4=16 from rfl];omega
 have e2:∀n:Nat,n<18446744073709551616->(BitVec.ofInt IntKind.i64.bits (n:Int)).toNat=n:=fun n hn=>by
  rw[BitVec.toNat_ofInt];show((n:Int)%((18446744073709551616:Nat):Int)).toNat=n;omega
 have w1:IntKind.i64.wrap ((P*16:Nat):Int)=((P*16:Nat):Int):=ax zo zo;rw[e1,w1,BitVec.toNat_or,e2 _ zo,e2 _ zo,show P*16=2^4*P by omega,<- Nat.two_pow_add_eq_or_of_lt zo];refine(ax zo zo).trans ?_;omega
def bs(s:ByteArray):Nat->Nat->Int->Nat×Int
 | 0,i,p=>(i,p)
 | n+1,i,p=>if i<s.size∧0<=aW (ad s i)then bs s n (i+1) (p*16+aW (ad s i))else(i,p)
theorem t7{s:ByteArray}:∀(n i:Nat) (p:Int),i<=s.size->i<=(bs s n i p).1∧(bs s n i p).1<=i+n∧(bs s n i p).1<=s.size
 | 0,i,p,h=>⟨ao _,ao _,h⟩
 | n+1,i,p,h=>by
  unfold bs;split
  ·rename_i q;have:=t7 (s:=s) n (i+1) (p*16+aW (ad s i)) zo;omega
  ·exact⟨ao _,zo,h⟩
def fu:ByteArray:=⟨#[34,92,110,114,116]⟩
def Dr:ByteArray:=⟨#[34,92,10,13,9]⟩
def QU(b:Int):ek fu b<5:=by
 unfold ek;rcases wA [(b.toNat.toUInt8)] fu.data.toList with h|h
 ·rw[Lib.indexAny_one]at h;omega
 ·rw[Lib.indexAny_one]at h;have:fu.data.toList.length=5:=rfl;omega
def bIn:Option ByteArray->List (Nat×AO)
 | none=>[(1001,.box [.bj 179,.nil])]
 | some a=>[(1001,bc 1001 1001001001 0 a),(1001001001,br 0 a)]
def bOut(r:Nat)(t:ByteArray):Option ByteArray->List (Nat×AO)
 | none=>[(1001,bc 1001 r 1 t),(r,br 1 t)]
 | some a=>[(1001,bc 1001 1001001001 1 (a++t)),(1001001001,br 1 (a++t))]
def QV(s:ByteArray)(i:Nat)(w:Int)(b:Option ByteArray)(hs:s.size<=1073741824)(hi:i+1<s.size)(hk:0<=ek fu (ad s (i+1)))(ha:∀a,b=some a->a.size<=1073741824)(c:UInt8)(hc:c=(Dr.data[(ek fu (ad s (i+1))).toNat]?).getD 0):
 Af prog 168 [.ptr 1000 0,.ptr 1001 0] ((1000,ah s i w 0)::bIn b) (.ag []) ((1000,ah s (i+2) w 0)::bOut 360014 ⟨#[c]⟩ b):=by
 have h0:=d7 s i 1 w 0 zo zo;have h1:=ot fu (ad s (i+1));have hk5:=QU (ad s (i+1));have hw1:IntKind.i64.wrap ((i:Int)+1)=i+1:=ax zo zo;have hw2:IntKind.i64.wrap ((i:Int)+2)=((i+2:Nat):Int):=(ax zo zo).trans zo;generalize ek fu (ad s (i+1))=k at*;generalize ad s (i+1)=e at*;unfold fu at h1;unfold Dr at hc;dsimp only at hc;have z5:((ByteArray.mk (Array.mk [34,92,10,13,9])).size:Int)=5:=rfl;cases b with
 | none=>
  have h2:=Bm c;unfold bIn bOut
  (refine fA [] fP [(1,[(1,.int .u8 fun _=>e,[(1000,ah s i w 0)]),(2,zI k,[])]),(3,[(3,.bz fun _=>true,[(1000,bc 1000 14 1 ⟨#[c]⟩),(14,br 1 ⟨#[c]⟩)])]),(5,[(1,.any,[]),(5,.any,[])])] func168 fun _=>?_;repeat' first|exact⟨⟩|apply mA|apply mC<;>intro)
  all_goals(try simp only[hw1,hw2,<- hc])
  all_goals try exact zB
  all_goals(try(exfalso;omega))
  all_goals exact eZ
 | some a=>
  have h2:=sM c a (ha a rfl);unfold bIn bOut
  (refine fA [] fP [(1,[(1,.int .u8 fun _=>e,[(1000,ah s i w 0)]),(2,zI k,[])]),(3,[(3,.bz fun _=>true,[(1000,bc 1000 1001000001 1 (a++⟨#[c]⟩)),(1001000001,br 1 (a++⟨#[c]⟩))])]),(5,[(1,.any,[]),(5,.any,[])])] func168 fun _=>?_;repeat' first|exact⟨⟩|apply mA|apply mC<;>intro)
  all_goals(try simp only[hw1,hw2,<- hc])
  all_goals try exact zB
  all_goals(try(exfalso;omega))
  all_goals exact eZ
def QW(s:ByteArray)(i:Nat)(w:Int)(b:Option ByteArray)(hs:s.size<=1073741824)(hi:i<s.size)(hk:¬(i+1<s.size∧0<=ek fu (ad s (i+1))))(hu:¬(ad s (i+1)=117∧ad s (i+2)=123)):
 Af prog 168 [.ptr 1000 0,.ptr 1001 0] ((1000,ah s i w 0)::bIn b) (.ag []) ((1000,ah s i i 13)::bIn b):=by
 have h0:=d7 s i 1 w 0 zo zo;have h3:=d7 s i 2 w 0 zo zo;have h1:=ot fu (ad s (i+1));have hf:Af prog 109 [.ptr 1000 0,.int .i64 fun _=>(i:Int),.int .i64 fun _=>13] [(1000,ah s i w 0)] (.ag []) [(1000,ah s i i 13)]:=by
  have:=mm s i w 0 i 13
  rwa [ae rfl,ae rfl]at this
 have hw1:IntKind.i64.wrap ((i:Int)+1)=i+1:=ax zo zo;generalize ek fu (ad s (i+1))=k at*;generalize ad s (i+1)=e at*;generalize ad s (i+2)=e2 at*;unfold fu at h1;have z5:((ByteArray.mk (Array.mk [34,92,10,13,9])).size:Int)=5:=rfl;cases b with
 | none=>
  unfold bIn
  (refine fA [] fP [(1,[(1,.int .u8 fun _=>e,[(1000,ah s i w 0)]),(2,zI k,[])]),(3,[(3,.any,[])]),(5,[(1,.int .u8 fun _=>e,[(1000,ah s i w 0)]),(5,.int .u8 fun _=>e2,[(1000,ah s i w 0)])]),(6,[(2,zT,[(1000,ah s i i 13)])])] func168 fun _=>?_;repeat' first|exact⟨⟩|apply mA|apply mC<;>intro)
  all_goals(try simp only[hw1,aF])
  all_goals try exact zB
  all_goals(try(exfalso;omega))
  all_goals exact eZ
 | some a=>
  unfold bIn
  (refine fA [] fP [(1,[(1,.int .u8 fun _=>e,[(1000,ah s i w 0)]),(2,zI k,[])]),(3,[(3,.any,[])]),(5,[(1,.int .u8 fun _=>e,[(1000,ah s i w 0)]),(5,.int .u8 fun _=>e2,[(1000,ah s i w 0)])]),(6,[(2,zT,[(1000,ah s i i 13)])])] func168 fun _=>?_;repeat' first|exact⟨⟩|apply mA|apply mC<;>intro)
  all_goals(try simp only[hw1,aF])
  all_goals try exact zB
  all_goals(try(exfalso;omega))
  all_goals exact eZ
def wB(t:ByteArray):Option ByteArray->List (Nat×AO)
 | none=>[(1000,bc 1000 14 1 t),(14,br 1 t)]
 | some a=>[(1000,bc 1000 1001000001 1 (a++t)),(1001000001,br 1 (a++t))]
def wC:Option ByteArray->List (Nat×AO)
 | none=>[(1000,.box [.bj 179,.nil])]
 | some a=>[(1000,bc 1000 1001000001 0 a),(1001000001,br 0 a)]
def Ds(t:ByteArray)(b:Option ByteArray)(ht:t.size<=1073741824)(ha:∀a,b=some a->a.size<=1073741824):Af prog 170 [.ptr 1000 0,.str fun _=>t] (wC b) (.ag [.int .i64 fun _=>t.size,.bz fun _=>true]) (wB t b):=by
 cases b with
 | none=>exact FY t ht
 | some a=>exact sP t a (ha a rfl) ht
def QX(s:ByteArray)(i:Nat)(w:Int)(b:Option ByteArray)(hs:s.size<=1073741824)(hi:i<s.size)(hu:ad s (i+1)=117∧ad s (i+2)=123)(ha:∀a,b=some a->a.size<=1073741824)(J:Nat)(P:Int)(hJ:bs s 7 (i+3) 0=(J,P))
 (h1:¬(J-(i+3)<1∨6<J-(i+3))) (h2:ad s J=125) (h3:kU P=true):
 Af prog 168 [.ptr 1000 0,.ptr 1001 0] ((1000,ah s i w 0)::bIn b) (.ag []) ((1000,ah s (J+1) w 0)::bOut 1440014 (Utf8.encode P) b):=by
 have g0:=d7 s i 1 w 0 zo zo;have g1:=d7 s i 2 w 0 zo zo;have g2:=ot fu (ad s (i+1));have hk:ek fu (ad s (i+1)) = -1:=by rw[hu.1];rfl
 rw[hk]at g2;rw[hu.1]at g0 g2;rw[hu.2]at g1;have i3:i+3<=s.size:=by have:=iu (s:=s) (i:=i+2) (by rw[hu.2];decide);omega
 obtain⟨l1,l2,l3⟩:=t7 (s:=s) 7 (i+3) 0 i3;rw[hJ]at l1 l2 l3;dsimp only at l1 l2 l3;have g3:=d7 s J 0 w 0 zo zo;rw[show J+0=J from rfl,h2]at g3;have g4:=IP P;rw[ae h3,ae h3]at g4;have ht:=encode_size_le P;generalize Utf8.encode P=t at*;have g5:=Ds t b zo ha;have hw1:IntKind.i64.wrap ((i:Int)+1)=i+1:=ax zo zo;have hw3:IntKind.i64.wrap ((i:Int)+3)=((i+3:Nat):Int):=(ax zo zo).trans zo;unfold fu at g2;rcases b with _|a
 ·unfold bIn bOut;unfold wC wB at g5
  (refine fA [] fP ([(1,[(1,.int .u8 fun _=>117,[(1000,ah s i w 0)]),(2,.int .i64 fun _ => -1,[])]),(3,[(3,.any,[])]),(5,[(1,.int .u8 fun _=>117,[(1000,ah s i w 0)]),(5,.int .u8 fun _=>123,[(1000,ah s i w 0)])]),(6,[(2,.any,[])])]++[(13,[(8,.int .u8 fun _=>125,[(1000,ah s J w 0)])]),(14,[(2,.any,[])]),(16,[(1,.ag [zR t,zI 0],[])]),(18,[(2,.any,[])]),(19,[(2,.ag [.int .i64 fun _=>t.size,.bz fun _=>true],[(1000,bc 1000 14 1 t),(14,br 1 t)])])]) func168 fun _=>?_;repeat' first|exact⟨⟩|apply mA|apply mC<;>intro)
  all_goals(try simp only[hw1,hw3])
  all_goals try exact zB
  all_goals(try(exfalso;omega))
  (all_goals try first|exact eZ|(refine qC ?_;repeat' first|exact⟨⟩|apply mA))
  all_goals try exact absurd trivial (‹¬True∨¬True›.elim id id)
  all_goals(try simp only[aF])
  refine .loop (fun q:Nat×Nat×Int=>⟨144,[(7,.int .i64 fun _=>(q.1:Int)),(6,.int .i64 fun _=>q.2.2),(4,.int .i64 fun _=>(i:Int)),(0,.ptr 1000 0),(1,.ptr 1001 0)],(1000,ah s q.2.1 w 0)::[(1001,.box [.bj 179,.nil])]⟩)
   (fun q=>q.1<=7∧q.2.1=i+3+q.1∧q.2.1<=s.size∧0<=q.2.2∧q.2.2<((16^q.1:Nat):Int)∧bs s (7-q.1) q.2.1 q.2.2=(J,P)) (fun q=>7-q.1) (0,i+3,0) ⟨aB _,rfl,i3,fC _,qy,hJ⟩ ?_ fun q E hq=>?_
  ·exact aZ
  obtain⟨c,j,p⟩:=q;obtain⟨e1,e0,e2,e3,e4,e5⟩:=hq;dsimp only at e0 e1 e2 e3 e4 e5;obtain⟨b8,mn⟩:=pm s j;have lp:=b8.toNat_lt;have hx:=t8 (ad s j) zo zo;clear mn lp;have hr:=ri (ad s j);have hp:p<268435456:=by
   have:16^c<=16^7:=sE zd e1;have:(16:Nat)^7=268435456:=zd
   omega
  have hor:=rk p (aW (ad s j));by_cases hc:c<7∧j<s.size∧0<=aW (ad s j)
  ·obtain⟨c1,c2,c3⟩:=hc;rw[show 7-c=(7-(c+1))+1 by omega]at e5;unfold bs at e5;rw[ae ⟨c2,c3⟩]at e5;replace hor:=hor zo zo;have e4':p*16+aW (ad s j)<((16^(c+1):Nat):Int):=by
    have e:16^(c+1)=16^c*16:=qz _ _;omega
   obtain⟨b,hb⟩:∃b,b=ad s j:=⟨_,rfl⟩
   rw[<- hb]at hx hr hor c3 e5 e4';generalize aW b=h at*;rw[hb]at hx;apply af.wk tF mF [(9,[(24,zI h,[])]),(10,[(11,zI h,[])])] fP ?_
   (refine oA ?_;repeat' first|exact⟨⟩|apply mA|apply mC<;>intro)
   all_goals(try simp only[bu])
   all_goals try exact zB
   all_goals(try(exfalso;omega))
   (all_goals try first|exact eZ|(refine qC ?_;repeat' first|exact⟨⟩|apply mA))
   rw[hor];have hI:c+1<=7∧j+1=i+3+(c+1)∧j+1<=s.size∧0<=p*16+h∧p*16+h<((16^(c+1):Nat):Int)∧bs s (7-(c+1)) (j+1) (p*16+h)=(J,P):=⟨zo,zo,zo,zo,e4',e5⟩
   refine dE (ι:=Nat×Nat×Int) (μ:=fun q=>7-q.1) (i:=(c,j,p)) (c+1,j+1,p*16+h) ⟨hI,xW c1 (xX c)⟩ ?_
   (focus(refine aQ ?_;repeat' first|with_reducible apply ai|exact wZ|fail))
   ·exact aS zo
   ·exact aS zo
  ·have e6:bs s (7-c) j p=(j,p):=by
    cases h7:7-c with
    | zero=>rfl
    | succ m=>unfold bs;rw[aa (fun q=>hc ⟨zo,q⟩)]
   obtain⟨rfl,rfl⟩:j=J∧p=P:=by rw[e6]at e5;exact⟨ak Prod.fst e5,ak Prod.snd e5⟩
   obtain⟨b,hb⟩:∃b,b=ad s j:=⟨_,rfl⟩
   rw[<- hb]at hx hr hor hc;generalize aW b=h at*;rw[hb]at hx;apply af.wk tF mF [(9,[(24,zI h,[])]),(10,[(11,zI 0,[])])] fP ?_;have mp:IntKind.i64.wrap ((j:Int)+1)=((j+1:Nat):Int):=aS zo
   (refine oA ?_;repeat' first|exact⟨⟩|apply mA|apply mC<;>intro)
   all_goals(try simp only[bu,aF,mp])
   all_goals try exact zB
   all_goals(try(exfalso;omega))
   all_goals(try simp only[aF])
   (all_goals try first|exact eZ|(refine qC ?_;repeat' first|exact⟨⟩|apply mA))
   all_goals(try(exfalso;simp only[lT,ii,ay]at*;omega))
   all_goals try exact aS zo
 ·unfold bIn bOut;unfold wC wB at g5
  (refine fA [] fP ([(1,[(1,.int .u8 fun _=>117,[(1000,ah s i w 0)]),(2,.int .i64 fun _ => -1,[])]),(3,[(3,.any,[])]),(5,[(1,.int .u8 fun _=>117,[(1000,ah s i w 0)]),(5,.int .u8 fun _=>123,[(1000,ah s i w 0)])]),(6,[(2,.any,[])])]++[(13,[(8,.int .u8 fun _=>125,[(1000,ah s J w 0)])]),(14,[(2,.any,[])]),(16,[(1,.ag [zR t,zI 0],[])]),(18,[(2,.any,[])]),(19,[(2,.ag [.int .i64 fun _=>t.size,.bz fun _=>true],[(1000,bc 1000 1001000001 1 (a++t)),(1001000001,br 1 (a++t))])])]) func168 fun _=>?_;repeat' first|exact⟨⟩|apply mA|apply mC<;>intro)
  all_goals(try simp only[hw1,hw3])
  all_goals try exact zB
  all_goals(try(exfalso;omega))
  (all_goals try first|exact eZ|(refine qC ?_;repeat' first|exact⟨⟩|apply mA))
  all_goals try exact absurd trivial (‹¬True∨¬True›.elim id id)
  all_goals(try simp only[aF])
  refine .loop (fun q:Nat×Nat×Int=>⟨144,[(7,.int .i64 fun _=>(q.1:Int)),(6,.int .i64 fun _=>q.2.2),(4,.int .i64 fun _=>(i:Int)),(0,.ptr 1000 0),(1,.ptr 1001 0)],(1000,ah s q.2.1 w 0)::[(1001,bc 1001 1001001001 0 a),(1001001001,br 0 a)]⟩)
   (fun q=>q.1<=7∧q.2.1=i+3+q.1∧q.2.1<=s.size∧0<=q.2.2∧q.2.2<((16^q.1:Nat):Int)∧bs s (7-q.1) q.2.1 q.2.2=(J,P)) (fun q=>7-q.1) (0,i+3,0) ⟨aB _,rfl,i3,fC _,qy,hJ⟩ ?_ fun q E hq=>?_
  ·exact aZ
  obtain⟨c,j,p⟩:=q;obtain⟨e1,e0,e2,e3,e4,e5⟩:=hq;dsimp only at e0 e1 e2 e3 e4 e5;obtain⟨b8,mn⟩:=pm s j;have lp:=b8.toNat_lt;have hx:=t8 (ad s j) zo zo;clear mn lp;have hr:=ri (ad s j);have hp:p<268435456:=by
   have:16^c<=16^7:=sE zd e1;have:(16:Nat)^7=268435456:=zd
   omega
  have hor:=rk p (aW (ad s j));by_cases hc:c<7∧j<s.size∧0<=aW (ad s j)
  ·obtain⟨c1,c2,c3⟩:=hc;rw[show 7-c=(7-(c+1))+1 by omega]at e5;unfold bs at e5;rw[ae ⟨c2,c3⟩]at e5;replace hor:=hor zo zo;have e4':p*16+aW (ad s j)<((16^(c+1):Nat):Int):=by
    have e:16^(c+1)=16^c*16:=qz _ _;omega
   obtain⟨b,hb⟩:∃b,b=ad s j:=⟨_,rfl⟩
   rw[<- hb]at hx hr hor c3 e5 e4';generalize aW b=h at*;rw[hb]at hx;apply af.wk tF mF [(9,[(24,zI h,[])]),(10,[(11,zI h,[])])] fP ?_
   (refine oA ?_;repeat' first|exact⟨⟩|apply mA|apply mC<;>intro)
   all_goals(try simp only[bu])
   all_goals try exact zB
   all_goals(try(exfalso;omega))
   (all_goals try first|exact eZ|(refine qC ?_;repeat' first|exact⟨⟩|apply mA))
   rw[hor];have hI:c+1<=7∧j+1=i+3+(c+1)∧j+1<=s.size∧0<=p*16+h∧p*16+h<((16^(c+1):Nat):Int)∧bs s (7-(c+1)) (j+1) (p*16+h)=(J,P):=⟨zo,zo,zo,zo,e4',e5⟩
   refine dE (ι:=Nat×Nat×Int) (μ:=fun q=>7-q.1) (i:=(c,j,p)) (c+1,j+1,p*16+h) ⟨hI,xW c1 (xX c)⟩ ?_
   (focus(refine aQ ?_;repeat' first|with_reducible apply ai|exact wZ|fail))
   ·exact aS zo
   ·exact aS zo
  ·have e6:bs s (7-c) j p=(j,p):=by
    cases h7:7-c with
    | zero=>rfl
    | succ m=>unfold bs;rw[aa (fun q=>hc ⟨zo,q⟩)]
   obtain⟨rfl,rfl⟩:j=J∧p=P:=by rw[e6]at e5;exact⟨ak Prod.fst e5,ak Prod.snd e5⟩
   obtain⟨b,hb⟩:∃b,b=ad s j:=⟨_,rfl⟩
   rw[<- hb]at hx hr hor hc;generalize aW b=h at*;rw[hb]at hx;apply af.wk tF mF [(9,[(24,zI h,[])]),(10,[(11,zI 0,[])])] fP ?_;have mp:IntKind.i64.wrap ((j:Int)+1)=((j+1:Nat):Int):=aS zo
   (refine oA ?_;repeat' first|exact⟨⟩|apply mA|apply mC<;>intro)
   all_goals(try simp only[bu,aF,mp])
   all_goals try exact zB
   all_goals(try(exfalso;omega))
   all_goals(try simp only[aF])
   (all_goals try first|exact eZ|(refine qC ?_;repeat' first|exact⟨⟩|apply mA))
   all_goals(try(exfalso;simp only[lT,ii,ay]at*;omega))
   all_goals try exact aS zo
def QY(s:ByteArray)(i:Nat)(w:Int)(b:Option ByteArray)(hs:s.size<=1073741824)(hi:i<s.size)(hu:ad s (i+1)=117∧ad s (i+2)=123)(J:Nat)(P:Int)(hJ:bs s 7 (i+3) 0=(J,P))
 (h1:(J-(i+3)<1∨6<J-(i+3))∨ad s J≠125):
 Af prog 168 [.ptr 1000 0,.ptr 1001 0] ((1000,ah s i w 0)::bIn b) (.ag []) ((1000,ah s J i 13)::bIn b):=by
 have g0:=d7 s i 1 w 0 zo zo;have g1:=d7 s i 2 w 0 zo zo;have g2:=ot fu (ad s (i+1));have hk:ek fu (ad s (i+1)) = -1:=by rw[hu.1];rfl
 rw[hk]at g2;rw[hu.1]at g0 g2;rw[hu.2]at g1;have i3:i+3<=s.size:=by have:=iu (s:=s) (i:=i+2) (by rw[hu.2];decide);omega
 obtain⟨l1,l2,l3⟩:=t7 (s:=s) 7 (i+3) 0 i3;rw[hJ]at l1 l2 l3;dsimp only at l1 l2 l3;have g3:=d7 s J 0 w 0 zo zo;rw[show J+0=J from rfl]at g3;have g4:Af prog 109 [.ptr 1000 0,.int .i64 fun _=>(i:Int),.int .i64 fun _=>13] [(1000,ah s J w 0)] (.ag []) [(1000,ah s J i 13)]:=by
  have:=mm s J w 0 i 13
  rwa [ae rfl,ae rfl]at this
 have g5:=g4;obtain⟨d,hd⟩:∃d,d=ad s J:=⟨_,rfl⟩
 rw[<- hd]at h1 g3;have hw1:IntKind.i64.wrap ((i:Int)+1)=i+1:=ax zo zo;have hw3:IntKind.i64.wrap ((i:Int)+3)=((i+3:Nat):Int):=(ax zo zo).trans zo;unfold fu at g2;rcases b with _|a
 ·unfold bIn
  (refine fA [] fP ([(1,[(1,.int .u8 fun _=>117,[(1000,ah s i w 0)]),(2,.int .i64 fun _ => -1,[])]),(3,[(3,.any,[])]),(5,[(1,.int .u8 fun _=>117,[(1000,ah s i w 0)]),(5,.int .u8 fun _=>123,[(1000,ah s i w 0)])]),(6,[(2,.any,[])])]++[(13,[(8,.int .u8 fun _=>d,[(1000,ah s J w 0)])]),(14,[(2,zT,[(1000,ah s J i 13)])]),(16,[(1,.ag [zR s,zI 0],[])]),(18,[(2,.any,[])]),(19,[(2,.any,[])])]) func168 fun _=>?_;repeat' first|exact⟨⟩|apply mA|apply mC<;>intro)
  all_goals(try simp only[hw1,hw3])
  all_goals try exact zB
  all_goals(try(exfalso;omega))
  (all_goals try first|exact eZ|(refine qC ?_;repeat' first|exact⟨⟩|apply mA))
  all_goals try exact absurd trivial (‹¬True∨¬True›.elim id id)
  all_goals(try simp only[aF])
  refine .loop (fun q:Nat×Nat×Int=>⟨144,[(7,.int .i64 fun _=>(q.1:Int)),(6,.int .i64 fun _=>q.2.2),(4,.int .i64 fun _=>(i:Int)),(0,.ptr 1000 0),(1,.ptr 1001 0)],(1000,ah s q.2.1 w 0)::[(1001,.box [.bj 179,.nil])]⟩)
   (fun q=>q.1<=7∧q.2.1=i+3+q.1∧q.2.1<=s.size∧0<=q.2.2∧q.2.2<((16^q.1:Nat):Int)∧bs s (7-q.1) q.2.1 q.2.2=(J,P)) (fun q=>7-q.1) (0,i+3,0) ⟨aB _,rfl,i3,fC _,qy,hJ⟩ ?_ fun q E hq=>?_
  ·exact aZ
  obtain⟨c,j,p⟩:=q;obtain⟨e1,e0,e2,e3,e4,e5⟩:=hq;dsimp only at e0 e1 e2 e3 e4 e5;obtain⟨b8,mn⟩:=pm s j;have lp:=b8.toNat_lt;have hx:=t8 (ad s j) zo zo;clear mn lp;have hr:=ri (ad s j);have hp:p<268435456:=by
   have:16^c<=16^7:=sE zd e1;have:(16:Nat)^7=268435456:=zd
   omega
  have hor:=rk p (aW (ad s j));by_cases hc:c<7∧j<s.size∧0<=aW (ad s j)
  ·obtain⟨c1,c2,c3⟩:=hc;rw[show 7-c=(7-(c+1))+1 by omega]at e5;unfold bs at e5;rw[ae ⟨c2,c3⟩]at e5;replace hor:=hor zo zo;have e4':p*16+aW (ad s j)<((16^(c+1):Nat):Int):=by
    have e:16^(c+1)=16^c*16:=qz _ _;omega
   obtain⟨b,hb⟩:∃b,b=ad s j:=⟨_,rfl⟩
   rw[<- hb]at hx hr hor c3 e5 e4';generalize aW b=h at*;rw[hb]at hx;apply af.wk tF mF [(9,[(24,zI h,[])]),(10,[(11,zI h,[])])] fP ?_
   (refine oA ?_;repeat' first|exact⟨⟩|apply mA|apply mC<;>intro)
   all_goals(try simp only[bu])
   all_goals try exact zB
   all_goals(try(exfalso;omega))
   (all_goals try first|exact eZ|(refine qC ?_;repeat' first|exact⟨⟩|apply mA))
   rw[hor];have hI:c+1<=7∧j+1=i+3+(c+1)∧j+1<=s.size∧0<=p*16+h∧p*16+h<((16^(c+1):Nat):Int)∧bs s (7-(c+1)) (j+1) (p*16+h)=(J,P):=⟨zo,zo,zo,zo,e4',e5⟩
   refine dE (ι:=Nat×Nat×Int) (μ:=fun q=>7-q.1) (i:=(c,j,p)) (c+1,j+1,p*16+h) ⟨hI,xW c1 (xX c)⟩ ?_
   (focus(refine aQ ?_;repeat' first|with_reducible apply ai|exact wZ|fail))
   ·exact aS zo
   ·exact aS zo
  ·have e6:bs s (7-c) j p=(j,p):=by
    cases h7:7-c with
    | zero=>rfl
    | succ m=>unfold bs;rw[aa (fun q=>hc ⟨zo,q⟩)]
   obtain⟨rfl,rfl⟩:j=J∧p=P:=by rw[e6]at e5;exact⟨ak Prod.fst e5,ak Prod.snd e5⟩
   obtain⟨b,hb⟩:∃b,b=ad s j:=⟨_,rfl⟩
   rw[<- hb]at hx hr hor hc;generalize aW b=h at*;rw[hb]at hx;apply af.wk tF mF [(9,[(24,zI h,[])]),(10,[(11,zI 0,[])])] fP ?_;have mp:IntKind.i64.wrap ((j:Int)+1)=((j+1:Nat):Int):=aS zo
   (refine oA ?_;repeat' first|exact⟨⟩|apply mA|apply mC<;>intro)
   all_goals(try simp only[bu,aF,mp])
   all_goals try exact zB
   all_goals(try(exfalso;omega))
   all_goals(try simp only[aF])
   (all_goals try first|exact eZ|(refine qC ?_;repeat' first|exact⟨⟩|apply mA))
   all_goals(try(exfalso;simp only[lT,ii,ay]at*;omega))
   all_goals try exact aS zo
 ·unfold bIn
  (refine fA [] fP ([(1,[(1,.int .u8 fun _=>117,[(1000,ah s i w 0)]),(2,.int .i64 fun _ => -1,[])]),(3,[(3,.any,[])]),(5,[(1,.int .u8 fun _=>117,[(1000,ah s i w 0)]),(5,.int .u8 fun _=>123,[(1000,ah s i w 0)])]),(6,[(2,.any,[])])]++[(13,[(8,.int .u8 fun _=>d,[(1000,ah s J w 0)])]),(14,[(2,zT,[(1000,ah s J i 13)])]),(16,[(1,.ag [zR s,zI 0],[])]),(18,[(2,.any,[])]),(19,[(2,.any,[])])]) func168 fun _=>?_;repeat' first|exact⟨⟩|apply mA|apply mC<;>intro)
  all_goals(try simp only[hw1,hw3])
  all_goals try exact zB
  all_goals(try(exfalso;omega))
  (all_goals try first|exact eZ|(refine qC ?_;repeat' first|exact⟨⟩|apply mA))
  all_goals try exact absurd trivial (‹¬True∨¬True›.elim id id)
  all_goals(try simp only[aF])
  refine .loop (fun q:Nat×Nat×Int=>⟨144,[(7,.int .i64 fun _=>(q.1:Int)),(6,.int .i64 fun _=>q.2.2),(4,.int .i64 fun _=>(i:Int)),(0,.ptr 1000 0),(1,.ptr 1001 0)],(1000,ah s q.2.1 w 0)::[(1001,bc 1001 1001001001 0 a),(1001001001,br 0 a)]⟩)
   (fun q=>q.1<=7∧q.2.1=i+3+q.1∧q.2.1<=s.size∧0<=q.2.2∧q.2.2<((16^q.1:Nat):Int)∧bs s (7-q.1) q.2.1 q.2.2=(J,P)) (fun q=>7-q.1) (0,i+3,0) ⟨aB _,rfl,i3,fC _,qy,hJ⟩ ?_ fun q E hq=>?_
  ·exact aZ
  obtain⟨c,j,p⟩:=q;obtain⟨e1,e0,e2,e3,e4,e5⟩:=hq;dsimp only at e0 e1 e2 e3 e4 e5;obtain⟨b8,mn⟩:=pm s j;have lp:=b8.toNat_lt;have hx:=t8 (ad s j) zo zo;clear mn lp;have hr:=ri (ad s j);have hp:p<268435456:=by
   have:16^c<=16^7:=sE zd e1;have:(16:Nat)^7=268435456:=zd
   omega
  have hor:=rk p (aW (ad s j));by_cases hc:c<7∧j<s.size∧0<=aW (ad s j)
  ·obtain⟨c1,c2,c3⟩:=hc;rw[show 7-c=(7-(c+1))+1 by omega]at e5;unfold bs at e5;rw[ae ⟨c2,c3⟩]at e5;replace hor:=hor zo zo;have e4':p*16+aW (ad s j)<((16^(c+1):Nat):Int):=by
    have e:16^(c+1)=16^c*16:=qz _ _;omega
   obtain⟨b,hb⟩:∃b,b=ad s j:=⟨_,rfl⟩
   rw[<- hb]at hx hr hor c3 e5 e4';generalize aW b=h at*;rw[hb]at hx;apply af.wk tF mF [(9,[(24,zI h,[])]),(10,[(11,zI h,[])])] fP ?_
   (refine oA ?_;repeat' first|exact⟨⟩|apply mA|apply mC<;>intro)
   all_goals(try simp only[bu])
   all_goals try exact zB
   all_goals(try(exfalso;omega))
   (all_goals try first|exact eZ|(refine qC ?_;repeat' first|exact⟨⟩|apply mA))
   rw[hor];have hI:c+1<=7∧j+1=i+3+(c+1)∧j+1<=s.size∧0<=p*16+h∧p*16+h<((16^(c+1):Nat):Int)∧bs s (7-(c+1)) (j+1) (p*16+h)=(J,P):=⟨zo,zo,zo,zo,e4',e5⟩
   refine dE (ι:=Nat×Nat×Int) (μ:=fun q=>7-q.1) (i:=(c,j,p)) (c+1,j+1,p*16+h) ⟨hI,xW c1 (xX c)⟩ ?_
   (focus(refine aQ ?_;repeat' first|with_reducible apply ai|exact wZ|fail))
   ·exact aS zo
   ·exact aS zo
  ·have e6:bs s (7-c) j p=(j,p):=by
    cases h7:7-c with
    | zero=>rfl
    | succ m=>unfold bs;rw[aa (fun q=>hc ⟨zo,q⟩)]
   obtain⟨rfl,rfl⟩:j=J∧p=P:=by rw[e6]at e5;exact⟨ak Prod.fst e5,ak Prod.snd e5⟩
   obtain⟨b,hb⟩:∃b,b=ad s j:=⟨_,rfl⟩
   rw[<- hb]at hx hr hor hc;generalize aW b=h at*;rw[hb]at hx;apply af.wk tF mF [(9,[(24,zI h,[])]),(10,[(11,zI 0,[])])] fP ?_;have mp:IntKind.i64.wrap ((j:Int)+1)=((j+1:Nat):Int):=aS zo
   (refine oA ?_;repeat' first|exact⟨⟩|apply mA|apply mC<;>intro)
   all_goals(try simp only[bu,aF,mp])
   all_goals try exact zB
   all_goals(try(exfalso;omega))
   all_goals(try simp only[aF])
   (all_goals try first|exact eZ|(refine qC ?_;repeat' first|exact⟨⟩|apply mA))
   all_goals(try(exfalso;simp only[lT,ii,ay]at*;omega))
   all_goals try exact aS zo
def QZ(s:ByteArray)(i:Nat)(w:Int)(b:Option ByteArray)(hs:s.size<=1073741824)(hi:i<s.size)(hu:ad s (i+1)=117∧ad s (i+2)=123)(J:Nat)(P:Int)(hJ:bs s 7 (i+3) 0=(J,P))
 (h1:¬(J-(i+3)<1∨6<J-(i+3))) (h2:ad s J=125) (h3:kU P=false):
 Af prog 168 [.ptr 1000 0,.ptr 1001 0] ((1000,ah s i w 0)::bIn b) (.ag []) ((1000,ah s (J+1) i 16)::bIn b):=by
 have g0:=d7 s i 1 w 0 zo zo;have g1:=d7 s i 2 w 0 zo zo;have g2:=ot fu (ad s (i+1));have hk:ek fu (ad s (i+1)) = -1:=by rw[hu.1];rfl
 rw[hk]at g2;rw[hu.1]at g0 g2;rw[hu.2]at g1;have i3:i+3<=s.size:=by have:=iu (s:=s) (i:=i+2) (by rw[hu.2];decide);omega
 obtain⟨l1,l2,l3⟩:=t7 (s:=s) 7 (i+3) 0 i3;rw[hJ]at l1 l2 l3;dsimp only at l1 l2 l3;have g3:=d7 s J 0 w 0 zo zo;rw[show J+0=J from rfl,h2]at g3;have lJ:J<s.size:=iu (by rw[h2];decide);have g4:=IP P;rw[aa (by rw[h3];decide),aa (by rw[h3];decide)]at g4;have g5:Af prog 109 [.ptr 1000 0,.int .i64 fun _=>(i:Int),.int .i64 fun _=>16] [(1000,ah s (J+1) w 0)] (.ag []) [(1000,ah s (J+1) i 16)]:=by
  have:=mm s (J+1) w 0 i 16
  rwa [ae rfl,ae rfl]at this
 have Zs:IntKind.i64.wrap ((J:Int)+1)=((J+1:Nat):Int):=aS zo;have hw1:IntKind.i64.wrap ((i:Int)+1)=i+1:=ax zo zo;have hw3:IntKind.i64.wrap ((i:Int)+3)=((i+3:Nat):Int):=(ax zo zo).trans zo;unfold fu at g2;rcases b with _|a
 ·unfold bIn
  (refine fA [] fP ([(1,[(1,.int .u8 fun _=>117,[(1000,ah s i w 0)]),(2,.int .i64 fun _ => -1,[])]),(3,[(3,.any,[])]),(5,[(1,.int .u8 fun _=>117,[(1000,ah s i w 0)]),(5,.int .u8 fun _=>123,[(1000,ah s i w 0)])]),(6,[(2,.any,[])])]++[(13,[(8,.int .u8 fun _=>125,[(1000,ah s J w 0)])]),(14,[(2,.any,[])]),(16,[(1,.ag [.str fun _=>⟨#[]⟩,zI 2],[])]),(18,[(2,zT,[(1000,ah s (J+1) i 16)])]),(19,[(2,.any,[])])]) func168 fun _=>?_;repeat' first|exact⟨⟩|apply mA|apply mC<;>intro)
  all_goals(try simp only[hw1,hw3])
  all_goals try exact zB
  all_goals(try(exfalso;omega))
  (all_goals try first|exact eZ|(refine qC ?_;repeat' first|exact⟨⟩|apply mA))
  all_goals try exact absurd trivial (‹¬True∨¬True›.elim id id)
  all_goals(try simp only[aF])
  refine .loop (fun q:Nat×Nat×Int=>⟨144,[(7,.int .i64 fun _=>(q.1:Int)),(6,.int .i64 fun _=>q.2.2),(4,.int .i64 fun _=>(i:Int)),(0,.ptr 1000 0),(1,.ptr 1001 0)],(1000,ah s q.2.1 w 0)::[(1001,.box [.bj 179,.nil])]⟩)
   (fun q=>q.1<=7∧q.2.1=i+3+q.1∧q.2.1<=s.size∧0<=q.2.2∧q.2.2<((16^q.1:Nat):Int)∧bs s (7-q.1) q.2.1 q.2.2=(J,P)) (fun q=>7-q.1) (0,i+3,0) ⟨aB _,rfl,i3,fC _,qy,hJ⟩ ?_ fun q E hq=>?_
  ·exact aZ
  obtain⟨c,j,p⟩:=q;obtain⟨e1,e0,e2,e3,e4,e5⟩:=hq;dsimp only at e0 e1 e2 e3 e4 e5;obtain⟨b8,mn⟩:=pm s j;have lp:=b8.toNat_lt;have hx:=t8 (ad s j) zo zo;clear mn lp;have hr:=ri (ad s j);have hp:p<268435456:=by
   have:16^c<=16^7:=sE zd e1;have:(16:Nat)^7=268435456:=zd
   omega
  have hor:=rk p (aW (ad s j));by_cases hc:c<7∧j<s.size∧0<=aW (ad s j)
  ·obtain⟨c1,c2,c3⟩:=hc;rw[show 7-c=(7-(c+1))+1 by omega]at e5;unfold bs at e5;rw[ae ⟨c2,c3⟩]at e5;replace hor:=hor zo zo;have e4':p*16+aW (ad s j)<((16^(c+1):Nat):Int):=by
    have e:16^(c+1)=16^c*16:=qz _ _;omega
   obtain⟨b,hb⟩:∃b,b=ad s j:=⟨_,rfl⟩
   rw[<- hb]at hx hr hor c3 e5 e4';generalize aW b=h at*;rw[hb]at hx;apply af.wk tF mF [(9,[(24,zI h,[])]),(10,[(11,zI h,[])])] fP ?_
   (refine oA ?_;repeat' first|exact⟨⟩|apply mA|apply mC<;>intro)
   all_goals(try simp only[bu])
   all_goals try exact zB
   all_goals(try(exfalso;omega))
   (all_goals try first|exact eZ|(refine qC ?_;repeat' first|exact⟨⟩|apply mA))
   rw[hor];have hI:c+1<=7∧j+1=i+3+(c+1)∧j+1<=s.size∧0<=p*16+h∧p*16+h<((16^(c+1):Nat):Int)∧bs s (7-(c+1)) (j+1) (p*16+h)=(J,P):=⟨zo,zo,zo,zo,e4',e5⟩
   refine dE (ι:=Nat×Nat×Int) (μ:=fun q=>7-q.1) (i:=(c,j,p)) (c+1,j+1,p*16+h) ⟨hI,xW c1 (xX c)⟩ ?_
   (focus(refine aQ ?_;repeat' first|with_reducible apply ai|exact wZ|fail))
   ·exact aS zo
   ·exact aS zo
  ·have e6:bs s (7-c) j p=(j,p):=by
    cases h7:7-c with
    | zero=>rfl
    | succ m=>unfold bs;rw[aa (fun q=>hc ⟨zo,q⟩)]
   obtain⟨rfl,rfl⟩:j=J∧p=P:=by rw[e6]at e5;exact⟨ak Prod.fst e5,ak Prod.snd e5⟩
   obtain⟨b,hb⟩:∃b,b=ad s j:=⟨_,rfl⟩
   rw[<- hb]at hx hr hor hc;generalize aW b=h at*;rw[hb]at hx;apply af.wk tF mF [(9,[(24,zI h,[])]),(10,[(11,zI 0,[])])] fP ?_;have mp:IntKind.i64.wrap ((j:Int)+1)=((j+1:Nat):Int):=aS zo
   (refine oA ?_;repeat' first|exact⟨⟩|apply mA|apply mC<;>intro)
   all_goals(try simp only[bu,aF,mp])
   all_goals try exact zB
   all_goals(try(exfalso;omega))
   all_goals(try simp only[aF])
   (all_goals try first|exact eZ|(refine qC ?_;repeat' first|exact⟨⟩|apply mA))
   all_goals(try(exfalso;simp only[lT,ii,ay]at*;omega))
   all_goals try exact aS zo
 ·unfold bIn
  (refine fA [] fP ([(1,[(1,.int .u8 fun _=>117,[(1000,ah s i w 0)]),(2,.int .i64 fun _ => -1,[])]),(3,[(3,.any,[])]),(5,[(1,.int .u8 fun _=>117,[(1000,ah s i w 0)]),(5,.int .u8 fun _=>123,[(1000,ah s i w 0)])]),(6,[(2,.any,[])])]++[(13,[(8,.int .u8 fun _=>125,[(1000,ah s J w 0)])]),(14,[(2,.any,[])]),(16,[(1,.ag [.str fun _=>⟨#[]⟩,zI 2],[])]),(18,[(2,zT,[(1000,ah s (J+1) i 16)])]),(19,[(2,.any,[])])]) func168 fun _=>?_;repeat' first|exact⟨⟩|apply mA|apply mC<;>intro)
  all_goals(try simp only[hw1,hw3])
  all_goals try exact zB
  all_goals(try(exfalso;omega))
  (all_goals try first|exact eZ|(refine qC ?_;repeat' first|exact⟨⟩|apply mA))
  all_goals try exact absurd trivial (‹¬True∨¬True›.elim id id)
  all_goals(try simp only[aF])
  refine .loop (fun q:Nat×Nat×Int=>⟨144,[(7,.int .i64 fun _=>(q.1:Int)),(6,.int .i64 fun _=>q.2.2),(4,.int .i64 fun _=>(i:Int)),(0,.ptr 1000 0),(1,.ptr 1001 0)],(1000,ah s q.2.1 w 0)::[(1001,bc 1001 1001001001 0 a),(1001001001,br 0 a)]⟩)
   (fun q=>q.1<=7∧q.2.1=i+3+q.1∧q.2.1<=s.size∧0<=q.2.2∧q.2.2<((16^q.1:Nat):Int)∧bs s (7-q.1) q.2.1 q.2.2=(J,P)) (fun q=>7-q.1) (0,i+3,0) ⟨aB _,rfl,i3,fC _,qy,hJ⟩ ?_ fun q E hq=>?_
  ·exact aZ
  obtain⟨c,j,p⟩:=q;obtain⟨e1,e0,e2,e3,e4,e5⟩:=hq;dsimp only at e0 e1 e2 e3 e4 e5;obtain⟨b8,mn⟩:=pm s j;have lp:=b8.toNat_lt;have hx:=t8 (ad s j) zo zo;clear mn lp;have hr:=ri (ad s j);have hp:p<268435456:=by
   have:16^c<=16^7:=sE zd e1;have:(16:Nat)^7=268435456:=zd
   omega
  have hor:=rk p (aW (ad s j));by_cases hc:c<7∧j<s.size∧0<=aW (ad s j)
  ·obtain⟨c1,c2,c3⟩:=hc;rw[show 7-c=(7-(c+1))+1 by omega]at e5;unfold bs at e5;rw[ae ⟨c2,c3⟩]at e5;replace hor:=hor zo zo;have e4':p*16+aW (ad s j)<((16^(c+1):Nat):Int):=by
    have e:16^(c+1)=16^c*16:=qz _ _;omega
   obtain⟨b,hb⟩:∃b,b=ad s j:=⟨_,rfl⟩
   rw[<- hb]at hx hr hor c3 e5 e4';generalize aW b=h at*;rw[hb]at hx;apply af.wk tF mF [(9,[(24,zI h,[])]),(10,[(11,zI h,[])])] fP ?_
   (refine oA ?_;repeat' first|exact⟨⟩|apply mA|apply mC<;>intro)
   all_goals(try simp only[bu])
   all_goals try exact zB
   all_goals(try(exfalso;omega))
   (all_goals try first|exact eZ|(refine qC ?_;repeat' first|exact⟨⟩|apply mA))
   rw[hor];have hI:c+1<=7∧j+1=i+3+(c+1)∧j+1<=s.size∧0<=p*16+h∧p*16+h<((16^(c+1):Nat):Int)∧bs s (7-(c+1)) (j+1) (p*16+h)=(J,P):=⟨zo,zo,zo,zo,e4',e5⟩
   refine dE (ι:=Nat×Nat×Int) (μ:=fun q=>7-q.1) (i:=(c,j,p)) (c+1,j+1,p*16+h) ⟨hI,xW c1 (xX c)⟩ ?_
   (focus(refine aQ ?_;repeat' first|with_reducible apply ai|exact wZ|fail))
   ·exact aS zo
   ·exact aS zo
  ·have e6:bs s (7-c) j p=(j,p):=by
    cases h7:7-c with
    | zero=>rfl
    | succ m=>unfold bs;rw[aa (fun q=>hc ⟨zo,q⟩)]
   obtain⟨rfl,rfl⟩:j=J∧p=P:=by rw[e6]at e5;exact⟨ak Prod.fst e5,ak Prod.snd e5⟩
   obtain⟨b,hb⟩:∃b,b=ad s j:=⟨_,rfl⟩
   rw[<- hb]at hx hr hor hc;generalize aW b=h at*;rw[hb]at hx;apply af.wk tF mF [(9,[(24,zI h,[])]),(10,[(11,zI 0,[])])] fP ?_;have mp:IntKind.i64.wrap ((j:Int)+1)=((j+1:Nat):Int):=aS zo
   (refine oA ?_;repeat' first|exact⟨⟩|apply mA|apply mC<;>intro)
   all_goals(try simp only[bu,aF,mp])
   all_goals try exact zB
   all_goals(try(exfalso;omega))
   all_goals(try simp only[aF])
   (all_goals try first|exact eZ|(refine qC ?_;repeat' first|exact⟨⟩|apply mA))
   all_goals(try(exfalso;simp only[lT,ii,ay]at*;omega))
   all_goals try exact aS zo
def iT(s:ByteArray)(i:Nat):Option (Nat×Bool×ByteArray):=
 if i+1<s.size∧0<=ek fu (ad s (i+1))then some (i+2,true,⟨#[(Dr.data[(ek fu (ad s (i+1))).toNat]?).getD 0]⟩)
 else if ad s (i+1)=117∧ad s (i+2)=123 then
  if((bs s 7 (i+3) 0).1-(i+3)<1∨6<(bs s 7 (i+3) 0).1-(i+3))∨ad s (bs s 7 (i+3) 0).1≠125 then none
  else if kU (bs s 7 (i+3) 0).2=true then some ((bs s 7 (i+3) 0).1+1,false,Utf8.encode (bs s 7 (i+3) 0).2)else none
 else none
def j5(s:ByteArray)(i:Nat):Nat×Int:=
 if ad s (i+1)=117∧ad s (i+2)=123 then
  if((bs s 7 (i+3) 0).1-(i+3)<1∨6<(bs s 7 (i+3) 0).1-(i+3))∨ad s (bs s 7 (i+3) 0).1≠125 then((bs s 7 (i+3) 0).1,13)else((bs s 7 (i+3) 0).1+1,16)
 else(i,13)
def Q0(s:ByteArray)(i:Nat)(w:Int)(b:Option ByteArray)(hs:s.size<=1073741824)(hi:i<s.size)(ha:∀a,b=some a->a.size<=1073741824)(j:Nat)(k:Bool)(t:ByteArray)(h:iT s i=some (j,k,t)):
 Af prog 168 [.ptr 1000 0,.ptr 1001 0] ((1000,ah s i w 0)::bIn b) (.ag []) ((1000,ah s j w 0)::bOut (if k=true then 360014 else 1440014) t b):=by
 unfold iT at h;split at h
 ·rename_i q;obtain⟨rfl,rfl,rfl⟩:i+2=j∧true=k∧_=t:=by simpa using h
  exact QV s i w b hs q.1 q.2 ha _ rfl
 ·split at h
  ·rename_i q;split at h
   ·exact absurd h zsi
   ·rename_i r;split at h
    ·rename_i p;obtain⟨rfl,rfl,rfl⟩:_=j∧false=k∧_=t:=by simpa using h
     exact QX s i w b hs hi q ha _ _ rfl (fun z=>r (Or.inl z)) (gr.1 fun z=>r (Or.inr z)) p
    ·exact absurd h zsi
  ·exact absurd h zsi
def Q3(s:ByteArray)(i:Nat)(w:Int)(b:Option ByteArray)(hs:s.size<=1073741824)(hi:i<s.size)(h:iT s i=none):
 Af prog 168 [.ptr 1000 0,.ptr 1001 0] ((1000,ah s i w 0)::bIn b) (.ag []) ((1000,ah s (j5 s i).1 i (j5 s i).2)::bIn b):=by
 unfold iT at h;unfold j5;split at h
 ·exact absurd h zsi
 ·rename_i q0;split at h
  ·rename_i q;rw[ae q];split at h
   ·rename_i r;rw[ae r];exact QY s i w b hs hi q _ _ rfl r
   ·rename_i r;rw[aa r];split at h
    ·exact absurd h zsi
    ·rename_i p;exact QZ s i w b hs hi q _ _ rfl (fun z=>r (Or.inl z)) (gr.1 fun z=>r (Or.inr z)) (FF _▸p)
  ·rename_i q;rw[aa q];exact QW s i w b hs hi q0 q
def IQ{s:ByteArray}{i j:Nat}{k:Bool}{t:ByteArray}(hi:i<s.size)(h:iT s i=some (j,k,t)):i+2<=j∧j<=s.size∧t.size<=j-i:=by
 unfold iT at h;split at h
 ·rename_i q;obtain⟨rfl,rfl,rfl⟩:i+2=j∧true=k∧_=t:=by simpa using h
  exact⟨ao _,zo,by show 1<=i+2-i;omega⟩
 ·split at h
  ·rename_i q;have i3:i+3<=s.size:=by have:=iu (s:=s) (i:=i+2) (by rw[q.2];decide);omega
   have:=t7 (s:=s) 7 (i+3) 0 i3;split at h
   ·exact absurd h zsi
   ·rename_i r;have r2:ad s (bs s 7 (i+3) 0).1=125:=gr.1 fun z=>r (Or.inr z);have:=iu (s:=s) (i:=(bs s 7 (i+3) 0).1) (by rw[r2];decide);split at h
    ·obtain⟨rfl,rfl,rfl⟩:_=j∧false=k∧_=t:=by simpa using h
     exact⟨zo,zo,aG (encode_size_le _) zo⟩
    ·exact absurd h zsi
  ·exact absurd h zsi
def IR{s:ByteArray}{i:Nat}(hi:i<s.size)(h:iT s i=none):i<=(j5 s i).1∧(j5 s i).1<=s.size∧0<(j5 s i).2∧(j5 s i).2<100:=by
 unfold j5;split
 ·rename_i q;have i3:i+3<=s.size:=by have:=iu (s:=s) (i:=i+2) (by rw[q.2];decide);omega
  have:=t7 (s:=s) 7 (i+3) 0 i3;split
  ·exact⟨by dsimp only;omega,this.2.2,by dsimp only;omega,by dsimp only;omega⟩
  ·rename_i r;have r2:ad s (bs s 7 (i+3) 0).1=125:=gr.1 fun z=>r (Or.inr z);have:=iu (s:=s) (i:=(bs s 7 (i+3) 0).1) (by rw[r2];decide);exact⟨by dsimp only;omega,by dsimp only;omega,by dsimp only;omega,by dsimp only;omega⟩
 ·exact⟨ao _,by dsimp only;omega,by dsimp only;omega,by dsimp only;omega⟩
end Go.Ai
