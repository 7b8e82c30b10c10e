/- Chapter 15: the scanner: escapes. -/
import Derived.Test.YtbagpkiomjlhkaaGreatDoorNumA
import Derived.Test.YtbagpkiomjlhkaaGreatDoorQuo
import Derived.Laws.Cover4
set_option linter.all false
namespace Go.Ai
open Go Go.Proofs Go.RowKit
set_option maxRecDepth 100000
set_option maxHeartbeats 4000000
def ao3(c:Int):hexV c<16:=by
 unfold hexV idxB;rcases ad5 [((if 65<=c∧c<=70 then c+32 else c).toNat.toUInt8)] hxdB.data.toList with h|h
 ·rw[Lib.indexAny_one]at h;omega
 ·rw[Lib.indexAny_one]at h;have:hxdB.data.toList.length=16:=rfl;omega
def or4(p h:Int)(hp:0<=p∧p<72057594037927936)(hh:0<=h∧h<16):IntKind.i64.wrap ((BitVec.ofInt IntKind.i64.bits (IntKind.i64.wrap (p*2^(min (Int.toNat 4) IntKind.i64.bits))) ||| BitVec.ofInt IntKind.i64.bits h).toNat:Int)=p*16+h:=by
 obtain⟨P,rfl⟩:=Int.eq_ofNat_of_zero_le hp.1;obtain⟨H,rfl⟩:=Int.eq_ofNat_of_zero_le hh.1;have e1:(P:Int)*2^(min (Int.toNat 4) IntKind.i64.bits)=((P*16:Nat):Int):=by
  rw[show min (Int.toNat 4) IntKind.i64.bits=4 from rfl,show(2:Int)^4=16 from rfl];omega
 have e2:∀n:Nat,n<18446744073709551616->(BitVec.ofInt IntKind.i64.bits (n:Int)).toNat=n:=fun n hn=>by
  rw[BitVec.toNat_ofInt];show((n:Int)%((18446744073709551616:Nat):Int)).toNat=n;omega
 have w1:IntKind.i64.wrap ((P*16:Nat):Int)=((P*16:Nat):Int):=w64 (by omega) (by omega);rw[e1,w1,BitVec.toNat_or,e2 _ (by omega),e2 _ (by omega),show P*16=2^4*P by omega,<- Nat.two_pow_add_eq_or_of_lt (by omega)];refine(w64 (by omega) (by omega)).trans ?_;omega
def hexR(s:ByteArray):Nat->Nat->Int->Nat×Int
 | 0,i,p=>(i,p)
 | n+1,i,p=>if i<s.size∧0<=hexV (byt s i)then hexR s n (i+1) (p*16+hexV (byt s i))else(i,p)
theorem aoj{s:ByteArray}:∀(n i:Nat) (p:Int),i<=s.size->i<=(hexR s n i p).1∧(hexR s n i p).1<=i+n∧(hexR s n i p).1<=s.size
 | 0,i,p,h=>⟨Nat.le_refl _,Nat.le_refl _,h⟩
 | n+1,i,p,h=>by
  unfold hexR;split
  ·rename_i q;have:=aoj (s:=s) n (i+1) (p*16+hexV (byt s i)) (by omega);omega
  ·exact⟨Nat.le_refl _,by omega,h⟩
def escS:ByteArray:=⟨#[34,92,110,114,116]⟩
def escT:ByteArray:=⟨#[34,92,10,13,9]⟩
def escS_lt(b:Int):idxB escS b<5:=by
 unfold idxB;rcases ad5 [(b.toNat.toUInt8)] escS.data.toList with h|h
 ·rw[Lib.indexAny_one]at h;omega
 ·rw[Lib.indexAny_one]at h;have:escS.data.toList.length=5:=rfl;omega
def bIn:Option ByteArray->List (Nat×AO)
 | none=>[(1001,.box [.tnil 179,.nil])]
 | some a=>[(1001,bldC 1001 1001001001 0 a),(1001001001,bldR 0 a)]
def bOut(r:Nat)(t:ByteArray):Option ByteArray->List (Nat×AO)
 | none=>[(1001,bldC 1001 r 1 t),(r,bldR 1 t)]
 | some a=>[(1001,bldC 1001 1001001001 1 (a++t)),(1001001001,bldR 1 (a++t))]
def esc_byte(s:ByteArray)(i:Nat)(w:Int)(b:Option ByteArray)(hs:s.size<=1073741824)(hi:i+1<s.size)(hk:0<=idxB escS (byt s (i+1)))(ha:∀a,b=some a->a.size<=1073741824)(c:UInt8)(hc:c=(escT.data[(idxB escS (byt s (i+1))).toNat]?).getD 0):
 Af Tryz.prog 168 [.ptr 1000 0,.ptr 1001 0] ((1000,boxC s i w 0)::bIn b) (.tup []) ((1000,boxC s (i+2) w 0)::bOut 360014 ⟨#[c]⟩ b):=by
 have h0:=aaH s i 1 w 0 (by omega) (by omega);have h1:=aeb escS (byt s (i+1));have hk5:=escS_lt (byt s (i+1));have hw1:IntKind.i64.wrap ((i:Int)+1)=i+1:=w64 (by omega) (by omega);have hw2:IntKind.i64.wrap ((i:Int)+2)=((i+2:Nat):Int):=(w64 (by omega) (by omega)).trans (by omega);generalize idxB escS (byt s (i+1))=k at*;generalize byt s (i+1)=e at*;unfold escS at h1;unfold escT at hc;dsimp only at hc;have z5:((ByteArray.mk (Array.mk [34,92,10,13,9])).size:Int)=5:=rfl;cases b with
 | none=>
  have h2:=aph c;unfold bIn bOut
  (refine fA [] ao1 [(1,[(1,.int .u8 fun _=>e,[(1000,boxC s i w 0)]),(2,zI k,[])]),(3,[(3,.ifc fun _=>true,[(1000,bldC 1000 14 1 ⟨#[c]⟩),(14,bldR 1 ⟨#[c]⟩)])]),(5,[(1,.any,[]),(5,.any,[])])] Tryz.func168 fun _=>?_;repeat' with_reducible first|exact⟨⟩|refine mA ?_ ?_|refine mC (fun _=>?_) fun _=>?_)
  all_goals(try simp only[hw1,hw2,<- hc])
  all_goals(try exact zB)
  all_goals(try(exfalso;omega))
  all_goals exact eZ
 | some a=>
  have h2:=aga c a (ha a rfl);unfold bIn bOut
  (refine fA [] ao1 [(1,[(1,.int .u8 fun _=>e,[(1000,boxC s i w 0)]),(2,zI k,[])]),(3,[(3,.ifc fun _=>true,[(1000,bldC 1000 1001000001 1 (a++⟨#[c]⟩)),(1001000001,bldR 1 (a++⟨#[c]⟩))])]),(5,[(1,.any,[]),(5,.any,[])])] Tryz.func168 fun _=>?_;repeat' with_reducible first|exact⟨⟩|refine mA ?_ ?_|refine mC (fun _=>?_) fun _=>?_)
  all_goals(try simp only[hw1,hw2,<- hc])
  all_goals(try exact zB)
  all_goals(try(exfalso;omega))
  all_goals exact eZ
def esc_no(s:ByteArray)(i:Nat)(w:Int)(b:Option ByteArray)(hs:s.size<=1073741824)(hi:i<s.size)(hk:¬(i+1<s.size∧0<=idxB escS (byt s (i+1))))(hu:¬(byt s (i+1)=117∧byt s (i+2)=123)):
 Af Tryz.prog 168 [.ptr 1000 0,.ptr 1001 0] ((1000,boxC s i w 0)::bIn b) (.tup []) ((1000,boxC s i i 13)::bIn b):=by
 have h0:=aaH s i 1 w 0 (by omega) (by omega);have h3:=aaH s i 2 w 0 (by omega) (by omega);have h1:=aeb escS (byt s (i+1));have hf:Af Tryz.prog 109 [.ptr 1000 0,.int .i64 fun _=>(i:Int),.int .i64 fun _=>13] [(1000,boxC s i w 0)] (.tup []) [(1000,boxC s i i 13)]:=by
  have:=anT s i w 0 i 13
  rwa [if_pos rfl,if_pos rfl]at this
 have hw1:IntKind.i64.wrap ((i:Int)+1)=i+1:=w64 (by omega) (by omega);generalize idxB escS (byt s (i+1))=k at*;generalize byt s (i+1)=e at*;generalize byt s (i+2)=e2 at*;unfold escS at h1;have z5:((ByteArray.mk (Array.mk [34,92,10,13,9])).size:Int)=5:=rfl;cases b with
 | none=>
  unfold bIn
  (refine fA [] ao1 [(1,[(1,.int .u8 fun _=>e,[(1000,boxC s i w 0)]),(2,zI k,[])]),(3,[(3,.any,[])]),(5,[(1,.int .u8 fun _=>e,[(1000,boxC s i w 0)]),(5,.int .u8 fun _=>e2,[(1000,boxC s i w 0)])]),(6,[(2,zT,[(1000,boxC s i i 13)])])] Tryz.func168 fun _=>?_;repeat' with_reducible first|exact⟨⟩|refine mA ?_ ?_|refine mC (fun _=>?_) fun _=>?_)
  all_goals(try simp only[hw1,ite_self])
  all_goals(try exact zB)
  all_goals(try(exfalso;omega))
  all_goals exact eZ
 | some a=>
  unfold bIn
  (refine fA [] ao1 [(1,[(1,.int .u8 fun _=>e,[(1000,boxC s i w 0)]),(2,zI k,[])]),(3,[(3,.any,[])]),(5,[(1,.int .u8 fun _=>e,[(1000,boxC s i w 0)]),(5,.int .u8 fun _=>e2,[(1000,boxC s i w 0)])]),(6,[(2,zT,[(1000,boxC s i i 13)])])] Tryz.func168 fun _=>?_;repeat' with_reducible first|exact⟨⟩|refine mA ?_ ?_|refine mC (fun _=>?_) fun _=>?_)
  all_goals(try simp only[hw1,ite_self])
  all_goals(try exact zB)
  all_goals(try(exfalso;omega))
  all_goals exact eZ
def wsO(t:ByteArray):Option ByteArray->List (Nat×AO)
 | none=>[(1000,bldC 1000 14 1 t),(14,bldR 1 t)]
 | some a=>[(1000,bldC 1000 1001000001 1 (a++t)),(1001000001,bldR 1 (a++t))]
def wsI:Option ByteArray->List (Nat×AO)
 | none=>[(1000,.box [.tnil 179,.nil])]
 | some a=>[(1000,bldC 1000 1001000001 0 a),(1001000001,bldR 0 a)]
def apL(t:ByteArray)(b:Option ByteArray)(ht:t.size<=1073741824)(ha:∀a,b=some a->a.size<=1073741824):Af Tryz.prog 170 [.ptr 1000 0,.str fun _=>t] (wsI b) (.tup [.int .i64 fun _=>t.size,.ifc fun _=>true]) (wsO t b):=by
 cases b with
 | none=>exact ws_fresh t ht
 | some a=>exact aey t a (ha a rfl) ht
def aoO(s:ByteArray)(i:Nat)(w:Int)(b:Option ByteArray)(hs:s.size<=1073741824)(hi:i<s.size)(hu:byt s (i+1)=117∧byt s (i+2)=123)(ha:∀a,b=some a->a.size<=1073741824)(J:Nat)(P:Int)(hJ:hexR s 7 (i+3) 0=(J,P))
 (h1:¬(J-(i+3)<1∨6<J-(i+3))) (h2:byt s J=125) (h3:ptB P=true):
 Af Tryz.prog 168 [.ptr 1000 0,.ptr 1001 0] ((1000,boxC s i w 0)::bIn b) (.tup []) ((1000,boxC s (J+1) w 0)::bOut 1440014 (Utf8.encode P) b):=by
 have g0:=aaH s i 1 w 0 (by omega) (by omega);have g1:=aaH s i 2 w 0 (by omega) (by omega);have g2:=aeb escS (byt s (i+1));have hk:idxB escS (byt s (i+1)) = -1:=by rw[hu.1];rfl
 rw[hk]at g2;rw[hu.1]at g0 g2;rw[hu.2]at g1;have i3:i+3<=s.size:=by have:=anw (s:=s) (i:=i+2) (by rw[hu.2];decide);omega
 obtain⟨l1,l2,l3⟩:=aoj (s:=s) 7 (i+3) 0 i3;rw[hJ]at l1 l2 l3;dsimp only at l1 l2 l3;have g3:=aaH s J 0 w 0 (by omega) (by omega);rw[show J+0=J from rfl,h2]at g3;have g4:=ap1 P;rw[if_pos h3,if_pos h3]at g4;have ht:=encode_size_le P;generalize Utf8.encode P=t at*;have g5:=apL t b (by omega) ha;have hw1:IntKind.i64.wrap ((i:Int)+1)=i+1:=w64 (by omega) (by omega);have hw3:IntKind.i64.wrap ((i:Int)+3)=((i+3:Nat):Int):=(w64 (by omega) (by omega)).trans (by omega);unfold escS at g2;rcases b with _|a
 ·unfold bIn bOut;unfold wsI wsO at g5
  (refine fA [] ao1 ([(1,[(1,.int .u8 fun _=>117,[(1000,boxC s i w 0)]),(2,.int .i64 fun _ => -1,[])]),(3,[(3,.any,[])]),(5,[(1,.int .u8 fun _=>117,[(1000,boxC s i w 0)]),(5,.int .u8 fun _=>123,[(1000,boxC s i w 0)])]),(6,[(2,.any,[])])]++[(13,[(8,.int .u8 fun _=>125,[(1000,boxC s J w 0)])]),(14,[(2,.any,[])]),(16,[(1,.tup [zR t,zI 0],[])]),(18,[(2,.any,[])]),(19,[(2,.tup [.int .i64 fun _=>t.size,.ifc fun _=>true],[(1000,bldC 1000 14 1 t),(14,bldR 1 t)])])]) Tryz.func168 fun _=>?_;repeat' with_reducible first|exact⟨⟩|refine mA ?_ ?_|refine mC (fun _=>?_) fun _=>?_)
  all_goals(try simp only[hw1,hw3])
  all_goals(try exact zB)
  all_goals(try(exfalso;omega))
  (all_goals try first|exact eZ|(refine qC ?_;repeat' with_reducible first|exact⟨⟩|refine mA ?_ ?_))
  all_goals(try(exact absurd trivial (‹¬True∨¬True›.elim id id)))
  all_goals(try simp only[ite_self])
  refine .loop (fun q:Nat×Nat×Int=>⟨144,[(7,.int .i64 fun _=>(q.1:Int)),(6,.int .i64 fun _=>q.2.2),(4,.int .i64 fun _=>(i:Int)),(0,.ptr 1000 0),(1,.ptr 1001 0)],(1000,boxC s q.2.1 w 0)::[(1001,.box [.tnil 179,.nil])]⟩)
   (fun q=>q.1<=7∧q.2.1=i+3+q.1∧q.2.1<=s.size∧0<=q.2.2∧q.2.2<((16^q.1:Nat):Int)∧hexR s (7-q.1) q.2.1 q.2.2=(J,P)) (fun q=>7-q.1) (0,i+3,0) ⟨Nat.zero_le _,rfl,i3,Int.le_refl _,Int.zero_lt_one,hJ⟩ ?_ fun q E hq=>?_
  ·exact aZ
  obtain⟨c,j,p⟩:=q;obtain⟨e1,e0,e2,e3,e4,e5⟩:=hq;dsimp only at e0 e1 e2 e3 e4 e5;obtain⟨b8,hb8⟩:=aoh s j;have hb7:=b8.toNat_lt;have hx:=ao2 (byt s j) (by omega) (by omega);clear hb8 hb7;have hr:=ao3 (byt s j);have hp:p<268435456:=by
   have:16^c<=16^7:=Nat.pow_le_pow_right (by decide) e1;have:(16:Nat)^7=268435456:=by decide
   omega
  have hor:=or4 p (hexV (byt s j));by_cases hc:c<7∧j<s.size∧0<=hexV (byt s j)
  ·obtain⟨c1,c2,c3⟩:=hc;rw[show 7-c=(7-(c+1))+1 by omega]at e5;unfold hexR at e5;rw[if_pos ⟨c2,c3⟩]at e5;replace hor:=hor (by omega) (by omega);have e4':p*16+hexV (byt s j)<((16^(c+1):Nat):Int):=by
    have e:16^(c+1)=16^c*16:=Nat.pow_succ _ _;omega
   obtain⟨b,hb⟩:∃b,b=byt s j:=⟨_,rfl⟩
   rw[<- hb]at hx hr hor c3 e5 e4';generalize hexV b=h at*;rw[hb]at hx;apply AWp.wk tF mF [(9,[(24,zI h,[])]),(10,[(11,zI h,[])])] ao1 ?_
   (refine oA ?_;repeat' with_reducible first|exact⟨⟩|refine mA ?_ ?_|refine mC (fun _=>?_) fun _=>?_)
   all_goals(try simp only[Int.toNat_natCast])
   all_goals(try exact zB)
   all_goals(try(exfalso;omega))
   (all_goals try first|exact eZ|(refine qC ?_;repeat' with_reducible first|exact⟨⟩|refine mA ?_ ?_))
   rw[hor];have hI:c+1<=7∧j+1=i+3+(c+1)∧j+1<=s.size∧0<=p*16+h∧p*16+h<((16^(c+1):Nat):Int)∧hexR s (7-(c+1)) (j+1) (p*16+h)=(J,P):=⟨by omega,by omega,by omega,by omega,e4',e5⟩
   refine dE (ι:=Nat×Nat×Int) (μ:=fun q=>7-q.1) (i:=(c,j,p)) (c+1,j+1,p*16+h) ⟨hI,Nat.sub_lt_sub_left c1 (Nat.lt_succ_self c)⟩ ?_
   (focus(refine aQ ?_;repeat' first|with_reducible apply And.intro|exact wZ|fail))
   ·exact w64n (by omega)
   ·exact w64n (by omega)
  ·have e6:hexR s (7-c) j p=(j,p):=by
    cases h7:7-c with
    | zero=>rfl
    | succ m=>unfold hexR;rw[if_neg (fun q=>hc ⟨by omega,q⟩)]
   obtain⟨rfl,rfl⟩:j=J∧p=P:=by rw[e6]at e5;exact⟨congrArg Prod.fst e5,congrArg Prod.snd e5⟩
   obtain⟨b,hb⟩:∃b,b=byt s j:=⟨_,rfl⟩
   rw[<- hb]at hx hr hor hc;generalize hexV b=h at*;rw[hb]at hx;apply AWp.wk tF mF [(9,[(24,zI h,[])]),(10,[(11,zI 0,[])])] ao1 ?_;have hwj:IntKind.i64.wrap ((j:Int)+1)=((j+1:Nat):Int):=w64n (by omega)
   (refine oA ?_;repeat' with_reducible first|exact⟨⟩|refine mA ?_ ?_|refine mC (fun _=>?_) fun _=>?_)
   all_goals(try simp only[Int.toNat_natCast,ite_self,hwj])
   all_goals(try exact zB)
   all_goals(try(exfalso;omega))
   all_goals(try simp only[ite_self])
   (all_goals try first|exact eZ|(refine qC ?_;repeat' with_reducible first|exact⟨⟩|refine mA ?_ ?_))
   all_goals(try(exfalso;simp only[not_true_eq_false,or_false,and_true]at*;omega))
   all_goals(try(exact w64n (by omega)))
 ·unfold bIn bOut;unfold wsI wsO at g5
  (refine fA [] ao1 ([(1,[(1,.int .u8 fun _=>117,[(1000,boxC s i w 0)]),(2,.int .i64 fun _ => -1,[])]),(3,[(3,.any,[])]),(5,[(1,.int .u8 fun _=>117,[(1000,boxC s i w 0)]),(5,.int .u8 fun _=>123,[(1000,boxC s i w 0)])]),(6,[(2,.any,[])])]++[(13,[(8,.int .u8 fun _=>125,[(1000,boxC s J w 0)])]),(14,[(2,.any,[])]),(16,[(1,.tup [zR t,zI 0],[])]),(18,[(2,.any,[])]),(19,[(2,.tup [.int .i64 fun _=>t.size,.ifc fun _=>true],[(1000,bldC 1000 1001000001 1 (a++t)),(1001000001,bldR 1 (a++t))])])]) Tryz.func168 fun _=>?_;repeat' with_reducible first|exact⟨⟩|refine mA ?_ ?_|refine mC (fun _=>?_) fun _=>?_)
  all_goals(try simp only[hw1,hw3])
  all_goals(try exact zB)
  all_goals(try(exfalso;omega))
  (all_goals try first|exact eZ|(refine qC ?_;repeat' with_reducible first|exact⟨⟩|refine mA ?_ ?_))
  all_goals(try(exact absurd trivial (‹¬True∨¬True›.elim id id)))
  all_goals(try simp only[ite_self])
  refine .loop (fun q:Nat×Nat×Int=>⟨144,[(7,.int .i64 fun _=>(q.1:Int)),(6,.int .i64 fun _=>q.2.2),(4,.int .i64 fun _=>(i:Int)),(0,.ptr 1000 0),(1,.ptr 1001 0)],(1000,boxC s q.2.1 w 0)::[(1001,bldC 1001 1001001001 0 a),(1001001001,bldR 0 a)]⟩)
   (fun q=>q.1<=7∧q.2.1=i+3+q.1∧q.2.1<=s.size∧0<=q.2.2∧q.2.2<((16^q.1:Nat):Int)∧hexR s (7-q.1) q.2.1 q.2.2=(J,P)) (fun q=>7-q.1) (0,i+3,0) ⟨Nat.zero_le _,rfl,i3,Int.le_refl _,Int.zero_lt_one,hJ⟩ ?_ fun q E hq=>?_
  ·exact aZ
  obtain⟨c,j,p⟩:=q;obtain⟨e1,e0,e2,e3,e4,e5⟩:=hq;dsimp only at e0 e1 e2 e3 e4 e5;obtain⟨b8,hb8⟩:=aoh s j;have hb7:=b8.toNat_lt;have hx:=ao2 (byt s j) (by omega) (by omega);clear hb8 hb7;have hr:=ao3 (byt s j);have hp:p<268435456:=by
   have:16^c<=16^7:=Nat.pow_le_pow_right (by decide) e1;have:(16:Nat)^7=268435456:=by decide
   omega
  have hor:=or4 p (hexV (byt s j));by_cases hc:c<7∧j<s.size∧0<=hexV (byt s j)
  ·obtain⟨c1,c2,c3⟩:=hc;rw[show 7-c=(7-(c+1))+1 by omega]at e5;unfold hexR at e5;rw[if_pos ⟨c2,c3⟩]at e5;replace hor:=hor (by omega) (by omega);have e4':p*16+hexV (byt s j)<((16^(c+1):Nat):Int):=by
    have e:16^(c+1)=16^c*16:=Nat.pow_succ _ _;omega
   obtain⟨b,hb⟩:∃b,b=byt s j:=⟨_,rfl⟩
   rw[<- hb]at hx hr hor c3 e5 e4';generalize hexV b=h at*;rw[hb]at hx;apply AWp.wk tF mF [(9,[(24,zI h,[])]),(10,[(11,zI h,[])])] ao1 ?_
   (refine oA ?_;repeat' with_reducible first|exact⟨⟩|refine mA ?_ ?_|refine mC (fun _=>?_) fun _=>?_)
   all_goals(try simp only[Int.toNat_natCast])
   all_goals(try exact zB)
   all_goals(try(exfalso;omega))
   (all_goals try first|exact eZ|(refine qC ?_;repeat' with_reducible first|exact⟨⟩|refine mA ?_ ?_))
   rw[hor];have hI:c+1<=7∧j+1=i+3+(c+1)∧j+1<=s.size∧0<=p*16+h∧p*16+h<((16^(c+1):Nat):Int)∧hexR s (7-(c+1)) (j+1) (p*16+h)=(J,P):=⟨by omega,by omega,by omega,by omega,e4',e5⟩
   refine dE (ι:=Nat×Nat×Int) (μ:=fun q=>7-q.1) (i:=(c,j,p)) (c+1,j+1,p*16+h) ⟨hI,Nat.sub_lt_sub_left c1 (Nat.lt_succ_self c)⟩ ?_
   (focus(refine aQ ?_;repeat' first|with_reducible apply And.intro|exact wZ|fail))
   ·exact w64n (by omega)
   ·exact w64n (by omega)
  ·have e6:hexR s (7-c) j p=(j,p):=by
    cases h7:7-c with
    | zero=>rfl
    | succ m=>unfold hexR;rw[if_neg (fun q=>hc ⟨by omega,q⟩)]
   obtain⟨rfl,rfl⟩:j=J∧p=P:=by rw[e6]at e5;exact⟨congrArg Prod.fst e5,congrArg Prod.snd e5⟩
   obtain⟨b,hb⟩:∃b,b=byt s j:=⟨_,rfl⟩
   rw[<- hb]at hx hr hor hc;generalize hexV b=h at*;rw[hb]at hx;apply AWp.wk tF mF [(9,[(24,zI h,[])]),(10,[(11,zI 0,[])])] ao1 ?_;have hwj:IntKind.i64.wrap ((j:Int)+1)=((j+1:Nat):Int):=w64n (by omega)
   (refine oA ?_;repeat' with_reducible first|exact⟨⟩|refine mA ?_ ?_|refine mC (fun _=>?_) fun _=>?_)
   all_goals(try simp only[Int.toNat_natCast,ite_self,hwj])
   all_goals(try exact zB)
   all_goals(try(exfalso;omega))
   all_goals(try simp only[ite_self])
   (all_goals try first|exact eZ|(refine qC ?_;repeat' with_reducible first|exact⟨⟩|refine mA ?_ ?_))
   all_goals(try(exfalso;simp only[not_true_eq_false,or_false,and_true]at*;omega))
   all_goals(try(exact w64n (by omega)))
def ape(s:ByteArray)(i:Nat)(w:Int)(b:Option ByteArray)(hs:s.size<=1073741824)(hi:i<s.size)(hu:byt s (i+1)=117∧byt s (i+2)=123)(J:Nat)(P:Int)(hJ:hexR s 7 (i+3) 0=(J,P))
 (h1:(J-(i+3)<1∨6<J-(i+3))∨byt s J≠125):
 Af Tryz.prog 168 [.ptr 1000 0,.ptr 1001 0] ((1000,boxC s i w 0)::bIn b) (.tup []) ((1000,boxC s J i 13)::bIn b):=by
 have g0:=aaH s i 1 w 0 (by omega) (by omega);have g1:=aaH s i 2 w 0 (by omega) (by omega);have g2:=aeb escS (byt s (i+1));have hk:idxB escS (byt s (i+1)) = -1:=by rw[hu.1];rfl
 rw[hk]at g2;rw[hu.1]at g0 g2;rw[hu.2]at g1;have i3:i+3<=s.size:=by have:=anw (s:=s) (i:=i+2) (by rw[hu.2];decide);omega
 obtain⟨l1,l2,l3⟩:=aoj (s:=s) 7 (i+3) 0 i3;rw[hJ]at l1 l2 l3;dsimp only at l1 l2 l3;have g3:=aaH s J 0 w 0 (by omega) (by omega);rw[show J+0=J from rfl]at g3;have g4:Af Tryz.prog 109 [.ptr 1000 0,.int .i64 fun _=>(i:Int),.int .i64 fun _=>13] [(1000,boxC s J w 0)] (.tup []) [(1000,boxC s J i 13)]:=by
  have:=anT s J w 0 i 13
  rwa [if_pos rfl,if_pos rfl]at this
 have g5:=g4;obtain⟨d,hd⟩:∃d,d=byt s J:=⟨_,rfl⟩
 rw[<- hd]at h1 g3;have hw1:IntKind.i64.wrap ((i:Int)+1)=i+1:=w64 (by omega) (by omega);have hw3:IntKind.i64.wrap ((i:Int)+3)=((i+3:Nat):Int):=(w64 (by omega) (by omega)).trans (by omega);unfold escS at g2;rcases b with _|a
 ·unfold bIn
  (refine fA [] ao1 ([(1,[(1,.int .u8 fun _=>117,[(1000,boxC s i w 0)]),(2,.int .i64 fun _ => -1,[])]),(3,[(3,.any,[])]),(5,[(1,.int .u8 fun _=>117,[(1000,boxC s i w 0)]),(5,.int .u8 fun _=>123,[(1000,boxC s i w 0)])]),(6,[(2,.any,[])])]++[(13,[(8,.int .u8 fun _=>d,[(1000,boxC s J w 0)])]),(14,[(2,zT,[(1000,boxC s J i 13)])]),(16,[(1,.tup [zR s,zI 0],[])]),(18,[(2,.any,[])]),(19,[(2,.any,[])])]) Tryz.func168 fun _=>?_;repeat' with_reducible first|exact⟨⟩|refine mA ?_ ?_|refine mC (fun _=>?_) fun _=>?_)
  all_goals(try simp only[hw1,hw3])
  all_goals(try exact zB)
  all_goals(try(exfalso;omega))
  (all_goals try first|exact eZ|(refine qC ?_;repeat' with_reducible first|exact⟨⟩|refine mA ?_ ?_))
  all_goals(try(exact absurd trivial (‹¬True∨¬True›.elim id id)))
  all_goals(try simp only[ite_self])
  refine .loop (fun q:Nat×Nat×Int=>⟨144,[(7,.int .i64 fun _=>(q.1:Int)),(6,.int .i64 fun _=>q.2.2),(4,.int .i64 fun _=>(i:Int)),(0,.ptr 1000 0),(1,.ptr 1001 0)],(1000,boxC s q.2.1 w 0)::[(1001,.box [.tnil 179,.nil])]⟩)
   (fun q=>q.1<=7∧q.2.1=i+3+q.1∧q.2.1<=s.size∧0<=q.2.2∧q.2.2<((16^q.1:Nat):Int)∧hexR s (7-q.1) q.2.1 q.2.2=(J,P)) (fun q=>7-q.1) (0,i+3,0) ⟨Nat.zero_le _,rfl,i3,Int.le_refl _,Int.zero_lt_one,hJ⟩ ?_ fun q E hq=>?_
  ·exact aZ
  obtain⟨c,j,p⟩:=q;obtain⟨e1,e0,e2,e3,e4,e5⟩:=hq;dsimp only at e0 e1 e2 e3 e4 e5;obtain⟨b8,hb8⟩:=aoh s j;have hb7:=b8.toNat_lt;have hx:=ao2 (byt s j) (by omega) (by omega);clear hb8 hb7;have hr:=ao3 (byt s j);have hp:p<268435456:=by
   have:16^c<=16^7:=Nat.pow_le_pow_right (by decide) e1;have:(16:Nat)^7=268435456:=by decide
   omega
  have hor:=or4 p (hexV (byt s j));by_cases hc:c<7∧j<s.size∧0<=hexV (byt s j)
  ·obtain⟨c1,c2,c3⟩:=hc;rw[show 7-c=(7-(c+1))+1 by omega]at e5;unfold hexR at e5;rw[if_pos ⟨c2,c3⟩]at e5;replace hor:=hor (by omega) (by omega);have e4':p*16+hexV (byt s j)<((16^(c+1):Nat):Int):=by
    have e:16^(c+1)=16^c*16:=Nat.pow_succ _ _;omega
   obtain⟨b,hb⟩:∃b,b=byt s j:=⟨_,rfl⟩
   rw[<- hb]at hx hr hor c3 e5 e4';generalize hexV b=h at*;rw[hb]at hx;apply AWp.wk tF mF [(9,[(24,zI h,[])]),(10,[(11,zI h,[])])] ao1 ?_
   (refine oA ?_;repeat' with_reducible first|exact⟨⟩|refine mA ?_ ?_|refine mC (fun _=>?_) fun _=>?_)
   all_goals(try simp only[Int.toNat_natCast])
   all_goals(try exact zB)
   all_goals(try(exfalso;omega))
   (all_goals try first|exact eZ|(refine qC ?_;repeat' with_reducible first|exact⟨⟩|refine mA ?_ ?_))
   rw[hor];have hI:c+1<=7∧j+1=i+3+(c+1)∧j+1<=s.size∧0<=p*16+h∧p*16+h<((16^(c+1):Nat):Int)∧hexR s (7-(c+1)) (j+1) (p*16+h)=(J,P):=⟨by omega,by omega,by omega,by omega,e4',e5⟩
   refine dE (ι:=Nat×Nat×Int) (μ:=fun q=>7-q.1) (i:=(c,j,p)) (c+1,j+1,p*16+h) ⟨hI,Nat.sub_lt_sub_left c1 (Nat.lt_succ_self c)⟩ ?_
   (focus(refine aQ ?_;repeat' first|with_reducible apply And.intro|exact wZ|fail))
   ·exact w64n (by omega)
   ·exact w64n (by omega)
  ·have e6:hexR s (7-c) j p=(j,p):=by
    cases h7:7-c with
    | zero=>rfl
    | succ m=>unfold hexR;rw[if_neg (fun q=>hc ⟨by omega,q⟩)]
   obtain⟨rfl,rfl⟩:j=J∧p=P:=by rw[e6]at e5;exact⟨congrArg Prod.fst e5,congrArg Prod.snd e5⟩
   obtain⟨b,hb⟩:∃b,b=byt s j:=⟨_,rfl⟩
   rw[<- hb]at hx hr hor hc;generalize hexV b=h at*;rw[hb]at hx;apply AWp.wk tF mF [(9,[(24,zI h,[])]),(10,[(11,zI 0,[])])] ao1 ?_;have hwj:IntKind.i64.wrap ((j:Int)+1)=((j+1:Nat):Int):=w64n (by omega)
   (refine oA ?_;repeat' with_reducible first|exact⟨⟩|refine mA ?_ ?_|refine mC (fun _=>?_) fun _=>?_)
   all_goals(try simp only[Int.toNat_natCast,ite_self,hwj])
   all_goals(try exact zB)
   all_goals(try(exfalso;omega))
   all_goals(try simp only[ite_self])
   (all_goals try first|exact eZ|(refine qC ?_;repeat' with_reducible first|exact⟨⟩|refine mA ?_ ?_))
   all_goals(try(exfalso;simp only[not_true_eq_false,or_false,and_true]at*;omega))
   all_goals(try(exact w64n (by omega)))
 ·unfold bIn
  (refine fA [] ao1 ([(1,[(1,.int .u8 fun _=>117,[(1000,boxC s i w 0)]),(2,.int .i64 fun _ => -1,[])]),(3,[(3,.any,[])]),(5,[(1,.int .u8 fun _=>117,[(1000,boxC s i w 0)]),(5,.int .u8 fun _=>123,[(1000,boxC s i w 0)])]),(6,[(2,.any,[])])]++[(13,[(8,.int .u8 fun _=>d,[(1000,boxC s J w 0)])]),(14,[(2,zT,[(1000,boxC s J i 13)])]),(16,[(1,.tup [zR s,zI 0],[])]),(18,[(2,.any,[])]),(19,[(2,.any,[])])]) Tryz.func168 fun _=>?_;repeat' with_reducible first|exact⟨⟩|refine mA ?_ ?_|refine mC (fun _=>?_) fun _=>?_)
  all_goals(try simp only[hw1,hw3])
  all_goals(try exact zB)
  all_goals(try(exfalso;omega))
  (all_goals try first|exact eZ|(refine qC ?_;repeat' with_reducible first|exact⟨⟩|refine mA ?_ ?_))
  all_goals(try(exact absurd trivial (‹¬True∨¬True›.elim id id)))
  all_goals(try simp only[ite_self])
  refine .loop (fun q:Nat×Nat×Int=>⟨144,[(7,.int .i64 fun _=>(q.1:Int)),(6,.int .i64 fun _=>q.2.2),(4,.int .i64 fun _=>(i:Int)),(0,.ptr 1000 0),(1,.ptr 1001 0)],(1000,boxC s q.2.1 w 0)::[(1001,bldC 1001 1001001001 0 a),(1001001001,bldR 0 a)]⟩)
   (fun q=>q.1<=7∧q.2.1=i+3+q.1∧q.2.1<=s.size∧0<=q.2.2∧q.2.2<((16^q.1:Nat):Int)∧hexR s (7-q.1) q.2.1 q.2.2=(J,P)) (fun q=>7-q.1) (0,i+3,0) ⟨Nat.zero_le _,rfl,i3,Int.le_refl _,Int.zero_lt_one,hJ⟩ ?_ fun q E hq=>?_
  ·exact aZ
  obtain⟨c,j,p⟩:=q;obtain⟨e1,e0,e2,e3,e4,e5⟩:=hq;dsimp only at e0 e1 e2 e3 e4 e5;obtain⟨b8,hb8⟩:=aoh s j;have hb7:=b8.toNat_lt;have hx:=ao2 (byt s j) (by omega) (by omega);clear hb8 hb7;have hr:=ao3 (byt s j);have hp:p<268435456:=by
   have:16^c<=16^7:=Nat.pow_le_pow_right (by decide) e1;have:(16:Nat)^7=268435456:=by decide
   omega
  have hor:=or4 p (hexV (byt s j));by_cases hc:c<7∧j<s.size∧0<=hexV (byt s j)
  ·obtain⟨c1,c2,c3⟩:=hc;rw[show 7-c=(7-(c+1))+1 by omega]at e5;unfold hexR at e5;rw[if_pos ⟨c2,c3⟩]at e5;replace hor:=hor (by omega) (by omega);have e4':p*16+hexV (byt s j)<((16^(c+1):Nat):Int):=by
    have e:16^(c+1)=16^c*16:=Nat.pow_succ _ _;omega
   obtain⟨b,hb⟩:∃b,b=byt s j:=⟨_,rfl⟩
   rw[<- hb]at hx hr hor c3 e5 e4';generalize hexV b=h at*;rw[hb]at hx;apply AWp.wk tF mF [(9,[(24,zI h,[])]),(10,[(11,zI h,[])])] ao1 ?_
   (refine oA ?_;repeat' with_reducible first|exact⟨⟩|refine mA ?_ ?_|refine mC (fun _=>?_) fun _=>?_)
   all_goals(try simp only[Int.toNat_natCast])
   all_goals(try exact zB)
   all_goals(try(exfalso;omega))
   (all_goals try first|exact eZ|(refine qC ?_;repeat' with_reducible first|exact⟨⟩|refine mA ?_ ?_))
   rw[hor];have hI:c+1<=7∧j+1=i+3+(c+1)∧j+1<=s.size∧0<=p*16+h∧p*16+h<((16^(c+1):Nat):Int)∧hexR s (7-(c+1)) (j+1) (p*16+h)=(J,P):=⟨by omega,by omega,by omega,by omega,e4',e5⟩
   refine dE (ι:=Nat×Nat×Int) (μ:=fun q=>7-q.1) (i:=(c,j,p)) (c+1,j+1,p*16+h) ⟨hI,Nat.sub_lt_sub_left c1 (Nat.lt_succ_self c)⟩ ?_
   (focus(refine aQ ?_;repeat' first|with_reducible apply And.intro|exact wZ|fail))
   ·exact w64n (by omega)
   ·exact w64n (by omega)
  ·have e6:hexR s (7-c) j p=(j,p):=by
    cases h7:7-c with
    | zero=>rfl
    | succ m=>unfold hexR;rw[if_neg (fun q=>hc ⟨by omega,q⟩)]
   obtain⟨rfl,rfl⟩:j=J∧p=P:=by rw[e6]at e5;exact⟨congrArg Prod.fst e5,congrArg Prod.snd e5⟩
   obtain⟨b,hb⟩:∃b,b=byt s j:=⟨_,rfl⟩
   rw[<- hb]at hx hr hor hc;generalize hexV b=h at*;rw[hb]at hx;apply AWp.wk tF mF [(9,[(24,zI h,[])]),(10,[(11,zI 0,[])])] ao1 ?_;have hwj:IntKind.i64.wrap ((j:Int)+1)=((j+1:Nat):Int):=w64n (by omega)
   (refine oA ?_;repeat' with_reducible first|exact⟨⟩|refine mA ?_ ?_|refine mC (fun _=>?_) fun _=>?_)
   all_goals(try simp only[Int.toNat_natCast,ite_self,hwj])
   all_goals(try exact zB)
   all_goals(try(exfalso;omega))
   all_goals(try simp only[ite_self])
   (all_goals try first|exact eZ|(refine qC ?_;repeat' with_reducible first|exact⟨⟩|refine mA ?_ ?_))
   all_goals(try(exfalso;simp only[not_true_eq_false,or_false,and_true]at*;omega))
   all_goals(try(exact w64n (by omega)))
def aoP(s:ByteArray)(i:Nat)(w:Int)(b:Option ByteArray)(hs:s.size<=1073741824)(hi:i<s.size)(hu:byt s (i+1)=117∧byt s (i+2)=123)(J:Nat)(P:Int)(hJ:hexR s 7 (i+3) 0=(J,P))
 (h1:¬(J-(i+3)<1∨6<J-(i+3))) (h2:byt s J=125) (h3:ptB P=false):
 Af Tryz.prog 168 [.ptr 1000 0,.ptr 1001 0] ((1000,boxC s i w 0)::bIn b) (.tup []) ((1000,boxC s (J+1) i 16)::bIn b):=by
 have g0:=aaH s i 1 w 0 (by omega) (by omega);have g1:=aaH s i 2 w 0 (by omega) (by omega);have g2:=aeb escS (byt s (i+1));have hk:idxB escS (byt s (i+1)) = -1:=by rw[hu.1];rfl
 rw[hk]at g2;rw[hu.1]at g0 g2;rw[hu.2]at g1;have i3:i+3<=s.size:=by have:=anw (s:=s) (i:=i+2) (by rw[hu.2];decide);omega
 obtain⟨l1,l2,l3⟩:=aoj (s:=s) 7 (i+3) 0 i3;rw[hJ]at l1 l2 l3;dsimp only at l1 l2 l3;have g3:=aaH s J 0 w 0 (by omega) (by omega);rw[show J+0=J from rfl,h2]at g3;have lJ:J<s.size:=anw (by rw[h2];decide);have g4:=ap1 P;rw[if_neg (by rw[h3];decide),if_neg (by rw[h3];decide)]at g4;have g5:Af Tryz.prog 109 [.ptr 1000 0,.int .i64 fun _=>(i:Int),.int .i64 fun _=>16] [(1000,boxC s (J+1) w 0)] (.tup []) [(1000,boxC s (J+1) i 16)]:=by
  have:=anT s (J+1) w 0 i 16
  rwa [if_pos rfl,if_pos rfl]at this
 have hwJ:IntKind.i64.wrap ((J:Int)+1)=((J+1:Nat):Int):=w64n (by omega);have hw1:IntKind.i64.wrap ((i:Int)+1)=i+1:=w64 (by omega) (by omega);have hw3:IntKind.i64.wrap ((i:Int)+3)=((i+3:Nat):Int):=(w64 (by omega) (by omega)).trans (by omega);unfold escS at g2;rcases b with _|a
 ·unfold bIn
  (refine fA [] ao1 ([(1,[(1,.int .u8 fun _=>117,[(1000,boxC s i w 0)]),(2,.int .i64 fun _ => -1,[])]),(3,[(3,.any,[])]),(5,[(1,.int .u8 fun _=>117,[(1000,boxC s i w 0)]),(5,.int .u8 fun _=>123,[(1000,boxC s i w 0)])]),(6,[(2,.any,[])])]++[(13,[(8,.int .u8 fun _=>125,[(1000,boxC s J w 0)])]),(14,[(2,.any,[])]),(16,[(1,.tup [.str fun _=>⟨#[]⟩,zI 2],[])]),(18,[(2,zT,[(1000,boxC s (J+1) i 16)])]),(19,[(2,.any,[])])]) Tryz.func168 fun _=>?_;repeat' with_reducible first|exact⟨⟩|refine mA ?_ ?_|refine mC (fun _=>?_) fun _=>?_)
  all_goals(try simp only[hw1,hw3])
  all_goals(try exact zB)
  all_goals(try(exfalso;omega))
  (all_goals try first|exact eZ|(refine qC ?_;repeat' with_reducible first|exact⟨⟩|refine mA ?_ ?_))
  all_goals(try(exact absurd trivial (‹¬True∨¬True›.elim id id)))
  all_goals(try simp only[ite_self])
  refine .loop (fun q:Nat×Nat×Int=>⟨144,[(7,.int .i64 fun _=>(q.1:Int)),(6,.int .i64 fun _=>q.2.2),(4,.int .i64 fun _=>(i:Int)),(0,.ptr 1000 0),(1,.ptr 1001 0)],(1000,boxC s q.2.1 w 0)::[(1001,.box [.tnil 179,.nil])]⟩)
   (fun q=>q.1<=7∧q.2.1=i+3+q.1∧q.2.1<=s.size∧0<=q.2.2∧q.2.2<((16^q.1:Nat):Int)∧hexR s (7-q.1) q.2.1 q.2.2=(J,P)) (fun q=>7-q.1) (0,i+3,0) ⟨Nat.zero_le _,rfl,i3,Int.le_refl _,Int.zero_lt_one,hJ⟩ ?_ fun q E hq=>?_
  ·exact aZ
  obtain⟨c,j,p⟩:=q;obtain⟨e1,e0,e2,e3,e4,e5⟩:=hq;dsimp only at e0 e1 e2 e3 e4 e5;obtain⟨b8,hb8⟩:=aoh s j;have hb7:=b8.toNat_lt;have hx:=ao2 (byt s j) (by omega) (by omega);clear hb8 hb7;have hr:=ao3 (byt s j);have hp:p<268435456:=by
   have:16^c<=16^7:=Nat.pow_le_pow_right (by decide) e1;have:(16:Nat)^7=268435456:=by decide
   omega
  have hor:=or4 p (hexV (byt s j));by_cases hc:c<7∧j<s.size∧0<=hexV (byt s j)
  ·obtain⟨c1,c2,c3⟩:=hc;rw[show 7-c=(7-(c+1))+1 by omega]at e5;unfold hexR at e5;rw[if_pos ⟨c2,c3⟩]at e5;replace hor:=hor (by omega) (by omega);have e4':p*16+hexV (byt s j)<((16^(c+1):Nat):Int):=by
    have e:16^(c+1)=16^c*16:=Nat.pow_succ _ _;omega
   obtain⟨b,hb⟩:∃b,b=byt s j:=⟨_,rfl⟩
   rw[<- hb]at hx hr hor c3 e5 e4';generalize hexV b=h at*;rw[hb]at hx;apply AWp.wk tF mF [(9,[(24,zI h,[])]),(10,[(11,zI h,[])])] ao1 ?_
   (refine oA ?_;repeat' with_reducible first|exact⟨⟩|refine mA ?_ ?_|refine mC (fun _=>?_) fun _=>?_)
   all_goals(try simp only[Int.toNat_natCast])
   all_goals(try exact zB)
   all_goals(try(exfalso;omega))
   (all_goals try first|exact eZ|(refine qC ?_;repeat' with_reducible first|exact⟨⟩|refine mA ?_ ?_))
   rw[hor];have hI:c+1<=7∧j+1=i+3+(c+1)∧j+1<=s.size∧0<=p*16+h∧p*16+h<((16^(c+1):Nat):Int)∧hexR s (7-(c+1)) (j+1) (p*16+h)=(J,P):=⟨by omega,by omega,by omega,by omega,e4',e5⟩
   refine dE (ι:=Nat×Nat×Int) (μ:=fun q=>7-q.1) (i:=(c,j,p)) (c+1,j+1,p*16+h) ⟨hI,Nat.sub_lt_sub_left c1 (Nat.lt_succ_self c)⟩ ?_
   (focus(refine aQ ?_;repeat' first|with_reducible apply And.intro|exact wZ|fail))
   ·exact w64n (by omega)
   ·exact w64n (by omega)
  ·have e6:hexR s (7-c) j p=(j,p):=by
    cases h7:7-c with
    | zero=>rfl
    | succ m=>unfold hexR;rw[if_neg (fun q=>hc ⟨by omega,q⟩)]
   obtain⟨rfl,rfl⟩:j=J∧p=P:=by rw[e6]at e5;exact⟨congrArg Prod.fst e5,congrArg Prod.snd e5⟩
   obtain⟨b,hb⟩:∃b,b=byt s j:=⟨_,rfl⟩
   rw[<- hb]at hx hr hor hc;generalize hexV b=h at*;rw[hb]at hx;apply AWp.wk tF mF [(9,[(24,zI h,[])]),(10,[(11,zI 0,[])])] ao1 ?_;have hwj:IntKind.i64.wrap ((j:Int)+1)=((j+1:Nat):Int):=w64n (by omega)
   (refine oA ?_;repeat' with_reducible first|exact⟨⟩|refine mA ?_ ?_|refine mC (fun _=>?_) fun _=>?_)
   all_goals(try simp only[Int.toNat_natCast,ite_self,hwj])
   all_goals(try exact zB)
   all_goals(try(exfalso;omega))
   all_goals(try simp only[ite_self])
   (all_goals try first|exact eZ|(refine qC ?_;repeat' with_reducible first|exact⟨⟩|refine mA ?_ ?_))
   all_goals(try(exfalso;simp only[not_true_eq_false,or_false,and_true]at*;omega))
   all_goals(try(exact w64n (by omega)))
 ·unfold bIn
  (refine fA [] ao1 ([(1,[(1,.int .u8 fun _=>117,[(1000,boxC s i w 0)]),(2,.int .i64 fun _ => -1,[])]),(3,[(3,.any,[])]),(5,[(1,.int .u8 fun _=>117,[(1000,boxC s i w 0)]),(5,.int .u8 fun _=>123,[(1000,boxC s i w 0)])]),(6,[(2,.any,[])])]++[(13,[(8,.int .u8 fun _=>125,[(1000,boxC s J w 0)])]),(14,[(2,.any,[])]),(16,[(1,.tup [.str fun _=>⟨#[]⟩,zI 2],[])]),(18,[(2,zT,[(1000,boxC s (J+1) i 16)])]),(19,[(2,.any,[])])]) Tryz.func168 fun _=>?_;repeat' with_reducible first|exact⟨⟩|refine mA ?_ ?_|refine mC (fun _=>?_) fun _=>?_)
  all_goals(try simp only[hw1,hw3])
  all_goals(try exact zB)
  all_goals(try(exfalso;omega))
  (all_goals try first|exact eZ|(refine qC ?_;repeat' with_reducible first|exact⟨⟩|refine mA ?_ ?_))
  all_goals(try(exact absurd trivial (‹¬True∨¬True›.elim id id)))
  all_goals(try simp only[ite_self])
  refine .loop (fun q:Nat×Nat×Int=>⟨144,[(7,.int .i64 fun _=>(q.1:Int)),(6,.int .i64 fun _=>q.2.2),(4,.int .i64 fun _=>(i:Int)),(0,.ptr 1000 0),(1,.ptr 1001 0)],(1000,boxC s q.2.1 w 0)::[(1001,bldC 1001 1001001001 0 a),(1001001001,bldR 0 a)]⟩)
   (fun q=>q.1<=7∧q.2.1=i+3+q.1∧q.2.1<=s.size∧0<=q.2.2∧q.2.2<((16^q.1:Nat):Int)∧hexR s (7-q.1) q.2.1 q.2.2=(J,P)) (fun q=>7-q.1) (0,i+3,0) ⟨Nat.zero_le _,rfl,i3,Int.le_refl _,Int.zero_lt_one,hJ⟩ ?_ fun q E hq=>?_
  ·exact aZ
  obtain⟨c,j,p⟩:=q;obtain⟨e1,e0,e2,e3,e4,e5⟩:=hq;dsimp only at e0 e1 e2 e3 e4 e5;obtain⟨b8,hb8⟩:=aoh s j;have hb7:=b8.toNat_lt;have hx:=ao2 (byt s j) (by omega) (by omega);clear hb8 hb7;have hr:=ao3 (byt s j);have hp:p<268435456:=by
   have:16^c<=16^7:=Nat.pow_le_pow_right (by decide) e1;have:(16:Nat)^7=268435456:=by decide
   omega
  have hor:=or4 p (hexV (byt s j));by_cases hc:c<7∧j<s.size∧0<=hexV (byt s j)
  ·obtain⟨c1,c2,c3⟩:=hc;rw[show 7-c=(7-(c+1))+1 by omega]at e5;unfold hexR at e5;rw[if_pos ⟨c2,c3⟩]at e5;replace hor:=hor (by omega) (by omega);have e4':p*16+hexV (byt s j)<((16^(c+1):Nat):Int):=by
    have e:16^(c+1)=16^c*16:=Nat.pow_succ _ _;omega
   obtain⟨b,hb⟩:∃b,b=byt s j:=⟨_,rfl⟩
   rw[<- hb]at hx hr hor c3 e5 e4';generalize hexV b=h at*;rw[hb]at hx;apply AWp.wk tF mF [(9,[(24,zI h,[])]),(10,[(11,zI h,[])])] ao1 ?_
   (refine oA ?_;repeat' with_reducible first|exact⟨⟩|refine mA ?_ ?_|refine mC (fun _=>?_) fun _=>?_)
   all_goals(try simp only[Int.toNat_natCast])
   all_goals(try exact zB)
   all_goals(try(exfalso;omega))
   (all_goals try first|exact eZ|(refine qC ?_;repeat' with_reducible first|exact⟨⟩|refine mA ?_ ?_))
   rw[hor];have hI:c+1<=7∧j+1=i+3+(c+1)∧j+1<=s.size∧0<=p*16+h∧p*16+h<((16^(c+1):Nat):Int)∧hexR s (7-(c+1)) (j+1) (p*16+h)=(J,P):=⟨by omega,by omega,by omega,by omega,e4',e5⟩
   refine dE (ι:=Nat×Nat×Int) (μ:=fun q=>7-q.1) (i:=(c,j,p)) (c+1,j+1,p*16+h) ⟨hI,Nat.sub_lt_sub_left c1 (Nat.lt_succ_self c)⟩ ?_
   (focus(refine aQ ?_;repeat' first|with_reducible apply And.intro|exact wZ|fail))
   ·exact w64n (by omega)
   ·exact w64n (by omega)
  ·have e6:hexR s (7-c) j p=(j,p):=by
    cases h7:7-c with
    | zero=>rfl
    | succ m=>unfold hexR;rw[if_neg (fun q=>hc ⟨by omega,q⟩)]
   obtain⟨rfl,rfl⟩:j=J∧p=P:=by rw[e6]at e5;exact⟨congrArg Prod.fst e5,congrArg Prod.snd e5⟩
   obtain⟨b,hb⟩:∃b,b=byt s j:=⟨_,rfl⟩
   rw[<- hb]at hx hr hor hc;generalize hexV b=h at*;rw[hb]at hx;apply AWp.wk tF mF [(9,[(24,zI h,[])]),(10,[(11,zI 0,[])])] ao1 ?_;have hwj:IntKind.i64.wrap ((j:Int)+1)=((j+1:Nat):Int):=w64n (by omega)
   (refine oA ?_;repeat' with_reducible first|exact⟨⟩|refine mA ?_ ?_|refine mC (fun _=>?_) fun _=>?_)
   all_goals(try simp only[Int.toNat_natCast,ite_self,hwj])
   all_goals(try exact zB)
   all_goals(try(exfalso;omega))
   all_goals(try simp only[ite_self])
   (all_goals try first|exact eZ|(refine qC ?_;repeat' with_reducible first|exact⟨⟩|refine mA ?_ ?_))
   all_goals(try(exfalso;simp only[not_true_eq_false,or_false,and_true]at*;omega))
   all_goals(try(exact w64n (by omega)))
def escF(s:ByteArray)(i:Nat):Option (Nat×Bool×ByteArray):=
 if i+1<s.size∧0<=idxB escS (byt s (i+1))then some (i+2,true,⟨#[(escT.data[(idxB escS (byt s (i+1))).toNat]?).getD 0]⟩)
 else if byt s (i+1)=117∧byt s (i+2)=123 then
  if((hexR s 7 (i+3) 0).1-(i+3)<1∨6<(hexR s 7 (i+3) 0).1-(i+3))∨byt s (hexR s 7 (i+3) 0).1≠125 then none
  else if ptB (hexR s 7 (i+3) 0).2=true then some ((hexR s 7 (i+3) 0).1+1,false,Utf8.encode (hexR s 7 (i+3) 0).2)else none
 else none
def escE(s:ByteArray)(i:Nat):Nat×Int:=
 if byt s (i+1)=117∧byt s (i+2)=123 then
  if((hexR s 7 (i+3) 0).1-(i+3)<1∨6<(hexR s 7 (i+3) 0).1-(i+3))∨byt s (hexR s 7 (i+3) 0).1≠125 then((hexR s 7 (i+3) 0).1,13)else((hexR s 7 (i+3) 0).1+1,16)
 else(i,13)
def apc(s:ByteArray)(i:Nat)(w:Int)(b:Option ByteArray)(hs:s.size<=1073741824)(hi:i<s.size)(ha:∀a,b=some a->a.size<=1073741824)(j:Nat)(k:Bool)(t:ByteArray)(h:escF s i=some (j,k,t)):
 Af Tryz.prog 168 [.ptr 1000 0,.ptr 1001 0] ((1000,boxC s i w 0)::bIn b) (.tup []) ((1000,boxC s j w 0)::bOut (if k=true then 360014 else 1440014) t b):=by
 unfold escF at h;split at h
 ·rename_i q;obtain⟨rfl,rfl,rfl⟩:i+2=j∧true=k∧_=t:=by simpa using h
  exact esc_byte s i w b hs q.1 q.2 ha _ rfl
 ·split at h
  ·rename_i q;split at h
   ·exact absurd h (by simp)
   ·rename_i r;split at h
    ·rename_i p;obtain⟨rfl,rfl,rfl⟩:_=j∧false=k∧_=t:=by simpa using h
     exact aoO s i w b hs hi q ha _ _ rfl (fun z=>r (Or.inl z)) (Decidable.not_not.1 fun z=>r (Or.inr z)) p
    ·exact absurd h (by simp)
  ·exact absurd h (by simp)
def apd(s:ByteArray)(i:Nat)(w:Int)(b:Option ByteArray)(hs:s.size<=1073741824)(hi:i<s.size)(h:escF s i=none):
 Af Tryz.prog 168 [.ptr 1000 0,.ptr 1001 0] ((1000,boxC s i w 0)::bIn b) (.tup []) ((1000,boxC s (escE s i).1 i (escE s i).2)::bIn b):=by
 unfold escF at h;unfold escE;split at h
 ·exact absurd h (by simp)
 ·rename_i q0;split at h
  ·rename_i q;rw[if_pos q];split at h
   ·rename_i r;rw[if_pos r];exact ape s i w b hs hi q _ _ rfl r
   ·rename_i r;rw[if_neg r];split at h
    ·exact absurd h (by simp)
    ·rename_i p;exact aoP s i w b hs hi q _ _ rfl (fun z=>r (Or.inl z)) (Decidable.not_not.1 fun z=>r (Or.inr z)) (Bool.not_eq_true _▸p)
  ·rename_i q;rw[if_neg q];exact esc_no s i w b hs hi q0 q
def aq7{s:ByteArray}{i j:Nat}{k:Bool}{t:ByteArray}(hi:i<s.size)(h:escF s i=some (j,k,t)):i+2<=j∧j<=s.size∧t.size<=j-i:=by
 unfold escF at h;split at h
 ·rename_i q;obtain⟨rfl,rfl,rfl⟩:i+2=j∧true=k∧_=t:=by simpa using h
  exact⟨Nat.le_refl _,by omega,by show 1<=i+2-i;omega⟩
 ·split at h
  ·rename_i q;have i3:i+3<=s.size:=by have:=anw (s:=s) (i:=i+2) (by rw[q.2];decide);omega
   have:=aoj (s:=s) 7 (i+3) 0 i3;split at h
   ·exact absurd h (by simp)
   ·rename_i r;have r2:byt s (hexR s 7 (i+3) 0).1=125:=Decidable.not_not.1 fun z=>r (Or.inr z);have:=anw (s:=s) (i:=(hexR s 7 (i+3) 0).1) (by rw[r2];decide);split at h
    ·obtain⟨rfl,rfl,rfl⟩:_=j∧false=k∧_=t:=by simpa using h
     exact⟨by omega,by omega,Nat.le_trans (encode_size_le _) (by omega)⟩
    ·exact absurd h (by simp)
  ·exact absurd h (by simp)
def aq8{s:ByteArray}{i:Nat}(hi:i<s.size)(h:escF s i=none):i<=(escE s i).1∧(escE s i).1<=s.size∧0<(escE s i).2∧(escE s i).2<100:=by
 unfold escE;split
 ·rename_i q;have i3:i+3<=s.size:=by have:=anw (s:=s) (i:=i+2) (by rw[q.2];decide);omega
  have:=aoj (s:=s) 7 (i+3) 0 i3;split
  ·exact⟨by dsimp only;omega,this.2.2,by dsimp only;omega,by dsimp only;omega⟩
  ·rename_i r;have r2:byt s (hexR s 7 (i+3) 0).1=125:=Decidable.not_not.1 fun z=>r (Or.inr z);have:=anw (s:=s) (i:=(hexR s 7 (i+3) 0).1) (by rw[r2];decide);exact⟨by dsimp only;omega,by dsimp only;omega,by dsimp only;omega,by dsimp only;omega⟩
 ·exact⟨Nat.le_refl _,by dsimp only;omega,by dsimp only;omega,by dsimp only;omega⟩
end Go.Ai
