/- Chapter 2: the texts of dates and times. -/
import Derived.Test.YtbagpkiomjlhkaaGreatDoorDec
import Derived.Test.YtbagpkiomjlhkaaGreatDoorLexE
set_option linter.all false
namespace Go.Ai
open Go Go.Proofs
set_option maxRecDepth 100000
set_option maxHeartbeats 4000000
def ap9(n a b:Int):Af Tryz.prog 187 [.int .i64 fun _=>n,.int .i64 fun _=>a,.int .i64 fun _=>b] [] (.bool fun _=>decide (a<=n∧n<=b)) []:=by
 obtain⟨Z,hZ⟩:∃Z,Z=decide (a<=n∧n<=b):=⟨_,rfl⟩
 rw[<- hZ]
 (refine fB [.tmp 6] kp187 [] Tryz.func187 fun _=>?_;repeat' with_reducible first|exact⟨⟩|refine mA ?_ ?_|refine mC (fun _=>?_) fun _=>?_)
 rw[hZ];by_cases c1:a<=n<;>by_cases c2:n<=b<;>simp[c1,c2]
def befY(y:Int):Int:=365*(y-1)+(y-1)/4-(y-1)/100+(y-1)/400
def aie(y:Int)(h0:1<=y)(h1:y<=10000):Af Tryz.prog 188 [.int .i64 fun _=>y] [] (.int .i64 fun _=>befY y) []:=by
 obtain⟨Z,hZ⟩:∃Z,Z=befY y:=⟨_,rfl⟩
 rw[<- hZ]
 (refine fB [.tmp 2] kp188 [] Tryz.func188 fun _=>?_;repeat' with_reducible first|exact⟨⟩|refine mA ?_ ?_|refine mC (fun _=>?_) fun _=>?_)
 have w1:IntKind.i64.wrap (y-1)=y-1:=w64 (by omega) (by omega)
 rw[w1,Int.tdiv_eq_ediv_of_nonneg (by omega),Int.tdiv_eq_ediv_of_nonneg (by omega),Int.tdiv_eq_ediv_of_nonneg (by omega),w64 (x:=365*(y-1)) (by omega) (by omega),w64 (x:=(y-1)/4) (by omega) (by omega),w64 (x:=(y-1)/100) (by omega) (by omega),w64 (x:=(y-1)/400) (by omega) (by omega),
  w64 (x:=365*(y-1)+(y-1)/4) (by omega) (by omega),w64 (x:=365*(y-1)+(y-1)/4-(y-1)/100) (by omega) (by omega),w64 (x:=365*(y-1)+(y-1)/4-(y-1)/100+(y-1)/400) (by omega) (by omega),hZ]
 rfl
def leap_ok(y:Int)(h0:1<=y)(h1:y<=9999):Af Tryz.prog 234 [.int .i64 fun _=>y] [] (.bool fun _=>decide (y%4=0∧(y%100≠0∨y%400=0))) []:=by
 have h:=ap9 y 1 9999;rw[decide_eq_true (by omega:1<=y∧y<=9999)]at h;obtain⟨Z,hZ⟩:∃Z,Z=decide (y%4=0∧(y%100≠0∨y%400=0)):=⟨_,rfl⟩
 rw[<- hZ]
 (refine fB [.tmp 2] kp234 [(1,[(1,zO true,[])])] Tryz.func234 fun _=>?_;repeat' with_reducible first|exact⟨⟩|refine mA ?_ ?_|refine mC (fun _=>?_) fun _=>?_)
 ·exact fun _=>rfl
 ·rw[hZ,Int.tmod_eq_emod_of_nonneg (by omega),Int.tmod_eq_emod_of_nonneg (by omega),Int.tmod_eq_emod_of_nonneg (by omega)];by_cases c1:y%4=0<;>by_cases c2:y%100=0<;>by_cases c3:y%400=0<;>simp[c1,c2,c3]
def monD(y m:Int):Int:=if m=2 then(if y%4=0∧(y%100≠0∨y%400=0)then 29 else 28)else if m=4∨m=6∨m=9∨m=11 then 30 else 31
def aq0(y m:Int)(h0:1<=y)(h1:y<=9999)(g0:1<=m)(g1:m<=12):Af Tryz.prog 189 [.int .i64 fun _=>y,.int .i64 fun _=>m] [] (.int .i64 fun _=>monD y m) []:=by
 have h:=leap_ok y h0 h1;obtain⟨Z,hZ⟩:∃Z,Z=monD y m:=⟨_,rfl⟩
 rw[<- hZ];unfold monD at hZ;obtain⟨L,hL⟩:∃L,L=decide (y%4=0∧(y%100≠0∨y%400=0)):=⟨_,rfl⟩
 rw[<- hL]at h
 (refine fB [.tmp 4] kp189 [(1,[(4,zO L,[])])] Tryz.func189 fun _=>?_;repeat' with_reducible first|exact⟨⟩|refine mA ?_ ?_|refine mC (fun _=>?_) fun _=>?_)
 ·obtain⟨c1,c2⟩:=‹_∧L=true›
  rw[hL,decide_eq_true_iff]at c2;rw[hZ,if_pos c1,if_pos c2]
 ·have c:¬(m=2∧(y%4=0∧(y%100≠0∨y%400=0))):=by
   rintro⟨c1,c2⟩;rcases‹_∨L=false›with c|c
   ·exact c c1
   ·rw[hL,decide_eq_false_iff_not]at c;exact c c2
  rw[w64 (x:=m-1) (by omega) (by omega),hZ];clear hZ hL h;rcases(by omega:m=1∨m=2∨m=3∨m=4∨m=5∨m=6∨m=7∨m=8∨m=9∨m=10∨m=11∨m=12)with rfl|rfl|rfl|rfl|rfl|rfl|rfl|rfl|rfl|rfl|rfl|rfl
  case inr.inl=>rw[if_pos rfl,if_neg fun q=>c ⟨rfl,q⟩];rfl
  all_goals rfl
def adC{a b:Int}(h:a<=b):befY a<=befY b:=by unfold befY;omega
def cumD(y:Int):Nat->Int
 | 0=>0
 | 1=>0
 | m+2=>cumD y (m+1)+monD y ((m+1:Nat):Int)
def pfxB(s p:ByteArray):Bool:=decide (p.size<=s.size)&&decide (s.extract 0 p.size=p)
def pfx_ok(s p:ByteArray):Af Tryz.prog 196 [.str fun _=>s,.str fun _=>p] [] (.bool fun _=>pfxB s p) []:=by
 obtain⟨Z,hZ⟩:∃Z,Z=pfxB s p:=⟨_,rfl⟩
 rw[<- hZ]
 (refine fB [.tmp 4] kp196 [] Tryz.func196 fun _=>?_;repeat' with_reducible first|exact⟨⟩|refine mA ?_ ?_|refine mC (fun _=>?_) fun _=>?_)
 rw[hZ];unfold pfxB;by_cases c:p.size<=s.size
 ·simp[c]
 ·simp[c]
def cutF(s p:ByteArray):ByteArray×Bool:=if pfxB s p=true then(s.extract p.size s.size,true)else(s,false)
def aqi(s p:ByteArray):Af Tryz.prog 190 [.str fun _=>s,.str fun _=>p] [] (.tup [.str fun _=>(cutF s p).1,.bool fun _=>(cutF s p).2]) []:=by
 have h:=pfx_ok s p;have hp:pfxB s p=true->p.size<=s.size:=fun h=>by
  unfold pfxB at h;simp only[Bool.and_eq_true,decide_eq_true_eq]at h;exact h.1
 unfold cutF;generalize pfxB s p=b at*;cases b with
 | true=>
  replace hp:=hp rfl;rw[if_pos rfl]
  (refine fA [.tmp 4,.tmp 5] kp190 [(1,[(2,zO true,[])])] Tryz.func190 fun _=>?_;repeat' with_reducible first|exact⟨⟩|refine mA ?_ ?_|refine mC (fun _=>?_) fun _=>?_)
  all_goals(try exact zB)
  (all_goals try first|exact eZ|(refine qC ?_;repeat' with_reducible first|exact⟨⟩|refine mA ?_ ?_))
  all_goals(simp only[Int.toNat_natCast])
 | false=>
  rw[if_neg (by decide)]
  (refine fA [.tmp 4,.tmp 5] kp190 [(1,[(2,zO false,[])])] Tryz.func190 fun _=>?_;repeat' with_reducible first|exact⟨⟩|refine mA ?_ ?_|refine mC (fun _=>?_) fun _=>?_)
  all_goals(try exact zB)
  all_goals exact eZ
def ap2(s p:ByteArray):Af Tryz.prog 129 [.str fun _=>s,.str fun _=>p] [] (.tup [.str fun _=>(cutF s p).1,.bool fun _=>(cutF s p).2]) []:=by
 have h:=aqi s p;generalize cutF s p=q at*
 (refine fA [.tmp 4,.tmp 5] kp129 [(1,[(2,.tup [.str fun _=>q.1,.bool fun _=>q.2],[])])] Tryz.func129 fun _=>?_;repeat' with_reducible first|exact⟨⟩|refine mA ?_ ?_|refine mC (fun _=>?_) fun _=>?_)
 all_goals(try exact zB)
 all_goals exact eZ
def dgF(s:ByteArray):Nat->Nat->Int->Option Int
 | 0,_,n=>some n
 | k+1,i,n=>if 48<=byt s i∧byt s i<=57 then dgF s k (i+1) (10*n+(byt s i-48))else none
def numO(d:Nat)(s:ByteArray):Int×ByteArray×Bool:=if s.size<d then(0,s,false)else match dgF s d 0 0 with
 | some n=>(n,s.extract d s.size,true)
 | none=>(0,s,false)
def aoW(d:Nat)(s:ByteArray)(hd:d<=4)(hs:s.size<=1073741824):Af Tryz.prog 130 [.str fun _=>s,.int .i64 fun _=>(d:Int)] [] (.tup [.int .i64 fun _=>(numO d s).1,.str fun _=>(numO d s).2.1,.bool fun _=>(numO d s).2.2]) []:=by
 obtain⟨R,hR⟩:∃R,R=numO d s:=⟨_,rfl⟩
 rw[<- hR];unfold numO at hR;have hin:=fun c=>ap9 c 48 57;by_cases c1:s.size<d
 ·rw[if_pos c1]at hR;subst hR
  (refine fA [.tmp 4,.tmp 5,.tmp 6] aq3 [] Tryz.func130 fun _=>?_;repeat' with_reducible first|exact⟨⟩|refine mA ?_ ?_|refine mC (fun _=>?_) fun _=>?_)
  all_goals(try(exfalso;omega))
  all_goals exact eZ
 ·rw [if_neg c1]at hR
  (refine fA [.tmp 4,.tmp 5,.tmp 6] aq3 [] Tryz.func130 fun _=>?_;repeat' with_reducible first|exact⟨⟩|refine mA ?_ ?_|refine mC (fun _=>?_) fun _=>?_)
  all_goals(try(exfalso;omega))
  refine .loop (fun q:Nat×Int=>⟨37,[(14,.int .i64 fun _=>(q.1:Int)),(13,.int .i64 fun _=>(d:Int)),(4,.int .i64 fun _=>q.2),(0,.str fun _=>s),(1,.int .i64 fun _=>(d:Int))],[]⟩)
   (fun q=>q.1<=d∧0<=q.2∧q.2<((10^q.1:Nat):Int)∧dgF s (d-q.1) q.1 q.2=dgF s d 0 0) (fun q=>d-q.1) (0,0) ⟨Nat.zero_le _,Int.le_refl _,Int.zero_lt_one,rfl⟩ ?_ fun q E hq=>?_
  ·exact aZ
  obtain⟨i,n⟩:=q;obtain⟨e1,e2,e3,e4⟩:=hq;dsimp only at e1 e2 e3 e4;have hp:n<10000:=by
   have:10^i<=10^4:=Nat.pow_le_pow_right (by decide) (by omega);have:(10:Nat)^4=10000:=by decide
   omega
  generalize dgF s d 0 0=Z at*;by_cases c2:i<d
  ·obtain⟨b,hb⟩:=aoh s i;have hb7:=b.toNat_lt;have h6:=hin (byt s i);rw[show d-i=(d-(i+1))+1 by omega]at e4;unfold dgF at e4;by_cases c3:48<=byt s i∧byt s i<=57
   ·rw[if_pos c3]at e4;rw[decide_eq_true c3]at h6;obtain⟨c,hc⟩:∃c,c=byt s i:=⟨_,rfl⟩
    have e5:10*n+(c-48)<((10^(i+1):Nat):Int):=by
     have e:10^(i+1)=10^i*10:=Nat.pow_succ _ _;omega
    have hw1:IntKind.i64.wrap (10*n)=10*n:=w64 (by omega) (by omega);have hw2:IntKind.u8.wrap (c-48)=c-48:=by
     unfold IntKind.wrap;simp[IntKind.bits,IntKind.signed];omega
    have hw3:IntKind.i64.wrap (c-48)=c-48:=w64 (by omega) (by omega);have hw4:IntKind.i64.wrap (10*n+(c-48))=10*n+(c-48):=w64 (by omega) (by omega);have hw5:IntKind.i64.wrap c=c:=w64 (by omega) (by omega);have hc2:((s.data[i]?.getD 0).toNat:Int)=c:=hc.symm;rw[<- hc]at e4 h6;apply AWp.wk tF mF [(6,[(4,zO true,[])])] aq3 ?_
    (refine oA ?_;repeat' with_reducible first|exact⟨⟩|refine mA ?_ ?_|refine mC (fun _=>?_) fun _=>?_)
    all_goals(try simp only[Int.toNat_natCast,hc2,hw5])
    all_goals(try exact zB)
    all_goals(try(exfalso;omega))
    (all_goals try first|exact eZ|(refine qC ?_;repeat' with_reducible first|exact⟨⟩|refine mA ?_ ?_))
    all_goals(try simp only[hc2,hw1,hw2,hw3,hw4,hw5])
    refine dE (ι:=Nat×Int) (μ:=fun q=>d-q.1) (i:=(i,n)) (i+1,10*n+(c-48)) ⟨⟨by omega,by dsimp only;omega,e5,e4⟩,by dsimp only;omega⟩ ?_
    (focus(refine aQ ?_;repeat' first|with_reducible apply And.intro|exact wZ|fail))
    all_goals(try exact w64n (by omega))
   ·rw[if_neg c3]at e4;rw[decide_eq_false c3]at h6;rw[<- e4]at hR;dsimp only at hR;subst hR;obtain⟨c,hc⟩:∃c,c=byt s i:=⟨_,rfl⟩
    have hw5:IntKind.i64.wrap c=c:=w64 (by omega) (by omega);have hc2:((s.data[i]?.getD 0).toNat:Int)=c:=hc.symm;rw[<- hc]at h6;apply AWp.wk tF mF [(6,[(4,zO false,[])])] aq3 ?_
    (refine oA ?_;repeat' with_reducible first|exact⟨⟩|refine mA ?_ ?_|refine mC (fun _=>?_) fun _=>?_)
    all_goals(try simp only[Int.toNat_natCast,hc2,hw5])
    all_goals(try exact zB)
    all_goals(try(exfalso;omega))
    all_goals exact eZ
  ·obtain rfl:i=d:=by omega
   rw[Nat.sub_self]at e4;unfold dgF at e4;rw[<- e4]at hR;dsimp only at hR;subst hR;apply AWp.wk tF mF [(6,[(4,.any,[])])] aq3 ?_
   (refine oA ?_;repeat' with_reducible first|exact⟨⟩|refine mA ?_ ?_|refine mC (fun _=>?_) fun _=>?_)
   all_goals(try(exfalso;omega))
   (all_goals try first|exact eZ|(refine qC ?_;repeat' with_reducible first|exact⟨⟩|refine mA ?_ ?_))
   all_goals(simp only[Int.toNat_natCast])
def aoI{d:Nat}{s:ByteArray}(hd:d<=4):0<=(numO d s).1∧(numO d s).1<10000∧(numO d s).2.1.size<=s.size:=by
 have key:∀(k i:Nat) (n m:Int) (j:Nat),dgF s k i n=some m->0<=n->n<((10^j:Nat):Int)->0<=m∧m<((10^(j+k):Nat):Int):=by
  intro k
  induction k with
  | zero=>intro i n m j h h0 h1;cases h;exact⟨h0,h1⟩
  | succ k ih=>
   intro i n m j h h0 h1;unfold dgF at h;split at h
   ·rename_i q;have e:10^(j+1)=10^j*10:=Nat.pow_succ _ _;have:=ih (i+1) _ m (j+1) h (by omega) (by omega)
    rwa [show j+1+k=j+(k+1) by omega]at this
   ·cases h
 unfold numO;split
 ·exact⟨Int.le_refl _,by show(0:Int)<10000;decide,Nat.le_refl _⟩
 ·split
  ·rename_i n hn;have:=key d 0 0 n 0 hn (Int.le_refl _) Int.zero_lt_one;have h4:10^(0+d)<=10^4:=Nat.pow_le_pow_right (by decide) (by omega);have:(10:Nat)^4=10000:=by decide
   refine⟨(key d 0 0 n 0 hn (Int.le_refl _) Int.zero_lt_one).1,by dsimp only;omega,?_⟩;show(s.extract d s.size).size<=_;rw[ByteArray.size_extract];omega
  ·exact⟨Int.le_refl _,by show(0:Int)<10000;decide,Nat.le_refl _⟩
def mdF(y m:Int):Int×Int:=if(1<=y∧y<=9999)∧1<=m∧m<=12 then(monD y m,0)else(0,17)
def md_ok(y m:Int):Af Tryz.prog 186 [.int .i64 fun _=>y,.int .i64 fun _=>m] [] (.tup [.int .i64 fun _=>(mdF y m).1,.int .i64 fun _=>(mdF y m).2]) []:=by
 have h1:=ap9 y 1 9999;have h2:=ap9 m 1 12;unfold mdF;by_cases c1:1<=y∧y<=9999
 ·rw[decide_eq_true c1]at h1;by_cases c2:1<=m∧m<=12
  ·rw[decide_eq_true c2]at h2;have h3:=aq0 y m c1.1 c1.2 c2.1 c2.2;rw[if_pos ⟨c1,c2⟩];generalize monD y m=d at*
   (refine fA [.tmp 4,.tmp 5] kp186 [(1,[(1,zO true,[]),(5,zO true,[])]),(3,[(2,zI d,[])])] Tryz.func186 fun _=>?_;repeat' with_reducible first|exact⟨⟩|refine mA ?_ ?_|refine mC (fun _=>?_) fun _=>?_)
   all_goals(try exact zB)
   all_goals(try(exact absurd ‹¬True∨¬True› (fun g=>g.elim (fun k=>k trivial) (fun k=>k trivial))))
   all_goals exact eZ
  ·rw[decide_eq_false c2]at h2;rw[if_neg (fun g=>c2 g.2)]
   (refine fA [.tmp 4,.tmp 5] kp186 [(1,[(1,zO true,[]),(5,zO false,[])]),(3,[(2,.any,[])])] Tryz.func186 fun _=>?_;repeat' with_reducible first|exact⟨⟩|refine mA ?_ ?_|refine mC (fun _=>?_) fun _=>?_)
   all_goals(try exact zB)
   all_goals(try(exact absurd ‹True∧False› (fun g=>g.2)))
   all_goals exact eZ
 ·rw[decide_eq_false c1]at h1;rw[if_neg (fun g=>c1 g.1)]
  (refine fA [.tmp 4,.tmp 5] kp186 [(1,[(1,zO false,[]),(5,zO false,[])]),(3,[(2,.any,[])])] Tryz.func186 fun _=>?_;repeat' with_reducible first|exact⟨⟩|refine mA ?_ ?_|refine mC (fun _=>?_) fun _=>?_)
  all_goals(try exact zB)
  any_goals(refine sO (fun hg=>?_);exact absurd hg (by decide))
  all_goals(try(exact absurd ‹False∧_› (fun g=>g.1)))
  all_goals exact eZ
def dayF(y m d:Int):Int×Int:=if(1<=y∧y<=9999)∧(1<=m∧m<=12)∧1<=d∧d<=monD y m then(-719162+befY y+d-1+cumD y m.toNat,0)else(0,17)
def aoL(y m:Int):28<=monD y m∧monD y m<=31:=by unfold monD;(repeat' split)<;>omega
theorem apu(y:Int):∀k:Nat,0<=cumD y k∧cumD y k<=31*k
 | 0=>by simp only[cumD];omega
 | 1=>by simp only[cumD];omega
 | k+2=>by
  have:=apu y (k+1);have:=aoL y ((k+1:Nat):Int);simp only[cumD];omega
def aqg(y m d:Int)(hy:0<=y∧y<=10000)(hm:0<=m∧m<=10000)(hd:0<=d∧d<=10000):Af Tryz.prog 128 [.int .i64 fun _=>y,.int .i64 fun _=>m,.int .i64 fun _=>d] [] (.tup [.int .i64 fun _=>(dayF y m d).1,.int .i64 fun _=>(dayF y m d).2]) []:=by
 have h1:=md_ok y m;obtain⟨R,hR⟩:∃R,R=dayF y m d:=⟨_,rfl⟩
 rw[<- hR];unfold dayF at hR;unfold mdF at h1;by_cases c1:(1<=y∧y<=9999)∧1<=m∧m<=12
 ·rw [if_pos c1]at h1;obtain⟨⟨y1,y2⟩,m1,m2⟩:=c1;have h2:=ap9 d 1 (monD y m);by_cases c2:1<=d∧d<=monD y m
  ·rw[if_pos ⟨⟨y1,y2⟩,⟨m1,m2⟩,c2⟩]at hR;rw[decide_eq_true c2]at h2;have h4:=aie y y1 (by omega);have h8:=fun j a b=>aq0 y j y1 y2 a b;have hb0:=adC (a:=1) (b:=y) y1;have hb1:=adC (a:=y) (b:=9999) y2;rw[show befY 1=0 by decide]at hb0;rw[show befY 9999=3651694 by decide]at hb1;have hmr:=aoL y m;obtain⟨M,hM⟩:∃M,M=m.toNat:=⟨_,rfl⟩
   have hM2:m=(M:Int):=by omega
   generalize hmo:monD y m=mo at*;generalize befY y=b at*;have hw1:IntKind.i64.wrap (-719162+b) = -719162+b:=w64 (by omega) (by omega);have hw2:IntKind.i64.wrap (-719162+b+d) = -719162+b+d:=w64 (by omega) (by omega);have hw3:IntKind.i64.wrap (-719162+b+d-1) = -719162+b+d-1:=w64 (by omega) (by omega);obtain⟨N,hN⟩:∃N,N = -719162+b+d-1:=⟨_,rfl⟩
   rw[<- hN]at hR;replace hw3:=hw3.trans hN.symm
   (refine fA [.tmp 6,.tmp 7] aq4 [(1,[(2,.tup [zI mo,zI 0],[])]),(2,[(5,zO true,[])]),(4,[(1,zI b,[])])] Tryz.func128 fun _=>?_;repeat' with_reducible first|exact⟨⟩|refine mA ?_ ?_|refine mC (fun _=>?_) fun _=>?_)
   all_goals(try simp only[hw1,hw2,hw3])
   all_goals(try exact zB)
   all_goals(try(exact absurd ‹¬True∨¬True› (fun g=>g.elim (fun k=>k trivial) (fun k=>k trivial))))
   (all_goals(try exact eZ))
   refine .loop (fun j:Nat=>⟨43,[(11,.int .i64 fun _=>(j:Int)),(10,.int .i64 fun _=>N+cumD y j),(0,.int .i64 fun _=>y),(1,.int .i64 fun _=>m)],[]⟩)
    (fun j=>1<=j∧j<=M) (fun j=>M-j) (1:Nat) ⟨Nat.le_refl _,by omega⟩ ?_ fun j E hj=>?_
   ·(focus(refine aQ ?_;repeat' first|with_reducible apply And.intro|exact wZ|fail))
    all_goals(first|(rw[hw3];show N=N+0;omega)|(show N=N+0;omega)|skip)
   obtain⟨k,rfl⟩:∃k,j=k+1:=⟨j-1,by omega⟩
   have hc:=apu y (k+1);have hm3:=aoL y ((k+1:Nat):Int);have e1:cumD y (k+1+1)=cumD y (k+1)+monD y ((k+1:Nat):Int):=rfl;have h8':=fun a b=>h8 ((k+1:Nat):Int) a b;obtain⟨hc1,hc2⟩:=hc;obtain⟨hm4,hm5⟩:=hm3;obtain⟨hj1,hj2⟩:=hj;generalize hK:k+1=K at*;clear hK;generalize hcu:cumD y K=cu at*;generalize monD y (K:Int)=mk at*;by_cases c3:K<M
   ·have h9:=h8' (by omega) (by omega);apply AWp.wk tF mF [(8,[(3,zI mk,[])])] aq4 ?_
    (refine oA ?_;repeat' with_reducible first|exact⟨⟩|refine mA ?_ ?_|refine mC (fun _=>?_) fun _=>?_)
    all_goals(try exact zB)
    all_goals(try(exfalso;omega))
    (all_goals try first|exact eZ|(refine qC ?_;repeat' with_reducible first|exact⟨⟩|refine mA ?_ ?_))
    refine dE (K+1) ⟨⟨by omega,by omega⟩,by omega⟩ ?_
    (focus(refine aQ ?_;repeat' first|with_reducible apply And.intro|exact wZ|fail))
    ·exact w64n (by omega)
    ·rw[e1];exact(w64 (by omega) (by omega)).trans (by omega)
   ·obtain rfl:K=M:=by omega
    subst hM;apply AWp.wk tF mF [(8,[(3,.any,[])])] aq4 ?_
    (refine oA ?_;repeat' with_reducible first|exact⟨⟩|refine mA ?_ ?_|refine mC (fun _=>?_) fun _=>?_)
    all_goals(try(exfalso;omega))
    (all_goals try first|exact eZ|(refine qC ?_;repeat' with_reducible first|exact⟨⟩|refine mA ?_ ?_))
    all_goals(subst hR;first|rfl|(show N+cu=N+cumD y m.toNat;rw[hcu]))
  ·rw[if_neg (fun g=>c2 g.2.2)]at hR;rw[decide_eq_false c2]at h2;subst hR;generalize monD y m=mo at*
   (refine fA [.tmp 6,.tmp 7] aq4 [(1,[(2,.tup [zI mo,zI 0],[])]),(2,[(5,zO false,[])]),(4,[(1,.any,[])])] Tryz.func128 fun _=>?_;repeat' with_reducible first|exact⟨⟩|refine mA ?_ ?_|refine mC (fun _=>?_) fun _=>?_)
   all_goals(try exact zB)
   all_goals(try(exact absurd ‹True∧False› (fun g=>g.2)))
   all_goals exact eZ
 ·rw[if_neg c1]at h1;rw[if_neg (fun g=>c1 ⟨g.1,g.2.1⟩)]at hR;subst hR
  (refine fA [.tmp 6,.tmp 7] aq4 [(1,[(2,.tup [zI 0,zI 17],[])]),(2,[(5,zO false,[])]),(4,[(1,.any,[])])] Tryz.func128 fun _=>?_;repeat' with_reducible first|exact⟨⟩|refine mA ?_ ?_|refine mC (fun _=>?_) fun _=>?_)
  all_goals(try exact zB)
  any_goals(refine sO (fun hg=>?_);exact absurd hg (by decide))
  all_goals(try(exact absurd ‹(17:Int)=0∧False› (fun g=>g.2)))
  all_goals exact eZ
def apF(d r:Int):Int×Int:=if(-719162<=d∧d<=2932896)∧0<=r∧r<=86399999 then(d*86400000+r,0)else(0,2)
def aq6(d r:Int):Af Tryz.prog 131 [.int .i64 fun _=>d,.int .i64 fun _=>r] [] (.tup [.int .i64 fun _=>(apF d r).1,.int .i64 fun _=>(apF d r).2]) []:=by
 have h1:=ap9 d (-719162) 2932896;have h2:=ap9 r 0 86399999;unfold apF;by_cases c1 : -719162<=d∧d<=2932896
 ·rw[decide_eq_true c1]at h1;by_cases c2:0<=r∧r<=86399999
  ·rw[decide_eq_true c2]at h2;rw[if_pos ⟨c1,c2⟩];have hw1:IntKind.i64.wrap (d*86400000)=d*86400000:=w64 (by omega) (by omega);have hw2:IntKind.i64.wrap (d*86400000+r)=d*86400000+r:=w64 (by omega) (by omega)
   (refine fA [.tmp 4,.tmp 5] kp131 [(1,[(1,zO true,[]),(5,zO true,[])])] Tryz.func131 fun _=>?_;repeat' with_reducible first|exact⟨⟩|refine mA ?_ ?_|refine mC (fun _=>?_) fun _=>?_)
   all_goals(try exact zB)
   all_goals(try(exact absurd ‹¬True∨¬True› (fun g=>g.elim (fun k=>k trivial) (fun k=>k trivial))))
   (all_goals try first|exact eZ|(refine qC ?_;repeat' with_reducible first|exact⟨⟩|refine mA ?_ ?_))
   all_goals(try simp only[hw1,hw2])
  ·rw[decide_eq_false c2]at h2;rw[if_neg (fun g=>c2 g.2)]
   (refine fA [.tmp 4,.tmp 5] kp131 [(1,[(1,zO true,[]),(5,zO false,[])])] Tryz.func131 fun _=>?_;repeat' with_reducible first|exact⟨⟩|refine mA ?_ ?_|refine mC (fun _=>?_) fun _=>?_)
   all_goals(try exact zB)
   all_goals(try(exact absurd ‹True∧False› (fun g=>g.2)))
   all_goals exact eZ
 ·rw[decide_eq_false c1]at h1;rw[if_neg (fun g=>c1 g.1)]
  (refine fA [.tmp 4,.tmp 5] kp131 [(1,[(1,zO false,[]),(5,zO false,[])])] Tryz.func131 fun _=>?_;repeat' with_reducible first|exact⟨⟩|refine mA ?_ ?_|refine mC (fun _=>?_) fun _=>?_)
  all_goals(try exact zB)
  any_goals(refine sO (fun hg=>?_);exact absurd hg (by decide))
  all_goals(try(exact absurd ‹False∧_› (fun g=>g.1)))
  all_goals exact eZ
def rowMk(ms:Unit->List (ByteArray×Nat)):(Unit->Nat)->List AV:=fun i=>[.str fun _=>((ms ()).getD (i ()) default).1]
def rowMd(ms:Unit->List (ByteArray×Nat)):(Unit->Nat)->List AV:=fun i=>[.int .i64 fun _=>(((ms ()).getD (i ()) default).2:Int)]
def rowZ(l:Unit->List Int):(Unit->Nat)->List AV:=fun i=>[.int .i64 fun _=>(l ()).getD (i ()) 0]
def nmsF:List (ByteArray×Nat)->List Int->ByteArray->Option (List Int×ByteArray)
 | [],l,s=>some (l,s)
 | q::r,l,s=>if(cutF s q.1).2=true then(if(numO q.2 (cutF s q.1).1).2.2=true then nmsF r (l++[(numO q.2 (cutF s q.1).1).1]) (numO q.2 (cutF s q.1).1).2.1 else none)else none
def nmsO(ms:List (ByteArray×Nat))(s:ByteArray):List Int×ByteArray×Bool:=match nmsF ms [] s with
 | some q=>(q.1,q.2,true)
 | none=>([],s,false)
def aow(s p:ByteArray):(cutF s p).1.size<=s.size:=by
 unfold cutF;split
 ·show(s.extract p.size s.size).size<=_;rw[ByteArray.size_extract];omega
 ·exact Nat.le_refl _
theorem apq:∀(ms:List (ByteArray×Nat)) (l:List Int) (s:ByteArray) (q:List Int×ByteArray),(∀m∈ms,m.2<=4)->(∀x∈l,0<=x∧x<10000)->nmsF ms l s=some q->q.1.length=l.length+ms.length∧(∀x∈q.1,0<=x∧x<10000)∧q.2.size<=s.size
 | [],l,s,q,_,hl,h=>by cases h;exact⟨rfl,hl,Nat.le_refl _⟩
 | m::r,l,s,q,hm,hl,h=>by
  unfold nmsF at h;split at h
  ·split at h
   ·have hr:=aoI (d:=m.2) (s:=(cutF s m.1).1) (hm m (List.mem_cons_self ..))
    have:=apq r _ _ q (fun x hx=>hm x (List.mem_cons_of_mem _ hx)) (fun x hx=>by
     rcases List.mem_append.1 hx with h|h
     ·exact hl x h
     ·rw[List.mem_singleton.1 h];exact⟨hr.1,hr.2.1⟩) h
    have hc:=aow s m.1;rw[List.length_append]at this;simp only[List.length_cons,List.length_nil]at this ⊢;exact⟨by omega,this.2.1,by omega⟩
   ·cases h
  ·cases h
def apY(l:List Int)(n:Int)(i:Nat)(hi:i<l.length+1):LeL (catF (fun _=>l.length) (rowZ fun _=>l) (aaL [[AV.int .i64 fun _=>n]]) fun _=>i) (rowZ (fun _=>l++[n]) fun _=>i):=by
 refine LeL.of_eq ?_;have e:∀a b:Int,a=b->([AV.int .i64 fun _=>a]:List AV)=[AV.int .i64 fun _=>b]:=fun a b h=>by rw[h]
 unfold catF;by_cases q:i<l.length
 ·rw[if_pos q];refine e _ _ ?_;show l.getD i 0=(l++[n]).getD i 0;rw[List.getD_eq_getElem?_getD,List.getD_eq_getElem?_getD,List.getElem?_append_left q]
 ·rw[if_neg q];obtain rfl:i=l.length:=by omega
  have h1:(aaL [[AV.int .i64 fun _=>n]] fun _=>l.length-l.length)=[AV.int .i64 fun _=>n]:=by rw[Nat.sub_self];rfl
  refine h1.trans (e _ _ ?_);show n=(l++[n]).getD l.length 0;rw[List.getD_eq_getElem?_getD,List.getElem?_append_right (Nat.le_refl _),Nat.sub_self];rfl
def apZ(ms:List (ByteArray×Nat))(s:ByteArray)(hl:ms.length<=6)(hd:∀q∈ms,q.2<=4)(hs:s.size<=1073741824):
 Af Tryz.prog 127 [.str fun _=>s,.slc .any 1 (fun _=>ms.length) (rowMk fun _=>ms),.slc .any 1 (fun _=>ms.length) (rowMd fun _=>ms)] [] (.tup [.slc .any 1 (fun _=>(nmsO ms s).1.length) (rowZ fun _=>(nmsO ms s).1),.str fun _=>(nmsO ms s).2.1,.bool fun _=>(nmsO ms s).2.2]) []:=by
 obtain⟨R,hR⟩:∃R,R=nmsO ms s:=⟨_,rfl⟩
 rw[<- hR];unfold nmsO at hR
 (refine fA [.tmp 6,.tmp 7,.tmp 8] aq5 [] Tryz.func127 fun _=>?_;repeat' with_reducible first|exact⟨⟩|refine mA ?_ ?_|refine mC (fun _=>?_) fun _=>?_)
 refine .loop (fun q:Nat×List Int×ByteArray=>⟨49,[(15,.int .i64 fun _=>(q.1:Int)),(14,.int .i64 fun _=>(ms.length:Int)),(13,.slc .any 1 (fun _=>ms.length) (rowMk fun _=>ms)),(6,.aref 45 1 fun _=>q.2.1.length),(7,.str fun _=>q.2.2),(0,.str fun _=>s),(2,.slc .any 1 (fun _=>ms.length) (rowMd fun _=>ms))],[(45,.arr false 3 1 1 (fun _=>q.2.1.length) (rowZ fun _=>q.2.1))]⟩)
  (fun q=>q.1<=ms.length∧q.2.1.length<=q.1∧q.2.2.size<=s.size∧nmsF (ms.drop q.1) q.2.1 q.2.2=nmsF ms [] s) (fun q=>ms.length-q.1) (0,[],s) ⟨Nat.zero_le _,Nat.le_refl _,Nat.le_refl _,rfl⟩ ?_ fun q E hq=>?_
 ·exact aZ
 obtain⟨i,l,u⟩:=q;obtain⟨e1,e2,e3,e4⟩:=hq;dsimp only at e1 e2 e3 e4;generalize nmsF ms [] s=Z at*;by_cases c1:i<ms.length
 ·have hx:ms.drop i=ms.getD i default::ms.drop (i+1):=by
   rw[List.drop_eq_getElem_cons c1];simp[List.getD,c1]
  rw[hx]at e4;have hm:=hd (ms.getD i default) (by simp[List.getD,c1]);obtain⟨m,hmq⟩:∃m,m=ms.getD i default:=⟨_,rfl⟩
  rw[<- hmq]at e4 hm;unfold nmsF at e4;have h5:=ap2 u m.1;have hcs:=aow u m.1;have h9:=aoW m.2 (cutF u m.1).1 hm (by omega);have hns:=aoI (d:=m.2) (s:=(cutF u m.1).1) hm;obtain⟨m1,m2⟩:=m;have hn1:(ms.getD i default).1=m1:=by rw[<- hmq]
  have hn2:(((ms.getD i default).2:Nat):Int)=(m2:Int):=by rw[<- hmq]
  dsimp only at h5 hcs h9 hns e4 hm;obtain⟨v,b,hvb⟩:∃v b,cutF u m1=(v,b):=⟨_,_,rfl⟩
  rw[hvb]at h5 hcs h9 hns e4;dsimp only at h5 hcs h9 hns e4;cases b with
  | false=>
   rw[if_neg (by decide)]at e4;rw[<- e4]at hR;dsimp only at hR;subst hR;apply AWp.wk tF mF [(5,[(2,.tup [zR v,zO false],[])]),(9,[(5,.any,[])])] aq5 ?_
   (refine oA ?_;repeat' with_reducible first|exact⟨⟩|refine mA ?_ ?_|refine mC (fun _=>?_) fun _=>?_)
   any_goals((with_reducible refine nO ?_);simp only[Int.toNat_natCast,hn1];exact h5)
   all_goals(try(exfalso;omega))
   all_goals exact eZ
  | true=>
   rw[if_pos rfl]at e4;obtain⟨n,x,b2,hnx⟩:∃n x b,numO m2 v=(n,x,b):=⟨_,_,_,rfl⟩
   rw[hnx]at h9 hns e4;dsimp only at h9 hns e4;cases b2 with
   | false=>
    rw[if_neg (by decide)]at e4;rw[<- e4]at hR;dsimp only at hR;subst hR;apply AWp.wk tF mF [(5,[(2,.tup [zR v,zO true],[])]),(9,[(5,.tup [zI n,zR x,zO false],[])])] aq5 ?_
    (refine oA ?_;repeat' with_reducible first|exact⟨⟩|refine mA ?_ ?_|refine mC (fun _=>?_) fun _=>?_)
    any_goals((with_reducible refine nO ?_);first|(simp only[Int.toNat_natCast,hn1];exact h5)|(simp only[Int.toNat_natCast,hn2];exact h9))
    all_goals(try(exfalso;omega))
    all_goals exact eZ
   | true=>
    rw[if_pos rfl]at e4;apply AWp.wk tF mF [(5,[(2,.tup [zR v,zO true],[])]),(9,[(5,.tup [zI n,zR x,zO true],[])])] aq5 ?_
    (refine oA ?_;repeat' with_reducible first|exact⟨⟩|refine mA ?_ ?_|refine mC (fun _=>?_) fun _=>?_)
    any_goals((with_reducible refine nO ?_);first|(simp only[Int.toNat_natCast,hn1];exact h5)|(simp only[Int.toNat_natCast,hn2];exact h9))
    all_goals(try(exfalso;omega))
    (all_goals try first|exact eZ|(refine qC ?_;repeat' with_reducible first|exact⟨⟩|refine mA ?_ ?_))
    all_goals(try(show _<=_;omega))
    have hI:(i+1<=ms.length∧(l++[n]).length<=i+1∧x.size<=s.size∧nmsF (ms.drop (i+1)) (l++[n]) x=Z)∧ms.length-(i+1)<ms.length-i:=⟨⟨by omega,by rw[List.length_append];show l.length+1<=_;omega,by omega,e4⟩,by omega⟩
    refine dE (ι:=Nat×List Int×ByteArray) (μ:=fun q=>ms.length-q.1) (i:=(i,l,u)) (i+1,l++[n],x) hI ?_
    (focus(refine aQ ?_;repeat' first|with_reducible apply And.intro|exact wZ|fail))
    all_goals(try exact w64n (by omega))
    all_goals(try(rw[List.length_append];rfl))
    all_goals(try exact fun j hj=>apY l n j hj)
 ·obtain rfl:i=ms.length:=by omega
  rw[List.drop_length]at e4;unfold nmsF at e4;rw[<- e4]at hR;dsimp only at hR;subst hR;apply AWp.wk tF mF [(5,[(2,.any,[])]),(9,[(5,.any,[])])] aq5 ?_
  (refine oA ?_;repeat' with_reducible first|exact⟨⟩|refine mA ?_ ?_|refine mC (fun _=>?_) fun _=>?_)
  all_goals(try(exfalso;omega))
  all_goals exact eZ
def ms3:List (ByteArray×Nat):=[(⟨#[]⟩,4),(⟨#[45]⟩,2),(⟨#[45]⟩,2)]
def ao8(s:ByteArray):Int×Int:=if(nmsO ms3 s).2.2=false∨(nmsO ms3 s).2.1≠⟨#[]⟩then(0,13)else dayF ((nmsO ms3 s).1.getD 0 0) ((nmsO ms3 s).1.getD 1 0) ((nmsO ms3 s).1.getD 2 0)
def apo{ms:List (ByteArray×Nat)}{s:ByteArray}(hm:∀m∈ms,m.2<=4):(nmsO ms s).2.1.size<=s.size∧(∀i,0<=(nmsO ms s).1.getD i 0∧(nmsO ms s).1.getD i 0<10000)∧((nmsO ms s).2.2=true->(nmsO ms s).1.length=ms.length)∧(nmsO ms s).1.length<=ms.length:=by
 unfold nmsO;split
 ·rename_i q h;obtain⟨a,b,c⟩:=apq ms [] s q hm (fun x hx=>by cases hx) h;simp only[List.length_nil,Nat.zero_add]at a;refine⟨c,fun i=>?_,fun _=>a,Nat.le_of_eq a⟩;dsimp only;rcases Nat.lt_or_ge i q.1.length with g|g
  ·have:q.1.getD i 0=q.1[i]:=by simp[List.getD,g]
   rw[this];exact b _ (List.getElem_mem g)
  ·have:q.1.getD i 0=0:=by simp[List.getD,g]
   rw[this];exact⟨Int.le_refl _,by show(0:Int)<10000;decide⟩
 ·exact⟨Nat.le_refl _,fun i=>⟨Int.le_refl _,by show(0:Int)<10000;decide⟩,fun h=>absurd h (by simp),Nat.zero_le _⟩
def aqh(s:ByteArray)(hs:s.size<=1073741824):Af Tryz.prog 81 [.str fun _=>s] [] (.tup [.int .i64 fun _=>(ao8 s).1,.int .i64 fun _=>(ao8 s).2]) []:=by
 have h1:=apZ ms3 s (by decide) (by decide) hs;obtain⟨g1,g2,g3,g4⟩:=apo (ms:=ms3) (s:=s) (by decide);unfold ao8;generalize nmsO ms3 s=q at*;obtain⟨L,x,b⟩:=q;dsimp only at*;have k1:=aqg (L.getD 0 0) (L.getD 1 0) (L.getD 2 0) ⟨(g2 0).1,by have:=(g2 0).2;omega⟩ ⟨(g2 1).1,by have:=(g2 1).2;omega⟩ ⟨(g2 2).1,by have:=(g2 2).2;omega⟩;obtain⟨A,hA⟩:∃A,A=dayF (L.getD 0 0) (L.getD 1 0) (L.getD 2 0):=⟨_,rfl⟩
 rw[<- hA]at k1 ⊢;clear hA g2;have hmk:(rowMk fun _=>ms3)=fun i=>[.str fun _=>(ms3.getD (i ()) default).1]:=rfl;cases b with
 | false=>
  rw[if_pos (.inl rfl)]
  (refine fA [.tmp 2,.tmp 3] kp81 [(1,[(1,.nil,[]),(2,.nil,[]),(3,.tup [.slc .any 1 (fun _=>L.length) (rowZ fun _=>L),zR x,zO false],[])])] Tryz.func81 fun _=>?_;repeat' with_reducible first|exact⟨⟩|refine mA ?_ ?_|refine mC (fun _=>?_) fun _=>?_)
  (any_goals((with_reducible refine bZ ?_);(try dsimp only);(have q:=h1;refine Af.wN q ?_;clear q);(focus(refine aQ ?_;repeat' first|with_reducible apply And.intro|exact wZ|fail))))
  all_goals(try(intro i hi;rcases(by omega:i=0∨i=1∨i=2)with rfl|rfl|rfl<;>exact LeL.of_eq rfl))
  all_goals(try(exact absurd ‹False∧_› (fun g=>g.1)))
  all_goals exact eZ
 | true=>
  replace g3:L.length=3:=g3 rfl;by_cases c:x=⟨#[]⟩
  ·subst c;rw[if_neg (by simp)]
   (refine fA [.tmp 2,.tmp 3] kp81 [(1,[(1,.nil,[]),(2,.nil,[]),(3,.tup [.slc .any 1 (fun _=>L.length) (rowZ fun _=>L),.str fun _=>⟨#[]⟩,zO true],[])]),(4,[(9,.tup [.int .i64 fun _=>A.1,.int .i64 fun _=>A.2],[])])] Tryz.func81 fun _=>?_;repeat' with_reducible first|exact⟨⟩|refine mA ?_ ?_|refine mC (fun _=>?_) fun _=>?_)
   (any_goals((with_reducible refine bZ ?_);(try dsimp only);(have q:=h1;refine Af.wN q ?_;clear q);(focus(refine aQ ?_;repeat' first|with_reducible apply And.intro|exact wZ|fail))))
   all_goals(try(intro i hi;rcases(by omega:i=0∨i=1∨i=2)with rfl|rfl|rfl<;>exact LeL.of_eq rfl))
   all_goals(try((with_reducible refine nO ?_);exact k1))
   all_goals(try(exact absurd trivial (‹¬True∨_›.elim id id)))
   (all_goals try first|exact eZ|(refine qC ?_;repeat' with_reducible first|exact⟨⟩|refine mA ?_ ?_))
   all_goals(try omega)
  ·rw[if_pos (.inr c)]
   (refine fA [.tmp 2,.tmp 3] kp81 [(1,[(1,.nil,[]),(2,.nil,[]),(3,.tup [.slc .any 1 (fun _=>L.length) (rowZ fun _=>L),zR x,zO true],[])])] Tryz.func81 fun _=>?_;repeat' with_reducible first|exact⟨⟩|refine mA ?_ ?_|refine mC (fun _=>?_) fun _=>?_)
   (any_goals((with_reducible refine bZ ?_);(try dsimp only);(have q:=h1;refine Af.wN q ?_;clear q);(focus(refine aQ ?_;repeat' first|with_reducible apply And.intro|exact wZ|fail))))
   all_goals(try(intro i hi;rcases(by omega:i=0∨i=1∨i=2)with rfl|rfl|rfl<;>exact LeL.of_eq rfl))
   all_goals(try((with_reducible refine nO ?_);exact k1))
   all_goals(try(exact absurd trivial (‹¬True∨_›.elim id id)))
   all_goals(try(exact absurd ((aaW x).2 ‹True∧x.size=0›.2) c))
   (all_goals try first|exact eZ|(refine qC ?_;repeat' with_reducible first|exact⟨⟩|refine mA ?_ ?_))
   all_goals(try omega)
def ms6:List (ByteArray×Nat):=[(⟨#[]⟩,4),(⟨#[45]⟩,2),(⟨#[45]⟩,2),(⟨#[84]⟩,2),(⟨#[58]⟩,2),(⟨#[58]⟩,2)]
def millF(x:ByteArray):Option (Int×ByteArray):=if(cutF x ⟨#[46]⟩).2=true then(if(numO 3 (cutF x ⟨#[46]⟩).1).2.2=false∨(numO 3 (cutF x ⟨#[46]⟩).1).1=0 then none else some ((numO 3 (cutF x ⟨#[46]⟩).1).1,(numO 3 (cutF x ⟨#[46]⟩).1).2.1))else some (0,x)
def apz(D:Int×Int)(a3 a4 a5:Int):Option (Int×ByteArray)->Int×Int
 | none=>(0,13)
 | some (m,r)=>if r≠⟨#[90]⟩then(0,13)else if D.2≠0∨23<a3∨59<a4∨59<a5 then(0,17)else apF D.1 (((60*a3+a4)*60+a5)*1000+m)
def ao7(s:ByteArray):Int×Int:=if(nmsO ms6 s).2.2=false then(0,13)else
 apz (dayF ((nmsO ms6 s).1.getD 0 0) ((nmsO ms6 s).1.getD 1 0) ((nmsO ms6 s).1.getD 2 0)) ((nmsO ms6 s).1.getD 3 0) ((nmsO ms6 s).1.getD 4 0) ((nmsO ms6 s).1.getD 5 0) (millF (nmsO ms6 s).2.1)
def six_L{l:List Int}(h:l.length=6):∃a b c d e f,l=[a,b,c,d,e,f]:=by
 match l,h with
 | [a,b,c,d,e,f],_=>exact⟨a,b,c,d,e,f,rfl⟩
def g60(a b c d e f:Int):[a,b,c,d,e,f].getD (Int.toNat 0) 0=a:=rfl
def g61(a b c d e f:Int):[a,b,c,d,e,f].getD (Int.toNat 1) 0=b:=rfl
def g62(a b c d e f:Int):[a,b,c,d,e,f].getD (Int.toNat 2) 0=c:=rfl
def g63(a b c d e f:Int):[a,b,c,d,e,f].getD (Int.toNat 3) 0=d:=rfl
def g64(a b c d e f:Int):[a,b,c,d,e,f].getD (Int.toNat 4) 0=e:=rfl
def g65(a b c d e f:Int):[a,b,c,d,e,f].getD (Int.toNat 5) 0=f:=rfl
def g6l(a b c d e f:Int):[a,b,c,d,e,f].length=6:=rfl
def apV(s:ByteArray)(hs:s.size<=1073741824):Af Tryz.prog 82 [.str fun _=>s] [] (.tup [.int .i64 fun _=>(ao7 s).1,.int .i64 fun _=>(ao7 s).2]) []:=by
 have h1:=apZ ms6 s (by decide) (by decide) hs;obtain⟨g1,g2,g3,g4⟩:=apo (ms:=ms6) (s:=s) (by decide);unfold ao7;generalize nmsO ms6 s=q at*;obtain⟨L,x,b⟩:=q;dsimp only at*;have k1:=aqg (L.getD 0 0) (L.getD 1 0) (L.getD 2 0) ⟨(g2 0).1,by have:=(g2 0).2;omega⟩ ⟨(g2 1).1,by have:=(g2 1).2;omega⟩ ⟨(g2 2).1,by have:=(g2 2).2;omega⟩;obtain⟨D,hD⟩:∃D,D=dayF (L.getD 0 0) (L.getD 1 0) (L.getD 2 0):=⟨_,rfl⟩
 rw[<- hD]at k1 ⊢;clear hD;have r3:=g2 3;have r4:=g2 4;have r5:=g2 5;clear g2;cases b with
 | false=>
  rw[if_pos rfl]
  (refine fA [.tmp 2,.tmp 3] kp82 [(1,[(1,.nil,[]),(2,.nil,[]),(3,.tup [.slc .any 1 (fun _=>L.length) (rowZ fun _=>L),zR x,zO false],[])])] Tryz.func82 fun _=>?_;repeat' with_reducible first|exact⟨⟩|refine mA ?_ ?_|refine mC (fun _=>?_) fun _=>?_)
  (any_goals((with_reducible refine bZ ?_);(try dsimp only);(have q:=h1;refine Af.wN q ?_;clear q);(focus(refine aQ ?_;repeat' first|with_reducible apply And.intro|exact wZ|fail))))
  all_goals(try(intro i hi;rcases(by omega:i=0∨i=1∨i=2∨i=3∨i=4∨i=5)with rfl|rfl|rfl|rfl|rfl|rfl<;>exact LeL.of_eq rfl))
  all_goals exact eZ
 | true=>
  replace g3:L.length=6:=g3 rfl;rw[if_neg (by decide)];have h5:=ap2 x ⟨#[46]⟩;have hcs:=aow x ⟨#[46]⟩;have hw0:∀n:Nat,((n:Int)).toNat=n:=Int.toNat_natCast;obtain⟨a0,a1,a2,a3,a4,a5,rfl⟩:=six_L g3;replace r3:0<=a3∧a3<10000:=r3;replace r4:0<=a4∧a4<10000:=r4;replace r5:0<=a5∧a5<10000:=r5;replace k1:Af Tryz.prog 128 [.int .i64 fun _=>a0,.int .i64 fun _=>a1,.int .i64 fun _=>a2] [] (.tup [.int .i64 fun _=>D.1,.int .i64 fun _=>D.2]) []:=k1;show Af Tryz.prog 82 [.str fun _=>s] [] (.tup [.int .i64 fun _=>(apz D a3 a4 a5 (millF x)).1,.int .i64 fun _=>(apz D a3 a4 a5 (millF x)).2]) [];clear g3 g4;unfold millF;have hw1:IntKind.i64.wrap (60*a3)=60*a3:=w64 (by omega) (by omega);have hw2:IntKind.i64.wrap (60*a3+a4)=60*a3+a4:=w64 (by omega) (by omega);have hw3:IntKind.i64.wrap ((60*a3+a4)*60)=(60*a3+a4)*60:=w64 (by omega) (by omega);have hw4:IntKind.i64.wrap ((60*a3+a4)*60+a5)=(60*a3+a4)*60+a5:=w64 (by omega) (by omega);generalize cutF x ⟨#[46]⟩=c at*;obtain⟨y,cb⟩:=c;dsimp only at*;cases cb with
  | true=>
   rw[if_pos rfl];have h7:=aoW 3 y (by decide) (by omega);have hn:=aoI (d:=3) (s:=y) (by decide);generalize numO 3 y=N at*;obtain⟨n,z,ok⟩:=N;dsimp only at*;by_cases c1:ok=false∨n=0
   ·rw[if_pos c1];unfold apz;dsimp only;cases ok with
    | false=>
     (refine fA [.tmp 2,.tmp 3] kp82 [(1,[(1,.nil,[]),(2,.nil,[]),(3,.tup [.slc .any 1 (fun _=>[a0,a1,a2,a3,a4,a5].length) (rowZ fun _=>[a0,a1,a2,a3,a4,a5]),zR x,zO true],[])]),(5,[(1,.tup [zR y,zO true],[])]),(7,[(1,.tup [zI n,zR z,zO false],[])])] Tryz.func82 fun _=>?_;repeat' with_reducible first|exact⟨⟩|refine mA ?_ ?_|refine mC (fun _=>?_) fun _=>?_)
     (any_goals((with_reducible refine bZ ?_);(try dsimp only);(have q:=h1;refine Af.wN q ?_;clear q);(focus(refine aQ ?_;repeat' first|with_reducible apply And.intro|exact wZ|fail))))
     all_goals(try(intro i hi;rcases(by omega:i=0∨i=1∨i=2∨i=3∨i=4∨i=5)with rfl|rfl|rfl|rfl|rfl|rfl<;>exact LeL.of_eq rfl))
     all_goals(try exact zB)
     all_goals(try(exact absurd ‹True∧¬n=0›.2 (fun g=>by simp_all)))
     all_goals(try(exact absurd ‹False∧_› (fun g=>g.1)))
     all_goals exact eZ
    | true=>
     obtain rfl:n=0:=c1.resolve_left (by decide)
     (refine fA [.tmp 2,.tmp 3] kp82 [(1,[(1,.nil,[]),(2,.nil,[]),(3,.tup [.slc .any 1 (fun _=>[a0,a1,a2,a3,a4,a5].length) (rowZ fun _=>[a0,a1,a2,a3,a4,a5]),zR x,zO true],[])]),(5,[(1,.tup [zR y,zO true],[])]),(7,[(1,.tup [zI 0,zR z,zO true],[])])] Tryz.func82 fun _=>?_;repeat' with_reducible first|exact⟨⟩|refine mA ?_ ?_|refine mC (fun _=>?_) fun _=>?_)
     (any_goals((with_reducible refine bZ ?_);(try dsimp only);(have q:=h1;refine Af.wN q ?_;clear q);(focus(refine aQ ?_;repeat' first|with_reducible apply And.intro|exact wZ|fail))))
     all_goals(try(intro i hi;rcases(by omega:i=0∨i=1∨i=2∨i=3∨i=4∨i=5)with rfl|rfl|rfl|rfl|rfl|rfl<;>exact LeL.of_eq rfl))
     all_goals(try exact zB)
     all_goals(try(exact absurd ‹True∧¬True›.2 (fun g=>g trivial)))
     all_goals exact eZ
   ·rw[if_neg c1];unfold apz;dsimp only;obtain rfl:ok=true:=by
     cases ok
     ·exact absurd (.inl rfl) c1
     ·rfl
    have hn0:n≠0:=fun g=>c1 (.inr g);clear c1;by_cases c2:z≠⟨#[90]⟩
    ·rw[if_pos c2]
     (refine fA [.tmp 2,.tmp 3] kp82 [(1,[(1,.nil,[]),(2,.nil,[]),(3,.tup [.slc .any 1 (fun _=>[a0,a1,a2,a3,a4,a5].length) (rowZ fun _=>[a0,a1,a2,a3,a4,a5]),zR x,zO true],[])]),(5,[(1,.tup [zR y,zO true],[])]),(7,[(1,.tup [zI n,zR z,zO true],[])])] Tryz.func82 fun _=>?_;repeat' with_reducible first|exact⟨⟩|refine mA ?_ ?_|refine mC (fun _=>?_) fun _=>?_)
     all_goals(try simp only[g60,g61,g62,g63,g64,g65,g6l]at*)
     all_goals(try first|simp only[hw0,hw1,hw2,hw3,hw4,hw5,hw6]|simp only[hw0,hw1,hw2,hw3,hw4])
     (any_goals((with_reducible refine bZ ?_);(try dsimp only);(have q:=h1;refine Af.wN q ?_;clear q);(focus(refine aQ ?_;repeat' first|with_reducible apply And.intro|exact wZ|fail))))
     all_goals(try(intro i hi;rcases(by omega:i=0∨i=1∨i=2∨i=3∨i=4∨i=5)with rfl|rfl|rfl|rfl|rfl|rfl<;>exact LeL.of_eq rfl))
     all_goals(try exact zB)
     all_goals(try(exact absurd ‹z=(⟨#[90]⟩:ByteArray)› c2))
     all_goals(try(exfalso;simp only[not_true_eq_false,false_or,or_false,true_and]at*;omega))
     (all_goals try first|exact eZ|(refine qC ?_;repeat' with_reducible first|exact⟨⟩|refine mA ?_ ?_))
     all_goals(try omega)
    rw[if_neg c2];obtain rfl:z=⟨#[90]⟩:=Decidable.not_not.1 c2;by_cases c3:D.2≠0∨23<a3∨59<a4∨59<a5
    ·rw[if_pos c3]
     (refine fA [.tmp 2,.tmp 3] kp82 [(1,[(1,.nil,[]),(2,.nil,[]),(3,.tup [.slc .any 1 (fun _=>[a0,a1,a2,a3,a4,a5].length) (rowZ fun _=>[a0,a1,a2,a3,a4,a5]),zR x,zO true],[])]),(5,[(1,.tup [zR y,zO true],[])]),(7,[(1,.tup [zI n,.str fun _=>⟨#[90]⟩,zO true],[])]),(12,[(9,.tup [.int .i64 fun _=>D.1,.int .i64 fun _=>D.2],[])]),(15,[(17,.tup [.any,.any],[])])] Tryz.func82 fun _=>?_;repeat' with_reducible first|exact⟨⟩|refine mA ?_ ?_|refine mC (fun _=>?_) fun _=>?_)
     all_goals(try simp only[g60,g61,g62,g63,g64,g65,g6l]at*)
     all_goals(try first|simp only[hw0,hw1,hw2,hw3,hw4,hw5,hw6]|simp only[hw0,hw1,hw2,hw3,hw4])
     (any_goals((with_reducible refine bZ ?_);(try dsimp only);(have q:=h1;refine Af.wN q ?_;clear q);(focus(refine aQ ?_;repeat' first|with_reducible apply And.intro|exact wZ|fail))))
     all_goals(try(intro i hi;rcases(by omega:i=0∨i=1∨i=2∨i=3∨i=4∨i=5)with rfl|rfl|rfl|rfl|rfl|rfl<;>exact LeL.of_eq rfl))
     all_goals(try exact zB)
     all_goals(try(exfalso;simp only[not_true_eq_false,false_or,or_false,true_and]at*;omega))
     (all_goals try first|exact eZ|(refine qC ?_;repeat' with_reducible first|exact⟨⟩|refine mA ?_ ?_))
     all_goals(try omega)
    rw[if_neg c3];have k2:=aq6 D.1 (((60*a3+a4)*60+a5)*1000+n);generalize apF D.1 (((60*a3+a4)*60+a5)*1000+n)=J at*;have hw5:IntKind.i64.wrap (((60*a3+a4)*60+a5)*1000)=((60*a3+a4)*60+a5)*1000:=w64 (by omega) (by omega);have hw6:IntKind.i64.wrap (((60*a3+a4)*60+a5)*1000+n)=((60*a3+a4)*60+a5)*1000+n:=w64 (by omega) (by omega)
    (refine fA [.tmp 2,.tmp 3] kp82 [(1,[(1,.nil,[]),(2,.nil,[]),(3,.tup [.slc .any 1 (fun _=>[a0,a1,a2,a3,a4,a5].length) (rowZ fun _=>[a0,a1,a2,a3,a4,a5]),zR x,zO true],[])]),(5,[(1,.tup [zR y,zO true],[])]),(7,[(1,.tup [zI n,.str fun _=>⟨#[90]⟩,zO true],[])]),(12,[(9,.tup [.int .i64 fun _=>D.1,.int .i64 fun _=>D.2],[])]),(15,[(17,.tup [.int .i64 fun _=>J.1,.int .i64 fun _=>J.2],[])])] Tryz.func82 fun _=>?_;repeat' with_reducible first|exact⟨⟩|refine mA ?_ ?_|refine mC (fun _=>?_) fun _=>?_)
    all_goals(try simp only[g60,g61,g62,g63,g64,g65,g6l]at*)
    all_goals(try first|simp only[hw0,hw1,hw2,hw3,hw4,hw5,hw6]|simp only[hw0,hw1,hw2,hw3,hw4])
    (any_goals((with_reducible refine bZ ?_);(try dsimp only);(have q:=h1;refine Af.wN q ?_;clear q);(focus(refine aQ ?_;repeat' first|with_reducible apply And.intro|exact wZ|fail))))
    all_goals(try(intro i hi;rcases(by omega:i=0∨i=1∨i=2∨i=3∨i=4∨i=5)with rfl|rfl|rfl|rfl|rfl|rfl<;>exact LeL.of_eq rfl))
    all_goals(try exact zB)
    all_goals(try(exfalso;simp only[not_true_eq_false,false_or,or_false,true_and]at*;omega))
    (all_goals try first|exact eZ|(refine qC ?_;repeat' with_reducible first|exact⟨⟩|refine mA ?_ ?_))
    all_goals(try omega)
  | false=>
   rw[if_neg (by decide)];unfold apz;dsimp only;have h7:=h5;by_cases c2:x≠⟨#[90]⟩
   ·rw[if_pos c2]
    (refine fA [.tmp 2,.tmp 3] kp82 [(1,[(1,.nil,[]),(2,.nil,[]),(3,.tup [.slc .any 1 (fun _=>[a0,a1,a2,a3,a4,a5].length) (rowZ fun _=>[a0,a1,a2,a3,a4,a5]),zR x,zO true],[])]),(5,[(1,.tup [zR y,zO false],[])]),(7,[(1,.tup [zI 0,zR x,zO true],[])])] Tryz.func82 fun _=>?_;repeat' with_reducible first|exact⟨⟩|refine mA ?_ ?_|refine mC (fun _=>?_) fun _=>?_)
    all_goals(try simp only[g60,g61,g62,g63,g64,g65,g6l]at*)
    all_goals(try first|simp only[hw0,hw1,hw2,hw3,hw4,hw5,hw6]|simp only[hw0,hw1,hw2,hw3,hw4])
    (any_goals((with_reducible refine bZ ?_);(try dsimp only);(have q:=h1;refine Af.wN q ?_;clear q);(focus(refine aQ ?_;repeat' first|with_reducible apply And.intro|exact wZ|fail))))
    all_goals(try(intro i hi;rcases(by omega:i=0∨i=1∨i=2∨i=3∨i=4∨i=5)with rfl|rfl|rfl|rfl|rfl|rfl<;>exact LeL.of_eq rfl))
    all_goals(try exact zB)
    all_goals(try(exact absurd ‹x=(⟨#[90]⟩:ByteArray)› c2))
    all_goals(try(exfalso;simp only[not_true_eq_false,false_or,or_false,true_and]at*;omega))
    (all_goals try first|exact eZ|(refine qC ?_;repeat' with_reducible first|exact⟨⟩|refine mA ?_ ?_))
    all_goals(try omega)
   rw[if_neg c2];obtain rfl:x=⟨#[90]⟩:=Decidable.not_not.1 c2;by_cases c3:D.2≠0∨23<a3∨59<a4∨59<a5
   ·rw[if_pos c3]
    (refine fA [.tmp 2,.tmp 3] kp82 [(1,[(1,.nil,[]),(2,.nil,[]),(3,.tup [.slc .any 1 (fun _=>[a0,a1,a2,a3,a4,a5].length) (rowZ fun _=>[a0,a1,a2,a3,a4,a5]),.str fun _=>⟨#[90]⟩,zO true],[])]),(5,[(1,.tup [zR y,zO false],[])]),(7,[(1,.tup [zI 0,.str fun _=>⟨#[90]⟩,zO true],[])]),(12,[(9,.tup [.int .i64 fun _=>D.1,.int .i64 fun _=>D.2],[])]),(15,[(17,.tup [.any,.any],[])])] Tryz.func82 fun _=>?_;repeat' with_reducible first|exact⟨⟩|refine mA ?_ ?_|refine mC (fun _=>?_) fun _=>?_)
    all_goals(try simp only[g60,g61,g62,g63,g64,g65,g6l]at*)
    all_goals(try first|simp only[hw0,hw1,hw2,hw3,hw4,hw5,hw6]|simp only[hw0,hw1,hw2,hw3,hw4])
    (any_goals((with_reducible refine bZ ?_);(try dsimp only);(have q:=h1;refine Af.wN q ?_;clear q);(focus(refine aQ ?_;repeat' first|with_reducible apply And.intro|exact wZ|fail))))
    all_goals(try(intro i hi;rcases(by omega:i=0∨i=1∨i=2∨i=3∨i=4∨i=5)with rfl|rfl|rfl|rfl|rfl|rfl<;>exact LeL.of_eq rfl))
    all_goals(try exact zB)
    all_goals(try(exfalso;simp only[not_true_eq_false,false_or,or_false,true_and]at*;omega))
    (all_goals try first|exact eZ|(refine qC ?_;repeat' with_reducible first|exact⟨⟩|refine mA ?_ ?_))
    all_goals(try omega)
   rw[if_neg c3];have k2:=aq6 D.1 (((60*a3+a4)*60+a5)*1000+0);generalize apF D.1 (((60*a3+a4)*60+a5)*1000+0)=J at*;have hw5:IntKind.i64.wrap (((60*a3+a4)*60+a5)*1000)=((60*a3+a4)*60+a5)*1000:=w64 (by omega) (by omega);have hw6:IntKind.i64.wrap (((60*a3+a4)*60+a5)*1000+0)=((60*a3+a4)*60+a5)*1000+0:=w64 (by omega) (by omega)
   (refine fA [.tmp 2,.tmp 3] kp82 [(1,[(1,.nil,[]),(2,.nil,[]),(3,.tup [.slc .any 1 (fun _=>[a0,a1,a2,a3,a4,a5].length) (rowZ fun _=>[a0,a1,a2,a3,a4,a5]),.str fun _=>⟨#[90]⟩,zO true],[])]),(5,[(1,.tup [zR y,zO false],[])]),(7,[(1,.tup [zI 0,.str fun _=>⟨#[90]⟩,zO true],[])]),(12,[(9,.tup [.int .i64 fun _=>D.1,.int .i64 fun _=>D.2],[])]),(15,[(17,.tup [.int .i64 fun _=>J.1,.int .i64 fun _=>J.2],[])])] Tryz.func82 fun _=>?_;repeat' with_reducible first|exact⟨⟩|refine mA ?_ ?_|refine mC (fun _=>?_) fun _=>?_)
   all_goals(try simp only[g60,g61,g62,g63,g64,g65,g6l]at*)
   all_goals(try first|simp only[hw0,hw1,hw2,hw3,hw4,hw5,hw6]|simp only[hw0,hw1,hw2,hw3,hw4])
   (any_goals((with_reducible refine bZ ?_);(try dsimp only);(have q:=h1;refine Af.wN q ?_;clear q);(focus(refine aQ ?_;repeat' first|with_reducible apply And.intro|exact wZ|fail))))
   all_goals(try(intro i hi;rcases(by omega:i=0∨i=1∨i=2∨i=3∨i=4∨i=5)with rfl|rfl|rfl|rfl|rfl|rfl<;>exact LeL.of_eq rfl))
   all_goals(try exact zB)
   all_goals(try(exfalso;simp only[not_true_eq_false,false_or,or_false,true_and]at*;omega))
   (all_goals try first|exact eZ|(refine qC ?_;repeat' with_reducible first|exact⟨⟩|refine mA ?_ ?_))
   all_goals(try omega)
end Go.Ai
