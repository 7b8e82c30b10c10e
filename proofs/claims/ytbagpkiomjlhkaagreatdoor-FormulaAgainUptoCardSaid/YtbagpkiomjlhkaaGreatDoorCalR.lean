/- Chapter 2: the texts of dates and times. -/
import Derived.Test.YtbagpkiomjlhkaaGreatDoorDec
import Derived.Test.YtbagpkiomjlhkaaGreatDoorLexE
set_option linter.all false
namespace Go.Ai
open Go Go.Proofs Tryz
set_option maxRecDepth 100000
set_option maxHeartbeats 4000000
def mX(n a b:Int):Af prog 187 [.int .i64 fun _=>n,.int .i64 fun _=>a,.int .i64 fun _=>b] [] (.bool fun _=>decide (a<=n∧n<=b)) []:=by
 obtain⟨Z,hZ⟩:∃Z,Z=decide (a<=n∧n<=b):=⟨_,rfl⟩
 rw[<- hZ]
 (refine fB [.tmp 6] MN [] func187 fun _=>?_;repeat' first|exact⟨⟩|apply mA|apply mC<;>intro)
 rw[hZ];by_cases c1:a<=n<;>by_cases c2:n<=b<;>simp[c1,c2]
def b9(y:Int):Int:=365*(y-1)+(y-1)/4-(y-1)/100+(y-1)/400
def Bt(y:Int)(h0:1<=y)(h1:y<=10000):Af prog 188 [.int .i64 fun _=>y] [] (.int .i64 fun _=>b9 y) []:=by
 obtain⟨Z,hZ⟩:∃Z,Z=b9 y:=⟨_,rfl⟩
 rw[<- hZ]
 (refine fB [.tmp 2] MO [] func188 fun _=>?_;repeat' first|exact⟨⟩|apply mA|apply mC<;>intro)
 have w1:IntKind.i64.wrap (y-1)=y-1:=ax zo zo
 rw[w1,qx zo,qx zo,qx zo,ax (x:=365*(y-1)) zo zo,ax (x:=(y-1)/4) zo zo,ax (x:=(y-1)/100) zo zo,ax (x:=(y-1)/400) zo zo,
  ax (x:=365*(y-1)+(y-1)/4) zo zo,ax (x:=365*(y-1)+(y-1)/4-(y-1)/100) zo zo,ax (x:=365*(y-1)+(y-1)/4-(y-1)/100+(y-1)/400) zo zo,hZ]
 rfl
def MP(y:Int)(h0:1<=y)(h1:y<=9999):Af prog 234 [.int .i64 fun _=>y] [] (.bool fun _=>decide (y%4=0∧(y%100≠0∨y%400=0))) []:=by
 have h:=mX y 1 9999;rw[gq (zo:1<=y∧y<=9999)]at h;obtain⟨Z,hZ⟩:∃Z,Z=decide (y%4=0∧(y%100≠0∨y%400=0)):=⟨_,rfl⟩
 rw[<- hZ]
 (refine fB [.tmp 2] MQ [(1,[(1,zO true,[])])] func234 fun _=>?_;repeat' first|exact⟨⟩|apply mA|apply mC<;>intro)
 ·exact fun _=>rfl
 ·rw[hZ,mP zo,mP zo,mP zo];by_cases c1:y%4=0<;>by_cases c2:y%100=0<;>by_cases c3:y%400=0<;>simp[c1,c2,c3]
def cM(y m:Int):Int:=if m=2 then(if y%4=0∧(y%100≠0∨y%400=0)then 29 else 28)else if m=4∨m=6∨m=9∨m=11 then 30 else 31
def Bu(y m:Int)(h0:1<=y)(h1:y<=9999)(g0:1<=m)(g1:m<=12):Af prog 189 [.int .i64 fun _=>y,.int .i64 fun _=>m] [] (.int .i64 fun _=>cM y m) []:=by
 have h:=MP y h0 h1;obtain⟨Z,hZ⟩:∃Z,Z=cM y m:=⟨_,rfl⟩
 rw[<- hZ];unfold cM at hZ;obtain⟨L,hL⟩:∃L,L=decide (y%4=0∧(y%100≠0∨y%400=0)):=⟨_,rfl⟩
 rw[<- hL]at h
 (refine fB [.tmp 4] MR [(1,[(4,zO L,[])])] func189 fun _=>?_;repeat' first|exact⟨⟩|apply mA|apply mC<;>intro)
 ·obtain⟨c1,c2⟩:=‹_∧L=true›
  rw[hL,decide_eq_true_iff]at c2;rw[hZ,ae c1,ae c2]
 ·have c:¬(m=2∧(y%4=0∧(y%100≠0∨y%400=0))):=by
   rintro⟨c1,c2⟩;rcases‹_∨L=false›with c|c
   ·exact c c1
   ·rw[hL,decide_eq_false_iff_not]at c;exact c c2
  rw[ax (x:=m-1) zo zo,hZ];clear hZ hL h;rcases(zo:m=1∨m=2∨m=3∨m=4∨m=5∨m=6∨m=7∨m=8∨m=9∨m=10∨m=11∨m=12)with rfl|rfl|rfl|rfl|rfl|rfl|rfl|rfl|rfl|rfl|rfl|rfl
  case inr.inl=>rw[ae rfl,aa fun q=>c ⟨rfl,q⟩];rfl
  all_goals rfl
theorem F1{d:Int}(h0:0<=d):∀k:Nat,d<b9 ((k:Int)+1)->∃Y:Int,1<=Y∧Y<=k∧b9 Y<=d∧d<b9 (Y+1)
 | 0,h=>absurd h (by show¬d<b9 (0+1);rw[show b9 (0+1)=0 by decide];omega)
 | k+1,h=>by
  by_cases c:b9 ((k+1:Nat):Int)<=d
  ·exact⟨_,zo,fC _,c,h⟩
  ·obtain⟨Y,a,b,q⟩:=F1 h0 k (by rw[show((k:Int)+1)=((k+1:Nat):Int) by omega];omega);exact⟨Y,a,zo,q⟩
def sR{a b:Int}(h:a<=b):b9 a<=b9 b:=by unfold b9;omega
def MS(y:Int):b9 (y+1)=b9 y+365+(if y%4=0∧(y%100≠0∨y%400=0)then 1 else 0):=by
 unfold b9;split<;>omega
def cw(y:Int):Nat->Int
 | 0=>0
 | 1=>0
 | m+2=>cw y (m+1)+cM y ((m+1:Nat):Int)
def MT(y:Int):cw y 13=365+(if y%4=0∧(y%100≠0∨y%400=0)then 1 else 0):=by
 by_cases c:y%4=0∧(y%100≠0∨y%400=0)
 ·simp only[cw,cM,ae c];rfl
 ·simp only[cw,cM,aa c];rfl
def MU(y d:Int)(h:d<cw y 13)(h0:0<=d):∃M:Nat,1<=M∧M<=12∧0<=d-cw y M∧d-cw y M<cM y M∧∀j:Nat,1<=j->j<M->cM y j<=d-cw y j:=by
 have key:∀k:Nat,(∃M:Nat,1<=M∧M<=k∧0<=d-cw y M∧d-cw y M<cM y M∧∀j:Nat,1<=j->j<M->cM y j<=d-cw y j)∨(cw y (k+1)<=d∧∀j:Nat,1<=j->j<=k->cM y j<=d-cw y j):=by
  intro k
  induction k with
  | zero=>exact .inr ⟨h0,fun j a b=>zo⟩
  | succ k ih=>
   rcases ih with⟨M,a,b,c⟩|⟨a,b⟩
   ·exact .inl ⟨M,a,zo,c⟩
   ·by_cases c:d-cw y (k+1)<cM y ((k+1:Nat):Int)
    ·exact .inl ⟨k+1,zo,ao _,zo,c,fun j e f=>b j e zo⟩
    ·refine .inr ⟨?_,fun j e f=>?_⟩
     ·show cw y (k+1)+cM y ((k+1:Nat):Int)<=d;omega
     ·by_cases g:j=k+1
      ·subst g;omega
      ·exact b j e zo
 rcases key 12 with h'|⟨h',_⟩
 ·exact h'
 ·exact absurd h' (by show¬cw y 13<=d;omega)
def MV(n:Int)(h0 : -719162<=n)(h1:n<=2932896):∃y m d:Int,1<=y∧y<=9999∧1<=m∧m<=12∧1<=d∧d<=31∧(d<=cM y m∧n = -719162+b9 y+d-1+cw y m.toNat)∧Af prog 219 [.int .i64 fun _=>n] [] (.ag [.int .i64 fun _=>y,.int .i64 fun _=>m,.int .i64 fun _=>d,.int .i64 fun _=>0]) []:=by
 obtain⟨D,hD⟩:∃D,D=n+719162:=⟨_,rfl⟩
 obtain⟨Y,y0,y1,y2,y3⟩:=F1 (d:=D) zo 9999 (by rw[show b9 (((9999:Nat):Int)+1)=3652059 by decide];omega);have hs:=MS Y;have hc:=MT Y;obtain⟨M,m0,m1,m2,m3,m4⟩:=MU Y (D-b9 Y) zo zo;obtain⟨R,hR⟩:∃R,R=D-b9 Y-cw Y M:=⟨_,rfl⟩
 have hmd:cM Y M<=31:=by unfold cM;(repeat' split)<;>omega
 refine⟨Y,M,R+1,y0,zo,zo,zo,zo,zo,⟨zo,by rw[bu];omega⟩,?_⟩;have hi:=mX n (-719162) 2932896;rw[gq (by omega : -719162<=n∧n<=2932896)]at hi;have hb:=Bt;have hm:=Bu Y
 (refine fA [.tmp 2,.tmp 3,.tmp 4,.tmp 5] yd [(1,[(1,zO true,[])]),(7,[(2,.int .i64 fun _=>b9 Y,[])])] func219 fun _=>?_;repeat' first|exact⟨⟩|apply mA|apply mC<;>intro)
 all_goals try exact zB
 ·intro c hc;simp only[dD]at hc;subst hc;decide
 have e1:IntKind.i64.wrap (n - -719162)=D:=(ax zo zo).trans zo;have e2:IntKind.i64.wrap (D.tdiv 365)=D/365:=by rw[qx zo];exact ax zo zo
 have e3:IntKind.i64.wrap (D/365+1)=D/365+1:=ax zo zo;obtain⟨s0,hs0⟩:∃s0,s0=if 9999<D/365+1 then 9999 else D/365+1:=⟨_,rfl⟩
 simp only[e1,e2,e3,jc,dg,<- hs0];have hs1:Y<=s0∧s0<=9999:=by
  refine⟨?_,by rw[hs0];split<;>omega⟩;rcases xL s0 Y with h|h
  ·have k1:=sR (show s0+1<=Y by omega);have k2:365*s0<=b9 (s0+1)∨s0<0:=by unfold b9;omega
   have h9:s0<9999:=zo
   have k3:s0=D/365+1:=by rw[hs0];rw[hs0]at h9;revert h9;split<;>omega
   omega
  ·exact h
 refine .loop (fun y:Int=>⟨42,[(2,.int .i64 fun _=>y),(6,.int .i64 fun _=>D)],[]⟩) (fun y=>Y<=y∧y<=9999) (fun y=>y.toNat) s0 hs1 ?_ fun y E hy=>?_
 ·exact aZ
 obtain⟨hy0,hy1⟩:=hy;have hy':¬D<b9 y->y=Y:=fun q=>by
  rcases xL Y y with h|h
  ·have:=sR (show Y+1<=y by omega);omega
  ·omega
 have hb2:=Bt y zo zo;apply af.wk tF mF [(5,[(1,.int .i64 fun _=>b9 y,[])])] yd ?_
 (refine oA ?_;repeat' first|exact⟨⟩|apply mA|apply mC<;>intro)
 all_goals try exact zB
 ·refine dE (ι:=Int) (μ:=fun y=>y.toNat) (i:=y) (y-1) ⟨⟨?_,zo⟩,zo⟩ ?_
  ·rcases xL Y y with h|h
   ·omega
   ·have:=sR h;omega
  ·have e:IntKind.i64.wrap (y-1)=y-1:=ax zo zo;rw[e]
   exact aZ
 ·refine nO ?_;rw[<- hy' (pc.2 ‹b9 y<=D›)];exact hb2
 ·rw [hy' (pc.2 ‹b9 y<=D›)];have hb0:0<=b9 Y:=by have:=sR y0;rw[show b9 1=0 by decide]at this;exact this
  have e4:IntKind.i64.wrap (D-b9 Y)=D-b9 Y-cw Y 1:=(ax zo zo).trans (by show _=_-0;omega);rw[e4];refine .loop (fun m:Nat=>⟨42,[(3,.int .i64 fun _=>(m:Int)),(6,.int .i64 fun _=>D-b9 Y-cw Y m),(2,.int .i64 fun _=>Y)],[]⟩) (fun m=>1<=m∧m<=M∧0<=D-b9 Y-cw Y m∧D-b9 Y-cw Y m<=4000000) (fun m=>12-m) 1 ⟨zo,zo,by show 0<=D-b9 Y-0;omega,by show D-b9 Y-0<=4000000;omega⟩ ?_ fun m E hmm=>?_
  ·exact aZ
  obtain⟨g0,g1,g2,g3⟩:=hmm;have Ze:28<=cM Y m∧cM Y m<=31:=by unfold cM;(repeat' split)<;>omega
  have hk:=hm m zo zo zo zo;have hms:cw Y (m+1)=cw Y m+cM Y m:=by
   obtain⟨j,rfl⟩:∃j,m=j+1:=⟨m-1,zo⟩
   rfl
  have F2:cM Y m<=D-b9 Y-cw Y m->m<M:=fun q=>by
   rcases iG m M with h|h
   ·exact h
   ·have:m=M:=by omega
    subst this;omega
  have F3:D-b9 Y-cw Y m<cM Y m->m=M:=fun q=>by
   rcases iG m M with h|h
   ·have:=m4 m g0 h;omega
   ·omega
  have e5:IntKind.i64.wrap (D-b9 Y-cw Y m-cM Y m)=D-b9 Y-cw Y (m+1):=(ax zo zo).trans zo;apply af.wk tF mF [(9,[(3,.int .i64 fun _=>cM Y m,[])]),(11,[(3,.int .i64 fun _=>cM Y m,[])])] yd ?_
  (refine oA ?_;repeat' first|exact⟨⟩|apply mA|apply mC<;>intro)
  all_goals try exact zB
  ·have hlt:=F2 ‹cM Y (m:Int)<=D-b9 Y-cw Y m›;rw[e5,show IntKind.i64.wrap ((m:Int)+1)=((m+1:Nat):Int)from(ax zo zo).trans zo];refine dE (ι:=Nat) (μ:=fun m=>12-m) (i:=m) (m+1) ⟨⟨zo,zo,zo,zo⟩,zo⟩ ?_
   exact aZ
  ·obtain rfl:=F3 ‹D-b9 Y-cw Y m<cM Y (m:Int)›;have e6:IntKind.i64.wrap (D-b9 Y-cw Y m+1)=R+1:=(ax zo zo).trans zo;rw[e6]
   all_goals exact eZ
def MW(n:Int)(h:¬(-719162<=n∧n<=2932896)):Af prog 219 [.int .i64 fun _=>n] [] (.ag [.int .i64 fun _=>0,.int .i64 fun _=>0,.int .i64 fun _=>0,.int .i64 fun _=>2]) []:=by
 have hi:=mX n (-719162) 2932896;rw[fD h]at hi
 (refine fA [.tmp 2,.tmp 3,.tmp 4,.tmp 5] yd [(1,[(1,zO false,[])]),(7,[(2,.any,[])])] func219 fun _=>?_;repeat' first|exact⟨⟩|apply mA|apply mC<;>intro)
 all_goals try exact zB
 all_goals exact eZ
def gV(n w:Int):ByteArray:=pk ⟨#[48]⟩ (w-(cE n).size).toNat++cE n
def MX(n w:Int)(h0 : -9223372036854775808<=n)(h1:n<=9223372036854775807)(w0:0<=w)(w1:w<=20):(gV n w).size<=60∧Af prog 220 [.int .i64 fun _=>n,.int .i64 fun _=>w] [] (.str fun _=>gV n w) []:=by
 unfold gV;have h4:=ve n h0 h1;have hs:=qL n h0 h1;generalize cE n=d at*;obtain⟨m,hm⟩:∃m:Int,m=(((w-d.size).toNat:Nat):Int):=⟨_,rfl⟩
 have h5:=F4 ⟨#[48]⟩ (w-d.size).toNat zo (by show 1*_<=_;omega)
 have h6:=Bv ⟨#[48]⟩ (w-d.size).toNat
 rw[show(ByteArray.mk #[48]).size=1 from rfl,uJ]at h6;rw[<- hm]at h5;generalize pk ⟨#[48]⟩ (w-d.size).toNat=rp at*;have hsz:(rp++d).size=rp.size+d.size:=aj;refine⟨zo,?_⟩;have e1:IntKind.i64.wrap (w-(d.size:Int))=w-(d.size:Int):=ax zo zo;have e4:(if 0<w-(d.size:Int)then w-(d.size:Int)else 0)=m:=by split<;>omega
 (refine fA [.tmp 4] MY [(1,[(1,zR d,[])]),(2,[(5,zR rp,[])])] func220 fun _=>?_;repeat' first|exact⟨⟩|apply mA|apply mC<;>intro)
 all_goals(try simp only[e1,e4])
 all_goals try exact zB
 all_goals exact eZ
def qM(n w:Int)(h0 : -9223372036854775808<=n)(h1:n<=9223372036854775807)(w0:0<=w)(w1:w<=20):∃t:ByteArray,t=gV n w∧t.size<=60∧Af prog 220 [.int .i64 fun _=>n,.int .i64 fun _=>w] [] (.str fun _=>t) []:=⟨_,rfl,MX n w h0 h1 w0 w1⟩
def vg(n:Int)(t:ByteArray):Prop:=∃y m d:Int,1<=y∧y<=9999∧1<=m∧m<=12∧1<=d∧d<=31∧(d<=cM y m∧n = -719162+b9 y+d-1+cw y m.toNat)∧t=gV y 4++⟨#[45]⟩++gV m 2++⟨#[45]⟩++gV d 2
def F5(n:Int):∃(t:ByteArray) (e:Int),t.size<=200∧(-719162<=n∧n<=2932896->e=0∧vg n t)∧Af prog 154 [.int .i64 fun _=>n] [] (.ag [.str fun _=>t,.int .i64 fun _=>e]) []:=by
 by_cases h : -719162<=n∧n<=2932896
 ·obtain⟨y,m,d,y0,y1,m0,m1,d0,d1,hx,h1⟩:=MV n h.1 h.2;obtain⟨ty,ey,sy,hy⟩:=qM y 4 zo zo zo zo;obtain⟨tm,em,sm,hm⟩:=qM m 2 zo zo zo zo;obtain⟨td,ed,sd,hd⟩:=qM d 2 zo zo zo zo;have k1:(ByteArray.mk #[45]).size=1:=rfl;refine⟨ty++⟨#[45]⟩++tm++⟨#[45]⟩++td,0,by simp only[aj,k1];omega,fun _=>⟨rfl,y,m,d,y0,y1,m0,m1,d0,d1,hx,by rw[ey,em,ed]⟩,?_⟩;clear ey em ed hx
  (refine fA [.tmp 2,.tmp 3] F6 [(1,[(1,.ag [zI y,zI m,zI d,zI 0],[])]),(4,[(1,zR ty,[]),(4,zR tm,[]),(8,zR td,[])])] func154 fun _=>?_;repeat' first|exact⟨⟩|apply mA|apply mC<;>intro)
  all_goals try exact zB
  (all_goals try first|exact eZ|(refine qC ?_;repeat' first|exact⟨⟩|apply mA))
  all_goals(try(simp only[aj,k1];omega))
 ·have h1:=MW n h;refine⟨⟨#[]⟩,2,zd,fun q=>absurd q h,?_⟩
  (refine fA [.tmp 2,.tmp 3] F6 [(1,[(1,.ag [zI 0,zI 0,zI 0,zI 2],[])]),(4,[(1,.any,[]),(4,.any,[]),(8,.any,[])])] func154 fun _=>?_;repeat' first|exact⟨⟩|apply mA|apply mC<;>intro)
  all_goals try exact zB
  all_goals try exact absurd ‹(2:Int)=0› zd
  all_goals exact eZ
def MZ(n:Int)(h0 : -9223372036854775808<=n)(h1:n<=9223372036854775807):∃a b e:Int,0<=b∧b<86400000∧(-62135596800000<=n∧n<=253402300799999->e=0∧a = -719162+(n+62135596800000)/86400000∧b=(n+62135596800000)%86400000)∧Af prog 221 [.int .i64 fun _=>n] [] (.ag [.int .i64 fun _=>a,.int .i64 fun _=>b,.int .i64 fun _=>e]) []:=by
 have hi:=mX n (-62135596800000) 253402300799999;by_cases h : -62135596800000<=n∧n<=253402300799999
 ·rw[gq h]at hi;obtain⟨D,hD⟩:∃D,D=n+62135596800000:=⟨_,rfl⟩
  refine⟨-719162+D/86400000,D%86400000,0,zo,zo,fun _=>⟨rfl,by rw[hD],by rw[hD]⟩,?_⟩;have e1:IntKind.i64.wrap (n - -62135596800000)=D:=(ax zo zo).trans zo
  (refine fA [.tmp 2,.tmp 3,.tmp 4] F7 [(1,[(1,zO true,[])])] func221 fun _=>?_;repeat' first|exact⟨⟩|apply mA|apply mC<;>intro)
  all_goals try exact zB
  all_goals(try simp only[e1])
  (all_goals try first|exact eZ|(refine qC ?_;repeat' first|exact⟨⟩|apply mA))
  ·rw[qx zo,ax (x:=D/86400000) zo zo];exact ax zo zo
  ·exact mP zo
 ·rw[fD h]at hi;refine⟨0,0,2,zo,zo,fun q=>absurd q h,?_⟩
  (refine fA [.tmp 2,.tmp 3,.tmp 4] F7 [(1,[(1,zO false,[])])] func221 fun _=>?_;repeat' first|exact⟨⟩|apply mA|apply mC<;>intro)
  all_goals try exact zB
  all_goals exact eZ
def Bw(n:Int)(t:ByteArray):Prop:=∃(u:ByteArray) (b:Int),vg (-719162+(n+62135596800000)/86400000) u∧b=(n+62135596800000)%86400000 ∧
 t=(if b%1000=0 then u++(⟨#[84]⟩++gV (b/1000/3600) 2++⟨#[58]⟩++gV (b/1000/60%60) 2++⟨#[58]⟩++gV (b/1000%60) 2)else u++(⟨#[84]⟩++gV (b/1000/3600) 2++⟨#[58]⟩++gV (b/1000/60%60) 2++⟨#[58]⟩++gV (b/1000%60) 2)++(⟨#[46]⟩++gV (b%1000) 3))++⟨#[90]⟩
def M0(n:Int)(h0 : -9223372036854775808<=n)(h1:n<=9223372036854775807):∃(t:ByteArray) (e:Int),t.size<=1000∧(-62135596800000<=n∧n<=253402300799999->e=0∧Bw n t)∧Af prog 155 [.int .i64 fun _=>n] [] (.ag [.str fun _=>t,.int .i64 fun _=>e]) []:=by
 obtain⟨a,b,e,b0,b1,hr,hs⟩:=MZ n h0 h1;by_cases c:e=0
 ·subst c;obtain⟨t,f,ht,hu,hd⟩:=F5 a;by_cases c:f=0
  ·subst c;obtain⟨th,eh,sh,hh⟩:=qM (b/1000/3600) 2 zo zo zo zo;obtain⟨tm,em,sm,hm⟩:=qM (b/1000/60%60) 2 zo zo zo zo;obtain⟨tq,eq,sq,hq⟩:=qM (b/1000%60) 2 zo zo zo zo;obtain⟨tx,ex,sx,hx⟩:=qM (b%1000) 3 zo zo zo zo;have e1:IntKind.i64.wrap (b.tdiv 1000)=b/1000:=by rw[qx b0];exact ax zo zo
   have e2:b.tmod 1000=b%1000:=mP b0;have e3:IntKind.i64.wrap ((b/1000).tdiv 3600)=b/1000/3600:=by rw[qx zo];exact ax zo zo
   have e4:IntKind.i64.wrap ((b/1000).tdiv 60)=b/1000/60:=by rw[qx zo];exact ax zo zo
   have e5:(b/1000/60).tmod 60=b/1000/60%60:=mP zo;have e6:(b/1000).tmod 60=b/1000%60:=mP zo;have k1:(ByteArray.mk #[58]).size=1:=rfl;have k2:(ByteArray.mk #[84]).size=1:=rfl;have k3:(ByteArray.mk #[46]).size=1:=rfl;have k4:(ByteArray.mk #[90]).size=1:=rfl;refine⟨(if b%1000=0 then t++(⟨#[84]⟩++th++⟨#[58]⟩++tm++⟨#[58]⟩++tq)else t++(⟨#[84]⟩++th++⟨#[58]⟩++tm++⟨#[58]⟩++tq)++(⟨#[46]⟩++tx))++⟨#[90]⟩,0,by split<;>(simp only[aj,k1,k2,k3,k4];omega),fun q=>?_,?_⟩
   ·obtain⟨_,ea,eb⟩:=hr q;obtain⟨_,dt⟩:=hu zo;rw[ea]at dt;exact⟨rfl,t,b,dt,eb,by rw[eh,em,eq,ex]⟩
   clear hr hu eh em eq ex
   (refine fA [.tmp 2,.tmp 3] Bx [(1,[(1,.ag [zI a,zI b,zI 0],[])]),(4,[(1,.ag [zR t,zI 0],[])]),(8,[(3,zR th,[]),(9,zR tm,[]),(14,zR tq,[])]),(10,[(3,zR tx,[])])] func155 fun _=>?_;repeat' first|exact⟨⟩|apply mA|apply mC<;>intro)
   all_goals(try simp only[e1,e2,e3,e4,e5,e6])
   all_goals try exact zB
   (all_goals try first|exact eZ|(refine qC ?_;repeat' first|exact⟨⟩|apply mA))
   all_goals(try rw[e2]at*)
   all_goals try focus(simp only[aj,k1,k2,k3,k4];omega)
   all_goals(first|rw[ae ‹b%1000=0›]|rw[aa ‹¬b%1000=0›])
  ·refine⟨⟨#[]⟩,f,zd,fun q=>absurd (hu (by have:=hr q;omega)).1 c,?_⟩;clear hr hu
   (refine fA [.tmp 2,.tmp 3] Bx [(1,[(1,.ag [zI a,zI b,zI 0],[])]),(4,[(1,.ag [zR t,zI f],[])]),(8,[(3,.any,[]),(9,.any,[]),(14,.any,[])]),(10,[(3,.any,[])])] func155 fun _=>?_;repeat' first|exact⟨⟩|apply mA|apply mC<;>intro)
   all_goals try exact zB
   all_goals try exact absurd ‹f=0› c
   all_goals exact eZ
 ·refine⟨⟨#[]⟩,e,zd,fun q=>absurd (hr q).1 c,?_⟩;clear hr
  (refine fA [.tmp 2,.tmp 3] Bx [(1,[(1,.ag [zI a,zI b,zI e],[])]),(4,[(1,.any,[])]),(8,[(3,.any,[]),(9,.any,[]),(14,.any,[])]),(10,[(3,.any,[])])] func155 fun _=>?_;repeat' first|exact⟨⟩|apply mA|apply mC<;>intro)
  all_goals try exact zB
  all_goals try exact absurd ‹e=0› c
  all_goals exact eZ
def nP(s p:ByteArray):Bool:=decide (p.size<=s.size)&&decide (s.extract 0 p.size=p)
def M1(s p:ByteArray):Af prog 196 [.str fun _=>s,.str fun _=>p] [] (.bool fun _=>nP s p) []:=by
 obtain⟨Z,hZ⟩:∃Z,Z=nP s p:=⟨_,rfl⟩
 rw[<- hZ]
 (refine fB [.tmp 4] M2 [] func196 fun _=>?_;repeat' first|exact⟨⟩|apply mA|apply mC<;>intro)
 rw[hZ];unfold nP;by_cases c:p.size<=s.size
 ·simp[c]
 ·simp[c]
def eV(s p:ByteArray):ByteArray×Bool:=if nP s p=true then(s.extract p.size s.size,true)else(s,false)
def M3(s p:ByteArray):Af prog 190 [.str fun _=>s,.str fun _=>p] [] (.ag [.str fun _=>(eV s p).1,.bool fun _=>(eV s p).2]) []:=by
 have h:=M1 s p;have hp:nP s p=true->p.size<=s.size:=fun h=>by
  unfold nP at h;simp only[az,cX]at h;exact h.1
 unfold eV;generalize nP s p=b at*;cases b with
 | true=>
  replace hp:=hp rfl;rw[ae rfl]
  (refine fA [.tmp 4,.tmp 5] F8 [(1,[(2,zO true,[])])] func190 fun _=>?_;repeat' first|exact⟨⟩|apply mA|apply mC<;>intro)
  all_goals try exact zB
  (all_goals try first|exact eZ|(refine qC ?_;repeat' first|exact⟨⟩|apply mA))
  all_goals(simp only[bu])
 | false=>
  rw[aa zd]
  (refine fA [.tmp 4,.tmp 5] F8 [(1,[(2,zO false,[])])] func190 fun _=>?_;repeat' first|exact⟨⟩|apply mA|apply mC<;>intro)
  all_goals try exact zB
  all_goals exact eZ
def F9(s p:ByteArray):Af prog 129 [.str fun _=>s,.str fun _=>p] [] (.ag [.str fun _=>(eV s p).1,.bool fun _=>(eV s p).2]) []:=by
 have h:=M3 s p;generalize eV s p=q at*
 (refine fA [.tmp 4,.tmp 5] M4 [(1,[(2,.ag [.str fun _=>q.1,.bool fun _=>q.2],[])])] func129 fun _=>?_;repeat' first|exact⟨⟩|apply mA|apply mC<;>intro)
 all_goals try exact zB
 all_goals exact eZ
def kw(s:ByteArray):Nat->Nat->Int->Option Int
 | 0,_,n=>some n
 | k+1,i,n=>if 48<=ad s i∧ad s i<=57 then kw s k (i+1) (10*n+(ad s i-48))else none
def gv(d:Nat)(s:ByteArray):Int×ByteArray×Bool:=if s.size<d then(0,s,false)else match kw s d 0 0 with
 | some n=>(n,s.extract d s.size,true)
 | none=>(0,s,false)
def Ga(d:Nat)(s:ByteArray)(hd:d<=4)(hs:s.size<=1073741824):Af prog 130 [.str fun _=>s,.int .i64 fun _=>(d:Int)] [] (.ag [.int .i64 fun _=>(gv d s).1,.str fun _=>(gv d s).2.1,.bool fun _=>(gv d s).2.2]) []:=by
 obtain⟨R,hR⟩:∃R,R=gv d s:=⟨_,rfl⟩
 rw[<- hR];unfold gv at hR;have hin:=fun c=>mX c 48 57;by_cases c1:s.size<d
 ·rw[ae c1]at hR;subst hR
  (refine fA [.tmp 4,.tmp 5,.tmp 6] vh [] func130 fun _=>?_;repeat' first|exact⟨⟩|apply mA|apply mC<;>intro)
  all_goals(try(exfalso;omega))
  all_goals exact eZ
 ·rw [aa c1]at hR
  (refine fA [.tmp 4,.tmp 5,.tmp 6] vh [] func130 fun _=>?_;repeat' first|exact⟨⟩|apply mA|apply mC<;>intro)
  all_goals(try(exfalso;omega))
  refine .loop (fun q:Nat×Int=>⟨37,[(14,.int .i64 fun _=>(q.1:Int)),(13,.int .i64 fun _=>(d:Int)),(4,.int .i64 fun _=>q.2),(0,.str fun _=>s),(1,.int .i64 fun _=>(d:Int))],[]⟩)
   (fun q=>q.1<=d∧0<=q.2∧q.2<((10^q.1:Nat):Int)∧kw s (d-q.1) q.1 q.2=kw s d 0 0) (fun q=>d-q.1) (0,0) ⟨aB _,fC _,qy,rfl⟩ ?_ fun q E hq=>?_
  ·exact aZ
  obtain⟨i,n⟩:=q;obtain⟨e1,e2,e3,e4⟩:=hq;dsimp only at e1 e2 e3 e4;have hp:n<10000:=by
   have:10^i<=10^4:=sE zd zo;have:(10:Nat)^4=10000:=zd
   omega
  generalize kw s d 0 0=Z at*;by_cases c2:i<d
  ·obtain⟨b,hb⟩:=pm s i;have lp:=b.toNat_lt;have h6:=hin (ad s i);rw[show d-i=(d-(i+1))+1 by omega]at e4;unfold kw at e4;by_cases c3:48<=ad s i∧ad s i<=57
   ·rw[ae c3]at e4;rw[gq c3]at h6;obtain⟨c,hc⟩:∃c,c=ad s i:=⟨_,rfl⟩
    have e5:10*n+(c-48)<((10^(i+1):Nat):Int):=by
     have e:10^(i+1)=10^i*10:=qz _ _;omega
    have hw1:IntKind.i64.wrap (10*n)=10*n:=ax zo zo;have hw2:IntKind.u8.wrap (c-48)=c-48:=by
     unfold IntKind.wrap;simp[IntKind.bits,IntKind.signed];omega
    have hw3:IntKind.i64.wrap (c-48)=c-48:=ax zo zo;have hw4:IntKind.i64.wrap (10*n+(c-48))=10*n+(c-48):=ax zo zo;have jj:IntKind.i64.wrap c=c:=ax zo zo;have hc2:((s.data[i]?.getD 0).toNat:Int)=c:=hc.symm;rw[<- hc]at e4 h6;apply af.wk tF mF [(6,[(4,zO true,[])])] vh ?_
    (refine oA ?_;repeat' first|exact⟨⟩|apply mA|apply mC<;>intro)
    all_goals(try simp only[bu,hc2,jj])
    all_goals try exact zB
    all_goals(try(exfalso;omega))
    (all_goals try first|exact eZ|(refine qC ?_;repeat' first|exact⟨⟩|apply mA))
    all_goals(try simp only[hc2,hw1,hw2,hw3,hw4,jj])
    refine dE (ι:=Nat×Int) (μ:=fun q=>d-q.1) (i:=(i,n)) (i+1,10*n+(c-48)) ⟨⟨zo,by dsimp only;omega,e5,e4⟩,by dsimp only;omega⟩ ?_
    (focus(refine aQ ?_;repeat' first|with_reducible apply ai|exact wZ|fail))
    all_goals(try exact aS zo)
   ·rw[aa c3]at e4;rw[fD c3]at h6;rw[<- e4]at hR;dsimp only at hR;subst hR;obtain⟨c,hc⟩:∃c,c=ad s i:=⟨_,rfl⟩
    have jj:IntKind.i64.wrap c=c:=ax zo zo;have hc2:((s.data[i]?.getD 0).toNat:Int)=c:=hc.symm;rw[<- hc]at h6;apply af.wk tF mF [(6,[(4,zO false,[])])] vh ?_
    (refine oA ?_;repeat' first|exact⟨⟩|apply mA|apply mC<;>intro)
    all_goals(try simp only[bu,hc2,jj])
    all_goals try exact zB
    all_goals(try(exfalso;omega))
    all_goals exact eZ
  ·obtain rfl:i=d:=by omega
   rw[ku]at e4;unfold kw at e4;rw[<- e4]at hR;dsimp only at hR;subst hR;apply af.wk tF mF [(6,[(4,.any,[])])] vh ?_
   (refine oA ?_;repeat' first|exact⟨⟩|apply mA|apply mC<;>intro)
   all_goals(try(exfalso;omega))
   (all_goals try first|exact eZ|(refine qC ?_;repeat' first|exact⟨⟩|apply mA))
   all_goals(simp only[bu])
def By{d:Nat}{s:ByteArray}(hd:d<=4):0<=(gv d s).1∧(gv d s).1<10000∧(gv d s).2.1.size<=s.size:=by
 have key:∀(k i:Nat) (n m:Int) (j:Nat),kw s k i n=some m->0<=n->n<((10^j:Nat):Int)->0<=m∧m<((10^(j+k):Nat):Int):=by
  intro k
  induction k with
  | zero=>intro i n m j h h0 h1;cases h;exact⟨h0,h1⟩
  | succ k ih=>
   intro i n m j h h0 h1;unfold kw at h;split at h
   ·rename_i q;have e:10^(j+1)=10^j*10:=qz _ _;have:=ih (i+1) _ m (j+1) h zo zo
    rwa [show j+1+k=j+(k+1) by omega]at this
   ·cases h
 unfold gv;split
 ·exact⟨fC _,by show(0:Int)<10000;decide,ao _⟩
 ·split
  ·rename_i n hn;have:=key d 0 0 n 0 hn (fC _) qy;have h4:10^(0+d)<=10^4:=sE zd zo;have:(10:Nat)^4=10000:=by decide
   refine⟨(key d 0 0 n 0 hn (fC _) qy).1,by dsimp only;omega,?_⟩;show(s.extract d s.size).size<=_;rw[dh];omega
  ·exact⟨fC _,by show(0:Int)<10000;decide,ao _⟩
def ye(y m:Int):Int×Int:=if(1<=y∧y<=9999)∧1<=m∧m<=12 then(cM y m,0)else(0,17)
def M5(y m:Int):Af prog 186 [.int .i64 fun _=>y,.int .i64 fun _=>m] [] (.ag [.int .i64 fun _=>(ye y m).1,.int .i64 fun _=>(ye y m).2]) []:=by
 have h1:=mX y 1 9999;have h2:=mX m 1 12;unfold ye;by_cases c1:1<=y∧y<=9999
 ·rw[gq c1]at h1;by_cases c2:1<=m∧m<=12
  ·rw[gq c2]at h2;have h3:=Bu y m c1.1 c1.2 c2.1 c2.2;rw[ae ⟨c1,c2⟩];generalize cM y m=d at*
   (refine fA [.tmp 4,.tmp 5] Bz [(1,[(1,zO true,[]),(5,zO true,[])]),(3,[(2,zI d,[])])] func186 fun _=>?_;repeat' first|exact⟨⟩|apply mA|apply mC<;>intro)
   all_goals try exact zB
   all_goals try exact absurd ‹¬True∨¬True› (fun g=>g.elim (fun k=>k trivial) (fun k=>k trivial))
   all_goals exact eZ
  ·rw[fD c2]at h2;rw[aa (fun g=>c2 g.2)]
   (refine fA [.tmp 4,.tmp 5] Bz [(1,[(1,zO true,[]),(5,zO false,[])]),(3,[(2,.any,[])])] func186 fun _=>?_;repeat' first|exact⟨⟩|apply mA|apply mC<;>intro)
   all_goals try exact zB
   all_goals try exact absurd ‹True∧False› (fun g=>g.2)
   all_goals exact eZ
 ·rw[fD c1]at h1;rw[aa (fun g=>c1 g.1)]
  (refine fA [.tmp 4,.tmp 5] Bz [(1,[(1,zO false,[]),(5,zO false,[])]),(3,[(2,.any,[])])] func186 fun _=>?_;repeat' first|exact⟨⟩|apply mA|apply mC<;>intro)
  all_goals try exact zB
  any_goals(refine sO (fun hg=>?_);exact absurd hg zd)
  all_goals try exact absurd ‹False∧_› (fun g=>g.1)
  all_goals exact eZ
def jG(y m d:Int):Int×Int:=if(1<=y∧y<=9999)∧(1<=m∧m<=12)∧1<=d∧d<=cM y m then(-719162+b9 y+d-1+cw y m.toNat,0)else(0,17)
def BA(y m:Int):28<=cM y m∧cM y m<=31:=by unfold cM;(repeat' split)<;>omega
theorem Gb(y:Int):∀k:Nat,0<=cw y k∧cw y k<=31*k
 | 0=>by simp only[cw];omega
 | 1=>by simp only[cw];omega
 | k+2=>by
  have:=Gb y (k+1);have:=BA y ((k+1:Nat):Int);simp only[cw];omega
def Gc(y m d:Int)(hy:0<=y∧y<=10000)(hm:0<=m∧m<=10000)(hd:0<=d∧d<=10000):Af prog 128 [.int .i64 fun _=>y,.int .i64 fun _=>m,.int .i64 fun _=>d] [] (.ag [.int .i64 fun _=>(jG y m d).1,.int .i64 fun _=>(jG y m d).2]) []:=by
 have h1:=M5 y m;obtain⟨R,hR⟩:∃R,R=jG y m d:=⟨_,rfl⟩
 rw[<- hR];unfold jG at hR;unfold ye at h1;by_cases c1:(1<=y∧y<=9999)∧1<=m∧m<=12
 ·rw [ae c1]at h1;obtain⟨⟨y1,y2⟩,m1,m2⟩:=c1;have h2:=mX d 1 (cM y m);by_cases c2:1<=d∧d<=cM y m
  ·rw[ae ⟨⟨y1,y2⟩,⟨m1,m2⟩,c2⟩]at hR;rw[gq c2]at h2;have h4:=Bt y y1 zo;have h8:=fun j a b=>Bu y j y1 y2 a b;have hb0:=sR (a:=1) (b:=y) y1;have hb1:=sR (a:=y) (b:=9999) y2;rw[show b9 1=0 by decide]at hb0;rw[show b9 9999=3651694 by decide]at hb1;have hmr:=BA y m;obtain⟨M,hM⟩:∃M,M=m.toNat:=⟨_,rfl⟩
   have hM2:m=(M:Int):=zo
   generalize hmo:cM y m=mo at*;generalize b9 y=b at*;have hw1:IntKind.i64.wrap (-719162+b) = -719162+b:=ax zo zo;have hw2:IntKind.i64.wrap (-719162+b+d) = -719162+b+d:=ax zo zo;have hw3:IntKind.i64.wrap (-719162+b+d-1) = -719162+b+d-1:=ax zo zo;obtain⟨N,hN⟩:∃N,N = -719162+b+d-1:=⟨_,rfl⟩
   rw[<- hN]at hR;replace hw3:=hw3.trans hN.symm
   (refine fA [.tmp 6,.tmp 7] vi [(1,[(2,.ag [zI mo,zI 0],[])]),(2,[(5,zO true,[])]),(4,[(1,zI b,[])])] func128 fun _=>?_;repeat' first|exact⟨⟩|apply mA|apply mC<;>intro)
   all_goals(try simp only[hw1,hw2,hw3])
   all_goals try exact zB
   all_goals try exact absurd ‹¬True∨¬True› (fun g=>g.elim (fun k=>k trivial) (fun k=>k trivial))
   all_goals try exact eZ
   refine .loop (fun j:Nat=>⟨43,[(11,.int .i64 fun _=>(j:Int)),(10,.int .i64 fun _=>N+cw y j),(0,.int .i64 fun _=>y),(1,.int .i64 fun _=>m)],[]⟩)
    (fun j=>1<=j∧j<=M) (fun j=>M-j) (1:Nat) ⟨ao _,zo⟩ ?_ fun j E hj=>?_
   ·(focus(refine aQ ?_;repeat' first|with_reducible apply ai|exact wZ|fail))
    all_goals(first|(rw[hw3];show N=N+0;omega)|(show N=N+0;omega)|skip)
   obtain⟨k,rfl⟩:∃k,j=k+1:=⟨j-1,zo⟩
   have hc:=Gb y (k+1);have M6:=BA y ((k+1:Nat):Int);have e1:cw y (k+1+1)=cw y (k+1)+cM y ((k+1:Nat):Int):=rfl;have h8':=fun a b=>h8 ((k+1:Nat):Int) a b;obtain⟨hc1,hc2⟩:=hc;obtain⟨F2,F3⟩:=M6;obtain⟨hj1,hj2⟩:=hj;generalize hK:k+1=K at*;clear hK;generalize M7:cw y K=cu at*;generalize cM y (K:Int)=mk at*;by_cases c3:K<M
   ·have h9:=h8' zo zo;apply af.wk tF mF [(8,[(3,zI mk,[])])] vi ?_
    (refine oA ?_;repeat' first|exact⟨⟩|apply mA|apply mC<;>intro)
    all_goals try exact zB
    all_goals(try(exfalso;omega))
    (all_goals try first|exact eZ|(refine qC ?_;repeat' first|exact⟨⟩|apply mA))
    refine dE (K+1) ⟨⟨zo,zo⟩,zo⟩ ?_
    (focus(refine aQ ?_;repeat' first|with_reducible apply ai|exact wZ|fail))
    ·exact aS zo
    ·rw[e1];exact(ax zo zo).trans zo
   ·obtain rfl:K=M:=by omega
    subst hM;apply af.wk tF mF [(8,[(3,.any,[])])] vi ?_
    (refine oA ?_;repeat' first|exact⟨⟩|apply mA|apply mC<;>intro)
    all_goals(try(exfalso;omega))
    (all_goals try first|exact eZ|(refine qC ?_;repeat' first|exact⟨⟩|apply mA))
    all_goals(subst hR;first|rfl|(show N+cu=N+cw y m.toNat;rw[M7]))
  ·rw[aa (fun g=>c2 g.2.2)]at hR;rw[fD c2]at h2;subst hR;generalize cM y m=mo at*
   (refine fA [.tmp 6,.tmp 7] vi [(1,[(2,.ag [zI mo,zI 0],[])]),(2,[(5,zO false,[])]),(4,[(1,.any,[])])] func128 fun _=>?_;repeat' first|exact⟨⟩|apply mA|apply mC<;>intro)
   all_goals try exact zB
   all_goals try exact absurd ‹True∧False› (fun g=>g.2)
   all_goals exact eZ
 ·rw[aa c1]at h1;rw[aa (fun g=>c1 ⟨g.1,g.2.1⟩)]at hR;subst hR
  (refine fA [.tmp 6,.tmp 7] vi [(1,[(2,.ag [zI 0,zI 17],[])]),(2,[(5,zO false,[])]),(4,[(1,.any,[])])] func128 fun _=>?_;repeat' first|exact⟨⟩|apply mA|apply mC<;>intro)
  all_goals try exact zB
  any_goals(refine sO (fun hg=>?_);exact absurd hg zd)
  all_goals try exact absurd ‹(17:Int)=0∧False› (fun g=>g.2)
  all_goals exact eZ
def pn(d r:Int):Int×Int:=if(-719162<=d∧d<=2932896)∧0<=r∧r<=86399999 then(d*86400000+r,0)else(0,2)
def Gd(d r:Int):Af prog 131 [.int .i64 fun _=>d,.int .i64 fun _=>r] [] (.ag [.int .i64 fun _=>(pn d r).1,.int .i64 fun _=>(pn d r).2]) []:=by
 have h1:=mX d (-719162) 2932896;have h2:=mX r 0 86399999;unfold pn;by_cases c1 : -719162<=d∧d<=2932896
 ·rw[gq c1]at h1;by_cases c2:0<=r∧r<=86399999
  ·rw[gq c2]at h2;rw[ae ⟨c1,c2⟩];have hw1:IntKind.i64.wrap (d*86400000)=d*86400000:=ax zo zo;have hw2:IntKind.i64.wrap (d*86400000+r)=d*86400000+r:=ax zo zo
   (refine fA [.tmp 4,.tmp 5] BB [(1,[(1,zO true,[]),(5,zO true,[])])] func131 fun _=>?_;repeat' first|exact⟨⟩|apply mA|apply mC<;>intro)
   all_goals try exact zB
   all_goals try exact absurd ‹¬True∨¬True› (fun g=>g.elim (fun k=>k trivial) (fun k=>k trivial))
   (all_goals try first|exact eZ|(refine qC ?_;repeat' first|exact⟨⟩|apply mA))
   all_goals(try simp only[hw1,hw2])
  ·rw[fD c2]at h2;rw[aa (fun g=>c2 g.2)]
   (refine fA [.tmp 4,.tmp 5] BB [(1,[(1,zO true,[]),(5,zO false,[])])] func131 fun _=>?_;repeat' first|exact⟨⟩|apply mA|apply mC<;>intro)
   all_goals try exact zB
   all_goals try exact absurd ‹True∧False› (fun g=>g.2)
   all_goals exact eZ
 ·rw[fD c1]at h1;rw[aa (fun g=>c1 g.1)]
  (refine fA [.tmp 4,.tmp 5] BB [(1,[(1,zO false,[]),(5,zO false,[])])] func131 fun _=>?_;repeat' first|exact⟨⟩|apply mA|apply mC<;>intro)
  all_goals try exact zB
  any_goals(refine sO (fun hg=>?_);exact absurd hg zd)
  all_goals try exact absurd ‹False∧_› (fun g=>g.1)
  all_goals exact eZ
def BC(ms:Unit->List (ByteArray×Nat)):(Unit->Nat)->List AV:=fun i=>[.str fun _=>((ms ()).getD (i ()) default).1]
def Ge(ms:Unit->List (ByteArray×Nat)):(Unit->Nat)->List AV:=fun i=>[.int .i64 fun _=>(((ms ()).getD (i ()) default).2:Int)]
def iK(l:Unit->List Int):(Unit->Nat)->List AV:=fun i=>[.int .i64 fun _=>(l ()).getD (i ()) 0]
def kx:List (ByteArray×Nat)->List Int->ByteArray->Option (List Int×ByteArray)
 | [],l,s=>some (l,s)
 | q::r,l,s=>if(eV s q.1).2=true then(if(gv q.2 (eV s q.1).1).2.2=true then kx r (l++[(gv q.2 (eV s q.1).1).1]) (gv q.2 (eV s q.1).1).2.1 else none)else none
def dK(ms:List (ByteArray×Nat))(s:ByteArray):List Int×ByteArray×Bool:=match kx ms [] s with
 | some q=>(q.1,q.2,true)
 | none=>([],s,false)
def BD(s p:ByteArray):(eV s p).1.size<=s.size:=by
 unfold eV;split
 ·show(s.extract p.size s.size).size<=_;rw[dh];omega
 ·exact ao _
theorem Gf:∀(ms:List (ByteArray×Nat)) (l:List Int) (s:ByteArray) (q:List Int×ByteArray),(∀m∈ms,m.2<=4)->(∀x∈l,0<=x∧x<10000)->kx ms l s=some q->q.1.length=l.length+ms.length∧(∀x∈q.1,0<=x∧x<10000)∧q.2.size<=s.size
 | [],l,s,q,_,hl,h=>by cases h;exact⟨rfl,hl,ao _⟩
 | m::r,l,s,q,hm,hl,h=>by
  unfold kx at h;split at h
  ·split at h
   ·have hr:=By (d:=m.2) (s:=(eV s m.1).1) (hm m (dJ ..))
    have:=Gf r _ _ q (fun x hx=>hm x (cH _ hx)) (fun x hx=>by
     rcases gB.1 hx with h|h
     ·exact hl x h
     ·rw[dD.1 h];exact⟨hr.1,hr.2.1⟩) h
    have hc:=BD s m.1;rw[du]at this;simp only[bp,bV]at this ⊢;exact⟨zo,this.2.1,zo⟩
   ·cases h
  ·cases h
def M8(l:List Int)(n:Int)(i:Nat)(hi:i<l.length+1):aD (dO (fun _=>l.length) (iK fun _=>l) (dY [[AV.int .i64 fun _=>n]]) fun _=>i) (iK (fun _=>l++[n]) fun _=>i):=by
 refine aD.of_eq ?_;have e:∀a b:Int,a=b->([AV.int .i64 fun _=>a]:List AV)=[AV.int .i64 fun _=>b]:=fun a b h=>by rw[h]
 unfold dO;by_cases q:i<l.length
 ·rw[ae q];refine e _ _ ?_;show l.getD i 0=(l++[n]).getD i 0;rw[cz,cz,gS q]
 ·rw[aa q];obtain rfl:i=l.length:=by omega
  have h1:(dY [[AV.int .i64 fun _=>n]] fun _=>l.length-l.length)=[AV.int .i64 fun _=>n]:=by rw[ku];rfl
  refine h1.trans (e _ _ ?_);show n=(l++[n]).getD l.length 0;rw[cz,jd (ao _),ku];rfl
def Gg(ms:List (ByteArray×Nat))(s:ByteArray)(hl:ms.length<=6)(hd:∀q∈ms,q.2<=4)(hs:s.size<=1073741824):
 Af prog 127 [.str fun _=>s,.slc .any 1 (fun _=>ms.length) (BC fun _=>ms),.slc .any 1 (fun _=>ms.length) (Ge fun _=>ms)] [] (.ag [.slc .any 1 (fun _=>(dK ms s).1.length) (iK fun _=>(dK ms s).1),.str fun _=>(dK ms s).2.1,.bool fun _=>(dK ms s).2.2]) []:=by
 obtain⟨R,hR⟩:∃R,R=dK ms s:=⟨_,rfl⟩
 rw[<- hR];unfold dK at hR
 (refine fA [.tmp 6,.tmp 7,.tmp 8] vj [] func127 fun _=>?_;repeat' first|exact⟨⟩|apply mA|apply mC<;>intro)
 refine .loop (fun q:Nat×List Int×ByteArray=>⟨49,[(15,.int .i64 fun _=>(q.1:Int)),(14,.int .i64 fun _=>(ms.length:Int)),(13,.slc .any 1 (fun _=>ms.length) (BC fun _=>ms)),(6,.aJ 45 1 fun _=>q.2.1.length),(7,.str fun _=>q.2.2),(0,.str fun _=>s),(2,.slc .any 1 (fun _=>ms.length) (Ge fun _=>ms))],[(45,.arr false 3 1 1 (fun _=>q.2.1.length) (iK fun _=>q.2.1))]⟩)
  (fun q=>q.1<=ms.length∧q.2.1.length<=q.1∧q.2.2.size<=s.size∧kx (ms.drop q.1) q.2.1 q.2.2=kx ms [] s) (fun q=>ms.length-q.1) (0,[],s) ⟨aB _,ao _,ao _,rfl⟩ ?_ fun q E hq=>?_
 ·exact aZ
 obtain⟨i,l,u⟩:=q;obtain⟨e1,e2,e3,e4⟩:=hq;dsimp only at e1 e2 e3 e4;generalize kx ms [] s=Z at*;by_cases c1:i<ms.length
 ·have hx:ms.drop i=ms.getD i default::ms.drop (i+1):=by
   rw[iH c1];simp[List.getD,c1]
  rw[hx]at e4;have hm:=hd (ms.getD i default) (by simp[List.getD,c1]);obtain⟨m,BE⟩:∃m,m=ms.getD i default:=⟨_,rfl⟩
  rw[<- BE]at e4 hm;unfold kx at e4;have h5:=F9 u m.1;have hcs:=BD u m.1;have h9:=Ga m.2 (eV u m.1).1 hm zo;have hns:=By (d:=m.2) (s:=(eV u m.1).1) hm;obtain⟨m1,m2⟩:=m;have hn1:(ms.getD i default).1=m1:=by rw[<- BE]
  have hn2:(((ms.getD i default).2:Nat):Int)=(m2:Int):=by rw[<- BE]
  dsimp only at h5 hcs h9 hns e4 hm;obtain⟨v,b,hvb⟩:∃v b,eV u m1=(v,b):=⟨_,_,rfl⟩
  rw[hvb]at h5 hcs h9 hns e4;dsimp only at h5 hcs h9 hns e4;cases b with
  | false=>
   rw[aa zd]at e4;rw[<- e4]at hR;dsimp only at hR;subst hR;apply af.wk tF mF [(5,[(2,.ag [zR v,zO false],[])]),(9,[(5,.any,[])])] vj ?_
   (refine oA ?_;repeat' first|exact⟨⟩|apply mA|apply mC<;>intro)
   any_goals((with_reducible refine nO ?_);simp only[bu,hn1];exact h5)
   all_goals(try(exfalso;omega))
   all_goals exact eZ
  | true=>
   rw[ae rfl]at e4;obtain⟨n,x,b2,hnx⟩:∃n x b,gv m2 v=(n,x,b):=⟨_,_,_,rfl⟩
   rw[hnx]at h9 hns e4;dsimp only at h9 hns e4;cases b2 with
   | false=>
    rw[aa zd]at e4;rw[<- e4]at hR;dsimp only at hR;subst hR;apply af.wk tF mF [(5,[(2,.ag [zR v,zO true],[])]),(9,[(5,.ag [zI n,zR x,zO false],[])])] vj ?_
    (refine oA ?_;repeat' first|exact⟨⟩|apply mA|apply mC<;>intro)
    any_goals((with_reducible refine nO ?_);first|(simp only[bu,hn1];exact h5)|(simp only[bu,hn2];exact h9))
    all_goals(try(exfalso;omega))
    all_goals exact eZ
   | true=>
    rw[ae rfl]at e4;apply af.wk tF mF [(5,[(2,.ag [zR v,zO true],[])]),(9,[(5,.ag [zI n,zR x,zO true],[])])] vj ?_
    (refine oA ?_;repeat' first|exact⟨⟩|apply mA|apply mC<;>intro)
    any_goals((with_reducible refine nO ?_);first|(simp only[bu,hn1];exact h5)|(simp only[bu,hn2];exact h9))
    all_goals(try(exfalso;omega))
    (all_goals try first|exact eZ|(refine qC ?_;repeat' first|exact⟨⟩|apply mA))
    all_goals(try(show _<=_;omega))
    have hI:(i+1<=ms.length∧(l++[n]).length<=i+1∧x.size<=s.size∧kx (ms.drop (i+1)) (l++[n]) x=Z)∧ms.length-(i+1)<ms.length-i:=⟨⟨zo,by rw[du];show l.length+1<=_;omega,zo,e4⟩,zo⟩
    refine dE (ι:=Nat×List Int×ByteArray) (μ:=fun q=>ms.length-q.1) (i:=(i,l,u)) (i+1,l++[n],x) hI ?_
    (focus(refine aQ ?_;repeat' first|with_reducible apply ai|exact wZ|fail))
    all_goals(try exact aS zo)
    all_goals(try(rw[du];rfl))
    all_goals(try exact fun j hj=>M8 l n j hj)
 ·obtain rfl:i=ms.length:=by omega
  rw[List.drop_length]at e4;unfold kx at e4;rw[<- e4]at hR;dsimp only at hR;subst hR;apply af.wk tF mF [(5,[(2,.any,[])]),(9,[(5,.any,[])])] vj ?_
  (refine oA ?_;repeat' first|exact⟨⟩|apply mA|apply mC<;>intro)
  all_goals(try(exfalso;omega))
  all_goals exact eZ
def lq:List (ByteArray×Nat):=[(⟨#[]⟩,4),(⟨#[45]⟩,2),(⟨#[45]⟩,2)]
def lZ(s:ByteArray):Int×Int:=if(dK lq s).2.2=false∨(dK lq s).2.1≠⟨#[]⟩then(0,13)else jG ((dK lq s).1.getD 0 0) ((dK lq s).1.getD 1 0) ((dK lq s).1.getD 2 0)
def Gh{ms:List (ByteArray×Nat)}{s:ByteArray}(hm:∀m∈ms,m.2<=4):(dK ms s).2.1.size<=s.size∧(∀i,0<=(dK ms s).1.getD i 0∧(dK ms s).1.getD i 0<10000)∧((dK ms s).2.2=true->(dK ms s).1.length=ms.length)∧(dK ms s).1.length<=ms.length:=by
 unfold dK;split
 ·rename_i q h;obtain⟨a,b,c⟩:=Gf ms [] s q hm (fun x hx=>by cases hx) h;simp only[bV,eC]at a;refine⟨c,fun i=>?_,fun _=>a,uK a⟩;dsimp only;rcases iG i q.1.length with g|g
  ·have:q.1.getD i 0=q.1[i]:=by simp[List.getD,g]
   rw[this];exact b _ (d9 g)
  ·have:q.1.getD i 0=0:=by simp[List.getD,g]
   rw[this];exact⟨fC _,by show(0:Int)<10000;decide⟩
 ·exact⟨ao _,fun i=>⟨fC _,by show(0:Int)<10000;decide⟩,fun h=>absurd h zsi,aB _⟩
def M9(s:ByteArray)(hs:s.size<=1073741824):Af prog 81 [.str fun _=>s] [] (.ag [.int .i64 fun _=>(lZ s).1,.int .i64 fun _=>(lZ s).2]) []:=by
 have h1:=Gg lq s zd zd hs;obtain⟨g1,g2,g3,g4⟩:=Gh (ms:=lq) (s:=s) zd;unfold lZ;generalize dK lq s=q at*;obtain⟨L,x,b⟩:=q;dsimp only at*;have k1:=Gc (L.getD 0 0) (L.getD 1 0) (L.getD 2 0) ⟨(g2 0).1,by have:=(g2 0).2;omega⟩ ⟨(g2 1).1,by have:=(g2 1).2;omega⟩ ⟨(g2 2).1,by have:=(g2 2).2;omega⟩;obtain⟨A,hA⟩:∃A,A=jG (L.getD 0 0) (L.getD 1 0) (L.getD 2 0):=⟨_,rfl⟩
 rw[<- hA]at k1 ⊢;clear hA g2;have hmk:(BC fun _=>lq)=fun i=>[.str fun _=>(lq.getD (i ()) default).1]:=rfl;cases b with
 | false=>
  rw[ae (.inl rfl)]
  (refine fA [.tmp 2,.tmp 3] BF [(1,[(1,.nil,[]),(2,.nil,[]),(3,.ag [.slc .any 1 (fun _=>L.length) (iK fun _=>L),zR x,zO false],[])])] func81 fun _=>?_;repeat' first|exact⟨⟩|apply mA|apply mC<;>intro)
  (any_goals((with_reducible refine bZ ?_);(try dsimp only);(have q:=h1;refine Af.wN q ?_;clear q);(focus(refine aQ ?_;repeat' first|with_reducible apply ai|exact wZ|fail))))
  all_goals(try(intro i hi;rcases(zo:i=0∨i=1∨i=2)with rfl|rfl|rfl<;>exact aD.of_eq rfl))
  all_goals try exact absurd ‹False∧_› (fun g=>g.1)
  all_goals exact eZ
 | true=>
  replace g3:L.length=3:=g3 rfl;by_cases c:x=⟨#[]⟩
  ·subst c;rw[aa zsi]
   (refine fA [.tmp 2,.tmp 3] BF [(1,[(1,.nil,[]),(2,.nil,[]),(3,.ag [.slc .any 1 (fun _=>L.length) (iK fun _=>L),.str fun _=>⟨#[]⟩,zO true],[])]),(4,[(9,.ag [.int .i64 fun _=>A.1,.int .i64 fun _=>A.2],[])])] func81 fun _=>?_;repeat' first|exact⟨⟩|apply mA|apply mC<;>intro)
   (any_goals((with_reducible refine bZ ?_);(try dsimp only);(have q:=h1;refine Af.wN q ?_;clear q);(focus(refine aQ ?_;repeat' first|with_reducible apply ai|exact wZ|fail))))
   all_goals(try(intro i hi;rcases(zo:i=0∨i=1∨i=2)with rfl|rfl|rfl<;>exact aD.of_eq rfl))
   all_goals(try((with_reducible refine nO ?_);exact k1))
   all_goals try exact absurd trivial (‹¬True∨_›.elim id id)
   (all_goals try first|exact eZ|(refine qC ?_;repeat' first|exact⟨⟩|apply mA))
   all_goals(try omega)
  ·rw[ae (.inr c)]
   (refine fA [.tmp 2,.tmp 3] BF [(1,[(1,.nil,[]),(2,.nil,[]),(3,.ag [.slc .any 1 (fun _=>L.length) (iK fun _=>L),zR x,zO true],[])])] func81 fun _=>?_;repeat' first|exact⟨⟩|apply mA|apply mC<;>intro)
   (any_goals((with_reducible refine bZ ?_);(try dsimp only);(have q:=h1;refine Af.wN q ?_;clear q);(focus(refine aQ ?_;repeat' first|with_reducible apply ai|exact wZ|fail))))
   all_goals(try(intro i hi;rcases(zo:i=0∨i=1∨i=2)with rfl|rfl|rfl<;>exact aD.of_eq rfl))
   all_goals(try((with_reducible refine nO ?_);exact k1))
   all_goals try exact absurd trivial (‹¬True∨_›.elim id id)
   all_goals try exact absurd ((mY x).2 ‹True∧x.size=0›.2) c
   (all_goals try first|exact eZ|(refine qC ?_;repeat' first|exact⟨⟩|apply mA))
   all_goals(try omega)
def ky:List (ByteArray×Nat):=[(⟨#[]⟩,4),(⟨#[45]⟩,2),(⟨#[45]⟩,2),(⟨#[84]⟩,2),(⟨#[58]⟩,2),(⟨#[58]⟩,2)]
def qN(x:ByteArray):Option (Int×ByteArray):=if(eV x ⟨#[46]⟩).2=true then(if(gv 3 (eV x ⟨#[46]⟩).1).2.2=false∨(gv 3 (eV x ⟨#[46]⟩).1).1=0 then none else some ((gv 3 (eV x ⟨#[46]⟩).1).1,(gv 3 (eV x ⟨#[46]⟩).1).2.1))else some (0,x)
def po(D:Int×Int)(a3 a4 a5:Int):Option (Int×ByteArray)->Int×Int
 | none=>(0,13)
 | some (m,r)=>if r≠⟨#[90]⟩then(0,13)else if D.2≠0∨23<a3∨59<a4∨59<a5 then(0,17)else pn D.1 (((60*a3+a4)*60+a5)*1000+m)
def l7(s:ByteArray):Int×Int:=if(dK ky s).2.2=false then(0,13)else
 po (jG ((dK ky s).1.getD 0 0) ((dK ky s).1.getD 1 0) ((dK ky s).1.getD 2 0)) ((dK ky s).1.getD 3 0) ((dK ky s).1.getD 4 0) ((dK ky s).1.getD 5 0) (qN (dK ky s).2.1)
def Na{l:List Int}(h:l.length=6):∃a b c d e f,l=[a,b,c,d,e,f]:=by
 match l,h with
 | [a,b,c,d,e,f],_=>exact⟨a,b,c,d,e,f,rfl⟩
def sT(a b c d e f:Int):[a,b,c,d,e,f].getD (Int.toNat 0) 0=a:=rfl
def sU(a b c d e f:Int):[a,b,c,d,e,f].getD (Int.toNat 1) 0=b:=rfl
def sW(a b c d e f:Int):[a,b,c,d,e,f].getD (Int.toNat 2) 0=c:=rfl
def sX(a b c d e f:Int):[a,b,c,d,e,f].getD (Int.toNat 3) 0=d:=rfl
def sY(a b c d e f:Int):[a,b,c,d,e,f].getD (Int.toNat 4) 0=e:=rfl
def sZ(a b c d e f:Int):[a,b,c,d,e,f].getD (Int.toNat 5) 0=f:=rfl
def s6(a b c d e f:Int):[a,b,c,d,e,f].length=6:=rfl
def Nb(s:ByteArray)(hs:s.size<=1073741824):Af prog 82 [.str fun _=>s] [] (.ag [.int .i64 fun _=>(l7 s).1,.int .i64 fun _=>(l7 s).2]) []:=by
 have h1:=Gg ky s zd zd hs;obtain⟨g1,g2,g3,g4⟩:=Gh (ms:=ky) (s:=s) zd;unfold l7;generalize dK ky s=q at*;obtain⟨L,x,b⟩:=q;dsimp only at*;have k1:=Gc (L.getD 0 0) (L.getD 1 0) (L.getD 2 0) ⟨(g2 0).1,by have:=(g2 0).2;omega⟩ ⟨(g2 1).1,by have:=(g2 1).2;omega⟩ ⟨(g2 2).1,by have:=(g2 2).2;omega⟩;obtain⟨D,hD⟩:∃D,D=jG (L.getD 0 0) (L.getD 1 0) (L.getD 2 0):=⟨_,rfl⟩
 rw[<- hD]at k1 ⊢;clear hD;have r3:=g2 3;have r4:=g2 4;have r5:=g2 5;clear g2;cases b with
 | false=>
  rw[ae rfl]
  (refine fA [.tmp 2,.tmp 3] nQ [(1,[(1,.nil,[]),(2,.nil,[]),(3,.ag [.slc .any 1 (fun _=>L.length) (iK fun _=>L),zR x,zO false],[])])] func82 fun _=>?_;repeat' first|exact⟨⟩|apply mA|apply mC<;>intro)
  (any_goals((with_reducible refine bZ ?_);(try dsimp only);(have q:=h1;refine Af.wN q ?_;clear q);(focus(refine aQ ?_;repeat' first|with_reducible apply ai|exact wZ|fail))))
  all_goals(try(intro i hi;rcases(zo:i=0∨i=1∨i=2∨i=3∨i=4∨i=5)with rfl|rfl|rfl|rfl|rfl|rfl<;>exact aD.of_eq rfl))
  all_goals exact eZ
 | true=>
  replace g3:L.length=6:=g3 rfl;rw[aa zd];have h5:=F9 x ⟨#[46]⟩;have hcs:=BD x ⟨#[46]⟩;have hw0:∀n:Nat,((n:Int)).toNat=n:=bu;obtain⟨a0,a1,a2,a3,a4,a5,rfl⟩:=Na g3;replace r3:0<=a3∧a3<10000:=r3;replace r4:0<=a4∧a4<10000:=r4;replace r5:0<=a5∧a5<10000:=r5;replace k1:Af prog 128 [.int .i64 fun _=>a0,.int .i64 fun _=>a1,.int .i64 fun _=>a2] [] (.ag [.int .i64 fun _=>D.1,.int .i64 fun _=>D.2]) []:=k1;show Af prog 82 [.str fun _=>s] [] (.ag [.int .i64 fun _=>(po D a3 a4 a5 (qN x)).1,.int .i64 fun _=>(po D a3 a4 a5 (qN x)).2]) [];clear g3 g4;unfold qN;have hw1:IntKind.i64.wrap (60*a3)=60*a3:=ax zo zo;have hw2:IntKind.i64.wrap (60*a3+a4)=60*a3+a4:=ax zo zo;have hw3:IntKind.i64.wrap ((60*a3+a4)*60)=(60*a3+a4)*60:=ax zo zo;have hw4:IntKind.i64.wrap ((60*a3+a4)*60+a5)=(60*a3+a4)*60+a5:=ax zo zo;generalize eV x ⟨#[46]⟩=c at*;obtain⟨y,cb⟩:=c;dsimp only at*;cases cb with
  | true=>
   rw[ae rfl];have h7:=Ga 3 y zd zo;have hn:=By (d:=3) (s:=y) zd;generalize gv 3 y=N at*;obtain⟨n,z,ok⟩:=N;dsimp only at*;by_cases c1:ok=false∨n=0
   ·rw[ae c1];unfold po;dsimp only;cases ok with
    | false=>
     (refine fA [.tmp 2,.tmp 3] nQ [(1,[(1,.nil,[]),(2,.nil,[]),(3,.ag [.slc .any 1 (fun _=>[a0,a1,a2,a3,a4,a5].length) (iK fun _=>[a0,a1,a2,a3,a4,a5]),zR x,zO true],[])]),(5,[(1,.ag [zR y,zO true],[])]),(7,[(1,.ag [zI n,zR z,zO false],[])])] func82 fun _=>?_;repeat' first|exact⟨⟩|apply mA|apply mC<;>intro)
     (any_goals((with_reducible refine bZ ?_);(try dsimp only);(have q:=h1;refine Af.wN q ?_;clear q);(focus(refine aQ ?_;repeat' first|with_reducible apply ai|exact wZ|fail))))
     all_goals(try(intro i hi;rcases(zo:i=0∨i=1∨i=2∨i=3∨i=4∨i=5)with rfl|rfl|rfl|rfl|rfl|rfl<;>exact aD.of_eq rfl))
     all_goals try exact zB
     all_goals try exact absurd ‹True∧¬n=0›.2 (fun g=>by simp_all)
     all_goals try exact absurd ‹False∧_› (fun g=>g.1)
     all_goals exact eZ
    | true=>
     obtain rfl:n=0:=c1.resolve_left zd
     (refine fA [.tmp 2,.tmp 3] nQ [(1,[(1,.nil,[]),(2,.nil,[]),(3,.ag [.slc .any 1 (fun _=>[a0,a1,a2,a3,a4,a5].length) (iK fun _=>[a0,a1,a2,a3,a4,a5]),zR x,zO true],[])]),(5,[(1,.ag [zR y,zO true],[])]),(7,[(1,.ag [zI 0,zR z,zO true],[])])] func82 fun _=>?_;repeat' first|exact⟨⟩|apply mA|apply mC<;>intro)
     (any_goals((with_reducible refine bZ ?_);(try dsimp only);(have q:=h1;refine Af.wN q ?_;clear q);(focus(refine aQ ?_;repeat' first|with_reducible apply ai|exact wZ|fail))))
     all_goals(try(intro i hi;rcases(zo:i=0∨i=1∨i=2∨i=3∨i=4∨i=5)with rfl|rfl|rfl|rfl|rfl|rfl<;>exact aD.of_eq rfl))
     all_goals try exact zB
     all_goals try exact absurd ‹True∧¬True›.2 (fun g=>g trivial)
     all_goals exact eZ
   ·rw[aa c1];unfold po;dsimp only;obtain rfl:ok=true:=by
     cases ok
     ·exact absurd (.inl rfl) c1
     ·rfl
    have hn0:n≠0:=fun g=>c1 (.inr g);clear c1;by_cases c2:z≠⟨#[90]⟩
    ·rw[ae c2]
     (refine fA [.tmp 2,.tmp 3] nQ [(1,[(1,.nil,[]),(2,.nil,[]),(3,.ag [.slc .any 1 (fun _=>[a0,a1,a2,a3,a4,a5].length) (iK fun _=>[a0,a1,a2,a3,a4,a5]),zR x,zO true],[])]),(5,[(1,.ag [zR y,zO true],[])]),(7,[(1,.ag [zI n,zR z,zO true],[])])] func82 fun _=>?_;repeat' first|exact⟨⟩|apply mA|apply mC<;>intro)
     all_goals(try simp only[sT,sU,sW,sX,sY,sZ,s6]at*)
     all_goals(try first|simp only[hw0,hw1,hw2,hw3,hw4,jj,qO]|simp only[hw0,hw1,hw2,hw3,hw4])
     (any_goals((with_reducible refine bZ ?_);(try dsimp only);(have q:=h1;refine Af.wN q ?_;clear q);(focus(refine aQ ?_;repeat' first|with_reducible apply ai|exact wZ|fail))))
     all_goals(try(intro i hi;rcases(zo:i=0∨i=1∨i=2∨i=3∨i=4∨i=5)with rfl|rfl|rfl|rfl|rfl|rfl<;>exact aD.of_eq rfl))
     all_goals try exact zB
     all_goals try exact absurd ‹z=(⟨#[90]⟩:ByteArray)› c2
     all_goals(try(exfalso;simp only[lT,false_or,ii,qA]at*;omega))
     (all_goals try first|exact eZ|(refine qC ?_;repeat' first|exact⟨⟩|apply mA))
     all_goals(try omega)
    rw[aa c2];obtain rfl:z=⟨#[90]⟩:=gr.1 c2;by_cases c3:D.2≠0∨23<a3∨59<a4∨59<a5
    ·rw[ae c3]
     (refine fA [.tmp 2,.tmp 3] nQ [(1,[(1,.nil,[]),(2,.nil,[]),(3,.ag [.slc .any 1 (fun _=>[a0,a1,a2,a3,a4,a5].length) (iK fun _=>[a0,a1,a2,a3,a4,a5]),zR x,zO true],[])]),(5,[(1,.ag [zR y,zO true],[])]),(7,[(1,.ag [zI n,.str fun _=>⟨#[90]⟩,zO true],[])]),(12,[(9,.ag [.int .i64 fun _=>D.1,.int .i64 fun _=>D.2],[])]),(15,[(17,.ag [.any,.any],[])])] func82 fun _=>?_;repeat' first|exact⟨⟩|apply mA|apply mC<;>intro)
     all_goals(try simp only[sT,sU,sW,sX,sY,sZ,s6]at*)
     all_goals(try first|simp only[hw0,hw1,hw2,hw3,hw4,jj,qO]|simp only[hw0,hw1,hw2,hw3,hw4])
     (any_goals((with_reducible refine bZ ?_);(try dsimp only);(have q:=h1;refine Af.wN q ?_;clear q);(focus(refine aQ ?_;repeat' first|with_reducible apply ai|exact wZ|fail))))
     all_goals(try(intro i hi;rcases(zo:i=0∨i=1∨i=2∨i=3∨i=4∨i=5)with rfl|rfl|rfl|rfl|rfl|rfl<;>exact aD.of_eq rfl))
     all_goals try exact zB
     all_goals(try(exfalso;simp only[lT,false_or,ii,qA]at*;omega))
     (all_goals try first|exact eZ|(refine qC ?_;repeat' first|exact⟨⟩|apply mA))
     all_goals(try omega)
    rw[aa c3];have k2:=Gd D.1 (((60*a3+a4)*60+a5)*1000+n);generalize pn D.1 (((60*a3+a4)*60+a5)*1000+n)=J at*;have jj:IntKind.i64.wrap (((60*a3+a4)*60+a5)*1000)=((60*a3+a4)*60+a5)*1000:=ax zo zo;have qO:IntKind.i64.wrap (((60*a3+a4)*60+a5)*1000+n)=((60*a3+a4)*60+a5)*1000+n:=ax zo zo
    (refine fA [.tmp 2,.tmp 3] nQ [(1,[(1,.nil,[]),(2,.nil,[]),(3,.ag [.slc .any 1 (fun _=>[a0,a1,a2,a3,a4,a5].length) (iK fun _=>[a0,a1,a2,a3,a4,a5]),zR x,zO true],[])]),(5,[(1,.ag [zR y,zO true],[])]),(7,[(1,.ag [zI n,.str fun _=>⟨#[90]⟩,zO true],[])]),(12,[(9,.ag [.int .i64 fun _=>D.1,.int .i64 fun _=>D.2],[])]),(15,[(17,.ag [.int .i64 fun _=>J.1,.int .i64 fun _=>J.2],[])])] func82 fun _=>?_;repeat' first|exact⟨⟩|apply mA|apply mC<;>intro)
    all_goals(try simp only[sT,sU,sW,sX,sY,sZ,s6]at*)
    all_goals(try first|simp only[hw0,hw1,hw2,hw3,hw4,jj,qO]|simp only[hw0,hw1,hw2,hw3,hw4])
    (any_goals((with_reducible refine bZ ?_);(try dsimp only);(have q:=h1;refine Af.wN q ?_;clear q);(focus(refine aQ ?_;repeat' first|with_reducible apply ai|exact wZ|fail))))
    all_goals(try(intro i hi;rcases(zo:i=0∨i=1∨i=2∨i=3∨i=4∨i=5)with rfl|rfl|rfl|rfl|rfl|rfl<;>exact aD.of_eq rfl))
    all_goals try exact zB
    all_goals(try(exfalso;simp only[lT,false_or,ii,qA]at*;omega))
    (all_goals try first|exact eZ|(refine qC ?_;repeat' first|exact⟨⟩|apply mA))
    all_goals(try omega)
  | false=>
   rw[aa zd];unfold po;dsimp only;have h7:=h5;by_cases c2:x≠⟨#[90]⟩
   ·rw[ae c2]
    (refine fA [.tmp 2,.tmp 3] nQ [(1,[(1,.nil,[]),(2,.nil,[]),(3,.ag [.slc .any 1 (fun _=>[a0,a1,a2,a3,a4,a5].length) (iK fun _=>[a0,a1,a2,a3,a4,a5]),zR x,zO true],[])]),(5,[(1,.ag [zR y,zO false],[])]),(7,[(1,.ag [zI 0,zR x,zO true],[])])] func82 fun _=>?_;repeat' first|exact⟨⟩|apply mA|apply mC<;>intro)
    all_goals(try simp only[sT,sU,sW,sX,sY,sZ,s6]at*)
    all_goals(try first|simp only[hw0,hw1,hw2,hw3,hw4,jj,qO]|simp only[hw0,hw1,hw2,hw3,hw4])
    (any_goals((with_reducible refine bZ ?_);(try dsimp only);(have q:=h1;refine Af.wN q ?_;clear q);(focus(refine aQ ?_;repeat' first|with_reducible apply ai|exact wZ|fail))))
    all_goals(try(intro i hi;rcases(zo:i=0∨i=1∨i=2∨i=3∨i=4∨i=5)with rfl|rfl|rfl|rfl|rfl|rfl<;>exact aD.of_eq rfl))
    all_goals try exact zB
    all_goals try exact absurd ‹x=(⟨#[90]⟩:ByteArray)› c2
    all_goals(try(exfalso;simp only[lT,false_or,ii,qA]at*;omega))
    (all_goals try first|exact eZ|(refine qC ?_;repeat' first|exact⟨⟩|apply mA))
    all_goals(try omega)
   rw[aa c2];obtain rfl:x=⟨#[90]⟩:=gr.1 c2;by_cases c3:D.2≠0∨23<a3∨59<a4∨59<a5
   ·rw[ae c3]
    (refine fA [.tmp 2,.tmp 3] nQ [(1,[(1,.nil,[]),(2,.nil,[]),(3,.ag [.slc .any 1 (fun _=>[a0,a1,a2,a3,a4,a5].length) (iK fun _=>[a0,a1,a2,a3,a4,a5]),.str fun _=>⟨#[90]⟩,zO true],[])]),(5,[(1,.ag [zR y,zO false],[])]),(7,[(1,.ag [zI 0,.str fun _=>⟨#[90]⟩,zO true],[])]),(12,[(9,.ag [.int .i64 fun _=>D.1,.int .i64 fun _=>D.2],[])]),(15,[(17,.ag [.any,.any],[])])] func82 fun _=>?_;repeat' first|exact⟨⟩|apply mA|apply mC<;>intro)
    all_goals(try simp only[sT,sU,sW,sX,sY,sZ,s6]at*)
    all_goals(try first|simp only[hw0,hw1,hw2,hw3,hw4,jj,qO]|simp only[hw0,hw1,hw2,hw3,hw4])
    (any_goals((with_reducible refine bZ ?_);(try dsimp only);(have q:=h1;refine Af.wN q ?_;clear q);(focus(refine aQ ?_;repeat' first|with_reducible apply ai|exact wZ|fail))))
    all_goals(try(intro i hi;rcases(zo:i=0∨i=1∨i=2∨i=3∨i=4∨i=5)with rfl|rfl|rfl|rfl|rfl|rfl<;>exact aD.of_eq rfl))
    all_goals try exact zB
    all_goals(try(exfalso;simp only[lT,false_or,ii,qA]at*;omega))
    (all_goals try first|exact eZ|(refine qC ?_;repeat' first|exact⟨⟩|apply mA))
    all_goals(try omega)
   rw[aa c3];have k2:=Gd D.1 (((60*a3+a4)*60+a5)*1000+0);generalize pn D.1 (((60*a3+a4)*60+a5)*1000+0)=J at*;have jj:IntKind.i64.wrap (((60*a3+a4)*60+a5)*1000)=((60*a3+a4)*60+a5)*1000:=ax zo zo;have qO:IntKind.i64.wrap (((60*a3+a4)*60+a5)*1000+0)=((60*a3+a4)*60+a5)*1000+0:=ax zo zo
   (refine fA [.tmp 2,.tmp 3] nQ [(1,[(1,.nil,[]),(2,.nil,[]),(3,.ag [.slc .any 1 (fun _=>[a0,a1,a2,a3,a4,a5].length) (iK fun _=>[a0,a1,a2,a3,a4,a5]),.str fun _=>⟨#[90]⟩,zO true],[])]),(5,[(1,.ag [zR y,zO false],[])]),(7,[(1,.ag [zI 0,.str fun _=>⟨#[90]⟩,zO true],[])]),(12,[(9,.ag [.int .i64 fun _=>D.1,.int .i64 fun _=>D.2],[])]),(15,[(17,.ag [.int .i64 fun _=>J.1,.int .i64 fun _=>J.2],[])])] func82 fun _=>?_;repeat' first|exact⟨⟩|apply mA|apply mC<;>intro)
   all_goals(try simp only[sT,sU,sW,sX,sY,sZ,s6]at*)
   all_goals(try first|simp only[hw0,hw1,hw2,hw3,hw4,jj,qO]|simp only[hw0,hw1,hw2,hw3,hw4])
   (any_goals((with_reducible refine bZ ?_);(try dsimp only);(have q:=h1;refine Af.wN q ?_;clear q);(focus(refine aQ ?_;repeat' first|with_reducible apply ai|exact wZ|fail))))
   all_goals(try(intro i hi;rcases(zo:i=0∨i=1∨i=2∨i=3∨i=4∨i=5)with rfl|rfl|rfl|rfl|rfl|rfl<;>exact aD.of_eq rfl))
   all_goals try exact zB
   all_goals(try(exfalso;simp only[lT,false_or,ii,qA]at*;omega))
   (all_goals try first|exact eZ|(refine qC ?_;repeat' first|exact⟨⟩|apply mA))
   all_goals(try omega)
end Go.Ai
