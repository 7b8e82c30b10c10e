/- Chapter 2: the texts of dates and times. -/
import Derived.Test.YtbagpkiomjlhkaaGreatDoorDec
import Derived.Test.YtbagpkiomjlhkaaGreatDoorKnA
import Derived.Test.YtbagpkiomjlhkaaGreatDoorQuo
set_option linter.all false
namespace Go.Ai
open Go Go.Proofs
set_option maxRecDepth 100000
set_option maxHeartbeats 4000000
theorem in_ok (n a b:Int):Af Tryz.prog 187 [.int .i64 fun _=>n,.int .i64 fun _=>a,.int .i64 fun _=>b] [] (.bool fun _=>decide (a≤n∧n≤b)) []:=by
 obtain ⟨Z,hZ⟩:∃ Z,Z=decide (a≤n∧n≤b):=⟨_,rfl⟩
 rw [← hZ]
 (apply Af.of tF mF [.tmp 6] kp187 [] Tryz.func187 (fun _=>?_);(any_goals ((with_reducible refine wI ?_);cbv;(try dsimp only [nc] at *);(repeat' (with_reducible first|exact ‹False›.elim|exact nZ|refine oC ?_ ?_|refine VC.mk rfl ?_ ?_ ?_|(apply Ca.mk<;>intro _)|refine cV (fun _=>?_) fun _=>?_|((first|apply xE|apply uE);cbv;(try dsimp only [nc] at *)))))))
 ((all_goals (try (with_reducible ((first|refine rE ?_|refine nE ?_);cbv;(try dsimp only [nc] at *);(try simp only [wl,nc]);(repeat' apply And.intro);all_goals (try exact wZ)))));(all_goals (try ((with_reducible rw [aC]);(try simp only [wl,nc]);(repeat' (with_reducible apply And.intro));(all_goals (try exact cZ))))))
 rw [hZ]
 by_cases c1:a≤n<;>by_cases c2:n≤b<;>simp [c1,c2]
def befY (y:Int):Int:=365 * (y - 1)+(y - 1) / 4 - (y - 1) / 100+(y - 1) / 400
theorem aie (y:Int) (h0:1≤y) (h1:y≤10000):Af Tryz.prog 188 [.int .i64 fun _=>y] [] (.int .i64 fun _=>befY y) []:=by
 obtain ⟨Z,hZ⟩:∃ Z,Z=befY y:=⟨_,rfl⟩
 rw [← hZ]
 (apply Af.of tF mF [.tmp 2] kp188 [] Tryz.func188 (fun _=>?_);(any_goals ((with_reducible refine wI ?_);cbv;(try dsimp only [nc] at *);(repeat' (with_reducible first|exact ‹False›.elim|exact nZ|refine oC ?_ ?_|refine VC.mk rfl ?_ ?_ ?_|(apply Ca.mk<;>intro _)|refine cV (fun _=>?_) fun _=>?_|((first|apply xE|apply uE);cbv;(try dsimp only [nc] at *)))))))
 ((all_goals (try (with_reducible ((first|refine rE ?_|refine nE ?_);cbv;(try dsimp only [nc] at *);(try simp only [wl,nc]);(repeat' apply And.intro);all_goals (try exact wZ)))));(all_goals (try ((with_reducible rw [aC]);(try simp only [wl,nc]);(repeat' (with_reducible apply And.intro));(all_goals (try exact cZ))))))
 have w1:IntKind.i64.wrap (y - 1)=y - 1:=w64 (by omega) (by omega)
 rw [w1,Int.tdiv_eq_ediv_of_nonneg (by omega),Int.tdiv_eq_ediv_of_nonneg (by omega),Int.tdiv_eq_ediv_of_nonneg (by omega),w64 (x:=365 * (y - 1)) (by omega) (by omega),w64 (x:=(y - 1) / 4) (by omega) (by omega),w64 (x:=(y - 1) / 100) (by omega) (by omega),w64 (x:=(y - 1) / 400) (by omega) (by omega),
  w64 (x:=365 * (y - 1)+(y - 1) / 4) (by omega) (by omega),w64 (x:=365 * (y - 1)+(y - 1) / 4 - (y - 1) / 100) (by omega) (by omega),w64 (x:=365 * (y - 1)+(y - 1) / 4 - (y - 1) / 100+(y - 1) / 400) (by omega) (by omega),hZ]
 rfl
theorem leap_ok (y:Int) (h0:1≤y) (h1:y≤9999):Af Tryz.prog 234 [.int .i64 fun _=>y] [] (.bool fun _=>decide (y % 4=0∧(y % 100≠0∨y % 400=0))) []:=by
 have h:=in_ok y 1 9999
 rw [decide_eq_true (by omega:1≤y∧y≤9999)] at h
 obtain ⟨Z,hZ⟩:∃ Z,Z=decide (y % 4=0∧(y % 100≠0∨y % 400=0)):=⟨_,rfl⟩
 rw [← hZ]
 (apply Af.of tF mF [.tmp 2] kp234 [(1,[(1,.bool fun _=>true,[])])] Tryz.func234 (fun _=>?_);(any_goals ((with_reducible refine wI ?_);cbv;(try dsimp only [nc] at *);(repeat' (with_reducible first|exact ‹False›.elim|exact nZ|refine oC ?_ ?_|refine VC.mk rfl ?_ ?_ ?_|(apply Ca.mk<;>intro _)|refine cV (fun _=>?_) fun _=>?_|((first|apply xE|apply uE);cbv;(try dsimp only [nc] at *)))))))
 any_goals ((with_reducible first|refine nO ?_|refine sO (fun _=>?_));exact h)
 ((all_goals (try (with_reducible ((first|refine rE ?_|refine nE ?_);cbv;(try dsimp only [nc] at *);(try simp only [wl,nc]);(repeat' apply And.intro);all_goals (try exact wZ)))));(all_goals (try ((with_reducible rw [aC]);(try simp only [wl,nc]);(repeat' (with_reducible apply And.intro));(all_goals (try exact cZ))))))
 ·exact fun _=>rfl
 ·rw [hZ,Int.tmod_eq_emod_of_nonneg (by omega),Int.tmod_eq_emod_of_nonneg (by omega),Int.tmod_eq_emod_of_nonneg (by omega)]
  by_cases c1:y % 4=0<;>by_cases c2:y % 100=0<;>by_cases c3:y % 400=0<;>simp [c1,c2,c3]
def monD (y m:Int):Int:=if m=2 then (if y % 4=0∧(y % 100≠0∨y % 400=0) then 29 else 28) else if m=4∨m=6∨m=9∨m=11 then 30 else 31
theorem monD_ok (y m:Int) (h0:1≤y) (h1:y≤9999) (g0:1≤m) (g1:m≤12):Af Tryz.prog 189 [.int .i64 fun _=>y,.int .i64 fun _=>m] [] (.int .i64 fun _=>monD y m) []:=by
 have h:=leap_ok y h0 h1
 obtain ⟨Z,hZ⟩:∃ Z,Z=monD y m:=⟨_,rfl⟩
 rw [← hZ]
 unfold monD at hZ
 obtain ⟨L,hL⟩:∃ L,L=decide (y % 4=0∧(y % 100≠0∨y % 400=0)):=⟨_,rfl⟩
 rw [← hL] at h
 (apply Af.of tF mF [.tmp 4] kp189 [(1,[(4,.bool fun _=>L,[])])] Tryz.func189 (fun _=>?_);(any_goals ((with_reducible refine wI ?_);cbv;(try dsimp only [nc] at *);(repeat' (with_reducible first|exact ‹False›.elim|exact nZ|refine oC ?_ ?_|refine VC.mk rfl ?_ ?_ ?_|(apply Ca.mk<;>intro _)|refine cV (fun _=>?_) fun _=>?_|((first|apply xE|apply uE);cbv;(try dsimp only [nc] at *)))))))
 any_goals ((with_reducible first|refine nO ?_|refine sO (fun _=>?_));exact h)
 ((all_goals (try (with_reducible ((first|refine rE ?_|refine nE ?_);cbv;(try dsimp only [nc] at *);(try simp only [wl,nc]);(repeat' apply And.intro);all_goals (try exact wZ)))));(all_goals (try ((with_reducible rw [aC]);(try simp only [wl,nc]);(repeat' (with_reducible apply And.intro));(all_goals (try exact cZ))))))
 ·obtain ⟨c1,c2⟩:=‹_∧L=true›
  rw [hL,decide_eq_true_iff] at c2
  rw [hZ,if_pos c1,if_pos c2]
 ·have c:¬(m=2∧(y % 4=0∧(y % 100≠0∨y % 400=0))):=by
   rintro ⟨c1,c2⟩
   rcases ‹_∨L=false› with c|c
   ·exact c c1
   ·rw [hL,decide_eq_false_iff_not] at c;exact c c2
  rw [w64 (x:=m - 1) (by omega) (by omega),hZ]
  clear hZ hL h
  rcases (by omega:m=1∨m=2∨m=3∨m=4∨m=5∨m=6∨m=7∨m=8∨m=9∨m=10∨m=11∨m=12) with rfl|rfl|rfl|rfl|rfl|rfl|rfl|rfl|rfl|rfl|rfl|rfl
  case inr.inl=>rw [if_pos rfl,if_neg fun q=>c ⟨rfl,q⟩];rfl
  all_goals rfl
theorem alj {d:Int} (h0:0≤d):∀ k:Nat,d<befY ((k:Int)+1)→∃ Y:Int,1≤Y∧Y≤k∧befY Y≤d∧d<befY (Y+1)
 | 0,h=>absurd h (by show ¬ d<befY (0+1);rw [show befY (0+1)=0 by decide];omega)
 | k + 1,h=>by
  by_cases c:befY ((k+1:Nat):Int)≤d
  ·exact ⟨_,by omega,Int.le_refl _,c,h⟩
  ·obtain ⟨Y,a,b,q⟩:=alj h0 k (by rw [show ((k:Int)+1)=((k+1:Nat):Int) by omega];omega)
   exact ⟨Y,a,by omega,q⟩
theorem adC {a b:Int} (h:a≤b):befY a≤befY b:=by unfold befY;omega
theorem anF (y:Int):befY (y+1)=befY y+365+(if y % 4=0∧(y % 100≠0∨y % 400=0) then 1 else 0):=by
 unfold befY;split<;>omega
def cumD (y:Int):Nat→Int
 | 0=>0
 | 1=>0
 | m+2=>cumD y (m+1)+monD y ((m+1:Nat):Int)
theorem cum13 (y:Int):cumD y 13=365+(if y % 4=0∧(y % 100≠0∨y % 400=0) then 1 else 0):=by
 by_cases c:y % 4=0∧(y % 100≠0∨y % 400=0)
 ·simp only [cumD,monD,if_pos c];rfl
 ·simp only [cumD,monD,if_neg c];rfl
theorem month_of (y d:Int) (h:d<cumD y 13) (h0:0≤d):∃ M:Nat,1≤M∧M≤12∧0≤d - cumD y M∧d - cumD y M<monD y M∧∀ j:Nat,1≤j→j<M→monD y j≤d - cumD y j:=by
 have key:∀ k:Nat,(∃ M:Nat,1≤M∧M≤k∧0≤d - cumD y M∧d - cumD y M<monD y M∧∀ j:Nat,1≤j→j<M→monD y j≤d - cumD y j)∨(cumD y (k+1)≤d∧∀ j:Nat,1≤j→j≤k→monD y j≤d - cumD y j):=by
  intro k
  induction k with
  | zero=>exact .inr ⟨h0,fun j a b=>by omega⟩
  | succ k ih =>
   rcases ih with ⟨M,a,b,c⟩|⟨a,b⟩
   ·exact .inl ⟨M,a,by omega,c⟩
   ·by_cases c:d - cumD y (k+1)<monD y ((k+1:Nat):Int)
    ·exact .inl ⟨k+1,by omega,Nat.le_refl _,by omega,c,fun j e f=>b j e (by omega)⟩
    ·refine .inr ⟨?_,fun j e f=>?_⟩
     ·show cumD y (k+1)+monD y ((k+1:Nat):Int)≤d;omega
     ·by_cases g:j=k+1
      ·subst g;omega
      ·exact b j e (by omega)
 rcases key 12 with h'|⟨h',_⟩
 ·exact h'
 ·exact absurd h' (by show ¬ cumD y 13≤d;omega)
theorem civil_ok (n:Int) (h0 : -719162≤n) (h1:n≤2932896):∃ y m d:Int,1≤y∧y≤9999∧1≤m∧m≤12∧1≤d∧d≤31∧Af Tryz.prog 219 [.int .i64 fun _=>n] [] (.tup [.int .i64 fun _=>y,.int .i64 fun _=>m,.int .i64 fun _=>d,.int .i64 fun _=>0]) []:=by
 obtain ⟨D,hD⟩:∃ D,D=n+719162:=⟨_,rfl⟩
 obtain ⟨Y,y0,y1,y2,y3⟩:=alj (d:=D) (by omega) 9999 (by rw [show befY (((9999:Nat):Int)+1)=3652059 by decide];omega)
 have hs:=anF Y
 have hc:=cum13 Y
 obtain ⟨M,m0,m1,m2,m3,m4⟩:=month_of Y (D - befY Y) (by omega) (by omega)
 obtain ⟨R,hR⟩:∃ R,R=D - befY Y - cumD Y M:=⟨_,rfl⟩
 have hmd:monD Y M≤31:=by unfold monD;(repeat' split)<;>omega
 refine ⟨Y,M,R+1,y0,by omega,by omega,by omega,by omega,by omega,?_⟩
 have hi:=in_ok n (-719162) 2932896
 rw [decide_eq_true (by omega : -719162≤n∧n≤2932896)] at hi
 have hb:=aie
 have hm:=monD_ok Y
 (apply Af.of tF mF [.tmp 2,.tmp 3,.tmp 4,.tmp 5] kp219 [(1,[(1,.bool fun _=>true,[])]),(7,[(2,.int .i64 fun _=>befY Y,[])])] Tryz.func219 (fun _=>?_);(any_goals ((with_reducible refine wI ?_);cbv;(try dsimp only [nc] at *);(repeat' (with_reducible first|exact ‹False›.elim|exact nZ|refine oC ?_ ?_|refine VC.mk rfl ?_ ?_ ?_|(apply Ca.mk<;>intro _)|refine cV (fun _=>?_) fun _=>?_|((first|apply xE|apply uE);cbv;(try dsimp only [nc] at *)))))))
 any_goals ((with_reducible first|refine nO ?_|refine sO (fun _=>?_));exact hi)
 ·intro c hc;simp only [List.mem_singleton] at hc;subst hc;decide
 have e1:IntKind.i64.wrap (n - -719162)=D:=(w64 (by omega) (by omega)).trans (by omega)
 have e2:IntKind.i64.wrap (D.tdiv 365)=D / 365:=by rw [Int.tdiv_eq_ediv_of_nonneg (by omega)];exact w64 (by omega) (by omega)
 have e3:IntKind.i64.wrap (D / 365+1)=D / 365+1:=w64 (by omega) (by omega)
 obtain ⟨s0,hs0⟩:∃ s0,s0=if 9999<D / 365+1 then 9999 else D / 365+1:=⟨_,rfl⟩
 simp only [e1,e2,e3,Bool.false_eq_true,if_false,← hs0]
 have hs1:Y≤s0∧s0≤9999:=by
  refine ⟨?_,by rw [hs0];split<;>omega⟩
  rcases Int.lt_or_le s0 Y with h|h
  ·have k1:=adC (show s0+1≤Y by omega)
   have k2:365 * s0≤befY (s0+1)∨s0<0:=by unfold befY;omega
   have h9:s0<9999:=by omega
   have k3:s0=D / 365+1:=by rw [hs0];rw [hs0] at h9;revert h9;split<;>omega
   omega
  ·exact h
 refine .loop (fun y:Int=>⟨42,[(2,.int .i64 fun _=>y),(6,.int .i64 fun _=>D)],[]⟩) (fun y=>Y≤y∧y≤9999) (fun y=>y.toNat) s0 hs1 ?_ fun y E hy=>?_
 ·(exact aZ)
 obtain ⟨hy0,hy1⟩:=hy
 have hy':¬ D<befY y→y=Y:=fun q=>by
  rcases Int.lt_or_le Y y with h|h
  ·have:=adC (show Y+1≤y by omega);omega
  ·omega
 have hb2:=aie y (by omega) (by omega)
 apply AWp.wk tF mF [(5,[(1,.int .i64 fun _=>befY y,[])])] kp219 ?_
 (any_goals ((with_reducible refine wI ?_);cbv;(try dsimp only [nc] at *);(repeat' (with_reducible first|exact ‹False›.elim|exact nZ|refine oC ?_ ?_|refine VC.mk rfl ?_ ?_ ?_|(apply Ca.mk<;>intro _)|refine cV (fun _=>?_) fun _=>?_|((first|apply xE|apply uE);cbv;(try dsimp only [nc] at *))))))
 any_goals ((with_reducible refine nO ?_);exact hb2)
 ·refine dE (ι:=Int) (μ:=fun y=>y.toNat) (i:=y) (y - 1) ⟨⟨?_,by omega⟩,by omega⟩ ?_
  ·rcases Int.lt_or_le Y y with h|h
   ·omega
   ·have:=adC h;omega
  ·have e:IntKind.i64.wrap (y - 1)=y - 1:=w64 (by omega) (by omega)
   rw [e]
   (exact aZ)
 ·refine nO ?_;rw [← hy' (Int.not_lt.2 ‹befY y≤D›)];exact hb2
 ·rw [hy' (Int.not_lt.2 ‹befY y≤D›)]
  have hb0:0≤befY Y:=by have:=adC y0;rw [show befY 1=0 by decide] at this;exact this
  have e4:IntKind.i64.wrap (D - befY Y)=D - befY Y - cumD Y 1:=(w64 (by omega) (by omega)).trans (by show _=_ - 0;omega)
  rw [e4]
  refine .loop (fun m:Nat=>⟨42,[(3,.int .i64 fun _=>(m:Int)),(6,.int .i64 fun _=>D - befY Y - cumD Y m),(2,.int .i64 fun _=>Y)],[]⟩) (fun m=>1≤m∧m≤M∧0≤D - befY Y - cumD Y m∧D - befY Y - cumD Y m≤4000000) (fun m=>12 - m) 1 ⟨by omega,by omega,by show 0≤D - befY Y - 0;omega,by show D - befY Y - 0≤4000000;omega⟩ ?_ fun m E hmm=>?_
  ·(exact aZ)
  obtain ⟨g0,g1,g2,g3⟩:=hmm
  have hmd0:28≤monD Y m∧monD Y m≤31:=by unfold monD;(repeat' split)<;>omega
  have hk:=hm m (by omega) (by omega) (by omega) (by omega)
  have hms:cumD Y (m+1)=cumD Y m+monD Y m:=by
   obtain ⟨j,rfl⟩:∃ j,m=j+1:=⟨m - 1,by omega⟩
   rfl
  have hm4:monD Y m≤D - befY Y - cumD Y m→m<M:=fun q=>by
   rcases Nat.lt_or_ge m M with h|h
   ·exact h
   ·have:m=M:=by omega
    subst this;omega
  have hm5:D - befY Y - cumD Y m<monD Y m→m=M:=fun q=>by
   rcases Nat.lt_or_ge m M with h|h
   ·have:=m4 m g0 h;omega
   ·omega
  have e5:IntKind.i64.wrap (D - befY Y - cumD Y m - monD Y m)=D - befY Y - cumD Y (m+1):=(w64 (by omega) (by omega)).trans (by omega)
  apply AWp.wk tF mF [(9,[(3,.int .i64 fun _=>monD Y m,[])]),(11,[(3,.int .i64 fun _=>monD Y m,[])])] kp219 ?_
  (any_goals ((with_reducible refine wI ?_);cbv;(try dsimp only [nc] at *);(repeat' (with_reducible first|exact ‹False›.elim|exact nZ|refine oC ?_ ?_|refine VC.mk rfl ?_ ?_ ?_|(apply Ca.mk<;>intro _)|refine cV (fun _=>?_) fun _=>?_|((first|apply xE|apply uE);cbv;(try dsimp only [nc] at *))))))
  any_goals ((with_reducible refine nO ?_);exact hk)
  ·have hlt:=hm4 ‹monD Y (m:Int)≤D - befY Y - cumD Y m›
   rw [e5,show IntKind.i64.wrap ((m:Int)+1)=((m+1:Nat):Int) from (w64 (by omega) (by omega)).trans (by omega)]
   refine dE (ι:=Nat) (μ:=fun m=>12 - m) (i:=m) (m+1) ⟨⟨by omega,by omega,by omega,by omega⟩,by omega⟩ ?_
   (exact aZ)
  ·obtain rfl:=hm5 ‹D - befY Y - cumD Y m<monD Y (m:Int)›
   have e6:IntKind.i64.wrap (D - befY Y - cumD Y m+1)=R+1:=(w64 (by omega) (by omega)).trans (by omega)
   rw [e6]
   (all_goals exact eZ)
theorem anj (n:Int) (h:¬(-719162≤n∧n≤2932896)):Af Tryz.prog 219 [.int .i64 fun _=>n] [] (.tup [.int .i64 fun _=>0,.int .i64 fun _=>0,.int .i64 fun _=>0,.int .i64 fun _=>2]) []:=by
 have hi:=in_ok n (-719162) 2932896
 rw [decide_eq_false h] at hi
 (apply Af.of tF mF [.tmp 2,.tmp 3,.tmp 4,.tmp 5] kp219 [(1,[(1,.bool fun _=>false,[])]),(7,[(2,.any,[])])] Tryz.func219 (fun _=>?_);(any_goals ((with_reducible refine wI ?_);cbv;(try dsimp only [nc] at *);(repeat' (with_reducible first|exact ‹False›.elim|exact nZ|refine oC ?_ ?_|refine VC.mk rfl ?_ ?_ ?_|(apply Ca.mk<;>intro _)|refine cV (fun _=>?_) fun _=>?_|((first|apply xE|apply uE);cbv;(try dsimp only [nc] at *)))))))
 any_goals ((with_reducible first|refine nO ?_|refine sO (fun _=>?_));exact hi)
 (all_goals exact eZ)
theorem abB (n w:Int) (h0 : -9223372036854775808≤n) (h1:n≤9223372036854775807) (w0:0≤w) (w1:w≤20):∃ t:ByteArray,t.size≤60∧Af Tryz.prog 220 [.int .i64 fun _=>n,.int .i64 fun _=>w] [] (.str fun _=>t) []:=by
 have h4:=afl n h0 h1
 have hs:=abu n h0 h1
 generalize abD n=d at *
 obtain ⟨m,hm⟩:∃ m:Int,m=(((w - d.size).toNat:Nat):Int):=⟨_,rfl⟩
 have h5:=aik ⟨#[48]⟩ (w - d.size).toNat (by omega) (by show 1 * _≤_;omega)
 have h6:=aeF ⟨#[48]⟩ (w - d.size).toNat
 rw [show (ByteArray.mk #[48]).size=1 from rfl,Nat.mul_one] at h6
 rw [← hm] at h5
 generalize repB ⟨#[48]⟩ (w - d.size).toNat=rp at *
 have hsz:(rp++d).size=rp.size+d.size:=ByteArray.size_append
 refine ⟨rp++d,by omega,?_⟩
 have e1:IntKind.i64.wrap (w - (d.size:Int))=w - (d.size:Int):=w64 (by omega) (by omega)
 have e4:(if 0<w - (d.size:Int) then w - (d.size:Int) else 0)=m:=by split<;>omega
 (apply Af.of tF mF [.tmp 4] kp220 [(1,[(1,.str fun _=>d,[])]),(2,[(5,.str fun _=>rp,[])])] Tryz.func220 (fun _=>?_);(any_goals ((with_reducible refine wI ?_);cbv;(try dsimp only [nc] at *);(repeat' (with_reducible first|exact ‹False›.elim|exact nZ|refine oC ?_ ?_|refine VC.mk rfl ?_ ?_ ?_|(apply Ca.mk<;>intro _)|refine cV (fun _=>?_) fun _=>?_|((first|apply xE|apply uE);cbv;(try dsimp only [nc] at *)))))))
 all_goals (try simp only [e1,e4])
 any_goals ((with_reducible first|refine nO ?_|refine sO (fun _=>?_));first|exact h4|exact h5)
 (all_goals exact eZ)
theorem af4 (n:Int):∃ (t:ByteArray) (e:Int),t.size≤200∧Af Tryz.prog 154 [.int .i64 fun _=>n] [] (.tup [.str fun _=>t,.int .i64 fun _=>e]) []:=by
 by_cases h : -719162≤n∧n≤2932896
 ·obtain ⟨y,m,d,y0,y1,m0,m1,d0,d1,h1⟩:=civil_ok n h.1 h.2
  obtain ⟨ty,sy,hy⟩:=abB y 4 (by omega) (by omega) (by omega) (by omega)
  obtain ⟨tm,sm,hm⟩:=abB m 2 (by omega) (by omega) (by omega) (by omega)
  obtain ⟨td,sd,hd⟩:=abB d 2 (by omega) (by omega) (by omega) (by omega)
  have k1:(ByteArray.mk #[45]).size=1:=rfl
  refine ⟨ty++⟨#[45]⟩++tm++⟨#[45]⟩++td,0,by simp only [ByteArray.size_append,k1];omega,?_⟩
  (apply Af.of tF mF [.tmp 2,.tmp 3] kp154 [(1,[(1,.tup [.int .i64 fun _=>y,.int .i64 fun _=>m,.int .i64 fun _=>d,.int .i64 fun _=>0],[])]),(4,[(1,.str fun _=>ty,[]),(4,.str fun _=>tm,[]),(8,.str fun _=>td,[])])] Tryz.func154 (fun _=>?_);(any_goals ((with_reducible refine wI ?_);cbv;(try dsimp only [nc] at *);(repeat' (with_reducible first|exact ‹False›.elim|exact nZ|refine oC ?_ ?_|refine VC.mk rfl ?_ ?_ ?_|(apply Ca.mk<;>intro _)|refine cV (fun _=>?_) fun _=>?_|((first|apply xE|apply uE);cbv;(try dsimp only [nc] at *)))))))
  any_goals ((with_reducible first|refine nO ?_|refine sO (fun _=>?_));first|exact h1|exact hy|exact hm|exact hd)
  ((all_goals (try (with_reducible ((first|refine rE ?_|refine nE ?_);cbv;(try dsimp only [nc] at *);(try simp only [wl,nc]);(repeat' apply And.intro);all_goals (try exact wZ)))));(all_goals (try ((with_reducible rw [aC]);(try simp only [wl,nc]);(repeat' (with_reducible apply And.intro));(all_goals (try exact cZ))))))
  all_goals (try (simp only [ByteArray.size_append,k1];omega))
 ·have h1:=anj n h
  refine ⟨⟨#[]⟩,2,by decide,?_⟩
  (apply Af.of tF mF [.tmp 2,.tmp 3] kp154 [(1,[(1,.tup [.int .i64 fun _=>0,.int .i64 fun _=>0,.int .i64 fun _=>0,.int .i64 fun _=>2],[])]),(4,[(1,.any,[]),(4,.any,[]),(8,.any,[])])] Tryz.func154 (fun _=>?_);(any_goals ((with_reducible refine wI ?_);cbv;(try dsimp only [nc] at *);(repeat' (with_reducible first|exact ‹False›.elim|exact nZ|refine oC ?_ ?_|refine VC.mk rfl ?_ ?_ ?_|(apply Ca.mk<;>intro _)|refine cV (fun _=>?_) fun _=>?_|((first|apply xE|apply uE);cbv;(try dsimp only [nc] at *)))))))
  any_goals ((with_reducible first|refine nO ?_|refine sO (fun _=>?_));exact h1)
  all_goals (try (exact absurd ‹(2:Int)=0› (by decide)))
  (all_goals exact eZ)
theorem split_ok (n:Int) (h0 : -9223372036854775808≤n) (h1:n≤9223372036854775807):∃ a b e:Int,0≤b∧b<86400000∧Af Tryz.prog 221 [.int .i64 fun _=>n] [] (.tup [.int .i64 fun _=>a,.int .i64 fun _=>b,.int .i64 fun _=>e]) []:=by
 have hi:=in_ok n (-62135596800000) 253402300799999
 by_cases h : -62135596800000≤n∧n≤253402300799999
 ·rw [decide_eq_true h] at hi
  obtain ⟨D,hD⟩:∃ D,D=n+62135596800000:=⟨_,rfl⟩
  refine ⟨-719162+D / 86400000,D % 86400000,0,by omega,by omega,?_⟩
  have e1:IntKind.i64.wrap (n - -62135596800000)=D:=(w64 (by omega) (by omega)).trans (by omega)
  (apply Af.of tF mF [.tmp 2,.tmp 3,.tmp 4] kp221 [(1,[(1,.bool fun _=>true,[])])] Tryz.func221 (fun _=>?_);(any_goals ((with_reducible refine wI ?_);cbv;(try dsimp only [nc] at *);(repeat' (with_reducible first|exact ‹False›.elim|exact nZ|refine oC ?_ ?_|refine VC.mk rfl ?_ ?_ ?_|(apply Ca.mk<;>intro _)|refine cV (fun _=>?_) fun _=>?_|((first|apply xE|apply uE);cbv;(try dsimp only [nc] at *)))))))
  any_goals ((with_reducible first|refine nO ?_|refine sO (fun _=>?_));exact hi)
  all_goals (try simp only [e1])
  ((all_goals (try (with_reducible ((first|refine rE ?_|refine nE ?_);cbv;(try dsimp only [nc] at *);(try simp only [wl,nc]);(repeat' apply And.intro);all_goals (try exact wZ)))));(all_goals (try ((with_reducible rw [aC]);(try simp only [wl,nc]);(repeat' (with_reducible apply And.intro));(all_goals (try exact cZ))))))
  ·rw [Int.tdiv_eq_ediv_of_nonneg (by omega),w64 (x:=D / 86400000) (by omega) (by omega)];exact w64 (by omega) (by omega)
  ·exact Int.tmod_eq_emod_of_nonneg (by omega)
 ·rw [decide_eq_false h] at hi
  refine ⟨0,0,2,by omega,by omega,?_⟩
  (apply Af.of tF mF [.tmp 2,.tmp 3,.tmp 4] kp221 [(1,[(1,.bool fun _=>false,[])])] Tryz.func221 (fun _=>?_);(any_goals ((with_reducible refine wI ?_);cbv;(try dsimp only [nc] at *);(repeat' (with_reducible first|exact ‹False›.elim|exact nZ|refine oC ?_ ?_|refine VC.mk rfl ?_ ?_ ?_|(apply Ca.mk<;>intro _)|refine cV (fun _=>?_) fun _=>?_|((first|apply xE|apply uE);cbv;(try dsimp only [nc] at *)))))))
  any_goals ((with_reducible first|refine nO ?_|refine sO (fun _=>?_));exact hi)
  (all_goals exact eZ)
theorem aiq (n:Int) (h0 : -9223372036854775808≤n) (h1:n≤9223372036854775807):∃ (t:ByteArray) (e:Int),t.size≤1000∧Af Tryz.prog 155 [.int .i64 fun _=>n] [] (.tup [.str fun _=>t,.int .i64 fun _=>e]) []:=by
 obtain ⟨a,b,e,b0,b1,hs⟩:=split_ok n h0 h1
 by_cases c:e=0
 ·subst c
  obtain ⟨t,f,ht,hd⟩:=af4 a
  by_cases c:f=0
  ·subst c
   obtain ⟨th,sh,hh⟩:=abB (b / 1000 / 3600) 2 (by omega) (by omega) (by omega) (by omega)
   obtain ⟨tm,sm,hm⟩:=abB (b / 1000 / 60 % 60) 2 (by omega) (by omega) (by omega) (by omega)
   obtain ⟨tq,sq,hq⟩:=abB (b / 1000 % 60) 2 (by omega) (by omega) (by omega) (by omega)
   obtain ⟨tx,sx,hx⟩:=abB (b % 1000) 3 (by omega) (by omega) (by omega) (by omega)
   have e1:IntKind.i64.wrap (b.tdiv 1000)=b / 1000:=by rw [Int.tdiv_eq_ediv_of_nonneg b0];exact w64 (by omega) (by omega)
   have e2:b.tmod 1000=b % 1000:=Int.tmod_eq_emod_of_nonneg b0
   have e3:IntKind.i64.wrap ((b / 1000).tdiv 3600)=b / 1000 / 3600:=by rw [Int.tdiv_eq_ediv_of_nonneg (by omega)];exact w64 (by omega) (by omega)
   have e4:IntKind.i64.wrap ((b / 1000).tdiv 60)=b / 1000 / 60:=by rw [Int.tdiv_eq_ediv_of_nonneg (by omega)];exact w64 (by omega) (by omega)
   have e5:(b / 1000 / 60).tmod 60=b / 1000 / 60 % 60:=Int.tmod_eq_emod_of_nonneg (by omega)
   have e6:(b / 1000).tmod 60=b / 1000 % 60:=Int.tmod_eq_emod_of_nonneg (by omega)
   have k1:(ByteArray.mk #[58]).size=1:=rfl
   have k2:(ByteArray.mk #[84]).size=1:=rfl
   have k3:(ByteArray.mk #[46]).size=1:=rfl
   have k4:(ByteArray.mk #[90]).size=1:=rfl
   refine ⟨(if b % 1000=0 then t++(⟨#[84]⟩++th++⟨#[58]⟩++tm++⟨#[58]⟩++tq) else t++(⟨#[84]⟩++th++⟨#[58]⟩++tm++⟨#[58]⟩++tq)++(⟨#[46]⟩++tx))++⟨#[90]⟩,0,by split<;>(simp only [ByteArray.size_append,k1,k2,k3,k4];omega),?_⟩
   (apply Af.of tF mF [.tmp 2,.tmp 3] kp155 [(1,[(1,.tup [.int .i64 fun _=>a,.int .i64 fun _=>b,.int .i64 fun _=>0],[])]),(4,[(1,.tup [.str fun _=>t,.int .i64 fun _=>0],[])]),(8,[(3,.str fun _=>th,[]),(9,.str fun _=>tm,[]),(14,.str fun _=>tq,[])]),(10,[(3,.str fun _=>tx,[])])] Tryz.func155 (fun _=>?_);(any_goals ((with_reducible refine wI ?_);cbv;(try dsimp only [nc] at *);(repeat' (with_reducible first|exact ‹False›.elim|exact nZ|refine oC ?_ ?_|refine VC.mk rfl ?_ ?_ ?_|(apply Ca.mk<;>intro _)|refine cV (fun _=>?_) fun _=>?_|((first|apply xE|apply uE);cbv;(try dsimp only [nc] at *)))))))
   all_goals (try simp only [e1,e2,e3,e4,e5,e6])
   any_goals ((with_reducible first|refine nO ?_|refine sO (fun _=>?_));first|exact hs|exact hd|exact hh|exact hm|exact hq|exact hx)
   ((all_goals (try (with_reducible ((first|refine rE ?_|refine nE ?_);cbv;(try dsimp only [nc] at *);(try simp only [wl,nc]);(repeat' apply And.intro);all_goals (try exact wZ)))));(all_goals (try ((with_reducible rw [aC]);(try simp only [wl,nc]);(repeat' (with_reducible apply And.intro));(all_goals (try exact cZ))))))
   all_goals (try rw [e2] at *)
   all_goals (try (focus (simp only [ByteArray.size_append,k1,k2,k3,k4];omega)))
   all_goals (first|rw [if_pos ‹b % 1000=0›]|rw [if_neg ‹¬b % 1000=0›])
  ·refine ⟨⟨#[]⟩,f,by decide,?_⟩
   (apply Af.of tF mF [.tmp 2,.tmp 3] kp155 [(1,[(1,.tup [.int .i64 fun _=>a,.int .i64 fun _=>b,.int .i64 fun _=>0],[])]),(4,[(1,.tup [.str fun _=>t,.int .i64 fun _=>f],[])]),(8,[(3,.any,[]),(9,.any,[]),(14,.any,[])]),(10,[(3,.any,[])])] Tryz.func155 (fun _=>?_);(any_goals ((with_reducible refine wI ?_);cbv;(try dsimp only [nc] at *);(repeat' (with_reducible first|exact ‹False›.elim|exact nZ|refine oC ?_ ?_|refine VC.mk rfl ?_ ?_ ?_|(apply Ca.mk<;>intro _)|refine cV (fun _=>?_) fun _=>?_|((first|apply xE|apply uE);cbv;(try dsimp only [nc] at *)))))))
   any_goals ((with_reducible first|refine nO ?_|refine sO (fun _=>?_));first|exact hs|exact hd)
   all_goals (try (exact absurd ‹f=0› c))
   (all_goals exact eZ)
 ·refine ⟨⟨#[]⟩,e,by decide,?_⟩
  (apply Af.of tF mF [.tmp 2,.tmp 3] kp155 [(1,[(1,.tup [.int .i64 fun _=>a,.int .i64 fun _=>b,.int .i64 fun _=>e],[])]),(4,[(1,.any,[])]),(8,[(3,.any,[]),(9,.any,[]),(14,.any,[])]),(10,[(3,.any,[])])] Tryz.func155 (fun _=>?_);(any_goals ((with_reducible refine wI ?_);cbv;(try dsimp only [nc] at *);(repeat' (with_reducible first|exact ‹False›.elim|exact nZ|refine oC ?_ ?_|refine VC.mk rfl ?_ ?_ ?_|(apply Ca.mk<;>intro _)|refine cV (fun _=>?_) fun _=>?_|((first|apply xE|apply uE);cbv;(try dsimp only [nc] at *)))))))
  any_goals ((with_reducible first|refine nO ?_|refine sO (fun _=>?_));exact hs)
  all_goals (try (exact absurd ‹e=0› c))
  (all_goals exact eZ)
end Go.Ai

namespace Go.Ai
open Go Go.Proofs Go.Shelf
set_option maxRecDepth 100000
set_option maxHeartbeats 4000000
def fbB (b:Bool):ByteArray:=⟨(Lib.formatBool b).toArray⟩
theorem agH (b:Bool):Af Tryz.prog 150 [.bool fun _=>b] [] (.str fun _=>fbB b) [] :=
 Af.pure (vals:=#[.bool b]) Tryz.func150 rfl rfl fun w=>Any.strconv_FormatBool Tryz.lays121 b w
theorem ahA (n s:Int) (h0 : -9223372036854775808<n) (h1:n≤9223372036854775807):Af Tryz.prog 151 [.int .i64 fun _=>n,.int .i64 fun _=>s] [] (.str fun _=>(decT (n,s)).1) []:=by
 have h:=ang (n,s) h0 h1
 generalize decT (n,s)=r at *
 obtain ⟨t,e⟩:=r
 (apply Af.of tF mF [.tmp 4] kp151 [(1,[(3,.tup [.str fun _=>t,.int .i64 fun _=>e],[])])] Tryz.func151 (fun _=>?_);(any_goals ((with_reducible refine wI ?_);cbv;(try dsimp only [nc] at *);(repeat' (with_reducible first|exact ‹False›.elim|exact nZ|refine oC ?_ ?_|refine VC.mk rfl ?_ ?_ ?_|(apply Ca.mk<;>intro _)|refine cV (fun _=>?_) fun _=>?_|((first|apply xE|apply uE);cbv;(try dsimp only [nc] at *)))))))
 any_goals ((with_reducible refine nO ?_);exact h)
 (all_goals exact eZ)
theorem lit_bool (e:Nat) (v:V) (hk:v.kind=1):Af Tryz.prog 102 [encV (e+1) .any fun _=>v] [] (.str fun _=>fbB (v.int == 1)) []:=by
 have h1:=agH (v.int == 1)
 generalize fbB (v.int == 1)=t at *
 (apply Af.of tF mF [.tmp 2] ahL [(6,[(3,.str fun _=>t,[])]),(8,[(2,.any,[])]),(10,[(4,.any,[])]),(15,[(2,.any,[])]),(17,[(2,.any,[])]),(19,[(2,.any,[])]),(20,[(1,.any,[])]),(22,[(2,.any,[])]),(23,[(1,.any,[])]),(38,[(7,.any,[])])] Tryz.func102 (fun _=>?_);(any_goals ((with_reducible refine wI ?_);cbv;(try dsimp only [nc] at *);(repeat' (with_reducible first|exact ‹False›.elim|exact nZ|refine oC ?_ ?_|refine VC.mk rfl ?_ ?_ ?_|(apply Ca.mk<;>intro _)|refine cV (fun _=>?_) fun _=>?_|((first|apply xE|apply uE);cbv;(try dsimp only [nc] at *)))))))
 all_goals (try (exfalso;omega))
 any_goals ((with_reducible refine nO ?_);exact h1)
 (all_goals exact eZ)
theorem lit_text (e:Nat) (v:V) (t:ByteArray) (hk:v.kind=4) (h1:Af Tryz.prog 152 [.str fun _=>v.text] [] (.str fun _=>t) []):Af Tryz.prog 102 [encV (e+1) .any fun _=>v] [] (.str fun _=>t) []:=by
 (apply Af.of tF mF [.tmp 2] ahL [(6,[(3,.any,[])]),(8,[(2,.any,[])]),(10,[(4,.any,[])]),(15,[(2,.str fun _=>t,[])]),(17,[(2,.any,[])]),(19,[(2,.any,[])]),(20,[(1,.any,[])]),(22,[(2,.any,[])]),(23,[(1,.any,[])]),(38,[(7,.any,[])])] Tryz.func102 (fun _=>?_);(any_goals ((with_reducible refine wI ?_);cbv;(try dsimp only [nc] at *);(repeat' (with_reducible first|exact ‹False›.elim|exact nZ|refine oC ?_ ?_|refine VC.mk rfl ?_ ?_ ?_|(apply Ca.mk<;>intro _)|refine cV (fun _=>?_) fun _=>?_|((first|apply xE|apply uE);cbv;(try dsimp only [nc] at *)))))))
 all_goals (try (exfalso;omega))
 any_goals ((with_reducible refine nO ?_);exact h1)
 (all_goals exact eZ)
theorem amK (e:Nat) (v:V) (t:ByteArray) (hk:v.kind=5) (h1:Af Tryz.prog 153 [.str fun _=>v.text] [] (.str fun _=>t) []):Af Tryz.prog 102 [encV (e+1) .any fun _=>v] [] (.str fun _=>t) []:=by
 (apply Af.of tF mF [.tmp 2] ahL [(6,[(3,.any,[])]),(8,[(2,.any,[])]),(10,[(4,.any,[])]),(15,[(2,.any,[])]),(17,[(2,.str fun _=>t,[])]),(19,[(2,.any,[])]),(20,[(1,.any,[])]),(22,[(2,.any,[])]),(23,[(1,.any,[])]),(38,[(7,.any,[])])] Tryz.func102 (fun _=>?_);(any_goals ((with_reducible refine wI ?_);cbv;(try dsimp only [nc] at *);(repeat' (with_reducible first|exact ‹False›.elim|exact nZ|refine oC ?_ ?_|refine VC.mk rfl ?_ ?_ ?_|(apply Ca.mk<;>intro _)|refine cV (fun _=>?_) fun _=>?_|((first|apply xE|apply uE);cbv;(try dsimp only [nc] at *)))))))
 all_goals (try (exfalso;omega))
 any_goals ((with_reducible refine nO ?_);exact h1)
 (all_goals exact eZ)
theorem lit_dec (e:Nat) (v:V) (hk:v.kind=3) (hn : -9223372036854775808<v.int∧v.int≤9223372036854775807) (hs:(decT (v.int,v.scale)).1.size≤1000) :
 Af Tryz.prog 102 [encV (e+1) .any fun _=>v] [] (.str fun _=>if v.scale=0 then (decT (v.int,v.scale)).1++⟨#[100]⟩ else (decT (v.int,v.scale)).1) []:=by
 have h1:=ahA v.int v.scale hn.1 hn.2
 generalize (decT (v.int,v.scale)).1=t at *
 obtain ⟨Z,hZ⟩:∃ Z,Z=if v.scale=0 then t++⟨#[100]⟩ else t:=⟨_,rfl⟩
 rw [← hZ]
 (apply Af.of tF mF [.tmp 2] ahL [(6,[(3,.any,[])]),(8,[(2,.any,[])]),(10,[(4,.str fun _=>t,[])]),(15,[(2,.any,[])]),(17,[(2,.any,[])]),(19,[(2,.any,[])]),(20,[(1,.any,[])]),(22,[(2,.any,[])]),(23,[(1,.any,[])]),(38,[(7,.any,[])])] Tryz.func102 (fun _=>?_);(any_goals ((with_reducible refine wI ?_);cbv;(try dsimp only [nc] at *);(repeat' (with_reducible first|exact ‹False›.elim|exact nZ|refine oC ?_ ?_|refine VC.mk rfl ?_ ?_ ?_|(apply Ca.mk<;>intro _)|refine cV (fun _=>?_) fun _=>?_|((first|apply xE|apply uE);cbv;(try dsimp only [nc] at *)))))))
 all_goals (try (exfalso;omega))
 any_goals ((with_reducible refine nO ?_);exact h1)
 ((all_goals (try (with_reducible ((first|refine rE ?_|refine nE ?_);cbv;(try dsimp only [nc] at *);(try simp only [wl,nc]);(repeat' apply And.intro);all_goals (try exact wZ)))));(all_goals (try ((with_reducible rw [aC]);(try simp only [wl,nc]);(repeat' (with_reducible apply And.intro));(all_goals (try exact cZ))))))
 ·show t.size+1≤_;omega
 ·rw [hZ,if_pos ‹_›]
 ·rw [hZ,if_neg ‹_›]
end Go.Ai

namespace Go.Ai
open Go Go.Proofs
set_option maxRecDepth 100000
set_option maxHeartbeats 4000000
theorem lit_date (e:Nat) (v:V) (t q:ByteArray) (f:Int) (hk:v.kind=6) (h1:Af Tryz.prog 154 [.int .i64 fun _=>v.int] [] (.tup [.str fun _=>t,.int .i64 fun _=>f]) []) (h2:Af Tryz.prog 152 [.str fun _=>t] [] (.str fun _=>q) []) (hq:q.size≤1000000) :
 Af Tryz.prog 102 [encV (e+1) .any fun _=>v] [] (.str fun _=>⟨#[100,97,116,101,32]⟩++q) []:=by
 have k:(ByteArray.mk #[100,97,116,101,32]).size=5:=rfl
 (apply Af.of tF mF [.tmp 2] ahL [(6,[(3,.any,[])]),(8,[(2,.any,[])]),(10,[(4,.any,[])]),(15,[(2,.any,[])]),(17,[(2,.any,[])]),(19,[(2,.tup [.str fun _=>t,.int .i64 fun _=>f],[])]),(20,[(1,.str fun _=>q,[])]),(22,[(2,.any,[])]),(23,[(1,.any,[])]),(38,[(7,.any,[])])] Tryz.func102 (fun _=>?_);(any_goals ((with_reducible refine wI ?_);cbv;(try dsimp only [nc] at *);(repeat' (with_reducible first|exact ‹False›.elim|exact nZ|refine oC ?_ ?_|refine VC.mk rfl ?_ ?_ ?_|(apply Ca.mk<;>intro _)|refine cV (fun _=>?_) fun _=>?_|((first|apply xE|apply uE);cbv;(try dsimp only [nc] at *)))))))
 all_goals (try (exfalso;omega))
 any_goals ((with_reducible refine nO ?_);first|exact h1|exact h2)
 ((all_goals (try (with_reducible ((first|refine rE ?_|refine nE ?_);cbv;(try dsimp only [nc] at *);(try simp only [wl,nc]);(repeat' apply And.intro);all_goals (try exact wZ)))));(all_goals (try ((with_reducible rw [aC]);(try simp only [wl,nc]);(repeat' (with_reducible apply And.intro));(all_goals (try exact cZ))))))
 all_goals (rw [k];omega)
theorem lit_time (e:Nat) (v:V) (t q:ByteArray) (f:Int) (hk:v.kind=7) (h1:Af Tryz.prog 155 [.int .i64 fun _=>v.int] [] (.tup [.str fun _=>t,.int .i64 fun _=>f]) []) (h2:Af Tryz.prog 152 [.str fun _=>t] [] (.str fun _=>q) []) (hq:q.size≤1000000) :
 Af Tryz.prog 102 [encV (e+1) .any fun _=>v] [] (.str fun _=>⟨#[116,105,109,101,32]⟩++q) []:=by
 have k:(ByteArray.mk #[116,105,109,101,32]).size=5:=rfl
 (apply Af.of tF mF [.tmp 2] ahL [(6,[(3,.any,[])]),(8,[(2,.any,[])]),(10,[(4,.any,[])]),(15,[(2,.any,[])]),(17,[(2,.any,[])]),(19,[(2,.any,[])]),(20,[(1,.any,[])]),(22,[(2,.tup [.str fun _=>t,.int .i64 fun _=>f],[])]),(23,[(1,.str fun _=>q,[])]),(38,[(7,.any,[])])] Tryz.func102 (fun _=>?_);(any_goals ((with_reducible refine wI ?_);cbv;(try dsimp only [nc] at *);(repeat' (with_reducible first|exact ‹False›.elim|exact nZ|refine oC ?_ ?_|refine VC.mk rfl ?_ ?_ ?_|(apply Ca.mk<;>intro _)|refine cV (fun _=>?_) fun _=>?_|((first|apply xE|apply uE);cbv;(try dsimp only [nc] at *)))))))
 all_goals (try (exfalso;omega))
 any_goals ((with_reducible refine nO ?_);first|exact h1|exact h2)
 ((all_goals (try (with_reducible ((first|refine rE ?_|refine nE ?_);cbv;(try dsimp only [nc] at *);(try simp only [wl,nc]);(repeat' apply And.intro);all_goals (try exact wZ)))));(all_goals (try ((with_reducible rw [aC]);(try simp only [wl,nc]);(repeat' (with_reducible apply And.intro));(all_goals (try exact cZ))))))
 all_goals (rw [k];omega)
theorem lit_null (e:Nat) (v:V) (hk:v.kind=0):Af Tryz.prog 102 [encV (e+1) .any fun _=>v] [] (.str fun _=>⟨#[110,117,108,108]⟩) []:=by
 (apply Af.of tF mF [.tmp 2] ahL [(6,[(3,.any,[])]),(8,[(2,.any,[])]),(10,[(4,.any,[])]),(15,[(2,.any,[])]),(17,[(2,.any,[])]),(19,[(2,.any,[])]),(20,[(1,.any,[])]),(22,[(2,.any,[])]),(23,[(1,.any,[])]),(38,[(7,.any,[])])] Tryz.func102 (fun _=>?_);(any_goals ((with_reducible refine wI ?_);cbv;(try dsimp only [nc] at *);(repeat' (with_reducible first|exact ‹False›.elim|exact nZ|refine oC ?_ ?_|refine VC.mk rfl ?_ ?_ ?_|(apply Ca.mk<;>intro _)|refine cV (fun _=>?_) fun _=>?_|((first|apply xE|apply uE);cbv;(try dsimp only [nc] at *)))))))
 all_goals (try (exfalso;omega))
 (all_goals exact eZ)
theorem acY (s:ByteArray) (hs:s.size≤1000000):∃ q:ByteArray,q.size≤70 * s.size+2∧Af Tryz.prog 152 [.str fun _=>s] [] (.str fun _=>q) []:=by
 refine ⟨_,?_,quote_ok (fun c=>hexT c.toNat) s hs hex_ok⟩
 have:=af0 (fun c=>hexT c.toNat) s (fun c=>(hex_ok c).1) s.size
 rw [ByteArray.size_append,show (ByteArray.mk #[34]).size=1 from rfl];omega
theorem amL (e:Nat) (v:V) (hk:0≤v.kind∧v.kind≤7) (hn : -9223372036854775808<v.int∧v.int≤9223372036854775807) (ht:v.text.size≤1000000) (hd:v.kind=3→(decT (v.int,v.scale)).1.size≤1000) :
 ∃ t,Af Tryz.prog 102 [encV (e+1) .any fun _=>v] [] (.str fun _=>t) []:=by
 rcases (by omega:v.kind=0∨v.kind=1∨v.kind=2∨v.kind=3∨v.kind=4∨v.kind=5∨v.kind=6∨v.kind=7) with k|k|k|k|k|k|k|k
 ·exact ⟨_,lit_null e v k⟩
 ·exact ⟨_,lit_bool e v k⟩
 ·exact ⟨_,amJ e v k ⟨by omega,hn.2⟩⟩
 ·exact ⟨_,lit_dec e v k hn (hd k)⟩
 ·obtain ⟨q,_,h⟩:=acY v.text ht
  exact ⟨_,lit_text e v q k h⟩
 ·exact ⟨_,amK e v _ k (agl v.text ht)⟩
 ·obtain ⟨t,f,h1,h2⟩:=af4 v.int
  obtain ⟨q,hq,h⟩:=acY t (by omega)
  exact ⟨_,lit_date e v t q f k h2 h (by omega)⟩
 ·obtain ⟨t,f,h1,h2⟩:=aiq v.int (by omega) hn.2
  obtain ⟨q,hq,h⟩:=acY t (by omega)
  exact ⟨_,lit_time e v t q f k h2 h (by omega)⟩
end Go.Ai
