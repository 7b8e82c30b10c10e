/- Chapter 17: the law's model of the printer: signs, bindings, words of calls, digits, reserved words. -/
import Derived.Test.YtbagpkiomjlhkaaGreatDoorTxD
set_option linter.all false
namespace Go.Ai
open Go Go.Proofs
set_option maxRecDepth 100000
set_option maxHeartbeats 4000000
def sgnB (op:Int):ByteArray:=if op=5 then ⟨#[32,111,114,32]⟩ else if op=4 then ⟨#[32,97,110,100,32]⟩ else if op=6 then ⟨#[32,61,32]⟩ else if op=7 then ⟨#[32,33,61,32]⟩ else if op=8 then ⟨#[32,60,32]⟩ else if op=9 then ⟨#[32,60,61,32]⟩ else
 if op=10 then ⟨#[32,62,32]⟩ else if op=11 then ⟨#[32,62,61,32]⟩ else if op=23 then ⟨#[32,101,108,115,101,32]⟩ else if op=12 then ⟨#[32,43,32]⟩ else if op=13 then ⟨#[32,45,32]⟩ else if op=17 then ⟨#[32,38,32]⟩ else if op=14 then ⟨#[32,42,32]⟩ else ⟨#[]⟩
def sgnN (op:Int):Int:=if op=5 then 1 else if op=4 then 2 else if op=6 then 4 else if op=7 then 4 else if op=8 then 4 else if op=9 then 4 else if op=10 then 4 else if op=11 then 4 else if op=23 then 5 else if op=12 then 6 else if op=13 then 6 else if op=17 then 6 else if op=14 then 7 else 0
theorem abd (op:Int):Af Tryz.prog 46 [.int .i64 fun _=>op] [] (.tup [.str fun _=>sgnB op,.int .i64 fun _=>sgnN op]) []:=by
 obtain ⟨s,hs⟩:∃ s,s=sgnB op:=⟨_,rfl⟩
 obtain ⟨n,hn⟩:∃ n,n=sgnN op:=⟨_,rfl⟩
 rw [← hs,← hn]
 (apply Af.of tF mF [.tmp 2,.tmp 3] kp46 [] Tryz.func46 (fun _=>?_);(any_goals ((with_reducible refine wI ?_);cbv;(try dsimp only [nc] at *);(repeat' (with_reducible first|exact ‹False›.elim|exact nZ|refine oC ?_ ?_|refine VC.mk rfl ?_ ?_ ?_|(apply Ca.mk<;>intro _)|refine cV (fun _=>?_) fun _=>?_|((first|apply xE|apply uE);cbv;(try dsimp only [nc] at *)))))))
 ((all_goals (try (with_reducible ((first|refine rE ?_|refine nE ?_);cbv;(try dsimp only [nc] at *);(try simp only [wl,nc]);(repeat' apply And.intro);all_goals (try exact wZ)))));(all_goals (try ((with_reducible rw [aC]);(try simp only [wl,nc]);(repeat' (with_reducible apply And.intro));(all_goals (try exact cZ))))))
 all_goals (first|rw [hs]|rw [hn])
 all_goals (first|unfold sgnB|unfold sgnN)
 all_goals (simp only [*,if_true,if_false])
 all_goals rfl
theorem ac8 (op:Int):(0<sgnN op∧sgnN op=aa1 op∧sgnB op=⟨#[32]⟩++symV op (aa1 op).toNat++⟨#[32]⟩∧aa1 op<8∧op≠3∧op≠25∧op≠16∧op≠1∧op≠2)∨(sgnN op=0∧aa1 op=if op=3 then 3 else if op=25 then 4 else if op=16 then 8 else 9):=by
 by_cases h1:op=5
 ·subst h1;left;decide
 by_cases h2:op=4
 ·subst h2;left;decide
 by_cases h3:op=6
 ·subst h3;left;decide
 by_cases h4:op=7
 ·subst h4;left;decide
 by_cases h5:op=8
 ·subst h5;left;decide
 by_cases h6:op=9
 ·subst h6;left;decide
 by_cases h7:op=10
 ·subst h7;left;decide
 by_cases h8:op=11
 ·subst h8;left;decide
 by_cases h9:op=23
 ·subst h9;left;decide
 by_cases h10:op=12
 ·subst h10;left;decide
 by_cases h11:op=13
 ·subst h11;left;decide
 by_cases h12:op=17
 ·subst h12;left;decide
 by_cases h13:op=14
 ·subst h13;left;decide
 right
 have q:∀ k:Int,¬ op=k→(k == op)=false:=fun k h=>beq_eq_false_iff_ne.2 fun e=>h e.symm
 refine ⟨by unfold sgnN;simp only [*,if_false],?_⟩
 unfold aa1
 have e:afg op 10 0=9:=by
  simp [afg,opsL,q _ h1,q _ h2,q _ h3,q _ h4,q _ h5,q _ h6,q _ h7,q _ h8,q _ h9,q _ h10,q _ h11,q _ h12,q _ h13]
 rw [e]
theorem abj (x:X) (e D:Nat):Af Tryz.prog 45 [encX (e+1) D .any fun _=>x] [] (.int .i64 fun _=>aa1 x.op) []:=by
 have h1:=abd x.op
 have h2:=ac8 x.op
 generalize aa1 x.op=b at *
 generalize sgnB x.op=s at *
 generalize sgnN x.op=n at *
 (apply Af.of tF mF [.tmp 2] kp45 [(1,[(2,.tup [.str fun _=>s,.int .i64 fun _=>n],[])])] Tryz.func45 (fun _=>?_);(any_goals ((with_reducible refine wI ?_);cbv;(try dsimp only [nc] at *);(repeat' (with_reducible first|exact ‹False›.elim|exact nZ|refine oC ?_ ?_|refine VC.mk rfl ?_ ?_ ?_|(apply Ca.mk<;>intro _)|refine cV (fun _=>?_) fun _=>?_|((first|apply xE|apply uE);cbv;(try dsimp only [nc] at *)))))))
 any_goals ((with_reducible refine nO ?_);exact h1)
 ((all_goals (try (with_reducible ((first|refine rE ?_|refine nE ?_);cbv;(try dsimp only [nc] at *);(try simp only [wl,nc]);(repeat' apply And.intro);all_goals (try exact wZ)))));(all_goals (try ((with_reducible rw [aC]);(try simp only [wl,nc]);(repeat' (with_reducible apply And.intro));(all_goals (try exact cZ))))))
 all_goals (rcases h2 with ⟨a,b,-,c,d1,d2,d3,-⟩|⟨a,b⟩)
 all_goals (first|omega|(rw [b];simp only [*,if_true,if_false])|skip)
def calB (op:Int):ByteArray:=if op=18 then ⟨#[108,101,110,103,116,104]⟩ else if op=19 then ⟨#[108,111,119,101,114]⟩ else if op=20 then ⟨#[117,112,112,101,114]⟩ else if op=27 then ⟨#[116,101,120,116]⟩ else if op=28 then ⟨#[110,117,109,98,101,114]⟩ else
 if op=21 then ⟨#[115,108,105,99,101]⟩ else if op=24 then ⟨#[105,102]⟩ else if op=15 then ⟨#[100,105,118,105,100,101]⟩ else if op=22 then ⟨#[104,97,115]⟩ else if op=26 then ⟨#[115,117,109]⟩ else ⟨#[]⟩
theorem anu (op:Int):Af Tryz.prog 50 [.int .i64 fun _=>op] [] (.str fun _=>calB op) []:=by
 obtain ⟨s,hs⟩:∃ s,s=calB op:=⟨_,rfl⟩
 rw [← hs]
 (apply Af.of tF mF [.tmp 2] kp50 [] Tryz.func50 (fun _=>?_);(any_goals ((with_reducible refine wI ?_);cbv;(try dsimp only [nc] at *);(repeat' (with_reducible first|exact ‹False›.elim|exact nZ|refine oC ?_ ?_|refine VC.mk rfl ?_ ?_ ?_|(apply Ca.mk<;>intro _)|refine cV (fun _=>?_) fun _=>?_|((first|apply xE|apply uE);cbv;(try dsimp only [nc] at *)))))))
 ((all_goals (try (with_reducible ((first|refine rE ?_|refine nE ?_);cbv;(try dsimp only [nc] at *);(try simp only [wl,nc]);(repeat' apply And.intro);all_goals (try exact wZ)))));(all_goals (try ((with_reducible rw [aC]);(try simp only [wl,nc]);(repeat' (with_reducible apply And.intro));(all_goals (try exact cZ))))))
 all_goals rw [hs]
 all_goals unfold calB
 all_goals (simp only [*,if_true,if_false])
 all_goals rfl
theorem calB_eq {x:X} {I:ByteArray} (h1:1≤x.op) (h2:x.op≤28) (hb:aa1 x.op=9) (o1:¬x.op=1) (o2:¬x.op=2):((aa2.find? fun p=>p.2.1 == x.op).elim ⟨#[]⟩ fun p=>p.1++⟨#[40]⟩++I++⟨#[41]⟩)=calB x.op++⟨#[40]⟩++I++⟨#[41]⟩:=by
 generalize x.op=o at *
 have key:(aa2.find? fun p=>p.2.1 == o).map (·.1)=some (calB o):=by
  rcases (by omega:o=3∨o=4∨o=5∨o=6∨o=7∨o=8∨o=9∨o=10∨o=11∨o=12∨o=13∨o=14∨o=15∨o=16∨o=17∨o=18∨o=19∨o=20∨o=21∨o=22∨o=23∨o=24∨o=25∨o=26∨o=27∨o=28) with
   rfl|rfl|rfl|rfl|rfl|rfl|rfl|rfl|rfl|rfl|rfl|rfl|rfl|rfl|rfl|rfl|rfl|rfl|rfl|rfl|rfl|rfl|rfl|rfl|rfl|rfl
  all_goals first|decide|(exact absurd hb (by decide))
 cases hf:aa2.find? fun p=>p.2.1 == o with
 | none=>rw [hf] at key;cases key
 | some p=>rw [hf] at key;simp only [Option.map_some,Option.some.injEq] at key;simp only [Option.elim,key]
theorem aj9 (n:Int) (h0:0≤n) (h1:n≤12):Af Tryz.prog 49 [.int .i64 fun _=>n] [] (.str fun _=>abD n) []:=by
 obtain ⟨s,hs⟩:∃ s,s=abD n:=⟨_,rfl⟩
 rw [← hs]
 (apply Af.of tF mF [.tmp 2] kp49 [] Tryz.func49 (fun _=>?_);(any_goals ((with_reducible refine wI ?_);cbv;(try dsimp only [nc] at *);(repeat' (with_reducible first|exact ‹False›.elim|exact nZ|refine oC ?_ ?_|refine VC.mk rfl ?_ ?_ ?_|(apply Ca.mk<;>intro _)|refine cV (fun _=>?_) fun _=>?_|((first|apply xE|apply uE);cbv;(try dsimp only [nc] at *)))))))
 ((all_goals (try (with_reducible ((first|refine rE ?_|refine nE ?_);cbv;(try dsimp only [nc] at *);(try simp only [wl,nc]);(repeat' apply And.intro);all_goals (try exact wZ)))));(all_goals (try ((with_reducible rw [aC]);(try simp only [wl,nc]);(repeat' (with_reducible apply And.intro));(all_goals (try exact cZ))))))
 any_goals (intro i hi;rcases (by omega:i=0∨i=1) with rfl|rfl<;>first|rfl|omega)
 all_goals (rcases (by omega:n=0∨n=1∨n=2∨n=3∨n=4∨n=5∨n=6∨n=7∨n=8∨n=9∨n=10∨n=11∨n=12) with rfl|rfl|rfl|rfl|rfl|rfl|rfl|rfl|rfl|rfl|rfl|rfl|rfl)
 all_goals first|(exfalso;omega)|(rw [hs];cbv)
theorem wrd19_ok:Af Tryz.prog 19 [] [] (sS rwL) []:=by
 (apply Af.of tF mF [.tmp 0] kp19 [] Tryz.func19 (fun _=>?_);(any_goals ((with_reducible refine wI ?_);cbv;(try dsimp only [nc] at *);(repeat' (with_reducible first|exact ‹False›.elim|exact nZ|refine oC ?_ ?_|refine VC.mk rfl ?_ ?_ ?_|(apply Ca.mk<;>intro _)|refine cV (fun _=>?_) fun _=>?_|((first|apply xE|apply uE);cbv;(try dsimp only [nc] at *)))))))
 ((all_goals (try (with_reducible ((first|refine rE ?_|refine nE ?_);cbv;(try dsimp only [nc] at *);(try simp only [wl,nc]);(repeat' apply And.intro);all_goals (try exact wZ)))));(all_goals (try ((with_reducible rw [aC]);(try simp only [wl,nc]);(repeat' (with_reducible apply And.intro));(all_goals (try exact cZ))))))
 exact aiU rwL
theorem alk:∃ R,R=rwL∧Af Tryz.prog 19 [] [] (sS R) []:=⟨_,rfl,wrd19_ok⟩
theorem agi (t:ByteArray):Af Tryz.prog 44 [.str fun _=>t] [] (.bool fun _=>resB t) []:=by
 obtain ⟨R,hR,h1⟩:=alk
 obtain ⟨Z,hZ⟩:∃ Z,Z=resB t:=⟨_,rfl⟩
 rw [← hZ]
 unfold resB at hZ
 rw [← hR] at hZ
 have hl:R.length≤1000:=by rw [hR];decide
 unfold sS at h1
 clear hR
 (apply Af.of tF mF [.tmp 2] kp44 [] Tryz.func44 (fun _=>?_);(any_goals ((with_reducible refine wI ?_);cbv;(try dsimp only [nc] at *);(repeat' (with_reducible first|exact ‹False›.elim|exact nZ|refine oC ?_ ?_|refine VC.mk rfl ?_ ?_ ?_|(apply Ca.mk<;>intro _)|refine cV (fun _=>?_) fun _=>?_|((first|apply xE|apply uE);cbv;(try dsimp only [nc] at *)))))))
 refine .loop (fun i:Nat=>⟨16,[(3,.int .i64 fun _=>(i:Int)),(0,.str fun _=>t)],[]⟩) (fun i=>i≤R.length∧kHas (R.drop i) t=Z) (fun i=>R.length - i) 0 ⟨Nat.zero_le _,hZ.symm⟩ ?_ fun i E hi=>?_
 ·(exact aZ)
 obtain ⟨h2,h3⟩:=hi
 apply AWp.wk tF mF [(2,[(1,sS R,[])]),(4,[(0,sS R,[])])] kp44 ?_
 (any_goals ((with_reducible refine wI ?_);cbv;(try dsimp only [nc] at *);(repeat' (with_reducible first|exact ‹False›.elim|exact nZ|refine oC ?_ ?_|refine VC.mk rfl ?_ ?_ ?_|(apply Ca.mk<;>intro _)|refine cV (fun _=>?_) fun _=>?_|((first|apply xE|apply uE);cbv;(try dsimp only [nc] at *))))))
 all_goals (try simp only [Int.toNat_natCast])
 any_goals ((with_reducible refine nO ?_);exact h1)
 ((all_goals (try (with_reducible ((first|refine rE ?_|refine nE ?_);cbv;(try dsimp only [nc] at *);(try simp only [wl,nc]);(repeat' apply And.intro);all_goals (try exact wZ)))));(all_goals (try ((with_reducible rw [aC]);(try simp only [wl,nc]);(repeat' (with_reducible apply And.intro));(all_goals (try exact cZ))))))
 ·rename_i hi q
  rw [List.drop_eq_getElem_cons hi] at h3
  have e1:R.getD i ⟨#[]⟩=R[i]:=by simp [List.getD,hi]
  rw [← h3]
  have e2:R[i]=t:=e1.symm.trans q
  simp [kHas,e2]
 ·rename_i hi q
  rw [List.drop_eq_getElem_cons hi] at h3
  have e1:R.getD i ⟨#[]⟩=R[i]:=by simp [List.getD,hi]
  have e2:¬ R[i]=t:=fun k=>q (e1.trans k)
  refine dE (i+1) ⟨⟨by omega,?_⟩,by omega⟩ ?_
  ·rw [← h3];unfold kHas;rw [List.any_cons,decide_eq_false e2,Bool.false_or]
  (focus (cbv;(try dsimp only [nc] at *);(try simp only [wl,nc]);(repeat' (with_reducible apply And.intro));all_goals (try exact wZ)))
  exact w64n (by omega)
 ·rw [← h3,List.drop_eq_nil_of_le (by omega)];rfl
theorem adQ (s t:ByteArray):∀ (ts:List ByteArray),ts≠[]→aax (ts++[t]) s=aax ts s++s++t
 | [],h=>absurd rfl h
 | [u],_=>by rw [show [u]++[t]=[u,t] from rfl,abV,acu,acu]
 | u :: v :: ts,_=>by
  have ih:=adQ s t (v :: ts) (List.cons_ne_nil _ _)
  show aax (u :: v :: (ts++[t])) s=_
  rw [abV,show v :: (ts++[t])=(v :: ts)++[t] from rfl,ih,abV]
  simp only [ByteArray.append_assoc]
theorem afR (s:ByteArray):∀ (us ts:List ByteArray),(aax ts s).size≤(aax (ts++us) s).size
 | [],ts=>by rw [List.append_nil];exact Nat.le_refl _
 | u :: us,ts=>by
  have h:=afR s us (ts++[u])
  rw [List.append_assoc] at h
  refine Nat.le_trans ?_ h
  by_cases q:ts=[]
  ·subst q;exact Nat.zero_le _
  ·rw [adQ s u ts q,ByteArray.size_append,ByteArray.size_append];omega
theorem ajS (T:X→ByteArray) (e D:Nat) (l:List X) (hl:l.length≤1073741824) (hT:∀ i,i<l.length→Af Tryz.prog 17 [encX (e+1) D .any fun _=>l.getD i default,.int .i64 fun _=>1] [] (.str fun _=>T (l.getD i default)) [])
 (hz:(aax (l.map T) aam).size≤140737488355328):Af Tryz.prog 47 [slcX (e+1) D .any fun _=>l] [] (.str fun _=>aax (l.map T) aam) []:=by
 obtain ⟨J,hJ⟩:∃ J:Nat→ByteArray,J=fun i=>aax ((l.take i).map T) aam:=⟨_,rfl⟩
 have j0:J 0=⟨#[]⟩:=by rw [hJ];rfl
 have jl:aax (l.map T) aam=J l.length:=by rw [hJ];dsimp only;rw [List.take_length]
 have js:∀ i,i<l.length→(J i).size≤140737488355328∧(J (i+1)).size≤140737488355328∧J (i+1)=if 0<i then J i++aam++T (l.getD i default) else J i++T (l.getD i default):=fun i hi=>by
  have key:∀ k,(J k).size≤140737488355328:=fun k=>by
   rw [hJ]
   dsimp only
   have:=afR aam ((l.drop k).map T) ((l.take k).map T)
   rw [← List.map_append,List.take_append_drop] at this
   exact Nat.le_trans this hz
  refine ⟨key i,key _,?_⟩
  have e1:(l.take (i+1)).map T=(l.take i).map T++[T (l.getD i default)]:=by
   rw [List.take_succ_eq_append_getElem hi,List.map_append]
   simp [List.getD,hi]
  rw [hJ]
  dsimp only
  rw [e1]
  by_cases c:0<i
  ·rw [if_pos c]
   refine adQ _ _ _ fun q=>?_
   have:=congrArg List.length q
   rw [List.length_map,List.length_take] at this
   simp only [List.length_nil] at this;omega
  ·obtain rfl:i=0:=by omega
   rw [if_neg c]
   show aax [T (l.getD 0 default)] aam=aax [] aam++_
   rw [acu]
   apply ByteArray.ext
   simp [ByteArray.data_append,aax,Lib.join]
 rw [jl]
 clear jl hJ hz
 unfold slcX
 (apply Af.of tF mF [.tmp 2] kp47 [] Tryz.func47 (fun _=>?_);(any_goals ((with_reducible refine wI ?_);cbv;(try dsimp only [nc] at *);(repeat' (with_reducible first|exact ‹False›.elim|exact nZ|refine oC ?_ ?_|refine VC.mk rfl ?_ ?_ ?_|(apply Ca.mk<;>intro _)|refine cV (fun _=>?_) fun _=>?_|((first|apply xE|apply uE);cbv;(try dsimp only [nc] at *)))))))
 refine .loop (fun i:Nat=>⟨23,[(4,.int .i64 fun _=>(i:Int)),(3,.str fun _=>J i),(0,slcX (e+1) D .any fun _=>l)],[]⟩) (fun i=>i≤l.length) (fun i=>l.length - i) 0 (Nat.zero_le _) ?_ fun i E hi=>?_
 ·(focus (cbv;(try dsimp only [nc] at *);(try simp only [wl,nc]);(repeat' (with_reducible apply And.intro));all_goals (try exact wZ)))
  exact j0.symm
 by_cases hi:i<l.length
 ·have h3:=hT i hi
  obtain ⟨s1,s2,s3⟩:=js i hi
  generalize T (l.getD i default)=t at *
  obtain ⟨u,hu⟩:∃ u,u=J (i+1):=⟨_,rfl⟩
  rw [← hu] at s2 s3
  generalize J i=s at *
  have hc:aam.size=2:=rfl
  by_cases c:0<i
  ·rw [if_pos c] at s3
   have s4:=s2
   rw [s3,ByteArray.size_append,ByteArray.size_append,hc] at s4
   apply AWp.wk tF mF [(7,[(5,.str fun _=>t,[])])] kp47 ?_
   (any_goals ((with_reducible refine wI ?_);cbv;(try dsimp only [nc] at *);(repeat' (with_reducible first|exact ‹False›.elim|exact nZ|refine oC ?_ ?_|refine VC.mk rfl ?_ ?_ ?_|(apply Ca.mk<;>intro _)|refine cV (fun _=>?_) fun _=>?_|((first|apply xE|apply uE);cbv;(try dsimp only [nc] at *))))))
   all_goals (try simp only [Int.toNat_natCast])
   any_goals ((with_reducible refine nO ?_);exact h3)
   all_goals (try (exact absurd hi ‹¬i<l.length›))
   all_goals (try (exact absurd ‹(i:Int)≤0› (by omega)))
   ((all_goals (try (with_reducible ((first|refine rE ?_|refine nE ?_);cbv;(try dsimp only [nc] at *);(try simp only [wl,nc]);(repeat' apply And.intro);all_goals (try exact wZ)))));(all_goals (try ((with_reducible rw [aC]);(try simp only [wl,nc]);(repeat' (with_reducible apply And.intro));(all_goals (try exact cZ))))))
   ·show s.size+2≤_;omega
   ·rw [ByteArray.size_append];show _+2+_≤_;omega
   refine dE (i+1) ⟨by omega,by omega⟩ ?_
   (focus (cbv;(try dsimp only [nc] at *);(try simp only [wl,nc]);(repeat' (with_reducible apply And.intro));all_goals (try exact wZ)))
   ·exact w64n (by omega)
   ·rw [← hu];exact s3.symm
  ·rw [if_neg c] at s3
   have s4:=s2
   rw [s3,ByteArray.size_append] at s4
   apply AWp.wk tF mF [(7,[(5,.str fun _=>t,[])])] kp47 ?_
   (any_goals ((with_reducible refine wI ?_);cbv;(try dsimp only [nc] at *);(repeat' (with_reducible first|exact ‹False›.elim|exact nZ|refine oC ?_ ?_|refine VC.mk rfl ?_ ?_ ?_|(apply Ca.mk<;>intro _)|refine cV (fun _=>?_) fun _=>?_|((first|apply xE|apply uE);cbv;(try dsimp only [nc] at *))))))
   all_goals (try simp only [Int.toNat_natCast])
   any_goals ((with_reducible refine nO ?_);exact h3)
   all_goals (try (exact absurd hi ‹¬i<l.length›))
   all_goals (try (exact absurd ‹(0:Int)<(i:Int)› (by omega)))
   ((all_goals (try (with_reducible ((first|refine rE ?_|refine nE ?_);cbv;(try dsimp only [nc] at *);(try simp only [wl,nc]);(repeat' apply And.intro);all_goals (try exact wZ)))));(all_goals (try ((with_reducible rw [aC]);(try simp only [wl,nc]);(repeat' (with_reducible apply And.intro));(all_goals (try exact cZ))))))
   refine dE (i+1) ⟨by omega,by omega⟩ ?_
   (focus (cbv;(try dsimp only [nc] at *);(try simp only [wl,nc]);(repeat' (with_reducible apply And.intro));all_goals (try exact wZ)))
   ·exact w64n (by omega)
   ·rw [← hu];exact s3.symm
 ·obtain rfl:i=l.length:=by omega
  apply AWp.wk tF mF [(7,[(5,.any,[])])] kp47 ?_
  (any_goals ((with_reducible refine wI ?_);cbv;(try dsimp only [nc] at *);(repeat' (with_reducible first|exact ‹False›.elim|exact nZ|refine oC ?_ ?_|refine VC.mk rfl ?_ ?_ ?_|(apply Ca.mk<;>intro _)|refine cV (fun _=>?_) fun _=>?_|((first|apply xE|apply uE);cbv;(try dsimp only [nc] at *))))))
  all_goals (try (exact absurd ‹l.length<l.length› hi))
  (all_goals exact eZ)
def adw:List (Nat×Orc):=[(2,[(1,.any,[])]),(3,[(2,.any,[])]),(8,[(5,.any,[]),(13,.any,[])]),(11,[(4,.any,[])]),(13,[(4,.any,[]),(9,.any,[])]),(17,[(1,.any,[])]),(18,[(1,.any,[])]),(20,[(4,.any,[])]),(24,[(2,.any,[])]),(26,[(4,.any,[])]),(30,[(5,.any,[])]),(31,[(2,.any,[])])]
def MArg (T:X→Int→ByteArray) (e D:Nat) (x:X):Prop:=∀ n,1≤n→n≤9→(T x n).size≤1152921504606846976→Af Tryz.prog 17 [encX (e+1) D .any fun _=>x,.int .i64 fun _=>n] [] (.str fun _=>T x n) []
theorem m_par (e D:Nat) (x:X) (need:Int) (t:ByteArray) (h:Af Tryz.prog 17 [encX (e+1) (D+1) .any fun _=>x,.int .i64 fun _=>1] [] (.str fun _=>t) []) (hb:aa1 x.op<need) (ht:t.size≤1152921504606846976) :
 Af Tryz.prog 17 [encX (e+1) (D+1) .any fun _=>x,.int .i64 fun _=>need] [] (.str fun _=>parB t) []:=by
 have h1:=abj x e (D+1)
 unfold parB
 generalize aa1 x.op=b at *
 (apply Af.of tF mF [.tmp 4] kp17 ([(1,[(1,.int .i64 fun _=>b,[])]),(2,[(1,.str fun _=>t,[])])]++adw) Tryz.func17 (fun _=>?_);(any_goals ((with_reducible refine wI ?_);cbv;(try dsimp only [nc] at *);(repeat' (with_reducible first|exact ‹False›.elim|exact nZ|refine oC ?_ ?_|refine VC.mk rfl ?_ ?_ ?_|(apply Ca.mk<;>intro _)|refine cV (fun _=>?_) fun _=>?_|((first|apply xE|apply uE);cbv;(try dsimp only [nc] at *)))))))
 all_goals (try (exact absurd hb (Int.not_lt.2 ‹_›)))
 any_goals ((with_reducible refine nO ?_);first|exact h1|exact h)
 ((all_goals (try (with_reducible ((first|refine rE ?_|refine nE ?_);cbv;(try dsimp only [nc] at *);(try simp only [wl,nc]);(repeat' apply And.intro);all_goals (try exact wZ)))));(all_goals (try ((with_reducible rw [aC]);(try simp only [wl,nc]);(repeat' (with_reducible apply And.intro));(all_goals (try exact cZ))))))
 all_goals (first|(simp only [ByteArray.size_append,bszL,List.length_cons,List.length_nil];omega)|rfl)
theorem m_bin (lit:V→ByteArray) (T:X→Int→ByteArray) (e D:Nat) (x:X) (need:Int) (ha:∀ i,i<x.args.length→MArg T e D (x.args.getD i default)) (hl:2≤x.args.length) (hs:(aad lit T x).size≤1152921504606846976) (hb:need≤aa1 x.op) (hp:0<sgnN x.op) :
 Af Tryz.prog 17 [encX (e+1) (D+1) .any fun _=>x,.int .i64 fun _=>need] [] (.str fun _=>aad lit T x) []:=by
 have h1:=abj x e (D+1)
 have h2:=ha 0 (by omega)
 have h4:=ha 1 (by omega)
 have h6:=abd x.op
 obtain ⟨_,g1,g2,g3,o3,o25,o16,_,_⟩:=(ac8 x.op).resolve_right fun q=>by have:=q.1;omega
 rw [g1] at h6 hp
 unfold aad at hs ⊢
 rw [if_neg o3,if_neg o16,if_neg o25] at hs ⊢
 generalize sgnB x.op=S at *
 generalize aa1 x.op=b at *
 by_cases b4:b=4
 ·subst b4
  rw [if_pos rfl] at hs ⊢
  have hs1:=hs
  rw [ByteArray.size_append,ByteArray.size_append,ByteArray.size_append,ByteArray.size_append] at hs1
  have h3:=h2 5 (by decide) (by decide) (by omega)
  have h5:=h4 5 (by decide) (by decide) (by omega)
  generalize T (x.args.getD 0 default) 5=t at *
  generalize T (x.args.getD 1 default) 5=u at *
  rw [show Int.toNat 4=4 from rfl] at g2
  generalize symV x.op 4=sy at *
  have e0:t++⟨#[32]⟩++sy++⟨#[32]⟩++u=t++S++u:=by rw [g2];simp only [ByteArray.append_assoc]
  rw [e0] at hs ⊢
  rw [ByteArray.size_append,ByteArray.size_append] at hs
  clear h2 h4 ha g1 g2 hs1 e0
  (apply Af.of tF mF [.tmp 4] kp17 ([(1,[(1,.int .i64 fun _=>4,[])]),(3,[(2,.tup [.str fun _=>S,.int .i64 fun _=>4],[])]),(8,[(5,.str fun _=>t,[]),(13,.str fun _=>u,[])])]++adw) Tryz.func17 (fun _=>?_);(any_goals ((with_reducible refine wI ?_);cbv;(try dsimp only [nc] at *);(repeat' (with_reducible first|exact ‹False›.elim|exact nZ|refine oC ?_ ?_|refine VC.mk rfl ?_ ?_ ?_|(apply Ca.mk<;>intro _)|refine cV (fun _=>?_) fun _=>?_|((first|apply xE|apply uE);cbv;(try dsimp only [nc] at *)))))))
  all_goals (try (exact absurd ‹(4:Int)<need› (by omega)))
  all_goals (try (exact absurd ‹(4:Int)≤0› (by decide)))
  all_goals (try (exact absurd trivial ‹¬True›))
  all_goals (try simp only [Int.toNat_zero,show Int.toNat 1=1 from rfl])
  any_goals ((with_reducible refine nO ?_);first|exact h1|exact h3|exact h5|exact h6)
  ((all_goals (try (with_reducible ((first|refine rE ?_|refine nE ?_);cbv;(try dsimp only [nc] at *);(try simp only [wl,nc]);(repeat' apply And.intro);all_goals (try exact wZ)))));(all_goals (try ((with_reducible rw [aC]);(try simp only [wl,nc]);(repeat' (with_reducible apply And.intro));(all_goals (try exact cZ))))))
  all_goals (try (simp only [ByteArray.size_append];omega))
 ·rw [if_neg b4,if_pos (by omega)] at hs ⊢
  have hs1:=hs
  rw [ByteArray.size_append,ByteArray.size_append,ByteArray.size_append,ByteArray.size_append] at hs1
  have h3:=h2 b (by omega) (by omega) (by omega)
  have h5:=h4 (b+1) (by omega) (by omega) (by omega)
  obtain ⟨r,hr⟩:∃ r,r=b+1:=⟨_,rfl⟩
  have hw:IntKind.i64.wrap (b+1)=r:=(w64 (by omega) (by omega)).trans hr.symm
  rw [← hr] at hs hs1 h5 ⊢
  generalize T (x.args.getD 0 default) b=t at *
  generalize T (x.args.getD 1 default) r=u at *
  generalize symV x.op b.toNat=sy at *
  have e0:t++⟨#[32]⟩++sy++⟨#[32]⟩++u=t++S++u:=by rw [g2];simp only [ByteArray.append_assoc]
  rw [e0] at hs ⊢
  rw [ByteArray.size_append,ByteArray.size_append] at hs
  clear h2 h4 ha g1 g2 hs1 e0
  (apply Af.of tF mF [.tmp 4] kp17 ([(1,[(1,.int .i64 fun _=>b,[])]),(3,[(2,.tup [.str fun _=>S,.int .i64 fun _=>b],[])]),(8,[(5,.str fun _=>t,[]),(13,.str fun _=>u,[])])]++adw) Tryz.func17 (fun _=>?_);(any_goals ((with_reducible refine wI ?_);cbv;(try dsimp only [nc] at *);(repeat' (with_reducible first|exact ‹False›.elim|exact nZ|refine oC ?_ ?_|refine VC.mk rfl ?_ ?_ ?_|(apply Ca.mk<;>intro _)|refine cV (fun _=>?_) fun _=>?_|((first|apply xE|apply uE);cbv;(try dsimp only [nc] at *)))))))
  all_goals (try (exact absurd ‹b<need› (by omega)))
  all_goals (try (exact absurd ‹b≤0› (by omega)))
  all_goals (try (exact absurd ‹b=4› b4))
  all_goals (try simp only [Int.toNat_zero,show Int.toNat 1=1 from rfl,hw])
  any_goals ((with_reducible refine nO ?_);first|exact h1|exact h3|exact h5|exact h6)
  ((all_goals (try (with_reducible ((first|refine rE ?_|refine nE ?_);cbv;(try dsimp only [nc] at *);(try simp only [wl,nc]);(repeat' apply And.intro);all_goals (try exact wZ)))));(all_goals (try ((with_reducible rw [aC]);(try simp only [wl,nc]);(repeat' (with_reducible apply And.intro));(all_goals (try exact cZ))))))
  all_goals (try (simp only [ByteArray.size_append];omega))
theorem m_not (lit:V→ByteArray) (T:X→Int→ByteArray) (e D:Nat) (x:X) (need:Int) (ha:∀ i,i<x.args.length→MArg T e D (x.args.getD i default)) (hl:1≤x.args.length) (hs:(aad lit T x).size≤1152921504606846976) (hb:need≤aa1 x.op) (ho:x.op=3) :
 Af Tryz.prog 17 [encX (e+1) (D+1) .any fun _=>x,.int .i64 fun _=>need] [] (.str fun _=>aad lit T x) []:=by
 have h1:=abj x e (D+1)
 have h6:=abd x.op
 have e1:aa1 x.op=3:=by rw [ho];rfl
 have e2:sgnN x.op=0:=by rw [ho];rfl
 have h2:=ha 0 (by omega)
 unfold aad at hs ⊢
 rw [if_pos ho,e1] at hs ⊢
 rw [e1] at h1 hb
 rw [e2] at h6
 have k1:(notB++T (x.args.getD 0 default) 3).size=4+(T (x.args.getD 0 default) 3).size:=ByteArray.size_append
 have h3:=h2 3 (by decide) (by decide) (by omega)
 generalize T (x.args.getD 0 default) 3=t at *
 generalize sgnB x.op=S at *
 clear h2 ha e1 e2
 (apply Af.of tF mF [.tmp 4] kp17 ([(1,[(1,.int .i64 fun _=>3,[])]),(3,[(2,.tup [.str fun _=>S,.int .i64 fun _=>0],[])]),(11,[(4,.str fun _=>t,[])])]++adw) Tryz.func17 (fun _=>?_);(any_goals ((with_reducible refine wI ?_);cbv;(try dsimp only [nc] at *);(repeat' (with_reducible first|exact ‹False›.elim|exact nZ|refine oC ?_ ?_|refine VC.mk rfl ?_ ?_ ?_|(apply Ca.mk<;>intro _)|refine cV (fun _=>?_) fun _=>?_|((first|apply xE|apply uE);cbv;(try dsimp only [nc] at *)))))))
 all_goals (try (exact absurd ‹(3:Int)<need› (by omega)))
 all_goals (try (exact absurd ‹(0:Int)<0› (by decide)))
 all_goals (try (exact absurd ho ‹¬x.op=3›))
 all_goals (try simp only [Int.toNat_zero])
 any_goals ((with_reducible refine nO ?_);first|exact h1|exact h3|exact h6)
 ((all_goals (try (with_reducible ((first|refine rE ?_|refine nE ?_);cbv;(try dsimp only [nc] at *);(try simp only [wl,nc]);(repeat' apply And.intro);all_goals (try exact wZ)))));(all_goals (try ((with_reducible rw [aC]);(try simp only [wl,nc]);(repeat' (with_reducible apply And.intro));(all_goals (try exact cZ))))))
 ·show 4+t.size≤_;omega
 ·rfl
theorem m_neg (lit:V→ByteArray) (T:X→Int→ByteArray) (e D:Nat) (x:X) (need:Int) (ha:∀ i,i<x.args.length→MArg T e D (x.args.getD i default)) (hl:1≤x.args.length) (hv:(x.args.getD 0 default).op=1→0<(x.args.getD 0 default).value.length) (h19:(x.args.getD 0 default).op=1→T (x.args.getD 0 default) 1=T (x.args.getD 0 default) 9) (hs:(aad lit T x).size≤1152921504606846976) (hb:need≤aa1 x.op) (ho:x.op=16) :
 Af Tryz.prog 17 [encX (e+1) (D+1) .any fun _=>x,.int .i64 fun _=>need] [] (.str fun _=>aad lit T x) []:=by
 have h1:=abj x e (D+1)
 have h6:=abd x.op
 have e1:aa1 x.op=8:=by rw [ho];rfl
 have e2:sgnN x.op=0:=by rw [ho];rfl
 have h2:=ha 0 (by omega)
 unfold aad at hs ⊢
 rw [if_neg (by omega),if_pos ho] at hs ⊢
 rw [e1] at h1 hb
 rw [e2] at h6
 have hT:(T (x.args.getD 0 default) 9).size≤1152921504606846976:=by
  rw [ByteArray.size_append] at hs
  split at hs
  ·unfold parB at hs
   rw [ByteArray.size_append,ByteArray.size_append] at hs;omega
  ·omega
 by_cases hn:numX (x.args.getD 0 default)
 ·rw [if_pos hn]
  have h3:=h2 1 (by decide) (by decide) (by rw [h19 hn.1];exact hT)
  rw [h19 hn.1] at h3
  unfold numX parB at *
  generalize T (x.args.getD 0 default) 9=t at *
  generalize sgnB x.op=S at *
  clear h2 ha e1 e2 hs h19
  (apply Af.of tF mF [.tmp 4] kp17 ([(1,[(1,.int .i64 fun _=>8,[])]),(3,[(2,.tup [.str fun _=>S,.int .i64 fun _=>0],[])]),(17,[(1,.str fun _=>t,[])])]++adw) Tryz.func17 (fun _=>?_);(any_goals ((with_reducible refine wI ?_);cbv;(try dsimp only [nc] at *);(repeat' (with_reducible first|exact ‹False›.elim|exact nZ|refine oC ?_ ?_|refine VC.mk rfl ?_ ?_ ?_|(apply Ca.mk<;>intro _)|refine cV (fun _=>?_) fun _=>?_|((first|apply xE|apply uE);cbv;(try dsimp only [nc] at *)))))))
  all_goals (try (exact absurd ‹(8:Int)<need› (by omega)))
  all_goals (try (exact absurd ‹(0:Int)<0› (by decide)))
  all_goals (try (exact absurd ‹(0:Int)<0› (by decide)))
  all_goals (try (exact absurd ‹x.op=3› (by omega)))
  all_goals (try (exact absurd ‹x.op=25› (by omega)))
  all_goals (try (exact absurd ho ‹¬x.op=16›))
  all_goals (try simp only [Int.toNat_zero,ite_self] at *)
  all_goals (try (exact absurd hn (by omega)))
  any_goals ((with_reducible refine nO ?_);first|exact h1|exact h3|exact h6)
  ((all_goals (try (with_reducible ((first|refine rE ?_|refine nE ?_);cbv;(try dsimp only [nc] at *);(try simp only [wl,nc]);(repeat' apply And.intro);all_goals (try exact wZ)))));(all_goals (try ((with_reducible rw [aC]);(try simp only [wl,nc]);(repeat' (with_reducible apply And.intro));(all_goals (try exact cZ))))))
  all_goals (first|(simp only [ByteArray.size_append,bszL,List.length_cons,List.length_nil] at *;omega)|(rw [show (⟨#[45,40]⟩:ByteArray)=⟨#[45]⟩++⟨#[40]⟩ from rfl];simp only [ByteArray.append_assoc])|skip)
 ·rw [if_neg hn]
  have h3:=h2 9 (by decide) (by decide) hT
  unfold numX at *
  generalize T (x.args.getD 0 default) 9=t at *
  generalize sgnB x.op=S at *
  clear h2 ha e1 e2 hs h19
  (apply Af.of tF mF [.tmp 4] kp17 ([(1,[(1,.int .i64 fun _=>8,[])]),(3,[(2,.tup [.str fun _=>S,.int .i64 fun _=>0],[])]),(18,[(1,.str fun _=>t,[])])]++adw) Tryz.func17 (fun _=>?_);(any_goals ((with_reducible refine wI ?_);cbv;(try dsimp only [nc] at *);(repeat' (with_reducible first|exact ‹False›.elim|exact nZ|refine oC ?_ ?_|refine VC.mk rfl ?_ ?_ ?_|(apply Ca.mk<;>intro _)|refine cV (fun _=>?_) fun _=>?_|((first|apply xE|apply uE);cbv;(try dsimp only [nc] at *)))))))
  all_goals (try (exact absurd ‹(8:Int)<need› (by omega)))
  all_goals (try (exact absurd ‹(0:Int)<0› (by decide)))
  all_goals (try (exact absurd ‹x.op=3› (by omega)))
  all_goals (try (exact absurd ‹x.op=25› (by omega)))
  all_goals (try (exact absurd ho ‹¬x.op=16›))
  all_goals (try simp only [Int.toNat_zero,ite_self] at *)
  all_goals (try (exact absurd (by omega) hn))
  any_goals ((with_reducible refine nO ?_);first|exact h1|exact h3|exact h6)
  ((all_goals (try (with_reducible ((first|refine rE ?_|refine nE ?_);cbv;(try dsimp only [nc] at *);(try simp only [wl,nc]);(repeat' apply And.intro);all_goals (try exact wZ)))));(all_goals (try ((with_reducible rw [aC]);(try simp only [wl,nc]);(repeat' (with_reducible apply And.intro));(all_goals (try exact cZ))))))
  all_goals (first|(simp only [ByteArray.size_append,bszL,List.length_cons,List.length_nil] at *;omega)|skip)
theorem m_in (lit:V→ByteArray) (T:X→Int→ByteArray) (e D:Nat) (x:X) (need:Int) (ha:∀ i,i<x.args.length→MArg T e D (x.args.getD i default)) (h01:∀ y,T y 1=T y 0) (hl:1≤x.args.length) (hm:x.args.length≤1073741824) (hs:(aad lit T x).size≤1099511627776) (hb:need≤aa1 x.op) (ho:x.op=25) :
 Af Tryz.prog 17 [encX (e+1) (D+1) .any fun _=>x,.int .i64 fun _=>need] [] (.str fun _=>aad lit T x) []:=by
 have h1:=abj x e (D+1)
 have h6:=abd x.op
 have e1:aa1 x.op=4:=by rw [ho];rfl
 have e5:sgnN x.op=0:=by rw [ho];rfl
 have h2:=ha 0 (by omega)
 unfold aad at hs ⊢
 rw [if_neg (by omega),if_neg (by omega),if_pos ho] at hs ⊢
 rw [e1] at h1 hb
 rw [e5] at h6
 have hs1:=hs
 rw [ByteArray.size_append,ByteArray.size_append,ByteArray.size_append] at hs1
 have h3:=h2 5 (by decide) (by decide) (by omega)
 have h4:=ajS (fun y=>T y 0) e D (x.args.drop 1) (by rw [List.length_drop];omega) (fun i hi=>by
  rw [List.length_drop] at hi
  have e2:(x.args.drop 1).getD i default=x.args.getD (1+i) default:=by rw [List.getD_eq_getElem?_getD,List.getElem?_drop,List.getD_eq_getElem?_getD]
  have hq:=acv aam ((x.args.drop 1).map fun y=>T y 0) (T (x.args.getD (1+i) default) 0) (by
   rw [← e2]
   refine List.mem_map.2 ⟨_,?_,rfl⟩
   simp only [List.getD,List.getElem?_eq_getElem (show i<(x.args.drop 1).length by rw [List.length_drop];omega)]
   exact List.getElem_mem _)
  have hk:=ha (1+i) (by omega) 1 (by decide) (by decide) (by rw [h01];omega)
  rw [h01] at hk
  rw [e2]
  exact hk) (by omega)
 have e3:∀ i,(x.args.drop 1).getD i default=x.args.getD (1+i) default:=fun i=>by rw [List.getD_eq_getElem?_getD,List.getElem?_drop,List.getD_eq_getElem?_getD]
 generalize aax ((x.args.drop 1).map fun y=>T y 0) aam=u at *
 generalize T (x.args.getD 0 default) 5=t at *
 have e4:(x.args.drop 1).length=x.args.length - 1:=List.length_drop
 unfold slcX at h4
 simp only [e3,e4] at h4
 generalize sgnB x.op=S at *
 clear h2 ha e1 hs e3 e5 h01
 (apply Af.of tF mF [.tmp 4] kp17 ([(1,[(1,.int .i64 fun _=>4,[])]),(3,[(2,.tup [.str fun _=>S,.int .i64 fun _=>0],[])]),(13,[(4,.str fun _=>t,[]),(9,.str fun _=>u,[])])]++adw) Tryz.func17 (fun _=>?_);(any_goals ((with_reducible refine wI ?_);cbv;(try dsimp only [nc] at *);(repeat' (with_reducible first|exact ‹False›.elim|exact nZ|refine oC ?_ ?_|refine VC.mk rfl ?_ ?_ ?_|(apply Ca.mk<;>intro _)|refine cV (fun _=>?_) fun _=>?_|((first|apply xE|apply uE);cbv;(try dsimp only [nc] at *)))))))
 all_goals (try (exact absurd ‹(4:Int)<need› (by omega)))
 all_goals (try (exact absurd ‹(0:Int)<0› (by decide)))
 all_goals (try (exact absurd ‹x.op=3› (by omega)))
 all_goals (try (exact absurd ho ‹¬x.op=25›))
 all_goals (try simp only [Int.toNat_zero])
 any_goals ((with_reducible refine nO ?_);first|exact h1|exact h3|exact h4|exact h6)
 ((all_goals (try (with_reducible ((first|refine rE ?_|refine nE ?_);cbv;(try dsimp only [nc] at *);(try simp only [wl,nc]);(repeat' apply And.intro);all_goals (try exact wZ)))));(all_goals (try ((with_reducible rw [aC]);(try simp only [wl,nc]);(repeat' (with_reducible apply And.intro));(all_goals (try exact cZ))))))
 all_goals (try (simp only [ByteArray.size_append,bszL,inB,List.length_cons,List.length_nil] at *;omega))
 all_goals rfl
theorem m_val (lit:V→ByteArray) (er:Int) (T:X→Int→ByteArray) (e D:Nat) (x:X) (need:Int) (hl:1≤x.value.length) (h3:Af Tryz.prog 48 [encV (e+1) .any fun _=>x.value.getD 0 default] [] (.tup [.str fun _=>lit (x.value.getD 0 default),.int .i64 fun _=>er]) []) (hb:need≤aa1 x.op) (ho:x.op=1) :
 Af Tryz.prog 17 [encX (e+1) (D+1) .any fun _=>x,.int .i64 fun _=>need] [] (.str fun _=>aad lit T x) []:=by
 have h1:=abj x e (D+1)
 have h6:=abd x.op
 have e1:aa1 x.op=9:=by rw [ho];rfl
 have e2:sgnN x.op=0:=by rw [ho];rfl
 unfold aad
 rw [if_neg (by omega),if_neg (by omega),if_neg (by omega),e1,if_neg (by decide),if_neg (by decide),if_pos ho]
 rw [e1] at h1 hb
 rw [e2] at h6
 generalize lit (x.value.getD 0 default)=t at *
 generalize sgnB x.op=S at *
 clear e1 e2
 (apply Af.of tF mF [.tmp 4] kp17 ([(1,[(1,.int .i64 fun _=>9,[])]),(3,[(2,.tup [.str fun _=>S,.int .i64 fun _=>0],[])]),(20,[(4,.tup [.str fun _=>t,.int .i64 fun _=>er],[])])]++adw) Tryz.func17 (fun _=>?_);(any_goals ((with_reducible refine wI ?_);cbv;(try dsimp only [nc] at *);(repeat' (with_reducible first|exact ‹False›.elim|exact nZ|refine oC ?_ ?_|refine VC.mk rfl ?_ ?_ ?_|(apply Ca.mk<;>intro _)|refine cV (fun _=>?_) fun _=>?_|((first|apply xE|apply uE);cbv;(try dsimp only [nc] at *)))))))
 all_goals (try (exact absurd ‹(9:Int)<need› (by omega)))
 all_goals (try (exact absurd ‹(0:Int)<0› (by decide)))
 all_goals (try (exfalso;omega))
 all_goals (try simp only [Int.toNat_zero])
 any_goals ((with_reducible refine nO ?_);first|exact h1|exact h3|exact h6)
 (all_goals exact eZ)
theorem m_path (lit:V→ByteArray) (T:X→Int→ByteArray) (e D:Nat) (x:X) (need:Int) (hb:need≤aa1 x.op) (ho:x.op=2) :
 Af Tryz.prog 17 [encX (e+1) (D+1) .any fun _=>x,.int .i64 fun _=>need] [] (.str fun _=>aad lit T x) []:=by
 have h1:=abj x e (D+1)
 have h6:=abd x.op
 have e1:aa1 x.op=9:=by rw [ho];rfl
 have e2:sgnN x.op=0:=by rw [ho];rfl
 unfold aad
 rw [if_neg (by omega),if_neg (by omega),if_neg (by omega),e1,if_neg (by decide),if_neg (by decide),if_neg (by omega),if_pos ho]
 rw [e1] at h1 hb
 rw [e2] at h6
 generalize sgnB x.op=S at *
 clear e1 e2
 (apply Af.of tF mF [.tmp 4] kp17 ([(1,[(1,.int .i64 fun _=>9,[])]),(3,[(2,.tup [.str fun _=>S,.int .i64 fun _=>0],[])])]++adw) Tryz.func17 (fun _=>?_);(any_goals ((with_reducible refine wI ?_);cbv;(try dsimp only [nc] at *);(repeat' (with_reducible first|exact ‹False›.elim|exact nZ|refine oC ?_ ?_|refine VC.mk rfl ?_ ?_ ?_|(apply Ca.mk<;>intro _)|refine cV (fun _=>?_) fun _=>?_|((first|apply xE|apply uE);cbv;(try dsimp only [nc] at *)))))))
 all_goals (try (exact absurd ‹(9:Int)<need› (by omega)))
 all_goals (try (exact absurd ‹(0:Int)<0› (by decide)))
 all_goals (try (exfalso;omega))
 any_goals ((with_reducible refine nO ?_);first|exact h1|exact h6)
 (all_goals exact eZ)
theorem bind9 {op:Int} (h:aa1 op=9):¬op=3∧¬op=16∧¬op=25∧sgnN op=0:=by
 refine ⟨fun q=>?_,fun q=>?_,fun q=>?_,?_⟩
 ·rw [q] at h;exact absurd h (by decide)
 ·rw [q] at h;exact absurd h (by decide)
 ·rw [q] at h;exact absurd h (by decide)
 ·rcases ac8 op with ⟨_,_,_,q,_⟩|⟨q,_⟩
  ·omega
  ·exact q
theorem m_call (lit:V→ByteArray) (T:X→Int→ByteArray) (e D:Nat) (x:X) (need:Int) (hT:∀ i,i<x.args.length→MArg T e D (x.args.getD i default)) (h01:∀ y,T y 1=T y 0) (hm:x.args.length≤1073741824) (ht:x.text.size≤1099511627776)
 (hb:need≤aa1 x.op) (e1:aa1 x.op=9) (o1:¬x.op=1) (o2:¬x.op=2) (hr:1≤x.op∧x.op≤28) (hn:0≤x.int∧x.int≤12) (hz:x.op=22∨x.op=26→x.args.length=0) (hy:¬x.op=22→¬x.op=26→0<x.args.length)
 (hs:(aax (x.args.map fun y=>T y 0) aam).size≤1099511627776) :
 Af Tryz.prog 17 [encX (e+1) (D+1) .any fun _=>x,.int .i64 fun _=>need] [] (.str fun _=>aad lit T x) []:=by
 obtain ⟨o3,o16,o25,e2⟩:=bind9 e1
 have h1:=abj x e (D+1)
 have h6:=abd x.op
 have h2:=ajS (fun y=>T y 0) e D x.args hm (fun i hi=>by
  have hq:=acv aam (x.args.map fun y=>T y 0) (T (x.args.getD i default) 0) (List.mem_map.2 ⟨_,by simp [List.getD,hi],rfl⟩)
  have hk:=hT i hi 1 (by decide) (by decide) (by rw [h01];omega)
  rw [h01] at hk
  exact hk) (by omega)
 have h3:=aj9 x.int hn.1 hn.2
 have hi:=abu x.int (by omega) (by omega)
 have h4:=anu x.op
 have hcl:(calB x.op).size≤10:=by
  unfold calB
  repeat' split
  all_goals decide
 unfold aad
 rw [if_neg o3,if_neg o16,if_neg o25,e1,if_neg (by decide),if_neg (by decide),if_neg o1,if_neg o2]
 unfold callB
 rw [calB_eq hr.1 hr.2 e1 o1 o2]
 unfold ajX
 rw [e1] at h1 hb
 rw [e2] at h6
 obtain ⟨I,hI⟩:∃ I,I=(if x.op=15∨(x.op=26∧x.int≠0) then (if 0<x.args.length then aax (x.args.map fun y=>T y 0) aam else x.text)++(⟨#[44,32]⟩++abD x.int) else if 0<x.args.length then aax (x.args.map fun y=>T y 0) aam else x.text):=⟨_,rfl⟩
 rw [← hI]
 generalize abD x.int=it at *
 generalize aax (x.args.map fun y=>T y 0) aam=js at *
 generalize sgnB x.op=S at *
 generalize calB x.op=C at *
 unfold slcX at h2
 clear hT h01 e1 e2
 rcases (by omega:x.op=15∨x.op=22∨(x.op=26∧x.int=0)∨(x.op=26∧¬x.int=0)∨(¬x.op=15∧¬x.op=22∧¬x.op=26)) with c|c|c|c|c
 ·have hl:=hy (by omega) (by omega)
  rw [if_pos (.inl c),if_pos hl] at hI
  (apply Af.of tF mF [.tmp 4] kp17 ([(1,[(1,.int .i64 fun _=>9,[])]),(3,[(2,.tup [.str fun _=>S,.int .i64 fun _=>0],[])]),(24,[(2,.str fun _=>js,[])]),(26,[(4,.str fun _=>it,[])]),(30,[(5,.str fun _=>it,[])]),(31,[(2,.str fun _=>C,[])])]++adw) Tryz.func17 (fun _=>?_);(any_goals ((with_reducible refine wI ?_);cbv;(try dsimp only [nc] at *);(repeat' (with_reducible first|exact ‹False›.elim|exact nZ|refine oC ?_ ?_|refine VC.mk rfl ?_ ?_ ?_|(apply Ca.mk<;>intro _)|refine cV (fun _=>?_) fun _=>?_|((first|apply xE|apply uE);cbv;(try dsimp only [nc] at *)))))))
  all_goals (try (exact absurd ‹(9:Int)<need› (by omega)))
  all_goals (try (exact absurd ‹(0:Int)<0› (by decide)))
  all_goals (try (exfalso;omega))
  any_goals ((with_reducible refine nO ?_);first|exact h1|exact h2|exact h3|exact h4|exact h6)
  ((all_goals (try (with_reducible ((first|refine rE ?_|refine nE ?_);cbv;(try dsimp only [nc] at *);(try simp only [wl,nc]);(repeat' apply And.intro);all_goals (try exact wZ)))));(all_goals (try ((with_reducible rw [aC]);(try simp only [wl,nc]);(repeat' (with_reducible apply And.intro));(all_goals (try exact cZ))))))
  all_goals (first|(simp only [ByteArray.size_append,bszL,List.length_cons,List.length_nil] at *;omega)|(rw [hI];simp only [ByteArray.append_assoc])|skip)
 ·have hl:=hz (by omega)
  rw [if_neg (by omega),if_neg (by omega)] at hI
  (apply Af.of tF mF [.tmp 4] kp17 ([(1,[(1,.int .i64 fun _=>9,[])]),(3,[(2,.tup [.str fun _=>S,.int .i64 fun _=>0],[])]),(24,[(2,.str fun _=>js,[])]),(26,[(4,.str fun _=>it,[])]),(30,[(5,.str fun _=>it,[])]),(31,[(2,.str fun _=>C,[])])]++adw) Tryz.func17 (fun _=>?_);(any_goals ((with_reducible refine wI ?_);cbv;(try dsimp only [nc] at *);(repeat' (with_reducible first|exact ‹False›.elim|exact nZ|refine oC ?_ ?_|refine VC.mk rfl ?_ ?_ ?_|(apply Ca.mk<;>intro _)|refine cV (fun _=>?_) fun _=>?_|((first|apply xE|apply uE);cbv;(try dsimp only [nc] at *)))))))
  all_goals (try (exact absurd ‹(9:Int)<need› (by omega)))
  all_goals (try (exact absurd ‹(0:Int)<0› (by decide)))
  all_goals (try (exfalso;omega))
  any_goals ((with_reducible refine nO ?_);first|exact h1|exact h2|exact h3|exact h4|exact h6)
  ((all_goals (try (with_reducible ((first|refine rE ?_|refine nE ?_);cbv;(try dsimp only [nc] at *);(try simp only [wl,nc]);(repeat' apply And.intro);all_goals (try exact wZ)))));(all_goals (try ((with_reducible rw [aC]);(try simp only [wl,nc]);(repeat' (with_reducible apply And.intro));(all_goals (try exact cZ))))))
  all_goals (first|(simp only [ByteArray.size_append,bszL,List.length_cons,List.length_nil] at *;omega)|(rw [hI])|skip)
 ·have hl:=hz (by omega)
  rw [if_neg (by omega),if_neg (by omega)] at hI
  (apply Af.of tF mF [.tmp 4] kp17 ([(1,[(1,.int .i64 fun _=>9,[])]),(3,[(2,.tup [.str fun _=>S,.int .i64 fun _=>0],[])]),(24,[(2,.str fun _=>js,[])]),(26,[(4,.str fun _=>it,[])]),(30,[(5,.str fun _=>it,[])]),(31,[(2,.str fun _=>C,[])])]++adw) Tryz.func17 (fun _=>?_);(any_goals ((with_reducible refine wI ?_);cbv;(try dsimp only [nc] at *);(repeat' (with_reducible first|exact ‹False›.elim|exact nZ|refine oC ?_ ?_|refine VC.mk rfl ?_ ?_ ?_|(apply Ca.mk<;>intro _)|refine cV (fun _=>?_) fun _=>?_|((first|apply xE|apply uE);cbv;(try dsimp only [nc] at *)))))))
  all_goals (try (exact absurd ‹(9:Int)<need› (by omega)))
  all_goals (try (exact absurd ‹(0:Int)<0› (by decide)))
  all_goals (try (exfalso;omega))
  any_goals ((with_reducible refine nO ?_);first|exact h1|exact h2|exact h3|exact h4|exact h6)
  ((all_goals (try (with_reducible ((first|refine rE ?_|refine nE ?_);cbv;(try dsimp only [nc] at *);(try simp only [wl,nc]);(repeat' apply And.intro);all_goals (try exact wZ)))));(all_goals (try ((with_reducible rw [aC]);(try simp only [wl,nc]);(repeat' (with_reducible apply And.intro));(all_goals (try exact cZ))))))
  all_goals (first|(simp only [ByteArray.size_append,bszL,List.length_cons,List.length_nil] at *;omega)|(rw [hI])|skip)
 ·have hl:=hz (by omega)
  rw [if_pos (.inr c),if_neg (by omega)] at hI
  (apply Af.of tF mF [.tmp 4] kp17 ([(1,[(1,.int .i64 fun _=>9,[])]),(3,[(2,.tup [.str fun _=>S,.int .i64 fun _=>0],[])]),(24,[(2,.str fun _=>js,[])]),(26,[(4,.str fun _=>it,[])]),(30,[(5,.str fun _=>it,[])]),(31,[(2,.str fun _=>C,[])])]++adw) Tryz.func17 (fun _=>?_);(any_goals ((with_reducible refine wI ?_);cbv;(try dsimp only [nc] at *);(repeat' (with_reducible first|exact ‹False›.elim|exact nZ|refine oC ?_ ?_|refine VC.mk rfl ?_ ?_ ?_|(apply Ca.mk<;>intro _)|refine cV (fun _=>?_) fun _=>?_|((first|apply xE|apply uE);cbv;(try dsimp only [nc] at *)))))))
  all_goals (try (exact absurd ‹(9:Int)<need› (by omega)))
  all_goals (try (exact absurd ‹(0:Int)<0› (by decide)))
  all_goals (try (exfalso;omega))
  any_goals ((with_reducible refine nO ?_);first|exact h1|exact h2|exact h3|exact h4|exact h6)
  ((all_goals (try (with_reducible ((first|refine rE ?_|refine nE ?_);cbv;(try dsimp only [nc] at *);(try simp only [wl,nc]);(repeat' apply And.intro);all_goals (try exact wZ)))));(all_goals (try ((with_reducible rw [aC]);(try simp only [wl,nc]);(repeat' (with_reducible apply And.intro));(all_goals (try exact cZ))))))
  all_goals (first|(simp only [ByteArray.size_append,bszL,List.length_cons,List.length_nil] at *;omega)|(rw [hI];simp only [ByteArray.append_assoc])|skip)
 ·have hl:=hy (by omega) (by omega)
  rw [if_neg (by omega),if_pos hl] at hI
  (apply Af.of tF mF [.tmp 4] kp17 ([(1,[(1,.int .i64 fun _=>9,[])]),(3,[(2,.tup [.str fun _=>S,.int .i64 fun _=>0],[])]),(24,[(2,.str fun _=>js,[])]),(26,[(4,.str fun _=>it,[])]),(30,[(5,.str fun _=>it,[])]),(31,[(2,.str fun _=>C,[])])]++adw) Tryz.func17 (fun _=>?_);(any_goals ((with_reducible refine wI ?_);cbv;(try dsimp only [nc] at *);(repeat' (with_reducible first|exact ‹False›.elim|exact nZ|refine oC ?_ ?_|refine VC.mk rfl ?_ ?_ ?_|(apply Ca.mk<;>intro _)|refine cV (fun _=>?_) fun _=>?_|((first|apply xE|apply uE);cbv;(try dsimp only [nc] at *)))))))
  all_goals (try (exact absurd ‹(9:Int)<need› (by omega)))
  all_goals (try (exact absurd ‹(0:Int)<0› (by decide)))
  all_goals (try (exfalso;omega))
  any_goals ((with_reducible refine nO ?_);first|exact h1|exact h2|exact h3|exact h4|exact h6)
  ((all_goals (try (with_reducible ((first|refine rE ?_|refine nE ?_);cbv;(try dsimp only [nc] at *);(try simp only [wl,nc]);(repeat' apply And.intro);all_goals (try exact wZ)))));(all_goals (try ((with_reducible rw [aC]);(try simp only [wl,nc]);(repeat' (with_reducible apply And.intro));(all_goals (try exact cZ))))))
  all_goals (first|(simp only [ByteArray.size_append,bszL,List.length_cons,List.length_nil] at *;omega)|(rw [hI])|skip)
end Go.Ai
