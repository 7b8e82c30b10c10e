/- Chapter 15: symbols. -/
import Derived.Test.YtbagpkiomjlhkaaGreatDoorLexC
import Derived.Test.YtbagpkiomjlhkaaGreatDoorLexA
set_option linter.all false
namespace Go.Ai
open Go Go.Proofs
set_option maxRecDepth 100000
set_option maxHeartbeats 4000000
def aaK (s p:ByteArray):Bool:=Lib.hasPrefix s.data.toList p.data.toList
theorem acB (s p:ByteArray):Af Tryz.prog 143 [.str fun _=>s,.str fun _=>p] [] (.bool fun _=>aaK s p) [] :=
 Af.pure (vals:=#[.string s,.string p]) Tryz.func143 rfl rfl fun w=>Any.strings_HasPrefix Tryz.lays99 s p w
def aaQ (k:Nat):ByteArray:=am9 [.str fun _=>⟨#[45,62]⟩,.str fun _=>⟨#[33,61]⟩,.str fun _=>⟨#[60,61]⟩,.str fun _=>⟨#[62,61]⟩,.str fun _=>⟨#[46,46]⟩] k
def ones:ByteArray:=⟨#[40,41,123,125,91,93,60,62,61,58,59,44,46,63,43,45,42,38,64,124]⟩
theorem akQ:∀ {j:Nat},j<5→(aaQ j).size=2
 | 0,_=>rfl
 | 1,_=>rfl
 | 2,_=>rfl
 | 3,_=>rfl
 | 4,_=>rfl
 | _+5,h=>by omega
theorem ah5 (s:ByteArray) (i:Nat) (w e:Int) (t:Tok) (hs:s.size≤1073741824) (hi:i<s.size) (k:Nat) (hk:k≤5) (hb:∀ j,j<k→aaK (s.extract i s.size) (aaQ j)=false)
 (r:Bool) (at2:Nat) (t2:Tok)
 (hr:(k<5∧aaK (s.extract i s.size) (aaQ k)=true∧r=true∧at2=i+2∧t2=t.set 5 (aaQ k))∨(k=5∧((idxB ones (byt s i)<0∧r=false∧at2=i∧t2=t)∨(0≤idxB ones (byt s i)∧r=true∧at2=i+1∧t2=t.set 5 (s.extract i (i+1)))))) :
 Af Tryz.prog 107 [.ptr 1000 0,.ptr 1001 0] [(1000,boxC s i w e),(1001,boxK t)] (.bool fun _=>r) [(1000,boxC s at2 w e),(1001,boxK t2)]:=by
 have key:∀ j,aaK (s.extract i s.size) (aaQ j)=false→Af Tryz.prog 143 [.str fun _=>s.extract i s.size,.str fun _=>aaQ j] [] (.bool fun _=>false) []:=fun j h=>h ▸ acB _ _
 have keyT:∀ j,aaK (s.extract i s.size) (aaQ j)=true→Af Tryz.prog 143 [.str fun _=>s.extract i s.size,.str fun _=>aaQ j] [] (.bool fun _=>true) []:=fun j h=>h ▸ acB _ _
 have hx:=aeb ones (byt s i)
 obtain ⟨z,hz⟩:∃ z,z=idxB ones (byt s i):=⟨_,rfl⟩
 rw [← hz] at hr hx
 (apply Af.of tF mF [.tmp 4] kp107 [(9,[(9,.int .i64 fun _=>z,[])])] Tryz.func107 (fun _=>?_);(any_goals ((with_reducible refine wI ?_);cbv;(try dsimp only [nc] at *);(repeat' (with_reducible first|exact ‹False›.elim|exact nZ|refine oC ?_ ?_|refine VC.mk rfl ?_ ?_ ?_|(apply Ca.mk<;>intro _)|refine cV (fun _=>?_) fun _=>?_|((first|apply xE|apply uE);cbv;(try dsimp only [nc] at *)))))))
 ((all_goals (try (with_reducible ((first|refine rE ?_|refine nE ?_);cbv;(try dsimp only [nc] at *);(try simp only [wl,nc]);(repeat' apply And.intro);all_goals (try exact wZ)))));(all_goals (try ((with_reducible rw [aC]);(try simp only [wl,nc]);(repeat' (with_reducible apply And.intro));(all_goals (try exact cZ))))))
 refine .loop (fun j:Nat=>⟨77,[(8,.int .i64 fun _=>j),(7,.agg [.str fun _=>⟨#[45,62]⟩,.str fun _=>⟨#[33,61]⟩,.str fun _=>⟨#[60,61]⟩,.str fun _=>⟨#[62,61]⟩,.str fun _=>⟨#[46,46]⟩]),(0,.ptr 1000 0),(1,.ptr 1001 0)],[(1000,boxC s i w e),(1001,boxK t)]⟩)
  (fun j=>j≤k) (fun j=>5 - j) 0 (Nat.zero_le _) ?_ fun j E hj=>?_
 ·(exact aZ)
 by_cases q:j=5
 ·subst q
  have hk5:k=5:=by omega
  obtain ⟨h1,_⟩|⟨_,hr⟩:=hr
  ·omega
  clear hb hj
  subst hk5
  apply AWp.wk tF mF [] kp107 ?_
  (any_goals ((with_reducible refine wI ?_);cbv;(try dsimp only [nc] at *);(repeat' (with_reducible first|exact ‹False›.elim|exact nZ|refine oC ?_ ?_|refine VC.mk rfl ?_ ?_ ?_|(apply Ca.mk<;>intro _)|refine cV (fun _=>?_) fun _=>?_|((first|apply xE|apply uE);cbv;(try dsimp only [nc] at *))))))
  any_goals ((with_reducible refine nO ?_);exact hx)
  all_goals (try (exact absurd ‹((5:Nat):Int)<5› (by decide)))
  ((all_goals (try (with_reducible ((first|refine rE ?_|refine nE ?_);cbv;(try dsimp only [nc] at *);(try simp only [wl,nc]);(repeat' apply And.intro);all_goals (try exact wZ)))));(all_goals (try ((with_reducible rw [aC]);(try simp only [wl,nc]);(repeat' (with_reducible apply And.intro));(all_goals (try exact cZ))))))
  all_goals first
   | (rcases hr with ⟨_,rfl,rfl,rfl⟩|⟨hz1,_⟩
      ·rfl
      ·exact absurd ‹z<0› (by omega))
   | (rcases hr with ⟨hz1,_⟩|⟨_,rfl,rfl,rfl⟩
      ·exact absurd ‹0≤z› (by omega)
      ·first|rfl|exact w64n (by omega)|(rw [w64n (by omega)];rfl))
 by_cases q1:j<k
 ·have hf:=hb j q1
  have hc:=key j hf
  apply AWp.wk tF mF [(4,[(10,.bool fun _=>false,[])])] kp107 ?_
  (any_goals ((with_reducible refine wI ?_);cbv;(try dsimp only [nc] at *);(repeat' (with_reducible first|exact ‹False›.elim|exact nZ|refine oC ?_ ?_|refine VC.mk rfl ?_ ?_ ?_|(apply Ca.mk<;>intro _)|refine cV (fun _=>?_) fun _=>?_|((first|apply xE|apply uE);cbv;(try dsimp only [nc] at *))))))
  any_goals ((with_reducible refine nO ?_);exact hc)
  any_goals ((with_reducible refine nO ?_);exact hx)
  all_goals (try (exact absurd ‹5≤(j:Int)› (by omega)))
  ((all_goals (try (with_reducible ((first|refine rE ?_|refine nE ?_);cbv;(try dsimp only [nc] at *);(try simp only [wl,nc]);(repeat' apply And.intro);all_goals (try exact wZ)))));(all_goals (try ((with_reducible rw [aC]);(try simp only [wl,nc]);(repeat' (with_reducible apply And.intro));(all_goals (try exact cZ))))))
  refine dE (j+1) ⟨by omega,by omega⟩ ?_
  (focus (cbv;(try dsimp only [nc] at *);(try simp only [wl,nc]);(repeat' (with_reducible apply And.intro));all_goals (try exact wZ)))
  exact w64n (by omega)
 ·obtain rfl:j=k:=by omega
  obtain ⟨h1,h2,h3,h4,h5⟩|⟨_,hr⟩:=hr
  ·have hc:=keyT j h2
   apply AWp.wk tF mF [(4,[(10,.bool fun _=>true,[])])] kp107 ?_
   (any_goals ((with_reducible refine wI ?_);cbv;(try dsimp only [nc] at *);(repeat' (with_reducible first|exact ‹False›.elim|exact nZ|refine oC ?_ ?_|refine VC.mk rfl ?_ ?_ ?_|(apply Ca.mk<;>intro _)|refine cV (fun _=>?_) fun _=>?_|((first|apply xE|apply uE);cbv;(try dsimp only [nc] at *))))))
   any_goals ((with_reducible refine nO ?_);exact hc)
   any_goals ((with_reducible refine nO ?_);exact hx)
   all_goals (try (exact absurd ‹5≤(j:Int)› (by omega)))
   ((all_goals (try (with_reducible ((first|refine rE ?_|refine nE ?_);cbv;(try dsimp only [nc] at *);(try simp only [wl,nc]);(repeat' apply And.intro);all_goals (try exact wZ)))));(all_goals (try ((with_reducible rw [aC]);(try simp only [wl,nc]);(repeat' (with_reducible apply And.intro));(all_goals (try exact cZ))))))
   all_goals first
    | exact h3.symm
    | (rw [h5];rfl)
    | (rw [h4]
       show IntKind.i64.wrap ((i:Int)+((aaQ j).size:Int))=_
       rw [akQ h1,w64 (by omega) (by omega)];rfl)
  ·omega
def Tok.setN (t:Tok) (x:ByteArray) (n sc:Int):Tok:=mk 2 t.line t.col x t.value n sc t.joined
theorem amw (s:ByteArray) (i:Nat) (w e:Int) (t:Tok) (hi:i≤1073741824) (hl:digB (byt s i)=false):Af Tryz.prog 105 [.ptr 1000 0,.ptr 1001 0] [(1000,boxC s i w e),(1001,boxK t)] (.bool fun _=>false) [(1000,boxC s i w e),(1001,boxK t)]:=by
 have h0:=aaH s i 0 w e hi (by omega)
 have h2:=adx (byt s i)
 rw [hl] at h2
 (apply Af.of tF mF [.tmp 4] kp105 [(1,[(1,.int .u8 fun _=>byt s i,[(1000,boxC s i w e)]),(2,.bool fun _=>false,[])])] Tryz.func105 (fun _=>?_);(any_goals ((with_reducible refine wI ?_);cbv;(try dsimp only [nc] at *);(repeat' (with_reducible first|exact ‹False›.elim|exact nZ|refine oC ?_ ?_|refine VC.mk rfl ?_ ?_ ?_|(apply Ca.mk<;>intro _)|refine cV (fun _=>?_) fun _=>?_|((first|apply xE|apply uE);cbv;(try dsimp only [nc] at *)))))))
 any_goals ((with_reducible refine nO ?_);exact h0)
 any_goals ((with_reducible refine nO ?_);exact h2)
 (all_goals exact eZ)
theorem amv (s:ByteArray) (i:Nat) (w e:Int) (t:Tok) (hs:s.size≤1073741824) (hi:i<s.size) (hl:digB (byt s i)=true) (hd:digB (byt s (i+1))=false) (h46:byt s (i+1)≠46) (h100:byt s (i+1)≠100) (n sc:Int)
 (hp:Af Tryz.prog 167 [.str fun _=>s.extract i (i+1)] [] (.tup [.agg [.int .i64 fun _=>n,.int .i64 fun _=>sc],.int .i64 fun _=>0]) []) :
 Af Tryz.prog 105 [.ptr 1000 0,.ptr 1001 0] [(1000,boxC s i w e),(1001,boxK t)] (.bool fun _=>true) [(1000,boxC s (i+1) w e),(1001,boxK (t.setN (s.extract i (i+1)) n sc))]:=by
 have h0:=aaH s i 0 w e (by omega) (by omega)
 have h2:=adx (byt s i)
 rw [hl] at h2
 have h3:=ajp s i w e hs (by omega) 166 digB adx
 have hW:aag s digB i=i+1:=by
  rw [abw ⟨hi,hl⟩,abv (by rw [hd];simp)]
 rw [hW] at h3
 have h5:=aaH s (i+1) 0 w e (by omega) (by omega)
 have h6:=aaH s (i+1) 1 w e (by omega) (by omega)
 obtain ⟨c2,hc2⟩:∃ c,c=byt s (i+1+1):=⟨_,rfl⟩
 rw [← hc2] at h6
 obtain ⟨c1,hc1⟩:∃ c,c=byt s (i+1+0):=⟨_,rfl⟩
 rw [← hc1] at h5
 have hc1':c1=byt s (i+1):=hc1
 rw [← hc1'] at h46 h100
 have h7:=adx c2
 have h8:=amg c2
 generalize digB c2=b2 at h7
 generalize adM c2=b3 at h8
 have hx:(s.extract i (i+1)).size=1:=by rw [ByteArray.size_extract];omega
 generalize s.extract i (i+1)=x at h3 hx hp ⊢
 obtain ⟨i1,hi1⟩:∃ k,k=i+1:=⟨_,rfl⟩
 rw [← hi1] at h3 h5 h6 ⊢
 (apply Af.of tF mF [.tmp 4] kp105 [(1,[(1,.int .u8 fun _=>byt s i,[(1000,boxC s i w e)]),(2,.bool fun _=>true,[])]),
   (4,[(1,.str fun _=>x,[(1000,boxC s i1 w e)])]),(6,[(1,.int .u8 fun _=>c1,[(1000,boxC s i1 w e)]),(5,.int .u8 fun _=>c2,[(1000,boxC s i1 w e)]),(6,.bool fun _=>b2,[])]),
   (10,[(5,.int .u8 fun _=>c1,[(1000,boxC s i1 w e)]),(10,.int .u8 fun _=>c2,[(1000,boxC s i1 w e)]),(11,.bool fun _=>b3,[])]),
   (16,[(1,.tup [.agg [.int .i64 fun _=>n,.int .i64 fun _=>sc],.int .i64 fun _=>0],[])])] Tryz.func105 (fun _=>?_);(any_goals ((with_reducible refine wI ?_);cbv;(try dsimp only [nc] at *);(repeat' (with_reducible first|exact ‹False›.elim|exact nZ|refine oC ?_ ?_|refine VC.mk rfl ?_ ?_ ?_|(apply Ca.mk<;>intro _)|refine cV (fun _=>?_) fun _=>?_|((first|apply xE|apply uE);cbv;(try dsimp only [nc] at *)))))))
 all_goals (try simp only [ite_self])
 any_goals ((with_reducible first|refine nO ?_|refine sO (fun _=>?_));exact h0)
 any_goals ((with_reducible first|refine nO ?_|refine sO (fun _=>?_));exact h2)
 any_goals ((with_reducible first|refine nO ?_|refine sO (fun _=>?_));exact h3)
 any_goals ((with_reducible first|refine nO ?_|refine sO (fun _=>?_));exact h5)
 any_goals ((with_reducible first|refine nO ?_|refine sO (fun _=>?_));exact h6)
 any_goals ((with_reducible first|refine nO ?_|refine sO (fun _=>?_));exact h7)
 any_goals ((with_reducible first|refine nO ?_|refine sO (fun _=>?_));exact h8)
 any_goals ((with_reducible first|refine nO ?_|refine sO (fun _=>?_));exact hp)
 ((all_goals (try (with_reducible ((first|refine rE ?_|refine nE ?_);cbv;(try dsimp only [nc] at *);(try simp only [wl,nc]);(repeat' apply And.intro);all_goals (try exact wZ)))));(all_goals (try ((with_reducible rw [aC]);(try simp only [wl,nc]);(repeat' (with_reducible apply And.intro));(all_goals (try exact cZ))))))
 all_goals first
  | rfl
  | exact absurd ‹c1=46∧b2=true›.1 h46
  | exact absurd ‹(True∧c1=100)∧b3=false›.1.2 h100
  | exact absurd trivial ‹¬True›
  | (rename_i h;have:=h.1;omega)
def Meth (f:FuncId) (s:ByteArray) (i:Nat) (w e:Int) (t:Tok) (r:Bool) (i':Nat) (w' e':Int) (t':Tok):Prop :=
 Af Tryz.prog f [.ptr 1000 0,.ptr 1001 0] [(1000,boxC s i w e),(1001,boxK t)] (.bool fun _=>r) [(1000,boxC s i' w' e'),(1001,boxK t')]
theorem ajw {f:FuncId} {s:ByteArray} {i i':Nat} {w e w' e':Int} {t t':Tok} {r:Bool} (h:Meth f s i w e t r i' w' e' t') :
 Af Tryz.prog 111 [.bptr f 1000,.ptr 1001 0] [(1000,boxC s i w e),(1001,boxK t)] (.bool fun _=>r) [(1000,boxC s i' w' e'),(1001,boxK t')]:=by
 unfold Meth at h
 (apply Af.of tF mF [.tmp 3] kp111 [(1,[(1,.bool fun _=>r,[(1000,boxC s i' w' e'),(1001,boxK t')])])] Tryz.func111 (fun _=>?_);(any_goals ((with_reducible refine wI ?_);cbv;(try dsimp only [nc] at *);(repeat' (with_reducible first|exact ‹False›.elim|exact nZ|refine oC ?_ ?_|refine VC.mk rfl ?_ ?_ ?_|(apply Ca.mk<;>intro _)|refine cV (fun _=>?_) fun _=>?_|((first|apply xE|apply uE);cbv;(try dsimp only [nc] at *)))))))
 any_goals ((with_reducible refine nO ?_);exact h)
 ((all_goals (try (with_reducible ((first|refine rE ?_|refine nE ?_);cbv;(try dsimp only [nc] at *);(try simp only [wl,nc]);(repeat' apply And.intro);all_goals (try exact wZ)))));(all_goals (try ((with_reducible rw [aC]);(try simp only [wl,nc]);(repeat' (with_reducible apply And.intro));(all_goals (try exact cZ))))))
 all_goals trace_state
end Go.Ai
