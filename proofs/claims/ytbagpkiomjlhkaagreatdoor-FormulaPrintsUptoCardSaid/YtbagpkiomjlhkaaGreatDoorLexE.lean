/- Chapter 15: the first of the scanner's ways that takes a token. -/
import Derived.Test.YtbagpkiomjlhkaaGreatDoorLexD
import Derived.Test.YtbagpkiomjlhkaaGreatDoorV
set_option linter.all false
namespace Go.Ai
open Go Go.Proofs
set_option maxRecDepth 100000
set_option maxHeartbeats 4000000
def ac6:List AV:=[.bptr 103 1001000000,.bptr 104 1001000000,.bptr 105 1001000000,.bptr 106 1001000000,.bptr 107 1001000000]
theorem ways_ok (s:ByteArray) (i i':Nat) (w e w' e':Int) (t t':Tok) (k:Nat) (hk:k≤5) (hb:∀ j,j<k→Meth (103+j) s i w e t false i w e t)
 (h:(k<5∧Meth (103+k) s i w e t true i' w' e' t')∨(k=5∧i'=i∧w'=w∧e'=e∧t'=t)) (r:Int) (hr:r=if k<5 then (k:Int) else -1) :
 Af Tryz.prog 172 [.bref 1000 5,.func 111 [.ptr 1001001000 0]] [(1000,.box ac6),(1001001000,boxK t),(1001000000,boxC s i w e)] (.int .i64 fun _=>r) [(1000,.box ac6),(1001001000,boxK t'),(1001000000,boxC s i' w' e')]:=by
 (apply Af.of tF mF [.tmp 4] aee [] Tryz.func172 (fun _=>?_);(any_goals ((with_reducible refine wI ?_);cbv;(try dsimp only [nc] at *);(repeat' (with_reducible first|exact ‹False›.elim|exact nZ|refine oC ?_ ?_|refine VC.mk rfl ?_ ?_ ?_|(apply Ca.mk<;>intro _)|refine cV (fun _=>?_) fun _=>?_|((first|apply xE|apply uE);cbv;(try dsimp only [nc] at *)))))))
 refine .loop (fun j:Nat=>⟨19,[(8,.int .i64 fun _=>(j:Int)),(7,.int .i64 fun _=>5),(0,.bref 1000 5),(1,.func 111 [.ptr 1001001000 0])],[(1000,.box ac6),(1001001000,boxK t),(1001000000,boxC s i w e)]⟩)
  (fun j=>j≤k) (fun j=>5 - j) 0 (Nat.zero_le _) ?_ fun j E hj=>?_
 ·(exact aZ)
 by_cases q:j=5
 ·subst q
  have hk5:k=5:=by omega
  obtain ⟨h1,_⟩|⟨_,rfl,rfl,rfl,rfl⟩:=h
  ·omega
  clear hb
  subst hk5
  rw [if_neg (by decide)] at hr
  subst hr
  apply AWp.wk tF mF [] aee ?_
  (any_goals ((with_reducible refine wI ?_);cbv;(try dsimp only [nc] at *);(repeat' (with_reducible first|exact ‹False›.elim|exact nZ|refine oC ?_ ?_|refine VC.mk rfl ?_ ?_ ?_|(apply Ca.mk<;>intro _)|refine cV (fun _=>?_) fun _=>?_|((first|apply xE|apply uE);cbv;(try dsimp only [nc] at *))))))
  all_goals (try (exact absurd ‹((5:Nat):Int)<5› (by decide)))
  (all_goals exact eZ)
 by_cases q1:j<k
 ·have hf:=ajw (hb j q1)
  have hj5:j<5:=by omega
  clear hb h hj hr q
  rcases j with _|_|_|_|_|j
  ·show AWp _ _ _ _ _ (SS.st ⟨19,[(8,.int .i64 fun _=>(0:Int)),(7,.int .i64 fun _=>5),(0,.bref 1000 5),(1,.func 111 [.ptr 1001001000 0])],[(1000,.box ac6),(1001001000,boxK t),(1001000000,boxC s i w e)]⟩)
   apply AWp.wk tF mF [(4,[(5,.bool fun _=>false,[(1000,boxC s i w e),(1001,boxK t)])])] aee ?_
   (any_goals ((with_reducible refine wI ?_);cbv;(try dsimp only [nc] at *);(repeat' (with_reducible first|exact ‹False›.elim|exact nZ|refine oC ?_ ?_|refine VC.mk rfl ?_ ?_ ?_|(apply Ca.mk<;>intro _)|refine cV (fun _=>?_) fun _=>?_|((first|apply xE|apply uE);cbv;(try dsimp only [nc] at *))))))
   any_goals ((with_reducible refine nO ?_);exact hf)
   all_goals (try (exact absurd ‹(5:Int)≤0› (by decide)))
   ((all_goals (try (with_reducible ((first|refine rE ?_|refine nE ?_);cbv;(try dsimp only [nc] at *);(try simp only [wl,nc]);(repeat' apply And.intro);all_goals (try exact wZ)))));(all_goals (try ((with_reducible rw [aC]);(try simp only [wl,nc]);(repeat' (with_reducible apply And.intro));(all_goals (try exact cZ))))))
   refine dE 1 ⟨q1,by decide⟩ ?_
   (exact aZ)
  ·show AWp _ _ _ _ _ (SS.st ⟨19,[(8,.int .i64 fun _=>(1:Int)),(7,.int .i64 fun _=>5),(0,.bref 1000 5),(1,.func 111 [.ptr 1001001000 0])],[(1000,.box ac6),(1001001000,boxK t),(1001000000,boxC s i w e)]⟩)
   apply AWp.wk tF mF [(4,[(5,.bool fun _=>false,[(1000,boxC s i w e),(1001,boxK t)])])] aee ?_
   (any_goals ((with_reducible refine wI ?_);cbv;(try dsimp only [nc] at *);(repeat' (with_reducible first|exact ‹False›.elim|exact nZ|refine oC ?_ ?_|refine VC.mk rfl ?_ ?_ ?_|(apply Ca.mk<;>intro _)|refine cV (fun _=>?_) fun _=>?_|((first|apply xE|apply uE);cbv;(try dsimp only [nc] at *))))))
   any_goals ((with_reducible refine nO ?_);exact hf)
   all_goals (try (exact absurd ‹(5:Int)≤1› (by decide)))
   ((all_goals (try (with_reducible ((first|refine rE ?_|refine nE ?_);cbv;(try dsimp only [nc] at *);(try simp only [wl,nc]);(repeat' apply And.intro);all_goals (try exact wZ)))));(all_goals (try ((with_reducible rw [aC]);(try simp only [wl,nc]);(repeat' (with_reducible apply And.intro));(all_goals (try exact cZ))))))
   refine dE 2 ⟨q1,by decide⟩ ?_
   (exact aZ)
  ·show AWp _ _ _ _ _ (SS.st ⟨19,[(8,.int .i64 fun _=>(2:Int)),(7,.int .i64 fun _=>5),(0,.bref 1000 5),(1,.func 111 [.ptr 1001001000 0])],[(1000,.box ac6),(1001001000,boxK t),(1001000000,boxC s i w e)]⟩)
   apply AWp.wk tF mF [(4,[(5,.bool fun _=>false,[(1000,boxC s i w e),(1001,boxK t)])])] aee ?_
   (any_goals ((with_reducible refine wI ?_);cbv;(try dsimp only [nc] at *);(repeat' (with_reducible first|exact ‹False›.elim|exact nZ|refine oC ?_ ?_|refine VC.mk rfl ?_ ?_ ?_|(apply Ca.mk<;>intro _)|refine cV (fun _=>?_) fun _=>?_|((first|apply xE|apply uE);cbv;(try dsimp only [nc] at *))))))
   any_goals ((with_reducible refine nO ?_);exact hf)
   all_goals (try (exact absurd ‹(5:Int)≤2› (by decide)))
   ((all_goals (try (with_reducible ((first|refine rE ?_|refine nE ?_);cbv;(try dsimp only [nc] at *);(try simp only [wl,nc]);(repeat' apply And.intro);all_goals (try exact wZ)))));(all_goals (try ((with_reducible rw [aC]);(try simp only [wl,nc]);(repeat' (with_reducible apply And.intro));(all_goals (try exact cZ))))))
   refine dE 3 ⟨q1,by decide⟩ ?_
   (exact aZ)
  ·show AWp _ _ _ _ _ (SS.st ⟨19,[(8,.int .i64 fun _=>(3:Int)),(7,.int .i64 fun _=>5),(0,.bref 1000 5),(1,.func 111 [.ptr 1001001000 0])],[(1000,.box ac6),(1001001000,boxK t),(1001000000,boxC s i w e)]⟩)
   apply AWp.wk tF mF [(4,[(5,.bool fun _=>false,[(1000,boxC s i w e),(1001,boxK t)])])] aee ?_
   (any_goals ((with_reducible refine wI ?_);cbv;(try dsimp only [nc] at *);(repeat' (with_reducible first|exact ‹False›.elim|exact nZ|refine oC ?_ ?_|refine VC.mk rfl ?_ ?_ ?_|(apply Ca.mk<;>intro _)|refine cV (fun _=>?_) fun _=>?_|((first|apply xE|apply uE);cbv;(try dsimp only [nc] at *))))))
   any_goals ((with_reducible refine nO ?_);exact hf)
   all_goals (try (exact absurd ‹(5:Int)≤3› (by decide)))
   ((all_goals (try (with_reducible ((first|refine rE ?_|refine nE ?_);cbv;(try dsimp only [nc] at *);(try simp only [wl,nc]);(repeat' apply And.intro);all_goals (try exact wZ)))));(all_goals (try ((with_reducible rw [aC]);(try simp only [wl,nc]);(repeat' (with_reducible apply And.intro));(all_goals (try exact cZ))))))
   refine dE 4 ⟨q1,by decide⟩ ?_
   (exact aZ)
  ·show AWp _ _ _ _ _ (SS.st ⟨19,[(8,.int .i64 fun _=>(4:Int)),(7,.int .i64 fun _=>5),(0,.bref 1000 5),(1,.func 111 [.ptr 1001001000 0])],[(1000,.box ac6),(1001001000,boxK t),(1001000000,boxC s i w e)]⟩)
   apply AWp.wk tF mF [(4,[(5,.bool fun _=>false,[(1000,boxC s i w e),(1001,boxK t)])])] aee ?_
   (any_goals ((with_reducible refine wI ?_);cbv;(try dsimp only [nc] at *);(repeat' (with_reducible first|exact ‹False›.elim|exact nZ|refine oC ?_ ?_|refine VC.mk rfl ?_ ?_ ?_|(apply Ca.mk<;>intro _)|refine cV (fun _=>?_) fun _=>?_|((first|apply xE|apply uE);cbv;(try dsimp only [nc] at *))))))
   any_goals ((with_reducible refine nO ?_);exact hf)
   all_goals (try (exact absurd ‹(5:Int)≤4› (by decide)))
   ((all_goals (try (with_reducible ((first|refine rE ?_|refine nE ?_);cbv;(try dsimp only [nc] at *);(try simp only [wl,nc]);(repeat' apply And.intro);all_goals (try exact wZ)))));(all_goals (try ((with_reducible rw [aC]);(try simp only [wl,nc]);(repeat' (with_reducible apply And.intro));(all_goals (try exact cZ))))))
   refine dE 5 ⟨q1,by decide⟩ ?_
   (exact aZ)
  ·omega
 ·obtain rfl:j=k:=by omega
  obtain ⟨h1,h2⟩|⟨h1,_⟩:=h
  ·have hf:=ajw h2
   rw [if_pos h1] at hr
   clear hb hj q h2 q1 hk
   subst hr
   rcases j with _|_|_|_|_|j
   ·show AWp _ _ _ _ _ (SS.st ⟨19,[(8,.int .i64 fun _=>(0:Int)),(7,.int .i64 fun _=>5),(0,.bref 1000 5),(1,.func 111 [.ptr 1001001000 0])],[(1000,.box ac6),(1001001000,boxK t),(1001000000,boxC s i w e)]⟩)
    apply AWp.wk tF mF [(4,[(5,.bool fun _=>true,[(1000,boxC s i' w' e'),(1001,boxK t')])])] aee ?_
    (any_goals ((with_reducible refine wI ?_);cbv;(try dsimp only [nc] at *);(repeat' (with_reducible first|exact ‹False›.elim|exact nZ|refine oC ?_ ?_|refine VC.mk rfl ?_ ?_ ?_|(apply Ca.mk<;>intro _)|refine cV (fun _=>?_) fun _=>?_|((first|apply xE|apply uE);cbv;(try dsimp only [nc] at *))))))
    any_goals ((with_reducible refine nO ?_);exact hf)
    all_goals (try (exact absurd ‹(5:Int)≤0› (by decide)))
    (all_goals exact eZ)
   ·show AWp _ _ _ _ _ (SS.st ⟨19,[(8,.int .i64 fun _=>(1:Int)),(7,.int .i64 fun _=>5),(0,.bref 1000 5),(1,.func 111 [.ptr 1001001000 0])],[(1000,.box ac6),(1001001000,boxK t),(1001000000,boxC s i w e)]⟩)
    apply AWp.wk tF mF [(4,[(5,.bool fun _=>true,[(1000,boxC s i' w' e'),(1001,boxK t')])])] aee ?_
    (any_goals ((with_reducible refine wI ?_);cbv;(try dsimp only [nc] at *);(repeat' (with_reducible first|exact ‹False›.elim|exact nZ|refine oC ?_ ?_|refine VC.mk rfl ?_ ?_ ?_|(apply Ca.mk<;>intro _)|refine cV (fun _=>?_) fun _=>?_|((first|apply xE|apply uE);cbv;(try dsimp only [nc] at *))))))
    any_goals ((with_reducible refine nO ?_);exact hf)
    all_goals (try (exact absurd ‹(5:Int)≤1› (by decide)))
    (all_goals exact eZ)
   ·show AWp _ _ _ _ _ (SS.st ⟨19,[(8,.int .i64 fun _=>(2:Int)),(7,.int .i64 fun _=>5),(0,.bref 1000 5),(1,.func 111 [.ptr 1001001000 0])],[(1000,.box ac6),(1001001000,boxK t),(1001000000,boxC s i w e)]⟩)
    apply AWp.wk tF mF [(4,[(5,.bool fun _=>true,[(1000,boxC s i' w' e'),(1001,boxK t')])])] aee ?_
    (any_goals ((with_reducible refine wI ?_);cbv;(try dsimp only [nc] at *);(repeat' (with_reducible first|exact ‹False›.elim|exact nZ|refine oC ?_ ?_|refine VC.mk rfl ?_ ?_ ?_|(apply Ca.mk<;>intro _)|refine cV (fun _=>?_) fun _=>?_|((first|apply xE|apply uE);cbv;(try dsimp only [nc] at *))))))
    any_goals ((with_reducible refine nO ?_);exact hf)
    all_goals (try (exact absurd ‹(5:Int)≤2› (by decide)))
    (all_goals exact eZ)
   ·show AWp _ _ _ _ _ (SS.st ⟨19,[(8,.int .i64 fun _=>(3:Int)),(7,.int .i64 fun _=>5),(0,.bref 1000 5),(1,.func 111 [.ptr 1001001000 0])],[(1000,.box ac6),(1001001000,boxK t),(1001000000,boxC s i w e)]⟩)
    apply AWp.wk tF mF [(4,[(5,.bool fun _=>true,[(1000,boxC s i' w' e'),(1001,boxK t')])])] aee ?_
    (any_goals ((with_reducible refine wI ?_);cbv;(try dsimp only [nc] at *);(repeat' (with_reducible first|exact ‹False›.elim|exact nZ|refine oC ?_ ?_|refine VC.mk rfl ?_ ?_ ?_|(apply Ca.mk<;>intro _)|refine cV (fun _=>?_) fun _=>?_|((first|apply xE|apply uE);cbv;(try dsimp only [nc] at *))))))
    any_goals ((with_reducible refine nO ?_);exact hf)
    all_goals (try (exact absurd ‹(5:Int)≤3› (by decide)))
    (all_goals exact eZ)
   ·show AWp _ _ _ _ _ (SS.st ⟨19,[(8,.int .i64 fun _=>(4:Int)),(7,.int .i64 fun _=>5),(0,.bref 1000 5),(1,.func 111 [.ptr 1001001000 0])],[(1000,.box ac6),(1001001000,boxK t),(1001000000,boxC s i w e)]⟩)
    apply AWp.wk tF mF [(4,[(5,.bool fun _=>true,[(1000,boxC s i' w' e'),(1001,boxK t')])])] aee ?_
    (any_goals ((with_reducible refine wI ?_);cbv;(try dsimp only [nc] at *);(repeat' (with_reducible first|exact ‹False›.elim|exact nZ|refine oC ?_ ?_|refine VC.mk rfl ?_ ?_ ?_|(apply Ca.mk<;>intro _)|refine cV (fun _=>?_) fun _=>?_|((first|apply xE|apply uE);cbv;(try dsimp only [nc] at *))))))
    any_goals ((with_reducible refine nO ?_);exact hf)
    all_goals (try (exact absurd ‹(5:Int)≤4› (by decide)))
    (all_goals exact eZ)
   ·omega
  ·omega
theorem any_ok (s:ByteArray) (i i':Nat) (w e w' e':Int) (t t':Tok) (k:Nat) (hk:k≤5) (hb:∀ j,j<k→Meth (103+j) s i w e t false i w e t)
 (h:(k<5∧Meth (103+k) s i w e t true i' w' e' t')∨(k=5∧i'=i∧w'=w∧e'=e∧t'=t)) (r:Bool) (hr:r=decide (k<5)) :
 Af Tryz.prog 110 [.bref 1000 5,.func 111 [.ptr 1001001000 0]] [(1000,.box ac6),(1001001000,boxK t),(1001000000,boxC s i w e)] (.bool fun _=>r) [(1000,.box ac6),(1001001000,boxK t'),(1001000000,boxC s i' w' e')]:=by
 have h1:=ways_ok s i i' w e w' e' t t' k hk hb h _ rfl
 obtain ⟨n,hn⟩:∃ n:Int,n=if k<5 then (k:Int) else -1:=⟨_,rfl⟩
 rw [← hn] at h1
 have hb:r=decide (0≤n):=by
  rw [hr,hn]
  split
  ·rename_i q;simp [q]
  ·rename_i q;simp [q]
 rw [hb]
 (apply Af.of tF mF [.tmp 4] kp110 [(1,[(2,.int .i64 fun _=>n,[(1000,.box ac6),(1001001000,boxK t'),(1001000000,boxC s i' w' e')])])] Tryz.func110 (fun _=>?_);(any_goals ((with_reducible refine wI ?_);cbv;(try dsimp only [nc] at *);(repeat' (with_reducible first|exact ‹False›.elim|exact nZ|refine oC ?_ ?_|refine VC.mk rfl ?_ ?_ ?_|(apply Ca.mk<;>intro _)|refine cV (fun _=>?_) fun _=>?_|((first|apply xE|apply uE);cbv;(try dsimp only [nc] at *)))))))
 any_goals ((with_reducible refine nO ?_);exact h1)
 (all_goals exact eZ)
end Go.Ai

namespace Go.Ai
open Go Go.Proofs
set_option maxRecDepth 100000
set_option maxHeartbeats 1000000
theorem byt_u8 (s:ByteArray) (i:Nat):∃ b:UInt8,byt s i=b.toNat:=by
 rcases Nat.lt_or_ge i s.size with h|h
 ·obtain ⟨b,_,hb⟩:=adW h;exact ⟨b,hb⟩
 ·exact ⟨0,afa h⟩
theorem adn {s:ByteArray} {i:Nat} {a b:UInt8} (hi:i<s.size) (hb:b≠0):aaK (s.extract i s.size) ⟨#[a,b]⟩=(byt s i == (a.toNat:Int) && byt s (i+1) == (b.toNat:Int)):=by
 unfold aaK Lib.hasPrefix
 rw [ae8]
 obtain ⟨x,hx,hx2⟩:=adW hi
 rw [hx]
 have key:∀ u v:UInt8,(u == v)=(((v.toNat:Nat):Int) == (u.toNat:Int)):=fun u v=>by
  rw [Bool.eq_iff_iff]
  simp only [beq_iff_eq]
  exact ⟨fun h=>by rw [h],fun h=>UInt8.toNat_inj.1 (by omega)⟩
 rcases Nat.lt_or_ge (i+1) s.size with h|h
 ·obtain ⟨y,hy,hy2⟩:=adW h
  rw [hy,hx2,hy2]
  show (a == x && (b == y && true))=_
  rw [Bool.and_true,key a x,key b y]
 ·have hd:s.data.toList.drop (i+1)=[]:=List.drop_eq_nil_iff.2 (by rw [Array.length_toList];exact h)
  rw [hd,afa h,hx2]
  show (a == x && false)=_
  have:((0:Int) == (b.toNat:Int))=false:=by
   rw [beq_eq_false_iff_ne]
   intro h0
   exact hb (UInt8.toNat_inj.1 (by show b.toNat=0;omega))
  rw [this,Bool.and_false,Bool.and_false]
theorem akA (b:UInt8):(0≤idxB ones (b.toNat:Int))↔aiz (b.toNat:Int)=true:=by
 have key:((List.range 256).all fun n=>decide (0≤idxB ones (n:Int)) == aiz (n:Int))=true:=by kernel_rfl
 have:=List.all_eq_true.1 key b.toNat (List.mem_range.2 b.toNat_lt)
 rw [← eq_of_beq this]
 simp
theorem pairs_of {s:ByteArray} {i:Nat} (hi:i<s.size):(amj s i=false∧∀ j,j<5→aaK (s.extract i s.size) (aaQ j)=false) ∨
 (amj s i=true∧∃ k,k<5∧aaK (s.extract i s.size) (aaQ k)=true∧(∀ j,j<k→aaK (s.extract i s.size) (aaQ j)=false)∧aaQ k=s.extract i (i+2)):=by
 have h0:aaK (s.extract i s.size) (aaQ 0)=(byt s i == 45 && byt s (i+1) == 62):=adn (a:=45) (b:=62) hi (by decide)
 have h1:aaK (s.extract i s.size) (aaQ 1)=(byt s i == 33 && byt s (i+1) == 61):=adn (a:=33) (b:=61) hi (by decide)
 have h2:aaK (s.extract i s.size) (aaQ 2)=(byt s i == 60 && byt s (i+1) == 61):=adn (a:=60) (b:=61) hi (by decide)
 have h3:aaK (s.extract i s.size) (aaQ 3)=(byt s i == 62 && byt s (i+1) == 61):=adn (a:=62) (b:=61) hi (by decide)
 have h4:aaK (s.extract i s.size) (aaQ 4)=(byt s i == 46 && byt s (i+1) == 46):=adn (a:=46) (b:=46) hi (by decide)
 have hp:amj s i=(aaK (s.extract i s.size) (aaQ 0) || aaK (s.extract i s.size) (aaQ 1) || aaK (s.extract i s.size) (aaQ 2) || aaK (s.extract i s.size) (aaQ 3) || aaK (s.extract i s.size) (aaQ 4)):=by
  rw [h0,h1,h2,h3,h4];rfl
 have hx:∀ a b:UInt8,(byt s i == (a.toNat:Int) && byt s (i+1) == (b.toNat:Int))=true→b≠0→(⟨#[a,b]⟩:ByteArray)=s.extract i (i+2):=by
  intro a b h hb
  simp only [Bool.and_eq_true,beq_iff_eq] at h
  obtain ⟨h1,h2⟩:=h
  have hlt:i+1<s.size:=by
   rcases Nat.lt_or_ge (i+1) s.size with h|h
   ·exact h
   ·rw [afa h] at h2
    exact absurd (UInt8.toNat_inj.1 (show b.toNat=0 by omega)) hb
  obtain ⟨x,hx,hx2⟩:=adW hi
  obtain ⟨y,hy,hy2⟩:=adW hlt
  have ex:x=a:=UInt8.toNat_inj.1 (by omega)
  have ey:y=b:=UInt8.toNat_inj.1 (by omega)
  apply ByteArray.ext
  apply Array.toList_inj.1
  rw [ByteArray.data_extract,Array.toList_extract]
  simp only [List.extract]
  rw [hx,hy,ex,ey,show i+2 - i=2 by omega]
  rfl
 have kk:∀ k,k<5→aaK (s.extract i s.size) (aaQ k)=true→aaQ k=s.extract i (i+2):=by
  intro k hk hp
  rcases k with _|_|_|_|_|k
  ·exact hx 45 62 (h0 ▸ hp) (by decide)
  ·exact hx 33 61 (h1 ▸ hp) (by decide)
  ·exact hx 60 61 (h2 ▸ hp) (by decide)
  ·exact hx 62 61 (h3 ▸ hp) (by decide)
  ·exact hx 46 46 (h4 ▸ hp) (by decide)
  ·omega
 clear h0 h1 h2 h3 h4 hx
 rw [hp]
 by_cases g:∃ k,k<5∧aaK (s.extract i s.size) (aaQ k)=true
 ·refine .inr ?_
  have least:∀ n,(∃ k,k<n∧aaK (s.extract i s.size) (aaQ k)=true)→∃ k,k<n∧aaK (s.extract i s.size) (aaQ k)=true∧∀ j,j<k→aaK (s.extract i s.size) (aaQ j)=false:=by
   intro n
   induction n with
   | zero=>rintro ⟨k,hk,_⟩;omega
   | succ n ih =>
    rintro ⟨k,hk,hp⟩
    by_cases g:∃ k,k<n∧aaK (s.extract i s.size) (aaQ k)=true
    ·obtain ⟨k,a,b,c⟩:=ih g;exact ⟨k,by omega,b,c⟩
    ·have hkn:k=n:=by
      rcases Nat.lt_or_ge k n with h|h
      ·exact absurd ⟨k,h,hp⟩ g
      ·omega
     subst hkn
     refine ⟨k,by omega,hp,fun j hj=>?_⟩
     cases hq:aaK (s.extract i s.size) (aaQ j) with
     | false=>rfl
     | true=>exact absurd ⟨j,hj,hq⟩ g
  obtain ⟨k,a,b,c⟩:=least 5 g
  refine ⟨?_,k,a,b,c,kk k a b⟩
  rcases k with _|_|_|_|_|k
  ·simp [b]
  ·simp [b]
  ·simp [b]
  ·simp [b]
  ·simp [b]
  ·omega
 ·have f:∀ j,j<5→aaK (s.extract i s.size) (aaQ j)=false:=fun j hj=>by
   cases hq:aaK (s.extract i s.size) (aaQ j) with
   | false=>rfl
   | true=>exact absurd ⟨j,hj,hq⟩ g
  refine .inl ⟨?_,f⟩
  rw [f 0 (by omega),f 1 (by omega),f 2 (by omega),f 3 (by omega),f 4 (by omega)]
  rfl
structure PlainT (dec:ByteArray→Int×Int×Int) (s:ByteArray):Prop where
 size:s.size≤65536
 quote:∀ i,byt s i≠34
 one:∀ i,digB (byt s i)=true→digB (byt s (i+1))=false∧byt s (i+1)≠46∧byt s (i+1)≠100
 dec:∀ i,digB (byt s i)=true→Af Tryz.prog 167 [.str fun _=>s.extract i (i+1)] [] (.tup [.agg [.int .i64 fun _=>(dec (s.extract i (i+1))).1,.int .i64 fun _=>(dec (s.extract i (i+1))).2.1],.int .i64 fun _=>0]) []∧(dec (s.extract i (i+1))).2.2=0
theorem way_tok {dec:ByteArray→Int×Int×Int} {s:ByteArray} (hp:PlainT dec s) {i:Nat} (hi:i<s.size) (l c w:Int) (j:Bool) {kd a sc:Int} {x:ByteArray} {i':Nat} (h:tokV dec s i=some (kd,x,a,sc,i',0)) :
 Af Tryz.prog 110 [.bref 1000 5,.func 111 [.ptr 1001001000 0]] [(1000,.box ac6),(1001001000,boxK (.mk 0 l c ⟨#[]⟩ ⟨#[]⟩ 0 0 j)),(1001000000,boxC s i w 0)] (.bool fun _=>true)
  [(1000,.box ac6),(1001001000,boxK (.mk kd l c x ⟨#[]⟩ a sc j)),(1001000000,boxC s i' w 0)]:=by
 obtain ⟨hs,hq,h1,hd⟩:=hp
 have m0:∀ t,Meth 103 s i w 0 t false i w 0 t:=fun t=>bytes_no s i w 0 t (by omega) (fun q=>hq _ q.2)
 unfold tokV at h
 split at h
 ·rename_i hl
  simp only [Option.some.injEq,Prod.mk.injEq] at h
  obtain ⟨rfl,rfl,rfl,rfl,rfl,he⟩:=h
  have hlen:¬ 64<aag s adM i - i:=fun q=>by rw [if_pos q] at he;cases he
  have m1:=word_ok s i w 0 (.mk 0 l c ⟨#[]⟩ ⟨#[]⟩ 0 0 j) (by omega) (by omega) hl (hq _) _ rfl
  rw [if_neg (fun q=>hlen q.1),if_neg (fun q=>hlen q.1)] at m1
  refine any_ok s i _ w 0 w 0 _ _ 1 (by decide) (fun j hj=>?_) (.inl ⟨by decide,m1⟩) true rfl
  obtain rfl:j=0:=by omega
  exact m0 _
 rename_i hl
 have hl:letB (byt s i)=false:=by simpa using hl
 have m1:∀ t,Meth 104 s i w 0 t false i w 0 t:=fun t=>word_no s i w 0 t (by omega) hl (hq _)
 split at h
 ·rename_i hdg
  obtain ⟨g1,g2,g3⟩:=h1 i hdg
  have hW:aag s digB i=i+1:=by
   rw [abw ⟨hi,hdg⟩,abv (by rw [g1];simp)]
  simp only [hW] at h
  rw [if_neg (by omega:¬ (1<i+1 - i∧byt s i=48)),if_neg (fun q:byt s (i+1)=46∧_=>g2 q.1),if_neg (fun q:i+1=i+1∧byt s (i+1)=100∧_=>g3 q.2.1)] at h
  simp only [Option.some.injEq,Prod.mk.injEq] at h
  obtain ⟨rfl,rfl,rfl,rfl,rfl,he⟩:=h
  have m2:=amv s i w 0 (.mk 0 l c ⟨#[]⟩ ⟨#[]⟩ 0 0 j) (by omega) hi hdg g1 g2 g3 _ _ (hd i hdg).1
  refine any_ok s i _ w 0 w 0 _ _ 2 (by decide) (fun j hj=>?_) (.inl ⟨by decide,m2⟩) true rfl
  rcases j with _|_|j
  ·exact m0 _
  ·exact m1 _
  ·omega
 rename_i hdg
 have hdg:digB (byt s i)=false:=by simpa using hdg
 have m2:∀ t,Meth 105 s i w 0 t false i w 0 t:=fun t=>amw s i w 0 t (by omega) hdg
 have m3:∀ t,Meth 106 s i w 0 t false i w 0 t:=fun t=>text_no s i w 0 t (by omega) (hq _)
 have four:∀ t j,j<4→Meth (103+j) s i w 0 t false i w 0 t:=fun t j hj=>by
  rcases j with _|_|_|_|j
  ·exact m0 _
  ·exact m1 _
  ·exact m2 _
  ·exact m3 _
  ·exact absurd hj (by simp)
 rcases pairs_of hi with ⟨p1,p2⟩|⟨p1,k,p2,p3,p4,p5⟩
 ·rw [if_neg (by rw [p1];simp)] at h
  split at h
  ·rename_i hsg
   simp only [Option.some.injEq,Prod.mk.injEq] at h
   obtain ⟨rfl,rfl,rfl,rfl,rfl,he⟩:=h
   obtain ⟨b,hbb⟩:=byt_u8 s i
   have m4:=ah5 s i w 0 (.mk 0 l c ⟨#[]⟩ ⟨#[]⟩ 0 0 j) (by omega) hi 5 (by decide) p2 true (i+1) _ (.inr ⟨rfl,.inr ⟨by rw [hbb];exact (akA b).2 (hbb ▸ hsg),rfl,rfl,rfl⟩⟩)
   exact any_ok s i _ w 0 w 0 _ _ 4 (by decide) (fun j hj=>four _ j hj) (.inl ⟨by decide,m4⟩) true rfl
  ·cases h
 ·rw [if_pos p1] at h
  simp only [Option.some.injEq,Prod.mk.injEq] at h
  obtain ⟨rfl,rfl,rfl,rfl,rfl,he⟩:=h
  have m4:=ah5 s i w 0 (.mk 0 l c ⟨#[]⟩ ⟨#[]⟩ 0 0 j) (by omega) hi k (by omega) p4 true (i+2) _ (.inl ⟨p2,p3,rfl,rfl,rfl⟩)
  rw [p5] at m4
  exact any_ok s i _ w 0 w 0 _ _ 4 (by decide) (fun j hj=>four _ j hj) (.inl ⟨by decide,m4⟩) true rfl
end Go.Ai
