/- The library's contracts at this dump, in plain words, as the kit's tool writes them. -/
import Derived.Shelf.Small.Strs
import Derived.Shelf.Strings.Prefix
import Derived.Ground.NamesProg
import Derived.Test.YtbagpkiomjlhkaaGreatDoorProg
import Derived.Test.YtbagpkiomjlhkaaGreatDoorLexB
import Derived.Test.YtbagpkiomjlhkaaGreatDoorFnD
import Derived.Test.YtbagpkiomjlhkaaGreatDoorEngC
set_option linter.all false
namespace Go.Proofs
open Go.Shelf
def Tryz.aiY:Go.Shelf.Ren:=⟨fun|137=>171|217=>225|266=>254|n=>n,fun|9=>9|5=>5|3=>3|n=>n,fun|n=>n⟩
theorem Tryz.lays137:Go.Proofs.Lays.n137 Tryz.prog Tryz.aiY:={
 mixed:=by kernel_rfl
 f137:=Tryz.func171.trans (congrArg some (by kernel_rfl))
 f217:=Tryz.func225.trans (congrArg some (by kernel_rfl))
 f266:=Tryz.func254.trans (congrArg some (by kernel_rfl))
 t3:=Tryz.underlying3
 a3:=Tryz.isAgg3
 z3:=Tryz.sizeOf3
 v3:=Tryz.zeroValue3
 t5:=Tryz.underlying5
 a5:=Tryz.isAgg5
 z5:=Tryz.sizeOf5
 v5:=Tryz.zeroValue5
 t9:=Tryz.underlying9
 a9:=Tryz.isAgg9
 z9:=Tryz.sizeOf9
 v9:=Tryz.zeroValue9 }
def Tryz.akT:Go.Shelf.Ren:=⟨fun|99=>143|206=>196|n=>n,fun|9=>9|4=>4|3=>3|n=>n,fun|n=>n⟩
theorem Tryz.lays99:Go.Proofs.Lays.n99 Tryz.prog Tryz.akT:={
 mixed:=by kernel_rfl
 f99:=Tryz.func143.trans (congrArg some (by kernel_rfl))
 f206:=Tryz.func196.trans (congrArg some (by kernel_rfl))
 t3:=Tryz.underlying3
 a3:=Tryz.isAgg3
 z3:=Tryz.sizeOf3
 v3:=Tryz.zeroValue3
 t4:=Tryz.underlying4
 a4:=Tryz.isAgg4
 z4:=Tryz.sizeOf4
 v4:=Tryz.zeroValue4
 t9:=Tryz.underlying9
 a9:=Tryz.isAgg9
 z9:=Tryz.sizeOf9
 v9:=Tryz.zeroValue9 }
end Go.Proofs

namespace Go.Ai
open Go Go.Proofs
set_option maxRecDepth 100000
set_option maxHeartbeats 4000000
def idxB (s:ByteArray) (c:Int):Int:=Lib.indexByte s.data.toList c.toNat.toUInt8
theorem aeb (s:ByteArray) (c:Int):Af Tryz.prog 171 [.str fun _=>s,.int .u8 fun _=>c] [] (.int .i64 fun _=>idxB s c) [] :=
 Af.pure (vals:=#[.string s,.int .u8 c]) Tryz.func171 rfl rfl fun w=>Any.strings_IndexByte Tryz.lays137 s c w
theorem ae8 (s:ByteArray) (i:Nat):(s.extract i s.size).data.toList=s.data.toList.drop i:=by
 rw [ByteArray.data_extract,Array.toList_extract]
 simp only [List.extract]
 exact List.take_of_length_le (by rw [List.length_drop,Array.length_toList];exact Nat.le_refl _)
theorem adW {s:ByteArray} {i:Nat} (h:i<s.size):∃ b:UInt8,s.data.toList.drop i=b :: s.data.toList.drop (i+1)∧byt s i=b.toNat:=by
 have h0:i<s.data.size:=h
 have h1:i<s.data.toList.length:=by rw [Array.length_toList];exact h0
 refine ⟨s.data.toList[i],List.drop_eq_getElem_cons h1,?_⟩
 unfold byt
 rw [Array.getElem?_eq_getElem h0,Array.getElem_toList];rfl
theorem ak1 (s:ByteArray) (c:Nat) (hc:c<256):∀ (n i:Nat) (k:Int),s.size - i=n→i≤s.size→k=Lib.indexByte (s.data.toList.drop i) c.toUInt8 →
 (if k<0 then (s.size:Int) - i else k)=(aag s (fun x=>x != (c:Int)) i:Int) - i ∧ -1≤k
 | 0,i,k,hn,hi,hk=>by
  have:i=s.size:=by omega
  subst this
  have hd:s.data.toList.drop s.size=[]:=List.drop_eq_nil_iff.2 (by rw [Array.length_toList];exact Nat.le_refl _)
  rw [hd] at hk
  have:k = -1:=hk
  rw [abv (by omega),this]
  simp
 | n + 1,i,k,hn,hi,hk=>by
  have hlt:i<s.size:=by omega
  obtain ⟨b,hb,hbt⟩:=adW hlt
  obtain ⟨ih,ihm⟩:=ak1 s c hc n (i+1) _ (by omega) (by omega) rfl
  rw [hb] at hk
  simp only [Lib.indexByte] at hk
  generalize Lib.indexByte (s.data.toList.drop (i+1)) c.toUInt8=m at ih ihm hk
  have hcn:c.toUInt8.toNat=c:=by rw [Nat.toUInt8,UInt8.toNat_ofNat'];omega
  by_cases q:b=c.toUInt8
  ·have hbc:byt s i=(c:Int):=by rw [hbt,q,hcn]
   rw [if_pos (by rw [q];exact beq_self_eq_true _)] at hk
   rw [abv (by rw [hbc];simp),hk]
   simp
  ·have hbc:byt s i≠(c:Int):=by
    rw [hbt]
    intro h
    apply q
    have h1:b.toNat=c:=by exact_mod_cast h
    exact UInt8.toNat_inj.1 (by rw [h1,hcn])
   rw [if_neg (by simpa using q)] at hk
   rw [abw ⟨hlt,by simpa using hbc⟩]
   generalize aag s (fun x=>x != (c:Int)) (i+1)=W at ih ⊢
   by_cases k1:m = -1
   ·subst k1
    rw [if_pos (by rfl)] at hk
    subst hk
    rw [if_pos (by decide)] at ih ⊢
    omega
   ·rw [if_neg (by simpa using k1)] at hk
    rw [if_neg (by omega)] at ih
    rw [if_neg (by omega)]
    omega
theorem ada {s:ByteArray}:∀ n m i,i≤s.size→s.size - i≤n→s.size - i≤m→abM s n i=abM s m i
 | 0,0,_,_,_,_=>rfl
 | 0,m+1,i,hi,h,_=>by simp only [abM];rw [if_neg (by omega)]
 | n+1,0,i,hi,_,h=>by simp only [abM];rw [if_neg (by omega)]
 | n + 1,m+1,i,hi,h1,h2=>by
  simp only [abM]
  split
  ·split
   ·exact ada n m (i+1) (by omega) (by omega) (by omega)
   split
   ·rename_i q
    have h3:=abb (s:=s) (p:=fun c=>c != 10) hi
    have h4:aag s (fun c=>c != 10) i=aag s (fun c=>c != 10) (i+1):=abw ⟨‹_›,by rw [q.1];decide⟩
    have h5:=abb (s:=s) (p:=fun c=>c != 10) (i:=i+1) (by omega)
    exact ada n m _ h3.2 (by omega) (by omega)
   ·rfl
  ·rfl
theorem ale {s:ByteArray} {i:Nat} (hi:i<s.size) (h:byt s i=32∨byt s i=9∨byt s i=10):abH s i=abH s (i+1):=by
 unfold abH
 obtain ⟨n,hn⟩:∃ n,s.size - i=n+1:=⟨s.size - i - 1,by omega⟩
 rw [hn,abM,if_pos hi,if_pos h,show s.size - (i+1)=n by omega]
theorem afd {s:ByteArray} {i:Nat} (hi:i<s.size) (h:byt s i=47∧byt s (i+1)=47):abH s i=abH s (aag s (fun c=>c != 10) i)∧i<aag s (fun c=>c != 10) i:=by
 have h3:=abb (s:=s) (p:=fun c=>c != 10) (i:=i) (by omega)
 have h4:aag s (fun c=>c != 10) i=aag s (fun c=>c != 10) (i+1):=abw ⟨hi,by rw [h.1];decide⟩
 have h5:=abb (s:=s) (p:=fun c=>c != 10) (i:=i+1) (by omega)
 refine ⟨?_,by omega⟩
 unfold abH
 obtain ⟨n,hn⟩:∃ n,s.size - i=n+1:=⟨s.size - i - 1,by omega⟩
 rw [hn,abM,if_pos hi,if_neg (by omega),if_pos h]
 exact ada _ _ _ h3.2 (by omega) (by omega)
theorem afc {s:ByteArray} {i:Nat} (h:¬ (i<s.size∧((byt s i=32∨byt s i=9∨byt s i=10)∨(byt s i=47∧byt s (i+1)=47)))):abH s i=i:=by
 unfold abH
 cases q:s.size - i with
 | zero=>rfl
 | succ n =>
  rw [abM,if_pos (by omega),if_neg (fun k=>h ⟨by omega,.inl k⟩),if_neg (fun k=>h ⟨by omega,.inr k⟩)]
theorem anB (s:ByteArray) (i:Nat) (w e:Int) (hs:s.size≤1073741824) (hi:i≤s.size):Af Tryz.prog 108 [.ptr 1000 0] [(1000,boxC s i w e)] (.tup []) [(1000,boxC s (abH s i) w e)]:=by
 obtain ⟨W,hW⟩:∃ W,W=abH s i:=⟨_,rfl⟩
 rw [← hW]
 (apply Af.of tF mF [] kp108 [] Tryz.func108 (fun _=>?_);(any_goals ((with_reducible refine wI ?_);cbv;(try dsimp only [nc] at *);(repeat' (with_reducible first|exact ‹False›.elim|exact nZ|refine oC ?_ ?_|refine VC.mk rfl ?_ ?_ ?_|(apply Ca.mk<;>intro _)|refine cV (fun _=>?_) fun _=>?_|((first|apply xE|apply uE);cbv;(try dsimp only [nc] at *)))))))
 refine .loop (fun j:Nat=>⟨79,[(0,.ptr 1000 0)],[(1000,boxC s j w e)]⟩)
  (fun j=>i≤j∧j≤s.size∧W=abH s j) (fun j=>s.size - j) i ⟨Nat.le_refl _,hi,hW⟩ ?_ fun j E hj=>?_
 ·(exact aZ)
 obtain ⟨j1,j2,j3⟩:=hj
 have hb1:=aaH s j 1 w e (by omega) (by omega)
 have hi:=aeb (s.extract j s.size) 10
 obtain ⟨hx,hx0⟩:=ak1 s 10 (by omega) _ j _ rfl j2 rfl
 rw [← ae8] at hx hx0
 have hx':(if idxB (s.extract j s.size) 10<0 then (s.size:Int) - j else idxB (s.extract j s.size) 10)=(aag s (fun x=>x != 10) j:Int) - j ∧ -1≤idxB (s.extract j s.size) 10:=⟨hx,hx0⟩
 clear hx hx0
 have hl:=abb (s:=s) (p:=fun x=>x != 10) j2
 obtain ⟨k,hk⟩:∃ k,k=idxB (s.extract j s.size) 10:=⟨_,rfl⟩
 obtain ⟨L,hL⟩:∃ L,L=aag s (fun x=>x != 10) j:=⟨_,rfl⟩
 obtain ⟨c,hc⟩:∃ c,c=byt s (j+1):=⟨_,rfl⟩
 rw [← hk] at hi hx'
 rw [← hL] at hx' hl
 rw [← hc] at hb1
 apply AWp.wk tF mF [(4,[(4,.int .u8 fun _=>c,[(1000,boxC s j w e)])]),(5,[(9,.int .i64 fun _=>k,[])])] kp108 ?_
 (any_goals ((with_reducible refine wI ?_);cbv;(try dsimp only [nc] at *);(repeat' (with_reducible first|exact ‹False›.elim|exact nZ|refine oC ?_ ?_|refine VC.mk rfl ?_ ?_ ?_|(apply Ca.mk<;>intro _)|refine cV (fun _=>?_) fun _=>?_|((first|apply xE|apply uE);cbv;(try dsimp only [nc] at *))))))
 any_goals ((with_reducible refine sO (fun _=>?_));exact hb1)
 all_goals (try simp only [ite_self])
 any_goals ((with_reducible refine nO ?_);exact hi)
 ((all_goals (try (with_reducible ((first|refine rE ?_|refine nE ?_);cbv;(try dsimp only [nc] at *);(try simp only [wl,nc]);(repeat' apply And.intro);all_goals (try exact wZ)))));(all_goals (try ((with_reducible rw [aC]);(try simp only [wl,nc]);(repeat' (with_reducible apply And.intro));(all_goals (try exact cZ))))))
 ·rename_i q q1
  refine dE (j+1) ⟨⟨by omega,by omega,?_⟩,by omega⟩ ?_
  ·rw [j3];exact ale q (by rcases q1 with (q1|q1)|q1<;>first|exact .inl q1|exact .inr (.inl q1)|exact .inr (.inr q1))
  ·(focus (cbv;(try dsimp only [nc] at *);(try simp only [wl,nc]);(repeat' (with_reducible apply And.intro));all_goals (try exact wZ)));exact w64n (by omega)
 ·rename_i q _ q1 q2
  obtain ⟨h1,h2⟩:=afd q ⟨q1.1,hc ▸ q1.2⟩
  rw [if_pos q2] at hx'
  rw [← hL] at h1 h2
  refine dE L ⟨⟨by omega,by omega,j3.trans h1⟩,by omega⟩ ?_
  (focus (cbv;(try dsimp only [nc] at *);(try simp only [wl,nc]);(repeat' (with_reducible apply And.intro));all_goals (try exact wZ)))
  rw [w64 (x:=(s.size:Int) - j) (by omega) (by omega),w64 (by omega) (by omega)];omega
 ·rename_i q _ q1 q2
  obtain ⟨h1,h2⟩:=afd q ⟨q1.1,hc ▸ q1.2⟩
  rw [if_neg (by omega)] at hx'
  rw [← hL] at h1 h2
  refine dE L ⟨⟨by omega,by omega,j3.trans h1⟩,by omega⟩ ?_
  (focus (cbv;(try dsimp only [nc] at *);(try simp only [wl,nc]);(repeat' (with_reducible apply And.intro));all_goals (try exact wZ)))
  rw [w64 (by omega) (by omega)];omega
 ·rename_i _ q1 q2
  rw [j3,afc]
  rintro ⟨_,(h|h|h)|⟨h,h'⟩⟩
  ·exact q1.1.1 h
  ·exact q1.1.2 h
  ·exact q1.2 h
  ·rcases q2 with q2|q2
   ·exact q2 h
   ·exact q2 (hc.trans h')
 ·rw [j3,afc (fun h=>by omega)]
def boxK (t:Tok):AO:=.box (acT fun _=>t)
def Tok.set (t:Tok) (k:Int) (x:ByteArray):Tok:=mk k t.line t.col x t.value t.num t.scale t.joined
theorem word_no (s:ByteArray) (i:Nat) (w e:Int) (t:Tok) (hi:i≤1073741824) (hl:letB (byt s i)=false) (hq:byt s (i+1)≠34):Af Tryz.prog 104 [.ptr 1000 0,.ptr 1001 0] [(1000,boxC s i w e),(1001,boxK t)] (.bool fun _=>false) [(1000,boxC s i w e),(1001,boxK t)]:=by
 have h0:=aaH s i 0 w e hi (by omega)
 have h1:=aaH s i 1 w e hi (by omega)
 have h2:=aeM (byt s i)
 rw [hl] at h2
 obtain ⟨c,hc⟩:∃ c,c=byt s (i+1):=⟨_,rfl⟩
 rw [← hc] at hq h1
 (apply Af.of tF mF [.tmp 4] kp104 [(1,[(1,.int .u8 fun _=>byt s i,[(1000,boxC s i w e)]),(2,.bool fun _=>false,[]),(6,.int .u8 fun _=>byt s i,[(1000,boxC s i w e)]),(10,.int .u8 fun _=>c,[(1000,boxC s i w e)])])] Tryz.func104 (fun _=>?_);(any_goals ((with_reducible refine wI ?_);cbv;(try dsimp only [nc] at *);(repeat' (with_reducible first|exact ‹False›.elim|exact nZ|refine oC ?_ ?_|refine VC.mk rfl ?_ ?_ ?_|(apply Ca.mk<;>intro _)|refine cV (fun _=>?_) fun _=>?_|((first|apply xE|apply uE);cbv;(try dsimp only [nc] at *)))))))
 all_goals (try simp only [ite_self])
 any_goals ((with_reducible first|refine nO ?_|refine sO (fun _=>?_));exact h0)
 any_goals ((with_reducible first|refine nO ?_|refine sO (fun _=>?_));exact h1)
 any_goals ((with_reducible refine nO ?_);exact h2)
 ((all_goals (try (with_reducible ((first|refine rE ?_|refine nE ?_);cbv;(try dsimp only [nc] at *);(try simp only [wl,nc]);(repeat' apply And.intro);all_goals (try exact wZ)))));(all_goals (try ((with_reducible rw [aC]);(try simp only [wl,nc]);(repeat' (with_reducible apply And.intro));(all_goals (try exact cZ))))))
 ·exact fun h=>by cases h
 ·rename_i h;exact h.1.elim
theorem word_ok (s:ByteArray) (i:Nat) (w e:Int) (t:Tok) (hs:s.size≤1073741824) (hi:i≤s.size) (hl:letB (byt s i)=true) (hq:byt s (i+1)≠34) (j:Nat) (hj:j=aag s adM i) :
 Af Tryz.prog 104 [.ptr 1000 0,.ptr 1001 0] [(1000,boxC s i w e),(1001,boxK t)] (.bool fun _=>true) [(1000,boxC s j (if 64<j - i∧e=0 then i else w) (if 64<j - i∧e=0 then 5 else e)),(1001,boxK (t.set 1 (s.extract i j)))]:=by
 have h0:=aaH s i 0 w e (by omega) (by omega)
 have h1:=aaH s i 1 w e (by omega) (by omega)
 have h2:=aeM (byt s i)
 have h3:=ajp s i w e hs hi 165 adM amg
 have hjl:=abb (s:=s) (p:=adM) hi
 rw [← hj] at h3 hjl
 have h4:=sfail_ok s j w e i 5
 rw [hl] at h2
 obtain ⟨c,hc⟩:∃ c,c=byt s (i+1):=⟨_,rfl⟩
 rw [← hc] at hq h1
 have hx:(s.extract i j).size=j - i:=by rw [ByteArray.size_extract];omega
 generalize s.extract i j=x at h3 hx ⊢
 obtain ⟨w2,hw2⟩:∃ w2,w2=if 64<j - i∧e=0 then (i:Int) else w:=⟨_,rfl⟩
 obtain ⟨e2,he2⟩:∃ e2,e2=if 64<j - i∧e=0 then 5 else e:=⟨_,rfl⟩
 rw [← hw2,← he2]
 (apply Af.of tF mF [.tmp 4] kp104 [(1,[(1,.int .u8 fun _=>byt s i,[(1000,boxC s i w e)]),(2,.bool fun _=>true,[]),(6,.int .u8 fun _=>byt s i,[(1000,boxC s i w e)]),(10,.int .u8 fun _=>c,[(1000,boxC s i w e)])]),
   (4,[(3,.str fun _=>x,[(1000,boxC s j w e)])]),(6,[(2,.tup [],[(1000,boxC s j (if e=0 then i else w) (if e=0 then 5 else e))])])] Tryz.func104 (fun _=>?_);(any_goals ((with_reducible refine wI ?_);cbv;(try dsimp only [nc] at *);(repeat' (with_reducible first|exact ‹False›.elim|exact nZ|refine oC ?_ ?_|refine VC.mk rfl ?_ ?_ ?_|(apply Ca.mk<;>intro _)|refine cV (fun _=>?_) fun _=>?_|((first|apply xE|apply uE);cbv;(try dsimp only [nc] at *)))))))
 all_goals (try simp only [ite_self])
 any_goals ((with_reducible first|refine nO ?_|refine sO (fun _=>?_));exact h0)
 any_goals ((with_reducible first|refine nO ?_|refine sO (fun _=>?_));exact h1)
 any_goals ((with_reducible refine nO ?_);exact h2)
 any_goals ((with_reducible refine nO ?_);exact h3)
 any_goals ((with_reducible refine nO ?_);exact h4)
 all_goals (try (exact absurd (‹False∨byt s i=120∧c=34›.resolve_left id).2 hq))
 ((all_goals (try (with_reducible ((first|refine rE ?_|refine nE ?_);cbv;(try dsimp only [nc] at *);(try simp only [wl,nc]);(repeat' apply And.intro);all_goals (try exact wZ)))));(all_goals (try ((with_reducible rw [aC]);(try simp only [wl,nc]);(repeat' (with_reducible apply And.intro));(all_goals (try exact cZ))))))
 all_goals (try rfl)
theorem text_no (s:ByteArray) (i:Nat) (w e:Int) (t:Tok) (hi:i≤1073741824) (hq:byt s i≠34):Af Tryz.prog 106 [.ptr 1000 0,.ptr 1001 0] [(1000,boxC s i w e),(1001,boxK t)] (.bool fun _=>false) [(1000,boxC s i w e),(1001,boxK t)]:=by
 have h0:=aaH s i 0 w e hi (by omega)
 have h1:byt s (i+0)=byt s i:=rfl
 rw [h1] at h0
 obtain ⟨c,hc⟩:∃ c,c=byt s i:=⟨_,rfl⟩
 rw [← hc] at hq h0
 (apply Af.of tF mF [.tmp 4] kp106 [(1,[(1,.int .u8 fun _=>c,[(1000,boxC s i w e)])])] Tryz.func106 (fun _=>?_);(any_goals ((with_reducible refine wI ?_);cbv;(try dsimp only [nc] at *);(repeat' (with_reducible first|exact ‹False›.elim|exact nZ|refine oC ?_ ?_|refine VC.mk rfl ?_ ?_ ?_|(apply Ca.mk<;>intro _)|refine cV (fun _=>?_) fun _=>?_|((first|apply xE|apply uE);cbv;(try dsimp only [nc] at *)))))))
 all_goals (try simp only [ite_self])
 any_goals ((with_reducible first|refine nO ?_|refine sO (fun _=>?_));exact h0)
 all_goals (try (exact absurd ‹c=34› hq))
 (all_goals exact eZ)
theorem bytes_no (s:ByteArray) (i:Nat) (w e:Int) (t:Tok) (hi:i≤1073741824) (hq:¬ (byt s i=120∧byt s (i+1)=34)):Af Tryz.prog 103 [.ptr 1000 0,.ptr 1001 0] [(1000,boxC s i w e),(1001,boxK t)] (.bool fun _=>false) [(1000,boxC s i w e),(1001,boxK t)]:=by
 have h0:=aaH s i 0 w e hi (by omega)
 have h1:=aaH s i 1 w e hi (by omega)
 have h2:byt s (i+0)=byt s i:=rfl
 rw [h2] at h0
 obtain ⟨c,hc⟩:∃ c,c=byt s i:=⟨_,rfl⟩
 obtain ⟨c1,hc1⟩:∃ c,c=byt s (i+1):=⟨_,rfl⟩
 rw [← hc] at hq h0
 rw [← hc1] at hq h1
 (apply Af.of tF mF [.tmp 4] kp103 [(1,[(1,.int .u8 fun _=>c,[(1000,boxC s i w e)]),(5,.int .u8 fun _=>c1,[(1000,boxC s i w e)])])] Tryz.func103 (fun _=>?_);(any_goals ((with_reducible refine wI ?_);cbv;(try dsimp only [nc] at *);(repeat' (with_reducible first|exact ‹False›.elim|exact nZ|refine oC ?_ ?_|refine VC.mk rfl ?_ ?_ ?_|(apply Ca.mk<;>intro _)|refine cV (fun _=>?_) fun _=>?_|((first|apply xE|apply uE);cbv;(try dsimp only [nc] at *)))))))
 all_goals (try simp only [ite_self])
 any_goals ((with_reducible first|refine nO ?_|refine sO (fun _=>?_));exact h0)
 any_goals ((with_reducible first|refine nO ?_|refine sO (fun _=>?_));exact h1)
 all_goals (try (exact absurd ‹c=120∧c1=34› hq))
 (all_goals exact eZ)
end Go.Ai
