/- Chapter 5: paths: the parts of a text, in plain words. -/
import Derived.Test.YtbagpkiomjlhkaaGreatDoorWide
import Derived.Test.YtbagpkiomjlhkaaGreatDoorRdE
import Derived.Test.YtbagpkiomjlhkaaGreatDoorFnA
import Derived.Test.YtbagpkiomjlhkaaGreatDoorLexD
set_option linter.all false
namespace Go.Ai
open Go Go.Proofs
set_option maxRecDepth 100000
set_option maxHeartbeats 4000000
abbrev Prt:=Int×Int×ByteArray
def af8 (p:Unit→Prt):List AV:=[.int .i64 fun _=>(p ()).1,.int .i64 fun _=>(p ()).2.1,.str fun _=>(p ()).2.2]
def encP (p:Unit→Prt):AV:=.agg (af8 p)
def alT (l:Unit→List Prt):(Unit→Nat)→List AV:=fun i=>af8 fun _=>(l ()).getD (i ()) (0,0,⟨#[]⟩)
def slcP (l:Unit→List Prt):AV:=.slc .any 3 (fun _=>(l ()).length) (alT l)
def sepT:ByteArray:=⟨#[46,91,63]⟩
def idxA (t:ByteArray):Int:=Lib.indexAny t.data.toList sepT.data.toList
def endP (s:ByteArray) (i:Nat):Int:=if idxA (s.extract i s.size)<0 then s.size else i+idxA (s.extract i s.size)
theorem afn (t:ByteArray) (ht:t.size≤1073741824):Af Tryz.prog 84 [.str fun _=>t,.str fun _=>sepT] [] (.int .i64 fun _=>idxA t) []:=by
 refine Af.akI (vals:=#[.string t,.string sepT]) Tryz.func84 rfl fun w hT=>?_
 by_cases h8:t.size≤8
 ·exact (ajl t w h8).mono fun e w' ⟨he,hw⟩=>⟨_,he,fun w2 D B=>.int .i64 fun _=>idxA t,hw⟩
 have h116:(Tryz.prog.info? (Tryz.abC.t 116)).map (fun i=>(i.zero,i.size))=some (some (.agg (Array.replicate 256 (.bool false))),256):=by kernel_rfl
 refine (Any.strings_IndexAny_long Tryz.agz (zero_of_info h116).1 (zero_of_info h116).2 t sepT w (by decide) (by omega) (by omega) (by decide) (fun j b hb=>?_)).mono fun e w' ⟨he,hw⟩=>⟨_,he,fun w2 D B=>.int .i64 fun _=>idxA t,?_⟩
 ·have hm:=List.mem_of_getElem? hb
  have key:∀ x ∈ sepT.data.toList,x.toNat<128:=by decide
  exact key b hm
 ·rw [hw]
  exact ((Go.RowKit.Below.refl _ _).alloc (Nat.le_refl _) _).alloc (by simp) _
theorem ad5 (cs:List UInt8):∀ l:List UInt8,Lib.indexAny l cs = -1∨(0≤Lib.indexAny l cs∧Lib.indexAny l cs<l.length)
 | []=>.inl rfl
 | b :: l=>by
  simp only [Lib.indexAny]
  have ih:=ad5 cs l
  split
  ·exact .inr ⟨by omega,by simp⟩
  ·rcases ih with h|⟨h1,h2⟩
   ·rw [h];exact .inl rfl
   ·refine .inr ?_
    rw [if_neg (by simp;omega)]
    simp only [List.length_cons]
    omega
theorem aj8 {s:ByteArray} {i:Nat} (hi:i≤s.size):(i:Int)≤endP s i∧endP s i≤s.size:=by
 unfold endP idxA
 have h:=ad5 sepT.data.toList (s.extract i s.size).data.toList
 have hl:(s.extract i s.size).data.toList.length=s.size - i:=by
  rw [Array.length_toList]
  show (s.extract i s.size).size=_
  rw [ByteArray.size_extract];omega
 rw [hl] at h
 split
 ·omega
 ·omega
theorem Asc.ext {s:ByteArray} (h:Asc s) (i j:Nat):Asc (s.extract i j):=by
 intro b hb
 rw [ByteArray.data_extract,Array.toList_extract] at hb
 simp only [List.extract] at hb
 exact h b (List.mem_of_mem_drop (List.mem_of_mem_take hb))
theorem end_ok (s:ByteArray) (i:Nat) (hi:i≤s.size) (hs:s.size≤1073741824):Af Tryz.prog 142 [.int .i64 fun _=>(i:Int),.ptr 1001 0] [(1001,.box [.str fun _=>s])] (.int .i64 fun _=>endP s i) [(1001,.box [.str fun _=>s])]:=by
 have h1:=afn (s.extract i s.size) (by rw [ByteArray.size_extract];omega)
 have hb:=aj8 hi
 obtain ⟨n,hn⟩:∃ n,n=endP s i:=⟨_,rfl⟩
 rw [← hn] at hb ⊢
 unfold endP at hn
 generalize idxA (s.extract i s.size)=k at *
 (apply Af.of tF mF [.tmp 3] kp142 [(1,[(3,.int .i64 fun _=>k,[])])] Tryz.func142 (fun _=>?_);(any_goals ((with_reducible refine wI ?_);cbv;(try dsimp only [nc] at *);(repeat' (with_reducible first|exact ‹False›.elim|exact nZ|refine oC ?_ ?_|refine VC.mk rfl ?_ ?_ ?_|(apply Ca.mk<;>intro _)|refine cV (fun _=>?_) fun _=>?_|((first|apply xE|apply uE);cbv;(try dsimp only [nc] at *)))))))
 any_goals ((with_reducible refine nO ?_);exact h1)
 ((all_goals (try (with_reducible ((first|refine rE ?_|refine nE ?_);cbv;(try dsimp only [nc] at *);(try simp only [wl,nc]);(repeat' apply And.intro);all_goals (try exact wZ)))));(all_goals (try ((with_reducible rw [aC]);(try simp only [wl,nc]);(repeat' (with_reducible apply And.intro));(all_goals (try exact cZ))))))
 rw [if_neg (by omega)] at hn
 rw [w64 (by omega) (by omega),hn]
def allT:ByteArray:=⟨#[91,42,93]⟩
def rbT:ByteArray:=⟨#[93]⟩
def acP (s:ByteArray):Prt×ByteArray×Bool :=
 if aaK s allT=true then ((3,0,⟨#[]⟩),s.extract 3 s.size,true)
 else if byt s 0=46 then ((1,0,s.extract 1 (endP s 1).toNat),s.extract (endP s 1).toNat s.size,true)
 else if byt s 0=63 then ((4,0,s.extract 1 (endP s 1).toNat),s.extract (endP s 1).toNat s.size,true)
 else ((2,(ab6 (cutL (s.extract 1 s.size) rbT).1).1,⟨#[]⟩),(cutL (s.extract 1 s.size) rbT).2.1,
  decide (byt s 0=91) && ((cutL (s.extract 1 s.size) rbT).2.2 && ((ab6 (cutL (s.extract 1 s.size) rbT).1).2 && decide (abD (ab6 (cutL (s.extract 1 s.size) rbT).1).1=(cutL (s.extract 1 s.size) rbT).1))))
theorem prefB_le {s p:ByteArray} (h:aaK s p=true):p.size≤s.size:=by
 have h1:p.data.toList <+: s.data.toList:=List.isPrefixOf_iff_prefix.1 h
 have h2:=h1.length_le
 rw [Array.length_toList,Array.length_toList] at h2
 exact h2
theorem atoiV_le (s:ByteArray) : -9223372036854775808≤(ab6 s).1∧(ab6 s).1≤9223372036854775807:=by
 unfold ab6
 split
 ·rename_i v hv;have:=Lib.atoiAll_bounds hv;exact ⟨by omega,by omega⟩
 ·have:=Lib.atoiSat_bounds s.data.toList;exact ⟨by omega,by omega⟩
 ·exact ⟨by decide,by decide⟩
theorem aiR (l:List UInt8):(⟨l.toArray⟩:ByteArray).size=l.length:=by show l.toArray.size=_;simp
theorem cut_le (s p:ByteArray):(cutL s p).1.size≤s.size∧(cutL s p).2.1.size≤s.size:=by
 have hl:s.data.toList.length=s.size:=by rw [Array.length_toList];rfl
 unfold cutL Lib.cut
 dsimp only
 split
 ·refine ⟨Nat.le_trans (Nat.le_of_eq (aiR _)) ?_,Nat.le_trans (Nat.le_of_eq (aiR _)) ?_⟩
  ·dsimp only;rw [List.length_take];omega
  ·dsimp only;rw [List.length_drop];omega
 ·exact ⟨Nat.le_trans (Nat.le_of_eq (aiR _)) (by dsimp only;omega),Nat.zero_le _⟩
theorem akp {s:ByteArray} (h0:0<s.size):(acP s).2.1.size<s.size:=by
 have hb:=aj8 (s:=s) (i:=1) h0
 unfold acP
 split
 ·dsimp only;rw [ByteArray.size_extract];omega
 split
 ·dsimp only;rw [ByteArray.size_extract];omega
 split
 ·dsimp only;rw [ByteArray.size_extract];omega
 ·have:=(cut_le (s.extract 1 s.size) rbT).2
  have hx:(s.extract 1 s.size).size=s.size - 1:=by rw [ByteArray.size_extract];omega
  dsimp only;omega
theorem ako {s:ByteArray}:(acP s).1.2.2.size≤s.size:=by
 unfold acP
 split
 ·exact Nat.zero_le _
 split
 ·dsimp only;rw [ByteArray.size_extract];omega
 split
 ·dsimp only;rw [ByteArray.size_extract];omega
 ·exact Nat.zero_le _
theorem alI (s:ByteArray) (h0:0<s.size) (hs:s.size≤1000):Af Tryz.prog 97 [.str fun _=>s] [] (.tup [encP fun _=>(acP s).1,.str fun _=>(acP s).2.1,.bool fun _=>(acP s).2.2]) []:=by
 have h1:=end_ok s 1 h0 (by omega)
 have hb:=aj8 (s:=s) (i:=1) h0
 have h2:=acB s allT
 have hpl:aaK s allT=true→3≤s.size:=fun h=>prefB_le h
 unfold acP
 obtain ⟨n,hn⟩:∃ n,n=endP s 1:=⟨_,rfl⟩
 rw [← hn] at h1 hb ⊢
 clear hn
 have hby:byt s 0=byt s 0:=rfl
 cases c1:aaK s allT with
 | true =>
  rw [c1] at h2
  have hpl:=hpl c1
  rw [if_pos rfl]
  dsimp only
  (apply Af.of tF mF [.cell 2 71,.tmp 3,.tmp 4] kp97 [(2,[(1,.int .i64 fun _=>n,[(1001,.box [.str fun _=>s])])]),(3,[(1,.bool fun _=>true,[])])] Tryz.func97 (fun _=>?_);(any_goals ((with_reducible refine wI ?_);cbv;(try dsimp only [nc] at *);(repeat' (with_reducible first|exact ‹False›.elim|exact nZ|refine oC ?_ ?_|refine VC.mk rfl ?_ ?_ ?_|(apply Ca.mk<;>intro _)|refine cV (fun _=>?_) fun _=>?_|((first|apply xE|apply uE);cbv;(try dsimp only [nc] at *)))))))
  any_goals ((with_reducible refine nO ?_);first|exact h1|exact h2)
  all_goals (try (exact absurd trivial ‹¬True›))
  all_goals (try (exact absurd ‹False› id))
  ((all_goals (try (with_reducible ((first|refine rE ?_|refine nE ?_);cbv;(try dsimp only [nc] at *);(try simp only [wl,nc]);(repeat' apply And.intro);all_goals (try exact wZ)))));(all_goals (try ((with_reducible rw [aC]);(try simp only [wl,nc]);(repeat' (with_reducible apply And.intro));(all_goals (try exact cZ))))))
  all_goals rfl
 | false =>
  rw [c1] at h2
  rw [if_neg (by simp)]
  by_cases c2:byt s 0=46
  ·rw [if_pos c2]
   dsimp only
   (apply Af.of tF mF [.cell 2 71,.tmp 3,.tmp 4] kp97 [(2,[(1,.int .i64 fun _=>n,[(1001,.box [.str fun _=>s])])]),(3,[(1,.bool fun _=>false,[])])] Tryz.func97 (fun _=>?_);(any_goals ((with_reducible refine wI ?_);cbv;(try dsimp only [nc] at *);(repeat' (with_reducible first|exact ‹False›.elim|exact nZ|refine oC ?_ ?_|refine VC.mk rfl ?_ ?_ ?_|(apply Ca.mk<;>intro _)|refine cV (fun _=>?_) fun _=>?_|((first|apply xE|apply uE);cbv;(try dsimp only [nc] at *)))))))
   all_goals (try simp only [ite_self])
   any_goals ((with_reducible first|refine nO ?_|refine sO (fun _=>?_));first|exact h1|exact h2)
   all_goals (try (exact absurd ‹False› id))
   all_goals (try (exact absurd c2 ‹¬ (((s.data[Int.toNat 0]?).getD 0).toNat:Int)=46›))
   ((all_goals (try (with_reducible ((first|refine rE ?_|refine nE ?_);cbv;(try dsimp only [nc] at *);(try simp only [wl,nc]);(repeat' apply And.intro);all_goals (try exact wZ)))));(all_goals (try ((with_reducible rw [aC]);(try simp only [wl,nc]);(repeat' (with_reducible apply And.intro));(all_goals (try exact cZ))))))
   all_goals first
    | rfl
    | trace_state
  ·rw [if_neg c2]
   by_cases c3:byt s 0=63
   ·rw [if_pos c3]
    dsimp only
    (apply Af.of tF mF [.cell 2 71,.tmp 3,.tmp 4] kp97 [(2,[(1,.int .i64 fun _=>n,[(1001,.box [.str fun _=>s])])]),(3,[(1,.bool fun _=>false,[])])] Tryz.func97 (fun _=>?_);(any_goals ((with_reducible refine wI ?_);cbv;(try dsimp only [nc] at *);(repeat' (with_reducible first|exact ‹False›.elim|exact nZ|refine oC ?_ ?_|refine VC.mk rfl ?_ ?_ ?_|(apply Ca.mk<;>intro _)|refine cV (fun _=>?_) fun _=>?_|((first|apply xE|apply uE);cbv;(try dsimp only [nc] at *)))))))
    all_goals (try simp only [ite_self])
    any_goals ((with_reducible first|refine nO ?_|refine sO (fun _=>?_));first|exact h1|exact h2)
    all_goals (try (exact absurd ‹False› id))
    all_goals (try (exact absurd ‹(((s.data[Int.toNat 0]?).getD 0).toNat:Int)=46› c2))
    all_goals (try (exact absurd c3 ‹¬ (((s.data[Int.toNat 0]?).getD 0).toNat:Int)=63›))
    ((all_goals (try (with_reducible ((first|refine rE ?_|refine nE ?_);cbv;(try dsimp only [nc] at *);(try simp only [wl,nc]);(repeat' apply And.intro);all_goals (try exact wZ)))));(all_goals (try ((with_reducible rw [aC]);(try simp only [wl,nc]);(repeat' (with_reducible apply And.intro));(all_goals (try exact cZ))))))
    all_goals first
     | rfl
     | trace_state
   ·rw [if_neg c3]
    have h3:=Cut_ok (s.extract 1 s.size) rbT (by rw [ByteArray.size_extract];omega)
    have hcl:=cut_le (s.extract 1 s.size) rbT
    have hxs:(s.extract 1 s.size).size≤1000:=by rw [ByteArray.size_extract];omega
    generalize cutL (s.extract 1 s.size) rbT=q at *
    have h4:=anQ q.1 (by omega)
    have h4b:=atoiV_le q.1
    generalize ab6 q.1=a at *
    have h5:=afl a.1 h4b.1 h4b.2
    generalize abD a.1=z at *
    obtain ⟨q1,q2,q3⟩:=q
    obtain ⟨a1,a2⟩:=a
    dsimp only at h3 h4 h5 hcl ⊢
    obtain ⟨R,hR⟩:∃ R,R=(decide (byt s 0=91) && (q3 && (a2 && decide (z=q1)))):=⟨_,rfl⟩
    rw [← hR]
    (apply Af.of tF mF [.cell 2 71,.tmp 3,.tmp 4] kp97 [(2,[(1,.int .i64 fun _=>n,[(1001,.box [.str fun _=>s])])]),(3,[(1,.bool fun _=>false,[])]),(9,[(2,.tup [.str fun _=>q1,.str fun _=>q2,.bool fun _=>q3],[])]),(10,[(1,.tup [.int .i64 fun _=>a1,.ifc fun _=>a2],[])]),(11,[(15,.str fun _=>z,[])])] Tryz.func97 (fun _=>?_);(any_goals ((with_reducible refine wI ?_);cbv;(try dsimp only [nc] at *);(repeat' (with_reducible first|exact ‹False›.elim|exact nZ|refine oC ?_ ?_|refine VC.mk rfl ?_ ?_ ?_|(apply Ca.mk<;>intro _)|refine cV (fun _=>?_) fun _=>?_|((first|apply xE|apply uE);cbv;(try dsimp only [nc] at *)))))))
    all_goals (try simp only [ite_self])
    any_goals ((with_reducible first|refine nO ?_|refine sO (fun _=>?_));first|exact h1|exact h2|exact h3|exact h4|exact h5)
    all_goals (try (exact absurd ‹False› id))
    all_goals (try (exact absurd ‹(((s.data[Int.toNat 0]?).getD 0).toNat:Int)=46› c2))
    all_goals (try (exact absurd ‹(((s.data[Int.toNat 0]?).getD 0).toNat:Int)=63› c3))
    ((all_goals (try (with_reducible ((first|refine rE ?_|refine nE ?_);cbv;(try dsimp only [nc] at *);(try simp only [wl,nc]);(repeat' apply And.intro);all_goals (try exact wZ)))));(all_goals (try ((with_reducible rw [aC]);(try simp only [wl,nc]);(repeat' (with_reducible apply And.intro));(all_goals (try exact cZ))))))
    rw [hR]
    show (if (if (if (byt s 0 == 91)=true then q3 else false)=true then a2 else false)=true then decide (z=q1) else false)=_
    by_cases h:byt s 0=91<;>cases q3<;>cases a2<;>simp [h]
end Go.Ai
