/- Chapter 5: paths: the parts of a text, in plain words. -/
import Derived.Test.YtbagpkiomjlhkaaGreatDoorWide
import Derived.Test.YtbagpkiomjlhkaaGreatDoorRdE
import Derived.Test.YtbagpkiomjlhkaaGreatDoorFnA
import Derived.Test.YtbagpkiomjlhkaaGreatDoorLexD
set_option linter.all false
namespace Go.Ai
open Go Go.Proofs
set_option maxRecDepth 100000
set_option maxHeartbeats 4000000
abbrev Prt:=Int×Int×ByteArray
def cellsP (p:Unit→Prt):List AV:=[.int .i64 fun _=>(p ()).1,.int .i64 fun _=>(p ()).2.1,.str fun _=>(p ()).2.2]
def encP (p:Unit→Prt):AV:=.agg (cellsP p)
def rowsP (l:Unit→List Prt):(Unit→Nat)→List AV:=fun i=>cellsP fun _=>(l ()).getD (i ()) (0,0,⟨#[]⟩)
def slcP (l:Unit→List Prt):AV:=.slc .any 3 (fun _=>(l ()).length) (rowsP l)
def sepT:ByteArray:=⟨#[46,91,63]⟩
def idxA (t:ByteArray):Int:=Lib.indexAny t.data.toList sepT.data.toList
def endP (s:ByteArray) (i:Nat):Int:=if idxA (s.extract i s.size)<0 then s.size else i+idxA (s.extract i s.size)
theorem IndexAny_ok (t:ByteArray) (ht:t.size≤1073741824) (ha:Asc t):Af Tryz.prog 84 [.str fun _=>t,.str fun _=>sepT] [] (.int .i64 fun _=>idxA t) []:=by
  refine Af.pureW (vals:=#[.string t,.string sepT]) Tryz.func84 rfl fun w hT=>?_
  refine (Any.strings_IndexAny_laid Tryz.lays153 (by kernel_rfl) t sepT w (by omega) (by decide) (fun j b hb=>ha b (List.mem_of_getElem? hb)) (fun j b hb=>?_)).mono fun e w' ⟨he,hw⟩=>⟨_,he,fun w2 D B=>.int .i64 fun _=>idxA t,hw⟩
  have hm:=List.mem_of_getElem? hb
  have key:∀ x ∈ sepT.data.toList,x.toNat<128:=by decide
  exact key b hm
theorem indexAny_lt (cs:List UInt8):∀ l:List UInt8,Lib.indexAny l cs = -1∨(0≤Lib.indexAny l cs∧Lib.indexAny l cs<l.length)
  | []=>.inl rfl
  | b :: l=>by
    simp only [Lib.indexAny]
    have ih:=indexAny_lt cs l
    split
    · exact .inr ⟨by omega,by simp⟩
    · rcases ih with h|⟨h1,h2⟩
      · rw [h];exact .inl rfl
      · refine .inr ?_
        rw [if_neg (by simp;omega)]
        simp only [List.length_cons]
        omega
theorem endP_le {s:ByteArray} {i:Nat} (hi:i≤s.size):(i:Int)≤endP s i∧endP s i≤s.size:=by
  unfold endP idxA
  have h:=indexAny_lt sepT.data.toList (s.extract i s.size).data.toList
  have hl:(s.extract i s.size).data.toList.length=s.size - i:=by
    rw [Array.length_toList]
    show (s.extract i s.size).size=_
    rw [ByteArray.size_extract];omega
  rw [hl] at h
  split
  · omega
  · omega
theorem Asc.ext {s:ByteArray} (h:Asc s) (i j:Nat):Asc (s.extract i j):=by
  intro b hb
  rw [ByteArray.data_extract,Array.toList_extract] at hb
  simp only [List.extract] at hb
  exact h b (List.mem_of_mem_drop (List.mem_of_mem_take hb))
theorem end_ok (s:ByteArray) (i:Nat) (hi:i≤s.size) (hs:s.size≤1073741824) (ha:Asc s):Af Tryz.prog 142 [.int .i64 fun _=>(i:Int),.ptr 1001 0] [(1001,.box [.str fun _=>s])] (.int .i64 fun _=>endP s i) [(1001,.box [.str fun _=>s])]:=by
  have h1:=IndexAny_ok (s.extract i s.size) (by rw [ByteArray.size_extract];omega) (ha.ext i s.size)
  have hb:=endP_le hi
  obtain ⟨n,hn⟩:∃ n,n=endP s i:=⟨_,rfl⟩
  rw [← hn] at hb ⊢
  unfold endP at hn
  generalize idxA (s.extract i s.size)=k at *
  (apply Af.of tF mF [.tmp 3] kp142 [(1,[(3,.int .i64 fun _=>k,[])])] Tryz.func142 (fun _=>?_);(any_goals ((with_reducible refine wI ?_);cbv;(try dsimp only [nc] at *);(repeat' (with_reducible first|exact aO|exact oN|refine oC ?_ ?_|refine VC.mk rfl ?_ ?_ ?_|(apply Ca.mk<;>intro _)|(apply Cv.mk<;>intro zq<;>(try simp only [nc,cl] at zq)<;>(try simp only [bl,dl] at zq)<;>(revert zq;intro _))|((first|apply xE|apply uE);cbv;(try dsimp only [nc] at *)))))))
  any_goals ((with_reducible refine nO ?_);exact h1)
  ((all_goals (try (with_reducible ((first|refine rE ?_|refine nE ?_);(focus (cbv;(try dsimp only [nc] at *);(try simp only [wl,nc]);(repeat' (with_reducible apply And.intro));all_goals (try exact wZ)))))));(all_goals (try ((with_reducible rw [aC]);(try simp only [wl,nc]);(repeat' (with_reducible apply And.intro));(all_goals (try exact cZ))))))
  rw [if_neg (by omega)] at hn
  rw [w64 (by omega) (by omega),hn]
def allT:ByteArray:=⟨#[91,42,93]⟩
def rbT:ByteArray:=⟨#[93]⟩
def takeV (s:ByteArray):Prt×ByteArray×Bool :=
  if prefB s allT=true then ((3,0,⟨#[]⟩),s.extract 3 s.size,true)
  else if byt s 0=46 then ((1,0,s.extract 1 (endP s 1).toNat),s.extract (endP s 1).toNat s.size,true)
  else if byt s 0=63 then ((4,0,s.extract 1 (endP s 1).toNat),s.extract (endP s 1).toNat s.size,true)
  else ((2,(atoiV (cutL (s.extract 1 s.size) rbT).1).1,⟨#[]⟩),(cutL (s.extract 1 s.size) rbT).2.1,
    decide (byt s 0=91) && ((cutL (s.extract 1 s.size) rbT).2.2 && ((atoiV (cutL (s.extract 1 s.size) rbT).1).2 && decide (itoaB (atoiV (cutL (s.extract 1 s.size) rbT).1).1=(cutL (s.extract 1 s.size) rbT).1))))
theorem prefB_le {s p:ByteArray} (h:prefB s p=true):p.size≤s.size:=by
  have h1:p.data.toList <+: s.data.toList:=List.isPrefixOf_iff_prefix.1 h
  have h2:=h1.length_le
  rw [Array.length_toList,Array.length_toList] at h2
  exact h2
theorem atoiV_le (s:ByteArray) : -9223372036854775808≤(atoiV s).1∧(atoiV s).1≤9223372036854775807:=by
  unfold atoiV
  split
  · rename_i v hv;have:=Lib.atoiAll_bounds hv;exact ⟨by omega,by omega⟩
  · have:=Lib.atoiSat_bounds s.data.toList;exact ⟨by omega,by omega⟩
  · exact ⟨by decide,by decide⟩
theorem mk_size (l:List UInt8):(⟨l.toArray⟩:ByteArray).size=l.length:=by show l.toArray.size=_;simp
theorem cut_le (s p:ByteArray):(cutL s p).1.size≤s.size∧(cutL s p).2.1.size≤s.size:=by
  have hl:s.data.toList.length=s.size:=by rw [Array.length_toList];rfl
  unfold cutL Lib.cut
  dsimp only
  split
  · refine ⟨Nat.le_trans (Nat.le_of_eq (mk_size _)) ?_,Nat.le_trans (Nat.le_of_eq (mk_size _)) ?_⟩
    · dsimp only;rw [List.length_take];omega
    · dsimp only;rw [List.length_drop];omega
  · exact ⟨Nat.le_trans (Nat.le_of_eq (mk_size _)) (by dsimp only;omega),Nat.zero_le _⟩
theorem cut_asc {s:ByteArray} (p:ByteArray) (ha:Asc s):Asc (cutL s p).2.1:=by
  unfold cutL Lib.cut
  dsimp only
  split
  · intro b hb
    exact ha b (List.mem_of_mem_drop (by simpa using hb))
  · intro b hb
    simp at hb
theorem takeV_less {s:ByteArray} (h0:0<s.size) (ha:Asc s):(takeV s).2.1.size<s.size∧Asc (takeV s).2.1:=by
  have hb:=endP_le (s:=s) (i:=1) h0
  unfold takeV
  split
  · exact ⟨by dsimp only;rw [ByteArray.size_extract];omega,ha.ext _ _⟩
  split
  · exact ⟨by dsimp only;rw [ByteArray.size_extract];omega,ha.ext _ _⟩
  split
  · exact ⟨by dsimp only;rw [ByteArray.size_extract];omega,ha.ext _ _⟩
  · have:=(cut_le (s.extract 1 s.size) rbT).2
    have hx:(s.extract 1 s.size).size=s.size - 1:=by rw [ByteArray.size_extract];omega
    exact ⟨by dsimp only;omega,cut_asc _ (ha.ext _ _)⟩
theorem takeV_name {s:ByteArray}:(takeV s).1.2.2.size≤s.size:=by
  unfold takeV
  split
  · exact Nat.zero_le _
  split
  · dsimp only;rw [ByteArray.size_extract];omega
  split
  · dsimp only;rw [ByteArray.size_extract];omega
  · exact Nat.zero_le _
theorem take_part (s:ByteArray) (h0:0<s.size) (hs:s.size≤1000) (ha:Asc s):Af Tryz.prog 97 [.str fun _=>s] [] (.tup [encP fun _=>(takeV s).1,.str fun _=>(takeV s).2.1,.bool fun _=>(takeV s).2.2]) []:=by
  have h1:=end_ok s 1 h0 (by omega) ha
  have hb:=endP_le (s:=s) (i:=1) h0
  have h2:=HasPrefix_ok s allT
  have hpl:prefB s allT=true→3≤s.size:=fun h=>prefB_le h
  unfold takeV
  obtain ⟨n,hn⟩:∃ n,n=endP s 1:=⟨_,rfl⟩
  rw [← hn] at h1 hb ⊢
  clear hn
  have hby:byt s 0=byt s 0:=rfl
  cases c1:prefB s allT with
  | true =>
    rw [c1] at h2
    have hpl:=hpl c1
    rw [if_pos rfl]
    dsimp only
    (apply Af.of tF mF [.cell 2 71,.tmp 3,.tmp 4] kp97 [(2,[(1,.int .i64 fun _=>n,[(1001,.box [.str fun _=>s])])]),(3,[(1,.bool fun _=>true,[])])] Tryz.func97 (fun _=>?_);(any_goals ((with_reducible refine wI ?_);cbv;(try dsimp only [nc] at *);(repeat' (with_reducible first|exact aO|exact oN|refine oC ?_ ?_|refine VC.mk rfl ?_ ?_ ?_|(apply Ca.mk<;>intro _)|(apply Cv.mk<;>intro zq<;>(try simp only [nc,cl] at zq)<;>(try simp only [bl,dl] at zq)<;>(revert zq;intro _))|((first|apply xE|apply uE);cbv;(try dsimp only [nc] at *)))))))
    any_goals ((with_reducible refine nO ?_);first|exact h1|exact h2)
    all_goals (try (exact absurd trivial ‹¬True›))
    all_goals (try (exact absurd ‹False› id))
    ((all_goals (try (with_reducible ((first|refine rE ?_|refine nE ?_);(focus (cbv;(try dsimp only [nc] at *);(try simp only [wl,nc]);(repeat' (with_reducible apply And.intro));all_goals (try exact wZ)))))));(all_goals (try ((with_reducible rw [aC]);(try simp only [wl,nc]);(repeat' (with_reducible apply And.intro));(all_goals (try exact cZ))))))
    all_goals rfl
  | false =>
    rw [c1] at h2
    rw [if_neg (by simp)]
    by_cases c2:byt s 0=46
    · rw [if_pos c2]
      dsimp only
      (apply Af.of tF mF [.cell 2 71,.tmp 3,.tmp 4] kp97 [(2,[(1,.int .i64 fun _=>n,[(1001,.box [.str fun _=>s])])]),(3,[(1,.bool fun _=>false,[])])] Tryz.func97 (fun _=>?_);(any_goals ((with_reducible refine wI ?_);cbv;(try dsimp only [nc] at *);(repeat' (with_reducible first|exact aO|exact oN|refine oC ?_ ?_|refine VC.mk rfl ?_ ?_ ?_|(apply Ca.mk<;>intro _)|(apply Cv.mk<;>intro zq<;>(try simp only [nc,cl] at zq)<;>(try simp only [bl,dl] at zq)<;>(revert zq;intro _))|((first|apply xE|apply uE);cbv;(try dsimp only [nc] at *)))))))
      all_goals (try simp only [ite_self])
      any_goals ((with_reducible first|refine nO ?_|refine sO (fun _=>?_));first|exact h1|exact h2)
      all_goals (try (exact absurd ‹False› id))
      all_goals (try (exact absurd c2 ‹¬ (((s.data[Int.toNat 0]?).getD 0).toNat:Int)=46›))
      ((all_goals (try (with_reducible ((first|refine rE ?_|refine nE ?_);(focus (cbv;(try dsimp only [nc] at *);(try simp only [wl,nc]);(repeat' (with_reducible apply And.intro));all_goals (try exact wZ)))))));(all_goals (try ((with_reducible rw [aC]);(try simp only [wl,nc]);(repeat' (with_reducible apply And.intro));(all_goals (try exact cZ))))))
      all_goals first
        | rfl
        | trace_state
    · rw [if_neg c2]
      by_cases c3:byt s 0=63
      · rw [if_pos c3]
        dsimp only
        (apply Af.of tF mF [.cell 2 71,.tmp 3,.tmp 4] kp97 [(2,[(1,.int .i64 fun _=>n,[(1001,.box [.str fun _=>s])])]),(3,[(1,.bool fun _=>false,[])])] Tryz.func97 (fun _=>?_);(any_goals ((with_reducible refine wI ?_);cbv;(try dsimp only [nc] at *);(repeat' (with_reducible first|exact aO|exact oN|refine oC ?_ ?_|refine VC.mk rfl ?_ ?_ ?_|(apply Ca.mk<;>intro _)|(apply Cv.mk<;>intro zq<;>(try simp only [nc,cl] at zq)<;>(try simp only [bl,dl] at zq)<;>(revert zq;intro _))|((first|apply xE|apply uE);cbv;(try dsimp only [nc] at *)))))))
        all_goals (try simp only [ite_self])
        any_goals ((with_reducible first|refine nO ?_|refine sO (fun _=>?_));first|exact h1|exact h2)
        all_goals (try (exact absurd ‹False› id))
        all_goals (try (exact absurd ‹(((s.data[Int.toNat 0]?).getD 0).toNat:Int)=46› c2))
        all_goals (try (exact absurd c3 ‹¬ (((s.data[Int.toNat 0]?).getD 0).toNat:Int)=63›))
        ((all_goals (try (with_reducible ((first|refine rE ?_|refine nE ?_);(focus (cbv;(try dsimp only [nc] at *);(try simp only [wl,nc]);(repeat' (with_reducible apply And.intro));all_goals (try exact wZ)))))));(all_goals (try ((with_reducible rw [aC]);(try simp only [wl,nc]);(repeat' (with_reducible apply And.intro));(all_goals (try exact cZ))))))
        all_goals first
          | rfl
          | trace_state
      · rw [if_neg c3]
        have h3:=Cut_ok (s.extract 1 s.size) rbT (by rw [ByteArray.size_extract];omega)
        have hcl:=cut_le (s.extract 1 s.size) rbT
        have hxs:(s.extract 1 s.size).size≤1000:=by rw [ByteArray.size_extract];omega
        generalize cutL (s.extract 1 s.size) rbT=q at *
        have h4:=Atoi_ok q.1 (by omega)
        have h4b:=atoiV_le q.1
        generalize atoiV q.1=a at *
        have h5:=Itoa_ok a.1 h4b.1 h4b.2
        generalize itoaB a.1=z at *
        obtain ⟨q1,q2,q3⟩:=q
        obtain ⟨a1,a2⟩:=a
        dsimp only at h3 h4 h5 hcl ⊢
        obtain ⟨R,hR⟩:∃ R,R=(decide (byt s 0=91) && (q3 && (a2 && decide (z=q1)))):=⟨_,rfl⟩
        rw [← hR]
        (apply Af.of tF mF [.cell 2 71,.tmp 3,.tmp 4] kp97 [(2,[(1,.int .i64 fun _=>n,[(1001,.box [.str fun _=>s])])]),(3,[(1,.bool fun _=>false,[])]),(9,[(2,.tup [.str fun _=>q1,.str fun _=>q2,.bool fun _=>q3],[])]),(10,[(1,.tup [.int .i64 fun _=>a1,.ifc fun _=>a2],[])]),(11,[(15,.str fun _=>z,[])])] Tryz.func97 (fun _=>?_);(any_goals ((with_reducible refine wI ?_);cbv;(try dsimp only [nc] at *);(repeat' (with_reducible first|exact aO|exact oN|refine oC ?_ ?_|refine VC.mk rfl ?_ ?_ ?_|(apply Ca.mk<;>intro _)|(apply Cv.mk<;>intro zq<;>(try simp only [nc,cl] at zq)<;>(try simp only [bl,dl] at zq)<;>(revert zq;intro _))|((first|apply xE|apply uE);cbv;(try dsimp only [nc] at *)))))))
        all_goals (try simp only [ite_self])
        any_goals ((with_reducible first|refine nO ?_|refine sO (fun _=>?_));first|exact h1|exact h2|exact h3|exact h4|exact h5)
        all_goals (try (exact absurd ‹False› id))
        all_goals (try (exact absurd ‹(((s.data[Int.toNat 0]?).getD 0).toNat:Int)=46› c2))
        all_goals (try (exact absurd ‹(((s.data[Int.toNat 0]?).getD 0).toNat:Int)=63› c3))
        ((all_goals (try (with_reducible ((first|refine rE ?_|refine nE ?_);(focus (cbv;(try dsimp only [nc] at *);(try simp only [wl,nc]);(repeat' (with_reducible apply And.intro));all_goals (try exact wZ)))))));(all_goals (try ((with_reducible rw [aC]);(try simp only [wl,nc]);(repeat' (with_reducible apply And.intro));(all_goals (try exact cZ))))))
        rw [hR]
        show (if (if (if (byt s 0 == 91)=true then q3 else false)=true then a2 else false)=true then decide (z=q1) else false)=_
        by_cases h:byt s 0=91<;>cases q3<;>cases a2<;>simp [h]
end Go.Ai
