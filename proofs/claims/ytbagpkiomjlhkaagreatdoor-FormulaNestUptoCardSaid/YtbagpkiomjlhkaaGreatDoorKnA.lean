/- Chapter 17: literals: integers, Text. -/
import Derived.Test.YtbagpkiomjlhkaaGreatDoorValB
import Derived.Test.YtbagpkiomjlhkaaGreatDoorWide
import Derived.Test.YtbagpkiomjlhkaaGreatDoorDec
import Derived.Test.YtbagpkiomjlhkaaGreatDoorRdI
import Derived.Test.YtbagpkiomjlhkaaGreatDoorChkB
import Derived.KernelRfl
import Derived.Test.YtbagpkiomjlhkaaGreatDoorTxD
set_option linter.all false
namespace Go.Ai
open Go Go.Proofs
set_option maxRecDepth 100000
set_option maxHeartbeats 4000000
theorem limited_ok (t:ByteArray):Af Tryz.prog 101 [.str fun _=>t] [] (.tup [.str fun _=>if t.size≤65536 then t else ⟨#[]⟩,.int .i64 fun _=>if t.size≤65536 then 0 else 5]) []:=by
  (apply Af.of tF mF [.tmp 2,.tmp 3] kp101 [] Tryz.func101 (fun _=>?_);(any_goals ((with_reducible refine wI ?_);cbv;(try dsimp only [nc] at *);(repeat' (with_reducible first|exact aO|exact oN|refine oC ?_ ?_|refine VC.mk rfl ?_ ?_ ?_|(apply Ca.mk<;>intro _)|(apply Cv.mk<;>intro zq<;>(try simp only [nc,cl] at zq)<;>(try simp only [bl,dl] at zq)<;>(revert zq;intro _))|((first|apply xE|apply uE);cbv;(try dsimp only [nc] at *)))))))
  ((all_goals (try (with_reducible ((first|refine rE ?_|refine nE ?_);(focus (cbv;(try dsimp only [nc] at *);(try simp only [wl,nc]);(repeat' (with_reducible apply And.intro));all_goals (try exact wZ)))))));(all_goals (try ((with_reducible rw [aC]);(try simp only [wl,nc]);(repeat' (with_reducible apply And.intro));(all_goals (try exact cZ))))))
  all_goals (try (rw [if_neg (by omega)]))
  all_goals (try (rw [if_pos (by omega)]))
theorem litText_ok (e:Nat) (v:V) (ck:Int) (t:ByteArray) (h1:Af Tryz.prog 99 [encV (e+1) .any fun _=>v] [] (.int .i64 fun _=>ck) []) (hc:ck=0) (h2:Af Tryz.prog 102 [encV (e+1) .any fun _=>v] [] (.str fun _=>t) []) :
    Af Tryz.prog 48 [encV (e+1) .any fun _=>v] [] (.tup [.str fun _=>if t.size≤65536 then t else ⟨#[]⟩,.int .i64 fun _=>if t.size≤65536 then 0 else 5]) []:=by
  have h3:=limited_ok t
  obtain ⟨r,hr⟩:∃ r:ByteArray,r=if t.size≤65536 then t else ⟨#[]⟩:=⟨_,rfl⟩
  obtain ⟨n,hn⟩:∃ n:Int,n=if t.size≤65536 then 0 else 5:=⟨_,rfl⟩
  rw [← hr,← hn] at h3 ⊢
  subst hc
  (apply Af.of tF mF [.tmp 2,.tmp 3] kp48 [(1,[(1,.int .i64 fun _=>0,[])]),(2,[(4,.bool fun _=>true,[])]),(4,[(1,.str fun _=>t,[]),(2,.tup [.str fun _=>r,.int .i64 fun _=>n],[])])] Tryz.func48 (fun _=>?_);(any_goals ((with_reducible refine wI ?_);cbv;(try dsimp only [nc] at *);(repeat' (with_reducible first|exact aO|exact oN|refine oC ?_ ?_|refine VC.mk rfl ?_ ?_ ?_|(apply Ca.mk<;>intro _)|(apply Cv.mk<;>intro zq<;>(try simp only [nc,cl] at zq)<;>(try simp only [bl,dl] at zq)<;>(revert zq;intro _))|((first|apply xE|apply uE);cbv;(try dsimp only [nc] at *)))))))
  all_goals (try (exact absurd trivial ‹¬True›))
  any_goals ((with_reducible refine nO ?_);first|exact h1|exact h2|exact h3)
  any_goals (with_reducible refine sO (fun hg=>?_);exact absurd hg (by decide))
  ((all_goals (try (with_reducible ((first|refine rE ?_|refine nE ?_);(focus (cbv;(try dsimp only [nc] at *);(try simp only [wl,nc]);(repeat' (with_reducible apply And.intro));all_goals (try exact wZ)))))));(all_goals (try ((with_reducible rw [aC]);(try simp only [wl,nc]);(repeat' (with_reducible apply And.intro));(all_goals (try exact cZ))))))
  all_goals trace_state
theorem lit_int (e:Nat) (v:V) (hk:v.kind=2) (hn : -9223372036854775808≤v.int∧v.int≤9223372036854775807):Af Tryz.prog 102 [encV (e+1) .any fun _=>v] [] (.str fun _=>itoaB v.int) []:=by
  have h1:=Itoa_ok v.int hn.1 hn.2
  generalize itoaB v.int=t at *
  (apply Af.of tF mF [.tmp 2] kp102 [(6,[(3,.any,[])]),(8,[(2,.str fun _=>t,[])]),(10,[(4,.any,[])]),(15,[(2,.any,[])]),(17,[(2,.any,[])]),(19,[(2,.any,[])]),(20,[(1,.any,[])]),(22,[(2,.any,[])]),(23,[(1,.any,[])]),(38,[(7,.any,[])])] Tryz.func102 (fun _=>?_);(any_goals ((with_reducible refine wI ?_);cbv;(try dsimp only [nc] at *);(repeat' (with_reducible first|exact aO|exact oN|refine oC ?_ ?_|refine VC.mk rfl ?_ ?_ ?_|(apply Ca.mk<;>intro _)|(apply Cv.mk<;>intro zq<;>(try simp only [nc,cl] at zq)<;>(try simp only [bl,dl] at zq)<;>(revert zq;intro _))|((first|apply xE|apply uE);cbv;(try dsimp only [nc] at *)))))))
  all_goals (try (exfalso;omega))
  any_goals ((with_reducible refine nO ?_);exact h1)
  ((all_goals (try (with_reducible ((first|refine rE ?_|refine nE ?_);(focus (cbv;(try dsimp only [nc] at *);(try simp only [wl,nc]);(repeat' (with_reducible apply And.intro));all_goals (try exact wZ)))))));(all_goals (try ((with_reducible rw [aC]);(try simp only [wl,nc]);(repeat' (with_reducible apply And.intro));(all_goals (try exact cZ))))))
  all_goals trace_state
def exT:ByteArray:=⟨#[110,111,116,32,97,32,61,32,49,32,111,114,32,98,32,105,110,32,40,50,44,32,51,41,32,97,110,100,32,104,97,115,40,99,46,100,41]⟩
def dec1 (t:ByteArray):Int×Int×Int:=(byt t 0 - 48,0,0)
theorem dec1_dig {s:ByteArray} {i:Nat} (h:digB (byt s i)=true) :
    Af Tryz.prog 167 [.str fun _=>s.extract i (i+1)] [] (.tup [.agg [.int .i64 fun _=>(dec1 (s.extract i (i+1))).1,.int .i64 fun _=>(dec1 (s.extract i (i+1))).2.1],.int .i64 fun _=>0]) []∧(dec1 (s.extract i (i+1))).2.2=0:=by
  obtain ⟨c,hx,hc⟩:=dig_text h
  have h1:=(dec_dig h).1
  have h2:dV (s.extract i (i+1))=dec1 (s.extract i (i+1)):=by
    rw [hx]
    unfold dV
    rw [(decP_dig hc).1]
    rfl
  rw [h2] at h1
  exact ⟨h1,rfl⟩
theorem plain_of {s:ByteArray} (h0:s.size≤65536) (h:(List.range (s.size+1)).all (fun i=>byt s i != 34 && (!digB (byt s i) || (!digB (byt s (i+1)) && byt s (i+1) != 46 && byt s (i+1) != 100)))=true):PlainT dec1 s:=by
  have hb:∀ i,s.size≤i→byt s i=0:=fun i hi=>by
    unfold byt
    rw [Array.getElem?_eq_none hi];rfl
  have key:∀ i,(byt s i != 34 && (!digB (byt s i) || (!digB (byt s (i+1)) && byt s (i+1) != 46 && byt s (i+1) != 100)))=true:=fun i=>by
    by_cases hi:i<s.size+1
    · exact List.all_eq_true.1 h i (List.mem_range.2 hi)
    · rw [hb i (by omega)];rfl
  refine ⟨h0,fun i=>?_,fun i hd=>?_,fun i hd=>dec1_dig hd⟩
  · have:=key i
    simp only [Bool.and_eq_true,bne_iff_ne] at this
    exact this.1
  · have:=key i
    rw [hd] at this
    simp at this
    exact ⟨this.2.1.1,this.2.1.2,this.2.2⟩
def exL:List Tok:=(scanV dec1 exT).getD []
theorem exL_some:scanV dec1 exT=some exL:=by kernel_rfl
theorem ex_plain:PlainT dec1 exT:=plain_of (by decide) (by decide)
def bA:ByteArray:=⟨#[97]⟩
def bB:ByteArray:=⟨#[98]⟩
def bCD:ByteArray:=⟨#[99,46,100]⟩
theorem peA:peV bA=0:=by kernel_rfl
theorem peB:peV bB=0:=by kernel_rfl
theorem peCD:peV bCD=0:=by kernel_rfl
def pe1 (t:ByteArray):Int:=if t=bA∨t=bB∨t=bCD then 0 else peV t
theorem pe1_eq:peV=pe1:=by
  funext t
  unfold pe1
  split
  · rename_i h
    rcases h with rfl|rfl|rfl
    · exact peA
    · exact peB
    · exact peCD
  · rfl
def xPath (t:ByteArray):X:=.mk 2 0 t [] []
def xInt (n:Int):X:=.mk 1 0 ⟨#[]⟩ [sc 2 n 0 ⟨#[]⟩] []
def exX:X:=.mk 5 0 ⟨#[]⟩ [] [.mk 3 0 ⟨#[]⟩ [] [.mk 6 0 ⟨#[]⟩ [] [xPath bA,xInt 1]],.mk 4 0 ⟨#[]⟩ [] [.mk 25 0 ⟨#[]⟩ [] [xPath bB,xInt 2,xInt 3],.mk 22 0 bCD [] []]]
theorem ex_read:(exprV pe1 (.mk exL 0 0 0)).1=exX∧(exprV pe1 (.mk exL 0 0 0)).2.s.e=0∧(exprV pe1 (.mk exL 0 0 0)).2.s.peek.kind=0:=by
  refine ⟨by kernel_rfl,by kernel_rfl,by kernel_rfl⟩
theorem pathV_len (s:ByteArray):(pathV s).1.length≤16:=by
  unfold pathV
  repeat' split
  all_goals (dsimp only;(try simp only [List.length_nil]);first|omega|exact Nat.zero_le _)
def ckPl (e:Nat) (v:V):Int:=checkE (fun _=>true) (preV (e+1) 1 v)
def oneP (e:Nat):X→Int:=oneX (ckPl e) pathV
structure PlX (e:Nat) (x:X):Prop where
  asc:pathX x.op=true→Asc x.text
  val:x.op=1→x.value.length=1→V.le (e+1) (x.value.getD 0 default)∧∀ p ∈ preV (e+1) 1 (x.value.getD 0 default),p.2.2.kind≠4
theorem oneP_ok (e:Nat) (he:e+1≤1073741824) (D:Nat) (x:X) (hx:X.le (e+1) (D+1) x) (hp:PlX e x):Af Tryz.prog 42 [encX (e+1) (D+1) .any fun _=>x] [] (.int .i64 fun _=>oneP e x) []:=by
  refine one_ok (ckPl e) pathV e (D+1) x ⟨hx.2.1,hx.2.2.1⟩ (fun h=>⟨pathParse_ok x.text (Nat.le_trans hx.1 (by decide)) (hp.asc h),Nat.le_trans (pathV_len _) (by decide)⟩) (fun h1 h2=>?_)
  obtain ⟨h3,h4⟩:=hp.val h1 h2
  exact Check_ok (fun _=>true) e _ h3 he fun p hp hk=>absurd hk (h4 p hp)
theorem checkP_ok (e:Nat) (he:e+1≤1073741824) (D:Nat) (x:X) (hx:X.le (e+1) (D+1) x) (hp:X.all (PlX e) 9 x):Af Tryz.prog 15 [encX (e+1) (D+1) .any fun _=>x] [] (.int .i64 fun _=>ckX (oneP e) x) [] :=
  exprCheck_ok (oneP e) e (PlX e) (fun D x h1 h2=>oneP_ok e he D x h1 h2) D x hx hp
def plB:Nat→X→Bool
  | 0,_=>true
  | k+1,x=>x.text.data.toList.all (fun b=>decide (b.toNat<128)) && (x.value.all (fun v=>v.list.isEmpty && v.fields.isEmpty && decide (v.text.size≤1000) && decide (v.kind≠4)) && x.args.all (plB k))
theorem plB_ok {e:Nat}:∀ {k:Nat} {x:X},plB k x=true→X.all (PlX e) k x
  | 0,_,_=>trivial
  | k + 1,x,h=>by
    simp only [plB,Bool.and_eq_true,List.all_eq_true] at h
    obtain ⟨h1,h2,h3⟩:=h
    refine ⟨⟨fun _ b hb=>of_decide_eq_true (h1 b hb),fun _ hl=>?_⟩,fun y hy=>plB_ok (h3 y hy)⟩
    obtain ⟨v,hv⟩:∃ v,x.value=[v]:=List.length_eq_one_iff.1 hl
    have q:=h2 v (by rw [hv];exact List.mem_singleton.2 rfl)
    obtain ⟨⟨⟨q1,q2⟩,q3⟩,q4⟩:=q
    rw [hv]
    have l1:v.list=[]:=List.isEmpty_iff.1 q1
    have l2:v.fields=[]:=List.isEmpty_iff.1 q2
    have q3:=of_decide_eq_true q3
    have q4:=of_decide_eq_true q4
    refine ⟨?_,?_⟩
    · show V.le (e+1) v
      unfold V.le
      rw [l1,l2]
      exact ⟨Nat.zero_le _,Nat.zero_le _,Nat.le_trans q3 (by decide),fun x hx=>(by cases hx),fun x hx=>(by cases hx)⟩
    · intro p hp
      show p.2.2.kind≠4
      have e0:preV (e+1) 1 ([v].getD 0 default)=[(1,e,v)]:=by
        show (1,e,v) :: ((kz v).map (preV e (1+1))).flatten=_
        unfold kz
        rw [l1,l2];simp
      rw [e0] at hp
      rw [List.mem_singleton.1 hp];exact q4
theorem ex_plx:X.all (PlX 0) 9 exX:=plB_ok (by kernel_rfl)
def leB:Nat→X→Bool
  | 0,_=>false
  | d+1,x=>decide (x.text.size≤1000) && (decide (x.value.length≤1000) && (decide (x.args.length≤1000) && (x.value.all (fun v=>v.list.isEmpty && v.fields.isEmpty && decide (v.text.size≤1000)) && x.args.all (leB d))))
theorem leB_ok {e:Nat}:∀ {d:Nat} {x:X},leB d x=true→X.le (e+1) d x
  | 0,_,h=>by cases h
  | d+1,x,h=>by
    simp only [leB,Bool.and_eq_true,List.all_eq_true] at h
    obtain ⟨h1,h2,h3,h4,h5⟩:=h
    have h1:=of_decide_eq_true h1
    have h2:=of_decide_eq_true h2
    have h3:=of_decide_eq_true h3
    refine ⟨by omega,by omega,by omega,fun v hv=>?_,fun y hy=>leB_ok (h5 y hy)⟩
    obtain ⟨⟨q1,q2⟩,q3⟩:=h4 v hv
    have l1:v.list=[]:=List.isEmpty_iff.1 q1
    have l2:v.fields=[]:=List.isEmpty_iff.1 q2
    have q3:=of_decide_eq_true q3
    unfold V.le
    rw [l1,l2]
    exact ⟨Nat.zero_le _,Nat.zero_le _,Nat.le_trans q3 (by decide),fun x hx=>(by cases hx),fun x hx=>(by cases hx)⟩
end Go.Ai
