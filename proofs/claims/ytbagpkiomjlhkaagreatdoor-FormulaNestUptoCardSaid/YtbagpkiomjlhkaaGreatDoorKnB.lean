/- Chapter 17: known. -/
import Derived.Test.YtbagpkiomjlhkaaGreatDoorKnA
set_option linter.all false
namespace Go.Ai
open Go Go.Proofs
set_option maxRecDepth 100000
set_option maxHeartbeats 4000000
theorem ex_parse:parseF pe1 (ckX (oneP 0)) exL=(exX,0,0,0):=by kernel_rfl
def tokB (t:Tok):Bool:=decide (t.text.size≤65536) && (decide (-1000000000000000≤t.num∧t.num≤1000000000000000) && (decide (t.kind≠3) && (decide (t.kind≠4) && (decide (t.text≠dateT) && (decide (t.text≠timeT) && t.text.data.toList.all (fun b=>decide (b.toNat<128)))))))
theorem tokB_ok {t:Tok} (h:tokB t=true):PlTok t:=by
  simp only [tokB,Bool.and_eq_true,List.all_eq_true,decide_eq_true_eq] at h
  obtain ⟨h1,h2,h3,h4,h5,h6,h7⟩:=h
  exact ⟨h1,h2,h3,h4,h5,h6,h7⟩
theorem ex_oks:OkS PlTok (.mk exL 0 0 0):=by
  have hl:exL.getLast?.map (·.kind)=some 0:=by kernel_rfl
  refine ⟨fun t ht=>?_,?_,?_,fun t ht=>tokB_ok ?_⟩
  · have ht:exL.getLast? = some t:=ht
    rw [ht] at hl
    exact Option.some.inj hl
  · exact of_decide_eq_true (by kernel_rfl)
  · intro h
    have h:exL=[]:=h
    rw [h] at hl;cases hl
  · have:exL.all tokB=true:=by kernel_rfl
    exact List.all_eq_true.1 this t ht
theorem exParse_ok (D:Nat) (hD:65599≤D):Af Tryz.prog 24 [.str fun _=>exT] [] (.tup [encX 1 (D+1) .any fun _=>exX,.int .i64 fun _=>0,.int .i64 fun _=>0,.int .i64 fun _=>0]) []:=by
  have h:=parse_ok (pe:=pe1) (fun t ht=>by rw [← pe1_eq] at ht;exact peV_size t ht) (fun t h1 h2=>by rw [← pe1_eq];exact path43_ok t h1 h2) (e:=0) (D:=D+1) (by omega) (ck:=ckX (oneP 0)) ex_plain exL exL_some ex_oks (fun _=>by
    rw [ex_read.1]
    exact checkP_ok 0 (by decide) D exX (X.le_mono (c:=5) (leB_ok (by kernel_rfl)) (by omega)) ex_plx)
  rw [ex_parse] at h
  exact h
def LeC (a a':AV):Prop:=(a.cell=true→a'.cell=true)∧∀ (w:World) (D:Nat→Prop) (B:Nat) (v:Value),RD w D B a v→RD w D B a' v
theorem LeC.rfl {a:AV}:LeC a a:=⟨id,fun _ _ _ _ h=>h⟩
theorem LeC.nil {fr:FB} {sz:Nat} {n:Unit→Nat} {f:(Unit→Nat)→List AV} (h:n ()=0):LeC .nil (.slc fr sz n f):=⟨fun _=>by cbv,fun w D B v hv=>by cases hv;exact .empty _ _ _ _ none 0 h (Nat.zero_le _)⟩
theorem LeC.slc {fr:FB} {sz:Nat} {n n':Unit→Nat} {f f':(Unit→Nat)→List AV} (hn:n ()=n' ()) (hl:∀ i,i<n ()→LeL (f fun _=>i) (f' fun _=>i)):LeC (.slc fr sz n f) (.slc .any sz n' f') :=
  ⟨fun _=>by cbv,fun w D B v h=>by
    cases h with
    | empty _ _ _ _ p cap h0 hc=>exact .empty _ _ _ _ p cap (by omega) hc
    | slc _ _ _ _ b o cap c h1 hc hD hB hcell hlen hone hel=>exact rd_slcX (.slc .any sz n f b o cap c h1 hc hD trivial hcell hlen hone hel) hn hl⟩
theorem LeL.nil:LeL [] []:=.of_eq (Eq.refl _)
theorem LeL.cons {a a':AV} {l l':List AV} (h:LeC a a') (hl:LeL l l'):LeL (a :: l) (a' :: l'):=by
  refine ⟨by simp [hl.1],fun q=>?_,fun w D B j av av' v h1 h2 h3=>?_⟩
  · simp only [List.all_cons,Bool.and_eq_true] at q ⊢
    exact ⟨h.1 q.1,hl.2.1 q.2⟩
  · cases j with
    | zero=>simp at h1 h2;subst h1;subst h2;exact h.2 w D B v h3
    | succ j=>exact hl.2.2 w D B j av av' v (by simpa using h1) (by simpa using h2) h3
theorem path23_ok (t:ByteArray) (D:Nat):Af Tryz.prog 23 [.str fun _=>t] [] (encX 1 (D+1) .any fun _=>xPath t) []:=by
  (apply Af.of tF mF [.cell 2 25] kp23 [] Tryz.func23 (fun _=>?_);(any_goals ((with_reducible refine wI ?_);cbv;(try dsimp only [nc] at *);(repeat' (with_reducible first|exact aO|exact oN|refine oC ?_ ?_|refine VC.mk rfl ?_ ?_ ?_|(apply Ca.mk<;>intro _)|(apply Cv.mk<;>intro zq<;>(try simp only [nc,cl] at zq)<;>(try simp only [bl,dl] at zq)<;>(revert zq;intro _))|((first|apply xE|apply uE);cbv;(try dsimp only [nc] at *)))))))
  ((all_goals (try (with_reducible ((first|refine rE ?_|refine nE ?_);(focus (cbv;(try dsimp only [nc] at *);(try simp only [wl,nc]);(repeat' (with_reducible apply And.intro));all_goals (try exact wZ)))))));(all_goals (try ((with_reducible rw [aC]);(try simp only [wl,nc]);(repeat' (with_reducible apply And.intro));(all_goals (try exact cZ))))))
  all_goals rfl
theorem sc_cells (n:Int):LeL [.int .i64 fun _=>2,.int .i64 fun _=>n,.int .i64 fun _=>0,.str fun _=>⟨#[]⟩,.nil,.nil] (cells 1 .any fun _=>sc 2 n 0 ⟨#[]⟩) :=
  .cons .rfl (.cons .rfl (.cons .rfl (.cons .rfl (.cons (.nil (Eq.refl _)) (.cons (.nil (Eq.refl _)) .nil)))))
theorem number36_ok (n:Int) (D:Nat):Af Tryz.prog 36 [.int .i64 fun _=>n] [] (encX 1 (D+1) .any fun _=>xInt n) []:=by
  (apply Af.of tF mF [.cell 2 25] kp36 [] Tryz.func36 (fun _=>?_);(any_goals ((with_reducible refine wI ?_);cbv;(try dsimp only [nc] at *);(repeat' (with_reducible first|exact aO|exact oN|refine oC ?_ ?_|refine VC.mk rfl ?_ ?_ ?_|(apply Ca.mk<;>intro _)|(apply Cv.mk<;>intro zq<;>(try simp only [nc,cl] at zq)<;>(try simp only [bl,dl] at zq)<;>(revert zq;intro _))|((first|apply xE|apply uE);cbv;(try dsimp only [nc] at *)))))))
  ((all_goals (try (with_reducible ((first|refine rE ?_|refine nE ?_);(focus (cbv;(try dsimp only [nc] at *);(try simp only [wl,nc]);(repeat' (with_reducible apply And.intro));all_goals (try exact wZ)))))));(all_goals (try ((with_reducible rw [aC]);(try simp only [wl,nc]);(repeat' (with_reducible apply And.intro));(all_goals (try exact cZ))))))
  any_goals (first|rfl|skip)
  intro i hi
  obtain rfl:i=0:=by omega
  exact sc_cells n
def exY:X:=.mk 13 0 ⟨#[]⟩ [] [xPath bA,.mk 13 0 ⟨#[]⟩ [] [xPath bB,.mk 16 0 ⟨#[]⟩ [] [xInt 5]]]
def exTx:ByteArray:=⟨#[97,32,45,32,40,98,32,45,32,45,40,53,41,41]⟩
theorem known_ok (hp:∀ D,10≤D→Af Tryz.prog 14 [encX 1 (D+1) .any fun _=>exY] [] (.tup [.str fun _=>exTx,.int .i64 fun _=>0]) []):Af Tryz.prog 12 [] [] (.bool fun _=>true) []:=by
  obtain ⟨D,hD⟩:∃ D,65599≤D:=⟨_,Nat.le_refl _⟩
  have h1:=exParse_ok (D+2) (by omega)
  have h2:=path23_ok bA (D+2)
  have h3:=path23_ok bB (D+2)
  have h4:=number36_ok 5 (D+2)
  have hD1:10≤D:=by omega
  clear hD
  (apply Af.of tF mF [.tmp 0] kp12 [(1,[(0,.tup [encX 1 (D+3) .any fun _=>exX,.int .i64 fun _=>0,.int .i64 fun _=>0,.int .i64 fun _=>0],[])]),(2,[(0,encX 1 (D+3) .any fun _=>xPath bA,[]),(1,encX 1 (D+3) .any fun _=>xPath bB,[]),(2,encX 1 (D+3) .any fun _=>xInt 5,[]),(3,.nil,[]),(5,.nil,[]),(7,.nil,[])]),(3,[(1,.tup [.str fun _=>exTx,.int .i64 fun _=>0],[])])] Tryz.func12 (fun _=>?_);(any_goals ((with_reducible refine wI ?_);cbv;(try dsimp only [nc] at *);(repeat' (with_reducible first|exact aO|exact oN|refine oC ?_ ?_|refine VC.mk rfl ?_ ?_ ?_|(apply Ca.mk<;>intro _)|(apply Cv.mk<;>intro zq<;>(try simp only [nc,cl] at zq)<;>(try simp only [bl,dl] at zq)<;>(revert zq;intro _))|((first|apply xE|apply uE);cbv;(try dsimp only [nc] at *)))))))
  any_goals ((with_reducible refine nO ?_);first|exact h1|exact h2|exact h3|exact h4 )
  any_goals ((with_reducible refine nO ?_);(refine Af.wN (hp (D+2) (by omega)) ?_);(focus (cbv;(try dsimp only [nc] at *);(try simp only [wl,nc]);(repeat' (with_reducible apply And.intro));all_goals (try exact wZ))))
  ((all_goals (try (with_reducible ((first|refine rE ?_|refine nE ?_);(focus (cbv;(try dsimp only [nc] at *);(try simp only [wl,nc]);(repeat' (with_reducible apply And.intro));all_goals (try exact wZ)))))));(all_goals (try ((with_reducible rw [aC]);(try simp only [wl,nc]);(repeat' (with_reducible apply And.intro));(all_goals (try exact cZ))))))
  have la:∀ (y:X) (d d':Nat),leB 1 y=true→1≤d→1≤d'→LeL (cellsX 1 d .any fun _=>y) (cellsX 1 d' .any fun _=>y):=fun y d d' h h1 h2=>cellsX_mv 1 (fun _=>y) (leB_ok h) d d' h1 h2
  intro i hi
  rcases i with _|_|i
  · exact la (xPath bA) (D+3) (D+2) (by kernel_rfl) (by omega) (by omega)
  · refine .cons .rfl (.cons .rfl (.cons .rfl (.cons (.nil (Eq.refl _)) (.cons (.slc (Eq.refl _) fun i hi=>?_) .nil))))
    rcases i with _|_|i
    · exact la (xPath bB) (D+3) (D+1) (by kernel_rfl) (by omega) (by omega)
    · refine .cons .rfl (.cons .rfl (.cons .rfl (.cons (.nil (Eq.refl _)) (.cons (.slc (Eq.refl _) fun i hi=>?_) .nil))))
      obtain rfl:i=0:=by omega
      exact la (xInt 5) (D+3) D (by kernel_rfl) (by omega) (by omega)
    · omega
  · omega
def litI (v:V):ByteArray:=if (itoaB v.int).size≤65536 then itoaB v.int else ⟨#[]⟩
def intB (v:V):Bool:=v.list.isEmpty && (v.fields.isEmpty && (decide (v.text.size≤1000) && decide (v.kind=2∧v.scale=0∧v.text.size=0 ∧ -999999999999999≤v.int∧v.int≤999999999999999)))
theorem intB_lit {e:Nat} (he:e+1≤1073741824) {v:V} (h:intB v=true) (hck:ckPl e v=0):Af Tryz.prog 48 [encV (e+1) .any fun _=>v] [] (.tup [.str fun _=>litI v,.int .i64 fun _=>if (itoaB v.int).size≤65536 then 0 else 5]) []:=by
  simp only [intB,Bool.and_eq_true] at h
  obtain ⟨q1,q2,q3,q4⟩:=h
  have l1:v.list=[]:=List.isEmpty_iff.1 q1
  have l2:v.fields=[]:=List.isEmpty_iff.1 q2
  have q3:=of_decide_eq_true q3
  obtain ⟨k1,k2,k3,k4,k5⟩:=of_decide_eq_true q4
  have hle:V.le (e+1) v:=by
    unfold V.le
    rw [l1,l2]
    exact ⟨Nat.zero_le _,Nat.zero_le _,Nat.le_trans q3 (by decide),fun x hx=>(by cases hx),fun x hx=>(by cases hx)⟩
  have e0:preV (e+1) 1 v=[(1,e,v)]:=by
    show (1,e,v) :: ((kz v).map (preV e (1+1))).flatten=_
    unfold kz
    rw [l1,l2];simp
  have h1:=Check_ok (fun _=>true) e v hle he (fun p hp hk=>by
    rw [e0] at hp
    rw [List.mem_singleton.1 hp] at hk
    exact absurd (k1.symm.trans hk) (by decide))
  exact litText_ok e v (ckPl e v) (itoaB v.int) h1 hck (lit_int e v k1 ⟨by omega,by omega⟩)
instance (x:X):Decidable (shpX x):=by unfold shpX;infer_instance
def shpB:Nat→X→Bool
  | 0,_=>true
  | k+1,x=>decide (shpX x) && ((x.op != 1 || (intB (x.value.getD 0 default) && ckPl 0 (x.value.getD 0 default) == 0)) && x.args.all (shpB k))
theorem shpB_ok:∀ {k:Nat} {x:X},shpB k x=true→X.all (fun x=>shpX x∧litX litI 0 x) k x
  | 0,_,_=>trivial
  | k+1,x,h=>by
    simp only [shpB,Bool.and_eq_true,List.all_eq_true] at h
    obtain ⟨h1,h2,h3⟩:=h
    refine ⟨⟨of_decide_eq_true h1,fun ho=>?_⟩,fun y hy=>shpB_ok (h3 y hy)⟩
    rw [ho] at h2
    simp only [bne_self_eq_false,Bool.false_or,Bool.and_eq_true,beq_iff_eq] at h2
    exact ⟨_,intB_lit (by decide) h2.1 h2.2⟩
theorem plB_asc:∀ {k:Nat} {x:X},plB k x=true→X.all (fun y=>Asc y.text) k x
  | 0,_,_=>trivial
  | k+1,x,h=>by
    simp only [plB,Bool.and_eq_true,List.all_eq_true] at h
    exact ⟨fun b hb=>of_decide_eq_true (h.1 b hb),fun y hy=>plB_asc (h.2.2 y hy)⟩
theorem exY_txt:txtN litI 5 exY 0=exTx:=by cbv
theorem exY_w:wX litI 5 exY≤549755813888:=by cbv
theorem exY_print (D:Nat) (hD:10≤D):Af Tryz.prog 14 [encX 1 (D+1) .any fun _=>exY] [] (.tup [.str fun _=>exTx,.int .i64 fun _=>0]) []:=by
  have hx:X.le 1 5 exY:=leB_ok (by kernel_rfl)
  have hx2:X.le 1 (D+1) exY:=X.le_mono hx (by omega)
  have h1:=checkP_ok 0 (by decide) D exY hx2 (plB_ok (by kernel_rfl))
  have e1:ckX (oneP 0) exY=0:=by kernel_rfl
  rw [e1] at h1
  have h2:=hidden_ok 0 5 D exY hx2 hx (plB_asc (by kernel_rfl))
  have e2:hidV 5 exY=false:=by kernel_rfl
  rw [e2] at h2
  have h3:=text_ok litI 0 5 D exY 0 hx2 hx (shpB_ok (by kernel_rfl)) exY_w (by decide) (by decide)
  rw [exY_txt] at h3
  exact print_ok 0 D exY 0 false exTx h1 (fun _=>h2) (fun _ _=>h3)
theorem known12_ok:Af Tryz.prog 12 [] [] (.bool fun _=>true) []:=known_ok exY_print
end Go.Ai
