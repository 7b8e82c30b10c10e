/- Chapter 17: the reader: values. -/
import Derived.Test.YtbagpkiomjlhkaaGreatDoorRdF
import Derived.Test.YtbagpkiomjlhkaaGreatDoorWide
set_option linter.all false
namespace Go.Ai
open Go Go.Proofs
set_option maxRecDepth 100000
set_option maxHeartbeats 4000000
def sc (k n sc:Int) (t:ByteArray):V:=.mk k n sc t [] []
theorem sc_le {e:Nat} {k n s:Int} {t:ByteArray} (ht:t.size≤1073741824):V.le (e+1) (sc k n s t) :=
 ⟨Nat.zero_le _,Nat.zero_le _,ht,fun x hx=>(by cases hx),fun x hx=>(by cases hx)⟩
theorem als (e:Nat) (n:Int):Af Tryz.prog 72 [.int .i64 fun _=>n] [] (encV (e+1) .any fun _=>sc 2 n 0 ⟨#[]⟩) []:=by
 (apply Af.of tF mF [.cell 2 56] kp72 [] Tryz.func72 (fun _=>?_);(any_goals ((with_reducible refine wI ?_);cbv;(try dsimp only [nc] at *);(repeat' (with_reducible first|exact ‹False›.elim|exact nZ|refine oC ?_ ?_|refine VC.mk rfl ?_ ?_ ?_|(apply Ca.mk<;>intro _)|refine cV (fun _=>?_) fun _=>?_|((first|apply xE|apply uE);cbv;(try dsimp only [nc] at *)))))))
 ((all_goals (try (with_reducible ((first|refine rE ?_|refine nE ?_);cbv;(try dsimp only [nc] at *);(try simp only [wl,nc]);(repeat' apply And.intro);all_goals (try exact wZ)))));(all_goals (try ((with_reducible rw [aC]);(try simp only [wl,nc]);(repeat' (with_reducible apply And.intro));(all_goals (try exact cZ))))))
 all_goals rfl
theorem alu (e:Nat) (n s:Int):Af Tryz.prog 74 [.int .i64 fun _=>n,.int .i64 fun _=>s] [] (encV (e+1) .any fun _=>sc 3 n s ⟨#[]⟩) []:=by
 (apply Af.of tF mF [.cell 4 56] kp74 [] Tryz.func74 (fun _=>?_);(any_goals ((with_reducible refine wI ?_);cbv;(try dsimp only [nc] at *);(repeat' (with_reducible first|exact ‹False›.elim|exact nZ|refine oC ?_ ?_|refine VC.mk rfl ?_ ?_ ?_|(apply Ca.mk<;>intro _)|refine cV (fun _=>?_) fun _=>?_|((first|apply xE|apply uE);cbv;(try dsimp only [nc] at *)))))))
 ((all_goals (try (with_reducible ((first|refine rE ?_|refine nE ?_);cbv;(try dsimp only [nc] at *);(try simp only [wl,nc]);(repeat' apply And.intro);all_goals (try exact wZ)))));(all_goals (try ((with_reducible rw [aC]);(try simp only [wl,nc]);(repeat' (with_reducible apply And.intro));(all_goals (try exact cZ))))))
 all_goals rfl
def ald (b:Bool):V:=sc 1 (if b=true then 1 else 0) 0 ⟨#[]⟩
theorem vBool_ok (e:Nat) (b:Bool):Af Tryz.prog 126 [.bool fun _=>b] [] (encV (e+1) .any fun _=>ald b) []:=by
 cases b <;>
 ·(apply Af.of tF mF [.cell 2 56] kp126 [] Tryz.func126 (fun _=>?_);(any_goals ((with_reducible refine wI ?_);cbv;(try dsimp only [nc] at *);(repeat' (with_reducible first|exact ‹False›.elim|exact nZ|refine oC ?_ ?_|refine VC.mk rfl ?_ ?_ ?_|(apply Ca.mk<;>intro _)|refine cV (fun _=>?_) fun _=>?_|((first|apply xE|apply uE);cbv;(try dsimp only [nc] at *)))))))
  all_goals (try (exact absurd ‹False› id))
  all_goals (try (exact absurd trivial ‹¬True›))
  ((all_goals (try (with_reducible ((first|refine rE ?_|refine nE ?_);cbv;(try dsimp only [nc] at *);(try simp only [wl,nc]);(repeat' apply And.intro);all_goals (try exact wZ)))));(all_goals (try ((with_reducible rw [aC]);(try simp only [wl,nc]);(repeat' (with_reducible apply And.intro));(all_goals (try exact cZ))))))
  all_goals rfl
def dateT:ByteArray:=⟨#[100,97,116,101]⟩
def timeT:ByteArray:=⟨#[116,105,109,101]⟩
def alz:ByteArray:=⟨#[116,114,117,101]⟩
theorem wordB_ok (e:Nat) (s:St) (t:ByteArray) (h1:t≠dateT) (h2:t≠timeT):Af Tryz.prog 77 [.ptr 1000 0,.str fun _=>t] [(1000,boxS fun _=>s)] (encV (e+1) .any fun _=>ald (decide (t=alz))) [(1000,boxS fun _=>s)]:=by
 have h3:=vBool_ok e (decide (t=alz))
 obtain ⟨b,hb⟩:∃ b,b=decide (t=alz):=⟨_,rfl⟩
 rw [← hb] at h3 ⊢
 generalize ald b=v at *
 (apply Af.of tF mF [.cell 4 56] kp77 [(10,[(2,encV (e+1) .any fun _=>v,[])])] Tryz.func77 (fun _=>?_);(any_goals ((with_reducible refine wI ?_);cbv;(try dsimp only [nc] at *);(repeat' (with_reducible first|exact ‹False›.elim|exact nZ|refine oC ?_ ?_|refine VC.mk rfl ?_ ?_ ?_|(apply Ca.mk<;>intro _)|refine cV (fun _=>?_) fun _=>?_|((first|apply xE|apply uE);cbv;(try dsimp only [nc] at *)))))))
 all_goals (try (exact absurd ‹t=(⟨#[100,97,116,101]⟩:ByteArray)› h1))
 all_goals (try (exact absurd ‹t=(⟨#[116,105,109,101]⟩:ByteArray)› h2))
 any_goals ((with_reducible refine nO ?_);rw [hb] at h3;exact h3)
 (all_goals exact eZ)
def sufD (t:ByteArray):Bool:=Lib.hasSuffix t.data.toList [100]
theorem suf_ok (t:ByteArray) (ht:t.size≤1073741824):Af Tryz.prog 73 [.str fun _=>t,.str fun _=>⟨#[100]⟩] [] (.bool fun _=>sufD t) [] :=
 Af.pure (vals:=#[.string t,.string ⟨#[100]⟩]) Tryz.func73 rfl rfl fun w=>Any.strings_HasSuffix Tryz.lays100 t ⟨#[100]⟩ w (by omega)
structure PlTok (t:Tok):Prop where
 size:t.text.size≤65536
 num : -1000000000000000≤t.num∧t.num≤1000000000000000
 k3:t.kind≠3
 k4:t.kind≠4
 date:t.text≠dateT
 time:t.text≠timeT
 asc:Asc t.text
theorem PlTok.default:PlTok default:=⟨Nat.zero_le _,⟨by decide,by decide⟩,by decide,by decide,by decide,by decide,Asc.nil⟩
theorem OkS.peek {P:Tok→Prop} (hd:P default) {s:St} (h:OkS P s):P s.peek:=by
 unfold St.peek
 split
 ·rename_i q
  obtain ⟨_,hl⟩:=abk q
  rw [show s.l.getD 0 default=s.l[0] by simp [List.getD,hl]]
  exact h.tk _ (List.getElem_mem hl)
 ·exact hd
def hyT:ByteArray:=⟨#[45]⟩
def numV (m:Bool) (x:Tok):V:=if x.scale≠0∨sufD x.text=true then sc 3 (if m=true then -x.num else x.num) x.scale ⟨#[]⟩ else sc 2 (if m=true then -x.num else x.num) 0 ⟨#[]⟩
def anI (m:Bool) (x:Tok):V:=if x.kind=2 then numV m x else ald (decide (x.text=alz))
def valF (s:St):V×St :=
 if s.e≠0 then (default,s) else if s.val=false then (default,s.fail 13) else (anI (s.isT hyT) (s.accept hyT).peek,(s.accept hyT).next)
theorem atomV_le {e:Nat} (m:Bool) (x:Tok):V.le (e+1) (anI m x):=by
 unfold anI numV ald
 split
 ·split<;>exact sc_le (Nat.zero_le _)
 ·exact sc_le (Nat.zero_le _)
theorem value_ok (e:Nat) (s:St) (h:OkS PlTok s):Af Tryz.prog 30 [.ptr 1000 0] [(1000,boxS fun _=>s)] (encV (e+1) .any fun _=>(valF s).1) [(1000,boxS fun _=>(valF s).2)]:=by
 have hl:=Nat.le_trans h.len (by decide:65537≤1073741824)
 have h1:=abp s
 have h2:=aic s hl
 have h3:=abE s 13
 have h4:=adG s hyT hl
 have ha:Steps s (s.accept hyT):=.accept s hyT
 have hga:=h.go ha
 have h5:=aap (s.accept hyT) (Nat.le_trans hga.len (by decide))
 have hx:=hga.peek PlTok.default
 unfold valF
 by_cases c1:s.e≠0
 ·rw [if_pos c1]
  dsimp only
  (apply Af.of tF mF [.cell 2 56] kp30 [(1,[(4,.bool fun _=>s.e != 0,[(1000,boxS fun _=>s)])])] Tryz.func30 (fun _=>?_);(any_goals ((with_reducible refine wI ?_);cbv;(try dsimp only [nc] at *);(repeat' (with_reducible first|exact ‹False›.elim|exact nZ|refine oC ?_ ?_|refine VC.mk rfl ?_ ?_ ?_|(apply Ca.mk<;>intro _)|refine cV (fun _=>?_) fun _=>?_|((first|apply xE|apply uE);cbv;(try dsimp only [nc] at *)))))))
  all_goals (try simp only [ite_self])
  any_goals ((with_reducible first|refine nO ?_|refine sO (fun _=>?_));exact h1)
  all_goals (try (exact absurd ‹True∧s.e=0› (fun g=>c1 g.2)))
  ((all_goals (try (with_reducible ((first|refine rE ?_|refine nE ?_);cbv;(try dsimp only [nc] at *);(try simp only [wl,nc]);(repeat' apply And.intro);all_goals (try exact wZ)))));(all_goals (try ((with_reducible rw [aC]);(try simp only [wl,nc]);(repeat' (with_reducible apply And.intro));(all_goals (try exact cZ))))))
  exact fun _=>rfl
 rw [if_neg c1]
 have c1:s.e=0:=Classical.byContradiction c1
 rw [show (s.e != 0)=false by simp [c1]] at h1
 cases c2:s.val with
 | false =>
  rw [c2] at h2
  rw [if_pos rfl]
  dsimp only
  generalize s.fail 13=u at *
  (apply Af.of tF mF [.cell 2 56] kp30 [(1,[(4,.bool fun _=>false,[(1000,boxS fun _=>s)])]),(3,[(1,.bool fun _=>false,[(1000,boxS fun _=>s)])]),(4,[(1,.tup [],[(1000,boxS fun _=>u)])])] Tryz.func30 (fun _=>?_);(any_goals ((with_reducible refine wI ?_);cbv;(try dsimp only [nc] at *);(repeat' (with_reducible first|exact ‹False›.elim|exact nZ|refine oC ?_ ?_|refine VC.mk rfl ?_ ?_ ?_|(apply Ca.mk<;>intro _)|refine cV (fun _=>?_) fun _=>?_|((first|apply xE|apply uE);cbv;(try dsimp only [nc] at *)))))))
  all_goals (try simp only [ite_self])
  any_goals ((with_reducible first|refine nO ?_|refine sO (fun _=>?_));first|exact h1|exact h2|exact h3)
  all_goals (try (exact absurd ‹False∧True› (fun g=>g.1)))
  all_goals (try (exact absurd trivial ‹¬True›))
  ((all_goals (try (with_reducible ((first|refine rE ?_|refine nE ?_);cbv;(try dsimp only [nc] at *);(try simp only [wl,nc]);(repeat' apply And.intro);all_goals (try exact wZ)))));(all_goals (try ((with_reducible rw [aC]);(try simp only [wl,nc]);(repeat' (with_reducible apply And.intro));(all_goals (try exact cZ))))))
  exact fun _=>rfl
 | true =>
  rw [c2] at h2
  rw [if_neg (by simp)]
  dsimp only
  have hn0:(s.accept hyT).next.e=0:=by
   have e1:∀ t:St,t.e=0→t.next.e=0:=fun t ht=>by unfold St.next;split<;>exact ht
   unfold St.accept
   split
   ·exact e1 _ (e1 _ c1)
   ·exact e1 _ c1
  have h6:=abp (s.accept hyT).next
  rw [hn0] at h6
  have h6:Af Tryz.prog 52 [.ptr 1000 0] [(1000,boxS fun _=>(s.accept hyT).next)] (.bool fun _=>false) [(1000,boxS fun _=>(s.accept hyT).next)]:=h6
  clear hn0
  generalize s.isT hyT=m at *
  generalize (s.accept hyT).peek=x at *
  generalize (s.accept hyT).next=t at *
  generalize s.accept hyT=u at *
  by_cases c3:x.kind=2
  ·unfold anI
   rw [if_pos c3]
   have h7:=suf_ok x.text (Nat.le_trans hx.size (by decide))
   have hnum:=hx.num
   have hw:IntKind.i64.wrap (0 - x.num) = -x.num:=by rw [w64 (by omega) (by omega)];omega
   unfold numV
   generalize sufD x.text=f at *
   cases m with
   | true =>
    rw [show (if true=true then -x.num else x.num) = -x.num from rfl]
    have h8:=als e (-x.num)
    have h9:=alu e (-x.num) x.scale
    by_cases c4:x.scale≠0∨f=true
    ·rw [if_pos c4]
     generalize sc 2 (-x.num) 0 ⟨#[]⟩=v1 at *
     generalize sc 3 (-x.num) x.scale ⟨#[]⟩=v2 at *
     (apply Af.of tF mF [.cell 2 56] kp30 [(1,[(4,.bool fun _=>false,[(1000,boxS fun _=>s)])]),(3,[(1,.bool fun _=>true,[(1000,boxS fun _=>s)])]),(6,[(1,.bool fun _=>true,[(1000,boxS fun _=>u)])]),(7,[(1,encK fun _=>x,[(1000,boxS fun _=>t)])]),
       (15,[(2,encV (e+1) .any fun _=>v1,[])]),(16,[(6,.bool fun _=>f,[])]),(17,[(4,encV (e+1) .any fun _=>v2,[])]),(22,[(1,.bool fun _=>false,[(1000,boxS fun _=>t)])])] Tryz.func30 (fun _=>?_);(any_goals ((with_reducible refine wI ?_);cbv;(try dsimp only [nc] at *);(repeat' (with_reducible first|exact ‹False›.elim|exact nZ|refine oC ?_ ?_|refine VC.mk rfl ?_ ?_ ?_|(apply Ca.mk<;>intro _)|refine cV (fun _=>?_) fun _=>?_|((first|apply xE|apply uE);cbv;(try dsimp only [nc] at *)))))))
     all_goals (try simp only [ite_self])
     any_goals ((with_reducible first|refine nO ?_|refine sO (fun _=>?_));first|exact h1|exact h2|exact h4|exact h5|exact h6|exact h7|(simp only [hw];exact h8)|(simp only [hw];exact h9)|exact h8|exact h9)
     all_goals (try (exact absurd ‹False∧True› (fun g=>g.1)))
     all_goals (try (exact absurd ‹¬x.kind=2› (fun g=>g c3)))
     all_goals (try (exact absurd trivial ‹¬True›))
     all_goals (try (exact absurd ‹False› id))
     all_goals (try (exact absurd ‹x.scale=0∧f=false› (fun g=>c4.elim (fun k=>k g.1) (fun k=>by rw [g.2] at k;cases k))))
     ((all_goals (try (with_reducible ((first|refine rE ?_|refine nE ?_);cbv;(try dsimp only [nc] at *);(try simp only [wl,nc]);(repeat' apply And.intro);all_goals (try exact wZ)))));(all_goals (try ((with_reducible rw [aC]);(try simp only [wl,nc]);(repeat' (with_reducible apply And.intro));(all_goals (try exact cZ))))))
     exact fun _=>rfl
    ·rw [if_neg c4]
     generalize sc 2 (-x.num) 0 ⟨#[]⟩=v1 at *
     generalize sc 3 (-x.num) x.scale ⟨#[]⟩=v2 at *
     (apply Af.of tF mF [.cell 2 56] kp30 [(1,[(4,.bool fun _=>false,[(1000,boxS fun _=>s)])]),(3,[(1,.bool fun _=>true,[(1000,boxS fun _=>s)])]),(6,[(1,.bool fun _=>true,[(1000,boxS fun _=>u)])]),(7,[(1,encK fun _=>x,[(1000,boxS fun _=>t)])]),
       (15,[(2,encV (e+1) .any fun _=>v1,[])]),(16,[(6,.bool fun _=>f,[])]),(17,[(4,encV (e+1) .any fun _=>v2,[])]),(22,[(1,.bool fun _=>false,[(1000,boxS fun _=>t)])])] Tryz.func30 (fun _=>?_);(any_goals ((with_reducible refine wI ?_);cbv;(try dsimp only [nc] at *);(repeat' (with_reducible first|exact ‹False›.elim|exact nZ|refine oC ?_ ?_|refine VC.mk rfl ?_ ?_ ?_|(apply Ca.mk<;>intro _)|refine cV (fun _=>?_) fun _=>?_|((first|apply xE|apply uE);cbv;(try dsimp only [nc] at *)))))))
     all_goals (try simp only [ite_self])
     any_goals ((with_reducible first|refine nO ?_|refine sO (fun _=>?_));first|exact h1|exact h2|exact h4|exact h5|exact h6|exact h7|(simp only [hw];exact h8)|(simp only [hw];exact h9)|exact h8|exact h9)
     all_goals (try (exact absurd ‹False∧True› (fun g=>g.1)))
     all_goals (try (exact absurd ‹¬x.kind=2› (fun g=>g c3)))
     all_goals (try (exact absurd trivial ‹¬True›))
     all_goals (try (exact absurd ‹False› id))
     all_goals (try (exact absurd ‹¬x.scale=0∨f=true› c4))
     ((all_goals (try (with_reducible ((first|refine rE ?_|refine nE ?_);cbv;(try dsimp only [nc] at *);(try simp only [wl,nc]);(repeat' apply And.intro);all_goals (try exact wZ)))));(all_goals (try ((with_reducible rw [aC]);(try simp only [wl,nc]);(repeat' (with_reducible apply And.intro));(all_goals (try exact cZ))))))
     exact fun _=>rfl
   | false =>
    rw [show (if false=true then -x.num else x.num)=x.num from rfl]
    have h8:=als e x.num
    have h9:=alu e x.num x.scale
    by_cases c4:x.scale≠0∨f=true
    ·rw [if_pos c4]
     generalize sc 2 x.num 0 ⟨#[]⟩=v1 at *
     generalize sc 3 x.num x.scale ⟨#[]⟩=v2 at *
     (apply Af.of tF mF [.cell 2 56] kp30 [(1,[(4,.bool fun _=>false,[(1000,boxS fun _=>s)])]),(3,[(1,.bool fun _=>true,[(1000,boxS fun _=>s)])]),(6,[(1,.bool fun _=>false,[(1000,boxS fun _=>u)])]),(7,[(1,encK fun _=>x,[(1000,boxS fun _=>t)])]),
       (15,[(2,encV (e+1) .any fun _=>v1,[])]),(16,[(6,.bool fun _=>f,[])]),(17,[(4,encV (e+1) .any fun _=>v2,[])]),(22,[(1,.bool fun _=>false,[(1000,boxS fun _=>t)])])] Tryz.func30 (fun _=>?_);(any_goals ((with_reducible refine wI ?_);cbv;(try dsimp only [nc] at *);(repeat' (with_reducible first|exact ‹False›.elim|exact nZ|refine oC ?_ ?_|refine VC.mk rfl ?_ ?_ ?_|(apply Ca.mk<;>intro _)|refine cV (fun _=>?_) fun _=>?_|((first|apply xE|apply uE);cbv;(try dsimp only [nc] at *)))))))
     all_goals (try simp only [ite_self])
     any_goals ((with_reducible first|refine nO ?_|refine sO (fun _=>?_));first|exact h1|exact h2|exact h4|exact h5|exact h6|exact h7|(simp only [hw];exact h8)|(simp only [hw];exact h9)|exact h8|exact h9)
     all_goals (try (exact absurd ‹False∧True› (fun g=>g.1)))
     all_goals (try (exact absurd ‹¬x.kind=2› (fun g=>g c3)))
     all_goals (try (exact absurd trivial ‹¬True›))
     all_goals (try (exact absurd ‹False› id))
     all_goals (try (exact absurd ‹x.scale=0∧f=false› (fun g=>c4.elim (fun k=>k g.1) (fun k=>by rw [g.2] at k;cases k))))
     ((all_goals (try (with_reducible ((first|refine rE ?_|refine nE ?_);cbv;(try dsimp only [nc] at *);(try simp only [wl,nc]);(repeat' apply And.intro);all_goals (try exact wZ)))));(all_goals (try ((with_reducible rw [aC]);(try simp only [wl,nc]);(repeat' (with_reducible apply And.intro));(all_goals (try exact cZ))))))
     exact fun _=>rfl
    ·rw [if_neg c4]
     generalize sc 2 x.num 0 ⟨#[]⟩=v1 at *
     generalize sc 3 x.num x.scale ⟨#[]⟩=v2 at *
     (apply Af.of tF mF [.cell 2 56] kp30 [(1,[(4,.bool fun _=>false,[(1000,boxS fun _=>s)])]),(3,[(1,.bool fun _=>true,[(1000,boxS fun _=>s)])]),(6,[(1,.bool fun _=>false,[(1000,boxS fun _=>u)])]),(7,[(1,encK fun _=>x,[(1000,boxS fun _=>t)])]),
       (15,[(2,encV (e+1) .any fun _=>v1,[])]),(16,[(6,.bool fun _=>f,[])]),(17,[(4,encV (e+1) .any fun _=>v2,[])]),(22,[(1,.bool fun _=>false,[(1000,boxS fun _=>t)])])] Tryz.func30 (fun _=>?_);(any_goals ((with_reducible refine wI ?_);cbv;(try dsimp only [nc] at *);(repeat' (with_reducible first|exact ‹False›.elim|exact nZ|refine oC ?_ ?_|refine VC.mk rfl ?_ ?_ ?_|(apply Ca.mk<;>intro _)|refine cV (fun _=>?_) fun _=>?_|((first|apply xE|apply uE);cbv;(try dsimp only [nc] at *)))))))
     all_goals (try simp only [ite_self])
     any_goals ((with_reducible first|refine nO ?_|refine sO (fun _=>?_));first|exact h1|exact h2|exact h4|exact h5|exact h6|exact h7|(simp only [hw];exact h8)|(simp only [hw];exact h9)|exact h8|exact h9)
     all_goals (try (exact absurd ‹False∧True› (fun g=>g.1)))
     all_goals (try (exact absurd ‹¬x.kind=2› (fun g=>g c3)))
     all_goals (try (exact absurd trivial ‹¬True›))
     all_goals (try (exact absurd ‹False› id))
     all_goals (try (exact absurd ‹¬x.scale=0∨f=true› c4))
     ((all_goals (try (with_reducible ((first|refine rE ?_|refine nE ?_);cbv;(try dsimp only [nc] at *);(try simp only [wl,nc]);(repeat' apply And.intro);all_goals (try exact wZ)))));(all_goals (try ((with_reducible rw [aC]);(try simp only [wl,nc]);(repeat' (with_reducible apply And.intro));(all_goals (try exact cZ))))))
     exact fun _=>rfl
  ·unfold anI
   rw [if_neg c3]
   have h7:=wordB_ok e t x.text hx.date hx.time
   generalize ald (decide (x.text=alz))=v at *
   (apply Af.of tF mF [.cell 2 56] kp30 [(1,[(4,.bool fun _=>false,[(1000,boxS fun _=>s)])]),(3,[(1,.bool fun _=>true,[(1000,boxS fun _=>s)])]),(6,[(1,.bool fun _=>m,[(1000,boxS fun _=>u)])]),(7,[(1,encK fun _=>x,[(1000,boxS fun _=>t)])]),
     (10,[(3,encV (e+1) .any fun _=>v,[(1000,boxS fun _=>t)])]),(22,[(1,.bool fun _=>false,[(1000,boxS fun _=>t)])])] Tryz.func30 (fun _=>?_);(any_goals ((with_reducible refine wI ?_);cbv;(try dsimp only [nc] at *);(repeat' (with_reducible first|exact ‹False›.elim|exact nZ|refine oC ?_ ?_|refine VC.mk rfl ?_ ?_ ?_|(apply Ca.mk<;>intro _)|refine cV (fun _=>?_) fun _=>?_|((first|apply xE|apply uE);cbv;(try dsimp only [nc] at *)))))))
   all_goals (try simp only [ite_self])
   any_goals ((with_reducible first|refine nO ?_|refine sO (fun _=>?_));first|exact h1|exact h2|exact h4|exact h5|exact h6|exact h7)
   all_goals (try (exact absurd ‹False∧True› (fun g=>g.1)))
   all_goals (try (exact absurd ‹x.kind=2› c3))
   all_goals (try (exact absurd ‹x.kind=3› hx.k3))
   all_goals (try (exact absurd ‹x.kind=4› hx.k4))
   all_goals (try (exact absurd trivial ‹¬True›))
   all_goals (try (exact absurd ‹False› id))
   ((all_goals (try (with_reducible ((first|refine rE ?_|refine nE ?_);cbv;(try dsimp only [nc] at *);(try simp only [wl,nc]);(repeat' apply And.intro);all_goals (try exact wZ)))));(all_goals (try ((with_reducible rw [aC]);(try simp only [wl,nc]);(repeat' (with_reducible apply And.intro));(all_goals (try exact cZ))))))
   exact fun _=>rfl
theorem call_ok {pe:ByteArray→Int} (hpe:∀ t,pe t=0→t.size≤200) (hpc:∀ t,t.size≤100000000000→Asc t→Af Tryz.prog 43 [.str fun _=>t] [] (.tup [.any,.int .i64 fun _=>pe t]) [])
 {e D k:Nat} (hD:65600≤D) {E:Rd→X×Rd} (hE:∀ j,k=j+1→Fun PlTok e D j 67 E) (op n:Int) (hn:op=22∨op=26∨op=15∨(1≤n∧n≤3)) (r:Rd) (h:Okr PlTok k r) (hz:r.s.e=0) :
 Af Tryz.prog 284 [.ptr 1000 0,.int .i64 fun _=>op,.int .i64 fun _=>n] [(1000,boxR r),(1001000000,boxS fun _=>r.s)] (encX e D .any fun _=>(aeg E pe op n r).1) [(1000,boxR (aeg E pe op n r).2),(1001000000,boxS fun _=>(aeg E pe op n r).2.s)]:=by
 unfold aeg
 by_cases c1:op=22∨op=26
 ·rw [if_pos c1]
  exact has_ok (fun t ht=>ht.size) (fun t ht=>ht.asc) hpe hpc hD op n c1 r h hz
 ·rw [if_neg c1]
  by_cases c2:op=15
  ·rw [if_pos c2]
   subst c2
   exact div_ok hD hE n r h hz
  ·rw [if_neg c2]
   have hn2:1≤n∧n≤3:=by
    rcases hn with h|h|h|h
    ·exact absurd (.inl h) c1
    ·exact absurd (.inr h) c1
    ·exact absurd h c2
    ·exact h
   exact def_ok hD hE op n c1 c2 hn2.1 hn2.2 r h hz
def lpT:ByteArray:=⟨#[40]⟩
def ahj (E:Rd→X×Rd) (pe:ByteArray→Int) (r:Rd):X×Rd :=
 if r.bad=true then (default,r)
 else if r.s.val=true then (.mk 1 0 ⟨#[]⟩ [(valF r.s).1] [],r.to (valF r.s).2)
 else if r.s.peek.kind=1∧(ab5 r.s.peek.text aa2).isSome=true then aeg E pe ((ab5 r.s.peek.text aa2).getD (0,0)).1 ((ab5 r.s.peek.text aa2).getD (0,0)).2 (r.to r.s.next)
 else if r.s.peek.kind=1∧resB r.s.peek.text=false then (.mk 2 0 (abf pe r.s).1 [] [],r.to (abf pe r.s).2)
 else if r.s.isT lpT=true then ((E r.paren).1,(E r.paren).2.close)
 else (default,r.to (r.s.fail 13))
theorem ahQ {α:Type} {t:ByteArray}:∀ {l:List (ByteArray×α)} {v:α},ab5 t l=some v→∃ k,(k,v) ∈ l
 | [],v,h=>by cases h
 | (k,u) :: r,v,h=>by
  unfold ab5 at h
  split at h
  ·cases h;exact ⟨k,List.mem_cons_self ..⟩
  ·obtain ⟨k2,h2⟩:=ahQ h;exact ⟨k2,List.mem_cons_of_mem _ h2⟩
theorem calls_n {t:ByteArray} {q:Int×Int} (h:ab5 t aa2=some q):q.1=22∨q.1=26∨q.1=15∨(1≤q.2∧q.2≤3):=by
 obtain ⟨k,hk⟩:=ahQ h
 have key:∀ p ∈ aa2,p.2.1=22∨p.2.1=26∨p.2.1=15∨(1≤p.2.2∧p.2.2≤3):=by decide
 exact key _ hk
theorem valF_go (s:St):Steps s (valF s).2:=by
 unfold valF
 split
 ·exact .refl _
 split
 ·exact .fail _ _
 ·exact (Steps.accept s hyT).trans (.next _)
theorem valF_le (e:Nat) (s:St):V.le (e+1) (valF s).1:=by
 have hd:V.le (e+1) (default:V):=⟨Nat.zero_le _,Nat.zero_le _,Nat.zero_le _,fun x hx=>(by cases hx),fun x hx=>(by cases hx)⟩
 unfold valF
 split
 ·exact hd
 split
 ·exact hd
 ·exact atomV_le _ _
theorem val_le {e c:Nat} {v:V} (hv:V.le e v):X.le e (c+1) (.mk 1 0 ⟨#[]⟩ [v] []) :=
 ⟨Nat.zero_le _,(by decide:1≤1073741824),Nat.zero_le _,fun u hu=>by
  (rcases List.mem_cons.1 hu with rfl|hu
   ·exact hv
   ·cases hu),fun z hz=>(by cases hz)⟩
theorem am4 {pe:ByteArray→Int} (hpe:∀ t,pe t=0→t.size≤200) {e k:Nat} {E:Rd→X×Rd} (hE:∀ j,k=j+1→∀ r,Okr PlTok j r→Post (e+1) r (E r)) (r:Rd) (h:Okr PlTok k r):Post (e+1) r (ahj E pe r):=by
 unfold ahj
 have hd:∀ c,X.le (e+1) (1+c) (default:X):=fun c=>X.aa4 (no_le (c:=c) _ _) (by omega)
 split
 ·exact ⟨.of (.refl _) rfl,hd _⟩
 rename_i hb
 have hz:r.s.e=0:=by
  unfold Rd.bad at hb
  simpa using hb
 split
 ·refine ⟨Go.of (r:=r) (r':=r.to (valF r.s).2) (valF_go _) rfl,?_⟩
  exact X.aa4 (val_le (c:=r.s.l.length - (valF r.s).2.l.length) (valF_le e _)) (Nat.le_of_eq (Nat.add_comm _ _))
 split
 ·rename_i hc
  have gn:Go r (r.to r.s.next):=Go.of (r:=r) (r':=r.to r.s.next) (Steps.next _) rfl
  have hl:=abg h (by rw [hc.1];decide)
  have hz2:(r.to r.s.next).s.e=0:=by
   show r.s.next.e=0
   unfold St.next
   split<;>exact hz
  obtain ⟨a,b⟩:=call_go (P:=PlTok) (fun t ht=>ht.size) hpe hE ((ab5 r.s.peek.text aa2).getD (0,0)).1 ((ab5 r.s.peek.text aa2).getD (0,0)).2 (h.go gn) hz2
  have al:=a.s.len
  have e1:(r.to r.s.next).s=r.s.next:=rfl
  rw [e1] at b al
  exact ⟨gn.trans a,X.aa4 b (by omega)⟩
 split
 ·obtain ⟨a,b,_⟩:=agr (P:=PlTok) (fun t ht=>ht.size) hpe h.st
  refine ⟨Go.of (r:=r) (r':=r.to (abf pe r.s).2) a rfl,?_⟩
  exact X.aa4 (aiV (c:=r.s.l.length - (abf pe r.s).2.l.length) _ _ b) (Nat.le_of_eq (Nat.add_comm _ _))
 split
 ·rename_i hp
  obtain ⟨g1,g2,g3,g4,j,rfl,g5⟩:=acg h hz
  have p:=hE j rfl _ g5
  have cl:(E r.paren).2.close.s.l.length≤(E r.paren).2.s.l.length:=(Steps.expect (E r.paren).2.s ⟨#[41]⟩).len
  refine ⟨agN hz g1 g2 g3 (fun z=>(g4 z).1) p.g,X.aa4 p.x ?_⟩
  have:=g1.len
  have:=p.g.s.len
  dsimp only
  omega
 ·exact ⟨Go.of (r:=r) (r':=r.to (r.s.fail 13)) (.fail _ _) rfl,hd _⟩
end Go.Ai
