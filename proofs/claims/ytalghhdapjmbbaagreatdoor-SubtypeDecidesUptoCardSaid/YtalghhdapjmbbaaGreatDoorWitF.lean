/- Chapter 8: witnesses of records and variants. -/
import Derived.Test.YtalghhdapjmbbaaGreatDoorWitE
import Derived.Test.YtalghhdapjmbbaaGreatDoorSubB
set_option linter.all false
namespace Go.Ai
open Go Go.Proofs
set_option maxRecDepth 100000
set_option maxHeartbeats 4000000
theorem ownT_need {t:Ty} (h:ownT t=0) (hk:t.kind=10) {f:TF} (hf:f ∈ t.fields):fN f=1:=by
  obtain ⟨j,hj,hjf⟩:=List.getElem_of_mem hf
  have h1:=ownT_field h (.inr hk) hj
  simp only [fieldE,fldE,List.getD_eq_getElem?_getD,List.getElem?_eq_getElem hj,hjf,Option.getD_some] at h1
  grind
theorem wit_r9 (e d c:Nat) (s t:Ty) (ks:s.kind=9) (kt:t.kind=9) (hs:Ty.le (e+1) (d+1) s) (p:TF→Bool)
    (hw:∀ x ∈ s.fields,Af Tryz.prog 46 [encTF (e+1) d .any fun _=>x,encT (e+1) (d+1) .any fun _=>t] [] (.bool fun _=>p x) []) (v:V) (b:Bool)
    (hr:(∀ x ∈ s.fields,p x=false)→Af Tryz.prog 48 [encT (e+1) (d+1) .any fun _=>s,.str fun _=>⟨#[]⟩,slcV (c+1) .any fun _=>[]] [] (.tup [encV (c+2) .any fun _=>v,.bool fun _=>b]) [])
    (hj:∀ j,j<s.fields.length→(∀ i,i<j→p (s.fields.getD i default)=false)→p (s.fields.getD j default)=true→∃ l b1,l.length≤1∧Af Tryz.prog 47 [encTF (e+1) d .any fun _=>s.fields.getD j default,encT (e+1) (d+1) .any fun _=>t] [] (.tup [slcV (c+1) .any fun _=>l,.bool fun _=>b1]) [] ∧
      (b1=false→v=default∧b=false)∧(b1=true→Af Tryz.prog 48 [encT (e+1) (d+1) .any fun _=>s,.str fun _=>fM (s.fields.getD j default),slcV (c+1) .any fun _=>l] [] (.tup [encV (c+2) .any fun _=>v,.bool fun _=>b]) [])) :
    Af Tryz.prog 23 [encT (e+1) (d+1) .any fun _=>s,encT (e+1) (d+1) .any fun _=>t] [] (.tup [encV (c+2) .any fun _=>v,.bool fun _=>b]) []:=by
  have hfl:=hs.2.2.2.1
  rw [encT_kind kt] at hw hj
  rw [encT_kind ks] at hr
  rw [encT_kind ks,encT_kind kt]
  (apply Af.of tF mF [.cell 4 33,.tmp 5] kp23 [(42,[(1,.tup [encV (c+2) .any fun _=>v,.bool fun _=>b],[])])] Tryz.func23 (fun _=>?_);(any_goals ((with_reducible refine wI ?_);cbv;(try dsimp only [nc] at *);(repeat' (with_reducible first|exact aO|exact oN|refine oC ?_ ?_|refine VC.mk rfl ?_ ?_ ?_|(apply Ca.mk<;>intro _)|(apply Cv.mk<;>intro zq<;>(try simp only [nc,cl] at zq)<;>(try simp only [bl,dl] at zq)<;>(revert zq;intro _))|((first|apply xE|apply uE);cbv;(try dsimp only [nc] at *)))))))
  all_goals (try (exact absurd trivial ‹¬True›))
  all_goals (try (exfalso;omega))
  all_goals (try (exfalso;simp_all;done))
  ((all_goals (try (with_reducible ((first|refine rE ?_|refine nE ?_);(focus (cbv;(try dsimp only [nc] at *);(try simp only [wl,nc]);(repeat' (with_reducible apply And.intro));all_goals (try exact wZ)))))));(all_goals (try ((with_reducible rw [aC]);(try simp only [wl,nc]);(repeat' (with_reducible apply And.intro));(all_goals (try exact cZ))))))
  all_goals
    refine .loop (fun i:Nat=>⟨202,[(158,.int .i64 fun _=>i),(157,.int .i64 fun _=>s.fields.length),(156,slcTF (e+1) d .any fun _=>s.fields),(4,.ptr 4 0),(3,.ptr 3 0),(2,.ptr 2 0)],
        [(2,.box (.int .i64 (fun _=>9) :: (cl' (e+1) (d+1) .any fun _=>s).tail)),(3,.box (.int .i64 (fun _=>9) :: (cl' (e+1) (d+1) .any fun _=>t).tail)),(4,.box (cells 1 .any fun _=>default))]⟩)
      (fun i=>i≤s.fields.length∧∀ k,k<i→p (s.fields.getD k default)=false) (fun i=>s.fields.length - i) 0 ⟨Nat.zero_le _,fun k hk=>absurd hk (Nat.not_lt_zero _)⟩ ?_ fun i E hi=>?_
    · (focus (cbv;(try dsimp only [nc] at *);(try simp only [wl,nc]);(repeat' (with_reducible apply And.intro));all_goals (try exact wZ)))
    obtain ⟨i1,i2⟩:=hi
    by_cases hlt:i<s.fields.length
    · obtain ⟨f,hf⟩:∃ f,f=s.fields.getD i default:=⟨_,rfl⟩
      have hfm:f ∈ s.fields:=by rw [hf];exact gD hlt
      have hwf:=hw f hfm
      cases q:p f with
      | false =>
        rw [q] at hwf
        clear hw hj hr
        apply AWp.wk tF mF [(33,[(2,.bool fun _=>false,[])]),(34,[(2,.tup [slcV (c+1) .any fun _=>[],.bool fun _=>true],[])]),(38,[(4,.tup [encV (c+2) .any fun _=>v,.bool fun _=>b],[])]),(40,[(5,encV (c+2) .any fun _=>v,[])])] kp23 ?_
        (any_goals ((with_reducible refine wI ?_);cbv;(try dsimp only [nc] at *);(repeat' (with_reducible first|exact aO|exact oN|refine oC ?_ ?_|refine VC.mk rfl ?_ ?_ ?_|(apply Ca.mk<;>intro _)|(apply Cv.mk<;>intro zq<;>(try simp only [nc,cl] at zq)<;>(try simp only [bl,dl] at zq)<;>(revert zq;intro _))|((first|apply xE|apply uE);cbv;(try dsimp only [nc] at *))))))
        all_goals (try (exact absurd trivial ‹¬True›))
        all_goals (try (exact absurd hlt (Nat.not_lt.2 ‹s.fields.length≤i›)))
        all_goals (try simp only [Int.toNat_natCast,← hf])
        any_goals (refine nO ?_;exact hwf)
        ((all_goals (try (with_reducible ((first|refine rE ?_|refine nE ?_);(focus (cbv;(try dsimp only [nc] at *);(try simp only [wl,nc]);(repeat' (with_reducible apply And.intro));all_goals (try exact wZ)))))));(all_goals (try ((with_reducible rw [aC]);(try simp only [wl,nc]);(repeat' (with_reducible apply And.intro));(all_goals (try exact cZ))))))
        refine dE (i+1) ⟨⟨by omega,fun k hk=>?_⟩,by omega⟩ ?_
        · rcases Nat.lt_succ_iff_lt_or_eq.1 hk with hk|rfl
          · exact i2 k hk
          · rw [← hf];exact q
        (focus (cbv;(try dsimp only [nc] at *);(try simp only [wl,nc]);(repeat' (with_reducible apply And.intro));all_goals (try exact wZ)))
        exact w64n (by omega)
      | true =>
        obtain ⟨l,b1,hl,hm,hb0,hb1⟩:=hj i hlt i2 (by rw [← hf];exact q)
        rw [← hf] at hm hb1
        rw [q] at hwf
        clear hw hj hr
        cases b1 with
        | false =>
          obtain ⟨rfl,rfl⟩:=hb0 rfl
          apply AWp.wk tF mF [(33,[(2,.bool fun _=>true,[])]),(34,[(2,.tup [slcV (c+1) .any fun _=>l,.bool fun _=>false],[])]),(38,[(4,.tup [encV (c+2) .any fun _=>default,.bool fun _=>false],[])]),(40,[(5,encV (c+2) .any fun _=>default,[])])] kp23 ?_
          (any_goals ((with_reducible refine wI ?_);cbv;(try dsimp only [nc] at *);(repeat' (with_reducible first|exact aO|exact oN|refine oC ?_ ?_|refine VC.mk rfl ?_ ?_ ?_|(apply Ca.mk<;>intro _)|(apply Cv.mk<;>intro zq<;>(try simp only [nc,cl] at zq)<;>(try simp only [bl,dl] at zq)<;>(revert zq;intro _))|((first|apply xE|apply uE);cbv;(try dsimp only [nc] at *))))))
          all_goals (try (exact absurd trivial ‹¬True›))
          all_goals (try (exact absurd hlt (Nat.not_lt.2 ‹s.fields.length≤i›)))
          all_goals (try simp only [Int.toNat_natCast,← hf])
          any_goals (refine nO ?_;first|exact hwf|exact hm)
          ((all_goals (try (with_reducible ((first|refine rE ?_|refine nE ?_);(focus (cbv;(try dsimp only [nc] at *);(try simp only [wl,nc]);(repeat' (with_reducible apply And.intro));all_goals (try exact wZ)))))));(all_goals (try ((with_reducible rw [aC]);(try simp only [wl,nc]);(repeat' (with_reducible apply And.intro));(all_goals (try exact cZ))))))
          all_goals rfl
        | true =>
          have hg:=hb1 rfl
          clear hb1 hb0
          rw [encT_kind ks] at hg
          apply AWp.wk tF mF [(33,[(2,.bool fun _=>true,[])]),(34,[(2,.tup [slcV (c+1) .any fun _=>l,.bool fun _=>true],[])]),(38,[(4,.tup [encV (c+2) .any fun _=>v,.bool fun _=>b],[])]),(40,[(5,encV (c+2) .any fun _=>v,[])])] kp23 ?_
          (any_goals ((with_reducible refine wI ?_);cbv;(try dsimp only [nc] at *);(repeat' (with_reducible first|exact aO|exact oN|refine oC ?_ ?_|refine VC.mk rfl ?_ ?_ ?_|(apply Ca.mk<;>intro _)|(apply Cv.mk<;>intro zq<;>(try simp only [nc,cl] at zq)<;>(try simp only [bl,dl] at zq)<;>(revert zq;intro _))|((first|apply xE|apply uE);cbv;(try dsimp only [nc] at *))))))
          all_goals (try (exact absurd trivial ‹¬True›))
          all_goals (try (exact absurd hlt (Nat.not_lt.2 ‹s.fields.length≤i›)))
          all_goals (try simp only [Int.toNat_natCast,← hf])
          any_goals (refine nO ?_;first|exact hwf|exact hm|exact hg)
          ((all_goals (try (with_reducible ((first|refine rE ?_|refine nE ?_);(focus (cbv;(try dsimp only [nc] at *);(try simp only [wl,nc]);(repeat' (with_reducible apply And.intro));all_goals (try exact wZ)))))));(all_goals (try ((with_reducible rw [aC]);(try simp only [wl,nc]);(repeat' (with_reducible apply And.intro));(all_goals (try exact cZ))))))
    · apply AWp.wk tF mF [] kp23 ?_
      (any_goals ((with_reducible refine wI ?_);cbv;(try dsimp only [nc] at *);(repeat' (with_reducible first|exact aO|exact oN|refine oC ?_ ?_|refine VC.mk rfl ?_ ?_ ?_|(apply Ca.mk<;>intro _)|(apply Cv.mk<;>intro zq<;>(try simp only [nc,cl] at zq)<;>(try simp only [bl,dl] at zq)<;>(revert zq;intro _))|((first|apply xE|apply uE);cbv;(try dsimp only [nc] at *))))))
      all_goals (try (exact absurd ‹i<s.fields.length› hlt))
      any_goals (refine nO ?_;dsimp only;refine Af.wN (hr fun x hx=>by
        obtain ⟨k,hk,rfl⟩:=List.getElem_of_mem hx
        have:=i2 k (by omega)
        rwa [show s.fields.getD k default=s.fields[k] by simp [List.getD,hk]] at this) ?_;(focus (cbv;(try dsimp only [nc] at *);(try simp only [wl,nc]);(repeat' (with_reducible apply And.intro));all_goals (try exact wZ))))
      ((all_goals (try (with_reducible ((first|refine rE ?_|refine nE ?_);(focus (cbv;(try dsimp only [nc] at *);(try simp only [wl,nc]);(repeat' (with_reducible apply And.intro));all_goals (try exact wZ)))))));(all_goals (try ((with_reducible rw [aC]);(try simp only [wl,nc]);(repeat' (with_reducible apply And.intro));(all_goals (try exact cZ))))))
theorem wit_r10 (e d c:Nat) (s t:Ty) (ks:s.kind=10) (kt:t.kind=10) (hs:Ty.le (e+1) (d+1) s) (p:TF→Bool)
    (hw:∀ x ∈ s.fields,Af Tryz.prog 46 [encTF (e+1) d .any fun _=>x,encT (e+1) (d+1) .any fun _=>t] [] (.bool fun _=>p x) []) (v:V) (b:Bool)
    (hr:(∀ x ∈ s.fields,p x=false)→Af Tryz.prog 48 [encT (e+1) (d+1) .any fun _=>s,.str fun _=>⟨#[]⟩,slcV (c+1) .any fun _=>[]] [] (.tup [encV (c+2) .any fun _=>v,.bool fun _=>b]) [])
    (hj:∀ j,j<s.fields.length→(∀ i,i<j→p (s.fields.getD i default)=false)→p (s.fields.getD j default)=true→∃ l b1,l.length≤1∧Af Tryz.prog 47 [encTF (e+1) d .any fun _=>s.fields.getD j default,encT (e+1) (d+1) .any fun _=>t] [] (.tup [slcV (c+1) .any fun _=>l,.bool fun _=>b1]) [] ∧
      (b1=false→v=default∧b=false)∧(b1=true→0<l.length∧b=true∧Af Tryz.prog 49 [.str fun _=>fM (s.fields.getD j default),encV (c+1) .any fun _=>l.getD 0 default] [] (encV (c+2) .any fun _=>v) [])) :
    Af Tryz.prog 23 [encT (e+1) (d+1) .any fun _=>s,encT (e+1) (d+1) .any fun _=>t] [] (.tup [encV (c+2) .any fun _=>v,.bool fun _=>b]) []:=by
  have hfl:=hs.2.2.2.1
  rw [encT_kind kt] at hw hj
  rw [encT_kind ks] at hr
  rw [encT_kind ks,encT_kind kt]
  (apply Af.of tF mF [.cell 4 33,.tmp 5] kp23 [(42,[(1,.tup [encV (c+2) .any fun _=>v,.bool fun _=>b],[])])] Tryz.func23 (fun _=>?_);(any_goals ((with_reducible refine wI ?_);cbv;(try dsimp only [nc] at *);(repeat' (with_reducible first|exact aO|exact oN|refine oC ?_ ?_|refine VC.mk rfl ?_ ?_ ?_|(apply Ca.mk<;>intro _)|(apply Cv.mk<;>intro zq<;>(try simp only [nc,cl] at zq)<;>(try simp only [bl,dl] at zq)<;>(revert zq;intro _))|((first|apply xE|apply uE);cbv;(try dsimp only [nc] at *)))))))
  all_goals (try (exact absurd trivial ‹¬True›))
  all_goals (try (exfalso;omega))
  all_goals (try (exfalso;simp_all;done))
  ((all_goals (try (with_reducible ((first|refine rE ?_|refine nE ?_);(focus (cbv;(try dsimp only [nc] at *);(try simp only [wl,nc]);(repeat' (with_reducible apply And.intro));all_goals (try exact wZ)))))));(all_goals (try ((with_reducible rw [aC]);(try simp only [wl,nc]);(repeat' (with_reducible apply And.intro));(all_goals (try exact cZ))))))
  all_goals
    refine .loop (fun i:Nat=>⟨202,[(158,.int .i64 fun _=>i),(157,.int .i64 fun _=>s.fields.length),(156,slcTF (e+1) d .any fun _=>s.fields),(4,.ptr 4 0),(3,.ptr 3 0),(2,.ptr 2 0)],
        [(2,.box (.int .i64 (fun _=>10) :: (cl' (e+1) (d+1) .any fun _=>s).tail)),(3,.box (.int .i64 (fun _=>10) :: (cl' (e+1) (d+1) .any fun _=>t).tail)),(4,.box (cells 1 .any fun _=>default))]⟩)
      (fun i=>i≤s.fields.length∧∀ k,k<i→p (s.fields.getD k default)=false) (fun i=>s.fields.length - i) 0 ⟨Nat.zero_le _,fun k hk=>absurd hk (Nat.not_lt_zero _)⟩ ?_ fun i E hi=>?_
    · (focus (cbv;(try dsimp only [nc] at *);(try simp only [wl,nc]);(repeat' (with_reducible apply And.intro));all_goals (try exact wZ)))
    obtain ⟨i1,i2⟩:=hi
    by_cases hlt:i<s.fields.length
    · obtain ⟨f,hf⟩:∃ f,f=s.fields.getD i default:=⟨_,rfl⟩
      have hfm:f ∈ s.fields:=by rw [hf];exact gD hlt
      have hwf:=hw f hfm
      cases q:p f with
      | false =>
        rw [q] at hwf
        clear hw hj hr
        apply AWp.wk tF mF [(33,[(2,.bool fun _=>false,[])]),(34,[(2,.tup [slcV (c+1) .any fun _=>[],.bool fun _=>true],[])]),(38,[(4,.tup [encV (c+2) .any fun _=>v,.bool fun _=>b],[])]),(40,[(5,encV (c+2) .any fun _=>v,[])])] kp23 ?_
        (any_goals ((with_reducible refine wI ?_);cbv;(try dsimp only [nc] at *);(repeat' (with_reducible first|exact aO|exact oN|refine oC ?_ ?_|refine VC.mk rfl ?_ ?_ ?_|(apply Ca.mk<;>intro _)|(apply Cv.mk<;>intro zq<;>(try simp only [nc,cl] at zq)<;>(try simp only [bl,dl] at zq)<;>(revert zq;intro _))|((first|apply xE|apply uE);cbv;(try dsimp only [nc] at *))))))
        all_goals (try (exact absurd trivial ‹¬True›))
        all_goals (try (exact absurd hlt (Nat.not_lt.2 ‹s.fields.length≤i›)))
        all_goals (try simp only [Int.toNat_natCast,← hf])
        any_goals (refine nO ?_;exact hwf)
        ((all_goals (try (with_reducible ((first|refine rE ?_|refine nE ?_);(focus (cbv;(try dsimp only [nc] at *);(try simp only [wl,nc]);(repeat' (with_reducible apply And.intro));all_goals (try exact wZ)))))));(all_goals (try ((with_reducible rw [aC]);(try simp only [wl,nc]);(repeat' (with_reducible apply And.intro));(all_goals (try exact cZ))))))
        refine dE (i+1) ⟨⟨by omega,fun k hk=>?_⟩,by omega⟩ ?_
        · rcases Nat.lt_succ_iff_lt_or_eq.1 hk with hk|rfl
          · exact i2 k hk
          · rw [← hf];exact q
        (focus (cbv;(try dsimp only [nc] at *);(try simp only [wl,nc]);(repeat' (with_reducible apply And.intro));all_goals (try exact wZ)))
        exact w64n (by omega)
      | true =>
        obtain ⟨l,b1,hl,hm,hb0,hb1⟩:=hj i hlt i2 (by rw [← hf];exact q)
        rw [← hf] at hm hb1
        rw [q] at hwf
        clear hw hj hr
        cases b1 with
        | false =>
          obtain ⟨rfl,rfl⟩:=hb0 rfl
          apply AWp.wk tF mF [(33,[(2,.bool fun _=>true,[])]),(34,[(2,.tup [slcV (c+1) .any fun _=>l,.bool fun _=>false],[])]),(38,[(4,.tup [encV (c+2) .any fun _=>default,.bool fun _=>false],[])]),(40,[(5,encV (c+2) .any fun _=>default,[])])] kp23 ?_
          (any_goals ((with_reducible refine wI ?_);cbv;(try dsimp only [nc] at *);(repeat' (with_reducible first|exact aO|exact oN|refine oC ?_ ?_|refine VC.mk rfl ?_ ?_ ?_|(apply Ca.mk<;>intro _)|(apply Cv.mk<;>intro zq<;>(try simp only [nc,cl] at zq)<;>(try simp only [bl,dl] at zq)<;>(revert zq;intro _))|((first|apply xE|apply uE);cbv;(try dsimp only [nc] at *))))))
          all_goals (try (exact absurd trivial ‹¬True›))
          all_goals (try (exact absurd hlt (Nat.not_lt.2 ‹s.fields.length≤i›)))
          all_goals (try simp only [Int.toNat_natCast,← hf])
          any_goals (refine nO ?_;first|exact hwf|exact hm)
          ((all_goals (try (with_reducible ((first|refine rE ?_|refine nE ?_);(focus (cbv;(try dsimp only [nc] at *);(try simp only [wl,nc]);(repeat' (with_reducible apply And.intro));all_goals (try exact wZ)))))));(all_goals (try ((with_reducible rw [aC]);(try simp only [wl,nc]);(repeat' (with_reducible apply And.intro));(all_goals (try exact cZ))))))
          all_goals rfl
        | true =>
          have hg:=hb1 rfl
          clear hb1 hb0
          obtain ⟨hl0,hbt,hg⟩:=hg
          subst hbt
          have h00:Int.toNat 0=0:=rfl
          obtain ⟨y,hy⟩:∃ y,y=l.getD 0 default:=⟨_,rfl⟩
          rw [← hy] at hg
          apply AWp.wk tF mF [(33,[(2,.bool fun _=>true,[])]),(34,[(2,.tup [slcV (c+1) .any fun _=>l,.bool fun _=>true],[])]),(38,[(4,.tup [encV (c+2) .any fun _=>v,.bool fun _=>true],[])]),(40,[(5,encV (c+2) .any fun _=>v,[])])] kp23 ?_
          (any_goals ((with_reducible refine wI ?_);cbv;(try dsimp only [nc] at *);(repeat' (with_reducible first|exact aO|exact oN|refine oC ?_ ?_|refine VC.mk rfl ?_ ?_ ?_|(apply Ca.mk<;>intro _)|(apply Cv.mk<;>intro zq<;>(try simp only [nc,cl] at zq)<;>(try simp only [bl,dl] at zq)<;>(revert zq;intro _))|((first|apply xE|apply uE);cbv;(try dsimp only [nc] at *))))))
          all_goals (try (exact absurd trivial ‹¬True›))
          all_goals (try (exact absurd hlt (Nat.not_lt.2 ‹s.fields.length≤i›)))
          all_goals (try (exfalso;omega))
          all_goals (try simp only [Int.toNat_natCast,h00,← hf,← hy])
          any_goals (refine nO ?_;first|exact hwf|exact hm|exact hg)
          ((all_goals (try (with_reducible ((first|refine rE ?_|refine nE ?_);(focus (cbv;(try dsimp only [nc] at *);(try simp only [wl,nc]);(repeat' (with_reducible apply And.intro));all_goals (try exact wZ)))))));(all_goals (try ((with_reducible rw [aC]);(try simp only [wl,nc]);(repeat' (with_reducible apply And.intro));(all_goals (try exact cZ))))))
    · apply AWp.wk tF mF [] kp23 ?_
      (any_goals ((with_reducible refine wI ?_);cbv;(try dsimp only [nc] at *);(repeat' (with_reducible first|exact aO|exact oN|refine oC ?_ ?_|refine VC.mk rfl ?_ ?_ ?_|(apply Ca.mk<;>intro _)|(apply Cv.mk<;>intro zq<;>(try simp only [nc,cl] at zq)<;>(try simp only [bl,dl] at zq)<;>(revert zq;intro _))|((first|apply xE|apply uE);cbv;(try dsimp only [nc] at *))))))
      all_goals (try (exact absurd ‹i<s.fields.length› hlt))
      any_goals (refine nO ?_;dsimp only;refine Af.wN (hr fun x hx=>by
        obtain ⟨k,hk,rfl⟩:=List.getElem_of_mem hx
        have:=i2 k (by omega)
        rwa [show s.fields.getD k default=s.fields[k] by simp [List.getD,hk]] at this) ?_;(focus (cbv;(try dsimp only [nc] at *);(try simp only [wl,nc]);(repeat' (with_reducible apply And.intro));all_goals (try exact wZ))))
      ((all_goals (try (with_reducible ((first|refine rE ?_|refine nE ?_);(focus (cbv;(try dsimp only [nc] at *);(try simp only [wl,nc]);(repeat' (with_reducible apply And.intro));all_goals (try exact wZ)))))));(all_goals (try ((with_reducible rw [aC]);(try simp only [wl,nc]);(repeat' (with_reducible apply And.intro));(all_goals (try exact cZ))))))
theorem wit_ex (e:Nat) (he:e+1≤1073741824):∀ (d:Nat) (s t:Ty),d+(e+1)≤1073741824→Ty.le (e+1) d s→Ty.le (e+1) d t→Ty.ok (e+1) d s→Ty.ok (e+1) d t→withinB d s t=false →
    ∃ v b,V.le (d+(e+1)) v∧Af Tryz.prog 23 [encT (e+1) d .any fun _=>s,encT (e+1) d .any fun _=>t] [] (.tup [encV (d+(e+1)) .any fun _=>v,.bool fun _=>b]) []
  | 0,_,_,_,h,_,_,_,_=>h.elim
  | d + 1,s,t,hc,hs,ht,hso,hto,hnw=>by
    have ih:=wit_ex e he d
    by_cases c0:s.kind≠t.kind∨(s.kind=3∧s.scale≠t.scale)
    · exact ⟨_,_,lstW_le e (d+1) s hs,wit_off e (d+1) s t he hs ht c0⟩
    have kk:t.kind=s.kind:=by omega
    have hlt:=leV_text (c:=d+(e+1)) (k:=s.kind) (i:=bndW s t) (s:=s.scale) (x:=⟨#[]⟩) (by decide)
    rw [show d+1+(e+1)=d+(e+1)+1 by omega]
    by_cases c1:s.kind=2∨s.kind=3∨s.kind=6∨s.kind=7
    · exact ⟨_,true,hlt,wit_num2 (e+1) (d+1) (d+(e+1)) s t c1 kk fun q=>by
        rcases Decidable.em (s.scale=t.scale) with h|h
        · exact h
        · exact absurd (.inr ⟨q,h⟩) c0⟩
    have hbs:=fun q=>ownT_bnd hso.1 q
    have hbt:=fun q=>ownT_bnd hto.1 q
    by_cases c5:s.kind=5
    · have hb:=hbs (.inr (.inl c5)) (ownT_nowords hso.1 (by omega))
      exact ⟨_,true,leV_text (by rw [repS_size];unfold bndW;split<;>omega),wit_bytes (e+1) (d+1) (d+(e+1)) s t c5 (by omega) hb⟩
    by_cases c4:s.kind=4
    · have hw:=ownT_words hso.1 c4
      have hb:¬ 0<s.words.length→0≤s.min∧s.min≤s.max∧s.max≤1024:=fun q=>hbs (.inl c4) (by omega)
      have hb0:s.min≤1024:=by
        by_cases q:0<s.words.length
        · have:=hw.2 q;omega
        · have:=hb q;omega
      refine ⟨_,true,leV_text ?_,wit_text (e+1) d (d+(e+1)) s t hs ht c4 (by omega) hb0 hb⟩
      unfold witT
      split
      · rename_i q
        refine hs.2.1 _ (gD ?_)
        have:iI (fun w=>!txtB t w) s.words<s.words.length:=by unfold iI;split<;>omega
        omega
      split
      · exact freeV_size hb0
      · rename_i q _
        have:=hb q
        rw [repS_size];unfold bndW;split<;>omega
    have hsp:=fun x (hx:x ∈ s.fields) (k:s.kind=9∨s.kind=10)=>hso.2.1 (fT x) (by simp only [pS];rw [if_neg (by omega),if_pos k];exact List.mem_map_of_mem hx)
    have htp:=fun x (hx:x ∈ t.fields) (k:t.kind=9∨t.kind=10)=>hto.2.1 (fT x) (by simp only [pS];rw [if_neg (by omega),if_pos k];exact List.mem_map_of_mem hx)
    by_cases c8:s.kind=8
    · have ls:=ownT_elem hso.1 c8
      have lt:=ownT_elem hto.1 (by omega)
      refine wit_list e d s t he (by omega) hs ht c8 (by omega) ls lt (hbs (.inr (.inr c8)) (ownT_nowords hso.1 (by omega))) (hbt (.inr (.inr (by omega))) (ownT_nowords hto.1 (by omega))) fun q1 q2=>?_
      refine ih _ _ (by omega) (Ty.le_elem hs (by omega)) (Ty.le_elem ht (by omega)) (Ty.ok_elem0 hso c8) (Ty.ok_elem0 hto (by omega)) ?_
      rw [withinB_list (by omega) c8] at hnw
      have:bndB s t=true:=decide_eq_true ⟨by omega,by omega⟩
      rw [this,Bool.true_and,Bool.or_eq_false_iff] at hnw
      exact hnw.2
    by_cases cf:s.kind=9∨s.kind=10
    · have hnd:=(ownT_nodup hto.1 (by omega)).2
      have hlen:=ownT_len hso.1 cf
      have hdef:∀ x ∈ s.fields,fN x=3→0<(fDef x).length:=fun x hx q=>by
        rcases cf with k|k
        · exact ownT_def hso.1 k hx q
        · have:=ownT_need hso.1 k hx;omega
      have hfs:=fun x (hx:x ∈ s.fields)=>(hs.2.2.2.2.2 x hx).2.2.2
      have hgt:∀ x:TF,0≤iI (bQ (fM x)) t.fields→gT t (bQ (fM x)) ∈ t.fields:=fun x q=>by
        unfold gT
        refine gD ?_
        unfold iI at q ⊢
        split at q
        · rw [if_pos ‹_›,Int.toNat_natCast];assumption
        · omega
      have hwi:=fun x (hx:x ∈ s.fields) (q:0≤iI (bQ (fM x)) t.fields)=>within_ok (e+1) d (fT x) (fT (gT t (bQ (fM x)))) (hfs x hx) (ht.2.2.2.2.2 _ (hgt x q)).2.2.2 (hsp x hx cf) (htp _ (hgt x q) (by omega))
      have hwr:=fun x (hx:x ∈ s.fields)=>wrongF_ok (e+1) d x t ht hnd (hwi x hx)
      have hmem:=fun x (hx:x ∈ s.fields)=>member_ex e d (d+(e+1)) x t he rfl (hfs x hx) ht hnd (hwi x hx) fun q r=>ih _ _ (by omega) (hfs x hx) (ht.2.2.2.2.2 _ (hgt x q)).2.2.2 (hsp x hx cf) (htp _ (hgt x q) (by omega)) r
      have hrec:=fun name l hl hlv=>recordW_ex e d s he (by omega) hs hlen hdef name l hl hlv
      obtain ⟨c,hcc⟩:∃ c,d+(e+1)=c+1:=⟨d+e,by omega⟩
      rw [hcc] at hmem hrec ⊢
      have hdv:V.le (c+2) (default:V):=default_leV _
      have hoff:=fun x (hx:x ∈ s.fields) (k:s.kind=10) (q:wrongB (withinB d) t x=true)=>(show iI (bQ (fM x)) t.fields<0∨withinB d (fT x) (fT (gT t (bQ (fM x))))=false by
        have hn:=ownT_need hso.1 k hx
        unfold wrongB offB at q
        rw [decide_eq_false (show ¬ fN x=2 by omega)] at q
        simpa using q)
      have hname:=fun x (hx:x ∈ s.fields)=>(hs.2.2.2.2.2 x hx).1
      clear ih hsp htp hfs hgt hwi hdef hbs hbt
      generalize hp:wrongB (withinB d) t=p at hwr hoff
      by_cases hj0:s.fields.findIdx p<s.fields.length
      · have hpj:p (s.fields.getD (s.fields.findIdx p) default)=true:=by
          have:=List.findIdx_getElem (w:=hj0) (p:=p)
          rwa [show s.fields.getD (s.fields.findIdx p) default=s.fields[s.fields.findIdx p] by simp [List.getD,hj0]]
        have hun:∀ j,j<s.fields.length→(∀ i,i<j→p (s.fields.getD i default)=false)→p (s.fields.getD j default)=true→j=s.fields.findIdx p:=fun j h1 h2 h3=>(findIdx_at (x:=default) h1 h3 h2).symm
        generalize s.fields.findIdx p=j0 at hj0 hpj hun
        obtain ⟨f0,hf0⟩:∃ f,f=s.fields.getD j0 default:=⟨_,rfl⟩
        have hfm:f0 ∈ s.fields:=by rw [hf0];exact gD hj0
        rw [← hf0] at hpj
        have hno:(∀ x ∈ s.fields,p x=false)→False:=fun h=>by rw [h f0 hfm] at hpj;cases hpj
        obtain ⟨l,b1,hl1,hl2,hl3,hm⟩:=hmem f0 hfm
        cases b1 with
        | false =>
          refine ⟨default,false,hdv,?_⟩
          rcases cf with k|k
          · refine wit_r9 e d c s t k (by omega) hs p hwr default false (fun h=>(hno h).elim) fun j h1 h2 h3=>?_
            obtain rfl:=hun j h1 h2 h3
            rw [← hf0]
            exact ⟨l,false,hl1,hm,fun _=>⟨rfl,rfl⟩,fun h=>by cases h⟩
          · refine wit_r10 e d c s t k (by omega) hs p hwr default false (fun h=>(hno h).elim) fun j h1 h2 h3=>?_
            obtain rfl:=hun j h1 h2 h3
            rw [← hf0]
            exact ⟨l,false,hl1,hm,fun _=>⟨rfl,rfl⟩,fun h=>by cases h⟩
        | true =>
          rcases cf with k|k
          · obtain ⟨v,b,hv,hg⟩:=hrec (fM f0) l hl1 hl3
            refine ⟨v,b,hv,wit_r9 e d c s t k (by omega) hs p hwr v b (fun h=>(hno h).elim) fun j h1 h2 h3=>?_⟩
            obtain rfl:=hun j h1 h2 h3
            rw [← hf0]
            exact ⟨l,true,hl1,hm,fun h=>(by cases h),fun _=>hg⟩
          · have hl0:=hl2 (hoff f0 hfm k hpj)
            have hlv:=hl3 _ (gD (x:=(default:V)) hl0)
            refine ⟨varV (fM f0) (l.getD 0 default),true,varV_le (hname f0 hfm) hlv,wit_r10 e d c s t k (by omega) hs p hwr _ true (fun h=>(hno h).elim) fun j h1 h2 h3=>?_⟩
            obtain rfl:=hun j h1 h2 h3
            rw [← hf0]
            exact ⟨l,true,hl1,hm,fun h=>(by cases h),fun _=>⟨hl0,rfl,any_of (Variant_ok _ _ _ (hname f0 hfm) hlv)⟩⟩
      · obtain ⟨v,b,hv,hg⟩:=hrec ⟨#[]⟩ [] (by simp) (fun _ h=>by cases h)
        have hno:∀ j,j<s.fields.length→p (s.fields.getD j default)=true→False:=fun j h1 h2=>hj0 (List.findIdx_lt_length.2 ⟨_,gD h1,h2⟩)
        refine ⟨v,b,hv,?_⟩
        rcases cf with k|k
        · exact wit_r9 e d c s t k (by omega) hs p hwr v b (fun _=>hg) fun j h1 h2 h3=>(hno j h1 h3).elim
        · exact wit_r10 e d c s t k (by omega) hs p hwr v b (fun _=>hg) fun j h1 h2 h3=>(hno j h1 h3).elim
    · have hk:=ownT_kind hso.1
      have k1:s.kind=1:=by omega
      exfalso
      simp only [withinB] at hnw
      rw [if_neg (by omega),if_pos k1] at hnw
      cases hnw
end Go.Ai
