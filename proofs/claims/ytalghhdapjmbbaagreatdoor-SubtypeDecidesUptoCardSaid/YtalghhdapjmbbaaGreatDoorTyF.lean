/- Chapter 6: accepts, check. -/
import Derived.Test.YtalghhdapjmbbaaGreatDoorTyE
set_option linter.all false
namespace Go.Ai
open Go Go.Proofs
set_option maxRecDepth 100000
set_option maxHeartbeats 4000000
theorem accepts_ok (e d c:Nat) (t:Ty) (v:V) (ht:Ty.le e d t) (hto:Ty.ok e d t) (hv:V.le c v) (hc:c≤1073741824):Af Tryz.prog 106 [encT e d .any fun _=>t,encV c .any fun _=>v] [] (.bool fun _=>accV c d t v) []:=by
  obtain ⟨c,rfl⟩:=V.lP hv
  (apply Af.of tF mF [.tmp 4] kp106 [(0,[(0,.nil,[]),(1,.nil,[])]),(1,[(1,.int .i64 fun _=>chk (c+1) v,[]),(6,.bool fun _=>hasT d t v,[])])] Tryz.func106 (fun _=>?_);(any_goals ((with_reducible refine wI ?_);cbv;(try dsimp only [nc] at *);(repeat' (with_reducible first|exact aO|exact oN|refine oC ?_ ?_|refine VC.mk rfl ?_ ?_ ?_|(apply Ca.mk<;>intro _)|(apply Cv.mk<;>intro zq<;>(try simp only [nc,cl] at zq)<;>(try simp only [bl,dl] at zq)<;>(revert zq;intro _))|((first|apply xE|apply uE);cbv;(try dsimp only [nc] at *)))))))
  (any_goals ((with_reducible refine bZ ?_)<;>exact (valCheck_ok c v hv hc)))
  any_goals (with_reducible refine sO (fun q=>?_))<;>exact has_ok e d (c+1) t v ht hto hv (V.ok_of_chk (by simpa using q))
  ((all_goals (try (with_reducible ((first|refine rE ?_|refine nE ?_);(focus (cbv;(try dsimp only [nc] at *);(try simp only [wl,nc]);(repeat' (with_reducible apply And.intro));all_goals (try exact wZ)))))));(all_goals (try ((with_reducible rw [aC]);(try simp only [wl,nc]);(repeat' (with_reducible apply And.intro));(all_goals (try exact cZ))))))
  simp only [accV]
  by_cases q:chk (c+1) v=0<;>simp [q]
def goT (f:Ty→Int→Int×Int) (bad:Nat→Bool):Nat→List Ty→Int→Int×Int
  | _,[],l=>(0,l)
  | i,x :: xs,l=>if (f x l).1≠0 then f x l else if bad i then (18,(f x l).2) else goT f bad (i+1) xs (f x l).2
def badT (e d:Nat) (t:Ty) (i:Nat):Bool:=t.kind == 9 && (fN (t.fields.getD i default) == 3 && !accV e d (fT (t.fields.getD i default)) ((fDef (t.fields.getD i default)).getD 0 default))
def runT (e:Nat):Nat→Int→Ty→Int→Int×Int
  | 0,_,_,l=>(0,l)
  | d+1,lev,t,l =>
    if l=0 then (9,l) else if 8<lev then (23,l) else if ownT t≠0 then (ownT t,l - 1) else
    goT (fun x l=>runT e d (lev+1) x l) (badT e d t) 0 (pS t) (l - 1)
theorem goT_le {f:Ty→Int→Int×Int} {bad:Nat→Bool}:∀ (xs:List Ty) (i:Nat) (l:Int),(∀ x ∈ xs,∀ l,0≤l→0≤(f x l).2∧(f x l).2≤l)→0≤l→0≤(goT f bad i xs l).2∧(goT f bad i xs l).2≤l
  | [],_,l,_,h0=>⟨h0,Int.le_refl _⟩
  | x :: xs,i,l,h,h0=>by
    have h1:=h x (by simp) l h0
    simp only [goT]
    split
    · exact h1
    split
    · exact h1
    · have:=goT_le (bad:=bad) xs (i+1) (f x l).2 (fun y hy=>h y (by simp [hy])) h1.1
      omega
theorem runT_le (e:Nat):∀ (d:Nat) (lev:Int) (t:Ty) (l:Int),0≤l→0≤(runT e d lev t l).2∧(runT e d lev t l).2≤l
  | 0,_,_,l,h=>⟨h,Int.le_refl _⟩
  | d + 1,lev,t,l,h=>by
    simp only [runT]
    split
    · exact ⟨h,Int.le_refl _⟩
    split
    · exact ⟨h,Int.le_refl _⟩
    split
    · exact ⟨by show 0≤l - 1;omega,by show l - 1≤l;omega⟩
    · have:=goT_le (f:=fun x l=>runT e d (lev+1) x l) (bad:=badT e d t) (pS t) 0 (l - 1) (fun x _ l h=>runT_le e d (lev+1) x l h) (by omega)
      omega
theorem goT_ok {f:Ty→Int→Int×Int} {bad:Nat→Bool}:∀ (xs:List Ty) (i:Nat) (l:Int),(goT f bad i xs l).1=0→(∀ x ∈ xs,∃ l,(f x l).1=0)∧∀ j,j<xs.length→bad (i+j)=false
  | [],_,_,_=>⟨by simp,by simp⟩
  | x :: xs,i,l,h=>by
    simp only [goT] at h
    split at h
    · exact absurd h ‹_›
    · split at h
      · cases h
      · obtain ⟨h1,h2⟩:=goT_ok xs (i+1) _ h
        refine ⟨fun y hy=>?_,fun j hj=>?_⟩
        · rcases List.mem_cons.1 hy with rfl|hy
          · exact ⟨l,by omega⟩
          · exact h1 y hy
        · cases j with
          | zero=>simpa using ‹¬ bad i=true›
          | succ j=>have:=h2 j (by simpa using hj);rwa [show i+(j+1)=i+1+j by omega]
theorem runT_ok (e:Nat):∀ (d:Nat) (lev:Int) (t:Ty) (l:Int),Ty.le e d t→(runT e d lev t l).1=0→Ty.ok e d t
  | 0,_,_,_,h,_=>h.elim
  | d + 1,lev,t,l,ht,h=>by
    simp only [runT] at h
    split at h
    · cases h
    split at h
    · cases h
    split at h
    · exact absurd h ‹_›
    · obtain ⟨h1,h2⟩:=goT_ok _ _ _ h
      refine ⟨by omega,fun x hx=>?_,fun hk f hf h3=>?_⟩
      · obtain ⟨l,hl⟩:=h1 x hx
        refine runT_ok e d (lev+1) x l ?_ hl
        simp only [pS] at hx
        split at hx
        · exact ht.2.2.2.2.1 x hx
        · split at hx
          · obtain ⟨f,hf,rfl⟩:=List.mem_map.1 hx
            exact (ht.2.2.2.2.2 f hf).2.2.2
          · cases hx
      · obtain ⟨j,hj,hjf⟩:=List.getElem_of_mem hf
        have:=h2 j (by simp only [pS];rw [if_neg (by omega),if_pos (.inl hk)];simpa using hj)
        simp only [badT,Nat.zero_add,List.getD_eq_getElem?_getD,List.getElem?_eq_getElem hj,hjf,Option.getD_some,hk,h3] at this
        simpa using this
theorem partsT_le {e d:Nat} {t:Ty} (ht:Ty.le e (d+1) t):∀ x ∈ pS t,Ty.le e d x:=fun x hx=>by
  simp only [pS] at hx
  split at hx
  · exact ht.2.2.2.2.1 x hx
  · split at hx
    · obtain ⟨f,hf,rfl⟩:=List.mem_map.1 hx
      exact (ht.2.2.2.2.2 f hf).2.2.2
    · cases hx
theorem partsT_len {e d:Nat} {t:Ty} (ht:Ty.le e (d+1) t):(pS t).length≤1073741824:=by
  simp only [pS]
  split
  · exact ht.2.2.1
  · split
    · simpa using ht.2.2.2.1
    · simp
theorem ownT_field {t:Ty} (h:ownT t=0) (hk:t.kind=9∨t.kind=10) {j:Nat} (hj:j<t.fields.length):fieldE t j=0:=by
  have:fI (fieldE t) t.fields.length=0:=by simp only [ownT] at h;grind
  exact firstI_nz hj this
theorem ownT_def {t:Ty} (h:ownT t=0) (hk:t.kind=9) {f:TF} (hf:f ∈ t.fields) (hn:fN f=3):0<(fDef f).length:=by
  obtain ⟨j,hj,hjf⟩:=List.getElem_of_mem hf
  have h1:=ownT_field h (.inl hk) hj
  simp only [fieldE,fldE,List.getD_eq_getElem?_getD,List.getElem?_eq_getElem hj,hjf,Option.getD_some] at h1
  grind
theorem check_step (e d:Nat) (lev:Int) (t:Ty) (l:Int) (he:e≤1073741824) (ht:Ty.le e (d+1) t) (h0:0≤lev∧lev≤1073741824) (hl:0≤l∧l≤1073741824)
    (ih:∀ x,Ty.le e d x→∀ l,0≤l∧l≤1073741824→lev≤8→Af Tryz.prog 60 [encT e d .any fun _=>x,.int .i64 fun _=>lev+1,.ptr 1002 0] [(1002,.box [.int .i64 fun _=>l])] (.int .i64 fun _=>(runT e d (lev+1) x l).1) [(1002,.box [.int .i64 fun _=>(runT e d (lev+1) x l).2])]) :
    Af Tryz.prog 60 [encT e (d+1) .any fun _=>t,.int .i64 fun _=>lev,.ptr 1002 0] [(1002,.box [.int .i64 fun _=>l])] (.int .i64 fun _=>(runT e (d+1) lev t l).1) [(1002,.box [.int .i64 fun _=>(runT e (d+1) lev t l).2])]:=by
  (apply Af.of tF mF [.tmp 6] kp60 [(0,[(0,.nil,[])]),(6,[(1,.int .i64 fun _=>ownT t,[])]),(9,[(1,slcT e d .any fun _=>pS t,[])])] Tryz.func60 (fun _=>?_);(any_goals ((with_reducible refine wI ?_);cbv;(try dsimp only [nc] at *);(repeat' (with_reducible first|exact aO|exact oN|refine oC ?_ ?_|refine VC.mk rfl ?_ ?_ ?_|(apply Ca.mk<;>intro _)|(apply Cv.mk<;>intro zq<;>(try simp only [nc,cl] at zq)<;>(try simp only [bl,dl] at zq)<;>(revert zq;intro _))|((first|apply xE|apply uE);cbv;(try dsimp only [nc] at *)))))))
  (any_goals ((with_reducible refine bZ ?_)<;>exact (own_ok e d t ht)))
  (any_goals ((with_reducible refine bZ ?_)<;>exact (partsT_ok e d t ht)))
  ((all_goals (try (with_reducible ((first|refine rE ?_|refine nE ?_);(focus (cbv;(try dsimp only [nc] at *);(try simp only [wl,nc]);(repeat' (with_reducible apply And.intro));all_goals (try exact wZ)))))));(all_goals (try ((with_reducible rw [aC]);(try simp only [wl,nc]);(repeat' (with_reducible apply And.intro));(all_goals (try exact cZ))))))
  · simp [runT, *]
  · simp [runT, *]
  · simp [runT, *]
  · simp [runT, *]
  · simp [runT, *,Int.not_lt.2 ‹lev≤8›]
  · rw [w64 (by omega) (by omega)];simp [runT, *,Int.not_lt.2 ‹lev≤8›]
  have h8:lev≤8:=‹_›
  have hown:ownT t=0:=‹_›
  obtain ⟨F,hF⟩:∃ F:Ty→Int→Int×Int,F=fun x l=>runT e d (lev+1) x l:=⟨_,rfl⟩
  obtain ⟨R,hR⟩:∃ R:Int×Int,R=runT e (d+1) lev t l:=⟨_,rfl⟩
  have hRe:R=goT F (badT e d t) 0 (pS t) (l - 1):=by
    rw [hR,hF];simp only [runT];rw [if_neg ‹_›,if_neg (by omega),if_neg (by omega)]
  rw [← hR]
  have hp:=partsT_le ht
  have hpl:(pS t).length≤1073741824:=partsT_len ht
  refine .loop (fun p:Nat×Int=>⟨71,[(32,.int .i64 fun _=>p.1),(31,.int .i64 fun _=>(pS t).length),(30,slcT e d .any fun _=>pS t),(3,boxT e (d+1) fun _=>t),(1,.int .i64 fun _=>lev),(2,.ptr 1002 0)],
      [(1002,.box [.int .i64 fun _=>p.2])]⟩)
    (fun p=>p.1≤(pS t).length∧(0≤p.2∧p.2≤1073741824)∧R=goT F (badT e d t) p.1 ((pS t).drop p.1) p.2) (fun p=>(pS t).length - p.1) (0,l - 1) ⟨by simp,by simp;omega,by simpa using hRe⟩ ?_ fun p E hi=>?_
  · (focus (cbv;(try dsimp only [nc] at *);(try simp only [wl,nc]);(repeat' (with_reducible apply And.intro));all_goals (try exact wZ)))
    all_goals (rw [w64 (by omega) (by omega)])
  by_cases h:p.1<(pS t).length
  · obtain ⟨x,hx⟩:∃ x,x=(pS t).getD p.1 default:=⟨_,rfl⟩
    have hxm:x ∈ pS t:=by rw [hx];exact gD h
    obtain ⟨f,hf⟩:∃ f,f=t.fields.getD p.1 default:=⟨_,rfl⟩
    have hd:(pS t).drop p.1=x :: (pS t).drop (p.1+1):=by
      rw [List.drop_eq_getElem_cons h,hx,List.getD_eq_getElem?_getD,List.getElem?_eq_getElem h,Option.getD_some]
    have hRi:=hi.2.2
    rw [hd] at hRi
    simp only [goT] at hRi
    have h9:t.kind=9→p.1<t.fields.length∧x=fT f:=fun hk=>by
      have hpe:pS t=t.fields.map fT:=by simp only [pS];rw [if_neg (by omega),if_pos (.inl hk)]
      rw [hpe] at h hx
      have h':p.1<t.fields.length:=by simpa using h
      exact ⟨h',by rw [hx,hf,getD_map h']⟩
    have h3:t.kind=9→fN f=3→0<(fDef f).length:=fun hk hn=>ownT_def hown hk (by rw [hf];exact gD (h9 hk).1) hn
    have hFx:(F x p.2)=runT e d (lev+1) x p.2:=by rw [hF]
    have hle:=runT_le e d (lev+1) x p.2 hi.2.1.1
    have hih:=ih x (hp x hxm) p.2 hi.2.1 h8
    rw [← hFx] at hih hle
    have hb:¬ t.kind=9∨(p.1<t.fields.length∧(fN f=3→0<(fDef f).length)):=by
      by_cases hk:t.kind=9
      · exact .inr ⟨(h9 hk).1,h3 hk⟩
      · exact .inl hk
    apply AWp.wk tF mF [(12,[(4,.int .i64 fun _=>(F x p.2).1,[(1002,.box [.int .i64 fun _=>(F x p.2).2])])]),(15,[(22,.bool fun _=>accV e d x ((fDef f).getD 0 default),[])])] kp60 ?_
    (any_goals ((with_reducible refine wI ?_);cbv;(try dsimp only [nc] at *);(repeat' (with_reducible first|exact aO|exact oN|refine oC ?_ ?_|refine VC.mk rfl ?_ ?_ ?_|(apply Ca.mk<;>intro _)|(apply Cv.mk<;>intro zq<;>(try simp only [nc,cl] at zq)<;>(try simp only [bl,dl] at zq)<;>(revert zq;intro _))|((first|apply xE|apply uE);cbv;(try dsimp only [nc] at *))))))
    all_goals (try exact absurd h (Nat.not_lt.2 ‹(pS t).length≤p.1›))
    all_goals (try simp only [Int.toNat_natCast,← hx,← hf])
    (any_goals ((with_reducible refine bZ ?_);(try dsimp only);(have q:=(hih);refine Af.wN q ?_;clear q);(focus (cbv;(try dsimp only [nc] at *);(try simp only [wl,nc]);(repeat' (with_reducible apply And.intro));all_goals (try exact wZ)))))
    any_goals (with_reducible refine sO (fun q=>?_))<;>exact (by
      have q2:t.kind=9∧fN f=3:=by
        simp at q;exact q
      have hfm:f ∈ t.fields:=by rw [hf];exact gD (h9 q2.1).1
      exact accepts_ok e d e x _ (hp x hxm) (runT_ok e d (lev+1) x p.2 (hp x hxm) (by rw [← hFx];exact ‹(F x p.2).1=0›)) ((ht.2.2.2.2.2 _ hfm).2.2.1 _ (gD (h3 q2.1 q2.2))) he)
    ((all_goals (try (with_reducible ((first|refine rE ?_|refine nE ?_);(focus (cbv;(try dsimp only [nc] at *);(try simp only [wl,nc]);(repeat' (with_reducible apply And.intro));all_goals (try exact wZ)))))));(all_goals (try ((with_reducible rw [aC]);(try simp only [wl,nc]);(repeat' (with_reducible apply And.intro));(all_goals (try exact cZ))))))
    · exact w64 (by omega) (by omega)
    · rw [hRi,if_pos ‹_›]
    · rw [hRi,if_pos ‹_›]
    · have hbad:badT e d t p.1=true:=by
        have q:=‹_∧accV e d x ((fDef f).getD 0 default)=false›
        rw [← hf] at q
        simp only [badT,← hf,← (h9 q.1.1).2,q.1.1,q.1.2,q.2];rfl
      rw [hRi,if_neg (by simp;assumption),if_pos hbad]
    · have hbad:badT e d t p.1=true:=by
        have q:=‹_∧accV e d x ((fDef f).getD 0 default)=false›
        rw [← hf] at q
        simp only [badT,← hf,← (h9 q.1.1).2,q.1.1,q.1.2,q.2];rfl
      rw [hRi,if_neg (by simp;assumption),if_pos hbad]
    · have hbad:badT e d t p.1=false:=by
        have q:=‹_∨accV e d x ((fDef f).getD 0 default)=true›
        rw [← hf] at q
        by_cases hk:t.kind=9
        · by_cases hn:fN f=3
          · have q2:=q.resolve_left (fun q=>q.elim (fun z=>z hk) (fun z=>z hn))
            simp only [badT,← hf,← (h9 hk).2,hk,hn,q2];rfl
          · have hn2:(fN f == 3)=false:=by simp [hn]
            simp only [badT,← hf,hn2,Bool.false_and,Bool.and_false]
        · simp [badT,hk]
      rw [if_neg (by simp;assumption),if_neg (by simp [hbad])] at hRi
      refine dE (p.1+1,(F x p.2).2) ⟨⟨by show p.1+1≤_;omega,by show 0≤(F x p.2).2∧(F x p.2).2≤_;omega,hRi⟩,by show _ - (p.1+1)<_ - p.1;omega⟩ ?_
      (focus (cbv;(try dsimp only [nc] at *);(try simp only [wl,nc]);(repeat' (with_reducible apply And.intro));all_goals (try exact wZ)))
      exact w64n (by omega)
  · apply AWp.wk tF mF [(12,[(4,.int .i64 fun _=>0,[(1002,.box [.int .i64 fun _=>0])])]),(15,[(22,.bool fun _=>true,[])])] kp60 ?_
    (any_goals ((with_reducible refine wI ?_);cbv;(try dsimp only [nc] at *);(repeat' (with_reducible first|exact aO|exact oN|refine oC ?_ ?_|refine VC.mk rfl ?_ ?_ ?_|(apply Ca.mk<;>intro _)|(apply Cv.mk<;>intro zq<;>(try simp only [nc,cl] at zq)<;>(try simp only [bl,dl] at zq)<;>(revert zq;intro _))|((first|apply xE|apply uE);cbv;(try dsimp only [nc] at *))))))
    all_goals (try exact absurd ‹p.1<(pS t).length› h)
    ((all_goals (try (with_reducible ((first|refine rE ?_|refine nE ?_);(focus (cbv;(try dsimp only [nc] at *);(try simp only [wl,nc]);(repeat' (with_reducible apply And.intro));all_goals (try exact wZ)))))));(all_goals (try ((with_reducible rw [aC]);(try simp only [wl,nc]);(repeat' (with_reducible apply And.intro));(all_goals (try exact cZ))))))
    all_goals (rw [hi.2.2,List.drop_eq_nil_of_le ‹_›];rfl)
theorem check_ok (e:Nat) (he:e≤1073741824):∀ (d:Nat) (lev:Int) (t:Ty) (l:Int),Ty.le e d t→0≤lev∧lev≤1073741824→0≤l∧l≤1073741824 →
    Af Tryz.prog 60 [encT e d .any fun _=>t,.int .i64 fun _=>lev,.ptr 1002 0] [(1002,.box [.int .i64 fun _=>l])] (.int .i64 fun _=>(runT e d lev t l).1) [(1002,.box [.int .i64 fun _=>(runT e d lev t l).2])]
  | 0,_,_,_,h,_,_=>h.elim
  | d+1,lev,t,l,ht,h0,hl=>check_step e d lev t l he ht h0 hl fun x hx l hl h8=>check_ok e he d (lev+1) x l hx (by omega) hl
def sumTo (g:Nat→Int):Nat→Int
  | 0=>0
  | i+1=>sumTo g i+g i
theorem sumTo_le {g:Nat→Int} {m:Int}:∀ (n:Nat),(∀ i,i<n→0≤g i∧g i≤m)→0≤sumTo g n∧sumTo g n≤n * m
  | 0,_=>by simp [sumTo]
  | n+1,h=>by
    have h1:=sumTo_le n fun i hi=>h i (by omega)
    have h2:=h n (by omega)
    simp only [sumTo]
    rw [show ((n+1:Nat):Int) * m=n * m+m by rw [Int.natCast_succ,Int.add_mul,Int.one_mul]]
    omega
def leastF (e:Nat) (f:Ty→Int) (x:TF):Int:=if fN x=1 then f (fT x) else if fN x=3 then (sV e ((fDef x).getD 0 default):Int) else 0
def leastT (e:Nat):Nat→Ty→Int
  | 0,_=>0
  | d + 1,t=>min (1+(if t.kind=8 then (if 0<t.min then t.min * leastT e d (t.elem.getD 0 default) else 0) else if t.kind=10 then leastT e d (fT (t.fields.getD 0 default)) else
      if t.kind=9 then sumTo (fun i=>leastF e (leastT e d) (t.fields.getD i default)) t.fields.length else 0)) 4097
theorem ownT_vs {t:Ty} (h:ownT t=0) (hk:t.kind=10):0<t.fields.length:=by
  simp only [ownT] at h;grind
theorem ownT_len {t:Ty} (h:ownT t=0) (hk:t.kind=9∨t.kind=10):t.fields.length≤64:=by
  simp only [ownT] at h;grind
theorem ownT_min {t:Ty} (h:ownT t=0) (hk:t.kind=8):0≤t.min∧t.min≤256:=by
  have h2:kLo t.kind=0∧kHi t.kind=256:=by rw [hk];decide
  have:¬ ((2≤t.kind∧t.kind≤8)∧(t.max<t.min∨t.min<kLo t.kind∨kHi t.kind<t.max)):=by
    simp only [ownT] at h;grind
  omega
theorem sumTo_nn {g:Nat→Int} (h:∀ i,0≤g i):∀ (n:Nat),0≤sumTo g n
  | 0=>by simp [sumTo]
  | n+1=>by
    have:=sumTo_nn h n
    have:=h n
    simp only [sumTo];omega
theorem leastF_nn {e:Nat} {f:Ty→Int} (h:∀ t,0≤f t) (x:TF):0≤leastF e f x:=by
  simp only [leastF]
  split
  · exact h _
  split<;>omega
theorem leastT_le (e:Nat):∀ (d:Nat) (t:Ty),0≤leastT e d t∧leastT e d t≤4097
  | 0,_=>by simp [leastT]
  | d + 1,t=>by
    have ih:=leastT_le e d
    refine ⟨?_,by simp only [leastT];omega⟩
    simp only [leastT]
    split
    · split
      · have:=Int.mul_nonneg (Int.le_of_lt ‹0<t.min›) (ih (t.elem.getD 0 default)).1
        omega
      · omega
    split
    · have:=(ih (fT (t.fields.getD 0 default))).1
      omega
    split
    · have:=sumTo_nn (g:=fun i=>leastF e (leastT e d) (t.fields.getD i default)) (fun i=>leastF_nn (fun t=>(ih t).1) _) t.fields.length
      omega
    · omega
theorem chk_size {e:Nat} {v:V} (h:chk e v=0):sV e v≤4096:=by
  rcases Nat.lt_or_ge 4096 (sV e v) with q|q
  · have hl:4096<(preV e 1 v).length:=by rw [preV_len];exact q
    have:=firstI_nz hl h
    simp only [checkAt,List.getElem?_eq_getElem hl] at this
    rw [if_pos (Nat.le_refl _)] at this
    cases this
  · exact q
theorem leastF_le (e d:Nat) (t:Ty) (hto:Ty.ok e (d+1) t) (hk:t.kind=9) (i:Nat) (hi:i<t.fields.length):leastF e (leastT e d) (t.fields.getD i default)≤4097:=by
  simp only [leastF]
  split
  · exact (leastT_le e d _).2
  split
  · have:=hto.2.2 hk _ (gD hi) ‹_›
    simp only [accV,Bool.and_eq_true,decide_eq_true_eq] at this
    have:=chk_size this.1
    omega
  · decide
theorem leastSize_step (e d:Nat) (t:Ty) (he:e+1≤1073741824) (ht:Ty.le (e+1) (d+1) t) (hto:Ty.ok (e+1) (d+1) t)
    (ih:∀ x ∈ pS t,Af Tryz.prog 107 [encT (e+1) d .any fun _=>x] [] (.int .i64 fun _=>leastT (e+1) d x) []) :
    Af Tryz.prog 107 [encT (e+1) (d+1) .any fun _=>t] [] (.int .i64 fun _=>leastT (e+1) (d+1) t) []:=by
  have hl:=ownT_len hto.1
  have hm:=ownT_min hto.1
  have hv:=ownT_vs hto.1
  have hel:=ownT_elem hto.1
  have hL1:=leastT_le (e+1) d (t.elem.getD 0 default)
  have hL2:=leastT_le (e+1) d (fT (t.fields.getD 0 default))
  have hmul:t.kind=8→0<t.min→0≤t.min * leastT (e+1) d (t.elem.getD 0 default)∧t.min * leastT (e+1) d (t.elem.getD 0 default)≤1048832:=fun hk h0=>by
    refine ⟨Int.mul_nonneg (by omega) hL1.1,?_⟩
    have h1:=Int.mul_le_mul_of_nonneg_right (hm hk).2 hL1.1
    have h2:=Int.mul_le_mul_of_nonneg_left hL1.2 (show (0:Int)≤256 by decide)
    omega
  (apply Af.of tF mF [.tmp 2] kp107 [(0,[(0,.nil,[])]),(5,[(7,.int .i64 fun _=>leastT (e+1) d (t.elem.getD 0 default),[])]),(7,[(6,.int .i64 fun _=>leastT (e+1) d (fT (t.fields.getD 0 default)),[])])] Tryz.func107 (fun _=>?_);(any_goals ((with_reducible refine wI ?_);cbv;(try dsimp only [nc] at *);(repeat' (with_reducible first|exact aO|exact oN|refine oC ?_ ?_|refine VC.mk rfl ?_ ?_ ?_|(apply Ca.mk<;>intro _)|(apply Cv.mk<;>intro zq<;>(try simp only [nc,cl] at zq)<;>(try simp only [bl,dl] at zq)<;>(revert zq;intro _))|((first|apply xE|apply uE);cbv;(try dsimp only [nc] at *)))))))
  any_goals (with_reducible refine nO ?_)<;>first
    | exact ih (t.elem.getD 0 default) (by simp only [pS];rw [if_pos ‹t.kind=8›];exact gD (by rw [hel ‹_›];omega))
    | exact ih (fT (t.fields.getD 0 default)) (by simp only [pS];rw [if_neg ‹_›,if_pos (.inr ‹t.kind=10›)];exact List.mem_map_of_mem (gD (hv ‹_›)))
  ((all_goals (try (with_reducible ((first|refine rE ?_|refine nE ?_);(focus (cbv;(try dsimp only [nc] at *);(try simp only [wl,nc]);(repeat' (with_reducible apply And.intro));all_goals (try exact wZ)))))));(all_goals (try ((with_reducible rw [aC]);(try simp only [wl,nc]);(repeat' (with_reducible apply And.intro));(all_goals (try exact cZ))))))
  · have:=hmul ‹_› ‹_›
    rw [show IntKind.i64.wrap (t.min * leastT (e+1) d (t.elem.getD 0 default))=t.min * leastT (e+1) d (t.elem.getD 0 default) from w64 (by omega) (by omega),w64 (by omega) (by omega)]
    simp only [leastT];rw [if_pos ‹t.kind=8›,if_pos ‹0<t.min›]
    grind
  · simp only [leastT];grind
  · rw [w64 (by omega) (by omega)]
    simp only [leastT];rw [if_neg ‹¬ t.kind=8›,if_pos ‹t.kind=10›]
    grind
  · obtain ⟨g,hg⟩:∃ g,g=fun i=>leastF (e+1) (leastT (e+1) d) (t.fields.getD i default):=⟨_,rfl⟩
    have hres:leastT (e+1) (d+1) t=min (1+sumTo g t.fields.length) 4097:=by
      simp only [leastT];rw [if_neg ‹_›,if_neg ‹_›,if_pos ‹_›,hg]
    rw [hres]
    have h9:t.kind=9:=‹_›
    have hgle:∀ i,i<t.fields.length→0≤g i∧g i≤4097:=fun i hi=>by
      rw [hg];exact ⟨leastF_nn (fun t=>(leastT_le _ _ t).1) _,leastF_le _ _ _ hto h9 i hi⟩
    have hsum:∀ i,i≤t.fields.length→0≤sumTo g i∧sumTo g i≤262208:=fun i hi=>by
      have h1:=sumTo_le i (fun j hj=>hgle j (by omega))
      have h2:=hl (.inl h9)
      omega
    refine .loop (fun i:Nat=>⟨63,[(38,.int .i64 fun _=>i),(37,.int .i64 fun _=>t.fields.length),(36,slcTF (e+1) d .any fun _=>t.fields),(3,.int .i64 fun _=>1+sumTo g i)],[]⟩)
      (fun i=>i≤t.fields.length) (fun i=>t.fields.length - i) 0 (by simp) ?_ fun i E hi=>?_
    · (focus (cbv;(try dsimp only [nc] at *);(try simp only [wl,nc]);(repeat' (with_reducible apply And.intro));all_goals (try exact wZ)))
    by_cases h:i<t.fields.length
    · obtain ⟨f,hf⟩:∃ f,f=t.fields.getD i default:=⟨_,rfl⟩
      have hfm:f ∈ t.fields:=by rw [hf];exact gD h
      have hgi:g i=leastF (e+1) (leastT (e+1) d) f:=by rw [hg,hf]
      have h1:=hsum i hi
      have h2:=hgle i h
      have hd3:fN f=3→0<(fDef f).length:=fun hn=>ownT_def hto.1 h9 hfm hn
      have hacc:fN f=3→chk (e+1) ((fDef f).getD 0 default)=0:=fun hn=>by
        have:=hto.2.2 h9 _ hfm hn
        simp only [accV,Bool.and_eq_true,decide_eq_true_eq] at this
        exact this.1
      apply AWp.wk tF mF [(14,[(3,.int .i64 fun _=>leastT (e+1) d (fT f),[])]),(16,[(5,.int .i64 fun _=>sV (e+1) ((fDef f).getD 0 default),[])])] kp107 ?_
      (any_goals ((with_reducible refine wI ?_);cbv;(try dsimp only [nc] at *);(repeat' (with_reducible first|exact aO|exact oN|refine oC ?_ ?_|refine VC.mk rfl ?_ ?_ ?_|(apply Ca.mk<;>intro _)|(apply Cv.mk<;>intro zq<;>(try simp only [nc,cl] at zq)<;>(try simp only [bl,dl] at zq)<;>(revert zq;intro _))|((first|apply xE|apply uE);cbv;(try dsimp only [nc] at *))))))
      all_goals (try exact absurd h (Nat.not_lt.2 ‹t.fields.length≤i›))
      all_goals (try simp only [Int.toNat_natCast,← hf])
      all_goals (try (have hn:=‹fN (t.fields.getD i default)=3›;rw [← hf] at hn;have hd:=hd3 hn;have hs:=chk_size (hacc hn)))
      any_goals (with_reducible refine nO ?_)<;>first
        | exact ih (fT f) (by simp only [pS];rw [if_neg ‹_›,if_pos (.inl h9)];exact List.mem_map_of_mem hfm)
        | exact Size_ok e _ ((ht.2.2.2.2.2 _ hfm).2.2.1 _ (gD hd)) he (Nat.le_trans hs (by decide))
      ((all_goals (try (with_reducible ((first|refine rE ?_|refine nE ?_);(focus (cbv;(try dsimp only [nc] at *);(try simp only [wl,nc]);(repeat' (with_reducible apply And.intro));all_goals (try exact wZ)))))));(all_goals (try ((with_reducible rw [aC]);(try simp only [wl,nc]);(repeat' (with_reducible apply And.intro));(all_goals (try exact cZ))))))
      · have hn:=‹fN (t.fields.getD i default)=1›
        rw [← hf] at hn
        have hgv:g i=leastT (e+1) d (fT f):=by rw [hgi];simp only [leastF];rw [if_pos hn]
        refine dE (i+1) ⟨by omega,by omega⟩ ?_
        (focus (cbv;(try dsimp only [nc] at *);(try simp only [wl,nc]);(repeat' (with_reducible apply And.intro));all_goals (try exact wZ)))
        · exact w64n (by omega)
        · rw [w64 (by omega) (by omega)];simp only [sumTo];omega
      · have hgv:g i=sV (e+1) ((fDef f).getD 0 default):=by rw [hgi];simp only [leastF];rw [if_neg (by omega),if_pos hn]
        refine dE (i+1) ⟨by omega,by omega⟩ ?_
        (focus (cbv;(try dsimp only [nc] at *);(try simp only [wl,nc]);(repeat' (with_reducible apply And.intro));all_goals (try exact wZ)))
        · exact w64n (by omega)
        · rw [w64 (by omega) (by omega)];simp only [sumTo];omega
      · have hn1:=‹¬ fN (t.fields.getD i default)=1›
        have hn3:=‹¬ fN (t.fields.getD i default)=3›
        rw [← hf] at hn1 hn3
        have hgv:g i=0:=by rw [hgi];simp only [leastF];rw [if_neg hn1,if_neg hn3]
        refine dE (i+1) ⟨by omega,by omega⟩ ?_
        (focus (cbv;(try dsimp only [nc] at *);(try simp only [wl,nc]);(repeat' (with_reducible apply And.intro));all_goals (try exact wZ)))
        · exact w64n (by omega)
        · simp only [sumTo];omega
    · apply AWp.wk tF mF [(14,[(3,.int .i64 fun _=>0,[])]),(16,[(5,.int .i64 fun _=>0,[])])] kp107 ?_
      (any_goals ((with_reducible refine wI ?_);cbv;(try dsimp only [nc] at *);(repeat' (with_reducible first|exact aO|exact oN|refine oC ?_ ?_|refine VC.mk rfl ?_ ?_ ?_|(apply Ca.mk<;>intro _)|(apply Cv.mk<;>intro zq<;>(try simp only [nc,cl] at zq)<;>(try simp only [bl,dl] at zq)<;>(revert zq;intro _))|((first|apply xE|apply uE);cbv;(try dsimp only [nc] at *))))))
      all_goals (try exact absurd ‹i<t.fields.length› h)
      ((all_goals (try (with_reducible ((first|refine rE ?_|refine nE ?_);(focus (cbv;(try dsimp only [nc] at *);(try simp only [wl,nc]);(repeat' (with_reducible apply And.intro));all_goals (try exact wZ)))))));(all_goals (try ((with_reducible rw [aC]);(try simp only [wl,nc]);(repeat' (with_reducible apply And.intro));(all_goals (try exact cZ))))))
      have:i=t.fields.length:=by omega
      subst this
      have:=hsum _ (Nat.le_refl _)
      grind
  · simp only [leastT];grind
theorem leastSize_ok (e:Nat) (he:e+1≤1073741824):∀ (d:Nat) (t:Ty),Ty.le (e+1) d t→Ty.ok (e+1) d t→Af Tryz.prog 107 [encT (e+1) d .any fun _=>t] [] (.int .i64 fun _=>leastT (e+1) d t) []
  | 0,_,h,_=>h.elim
  | d+1,t,ht,hto=>leastSize_step e d t he ht hto fun x hx=>leastSize_ok e he d x (partsT_le ht x hx) (hto.2.1 x hx)
def maxTo (g:Nat→Int) (m:Int):Nat→Int
  | 0=>m
  | i+1=>max (maxTo g m i) (g i)
def greatT (e:Nat):Nat→Ty→Int
  | 0,_=>0
  | d+1,t=>maxTo (fun i=>greatT e d (fT (t.fields.getD i default))) (maxTo (fun i=>greatT e d (t.elem.getD i default)) (leastT e (d+1) t) t.elem.length) t.fields.length
theorem ownT_form {t:Ty} (h:ownT t=0):formE t (decide (2≤t.kind∧t.kind≤8)) (decide (t.kind=3)) (decide (t.kind=4)) (decide (t.kind=8)) (decide (t.kind=9∨t.kind=10))=0:=by
  simp only [ownT] at h;grind
theorem ownT_noelem {t:Ty} (h:ownT t=0) (hk:t.kind≠8):t.elem.length=0:=by
  have:=ownT_form h
  simp only [formE] at this;grind
theorem ownT_nofld {t:Ty} (h:ownT t=0) (hk:t.kind≠9) (hk2:t.kind≠10):t.fields.length=0:=by
  have:=ownT_form h
  simp only [formE] at this;grind
theorem greatSize_step (e d:Nat) (t:Ty) (he:e+1≤1073741824) (ht:Ty.le (e+1) (d+1) t) (hto:Ty.ok (e+1) (d+1) t)
    (ih:∀ x ∈ pS t,Af Tryz.prog 61 [encT (e+1) d .any fun _=>x] [] (.int .i64 fun _=>greatT (e+1) d x) []) :
    Af Tryz.prog 61 [encT (e+1) (d+1) .any fun _=>t] [] (.int .i64 fun _=>greatT (e+1) (d+1) t) []:=by
  have ihe:∀ i,i<t.elem.length→Af Tryz.prog 61 [encT (e+1) d .any fun _=>t.elem.getD i default] [] (.int .i64 fun _=>greatT (e+1) d (t.elem.getD i default)) []:=fun i hi=>by
    by_cases hk:t.kind=8
    · exact ih _ (by simp only [pS];rw [if_pos hk];exact gD hi)
    · have:=ownT_noelem hto.1 hk;omega
  have ihf:∀ i,i<t.fields.length→Af Tryz.prog 61 [encT (e+1) d .any fun _=>fT (t.fields.getD i default)] [] (.int .i64 fun _=>greatT (e+1) d (fT (t.fields.getD i default))) []:=fun i hi=>by
    by_cases hk:t.kind=9∨t.kind=10
    · exact ih _ (by simp only [pS];rw [if_neg (by omega),if_pos hk];exact List.mem_map_of_mem (gD hi))
    · have:=ownT_nofld hto.1 (by omega) (by omega);omega
  obtain ⟨g,hg⟩:∃ g,g=fun i=>greatT (e+1) d (t.elem.getD i default):=⟨_,rfl⟩
  obtain ⟨m,hm⟩:∃ m,m=leastT (e+1) (d+1) t:=⟨_,rfl⟩
  obtain ⟨k,hk⟩:∃ k,k=fun i=>greatT (e+1) d (fT (t.fields.getD i default)):=⟨_,rfl⟩
  have hres:greatT (e+1) (d+1) t=maxTo k (maxTo g m t.elem.length) t.fields.length:=by simp only [greatT];rw [hg,hm,hk]
  have hle:=ht.2.2.1
  have hlf:=ht.2.2.2.1
  rw [hres]
  have hL:=leastSize_ok e he (d+1) t ht hto
  rw [← hm] at hL
  (apply Af.of tF mF [.tmp 2] kp61 [(0,[(0,.nil,[])]),(1,[(1,.int .i64 fun _=>m,[])])] Tryz.func61 (fun _=>?_);(any_goals ((with_reducible refine wI ?_);cbv;(try dsimp only [nc] at *);(repeat' (with_reducible first|exact aO|exact oN|refine oC ?_ ?_|refine VC.mk rfl ?_ ?_ ?_|(apply Ca.mk<;>intro _)|(apply Cv.mk<;>intro zq<;>(try simp only [nc,cl] at zq)<;>(try simp only [bl,dl] at zq)<;>(revert zq;intro _))|((first|apply xE|apply uE);cbv;(try dsimp only [nc] at *)))))))
  (any_goals ((with_reducible refine bZ ?_)<;>exact hL))
  ((all_goals (try (with_reducible ((first|refine rE ?_|refine nE ?_);(focus (cbv;(try dsimp only [nc] at *);(try simp only [wl,nc]);(repeat' (with_reducible apply And.intro));all_goals (try exact wZ)))))));(all_goals (try ((with_reducible rw [aC]);(try simp only [wl,nc]);(repeat' (with_reducible apply And.intro));(all_goals (try exact cZ))))))
  refine .loop (fun i:Nat=>⟨36,[(13,.int .i64 fun _=>i),(12,.int .i64 fun _=>t.elem.length),(11,slcT (e+1) d .any fun _=>t.elem),(3,.int .i64 fun _=>maxTo g m i),(1,boxT (e+1) (d+1) fun _=>t)],[]⟩)
    (fun i=>i≤t.elem.length) (fun i=>t.elem.length - i) 0 (by simp) ?_ fun i E hi=>?_
  · (focus (cbv;(try dsimp only [nc] at *);(try simp only [wl,nc]);(repeat' (with_reducible apply And.intro));all_goals (try exact wZ)))
  by_cases h:i<t.elem.length
  · obtain ⟨x,hx⟩:∃ x,x=t.elem.getD i default:=⟨_,rfl⟩
    have hgi:g i=greatT (e+1) d x:=by rw [hg,hx]
    have hih:=ihe i h
    rw [← hx,← hgi] at hih
    apply AWp.wk tF mF [(5,[(2,.int .i64 fun _=>g i,[])])] kp61 ?_
    (any_goals ((with_reducible refine wI ?_);cbv;(try dsimp only [nc] at *);(repeat' (with_reducible first|exact aO|exact oN|refine oC ?_ ?_|refine VC.mk rfl ?_ ?_ ?_|(apply Ca.mk<;>intro _)|(apply Cv.mk<;>intro zq<;>(try simp only [nc,cl] at zq)<;>(try simp only [bl,dl] at zq)<;>(revert zq;intro _))|((first|apply xE|apply uE);cbv;(try dsimp only [nc] at *))))))
    all_goals (try exact absurd h (Nat.not_lt.2 ‹t.elem.length≤i›))
    all_goals (try simp only [Int.toNat_natCast,← hx])
    (any_goals ((with_reducible refine bZ ?_)<;>exact hih))
    ((all_goals (try (with_reducible ((first|refine rE ?_|refine nE ?_);(focus (cbv;(try dsimp only [nc] at *);(try simp only [wl,nc]);(repeat' (with_reducible apply And.intro));all_goals (try exact wZ)))))));(all_goals (try ((with_reducible rw [aC]);(try simp only [wl,nc]);(repeat' (with_reducible apply And.intro));(all_goals (try exact cZ))))))
    refine dE (i+1) ⟨by omega,by omega⟩ ?_
    (focus (cbv;(try dsimp only [nc] at *);(try simp only [wl,nc]);(repeat' (with_reducible apply And.intro));all_goals (try exact wZ)))
    · exact w64n (by omega)
    · simp only [maxTo];grind
  apply AWp.wk tF mF [(5,[(2,.int .i64 fun _=>0,[])])] kp61 ?_
  (any_goals ((with_reducible refine wI ?_);cbv;(try dsimp only [nc] at *);(repeat' (with_reducible first|exact aO|exact oN|refine oC ?_ ?_|refine VC.mk rfl ?_ ?_ ?_|(apply Ca.mk<;>intro _)|(apply Cv.mk<;>intro zq<;>(try simp only [nc,cl] at zq)<;>(try simp only [bl,dl] at zq)<;>(revert zq;intro _))|((first|apply xE|apply uE);cbv;(try dsimp only [nc] at *))))))
  all_goals (try exact absurd ‹i<t.elem.length› h)
  have hie:i=t.elem.length:=by omega
  subst hie
  refine .loop (fun i:Nat=>⟨36,[(25,.int .i64 fun _=>i),(24,.int .i64 fun _=>t.fields.length),(23,slcTF (e+1) d .any fun _=>t.fields),(3,.int .i64 fun _=>maxTo k (maxTo g m t.elem.length) i)],[]⟩)
    (fun i=>i≤t.fields.length) (fun i=>t.fields.length - i) 0 (by simp) ?_ fun i E hi=>?_
  · (focus (cbv;(try dsimp only [nc] at *);(try simp only [wl,nc]);(repeat' (with_reducible apply And.intro));all_goals (try exact wZ)))
  by_cases h:i<t.fields.length
  · obtain ⟨x,hx⟩:∃ x,x=t.fields.getD i default:=⟨_,rfl⟩
    have hgi:k i=greatT (e+1) d (fT x):=by rw [hk,hx]
    have hih:=ihf i h
    rw [← hx,← hgi] at hih
    apply AWp.wk tF mF [(10,[(3,.int .i64 fun _=>k i,[])])] kp61 ?_
    (any_goals ((with_reducible refine wI ?_);cbv;(try dsimp only [nc] at *);(repeat' (with_reducible first|exact aO|exact oN|refine oC ?_ ?_|refine VC.mk rfl ?_ ?_ ?_|(apply Ca.mk<;>intro _)|(apply Cv.mk<;>intro zq<;>(try simp only [nc,cl] at zq)<;>(try simp only [bl,dl] at zq)<;>(revert zq;intro _))|((first|apply xE|apply uE);cbv;(try dsimp only [nc] at *))))))
    all_goals (try exact absurd h (Nat.not_lt.2 ‹t.fields.length≤i›))
    all_goals (try simp only [Int.toNat_natCast,← hx])
    (any_goals ((with_reducible refine bZ ?_)<;>exact hih))
    ((all_goals (try (with_reducible ((first|refine rE ?_|refine nE ?_);(focus (cbv;(try dsimp only [nc] at *);(try simp only [wl,nc]);(repeat' (with_reducible apply And.intro));all_goals (try exact wZ)))))));(all_goals (try ((with_reducible rw [aC]);(try simp only [wl,nc]);(repeat' (with_reducible apply And.intro));(all_goals (try exact cZ))))))
    refine dE (i+1) ⟨by omega,by omega⟩ ?_
    (focus (cbv;(try dsimp only [nc] at *);(try simp only [wl,nc]);(repeat' (with_reducible apply And.intro));all_goals (try exact wZ)))
    · exact w64n (by omega)
    · simp only [maxTo];grind
  apply AWp.wk tF mF [(10,[(3,.int .i64 fun _=>0,[])])] kp61 ?_
  (any_goals ((with_reducible refine wI ?_);cbv;(try dsimp only [nc] at *);(repeat' (with_reducible first|exact aO|exact oN|refine oC ?_ ?_|refine VC.mk rfl ?_ ?_ ?_|(apply Ca.mk<;>intro _)|(apply Cv.mk<;>intro zq<;>(try simp only [nc,cl] at zq)<;>(try simp only [bl,dl] at zq)<;>(revert zq;intro _))|((first|apply xE|apply uE);cbv;(try dsimp only [nc] at *))))))
  all_goals (try exact absurd ‹i<t.fields.length› h)
  ((all_goals (try (with_reducible ((first|refine rE ?_|refine nE ?_);(focus (cbv;(try dsimp only [nc] at *);(try simp only [wl,nc]);(repeat' (with_reducible apply And.intro));all_goals (try exact wZ)))))));(all_goals (try ((with_reducible rw [aC]);(try simp only [wl,nc]);(repeat' (with_reducible apply And.intro));(all_goals (try exact cZ))))))
  have hie:i=t.fields.length:=by omega
  subst hie
  rfl
theorem greatSize_ok (e:Nat) (he:e+1≤1073741824):∀ (d:Nat) (t:Ty),Ty.le (e+1) d t→Ty.ok (e+1) d t→Af Tryz.prog 61 [encT (e+1) d .any fun _=>t] [] (.int .i64 fun _=>greatT (e+1) d t) []
  | 0,_,h,_=>h.elim
  | d+1,t,ht,hto=>greatSize_step e d t he ht hto fun x hx=>greatSize_ok e he d x (partsT_le ht x hx) (hto.2.1 x hx)
def chkT (e d:Nat) (t:Ty):Int:=if (runT e d 1 t 4096).1≠0 then (runT e d 1 t 4096).1 else if 4096<greatT e d t then 9 else 0
theorem schemaCheck_ok (e d:Nat) (t:Ty) (he:e+1≤1073741824) (ht:Ty.le (e+1) d t):Af Tryz.prog 35 [encT (e+1) d .any fun _=>t] [] (.int .i64 fun _=>chkT (e+1) d t) []:=by
  obtain ⟨d,rfl⟩:=Ty.lP ht
  obtain ⟨r,hr⟩:∃ r,r=runT (e+1) (d+1) 1 t 4096:=⟨_,rfl⟩
  have hC:=check_ok (e+1) he (d+1) 1 t 4096 ht (by omega) (by omega)
  rw [← hr] at hC
  (apply Af.of tF mF [.tmp 2] kp35 [(0,[(0,.nil,[])]),(2,[(1,.int .i64 fun _=>r.1,[(1002,.box [.int .i64 fun _=>r.2])])]),(5,[(1,.int .i64 fun _=>greatT (e+1) (d+1) t,[])])] Tryz.func35 (fun _=>?_);(any_goals ((with_reducible refine wI ?_);cbv;(try dsimp only [nc] at *);(repeat' (with_reducible first|exact aO|exact oN|refine oC ?_ ?_|refine VC.mk rfl ?_ ?_ ?_|(apply Ca.mk<;>intro _)|(apply Cv.mk<;>intro zq<;>(try simp only [nc,cl] at zq)<;>(try simp only [bl,dl] at zq)<;>(revert zq;intro _))|((first|apply xE|apply uE);cbv;(try dsimp only [nc] at *)))))))
  (any_goals ((with_reducible refine bZ ?_)<;>exact hC))
  any_goals (with_reducible refine nO ?_)<;>exact greatSize_ok e he (d+1) t ht (runT_ok (e+1) (d+1) 1 t 4096 ht (by rw [← hr];assumption))
  ((all_goals (try (with_reducible ((first|refine rE ?_|refine nE ?_);(focus (cbv;(try dsimp only [nc] at *);(try simp only [wl,nc]);(repeat' (with_reducible apply And.intro));all_goals (try exact wZ)))))));(all_goals (try ((with_reducible rw [aC]);(try simp only [wl,nc]);(repeat' (with_reducible apply And.intro));(all_goals (try exact cZ))))))
  all_goals (simp only [chkT];rw [← hr];grind)
theorem chkT_ok {e d:Nat} {t:Ty} (ht:Ty.le e d t) (h:chkT e d t=0):Ty.ok e d t:=by
  refine runT_ok e d 1 t 4096 ht ?_
  simp only [chkT] at h
  split at h
  · exact absurd h ‹_›
  · omega
end Go.Ai
