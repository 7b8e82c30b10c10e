/- Chapter 6: the reference's visit and sizes come to what the program's come to. -/
import Derived.Test.YtalghhdapjmbbaaGreatDoorTyF
import Derived.Test.YtalghhdapjmbbaaGreatDoorEncB
set_option linter.all false
namespace Go.Ai
open Go Go.Proofs
set_option maxRecDepth 100000
set_option maxHeartbeats 4000000
def Ty.sz (e:Nat):Nat→Ty→Prop
  | 0,_=>True
  | d+1,t=>(∀ x ∈ t.elem,Ty.sz e d x)∧∀ f ∈ t.fields,(∀ v ∈ fDef f,sV e v≤1073741824)∧Ty.sz e d (fT f)
def goR (f:Ty→Int→Int×Int) (bad:TF→Bool):List TF→Int→Int×Int
  | [],l=>(0,l)
  | x :: xs,l=>if (f (fT x) l).1≠0 then f (fT x) l else if bad x then (18,(f (fT x) l).2) else goR f bad xs (f (fT x) l).2
def badR (e d:Nat) (x:TF):Bool:=decide (0<(fDef x).length) && !accV e d (fT x) ((fDef x).getD 0 default)
def runR (e:Nat):Nat→Int→Ty→Int→Int×Int
  | 0,_,_,l=>(0,l)
  | d+1,lev,t,l =>
    if l=0 then (9,l) else if 8<lev then (23,l - 1) else if ownT t≠0 then (ownT t,l - 1) else
    if t.kind=8 then runR e d (lev+1) (t.elem.getD 0 default) (l - 1) else
    goR (fun x l=>runR e d (lev+1) x l) (badR e d) t.fields (l - 1)
def SameR (a b:Int×Int):Prop:=a.1=b.1∧(b.1=0→a.2=b.2)
theorem SameR.of_eq {a b:Int×Int} (h:a=b):SameR a b:=by subst h;exact ⟨rfl,fun _=>rfl⟩
theorem goR_same {f g:Ty→Int→Int×Int} {bad:Nat→Bool} {bad':TF→Bool}:∀ (xs:List TF) (i:Nat) (l:Int),(∀ x ∈ xs,∀ l,SameR (f (fT x) l) (g (fT x) l))→(∀ j (h:j<xs.length),bad (i+j)=bad' xs[j]) →
    SameR (goR f bad' xs l) (goT g bad i (xs.map fT) l)
  | [],_,l,_,_=>⟨rfl,fun _=>rfl⟩
  | x :: xs,i,l,h,hb=>by
    have h1:=h x (by simp) l
    have hb0:=hb 0 (by simp)
    simp only [Nat.add_zero,List.getElem_cons_zero] at hb0
    simp only [goR,List.map_cons,goT]
    by_cases hz:(g (fT x) l).1=0
    · simp only [h1.1,hz,ne_eq,not_true_eq_false,if_false,hb0]
      by_cases hq:bad' x=true
      · simp only [hq,if_true];exact ⟨rfl,fun q=>(by cases q)⟩
      · simp only [hq,Bool.false_eq_true,if_false]
        rw [h1.2 hz]
        exact goR_same xs (i+1) _ (fun y hy=>h y (by simp [hy])) fun j hj=>by
          have:=hb (j+1) (by simpa using hj)
          rw [show i+1+j=i+(j+1) by omega,this];rfl
    · rw [if_pos (by rw [h1.1];exact hz),if_pos hz];exact h1
theorem runR_same (e:Nat):∀ (d:Nat) (lev:Int) (t:Ty) (l:Int),SameR (runR e d lev t l) (runT e d lev t l)
  | 0,_,_,_=>⟨rfl,fun _=>rfl⟩
  | d + 1,lev,t,l=>by
    have ih:=fun x l=>runR_same e d (lev+1) x l
    simp only [runR,runT]
    split
    · exact SameR.of_eq rfl
    split
    · exact ⟨rfl,fun q=>by cases q⟩
    split
    · exact SameR.of_eq rfl
    rename_i h0 h8 hown
    have hown:ownT t=0:=by omega
    by_cases hk:t.kind=8
    · rw [if_pos hk]
      have hp:pS t=[t.elem.getD 0 default]:=by
        simp only [pS];rw [if_pos hk]
        have h1:=ownT_elem hown hk
        match he:t.elem,h1 with
        | [x],_=>rfl
      have hb:badT e d t 0=false:=by simp [badT,hk]
      rw [hp]
      simp only [goT,hb]
      have q:=ih (t.elem.getD 0 default) (l - 1)
      by_cases hz:(runT e d (lev+1) (t.elem.getD 0 default) (l - 1)).1=0
      · rw [if_neg (by omega)]
        exact ⟨by rw [q.1,hz];rfl,fun _=>q.2 hz⟩
      · rw [if_pos hz];exact q
    · rw [if_neg hk]
      by_cases hk2:t.kind=9∨t.kind=10
      · have hp:pS t=t.fields.map fT:=by simp only [pS];rw [if_neg hk,if_pos hk2]
        rw [hp]
        refine goR_same t.fields 0 (l - 1) (fun x _ l=>ih _ l) fun j hj=>?_
        have hf:=ownT_field hown hk2 hj
        simp only [fieldE,fldE,List.getD_eq_getElem?_getD,List.getElem?_eq_getElem hj,Option.getD_some] at hf
        simp only [badT,badR,Nat.zero_add,List.getD_eq_getElem?_getD,List.getElem?_eq_getElem hj,Option.getD_some]
        by_cases h3:fN t.fields[j]=3
        · have hk9:t.kind=9:=by grind
          have:0<(fDef t.fields[j]).length:=by grind
          simp [h3,hk9,this]
        · have:(fDef t.fields[j]).length=0:=by grind
          simp [h3,this]
      · have hp:pS t=[]:=by simp only [pS];rw [if_neg hk,if_neg hk2]
        have hf:t.fields=[]:=List.eq_nil_of_length_eq_zero (ownT_nofld hown (by omega) (by omega))
        rw [hp,hf];exact ⟨rfl,fun _=>rfl⟩
def leastR (e:Nat):Nat→Ty→Int
  | 0,_=>0
  | d+1,t=>min (1+(if t.kind=8∧0<t.min then t.min * leastR e d (t.elem.getD 0 default) else 0)+sumTo (fun i=>leastF e (leastR e d) (t.fields.getD i default)) (if t.kind=9 then t.fields.length else min t.fields.length 1)) 5000
theorem leastR_le (e:Nat):∀ (d:Nat) (t:Ty),0≤leastR e d t∧leastR e d t≤5000
  | 0,_=>by simp [leastR]
  | d + 1,t=>by
    refine ⟨?_,by simp only [leastR];omega⟩
    have ih:=leastR_le e d
    have h1:=sumTo_nn (g:=fun i=>leastF e (leastR e d) (t.fields.getD i default)) (fun i=>leastF_nn (fun t=>(ih t).1) _) (if t.kind=9 then t.fields.length else min t.fields.length 1)
    simp only [leastR]
    split
    · have:=Int.mul_nonneg (Int.le_of_lt (And.right ‹t.kind=8∧0<t.min›)) (ih (t.elem.getD 0 default)).1
      omega
    · omega
theorem least_same (e:Nat):∀ (d:Nat) (t:Ty),Ty.ok e d t→leastT e d t=min (leastR e d t) 4097
  | 0,_,h=>h.elim
  | d + 1, t, h => by
    have ih:=fun x hx=>least_same e d x (h.2.1 x hx)
    have hown:=h.1
    by_cases h8:t.kind=8
    · have hf:t.fields=[]:=List.eq_nil_of_length_eq_zero (ownT_nofld hown (by omega) (by omega))
      have hx:t.elem.getD 0 default ∈ pS t:=by simp only [pS];rw [if_pos h8];exact gD (by rw [ownT_elem hown h8];omega)
      have hL:=leastR_le e d (t.elem.getD 0 default)
      simp only [leastT,leastR,hf,List.length_nil]
      rw [if_pos h8,if_neg (show ¬ t.kind=9 by omega),ih _ hx]
      by_cases h0:0<t.min
      · rw [if_pos h0,if_pos ⟨h8,h0⟩]
        simp only [Nat.min_def,Nat.zero_le,if_true,sumTo]
        by_cases hc:leastR e d (t.elem.getD 0 default)≤4097
        · rw [show min (leastR e d (t.elem.getD 0 default)) 4097=leastR e d (t.elem.getD 0 default) by omega]
          omega
        · rw [show min (leastR e d (t.elem.getD 0 default)) 4097=4097 by omega]
          have h1:=Int.mul_le_mul_of_nonneg_left (show (4097:Int)≤leastR e d (t.elem.getD 0 default) by omega) (Int.le_of_lt h0)
          omega
      · rw [if_neg h0,if_neg (fun q=>h0 q.2)]
        simp only [sumTo,Nat.zero_min,Nat.zero_le,Nat.min_eq_left];omega
    · have hn8:¬ (t.kind=8∧0<t.min):=fun q=>h8 q.1
      by_cases h10:t.kind=10
      · have hl:0<t.fields.length:=ownT_vs hown h10
        have hx:fT (t.fields.getD 0 default) ∈ pS t:=by simp only [pS];rw [if_neg h8,if_pos (.inr h10)];exact List.mem_map_of_mem (gD hl)
        have hneed:fN (t.fields.getD 0 default)=1:=by
          have hf:=ownT_field hown (.inr h10) hl
          simp only [fieldE,fldE,h10] at hf
          grind
        simp only [leastT,leastR]
        rw [if_neg h8,if_pos h10,if_neg hn8,if_neg (show ¬ t.kind=9 by omega),show min t.fields.length 1=1 by omega,ih _ hx]
        simp only [sumTo,leastF,hneed,if_true]
        have:=leastR_le e d (fT (t.fields.getD 0 default))
        omega
      · by_cases h9:t.kind=9
        · simp only [leastT,leastR]
          rw [if_neg h8,if_neg h10,if_pos h9,if_neg hn8,if_pos h9]
          have key:∀ n,n≤t.fields.length→0≤sumTo (fun i=>leastF e (leastR e d) (t.fields.getD i default)) n∧0≤sumTo (fun i=>leastF e (leastT e d) (t.fields.getD i default)) n ∧
              (sumTo (fun i=>leastF e (leastT e d) (t.fields.getD i default)) n=sumTo (fun i=>leastF e (leastR e d) (t.fields.getD i default)) n∨(4097≤sumTo (fun i=>leastF e (leastT e d) (t.fields.getD i default)) n∧4097≤sumTo (fun i=>leastF e (leastR e d) (t.fields.getD i default)) n)):=by
            intro n
            induction n with
            | zero=>intro _;simp [sumTo]
            | succ n ihn =>
              intro hn
              have h1:=ihn (by omega)
              have hx:fT (t.fields.getD n default) ∈ pS t:=by simp only [pS];rw [if_neg h8,if_pos (.inl h9)];exact List.mem_map_of_mem (gD (by omega))
              have h2:0≤leastF e (leastR e d) (t.fields.getD n default)∧(leastF e (leastT e d) (t.fields.getD n default)=leastF e (leastR e d) (t.fields.getD n default)∨(leastF e (leastT e d) (t.fields.getD n default)=4097∧4097≤leastF e (leastR e d) (t.fields.getD n default))):=by
                refine ⟨leastF_nn (fun t=>(leastR_le e d t).1) _,?_⟩
                simp only [leastF]
                split
                · rw [ih _ hx];omega
                · exact .inl rfl
              simp only [sumTo];omega
          have:=key _ (Nat.le_refl _)
          omega
        · have hf:t.fields=[]:=List.eq_nil_of_length_eq_zero (ownT_nofld hown h9 h10)
          simp only [leastT,leastR,hf,List.length_nil]
          rw [if_neg h8,if_neg h10,if_neg h9,if_neg hn8,if_neg h9]
          simp only [sumTo,Nat.zero_min];omega
def greatR (e:Nat):Nat→Ty→Int
  | 0,_=>0
  | d+1,t=>maxTo (fun i=>greatR e d (fT (t.fields.getD i default))) (maxTo (fun i=>greatR e d (t.elem.getD i default)) (leastR e (d+1) t) t.elem.length) t.fields.length
theorem max_cap {g k:Nat→Int} {m p:Int} (hm:m=min p 4097):∀ n,(∀ i,i<n→g i=min (k i) 4097)→maxTo g m n=min (maxTo k p n) 4097
  | 0,_=>hm
  | n+1,h=>by
    have h1:=max_cap hm n fun i hi=>h i (by omega)
    have h2:=h n (by omega)
    simp only [maxTo];omega
theorem great_same (e:Nat):∀ (d:Nat) (t:Ty),Ty.ok e d t→greatT e d t=min (greatR e d t) 4097
  | 0,_,h=>h.elim
  | d + 1,t,h=>by
    have hown:=h.1
    simp only [greatT,greatR]
    refine max_cap (max_cap (least_same e (d+1) t h) _ fun i hi=>?_) _ fun i hi=>?_
    · by_cases h8:t.kind=8
      · exact great_same e d _ (h.2.1 _ (by simp only [pS];rw [if_pos h8];exact gD hi))
      · have:=ownT_noelem hown h8;omega
    · by_cases hk:t.kind=9∨t.kind=10
      · exact great_same e d _ (h.2.1 _ (by simp only [pS];rw [if_neg (by omega),if_pos hk];exact List.mem_map_of_mem (gD hi)))
      · have:=ownT_nofld hown (by omega) (by omega);omega
theorem refAccepts_ok (e d c:Nat) (t:Ty) (v:V) (ht:Ty.le e d t) (hto:Ty.ok e d t) (hv:V.le c v) (hc:c≤1073741824) (hs:sV c v≤1073741824):Af Tryz.prog 55 [encT e d .any fun _=>t,encV c .any fun _=>v] [] (.bool fun _=>accV c d t v) []:=by
  obtain ⟨c,rfl⟩:=V.lP hv
  (apply Af.of tF mF [.tmp 4] kp55 [(0,[(0,.nil,[]),(1,.nil,[])]),(1,[(1,.int .i64 fun _=>chk (c+1) v,[]),(6,.bool fun _=>hasT d t v,[])])] Tryz.func55 (fun _=>?_);(any_goals ((with_reducible refine wI ?_);cbv;(try dsimp only [nc] at *);(repeat' (with_reducible first|exact aO|exact oN|refine oC ?_ ?_|refine VC.mk rfl ?_ ?_ ?_|(apply Ca.mk<;>intro _)|(apply Cv.mk<;>intro zq<;>(try simp only [nc,cl] at zq)<;>(try simp only [bl,dl] at zq)<;>(revert zq;intro _))|((first|apply xE|apply uE);cbv;(try dsimp only [nc] at *)))))))
  (any_goals ((with_reducible refine bZ ?_)<;>exact (valRefCheck_ok c v hv hc hs)))
  any_goals (with_reducible refine sO (fun q=>?_))<;>exact refHas_ok e d (c+1) t v ht hto hv (V.ok_of_chk (by simpa using q))
  ((all_goals (try (with_reducible ((first|refine rE ?_|refine nE ?_);(focus (cbv;(try dsimp only [nc] at *);(try simp only [wl,nc]);(repeat' (with_reducible apply And.intro));all_goals (try exact wZ)))))));(all_goals (try ((with_reducible rw [aC]);(try simp only [wl,nc]);(repeat' (with_reducible apply And.intro));(all_goals (try exact cZ))))))
  simp only [accV]
  by_cases q:chk (c+1) v=0<;>simp [q]
theorem goR_le {f:Ty→Int→Int×Int} {bad:TF→Bool}:∀ (xs:List TF) (l:Int),(∀ x ∈ xs,∀ l,0≤l→0≤(f (fT x) l).2∧(f (fT x) l).2≤l)→0≤l→0≤(goR f bad xs l).2∧(goR f bad xs l).2≤l
  | [],l,_,h0=>⟨h0,Int.le_refl _⟩
  | x :: xs,l,h,h0=>by
    have h1:=h x (by simp) l h0
    simp only [goR]
    split
    · exact h1
    split
    · exact h1
    · have:=goR_le (bad:=bad) xs (f (fT x) l).2 (fun y hy=>h y (by simp [hy])) h1.1
      omega
theorem runR_le (e:Nat):∀ (d:Nat) (lev:Int) (t:Ty) (l:Int),0≤l→0≤(runR e d lev t l).2∧(runR e d lev t l).2≤l
  | 0,_,_,l,h=>⟨h,Int.le_refl _⟩
  | d + 1,lev,t,l,h=>by
    simp only [runR]
    split
    · exact ⟨h,Int.le_refl _⟩
    split
    · exact ⟨by show 0≤l - 1;omega,by show l - 1≤l;omega⟩
    split
    · exact ⟨by show 0≤l - 1;omega,by show l - 1≤l;omega⟩
    split
    · have:=runR_le e d (lev+1) (t.elem.getD 0 default) (l - 1) (by omega)
      omega
    · have:=goR_le (f:=fun x l=>runR e d (lev+1) x l) (bad:=badR e d) t.fields (l - 1) (fun x _ l h=>runR_le e d (lev+1) (fT x) l h) (by omega)
      omega
theorem runR_ok {e d:Nat} {lev:Int} {t:Ty} {l:Int} (ht:Ty.le e d t) (h:(runR e d lev t l).1=0):Ty.ok e d t :=
  runT_ok e d lev t l ht (by rw [← (runR_same e d lev t l).1];exact h)
theorem visit_step (e d:Nat) (lev:Int) (t:Ty) (l:Int) (he:e≤1073741824) (ht:Ty.le e (d+1) t) (hz:Ty.sz e (d+1) t) (h0:0≤lev∧lev≤1073741824) (hl:0≤l∧l≤1073741824)
    (ih:∀ x,Ty.le e d x→Ty.sz e d x→∀ l,0≤l∧l≤1073741824→lev≤8→Af Tryz.prog 30 [encT e d .any fun _=>x,.int .i64 fun _=>lev+1,.ptr 1002 0] [(1002,.box [.int .i64 fun _=>l])] (.int .i64 fun _=>(runR e d (lev+1) x l).1) [(1002,.box [.int .i64 fun _=>(runR e d (lev+1) x l).2])]) :
    Af Tryz.prog 30 [encT e (d+1) .any fun _=>t,.int .i64 fun _=>lev,.ptr 1002 0] [(1002,.box [.int .i64 fun _=>l])] (.int .i64 fun _=>(runR e (d+1) lev t l).1) [(1002,.box [.int .i64 fun _=>(runR e (d+1) lev t l).2])]:=by
  have hfl:=ht.2.2.2.1
  obtain ⟨R,hR⟩:∃ R:Int×Int,R=runR e (d+1) lev t l:=⟨_,rfl⟩
  rw [← hR]
  obtain ⟨O,hO⟩:∃ O,O=ownT t:=⟨_,rfl⟩
  have hown:=refOwn_ok e d t ht
  rw [← hO] at hown
  obtain ⟨F,hF⟩:∃ F:Ty→Int→Int×Int,F=fun x l=>runR e d (lev+1) x l:=⟨_,rfl⟩
  have hRe:R=if l=0 then (9,l) else if 8<lev then (23,l - 1) else if O≠0 then (O,l - 1) else if t.kind=8 then F (t.elem.getD 0 default) (l - 1) else goR F (badR e d) t.fields (l - 1):=by
    rw [hR,hF,hO];rfl
  have hel:O=0→t.kind=8→t.elem.getD 0 default ∈ t.elem:=fun h h8=>gD (by rw [ownT_elem (by omega) h8];omega)
  have hF1:F (t.elem.getD 0 default) (l - 1)=runR e d (lev+1) (t.elem.getD 0 default) (l - 1):=by rw [hF]
  (apply Af.of tF mF [.tmp 6] kp30 [(0,[(0,.nil,[])]),(6,[(1,.int .i64 fun _=>O,[])]),(10,[(7,.int .i64 fun _=>(F (t.elem.getD 0 default) (l - 1)).1,[(1002,.box [.int .i64 fun _=>(F (t.elem.getD 0 default) (l - 1)).2])])])] Tryz.func30 (fun _=>?_);(any_goals ((with_reducible refine wI ?_);cbv;(try dsimp only [nc] at *);(repeat' (with_reducible first|exact aO|exact oN|refine oC ?_ ?_|refine VC.mk rfl ?_ ?_ ?_|(apply Ca.mk<;>intro _)|(apply Cv.mk<;>intro zq<;>(try simp only [nc,cl] at zq)<;>(try simp only [bl,dl] at zq)<;>(revert zq;intro _))|((first|apply xE|apply uE);cbv;(try dsimp only [nc] at *)))))))
  (any_goals ((with_reducible refine bZ ?_)<;>exact hown))
  any_goals (with_reducible refine nO ?_)<;>exact (by
    have q:=ih _ (ht.2.2.2.2.1 _ (hel ‹_› ‹_›)) (hz.1 _ (hel ‹_› ‹_›)) (l - 1) (by omega) (by omega)
    rw [← hF1] at q
    refine Af.wN q ?_
    (focus (cbv;(try dsimp only [nc] at *);(try simp only [wl,nc]);(repeat' (with_reducible apply And.intro));all_goals (try exact wZ)))
    all_goals (rw [w64 (by omega) (by omega)]))
  ((all_goals (try (with_reducible ((first|refine rE ?_|refine nE ?_);(focus (cbv;(try dsimp only [nc] at *);(try simp only [wl,nc]);(repeat' (with_reducible apply And.intro));all_goals (try exact wZ)))))));(all_goals (try ((with_reducible rw [aC]);(try simp only [wl,nc]);(repeat' (with_reducible apply And.intro));(all_goals (try exact cZ))))))
  · rw [hRe,if_pos ‹l=0›]
  · rw [hRe,if_pos ‹l=0›]
  · rw [hRe,if_neg ‹¬ l=0›,if_pos ‹8<lev›]
  · rw [w64 (by omega) (by omega),hRe,if_neg ‹¬ l=0›,if_pos ‹8<lev›]
  · rw [hRe,if_neg ‹¬ l=0›,if_neg (by omega),if_pos ‹¬ O=0›]
  · rw [w64 (by omega) (by omega),hRe,if_neg ‹¬ l=0›,if_neg (by omega),if_pos ‹¬ O=0›]
  · have h1:=ownT_elem (t:=t) (by omega) ‹t.kind=8›
    omega
  · rw [hRe,if_neg ‹¬ l=0›,if_neg (by omega),if_neg (by omega),if_pos ‹t.kind=8›]
  · rw [hRe,if_neg ‹¬ l=0›,if_neg (by omega),if_neg (by omega),if_pos ‹t.kind=8›]
  have h8:lev≤8:=‹_›
  have hO0:O=0:=‹_›
  have hRg:R=goR F (badR e d) t.fields (l - 1):=by rw [hRe,if_neg ‹¬ l=0›,if_neg (by omega),if_neg (by omega),if_neg ‹¬ t.kind=8›]
  refine .loop (fun p:Nat×Int=>⟨73,[(8,.int .i64 fun _=>p.1),(3,boxT e (d+1) fun _=>t),(1,.int .i64 fun _=>lev),(2,.ptr 1002 0)],[(1002,.box [.int .i64 fun _=>p.2])]⟩)
    (fun p=>p.1≤t.fields.length∧(0≤p.2∧p.2≤1073741824)∧R=goR F (badR e d) (t.fields.drop p.1) p.2) (fun p=>t.fields.length - p.1) (0,l - 1) ⟨by simp,by simp;omega,by simpa using hRg⟩ ?_ fun p E hi=>?_
  · (focus (cbv;(try dsimp only [nc] at *);(try simp only [wl,nc]);(repeat' (with_reducible apply And.intro));all_goals (try exact wZ)))
    all_goals (rw [w64 (by omega) (by omega)])
  by_cases h:p.1<t.fields.length
  · obtain ⟨f,hf⟩:∃ f,f=t.fields.getD p.1 default:=⟨_,rfl⟩
    have hfm:f ∈ t.fields:=by rw [hf];exact gD h
    have hd:t.fields.drop p.1=f :: t.fields.drop (p.1+1):=by
      rw [List.drop_eq_getElem_cons h,hf,List.getD_eq_getElem?_getD,List.getElem?_eq_getElem h,Option.getD_some]
    have hRi:=hi.2.2
    rw [hd] at hRi
    simp only [goR] at hRi
    have hle0:=(ht.2.2.2.2.2 _ hfm)
    have hFx:F (fT f) p.2=runR e d (lev+1) (fT f) p.2:=by rw [hF]
    have hle:=runR_le e d (lev+1) (fT f) p.2 hi.2.1.1
    have hih:=ih (fT f) hle0.2.2.2 (hz.2 _ hfm).2 p.2 hi.2.1 h8
    rw [← hFx] at hih hle
    apply AWp.wk tF mF [(15,[(5,.int .i64 fun _=>(F (fT f) p.2).1,[(1002,.box [.int .i64 fun _=>(F (fT f) p.2).2])])]),(18,[(11,.bool fun _=>accV e d (fT f) ((fDef f).getD 0 default),[])])] kp30 ?_
    (any_goals ((with_reducible refine wI ?_);cbv;(try dsimp only [nc] at *);(repeat' (with_reducible first|exact aO|exact oN|refine oC ?_ ?_|refine VC.mk rfl ?_ ?_ ?_|(apply Ca.mk<;>intro _)|(apply Cv.mk<;>intro zq<;>(try simp only [nc,cl] at zq)<;>(try simp only [bl,dl] at zq)<;>(revert zq;intro _))|((first|apply xE|apply uE);cbv;(try dsimp only [nc] at *))))))
    all_goals (try exact absurd h (Nat.not_lt.2 ‹t.fields.length≤p.1›))
    all_goals (try simp only [Int.toNat_natCast,← hf])
    (any_goals ((with_reducible refine bZ ?_);(try dsimp only);(have q:=(hih);refine Af.wN q ?_;clear q);(focus (cbv;(try dsimp only [nc] at *);(try simp only [wl,nc]);(repeat' (with_reducible apply And.intro));all_goals (try exact wZ)))))
    any_goals (with_reducible refine sO (fun q=>?_))<;>exact (by
      have q2:0<(fDef f).length:=by simpa using q
      exact refAccepts_ok e d e (fT f) _ hle0.2.2.2 (runR_ok hle0.2.2.2 (by rw [← hFx];exact ‹(F (fT f) p.2).1=0›)) (hle0.2.2.1 _ (gD q2)) he ((hz.2 _ hfm).1 _ (gD q2)))
    ((all_goals (try (with_reducible ((first|refine rE ?_|refine nE ?_);(focus (cbv;(try dsimp only [nc] at *);(try simp only [wl,nc]);(repeat' (with_reducible apply And.intro));all_goals (try exact wZ)))))));(all_goals (try ((with_reducible rw [aC]);(try simp only [wl,nc]);(repeat' (with_reducible apply And.intro));(all_goals (try exact cZ))))))
    · exact w64 (by omega) (by omega)
    · rw [hRi,if_pos ‹_›]
    · rw [hRi,if_pos ‹_›]
    · have q:=‹_∧accV e d (fT f) ((fDef f).getD 0 default)=false›
      rw [← hf] at q
      have hb:badR e d f=true:=by simp only [badR,q.2,Bool.not_false,Bool.and_true,decide_eq_true_eq];omega
      rw [hRi,if_neg (by simp;assumption),if_pos hb]
    · have q:=‹_∧accV e d (fT f) ((fDef f).getD 0 default)=false›
      rw [← hf] at q
      have hb:badR e d f=true:=by simp only [badR,q.2,Bool.not_false,Bool.and_true,decide_eq_true_eq];omega
      rw [hRi,if_neg (by simp;assumption),if_pos hb]
    · have q:=‹_∨accV e d (fT f) ((fDef f).getD 0 default)=true›
      rw [← hf] at q
      have hb:badR e d f=false:=by
        rcases q with q|q
        · rw [badR,show decide (0<(fDef f).length)=false by simp only [decide_eq_false_iff_not];omega,Bool.false_and]
        · rw [badR,q,Bool.not_true,Bool.and_false]
      rw [if_neg (by simp;assumption),if_neg (by simp [hb])] at hRi
      refine dE (p.1+1,(F (fT f) p.2).2) ⟨⟨by show p.1+1≤_;omega,by show 0≤(F (fT f) p.2).2∧(F (fT f) p.2).2≤_;omega,hRi⟩,by show _ - (p.1+1)<_ - p.1;omega⟩ ?_
      (focus (cbv;(try dsimp only [nc] at *);(try simp only [wl,nc]);(repeat' (with_reducible apply And.intro));all_goals (try exact wZ)))
      exact w64n (by omega)
  · apply AWp.wk tF mF [(15,[(5,.int .i64 fun _=>0,[(1002,.box [.int .i64 fun _=>0])])]),(18,[(11,.bool fun _=>true,[])])] kp30 ?_
    (any_goals ((with_reducible refine wI ?_);cbv;(try dsimp only [nc] at *);(repeat' (with_reducible first|exact aO|exact oN|refine oC ?_ ?_|refine VC.mk rfl ?_ ?_ ?_|(apply Ca.mk<;>intro _)|(apply Cv.mk<;>intro zq<;>(try simp only [nc,cl] at zq)<;>(try simp only [bl,dl] at zq)<;>(revert zq;intro _))|((first|apply xE|apply uE);cbv;(try dsimp only [nc] at *))))))
    all_goals (try exact absurd ‹p.1<t.fields.length› h)
    ((all_goals (try (with_reducible ((first|refine rE ?_|refine nE ?_);(focus (cbv;(try dsimp only [nc] at *);(try simp only [wl,nc]);(repeat' (with_reducible apply And.intro));all_goals (try exact wZ)))))));(all_goals (try ((with_reducible rw [aC]);(try simp only [wl,nc]);(repeat' (with_reducible apply And.intro));(all_goals (try exact cZ))))))
    all_goals (rw [hi.2.2,List.drop_eq_nil_of_le ‹_›];rfl)
theorem refVisit_ok (e:Nat) (he:e≤1073741824):∀ (d:Nat) (lev:Int) (t:Ty) (l:Int),Ty.le e d t→Ty.sz e d t→0≤lev∧lev≤1073741824→0≤l∧l≤1073741824 →
    Af Tryz.prog 30 [encT e d .any fun _=>t,.int .i64 fun _=>lev,.ptr 1002 0] [(1002,.box [.int .i64 fun _=>l])] (.int .i64 fun _=>(runR e d lev t l).1) [(1002,.box [.int .i64 fun _=>(runR e d lev t l).2])]
  | 0,_,_,_,h,_,_,_=>h.elim
  | d+1,lev,t,l,ht,hz,h0,hl=>visit_step e d lev t l he ht hz h0 hl fun x hx hxz l hl h8=>refVisit_ok e he d (lev+1) x l hx hxz (by omega) hl
theorem refLeast_step (e d:Nat) (t:Ty) (he:e+1≤1073741824) (ht:Ty.le (e+1) (d+1) t) (hto:Ty.ok (e+1) (d+1) t)
    (ih:∀ x ∈ pS t,Af Tryz.prog 56 [encT (e+1) d .any fun _=>x] [] (.int .i64 fun _=>leastR (e+1) d x) []) :
    Af Tryz.prog 56 [encT (e+1) (d+1) .any fun _=>t] [] (.int .i64 fun _=>leastR (e+1) (d+1) t) []:=by
  have hl:=ownT_len hto.1
  have hm:=ownT_min hto.1
  have hv:=ownT_vs hto.1
  have hel:=ownT_elem hto.1
  have hnf:=ownT_nofld hto.1
  obtain ⟨L,hL⟩:∃ L,L=leastR (e+1) d (t.elem.getD 0 default):=⟨_,rfl⟩
  have hL1:=leastR_le (e+1) d (t.elem.getD 0 default)
  rw [← hL] at hL1
  obtain ⟨M,hM⟩:∃ M,M=if t.kind=8∧0<t.min then t.min * L else 0:=⟨_,rfl⟩
  have hMb:0≤M∧M≤1280000:=by
    rw [hM]
    split
    · rename_i q
      refine ⟨Int.mul_nonneg (by omega) hL1.1,?_⟩
      have h1:=Int.mul_le_mul_of_nonneg_right (hm q.1).2 hL1.1
      have h2:=Int.mul_le_mul_of_nonneg_left hL1.2 (show (0:Int)≤256 by decide)
      omega
    · omega
  obtain ⟨g,hg⟩:∃ g,g=fun i=>leastF (e+1) (leastR (e+1) d) (t.fields.getD i default):=⟨_,rfl⟩
  obtain ⟨n,hn⟩:∃ n,n=if t.kind=9 then t.fields.length else min t.fields.length 1:=⟨_,rfl⟩
  have hres:leastR (e+1) (d+1) t=min (1+M+sumTo g n) 5000:=by
    simp only [leastR];rw [hM,hg,hn,hL]
  rw [hres]
  have hnl:n≤t.fields.length:=by rw [hn];split<;>omega
  have hn64:n≤64:=by
    rw [hn]
    split
    · exact hl (.inl ‹_›)
    · omega
  have hkf:0<n→t.kind=9∨t.kind=10:=fun h0=>by
    by_cases h9:t.kind=9
    · exact .inl h9
    · by_cases h10:t.kind=10
      · exact .inr h10
      · have:=hnf h9 h10
        rw [hn,if_neg h9] at h0;omega
  have hneed:∀ i,i<n→fN (t.fields.getD i default)=3→0<(fDef (t.fields.getD i default)).length∧sV (e+1) ((fDef (t.fields.getD i default)).getD 0 default)≤4096:=fun i hi h3=>by
    have hk:=hkf (by omega)
    have hfm:t.fields.getD i default ∈ t.fields:=gD (by omega)
    have hk9:t.kind=9:=by
      have hf:=ownT_field hto.1 hk (show i<t.fields.length by omega)
      simp only [fieldE,fldE,h3] at hf
      grind
    have hacc:=hto.2.2 hk9 _ hfm h3
    simp only [accV,Bool.and_eq_true,decide_eq_true_eq] at hacc
    exact ⟨ownT_def hto.1 hk9 hfm h3,chk_size hacc.1⟩
  have hgle:∀ i,i<n→0≤g i∧g i≤5000:=fun i hi=>by
    rw [hg]
    refine ⟨leastF_nn (fun t=>(leastR_le _ _ t).1) _,?_⟩
    simp only [leastF]
    split
    · exact (leastR_le _ d _).2
    split
    · have:=(hneed i hi ‹_›).2;omega
    · decide
  have hsum:∀ i,i≤n→0≤sumTo g i∧sumTo g i≤320000:=fun i hi=>by
    have h1:=sumTo_le i (fun j hj=>hgle j (by omega))
    omega
  have hM1:t.kind=8∧0<t.min→IntKind.i64.wrap (1+IntKind.i64.wrap (t.min * L))=1+M:=fun q=>by
    rw [if_pos q] at hM
    rw [hM] at hMb
    rw [w64 (x:=t.min * L) (by omega) (by omega),w64 (by omega) (by omega),hM]
  have hM2:¬ t.kind=8∨t.min≤0→M=0:=fun q=>by rw [hM,if_neg (by omega)]
  clear hM
  (apply Af.of tF mF [.tmp 2] kp56 [(0,[(0,.nil,[])]),(3,[(7,.int .i64 fun _=>L,[])])] Tryz.func56 (fun _=>?_);(any_goals ((with_reducible refine wI ?_);cbv;(try dsimp only [nc] at *);(repeat' (with_reducible first|exact aO|exact oN|refine oC ?_ ?_|refine VC.mk rfl ?_ ?_ ?_|(apply Ca.mk<;>intro _)|(apply Cv.mk<;>intro zq<;>(try simp only [nc,cl] at zq)<;>(try simp only [bl,dl] at zq)<;>(revert zq;intro _))|((first|apply xE|apply uE);cbv;(try dsimp only [nc] at *)))))))
  any_goals (with_reducible refine nO ?_)<;>exact (by
    rw [hL]
    exact ih (t.elem.getD 0 default) (by simp only [pS];rw [if_pos (And.left ‹t.kind=8∧0<t.min›)];exact gD (by rw [hel (And.left ‹t.kind=8∧0<t.min›)];omega)))
  ((all_goals (try (with_reducible ((first|refine rE ?_|refine nE ?_);(focus (cbv;(try dsimp only [nc] at *);(try simp only [wl,nc]);(repeat' (with_reducible apply And.intro));all_goals (try exact wZ)))))));(all_goals (try ((with_reducible rw [aC]);(try simp only [wl,nc]);(repeat' (with_reducible apply And.intro));(all_goals (try exact cZ))))))
  all_goals
    refine .loop (fun i:Nat=>⟨71,[(4,.int .i64 fun _=>i),(3,.int .i64 fun _=>1+M+sumTo g i),(1,boxT (e+1) (d+1) fun _=>t)],[]⟩)
      (fun i=>i≤n) (fun i=>n - i) 0 (by simp) ?_ fun i E hi=>?_
    · (focus (cbv;(try dsimp only [nc] at *);(try simp only [wl,nc]);(repeat' (with_reducible apply And.intro));all_goals (try exact wZ)))
      first
        | (rw [hM1 ‹_›];simp [sumTo])
        | (rw [hM2 ‹_›];simp [sumTo])
    by_cases h:i<n
    · obtain ⟨f,hf⟩:∃ f,f=t.fields.getD i default:=⟨_,rfl⟩
      have hfm:f ∈ t.fields:=by rw [hf];exact gD (by omega)
      have hgi:g i=leastF (e+1) (leastR (e+1) d) f:=by rw [hg,hf]
      have h1:=hsum i hi
      have h2:=hgle i h
      have hnd:=hneed i h
      have hk:=hkf (by omega)
      rw [← hf] at hnd
      have hin:i<t.fields.length∧(t.kind=9∨i=0):=by
        refine ⟨by omega,?_⟩
        by_cases h9:t.kind=9
        · exact .inl h9
        · rw [if_neg h9] at hn;omega
      apply AWp.wk tF mF [(9,[(7,.int .i64 fun _=>leastR (e+1) d (fT f),[])]),(11,[(9,.int .i64 fun _=>sV (e+1) ((fDef f).getD 0 default),[])])] kp56 ?_
      (any_goals ((with_reducible refine wI ?_);cbv;(try dsimp only [nc] at *);(repeat' (with_reducible first|exact aO|exact oN|refine oC ?_ ?_|refine VC.mk rfl ?_ ?_ ?_|(apply Ca.mk<;>intro _)|(apply Cv.mk<;>intro zq<;>(try simp only [nc,cl] at zq)<;>(try simp only [bl,dl] at zq)<;>(revert zq;intro _))|((first|apply xE|apply uE);cbv;(try dsimp only [nc] at *))))))
      all_goals (try simp only [Int.toNat_natCast,← hf])
      all_goals (try (have hn3:=‹fN (t.fields.getD i default)=3›;rw [← hf] at hn3;have hd:=hnd hn3))
      any_goals (with_reducible refine nO ?_)<;>first
        | exact ih (fT f) (by simp only [pS];rw [if_neg (by omega),if_pos hk];exact List.mem_map_of_mem hfm)
        | exact refSize_ok (e+1) _ ((ht.2.2.2.2.2 _ hfm).2.2.1 _ (gD hd.1)) (Nat.le_trans hd.2 (by decide))
      ((all_goals (try (with_reducible ((first|refine rE ?_|refine nE ?_);(focus (cbv;(try dsimp only [nc] at *);(try simp only [wl,nc]);(repeat' (with_reducible apply And.intro));all_goals (try exact wZ)))))));(all_goals (try ((with_reducible rw [aC]);(try simp only [wl,nc]);(repeat' (with_reducible apply And.intro));(all_goals (try exact cZ))))))
      · have hn:=‹fN (t.fields.getD i default)=1›
        rw [← hf] at hn
        have hgv:g i=leastR (e+1) d (fT f):=by rw [hgi];simp only [leastF];rw [if_pos hn]
        refine dE (i+1) ⟨by omega,by omega⟩ ?_
        (focus (cbv;(try dsimp only [nc] at *);(try simp only [wl,nc]);(repeat' (with_reducible apply And.intro));all_goals (try exact wZ)))
        all_goals first
          | exact w64n (by omega)
          | (rw [w64 (by omega) (by omega)];simp only [sumTo];omega)
      all_goals (try exact Int.ofNat_lt.2 hd.1)
      · have hgv:g i=sV (e+1) ((fDef f).getD 0 default):=by rw [hgi];simp only [leastF];rw [if_neg (by omega),if_pos hn3]
        refine dE (i+1) ⟨by omega,by omega⟩ ?_
        (focus (cbv;(try dsimp only [nc] at *);(try simp only [wl,nc]);(repeat' (with_reducible apply And.intro));all_goals (try exact wZ)))
        all_goals first
          | exact w64n (by omega)
          | (rw [w64 (by omega) (by omega)];simp only [sumTo];omega)
      · have hn1:=‹¬ fN (t.fields.getD i default)=1›
        have hn3:=‹¬ fN (t.fields.getD i default)=3›
        rw [← hf] at hn1 hn3
        have hgv:g i=0:=by rw [hgi];simp only [leastF];rw [if_neg hn1,if_neg hn3]
        refine dE (i+1) ⟨by omega,by omega⟩ ?_
        (focus (cbv;(try dsimp only [nc] at *);(try simp only [wl,nc]);(repeat' (with_reducible apply And.intro));all_goals (try exact wZ)))
        all_goals first
          | exact w64n (by omega)
          | (simp only [sumTo];omega)
    · have hie:i=n:=by omega
      have hout:¬ ((i:Int)<t.fields.length∧(t.kind=9∨(i:Int)=0)):=fun q=>by
        by_cases h9:t.kind=9
        · rw [if_pos h9] at hn;omega
        · rw [if_neg h9] at hn;omega
      have hs:=hsum i hi
      apply AWp.wk tF mF [(9,[(7,.int .i64 fun _=>0,[])]),(11,[(9,.int .i64 fun _=>0,[])])] kp56 ?_
      (any_goals ((with_reducible refine wI ?_);cbv;(try dsimp only [nc] at *);(repeat' (with_reducible first|exact aO|exact oN|refine oC ?_ ?_|refine VC.mk rfl ?_ ?_ ?_|(apply Ca.mk<;>intro _)|(apply Cv.mk<;>intro zq<;>(try simp only [nc,cl] at zq)<;>(try simp only [bl,dl] at zq)<;>(revert zq;intro _))|((first|apply xE|apply uE);cbv;(try dsimp only [nc] at *))))))
      all_goals (try (exfalso;omega))
      ((all_goals (try (with_reducible ((first|refine rE ?_|refine nE ?_);(focus (cbv;(try dsimp only [nc] at *);(try simp only [wl,nc]);(repeat' (with_reducible apply And.intro));all_goals (try exact wZ)))))));(all_goals (try ((with_reducible rw [aC]);(try simp only [wl,nc]);(repeat' (with_reducible apply And.intro));(all_goals (try exact cZ))))))
      subst hie
      grind
theorem refLeast_ok (e:Nat) (he:e+1≤1073741824):∀ (d:Nat) (t:Ty),Ty.le (e+1) d t→Ty.ok (e+1) d t→Af Tryz.prog 56 [encT (e+1) d .any fun _=>t] [] (.int .i64 fun _=>leastR (e+1) d t) []
  | 0,_,h,_=>h.elim
  | d+1,t,ht,hto=>refLeast_step e d t he ht hto fun x hx=>refLeast_ok e he d x (partsT_le ht x hx) (hto.2.1 x hx)
theorem refGreat_step (e d:Nat) (t:Ty) (he:e+1≤1073741824) (ht:Ty.le (e+1) (d+1) t) (hto:Ty.ok (e+1) (d+1) t)
    (ih:∀ x ∈ pS t,Af Tryz.prog 31 [encT (e+1) d .any fun _=>x] [] (.int .i64 fun _=>greatR (e+1) d x) []) :
    Af Tryz.prog 31 [encT (e+1) (d+1) .any fun _=>t] [] (.int .i64 fun _=>greatR (e+1) (d+1) t) []:=by
  have ihe:∀ i,i<t.elem.length→Af Tryz.prog 31 [encT (e+1) d .any fun _=>t.elem.getD i default] [] (.int .i64 fun _=>greatR (e+1) d (t.elem.getD i default)) []:=fun i hi=>by
    by_cases hk:t.kind=8
    · exact ih _ (by simp only [pS];rw [if_pos hk];exact gD hi)
    · have:=ownT_noelem hto.1 hk;omega
  have ihf:∀ i,i<t.fields.length→Af Tryz.prog 31 [encT (e+1) d .any fun _=>fT (t.fields.getD i default)] [] (.int .i64 fun _=>greatR (e+1) d (fT (t.fields.getD i default))) []:=fun i hi=>by
    by_cases hk:t.kind=9∨t.kind=10
    · exact ih _ (by simp only [pS];rw [if_neg (by omega),if_pos hk];exact List.mem_map_of_mem (gD hi))
    · have:=ownT_nofld hto.1 (by omega) (by omega);omega
  obtain ⟨g,hg⟩:∃ g,g=fun i=>greatR (e+1) d (t.elem.getD i default):=⟨_,rfl⟩
  obtain ⟨m,hm⟩:∃ m,m=leastR (e+1) (d+1) t:=⟨_,rfl⟩
  obtain ⟨k,hk⟩:∃ k,k=fun i=>greatR (e+1) d (fT (t.fields.getD i default)):=⟨_,rfl⟩
  have hres:greatR (e+1) (d+1) t=maxTo k (maxTo g m t.elem.length) t.fields.length:=by simp only [greatR];rw [hg,hm,hk]
  have hle:=ht.2.2.1
  have hlf:=ht.2.2.2.1
  rw [hres]
  have hL:=refLeast_ok e he (d+1) t ht hto
  rw [← hm] at hL
  (apply Af.of tF mF [.tmp 2] kp31 [(0,[(0,.nil,[])]),(1,[(1,.int .i64 fun _=>m,[])])] Tryz.func31 (fun _=>?_);(any_goals ((with_reducible refine wI ?_);cbv;(try dsimp only [nc] at *);(repeat' (with_reducible first|exact aO|exact oN|refine oC ?_ ?_|refine VC.mk rfl ?_ ?_ ?_|(apply Ca.mk<;>intro _)|(apply Cv.mk<;>intro zq<;>(try simp only [nc,cl] at zq)<;>(try simp only [bl,dl] at zq)<;>(revert zq;intro _))|((first|apply xE|apply uE);cbv;(try dsimp only [nc] at *)))))))
  (any_goals ((with_reducible refine bZ ?_)<;>exact hL))
  ((all_goals (try (with_reducible ((first|refine rE ?_|refine nE ?_);(focus (cbv;(try dsimp only [nc] at *);(try simp only [wl,nc]);(repeat' (with_reducible apply And.intro));all_goals (try exact wZ)))))));(all_goals (try ((with_reducible rw [aC]);(try simp only [wl,nc]);(repeat' (with_reducible apply And.intro));(all_goals (try exact cZ))))))
  refine .loop (fun i:Nat=>⟨40,[(4,.int .i64 fun _=>i),(3,.int .i64 fun _=>maxTo g m i),(1,boxT (e+1) (d+1) fun _=>t)],[]⟩)
    (fun i=>i≤t.elem.length) (fun i=>t.elem.length - i) 0 (by simp) ?_ fun i E hi=>?_
  · (focus (cbv;(try dsimp only [nc] at *);(try simp only [wl,nc]);(repeat' (with_reducible apply And.intro));all_goals (try exact wZ)))
  by_cases h:i<t.elem.length
  · obtain ⟨x,hx⟩:∃ x,x=t.elem.getD i default:=⟨_,rfl⟩
    have hgi:g i=greatR (e+1) d x:=by rw [hg,hx]
    have hih:=ihe i h
    rw [← hx,← hgi] at hih
    apply AWp.wk tF mF [(5,[(6,.int .i64 fun _=>g i,[])])] kp31 ?_
    (any_goals ((with_reducible refine wI ?_);cbv;(try dsimp only [nc] at *);(repeat' (with_reducible first|exact aO|exact oN|refine oC ?_ ?_|refine VC.mk rfl ?_ ?_ ?_|(apply Ca.mk<;>intro _)|(apply Cv.mk<;>intro zq<;>(try simp only [nc,cl] at zq)<;>(try simp only [bl,dl] at zq)<;>(revert zq;intro _))|((first|apply xE|apply uE);cbv;(try dsimp only [nc] at *))))))
    all_goals (try exact absurd h (Nat.not_lt.2 ‹t.elem.length≤i›))
    all_goals (try simp only [Int.toNat_natCast,← hx])
    (any_goals ((with_reducible refine bZ ?_)<;>exact hih))
    ((all_goals (try (with_reducible ((first|refine rE ?_|refine nE ?_);(focus (cbv;(try dsimp only [nc] at *);(try simp only [wl,nc]);(repeat' (with_reducible apply And.intro));all_goals (try exact wZ)))))));(all_goals (try ((with_reducible rw [aC]);(try simp only [wl,nc]);(repeat' (with_reducible apply And.intro));(all_goals (try exact cZ))))))
    refine dE (i+1) ⟨by omega,by omega⟩ ?_
    (focus (cbv;(try dsimp only [nc] at *);(try simp only [wl,nc]);(repeat' (with_reducible apply And.intro));all_goals (try exact wZ)))
    · exact w64n (by omega)
    · simp only [maxTo];grind
  apply AWp.wk tF mF [(5,[(6,.int .i64 fun _=>0,[])])] kp31 ?_
  (any_goals ((with_reducible refine wI ?_);cbv;(try dsimp only [nc] at *);(repeat' (with_reducible first|exact aO|exact oN|refine oC ?_ ?_|refine VC.mk rfl ?_ ?_ ?_|(apply Ca.mk<;>intro _)|(apply Cv.mk<;>intro zq<;>(try simp only [nc,cl] at zq)<;>(try simp only [bl,dl] at zq)<;>(revert zq;intro _))|((first|apply xE|apply uE);cbv;(try dsimp only [nc] at *))))))
  all_goals (try exact absurd ‹i<t.elem.length› h)
  have hie:i=t.elem.length:=by omega
  subst hie
  refine .loop (fun i:Nat=>⟨40,[(5,.int .i64 fun _=>i),(3,.int .i64 fun _=>maxTo k (maxTo g m t.elem.length) i),(1,boxT (e+1) (d+1) fun _=>t)],[]⟩)
    (fun i=>i≤t.fields.length) (fun i=>t.fields.length - i) 0 (by simp) ?_ fun i E hi=>?_
  · (focus (cbv;(try dsimp only [nc] at *);(try simp only [wl,nc]);(repeat' (with_reducible apply And.intro));all_goals (try exact wZ)))
  by_cases h:i<t.fields.length
  · obtain ⟨x,hx⟩:∃ x,x=t.fields.getD i default:=⟨_,rfl⟩
    have hgi:k i=greatR (e+1) d (fT x):=by rw [hk,hx]
    have hih:=ihf i h
    rw [← hx,← hgi] at hih
    apply AWp.wk tF mF [(9,[(7,.int .i64 fun _=>k i,[])])] kp31 ?_
    (any_goals ((with_reducible refine wI ?_);cbv;(try dsimp only [nc] at *);(repeat' (with_reducible first|exact aO|exact oN|refine oC ?_ ?_|refine VC.mk rfl ?_ ?_ ?_|(apply Ca.mk<;>intro _)|(apply Cv.mk<;>intro zq<;>(try simp only [nc,cl] at zq)<;>(try simp only [bl,dl] at zq)<;>(revert zq;intro _))|((first|apply xE|apply uE);cbv;(try dsimp only [nc] at *))))))
    all_goals (try exact absurd h (Nat.not_lt.2 ‹t.fields.length≤i›))
    all_goals (try simp only [Int.toNat_natCast,← hx])
    (any_goals ((with_reducible refine bZ ?_)<;>exact hih))
    ((all_goals (try (with_reducible ((first|refine rE ?_|refine nE ?_);(focus (cbv;(try dsimp only [nc] at *);(try simp only [wl,nc]);(repeat' (with_reducible apply And.intro));all_goals (try exact wZ)))))));(all_goals (try ((with_reducible rw [aC]);(try simp only [wl,nc]);(repeat' (with_reducible apply And.intro));(all_goals (try exact cZ))))))
    refine dE (i+1) ⟨by omega,by omega⟩ ?_
    (focus (cbv;(try dsimp only [nc] at *);(try simp only [wl,nc]);(repeat' (with_reducible apply And.intro));all_goals (try exact wZ)))
    · exact w64n (by omega)
    · simp only [maxTo];grind
  apply AWp.wk tF mF [(9,[(7,.int .i64 fun _=>0,[])])] kp31 ?_
  (any_goals ((with_reducible refine wI ?_);cbv;(try dsimp only [nc] at *);(repeat' (with_reducible first|exact aO|exact oN|refine oC ?_ ?_|refine VC.mk rfl ?_ ?_ ?_|(apply Ca.mk<;>intro _)|(apply Cv.mk<;>intro zq<;>(try simp only [nc,cl] at zq)<;>(try simp only [bl,dl] at zq)<;>(revert zq;intro _))|((first|apply xE|apply uE);cbv;(try dsimp only [nc] at *))))))
  all_goals (try exact absurd ‹i<t.fields.length› h)
  ((all_goals (try (with_reducible ((first|refine rE ?_|refine nE ?_);(focus (cbv;(try dsimp only [nc] at *);(try simp only [wl,nc]);(repeat' (with_reducible apply And.intro));all_goals (try exact wZ)))))));(all_goals (try ((with_reducible rw [aC]);(try simp only [wl,nc]);(repeat' (with_reducible apply And.intro));(all_goals (try exact cZ))))))
  have hie:i=t.fields.length:=by omega
  subst hie
  rfl
theorem refGreat_ok (e:Nat) (he:e+1≤1073741824):∀ (d:Nat) (t:Ty),Ty.le (e+1) d t→Ty.ok (e+1) d t→Af Tryz.prog 31 [encT (e+1) d .any fun _=>t] [] (.int .i64 fun _=>greatR (e+1) d t) []
  | 0,_,h,_=>h.elim
  | d+1,t,ht,hto=>refGreat_step e d t he ht hto fun x hx=>refGreat_ok e he d x (partsT_le ht x hx) (hto.2.1 x hx)
theorem chkT_ref (e d:Nat) (t:Ty) (ht:Ty.le (e+1) d t):chkT (e+1) d t=if (runR (e+1) d 1 t 4096).1≠0 then (runR (e+1) d 1 t 4096).1 else if 4096<greatR (e+1) d t then 9 else 0:=by
  have h1:=runR_same (e+1) d 1 t 4096
  simp only [chkT]
  rw [h1.1]
  by_cases h:(runT (e+1) d 1 t 4096).1=0
  · have h2:=great_same (e+1) d t (runT_ok (e+1) d 1 t 4096 ht h)
    have hn:¬ (runT (e+1) d 1 t 4096).1≠0:=by omega
    rw [h2,if_neg hn,if_neg hn]
    by_cases hg:4096<greatR (e+1) d t
    · rw [if_pos hg,if_pos (show 4096<min (greatR (e+1) d t) 4097 by omega)]
    · rw [if_neg hg,if_neg (show ¬ 4096<min (greatR (e+1) d t) 4097 by omega)]
  · rw [if_pos h,if_pos h]
theorem refCheckT_ok (e d:Nat) (t:Ty) (he:e+1≤1073741824) (ht:Ty.le (e+1) d t) (hz:Ty.sz (e+1) d t):Af Tryz.prog 17 [encT (e+1) d .any fun _=>t] [] (.int .i64 fun _=>chkT (e+1) d t) []:=by
  obtain ⟨d,rfl⟩:=Ty.lP ht
  rw [chkT_ref e (d+1) t ht]
  obtain ⟨r,hr⟩:∃ r,r=runR (e+1) (d+1) 1 t 4096:=⟨_,rfl⟩
  obtain ⟨g,hg⟩:∃ g,g=greatR (e+1) (d+1) t:=⟨_,rfl⟩
  have hC:=refVisit_ok (e+1) he (d+1) 1 t 4096 ht hz (by omega) (by omega)
  rw [← hr] at hC
  rw [← hr,← hg]
  (apply Af.of tF mF [.tmp 2] kp17 [(0,[(0,.nil,[])]),(2,[(1,.int .i64 fun _=>r.1,[(1002,.box [.int .i64 fun _=>r.2])])]),(5,[(1,.int .i64 fun _=>g,[])])] Tryz.func17 (fun _=>?_);(any_goals ((with_reducible refine wI ?_);cbv;(try dsimp only [nc] at *);(repeat' (with_reducible first|exact aO|exact oN|refine oC ?_ ?_|refine VC.mk rfl ?_ ?_ ?_|(apply Ca.mk<;>intro _)|(apply Cv.mk<;>intro zq<;>(try simp only [nc,cl] at zq)<;>(try simp only [bl,dl] at zq)<;>(revert zq;intro _))|((first|apply xE|apply uE);cbv;(try dsimp only [nc] at *)))))))
  (any_goals ((with_reducible refine bZ ?_)<;>exact hC))
  any_goals (with_reducible refine nO ?_)<;>exact (by
    rw [hg]
    exact refGreat_ok e he (d+1) t ht (runR_ok ht (by rw [← hr];assumption)))
  ((all_goals (try (with_reducible ((first|refine rE ?_|refine nE ?_);(focus (cbv;(try dsimp only [nc] at *);(try simp only [wl,nc]);(repeat' (with_reducible apply And.intro));all_goals (try exact wZ)))))));(all_goals (try ((with_reducible rw [aC]);(try simp only [wl,nc]);(repeat' (with_reducible apply And.intro));(all_goals (try exact cZ))))))
  all_goals grind
end Go.Ai
