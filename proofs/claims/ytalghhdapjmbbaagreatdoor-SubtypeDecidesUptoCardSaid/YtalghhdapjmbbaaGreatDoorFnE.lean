/- Chapter 4: values that are made of values. -/
import Derived.Test.YtalghhdapjmbbaaGreatDoorFnD
set_option linter.all false
namespace Go.Ai
open Go Go.Proofs
set_option maxRecDepth 100000
set_option maxHeartbeats 2000000
theorem cellsG_all {Q:AV→Prop} {fr:FB} {v:Unit→V} {L F:(Unit→Nat)→List AV} (hi:∀ k n,Q (.int k n)) (hs:∀ s,Q (.str s)) (hl:Q (.slc fr 6 (fun _=>(v ()).list.length) L)) (hf:Q (.slc fr 7 (fun _=>(v ()).fields.length) F)):∀ av ∈ cellsG fr v L F,Q av:=by
  intro av h
  simp only [cellsG,List.mem_cons,List.not_mem_nil,or_false] at h
  rcases h with rfl|rfl|rfl|rfl|rfl|rfl
  · exact hi _ _
  · exact hi _ _
  · exact hi _ _
  · exact hs _
  · exact hl
  · exact hf
theorem fresh_cells:∀ (d:Nat) (v:Unit→V),∀ av ∈ cells d .new v,FreshR av
  | 0,v=>cellsG_all FreshR.int FreshR.str (.slc fun _ _ av h=>by simp [sub] at h) (.slc fun _ _ av h=>by simp [sub] at h)
  | d + 1,v=>cellsG_all FreshR.int FreshR.str (.slc fun _ _ av h=>fresh_cells d _ av h) (.slc fun _ _ av h=>by
      rcases List.mem_cons.1 h with rfl|h
      · exact .str _
      · exact fresh_cells d _ av h)
theorem nf_cells:∀ (d:Nat) (v:Unit→V),∀ av ∈ cells d .any v,NF av
  | 0,v=>cellsG_all NF.int NF.str (.slc fun _ _ av h=>by simp [sub] at h) (.slc fun _ _ av h=>by simp [sub] at h)
  | d + 1,v=>cellsG_all NF.int NF.str (.slc fun _ _ av h=>nf_cells d _ av h) (.slc fun _ _ av h=>by
      rcases List.mem_cons.1 h with rfl|h
      · exact .str _
      · exact nf_cells d _ av h)
theorem fresh_encV (d:Nat) (v:Unit→V):FreshR (encV d .new v):=.agg (fresh_cells d v)
theorem nf_encV (d:Nat) (v:Unit→V):NF (encV d .any v):=.agg (nf_cells d v)
theorem pure_cells (d:Nat) (fr:FB) (v:Unit→V):AV.pureL [encV d fr v]=true:=by simp [encV,cells,cellsG,AV.pureL]
theorem le_cells:∀ (d:Nat) (v:Unit→V),LeL (cells d .new v) (cells d .any v):=by
  have key:∀ (d:Nat) (v:Unit→V) (w:World) (D:Nat→Prop) (B j:Nat) (av av':AV) (u:Value),(cells d .new v)[j]? = some av→(cells d .any v)[j]? = some av'→RD w D B av u→RD w D B av' u:=by
    intro d
    induction d with
    | zero =>
      intro v w D B j av av' u h1 h2 h
      match j with
      | 0|1|2|3=>simp [cells,cellsG] at h1 h2;subst h1;subst h2;exact h
      | 4 =>
        simp [cells,cellsG] at h1 h2;subst h1;subst h2
        exact rd_slc h (fun _ _=>trivial) rfl fun i hi=>LeL.of_eq rfl
      | 5 =>
        simp [cells,cellsG] at h1 h2;subst h1;subst h2
        exact rd_slc h (fun _ _=>trivial) rfl fun i hi=>LeL.of_eq rfl
      | n+6=>simp [cells,cellsG] at h1
    | succ d ih =>
      intro v w D B j av av' u h1 h2 h
      match j with
      | 0|1|2|3=>simp [cells,cellsG] at h1 h2;subst h1;subst h2;exact h
      | 4 =>
        simp [cells,cellsG] at h1 h2;subst h1;subst h2
        exact rd_slc h (fun _ _=>trivial) rfl fun i hi=>⟨rfl,fun _=>rfl,fun w D B j av av' u h1 h2 h=>ih _ w D B j av av' u h1 h2 h⟩
      | 5 =>
        simp [cells,cellsG] at h1 h2;subst h1;subst h2
        refine rd_slc h (fun _ _=>trivial) rfl fun i hi=>⟨rfl,fun _=>rfl,fun w D B j av av' u h1 h2 h=>?_⟩
        cases j with
        | zero=>simp [sub] at h1 h2;subst h1;subst h2;exact h
        | succ j=>exact ih _ w D B j av av' u h1 h2 h
      | n+6=>simp [cells,cellsG] at h1
  exact fun d v=>⟨rfl,fun _=>rfl,fun w D B j av av' u h1 h2 h=>key d v w D B j av av' u h1 h2 h⟩
theorem idxI_any {α:Type} {p:α→Bool} {l:List α}:decide (0≤iI p l)=l.any p:=by
  unfold iI
  rw [Bool.eq_iff_iff,decide_eq_true_eq,List.any_eq_true,← List.findIdx_lt_length]
  split<;>omega
theorem contains_ok (d:Nat) (y:ByteArray×V) (p:ByteArray×V→Bool) (l:List (ByteArray×V)) (fn:FuncId) (hl:l.length≤1073741824)
    (hc:∀ x ∈ l,Af Tryz.prog fn [.agg (rowF d x),.ptr 1001 0] [(1001,.box (rowF d y))] (.bool fun _=>p x) [(1001,.box (rowF d y))]) :
    Af Tryz.prog 122 [slcF d .any fun _=>l,.func fn [.ptr capP 0]] [(capP,.box (rowF d y))] (.bool fun _=>l.any p) [(capP,.box (rowF d y))]:=by
  (apply Af.of tF mF [.tmp 4] kp122 [(1,[(2,.int .i64 (fun _=>?_),[(capP,.box (rowF d y))])])] Tryz.func122 (fun _=>?_);(any_goals ((with_reducible refine wI ?_);cbv;(try dsimp only [nc] at *);(repeat' (with_reducible first|exact aO|exact oN|refine oC ?_ ?_|refine VC.mk rfl ?_ ?_ ?_|(apply Ca.mk<;>intro _)|(apply Cv.mk<;>intro zq<;>(try simp only [nc,cl] at zq)<;>(try simp only [bl,dl] at zq)<;>(revert zq;intro _))|((first|apply xE|apply uE);cbv;(try dsimp only [nc] at *)))))))
  (any_goals ((with_reducible refine bZ ?_)<;>exact (IndexFuncR_ok d fn p l y hl hc)))
  ((all_goals (try (with_reducible ((first|refine rE ?_|refine nE ?_);(focus (cbv;(try dsimp only [nc] at *);(try simp only [wl,nc]);(repeat' (with_reducible apply And.intro));all_goals (try exact wZ)))))));(all_goals (try ((with_reducible rw [aC]);(try simp only [wl,nc]);(repeat' (with_reducible apply And.intro));(all_goals (try exact cZ))))))
  exact idxI_any
theorem cmpB_drop (a b:ByteArray) (i:Nat) (ha:i<a.size) (hb:i<b.size) :
    Lib.compareBytes (a.data.toList.drop i) (b.data.toList.drop i)=if byt a i=byt b i then Lib.compareBytes (a.data.toList.drop (i+1)) (b.data.toList.drop (i+1)) else cmpI (byt a i) (byt b i):=by
  have e1:a.data.toList.drop i=a.data[i] :: a.data.toList.drop (i+1):=List.drop_eq_getElem_cons (by simpa using ha)
  have e2:b.data.toList.drop i=b.data[i] :: b.data.toList.drop (i+1):=List.drop_eq_getElem_cons (by simpa using hb)
  have g1:byt a i=a.data[i].toNat:=by have:i<a.data.size:=ha;simp only [byt,Array.getElem?_eq_getElem this,Option.getD_some]
  have g2:byt b i=b.data[i].toNat:=by have:i<b.data.size:=hb;simp only [byt,Array.getElem?_eq_getElem this,Option.getD_some]
  rw [e1,e2,g1,g2]
  simp only [Lib.compareBytes,cmpI]
  have h1:(a.data[i]<b.data[i])↔(a.data[i].toNat:Int)<b.data[i].toNat:=by rw [UInt8.lt_iff_toNat_lt];omega
  have h2:(b.data[i]<a.data[i])↔(b.data[i].toNat:Int)<a.data[i].toNat:=by rw [UInt8.lt_iff_toNat_lt];omega
  by_cases q1:(a.data[i].toNat:Int)<b.data[i].toNat
  · rw [if_pos (h1.2 q1),if_neg (by omega),if_pos q1]
  · by_cases q2:(b.data[i].toNat:Int)<a.data[i].toNat
    · rw [if_neg (fun q=>q1 (h1.1 q)),if_pos (h2.2 q2),if_neg (by omega),if_neg q1,if_pos q2]
    · rw [if_neg (fun q=>q1 (h1.1 q)),if_neg (fun q=>q2 (h2.1 q)),if_pos (by omega)]
theorem len_bytes (a:ByteArray):a.data.toList.length=a.size:=Array.length_toList ..
theorem cmpB_end (a b:ByteArray) (i:Nat) (ha:i≤a.size) (hb:i≤b.size) (h:¬ (i<a.size∧i<b.size)):Lib.compareBytes (a.data.toList.drop i) (b.data.toList.drop i)=cmpI a.size b.size:=by
  have la:=len_bytes a
  have lb:=len_bytes b
  generalize a.data.toList=x at la ⊢
  generalize b.data.toList=y at lb ⊢
  simp only [cmpI]
  by_cases h1:i<a.size
  · rw [List.drop_eq_getElem_cons (l:=x) (by omega),(List.drop_eq_nil_iff (l:=y) (i:=i)).2 (by omega),if_neg (by omega),if_pos (by omega)]
    rfl
  · rw [(List.drop_eq_nil_iff (l:=x) (i:=i)).2 (by omega)]
    by_cases h3:i<b.size
    · rw [List.drop_eq_getElem_cons (l:=y) (by omega),if_pos (by omega)]
      rfl
    · rw [(List.drop_eq_nil_iff (l:=y) (i:=i)).2 (by omega),if_neg (by omega),if_neg (by omega)]
      rfl
theorem text_ok (a b:ByteArray) (ha:a.size≤35184372088832) (hb:b.size≤35184372088832):Af Tryz.prog 83 [.str fun _=>a,.str fun _=>b] [] (.int .i64 fun _=>cmpS a b) []:=by
  (apply Af.of tF mF [.tmp 4] kp83 [(6,[(4,.int .i64 (fun _=>cmpI a.size b.size),[])])] Tryz.func83 (fun _=>?_);(any_goals ((with_reducible refine wI ?_);cbv;(try dsimp only [nc] at *);(repeat' (with_reducible first|exact aO|exact oN|refine oC ?_ ?_|refine VC.mk rfl ?_ ?_ ?_|(apply Ca.mk<;>intro _)|(apply Cv.mk<;>intro zq<;>(try simp only [nc,cl] at zq)<;>(try simp only [bl,dl] at zq)<;>(revert zq;intro _))|((first|apply xE|apply uE);cbv;(try dsimp only [nc] at *)))))))
  ((all_goals (try (with_reducible ((first|refine rE ?_|refine nE ?_);(focus (cbv;(try dsimp only [nc] at *);(try simp only [wl,nc]);(repeat' (with_reducible apply And.intro));all_goals (try exact wZ)))))));(all_goals (try ((with_reducible rw [aC]);(try simp only [wl,nc]);(repeat' (with_reducible apply And.intro));(all_goals (try exact cZ))))))
  refine .loop (fun i:Nat=>⟨39,[(5,.int .i64 fun _=>i),(1,.str fun _=>b),(0,.str fun _=>a)],[]⟩)
    (fun i=>i≤a.size∧i≤b.size∧cmpS a b=Lib.compareBytes (a.data.toList.drop i) (b.data.toList.drop i)) (fun i=>a.size - i) 0 (by simp [cmpS]) ?_ fun i E hi=>?_
  · (focus (cbv;(try dsimp only [nc] at *);(try simp only [wl,nc]);(repeat' (with_reducible apply And.intro));all_goals (try exact wZ)))
  apply AWp.wk tF mF [(5,[(8,.int .i64 (fun _=>?_),[])])] kp83 ?_
  (any_goals ((with_reducible refine wI ?_);cbv;(try dsimp only [nc] at *);(repeat' (with_reducible first|exact aO|exact oN|refine oC ?_ ?_|refine VC.mk rfl ?_ ?_ ?_|(apply Ca.mk<;>intro _)|(apply Cv.mk<;>intro zq<;>(try simp only [nc,cl] at zq)<;>(try simp only [bl,dl] at zq)<;>(revert zq;intro _))|((first|apply xE|apply uE);cbv;(try dsimp only [nc] at *))))))
  (any_goals ((with_reducible refine bZ ?_)<;>exact (sign_ok _ _)))
  ((all_goals (try (with_reducible ((first|refine rE ?_|refine nE ?_);(focus (cbv;(try dsimp only [nc] at *);(try simp only [wl,nc]);(repeat' (with_reducible apply And.intro));all_goals (try exact wZ)))))));(all_goals (try ((with_reducible rw [aC]);(try simp only [wl,nc]);(repeat' (with_reducible apply And.intro));(all_goals (try exact cZ))))))
  · rename_i h1 h2
    rw [hi.2.2,cmpB_drop a b i h1.1 h1.2,if_neg (by simpa only [byt] using h2)]
    simp only [Int.toNat_natCast]
    have q1:=(a.data[i]?.getD 0).toNat_lt
    have q2:=(b.data[i]?.getD 0).toNat_lt
    rw [w64 (by omega) (by omega),w64 (by omega) (by omega)]
    rfl
  · rename_i h1 h2
    refine dE (i+1) ⟨⟨by omega,by omega,?_⟩,by omega⟩ ?_
    · rw [hi.2.2,cmpB_drop a b i h1.1 h1.2,if_pos (by simpa only [byt] using h2)]
    · (focus (cbv;(try dsimp only [nc] at *);(try simp only [wl,nc]);(repeat' (with_reducible apply And.intro));all_goals (try exact wZ)))
      exact w64n (by omega)
  rw [hi.2.2,cmpB_end a b i hi.1 hi.2.1 (by omega)]
theorem cmpV_eq (d:Nat) (a b:V):cmpV (d+1) a b=firstL [cmpI a.kind b.kind,cmpI a.int b.int,cmpI a.scale b.scale,cmpS a.text b.text,lexC (cmpV d) a.list b.list,lexC (cmpFd (cmpV d)) a.fields b.fields]:=rfl
theorem cmpI_zero {x y:Int}:cmpI x y=0↔x=y:=by
  unfold cmpI;split
  · omega
  · split<;>omega
theorem lexC_fin {α β:Type} {c:α→β→Int} {l:List α} {m:List β} {i:Nat} (h1:i≤l.length) (h2:i≤m.length) (h:¬ (i<l.length∧i<m.length)):lexC c (l.drop i) (m.drop i)=cmpI l.length m.length:=by
  unfold cmpI
  by_cases q:i<l.length
  · rw [lexC_long q (by omega),if_neg (by omega),if_pos (by omega)]
  · rw [lexC_end (by omega) h2 (by omega)]
    by_cases q2:l.length<m.length
    · rw [if_pos q2,if_pos (by omega)]
    · rw [if_neg q2,if_neg (by omega),if_neg (by omega)]
theorem firstL_one (x:Int):firstL [x]=x:=by
  simp only [firstL]
  by_cases h:x=0
  · rw [if_neg (fun q=>q h),h]
  · rw [if_pos h]
theorem cmpFd_ne {c:V→V→Int} {x y:ByteArray×V} (h:cmpS x.1 y.1≠0):cmpFd c x y=cmpS x.1 y.1:=by
  unfold cmpFd;simp only [firstL];rw [if_pos h]
theorem cmpFd_eq {c:V→V→Int} {x y:ByteArray×V} (h:cmpS x.1 y.1=0):cmpFd c x y=c x.2 y.2:=by
  unfold cmpFd;rw [firstL];rw [if_neg (fun q=>q h),firstL_one]
set_option maxHeartbeats 4000000 in
theorem refCompare_ok:∀ (d:Nat) (a b:V),V.le d a→V.le d b→Af Tryz.prog 50 [encV d .any fun _=>a,encV d .any fun _=>b] [] (.int .i64 fun _=>cmpV d a b) []
  | 0,_,_,h,_=>h.elim
  | d + 1,a,b,ha,hb=>by
    have ih:=refCompare_ok d
    have hta:a.text.size≤35184372088832:=Nat.le_trans ha.2.2.1 (by decide)
    have htb:b.text.size≤35184372088832:=Nat.le_trans hb.2.2.1 (by decide)
    (apply Af.of tF mF [.tmp 4] kp50 [(2,[(4,.int .i64 (fun _=>cmpI a.kind b.kind),[])]),(4,[(4,.int .i64 (fun _=>cmpI a.int b.int),[])]),(6,[(4,.int .i64 (fun _=>cmpI a.scale b.scale),[])]),(7,[(4,.int .i64 (fun _=>cmpS a.text b.text),[])]),
      (17,[(6,.int .i64 (fun _=>cmpI a.list.length b.list.length),[])]),(27,[(6,.int .i64 (fun _=>cmpI a.fields.length b.fields.length),[])])] Tryz.func50 (fun _=>?_);(any_goals ((with_reducible refine wI ?_);cbv;(try dsimp only [nc] at *);(repeat' (with_reducible first|exact aO|exact oN|refine oC ?_ ?_|refine VC.mk rfl ?_ ?_ ?_|(apply Ca.mk<;>intro _)|(apply Cv.mk<;>intro zq<;>(try simp only [nc,cl] at zq)<;>(try simp only [bl,dl] at zq)<;>(revert zq;intro _))|((first|apply xE|apply uE);cbv;(try dsimp only [nc] at *)))))))
    (any_goals ((with_reducible refine bZ ?_)<;>exact (sign_ok _ _)))
    (any_goals ((with_reducible refine bZ ?_)<;>exact (text_ok _ _ hta htb)))
    ((all_goals (try (with_reducible ((first|refine rE ?_|refine nE ?_);(focus (cbv;(try dsimp only [nc] at *);(try simp only [wl,nc]);(repeat' (with_reducible apply And.intro));all_goals (try exact wZ)))))));(all_goals (try ((with_reducible rw [aC]);(try simp only [wl,nc]);(repeat' (with_reducible apply And.intro));(all_goals (try exact cZ))))))
    · rw [cmpV_eq];simp only [firstL];rw [if_pos (fun q=>‹¬a.kind=b.kind› (cmpI_zero.1 q))]
    · rw [cmpV_eq];simp only [firstL];rw [if_neg (fun q=>q (cmpI_zero.2 ‹_›)),if_pos (fun q=>‹¬a.int=b.int› (cmpI_zero.1 q))]
    · rw [cmpV_eq];simp only [firstL];rw [if_neg (fun q=>q (cmpI_zero.2 ‹_›)),if_neg (fun q=>q (cmpI_zero.2 ‹_›)),if_pos (fun q=>‹¬a.scale=b.scale› (cmpI_zero.1 q))]
    · rw [cmpV_eq];simp only [firstL];rw [if_neg (fun q=>q (cmpI_zero.2 ‹_›)),if_neg (fun q=>q (cmpI_zero.2 ‹_›)),if_neg (fun q=>q (cmpI_zero.2 ‹_›)),if_pos ‹_›]
    rename_i k1 k2 k3 k4
    have hC:cmpV (d+1) a b=firstL [lexC (cmpV d) a.list b.list,lexC (cmpFd (cmpV d)) a.fields b.fields]:=by
      rw [cmpV_eq];simp only [firstL]
      rw [if_neg (fun q=>q (cmpI_zero.2 ‹_›)),if_neg (fun q=>q (cmpI_zero.2 ‹_›)),if_neg (fun q=>q (cmpI_zero.2 ‹_›)),if_neg (fun q=>q ‹_›)]
    clear k1 k2 k3 k4
    have la:=ha.1
    have lb:=hb.1
    have fa:=ha.2.1
    have fb:=hb.2.1
    refine .loop (fun i:Nat=>⟨144,[(6,.int .i64 fun _=>i),(3,.ptr 3 0),(2,.ptr 2 0)],[(2,.box (cells (d+1) .any fun _=>a)),(3,.box (cells (d+1) .any fun _=>b))]⟩)
      (fun i=>i≤a.list.length∧i≤b.list.length∧lexC (cmpV d) a.list b.list=lexC (cmpV d) (a.list.drop i) (b.list.drop i)) (fun i=>a.list.length - i) 0 (by simp) ?_ fun i E hi=>?_
    · (focus (cbv;(try dsimp only [nc] at *);(try simp only [wl,nc]);(repeat' (with_reducible apply And.intro));all_goals (try exact wZ)))
    apply AWp.wk tF mF [(13,[(10,.int .i64 (fun _=>?_),[])])] kp50 ?_
    (any_goals ((with_reducible refine wI ?_);cbv;(try dsimp only [nc] at *);(repeat' (with_reducible first|exact aO|exact oN|refine oC ?_ ?_|refine VC.mk rfl ?_ ?_ ?_|(apply Ca.mk<;>intro _)|(apply Cv.mk<;>intro zq<;>(try simp only [nc,cl] at zq)<;>(try simp only [bl,dl] at zq)<;>(revert zq;intro _))|((first|apply xE|apply uE);cbv;(try dsimp only [nc] at *))))))
    (any_goals ((with_reducible refine bZ ?_)<;>exact (ih _ _ (ha.2.2.2.1 _ (getD_mem (‹i<a.list.length∧i<b.list.length›:_∧_).1)) (hb.2.2.2.1 _ (getD_mem (‹i<a.list.length∧i<b.list.length›:_∧_).2)))))
    (any_goals ((with_reducible refine bZ ?_)<;>exact (sign_ok _ _)))
    ((all_goals (try (with_reducible ((first|refine rE ?_|refine nE ?_);(focus (cbv;(try dsimp only [nc] at *);(try simp only [wl,nc]);(repeat' (with_reducible apply And.intro));all_goals (try exact wZ)))))));(all_goals (try ((with_reducible rw [aC]);(try simp only [wl,nc]);(repeat' (with_reducible apply And.intro));(all_goals (try exact cZ))))))
    · rename_i h1 h2
      rw [hC,hi.2.2,lexC_drop h1.1 h1.2 default default,if_pos h2]
      simp only [firstL]
      rw [if_pos h2]
    · rename_i h1 h2
      refine dE (i+1) ⟨⟨by omega,by omega,?_⟩,by omega⟩ ?_
      · rw [hi.2.2,lexC_drop h1.1 h1.2 default default,if_neg (fun q=>q h2)]
      · (focus (cbv;(try dsimp only [nc] at *);(try simp only [wl,nc]);(repeat' (with_reducible apply And.intro));all_goals (try exact wZ)))
        exact w64n (by omega)
    · rename_i h1 h2
      have h3:cmpI a.list.length b.list.length≠0:=fun q=>h2 (cmpI_zero.1 q)
      rw [hC,hi.2.2,lexC_fin hi.1 hi.2.1 (by omega)]
      simp only [firstL]
      rw [if_pos h3]
    rename_i h1 h2
    have hL:lexC (cmpV d) a.list b.list=0:=by rw [hi.2.2,lexC_fin hi.1 hi.2.1 (by omega)];exact cmpI_zero.2 h2
    have hC2:cmpV (d+1) a b=lexC (cmpFd (cmpV d)) a.fields b.fields:=by
      rw [hC,firstL,if_neg (fun q=>q hL),firstL_one]
    clear hC hL h1 h2 hi
    refine .loop (fun i:Nat=>⟨144,[(8,.int .i64 fun _=>i),(3,.ptr 3 0),(2,.ptr 2 0)],[(2,.box (cells (d+1) .any fun _=>a)),(3,.box (cells (d+1) .any fun _=>b))]⟩)
      (fun i=>i≤a.fields.length∧i≤b.fields.length∧lexC (cmpFd (cmpV d)) a.fields b.fields=lexC (cmpFd (cmpV d)) (a.fields.drop i) (b.fields.drop i)) (fun i=>a.fields.length - i) 0 (by simp) ?_ fun i E hi=>?_
    · (focus (cbv;(try dsimp only [nc] at *);(try simp only [wl,nc]);(repeat' (with_reducible apply And.intro));all_goals (try exact wZ)))
    have hxa:∀ i,i<a.fields.length→_:=fun i h=>ha.2.2.2.2 _ (getD_mem (l:=a.fields) (d:=default) h)
    have hxb:∀ i,i<b.fields.length→_:=fun i h=>hb.2.2.2.2 _ (getD_mem (l:=b.fields) (d:=default) h)
    apply AWp.wk tF mF [(21,[(12,.int .i64 (fun _=>?_),[])]),(24,[(12,.int .i64 (fun _=>?_),[])])] kp50 ?_
    (any_goals ((with_reducible refine wI ?_);cbv;(try dsimp only [nc] at *);(repeat' (with_reducible first|exact aO|exact oN|refine oC ?_ ?_|refine VC.mk rfl ?_ ?_ ?_|(apply Ca.mk<;>intro _)|(apply Cv.mk<;>intro zq<;>(try simp only [nc,cl] at zq)<;>(try simp only [bl,dl] at zq)<;>(revert zq;intro _))|((first|apply xE|apply uE);cbv;(try dsimp only [nc] at *))))))
    (any_goals ((with_reducible refine bZ ?_)<;>exact (text_ok _ _ (Nat.le_trans (hxa i (‹i<a.fields.length∧i<b.fields.length›:_∧_).1).1 (by decide)) (Nat.le_trans (hxb i (‹i<a.fields.length∧i<b.fields.length›:_∧_).2).1 (by decide)))))
    (any_goals ((with_reducible refine bZ ?_)<;>exact (ih _ _ (hxa i (‹i<a.fields.length∧i<b.fields.length›:_∧_).1).2 (hxb i (‹i<a.fields.length∧i<b.fields.length›:_∧_).2).2)))
    (any_goals ((with_reducible refine bZ ?_)<;>exact (sign_ok _ _)))
    ((all_goals (try (with_reducible ((first|refine rE ?_|refine nE ?_);(focus (cbv;(try dsimp only [nc] at *);(try simp only [wl,nc]);(repeat' (with_reducible apply And.intro));all_goals (try exact wZ)))))));(all_goals (try ((with_reducible rw [aC]);(try simp only [wl,nc]);(repeat' (with_reducible apply And.intro));(all_goals (try exact cZ))))))
    · rename_i h1 h2
      rw [hC2,hi.2.2,lexC_drop h1.1 h1.2 default default,if_pos (by rw [cmpFd_ne h2];exact h2),cmpFd_ne h2]
    · rename_i h1 h2 h3
      rw [hC2,hi.2.2,lexC_drop h1.1 h1.2 default default,if_pos (by rw [cmpFd_eq h2];exact h3),cmpFd_eq h2]
    · rename_i h1 h2 h3
      refine dE (i+1) ⟨⟨by omega,by omega,?_⟩,by omega⟩ ?_
      · rw [hi.2.2,lexC_drop h1.1 h1.2 default default,if_neg (by rw [cmpFd_eq h2,h3];simp)]
      · (focus (cbv;(try dsimp only [nc] at *);(try simp only [wl,nc]);(repeat' (with_reducible apply And.intro));all_goals (try exact wZ)))
        exact w64n (by omega)
    · rename_i h1
      rw [hC2,hi.2.2,lexC_fin hi.1 hi.2.1 (by omega)]
theorem refEqual_ok (d:Nat) (a b:V) (ha:V.le d a) (hb:V.le d b):Af Tryz.prog 25 [encV d .any fun _=>a,encV d .any fun _=>b] [] (.bool fun _=>cmpV d a b == 0) []:=by
  (apply Af.of tF mF [.tmp 4] kp25 [(1,[(2,.int .i64 (fun _=>?_),[])])] Tryz.func25 (fun _=>?_);(any_goals ((with_reducible refine wI ?_);cbv;(try dsimp only [nc] at *);(repeat' (with_reducible first|exact aO|exact oN|refine oC ?_ ?_|refine VC.mk rfl ?_ ?_ ?_|(apply Ca.mk<;>intro _)|(apply Cv.mk<;>intro zq<;>(try simp only [nc,cl] at zq)<;>(try simp only [bl,dl] at zq)<;>(revert zq;intro _))|((first|apply xE|apply uE);cbv;(try dsimp only [nc] at *)))))))
  (any_goals ((with_reducible refine bZ ?_)<;>exact (refCompare_ok _ _ _ ha hb)))
  ((all_goals (try (with_reducible ((first|refine rE ?_|refine nE ?_);(focus (cbv;(try dsimp only [nc] at *);(try simp only [wl,nc]);(repeat' (with_reducible apply And.intro));all_goals (try exact wZ)))))));(all_goals (try ((with_reducible rw [aC]);(try simp only [wl,nc]);(repeat' (with_reducible apply And.intro));(all_goals (try exact cZ))))))
def sV:Nat→V→Nat
  | 0,_=>0
  | d+1,v=>1+((kz v).map (sV d)).sum
end Go.Ai
