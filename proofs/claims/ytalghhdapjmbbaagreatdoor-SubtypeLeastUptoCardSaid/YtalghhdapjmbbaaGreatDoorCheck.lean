/- Chapter 4: the document's Check. -/
import Derived.Test.YtalghhdapjmbbaaGreatDoorFnG
set_option linter.all false
namespace Go.Ai
open Go Go.Proofs
set_option maxRecDepth 100000
set_option maxHeartbeats 2000000
theorem getD_at {α:Type} [Inhabited α] (l:List α) (i:Nat) (h:i<l.length):l.getD i default=l[i]:=by
  rw [List.getD_eq_getElem?_getD,List.getElem?_eq_getElem h];rfl
theorem V.le_up:∀ {d:Nat} {v:V},V.le d v→V.le (d+1) v
  | 0,_,h=>h.elim
  | _+1,_,h=>⟨h.1,h.2.1,h.2.2.1,fun x hx=>V.le_up (h.2.2.2.1 x hx),fun x hx=>⟨(h.2.2.2.2 x hx).1,V.le_up (h.2.2.2.2 x hx).2⟩⟩
theorem V.le_mono {d e:Nat} {v:V} (h:V.le d v) (he:d≤e):V.le e v:=by
  induction he with
  | refl=>exact h
  | step _ ih=>exact V.le_up ih
theorem cells_up:∀ (d:Nat) (v:Unit→V),V.le d (v ())→LeL (cells d .any v) (cells (d+1) .any v):=by
  have key:∀ (d:Nat) (v:Unit→V),V.le d (v ())→∀ (w:World) (D:Nat→Prop) (B j:Nat) (av av':AV) (u:Value),(cells d .any v)[j]? = some av→(cells (d+1) .any v)[j]? = some av'→RD w D B av u→RD w D B av' u:=by
    intro d
    induction d with
    | zero=>intro v hv;exact hv.elim
    | succ d ih =>
      intro v hv w D B j av av' u h1 h2 h
      match j with
      | 0|1|2|3=>simp [cells,cellsG] at h1 h2;subst h1;subst h2;exact h
      | 4 =>
        simp [cells,cellsG] at h1 h2;subst h1;subst h2
        exact rd_slc h (fun _ _=>trivial) rfl fun i hi=>⟨rfl,fun _=>rfl,fun w D B j av av' u h1 h2 h=>ih _ (V.le_list hv hi) w D B j av av' u h1 h2 h⟩
      | 5 =>
        simp [cells,cellsG] at h1 h2;subst h1;subst h2
        refine rd_slc h (fun _ _=>trivial) rfl fun i hi=>⟨rfl,fun _=>rfl,fun w D B j av av' u h1 h2 h=>?_⟩
        cases j with
        | zero=>simp [sub] at h1 h2;subst h1;subst h2;exact h
        | succ j=>exact ih _ (V.le_field hv hi) w D B j av av' u h1 h2 h
      | n+6=>simp [cells,cellsG] at h1
  exact fun d v hv=>⟨rfl,fun _=>rfl,fun w D B j av av' u h1 h2 h=>key d v hv w D B j av av' u h1 h2 h⟩
def stkF (d:Nat) (s:List (Int×Nat×V)):(Unit→Nat)→List AV:=fun i=>cells (d+1) .any (fun _=>(s.getD (i ()) default).2.2)++[.int .i64 fun _=>(s.getD (i ()) default).1]
def flatR (s:List (Int×Nat×V)):List (Int×Nat×V):=(s.reverse.map fun p=>preV (p.2.1+1) p.1 p.2.2).flatten
theorem flatR_snoc (s:List (Int×Nat×V)) (p:Int×Nat×V):flatR (s++[p])=preV (p.2.1+1) p.1 p.2.2++flatR s:=by
  simp [flatR]
def SInv (vs:ByteArray→Bool) (d:Nat) (P:List (Int×Nat×V)) (q:Nat×List (Int×Nat×V)):Prop :=
  (∃ done,done.length=q.1∧done++flatR q.2=P)∧fI (checkAt vs P) q.1=0∧∀ p ∈ q.2,V.le (p.2.1+1) p.2.2∧1≤p.1∧p.2.1≤d
theorem flatR_len:∀ (s:List (Int×Nat×V)),s.length≤(flatR s).length:=fun s=>by
  have:∀ l:List (Int×Nat×V),l.length≤((l.map fun p=>preV (p.2.1+1) p.1 p.2.2).flatten).length:=by
    intro l
    induction l with
    | nil=>simp
    | cons p l ih=>simp only [List.map_cons,List.flatten_cons,List.length_append,List.length_cons,preV] at ih ⊢;omega
  have h:=this s.reverse
  rw [List.length_reverse] at h
  exact h
def itmS (lvl:Int) (e:Nat) (l:List V):List (Int×Nat×V):=l.reverse.map fun y=>(lvl+1,e - 1,y)
theorem flatR_app (s t:List (Int×Nat×V)):flatR (s++t)=flatR t++flatR s:=by simp [flatR]
theorem flatR_itmS {lvl:Int} {e:Nat} {l:List V} (h:∀ y ∈ l,V.le e y):flatR (itmS lvl e l)=(l.map (preV e (lvl+1))).flatten:=by
  unfold flatR itmS
  rw [← List.map_reverse,List.reverse_reverse,List.map_map]
  congr 1
  refine List.map_congr_left fun y hy=>?_
  obtain ⟨k,rfl⟩:=V.lP (h y hy)
  rfl
theorem itmS_len (lvl:Int) (e:Nat) (l:List V):(itmS lvl e l).length=l.length:=by simp [itmS]
theorem itmS_snoc {lvl:Int} {e:Nat} {l:List V} {k:Nat} (h:k<l.length):itmS lvl e (l.drop k)=itmS lvl e (l.drop (k+1))++[(lvl+1,e - 1,l.getD k default)]:=by
  rw [List.drop_eq_getElem_cons h,getD_at _ _ h]
  unfold itmS
  rw [List.reverse_cons,List.map_append];rfl
theorem getD_left {α:Type} [Inhabited α] {s t:List α} {i:Nat} (h:i<s.length):(s++t).getD i default=s.getD i default:=by
  simp only [List.getD_eq_getElem?_getD,List.getElem?_append_left h]
theorem LeL.app {l m:List AV} (h:LeL l m) (a:AV):LeL (l++[a]) (m++[a]):=by
  obtain ⟨h1,h2,h3⟩:=h
  refine ⟨by simp [h1],fun hc=>?_,fun w D B j av av' u q1 q2 q=>?_⟩
  · simp only [List.all_append,Bool.and_eq_true] at hc ⊢
    exact ⟨h2 hc.1,hc.2⟩
  · by_cases hj:j<l.length
    · rw [List.getElem?_append_left hj] at q1
      rw [List.getElem?_append_left (by omega)] at q2
      exact h3 w D B j av av' u q1 q2 q
    · rw [List.getElem?_append_right (by omega)] at q1 q2
      rw [← h1,q1] at q2
      cases q2;exact q
theorem refCheck_ok (vs:ByteArray→Bool) (d:Nat) (v:V) (hv:V.le (d+1) v) (hd:d+1≤1073741824) (hs:sV (d+1) v≤1073741824) (hV:∀ p ∈ preV (d+1) 1 v,Af Tryz.prog 170 [.str fun _=>p.2.2.text] [] (.bool fun _=>vs p.2.2.text) []) :
    Af Tryz.prog 101 [encV (d+1) .any fun _=>v] [] (.int .i64 fun _=>checkE vs (preV (d+1) 1 v)) []:=by
  obtain ⟨P,hP⟩:∃ P,P=preV (d+1) 1 v:=⟨_,rfl⟩
  have hPl:P.length≤1073741824:=by rw [hP,preV_len];exact hs
  have hPc:P.length≤4096∨4096<P.length:=by omega
  rw [← hP]
  rw [← hP] at hV
  (apply Af.of tF mF [.tmp 2] kp101 [] Tryz.func101 (fun _=>?_);(any_goals ((with_reducible refine wI ?_);cbv;(try dsimp only [nc] at *);(repeat' (with_reducible first|exact aO|exact oN|refine oC ?_ ?_|refine VC.mk rfl ?_ ?_ ?_|(apply Ca.mk<;>intro _)|(apply Cv.mk<;>intro zq<;>(try simp only [nc,cl] at zq)<;>(try simp only [bl,dl] at zq)<;>(revert zq;intro _))|((first|apply xE|apply uE);cbv;(try dsimp only [nc] at *)))))))
  ((all_goals (try (with_reducible ((first|refine rE ?_|refine nE ?_);(focus (cbv;(try dsimp only [nc] at *);(try simp only [wl,nc]);(repeat' (with_reducible apply And.intro));all_goals (try exact wZ)))))));(all_goals (try ((with_reducible rw [aC]);(try simp only [wl,nc]);(repeat' (with_reducible apply And.intro));(all_goals (try exact cZ))))))
  refine .loop (fun q:Nat×List (Int×Nat×V)=>⟨62,[(4,.int .i64 fun _=>(q.1:Int)),(3,.aref 11 0 fun _=>q.2.length)],[(11,.arr false 152 7 0 (fun _=>q.2.length) (stkF d q.2))]⟩)
    (SInv vs d P) (fun q=>P.length - q.1) (0,[(1,d,v)]) ⟨⟨[],rfl,by simp [flatR,hP]⟩,rfl,fun p hp=>by simp at hp;subst hp;exact ⟨hv,by show (1:Int)≤1;decide,Nat.le_refl _⟩⟩ ?_ fun q E hq=>?_
  · (focus (cbv;(try dsimp only [nc] at *);(try simp only [wl,nc]);(repeat' (with_reducible apply And.intro));all_goals (try exact wZ)))
    intro i hi
    have:i=0:=by omega
    subst this
    exact LeL.of_eq rfl
  obtain ⟨g,s⟩:=q
  obtain ⟨⟨done,hdl,hdP⟩,hI,hle⟩:=hq
  simp only at hdl hdP hI hle
  rcases List.eq_nil_or_concat s with rfl|⟨s,⟨lvl,e,x⟩,hse⟩
  · apply AWp.wk tF mF [] kp101 ?_
    (any_goals ((with_reducible refine wI ?_);cbv;(try dsimp only [nc] at *);(repeat' (with_reducible first|exact aO|exact oN|refine oC ?_ ?_|refine VC.mk rfl ?_ ?_ ?_|(apply Ca.mk<;>intro _)|(apply Cv.mk<;>intro zq<;>(try simp only [nc,cl] at zq)<;>(try simp only [bl,dl] at zq)<;>(revert zq;intro _))|((first|apply xE|apply uE);cbv;(try dsimp only [nc] at *))))))
    all_goals (try (exfalso;exact absurd ‹(0:Int)<(([]:List (Int×Nat×V)).length:Int)› (by decide)))
    ((all_goals (try (with_reducible ((first|refine rE ?_|refine nE ?_);(focus (cbv;(try dsimp only [nc] at *);(try simp only [wl,nc]);(repeat' (with_reducible apply And.intro));all_goals (try exact wZ)))))));(all_goals (try ((with_reducible rw [aC]);(try simp only [wl,nc]);(repeat' (with_reducible apply And.intro));(all_goals (try exact cZ))))))
    have hPg:P.length=g:=by rw [← hdP];simp [flatR,hdl]
    show 0=fI (checkAt vs P) P.length
    rw [hPg,hI]
  · rw [List.concat_eq_append] at hse
    subst hse
    obtain ⟨hx,hlv,hed⟩:=hle (lvl,e,x) (by simp)
    rw [flatR_snoc,preV,List.cons_append] at hdP
    have hat:P[g]? = some (lvl,e,x):=by rw [← hdP,List.getElem?_append_right (by omega),hdl];simp
    have hgl:g<P.length:=(List.getElem?_eq_some_iff.1 hat).1
    have hC:checkAt vs P g=if 4096≤g then 9 else if 8<lvl then 23 else ownE vs x:=by simp only [checkAt,hat]
    have hsl:(s++[(lvl,e,x)]).length=s.length+1:=by simp
    have hsP:s.length≤P.length:=by
      have:=flatR_len s
      have:=congrArg List.length hdP
      simp only [List.length_append,List.length_cons] at this
      omega
    have hget:(s++[(lvl,e,x)]).getD (IntKind.i64.wrap (((s++[(lvl,e,x)]).length:Int) - 1)).toNat default=(lvl,e,x):=by
      rw [hsl,w64 (by omega) (by omega),show (((s.length+1:Nat):Int) - 1).toNat=s.length by omega,List.getD_eq_getElem?_getD,List.getElem?_append_right (Nat.le_refl _)]
      simp
    have hfin:∀ c,(if 4096≤g then 9 else if 8<lvl then 23 else ownE vs x)=c→c≠0→c=checkE vs P:=fun c h1 h2=>by
      rw [← hC] at h1;subst h1;exact (firstI_at hgl hI h2).symm
    obtain ⟨S,hS⟩:∃ S,S=s++[(lvl,e,x)]:=⟨_,rfl⟩
    rw [← hS] at hget hsl ⊢
    simp only at hx hlv hed
    have hxd:V.le (d+1) x:=V.le_mono hx (by omega)
    have hkl:=kids_len hxd
    have hO:=Own_ok vs d x hxd (hV _ (List.mem_of_getElem? hat))
    have hK:=refParts_ok d x hxd
    apply AWp.wk tF mF [(11,[(2,.int .i64 (fun _=>ownE vs x),[])]),(14,[(2,slcV d .any fun _=>kz x,[])])] kp101 ?_
    (any_goals ((with_reducible refine wI ?_);cbv;(try dsimp only [nc] at *);(repeat' (with_reducible first|exact aO|exact oN|refine oC ?_ ?_|refine VC.mk rfl ?_ ?_ ?_|(apply Ca.mk<;>intro _)|(apply Cv.mk<;>intro zq<;>(try simp only [nc,cl] at zq)<;>(try simp only [bl,dl] at zq)<;>(revert zq;intro _))|((first|apply xE|apply uE);cbv;(try dsimp only [nc] at *))))))
    all_goals (try simp only [hget] at *)
    (any_goals ((with_reducible refine bZ ?_)<;>exact hO))
    (any_goals ((with_reducible refine bZ ?_)<;>exact hK))
    ((all_goals (try (with_reducible ((first|refine rE ?_|refine nE ?_);(focus (cbv;(try dsimp only [nc] at *);(try simp only [wl,nc]);(repeat' (with_reducible apply And.intro));all_goals (try exact wZ)))))));(all_goals (try ((with_reducible rw [aC]);(try simp only [wl,nc]);(repeat' (with_reducible apply And.intro));(all_goals (try exact cZ))))))
    · rename_i q
      exact hfin 9 (if_pos (by omega)) (by decide)
    · rename_i q1 q2
      exact hfin 23 (by rw [if_neg (by omega),if_pos q2]) (by decide)
    · rename_i q1 q2 q3
      exact hfin _ (by rw [if_neg (by omega),if_neg (by omega)]) q2
    · rename_i q1 q2 q3
      have hkle:∀ y ∈ kz x,V.le e y:=fun y hy=>kids_le hx hy
      obtain ⟨R,hR⟩:∃ R:Nat→List (Int×Nat×V),∀ i,R i=s++itmS lvl e ((kz x).drop i):=⟨_,fun _=>rfl⟩
      have hRs:R (kz x).length=s:=by rw [hR,List.drop_length];simp [itmS]
      have hRl:∀ i,(R i).length≤s.length+(kz x).length:=fun i=>by rw [hR,List.length_append,itmS_len,List.length_drop];omega
      have hRk:∀ k,k<(kz x).length→R k=R (k+1)++[(lvl+1,e - 1,(kz x).getD k default)]:=fun k hk=>by rw [hR,hR,itmS_snoc hk,List.append_assoc]
      have hRm:∀ p ∈ R 0,V.le (p.2.1+1) p.2.2∧1≤p.1∧p.2.1≤d:=fun p hp=>by
        rw [hR,List.drop_zero] at hp
        rcases List.mem_append.1 hp with hp|hp
        · exact hle p (List.mem_append_left _ hp)
        · obtain ⟨y,hy,rfl⟩:=List.mem_map.1 hp
          have:=hkle y (List.mem_reverse.1 hy)
          obtain ⟨k,rfl⟩:=V.lP this
          exact ⟨this,by show 1≤lvl+1;omega,by show k+1 - 1≤d;omega⟩
      have hnext:SInv vs d P (g+1,R 0):=by
        refine ⟨⟨done++[(lvl,e,x)],by simp [hdl],?_⟩,?_,hRm⟩
        · simp only
          rw [hR,List.drop_zero,flatR_app,flatR_itmS hkle,List.append_assoc]
          exact hdP
        · show (if fI (checkAt vs P) g≠0 then _ else _)=0
          rw [hI,if_neg (by simp),hC,if_neg (by omega),if_neg (by omega)];exact q2
      have hSw:(IntKind.i64.wrap ((S.length:Int) - 1)).toNat=s.length:=by rw [hsl,w64 (by omega) (by omega)];omega
      have hsS:∀ i,i<s.length→S.getD i default=s.getD i default:=fun i hi=>by rw [hS,getD_left hi]
      refine .loop (fun i:Nat=>⟨62,[(8,.int .i64 fun _=>(i:Int) - 1),(7,slcV d .any fun _=>kz x),(3,.aref 11 0 fun _=>(R i).length),(5,.ptr 5 0),(4,.int .i64 fun _=>(g:Int))],
          [(11,.arr false 152 7 0 (fun _=>(R i).length) (stkF d (R i))),(5,.box (cells (d+1) .any (fun _=>x)++[.int .i64 fun _=>lvl]))]⟩)
        (fun i=>i≤(kz x).length) (fun i=>i) (kz x).length (Nat.le_refl _) ?_ fun i E hi=>?_
      · (focus (cbv;(try dsimp only [nc] at *);(try simp only [wl,nc]);(repeat' (with_reducible apply And.intro));all_goals (try exact wZ)))
        all_goals (try (rw [hSw,hRs];done))
        · rw [w64 (by omega) (by omega)]
        · intro i hi
          rw [hSw] at hi
          rw [hRs]
          refine LeL.of_eq ?_
          show cells (d+1) .any (fun _=>(S.getD i default).2.2)++[.int .i64 fun _=>(S.getD i default).1]=cells (d+1) .any (fun _=>(s.getD i default).2.2)++[.int .i64 fun _=>(s.getD i default).1]
          rw [hsS i hi]
      cases i with
      | zero =>
        rw [show ((0:Nat):Int) - 1 = -1 from rfl]
        apply AWp.wk tF mF [] kp101 ?_
        (any_goals ((with_reducible refine wI ?_);cbv;(try dsimp only [nc] at *);(repeat' (with_reducible first|exact aO|exact oN|refine oC ?_ ?_|refine VC.mk rfl ?_ ?_ ?_|(apply Ca.mk<;>intro _)|(apply Cv.mk<;>intro zq<;>(try simp only [nc,cl] at zq)<;>(try simp only [bl,dl] at zq)<;>(revert zq;intro _))|((first|apply xE|apply uE);cbv;(try dsimp only [nc] at *))))))
        all_goals (try (exfalso;exact absurd ‹(0:Int) ≤ -1› (by decide)))
        ((all_goals (try (with_reducible ((first|refine rE ?_|refine nE ?_);(focus (cbv;(try dsimp only [nc] at *);(try simp only [wl,nc]);(repeat' (with_reducible apply And.intro));all_goals (try exact wZ)))))));(all_goals (try ((with_reducible rw [aC]);(try simp only [wl,nc]);(repeat' (with_reducible apply And.intro));(all_goals (try exact cZ))))))
        refine dE (ι:=Nat×List (Int×Nat×V)) (Inv:=SInv vs d P) (μ:=fun q=>P.length - q.1) (i:=(g,S)) (g+1,R 0) ⟨hnext,?_⟩ ?_
        · show P.length - (g+1)<P.length - g
          omega
        · (focus (cbv;(try dsimp only [nc] at *);(try simp only [wl,nc]);(repeat' (with_reducible apply And.intro));all_goals (try exact wZ)))
          rw [w64 (by omega) (by omega)];rfl
      | succ k =>
        rw [show (((k+1:Nat)):Int) - 1=(k:Int) by omega]
        have hRk1:=hRl (k+1)
        apply AWp.wk tF mF [] kp101 ?_
        (any_goals ((with_reducible refine wI ?_);cbv;(try dsimp only [nc] at *);(repeat' (with_reducible first|exact aO|exact oN|refine oC ?_ ?_|refine VC.mk rfl ?_ ?_ ?_|(apply Ca.mk<;>intro _)|(apply Cv.mk<;>intro zq<;>(try simp only [nc,cl] at zq)<;>(try simp only [bl,dl] at zq)<;>(revert zq;intro _))|((first|apply xE|apply uE);cbv;(try dsimp only [nc] at *))))))
        all_goals (try (exfalso;exact absurd ‹(k:Int)<0› (by omega)))
        ((all_goals (try (with_reducible ((first|refine rE ?_|refine nE ?_);(focus (cbv;(try dsimp only [nc] at *);(try simp only [wl,nc]);(repeat' (with_reducible apply And.intro));all_goals (try exact wZ)))))));(all_goals (try ((with_reducible rw [aC]);(try simp only [wl,nc]);(repeat' (with_reducible apply And.intro));(all_goals (try exact cZ))))))
        refine dE k ⟨by omega,by omega⟩ ?_
        have hlk:(R (k+1)).length+1=(R k).length:=by rw [hRk k (by omega)];simp
        (focus (cbv;(try dsimp only [nc] at *);(try simp only [wl,nc]);(repeat' (with_reducible apply And.intro));all_goals (try exact wZ)))
        all_goals (try exact hlk)
        · rw [w64 (by omega) (by omega)]
        · have hy:V.le d ((kz x).getD k default):=by
            rw [getD_at _ _ (by omega)]
            exact V.le_mono (hkle _ (List.getElem_mem (by omega))) (by omega)
          refine cat_le (n:=fun _=>(R (k+1)).length) (m:=1) (fun i hi=>LeL.of_eq ?_) fun i hi=>?_
          · show cells (d+1) .any (fun _=>((R (k+1)).getD i default).2.2)++[.int .i64 fun _=>((R (k+1)).getD i default).1]=cells (d+1) .any (fun _=>((R k).getD i default).2.2)++[.int .i64 fun _=>((R k).getD i default).1]
            rw [hRk k (by omega),getD_left hi]
          · have:i=0:=by omega
            subst this
            have e1:(R k).getD ((R (k+1)).length+0) default=(lvl+1,e - 1,(kz x).getD k default):=by
              rw [hRk k (by omega),List.getD_eq_getElem?_getD,List.getElem?_append_right (by omega)];simp
            show LeL _ (cells (d+1) .any (fun _=>((R k).getD ((R (k+1)).length+0) default).2.2)++[.int .i64 fun _=>((R k).getD ((R (k+1)).length+0) default).1])
            rw [e1]
            have h9:=LeL.app (cells_up d (fun _=>(kz x).getD k default) hy) (.int .i64 fun _=>lvl+1)
            rw [w64 (by omega) (by omega)]
            exact h9
end Go.Ai
