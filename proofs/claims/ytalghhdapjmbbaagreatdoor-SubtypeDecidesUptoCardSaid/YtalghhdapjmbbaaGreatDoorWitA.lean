/- Chapter 8: strings.Repeat; least values, in plain words. -/
import Derived.Test.YtalghhdapjmbbaaGreatDoorShR
import Derived.Test.YtalghhdapjmbbaaGreatDoorVal
import Derived.Test.YtalghhdapjmbbaaGreatDoorSubB
import Derived.Test.YtalghhdapjmbbaaGreatDoorRecP
import Derived.Test.YtalghhdapjmbbaaGreatDoorTyF
set_option linter.all false
namespace Go.Ai
open Go Go.Proofs
set_option maxRecDepth 100000
set_option maxHeartbeats 4000000
theorem repeat_rep (b:UInt8) (n:Nat):(⟨(Lib.repeatL (⟨#[b]⟩:ByteArray).data.toList n).toArray⟩:ByteArray)=repS b n:=by
  have h:Lib.repeatL [b] n=List.replicate n b:=by simpa using Lib.repeatL_replicate b 1 n
  unfold repS;rw [← h]
theorem Repeat_ok (b:UInt8) (n:Int) (h0:0≤n) (hn:n≤1073741824):Af Tryz.prog 39 [.str fun _=>⟨#[b]⟩,.int .i64 fun _=>n] [] (.str fun _=>repS b n.toNat) []:=by
  obtain ⟨m,rfl⟩:=Int.eq_ofNat_of_zero_le h0
  refine Af.pureT (vals:=#[.string ⟨#[b]⟩,.int .i64 m]) Tryz.func39 rfl rfl fun w _=>?_
  have h:=Any.strings_Repeat Tryz.lays105 Tryz.Builder_Extra_105 ⟨#[b]⟩ m w (by omega) (by show 1 * m≤_;omega)
  change Calls Tryz.prog 39 _ _ _ at h
  rw [repeat_rep] at h
  exact h
def leastL (f:Ty→V):List TF→List (ByteArray×V)
  | []=>[]
  | x :: r=>if fN x=1 then (fM x,f (fT x)) :: leastL f r else if fN x=3 then (fM x,(fDef x).getD 0 default) :: leastL f r else leastL f r
def leastV:Nat→Ty→V
  | 0,_=>default
  | d+1,t =>
    if t.kind=2∨t.kind=3∨t.kind=6∨t.kind=7 then .mk t.kind (Max.max t.min (Min.min t.max 0)) t.scale ⟨#[]⟩ [] []
    else if t.kind=4 then .mk 4 0 0 (if 0<t.words.length then t.words.getD 0 ⟨#[]⟩ else repS 97 t.min.toNat) [] []
    else if t.kind=5 then .mk 5 0 0 (repS 0 t.min.toNat) [] []
    else if t.kind=8 then .mk 8 0 0 ⟨#[]⟩ (List.replicate t.min.toNat (leastV d (t.elem.getD 0 default))) []
    else if t.kind=10 then .mk 10 0 0 (fM (t.fields.getD 0 default)) [leastV d (fT (t.fields.getD 0 default))] []
    else if t.kind=9 then recV (leastL (leastV d) t.fields)
    else .mk t.kind 0 0 ⟨#[]⟩ [] []
theorem default_leV (c:Nat):V.le (c+1) (default:V):=⟨Nat.zero_le _,Nat.zero_le _,Nat.zero_le _,fun (x:V) (h:x ∈ ([]:List V))=>(by cases h),fun (x:ByteArray×V) (h:x ∈ ([]:List (ByteArray×V)))=>(by cases h)⟩
theorem def_leV {e d:Nat} {t:Ty} (ht:Ty.le e (d+1) t) {f:TF} (hf:f ∈ t.fields) (c:Nat) (hc:e≤c) (h0:0<c):(fM f).size≤1073741824∧V.le c ((fDef f).getD 0 default):=by
  obtain ⟨h1,h2,h3,h4⟩:=ht.2.2.2.2.2 f hf
  refine ⟨h1,?_⟩
  by_cases h:0<(fDef f).length
  · exact V.le_mono (h3 _ (gD h)) hc
  · have:fDef f=[]:=List.eq_nil_of_length_eq_zero (by omega)
    rw [this]
    obtain ⟨b,rfl⟩:∃ b,c=b+1:=⟨c - 1,by omega⟩
    exact default_leV b
theorem leastL_mem {f:Ty→V} {p:ByteArray×V→Prop}:∀ (l:List TF),(∀ x ∈ l,p (fM x,f (fT x))∧p (fM x,(fDef x).getD 0 default))→∀ y ∈ leastL f l,p y
  | [],_,y,hy=>by cases hy
  | x :: r,h,y,hy=>by
    have hr:=leastL_mem r fun z hz=>h z (List.mem_cons_of_mem _ hz)
    obtain ⟨h1,h2⟩:=h x (List.mem_cons_self ..)
    simp only [leastL] at hy
    split at hy
    · rcases List.mem_cons.1 hy with rfl|hy
      · exact h1
      · exact hr y hy
    split at hy
    · rcases List.mem_cons.1 hy with rfl|hy
      · exact h2
      · exact hr y hy
    · exact hr y hy
theorem leastL_len (f:Ty→V):∀ l:List TF,(leastL f l).length≤l.length
  | []=>Nat.le_refl _
  | x :: r=>by
    have:=leastL_len f r
    simp only [leastL]
    split
    · simp;omega
    split<;>simp<;>omega
theorem leV_text {c:Nat} {k i s:Int} {x:ByteArray} (h:x.size≤1073741824):V.le (c+1) (.mk k i s x [] []):=⟨Nat.zero_le _,Nat.zero_le _,h,fun _ h=>(by cases h),fun _ h=>(by cases h)⟩
theorem leastV_le (e:Nat):∀ (d:Nat) (t:Ty),Ty.ok e d t→Ty.le e d t→V.le (d+e) (leastV d t)
  | 0,_,h,_=>h.elim
  | d + 1,t,hto,ht=>by
    have hz:(⟨#[]⟩:ByteArray).size=0:=rfl
    rw [show d+1+e=(d+e)+1 by omega]
    simp only [leastV]
    split
    · exact leV_text (by omega)
    rename_i c1
    split
    · rename_i c4
      have hw:=ownT_words hto.1 c4
      split
      · exact leV_text (ht.2.1 _ (gD ‹_›))
      · have hb:=ownT_bnd hto.1 (.inl c4) (by omega)
        exact leV_text (by rw [repS_size];omega)
    rename_i c4
    split
    · rename_i c5
      have hb:=ownT_bnd hto.1 (.inr (.inl c5)) (ownT_nowords hto.1 (by omega))
      exact leV_text (by rw [repS_size];omega)
    rename_i c5
    split
    · rename_i c8
      have hb:=ownT_bnd hto.1 (.inr (.inr c8)) (ownT_nowords hto.1 (by omega))
      have hl:=ownT_elem hto.1 c8
      have ih:=leastV_le e d _ (Ty.ok_elem0 hto c8) (Ty.le_elem ht (i:=0) (by omega))
      refine ⟨by simp [V.list];omega,Nat.zero_le _,by show (⟨#[]⟩:ByteArray).size≤_;omega,fun x hx=>?_,fun _ h=>(by cases h)⟩
      rw [List.eq_of_mem_replicate hx];exact ih
    rename_i c8
    split
    · rename_i c10
      have hf:=ownT_vs hto.1 c10
      have hm:=gD (x:=(default:TF)) hf
      have ih:=leastV_le e d _ (hto.2.1 _ (by simp only [pS];rw [if_neg c8,if_pos (.inr c10)];exact List.mem_map_of_mem hm)) (Ty.le_field ht hf)
      refine ⟨by simp [V.list],Nat.zero_le _,(ht.2.2.2.2.2 _ hm).1,fun x hx=>?_,fun _ h=>(by cases h)⟩
      simp only [V.list,List.mem_singleton] at hx
      rw [hx];exact ih
    rename_i c10
    split
    · rename_i c9
      have hl:=ownT_len hto.1 (.inl c9)
      have:=leastL_len (leastV d) t.fields
      refine recV_le (by omega) (leastL_mem _ fun x hx=>?_)
      obtain ⟨d',hd'⟩:=Ty.lP (ht.2.2.2.2.2 x hx).2.2.2
      exact ⟨⟨(ht.2.2.2.2.2 x hx).1,leastV_le e d _ (hto.2.1 _ (by simp only [pS];rw [if_neg c8,if_pos (.inl c9)];exact List.mem_map_of_mem hx)) (ht.2.2.2.2.2 x hx).2.2.2⟩,def_leV ht hx _ (by omega) (by omega)⟩
    · exact leV_text (by omega)
def sumN (c:Nat) (l:List (ByteArray×V)):Nat:=(l.map fun x=>sV c x.2).sum
theorem sumN_keep (c:Nat):∀ l:List (ByteArray×V),sumN c (keepR l)≤sumN c l
  | []=>Nat.le_refl _
  | x :: l=>by
    have:=sumN_keep c l
    simp only [keepR]
    split
    · simp only [sumN,List.map_cons,List.sum_cons] at *;omega
    · simp only [sumN,List.map_cons,List.sum_cons] at *;omega
theorem sumN_sort (c:Nat) (l:List (ByteArray×V)):sumN c (sortN l)=sumN c l:=by
  unfold sumN sortN
  exact ((List.mergeSort_perm l leN).map _).sum_nat
theorem size_rec (c:Nat) (l:List (ByteArray×V)):sV (c+1) (recV l)≤1+sumN c l:=by
  have h1:=sumN_keep c l
  have h2:=sumN_sort c (keepR l)
  have:sV (c+1) (recV l)=1+sumN c (sortN (keepR l)):=by
    simp [sV,kz,recV,V.list,V.fields,V.kind,sumN,Function.comp_def]
  omega
theorem size_leaf (c:Nat) (k i s:Int) (x:ByteArray):sV (c+1) (.mk k i s x [] [])=1:=by
  simp only [sV,kz,V.list,V.fields,V.kind,List.map_nil]
  split
  · rfl
  · split<;>rfl
theorem sumTo_succ (g:Nat→Int):∀ n,sumTo g (n+1)=g 0+sumTo (fun i=>g (i+1)) n
  | 0=>by simp [sumTo]
  | n+1=>by rw [sumTo,sumTo_succ g n,sumTo];omega
theorem sizeV_any:∀ (c d:Nat) (v:V),V.le c v→sV d v≤sV c v
  | _,0,_,_=>Nat.zero_le _
  | 0,_+1,_,h=>h.elim
  | c + 1,d+1,v,h=>by
    simp only [sV]
    have:∀ l:List V,(∀ x ∈ l,V.le c x)→(l.map (sV d)).sum≤(l.map (sV c)).sum:=by
      intro l
      induction l with
      | nil=>intro _;exact Nat.le_refl _
      | cons x l ih =>
        intro hl
        have h1:=sizeV_any c d x (hl x (List.mem_cons_self ..))
        have h2:=ih fun y hy=>hl y (List.mem_cons_of_mem _ hy)
        simp only [List.map_cons,List.sum_cons];omega
    have:=this (kz v) fun x hx=>kids_le h hx
    omega
theorem leastL_size {c e:Nat} {f:Ty→V} {g:Ty→Int} {m:Int} (hg:∀ t,0≤g t):∀ l:List TF,sumTo (fun i=>leastF e g (l.getD i default)) l.length≤m→(∀ x ∈ l,g (fT x)≤m→(sV c (f (fT x)):Int)≤g (fT x)) →
    (∀ x ∈ l,fN x=3→sV c ((fDef x).getD 0 default)≤sV e ((fDef x).getD 0 default))→(sumN c (leastL f l):Int)≤sumTo (fun i=>leastF e g (l.getD i default)) l.length
  | [],_,_,_=>by simp [leastL,sumN,sumTo]
  | x :: r,hm,h1,h2=>by
    rw [List.length_cons,sumTo_succ] at hm ⊢
    simp only [List.getD_cons_zero,List.getD_cons_succ] at hm ⊢
    have n1:=leastF_nn hg x (e:=e)
    have n2:=sumTo_nn (g:=fun i=>leastF e g (r.getD i default)) (fun i=>leastF_nn hg _) r.length
    have ih:=leastL_size hg r (by omega) (fun y hy=>h1 y (List.mem_cons_of_mem _ hy)) fun y hy=>h2 y (List.mem_cons_of_mem _ hy)
    have q1:=h1 x (List.mem_cons_self ..)
    have q2:=h2 x (List.mem_cons_self ..)
    simp only [leastL]
    generalize sumTo (fun i=>leastF e g (r.getD i default)) r.length=S at *
    split
    · rename_i c1
      have hf:leastF e g x=g (fT x):=by simp only [leastF];rw [if_pos c1]
      rw [hf] at hm n1 ⊢
      have:=q1 (by omega)
      simp only [sumN,List.map_cons,List.sum_cons] at ih ⊢
      omega
    rename_i c1
    split
    · rename_i c3
      have hf:leastF e g x=(sV e ((fDef x).getD 0 default):Int):=by simp only [leastF];rw [if_neg c1,if_pos c3]
      rw [hf] at hm n1 ⊢
      have:=q2 c3
      simp only [sumN,List.map_cons,List.sum_cons] at ih ⊢
      omega
    · omega
theorem sum_rep (n a:Nat):(List.replicate n a).sum=n * a:=by
  induction n with
  | zero=>simp
  | succ n ih=>rw [List.replicate_succ,List.sum_cons,ih,Nat.succ_mul];omega
theorem leastV_size (e:Nat):∀ (d:Nat) (t:Ty),Ty.ok e d t→Ty.le e d t→leastT e d t≤4096→(sV (d+e) (leastV d t):Int)≤leastT e d t
  | 0,_,h,_,_=>h.elim
  | d + 1,t,hto,ht,hm=>by
    rw [show d+1+e=(d+e)+1 by omega]
    simp only [leastV]
    have n0:=fun x=>(leastT_le e d x).1
    simp only [leastT] at hm ⊢
    split
    · rename_i c1
      rw [size_leaf]
      rw [if_neg (by omega),if_neg (by omega),if_neg (by omega)]
      omega
    rename_i c1
    split
    · rename_i c4
      rw [size_leaf,if_neg (by omega),if_neg (by omega),if_neg (by omega)];omega
    rename_i c4
    split
    · rename_i c5
      rw [size_leaf,if_neg (by omega),if_neg (by omega),if_neg (by omega)];omega
    rename_i c5
    split
    · rename_i c8
      have hb:=ownT_bnd hto.1 (.inr (.inr c8)) (ownT_nowords hto.1 (by omega))
      have hl:=ownT_elem hto.1 c8
      have hz:sV (d+e+1) (.mk 8 0 0 ⟨#[]⟩ (List.replicate t.min.toNat (leastV d (t.elem.getD 0 default))) [])=1+t.min.toNat * sV (d+e) (leastV d (t.elem.getD 0 default)):=by
        simp [sV,kz,V.list,V.kind,sum_rep]
      rw [hz]
      have n1:=n0 (t.elem.getD 0 default)
      by_cases p:0<t.min
      · rw [if_pos p] at hm ⊢
        generalize hS:sV (d+e) (leastV d (t.elem.getD 0 default))=S
        obtain ⟨k,hk⟩:∃ k:Nat,t.min=k:=⟨t.min.toNat,by omega⟩
        have hL:leastT e d (t.elem.getD 0 default)≤t.min * leastT e d (t.elem.getD 0 default):=by
          have:=Int.mul_le_mul_of_nonneg_right (show 1≤t.min by omega) n1
          omega
        have ih:=leastV_size e d _ (Ty.ok_elem0 hto c8) (Ty.le_elem ht (i:=0) (by omega)) (by omega)
        rw [hS] at ih
        have h2:=Int.mul_le_mul_of_nonneg_left ih (show 0≤t.min by omega)
        rw [show t.min.toNat=k by omega,show ((1+k * S:Nat):Int)=1+t.min * S by rw [hk];simp]
        omega
      · rw [if_neg p] at hm ⊢
        have:t.min.toNat=0:=by omega
        rw [this,Nat.zero_mul];decide
    rename_i c8
    split
    · rename_i c10
      rw [if_pos c10] at hm
      have hf:=ownT_vs hto.1 c10
      have hmm:=gD (x:=(default:TF)) hf
      have n1:=n0 (fT (t.fields.getD 0 default))
      have ih:=leastV_size e d _ (hto.2.1 _ (by simp only [pS];rw [if_neg c8,if_pos (.inr c10)];exact List.mem_map_of_mem hmm)) (Ty.le_field ht hf) (by omega)
      have hz:sV (d+e+1) (.mk 10 0 0 (fM (t.fields.getD 0 default)) [leastV d (fT (t.fields.getD 0 default))] [])=1+sV (d+e) (leastV d (fT (t.fields.getD 0 default))):=by
        simp [sV,kz,V.list,V.kind]
      rw [hz]
      omega
    rename_i c10
    split
    · rename_i c9
      rw [if_neg c10,if_pos c9] at hm
      have hs:=size_rec (d+e) (leastL (leastV d) t.fields)
      have ns:=sumTo_nn (g:=fun i=>leastF e (leastT e d) (t.fields.getD i default)) (fun i=>leastF_nn n0 _) t.fields.length
      have:=leastL_size (c:=d+e) (e:=e) (f:=leastV d) (g:=leastT e d) (m:=4096) n0 t.fields (by omega)
        (fun x hx hq=>leastV_size e d _ (hto.2.1 _ (by simp only [pS];rw [if_neg c8,if_pos (.inl c9)];exact List.mem_map_of_mem hx)) (ht.2.2.2.2.2 x hx).2.2.2 hq)
        (fun x hx h3=>sizeV_any e (d+e) _ ((ht.2.2.2.2.2 x hx).2.2.1 _ (gD (ownT_def hto.1 c9 hx h3))))
      omega
    · rw [size_leaf];omega
abbrev FL:=List (ByteArray×V)
theorem Bytes_ok (s:ByteArray) (d:Nat):Af Tryz.prog 38 [.str fun _=>s] [] (encV (d+1) .new fun _=>mkV 5 0 0 s) []:=by
  (apply Af.of tF mF [.cell 2 33] kp38 [] Tryz.func38 (fun _=>?_);(any_goals ((with_reducible refine wI ?_);cbv;(try dsimp only [nc] at *);(repeat' (with_reducible first|exact aO|exact oN|refine oC ?_ ?_|refine VC.mk rfl ?_ ?_ ?_|(apply Ca.mk<;>intro _)|(apply Cv.mk<;>intro zq<;>(try simp only [nc,cl] at zq)<;>(try simp only [bl,dl] at zq)<;>(revert zq;intro _))|((first|apply xE|apply uE);cbv;(try dsimp only [nc] at *)))))))
  ((all_goals (try (with_reducible ((first|refine rE ?_|refine nE ?_);(focus (cbv;(try dsimp only [nc] at *);(try simp only [wl,nc]);(repeat' (with_reducible apply And.intro));all_goals (try exact wZ)))))));(all_goals (try ((with_reducible rw [aC]);(try simp only [wl,nc]);(repeat' (with_reducible apply And.intro));(all_goals (try exact cZ))))))
  all_goals rfl
def lstV (l:List V):V:=.mk 8 0 0 ⟨#[]⟩ l []
theorem List_ok (d:Nat) (l:List V) (hv:V.le (d+1) (lstV l)):Af Tryz.prog 143 [slcV d .any fun _=>l] [] (encV (d+1) .new fun _=>lstV l) []:=by
  (apply Af.of tF mF [.cell 2 33] kp143 [(1,[(2,(Clone_ok _ _ hv).out)])] Tryz.func143 (fun _=>?_);(any_goals ((with_reducible refine wI ?_);cbv;(try dsimp only [nc] at *);(repeat' (with_reducible first|exact aO|exact oN|refine oC ?_ ?_|refine VC.mk rfl ?_ ?_ ?_|(apply Ca.mk<;>intro _)|(apply Cv.mk<;>intro zq<;>(try simp only [nc,cl] at zq)<;>(try simp only [bl,dl] at zq)<;>(revert zq;intro _))|((first|apply xE|apply uE);cbv;(try dsimp only [nc] at *)))))))
  (any_goals ((with_reducible refine bZ ?_);(try dsimp only);(have q:=(Clone_ok _ _ hv);refine Af.wN q ?_;clear q);(focus (cbv;(try dsimp only [nc] at *);(try simp only [wl,nc]);(repeat' (with_reducible apply And.intro));all_goals (try exact wZ)))))
  ((all_goals (try (with_reducible ((first|refine rE ?_|refine nE ?_);(focus (cbv;(try dsimp only [nc] at *);(try simp only [wl,nc]);(repeat' (with_reducible apply And.intro));all_goals (try exact wZ)))))));(all_goals (try ((with_reducible rw [aC]);(try simp only [wl,nc]);(repeat' (with_reducible apply And.intro));(all_goals (try exact cZ))))))
theorem Variant_ok (d:Nat) (s:ByteArray) (v:V) (hs:s.size≤1073741824) (hv:V.le d v):Af Tryz.prog 49 [.str fun _=>s,encV d .any fun _=>v] [] (encV (d+1) .new fun _=>varV s v) []:=by
  have hle:=varV_le hs hv
  (apply Af.of tF mF [.cell 4 33] kp49 [(1,[(4,encV (d+1) .new fun _=>varV s v,[(1001000004,.arr false 33 6 0 (fun _=>1) fun _=>cells d .any fun _=>v)])])] Tryz.func49 (fun _=>?_);(any_goals ((with_reducible refine wI ?_);cbv;(try dsimp only [nc] at *);(repeat' (with_reducible first|exact aO|exact oN|refine oC ?_ ?_|refine VC.mk rfl ?_ ?_ ?_|(apply Ca.mk<;>intro _)|(apply Cv.mk<;>intro zq<;>(try simp only [nc,cl] at zq)<;>(try simp only [bl,dl] at zq)<;>(revert zq;intro _))|((first|apply xE|apply uE);cbv;(try dsimp only [nc] at *)))))))
  · refine nO ?_
    dsimp only
    refine Af.wN (args2:=[.agg [.int .i64 fun _=>10,.int .i64 fun _=>0,.int .i64 fun _=>0,.str fun _=>s,.aref 1001000004 0 fun _=>1,.nil]]) (objs2:=[(1001000004,.arr false 33 6 0 (fun _=>1) fun _=>cells d .any fun _=>v)])
      ((Clone_ok (d+1) (varV s v) hle).borrow ?_ (pure_cells _ _ _) (fun av h=>?_) (pure_cells _ _ _) (fresh_encV _ _)) ?_
    · (focus (cbv;(try dsimp only [nc] at *);(try simp only [wl,nc]);(repeat' (with_reducible apply And.intro));all_goals (try exact wZ)))
      intro i hi
      have:i=0:=by omega
      subst this
      exact LeL.of_eq rfl
    · simp at h;subst h
      exact nf_encV _ _
    · (focus (cbv;(try dsimp only [nc] at *);(try simp only [wl,nc]);(repeat' (with_reducible apply And.intro));all_goals (try exact wZ)))
      intro i hi
      have:i=0:=by omega
      subst this
      exact LeL.of_eq rfl
  ((all_goals (try (with_reducible ((first|refine rE ?_|refine nE ?_);(focus (cbv;(try dsimp only [nc] at *);(try simp only [wl,nc]);(repeat' (with_reducible apply And.intro));all_goals (try exact wZ)))))));(all_goals (try ((with_reducible rw [aC]);(try simp only [wl,nc]);(repeat' (with_reducible apply And.intro));(all_goals (try exact cZ))))))
theorem LeL.trans {a b c:List AV} (h:LeL a b) (k:LeL b c):LeL a c:=by
  refine ⟨h.1.trans k.1,fun z=>k.2.1 (h.2.1 z),fun w D B j av av' v h1 h2 hv=>?_⟩
  have hlt:j<b.length:=by rw [← h.1];exact (List.getElem?_eq_some_iff.1 h1).1
  exact k.2.2 w D B j _ av' v (List.getElem?_eq_getElem hlt) h2 (h.2.2 w D B j av _ v h1 (List.getElem?_eq_getElem hlt) hv)
theorem cells_mono {d:Nat} {v:V} (h:V.le d v):∀ {c:Nat},d≤c→LeL (cells d .any fun _=>v) (cells c .any fun _=>v)
  | 0, hc => by have:d=0:=by omega
                subst this;exact LeL.of_eq rfl
  | c+1,hc=>by
    by_cases q:d=c+1
    · subst q;exact LeL.of_eq rfl
    · exact (cells_mono h (c:=c) (by omega)).trans (cells_up c (fun _=>v) (V.le_mono h (by omega)))
theorem new_mono {d c:Nat} {v:V} (h:V.le d v) (hc:d≤c):LeL (cells d .new fun _=>v) (cells c .any fun _=>v):=(le_cells d _).trans (cells_mono h hc)
theorem LeL.cons {l m:List AV} (h:LeL l m) (a:AV):LeL (a :: l) (a :: m):=by
  refine ⟨by simp [h.1],fun z=>?_,fun w D B j av av' v h1 h2 hv=>?_⟩
  · simp only [List.all_cons,Bool.and_eq_true] at z ⊢
    exact ⟨z.1,h.2.1 z.2⟩
  · cases j with
    | zero=>simp at h1 h2;subst h1;subst h2;exact hv
    | succ j=>exact h.2.2 w D B j av av' v (by simpa using h1) (by simpa using h2) hv
theorem clone_up {e c:Nat} {z:V} (hz:V.le e z) (hc:e≤c):Af Tryz.prog 79 [encV e .any fun _=>z] [] (encV c .any fun _=>z) []:=by
  obtain ⟨e,rfl⟩:=V.lP hz
  obtain ⟨c,rfl⟩:∃ k,c=k+1:=⟨c - 1,by omega⟩
  refine (Clone_ok _ z hz).weak_out ?_
  (focus (cbv;(try dsimp only [nc] at *);(try simp only [wl,nc]);(repeat' (with_reducible apply And.intro));all_goals (try exact wZ)))
  · exact fun i hi=>new_mono (V.le_list hz hi) (by omega)
  · exact fun i hi=>(new_mono (V.le_field hz hi) (by omega)).cons _
theorem any_of {P:Program} {f:FuncId} {args:List AV} {d:Nat} {v:V} (h:Af P f args [] (encV (d+1) .new fun _=>v) []):Af P f args [] (encV (d+1) .any fun _=>v) []:=by
  refine h.weak_out ?_
  (focus (cbv;(try dsimp only [nc] at *);(try simp only [wl,nc]);(repeat' (with_reducible apply And.intro));all_goals (try exact wZ)))
  · exact fun i _=>le_cells d fun _=>v.list.getD i default
  · exact fun i _=>(le_cells d fun _=>(v.fields.getD i default).2).cons _
theorem List_own (d:Nat) (l:List V) (hv:V.le (d+1) (lstV l)) (x:Bool) (k:Nat) :
    Af Tryz.prog 143 [.aref 1000 k fun _=>l.length] [(1000,.arr x 33 6 k (fun _=>l.length) (listF d .any fun _=>l))] (encV (d+1) .new fun _=>lstV l) [(1000,.arr x 33 6 k (fun _=>l.length) (listF d .any fun _=>l))]:=by
  refine (List_ok d l hv).borrow ?_ (by simp [slcV,AV.pureL]) (fun av h=>?_) (pure_cells _ _ _) (fresh_encV _ _)
  · (focus (cbv;(try dsimp only [nc] at *);(try simp only [wl,nc]);(repeat' (with_reducible apply And.intro));all_goals (try exact wZ)))
    try exact fun i _=>LeL.of_eq rfl
  · simp at h;subst h
    exact .slc fun i _ av h=>nf_cells d _ av h
end Go.Ai
