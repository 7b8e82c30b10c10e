/- Chapter 10: what is written. -/
import Derived.Test.YtlplmdipoacnlaaGreatDoorTyF
import Derived.Test.YtlplmdipoacnlaaGreatDoorNum
import Derived.Test.YtlplmdipoacnlaaGreatDoorMap
import Derived.Test.YtlplmdipoacnlaaGreatDoorSrtT
set_option linter.all false
namespace Go.Ai
open Go Go.Proofs
set_option maxRecDepth 100000
set_option maxHeartbeats 4000000
theorem Af.nil_arg {P:Program} {f:FuncId} {args:List AV} {res:AV} {objs':List (Nat×AO)} {t sz:Nat} {g:(Unit→Nat)→List AV} (h:Af P f (.aref 1000 0 (fun _=>0) :: args) [(1000,.arr false t sz 0 (fun _=>0) g)] res objs') (hp:AV.pureL args=true) :
    Af P f (.nil :: args) [] res objs':=by
  refine ⟨h.ent,fun E β vs hpin hdf hY h0=>?_⟩
  let β1:Nat→Value:=fun o=>if o=1000 then .slice none 0 0 else β o
  have hβ1:β1 1000=.slice none 0 0:=if_pos rfl
  have hH:∀ o,(oL [(1000,AO.arr false t sz 0 (fun _=>0) g)] o).is→o=1000:=fun o hi=>by
    simp only [oL] at hi
    split at hi
    · omega
    · exact hi.elim
  have hD:∀ b,E.D E.w0 β (oL []) b→E.D E.w0 β1 (oL [(1000,.arr false t sz 0 (fun _=>0) g)]) b:=fun b hb =>
    ⟨hb.1,hb.2.1,fun o hi=>by rw [hH o hi,hβ1];simp [blkOf]⟩
  have h1:RelB E (.aref 1000 0 (fun _=>0) :: args) (oL [(1000,.arr false t sz 0 (fun _=>0) g)]) ⟨vs,[]⟩ E.w0 β1:=by
    refine ⟨h0.defers,h0.size,fun k av hk=>?_,fun o=>?_,fun o o' b hne hi hi'=>absurd ((hH o hi).trans (hH o' hi').symm) hne,h0.frame,fun o v n0 q=>by rw [hpin o] at q;cases q⟩
    · cases k with
      | zero =>
        simp only [List.getElem?_cons_zero,Option.some.injEq] at hk
        subst hk
        have:=(h0.tmps 0 .nil rfl).nil_inv
        rw [this]
        refine .aref _ _ _ _ (.inl ⟨rfl,rfl⟩) fun x t' sz' ver' n' f' q=>?_
        simp only [oL] at q
        cases q
        exact ⟨Nat.le_refl _,fun _=>⟨rfl,hβ1.symm⟩⟩
      | succ k =>
        have hk2:args[k]? = some av:=hk
        exact .d (((h0.tmps (k+1) av hk).pure (pureL_get hp k av hk2)).mono (fun _ _=>rfl) hD (Nat.le_refl _))
    · by_cases ho:o=1000
      · subst ho
        exact .inl ⟨hβ1,rfl⟩
      · have:oL [(1000,AO.arr false t sz 0 (fun _=>0) g)] o=.none:=by simp only [oL];rw [if_neg (fun q=>ho q.symm)]
        rw [this];trivial
  refine (h.calls E β1 vs hpin hdf hY h1).mono fun e w' ⟨v,β',he,hr,_⟩=>⟨v,β',he,hr,fun o hi=>hi.elim⟩
def strN (s:ByteArray):List Nat:=s.data.toList.map UInt8.toNat
theorem sN (s:ByteArray):(strN s).length=s.size:=by simp [strN]
theorem baL_strN (s:ByteArray):baL (strN s)=s:=by
  have:(baL (strN s)).data=s.data:=by simp [baL,strN,Function.comp_def]
  exact congrArg ByteArray.mk this
theorem byt_strN (s:ByteArray) (k:Nat):(((s.data[k]?).getD 0).toNat:Int)=((strN s).getD k 0:Nat):=by
  simp only [strN,List.getD_eq_getElem?_getD,List.getElem?_map,Array.getElem?_toList]
  cases s.data[k]? <;> rfl
theorem bytF_cat {l m:List Nat} {n:Unit→Nat} {g:(Unit→Nat)→List AV} (hn:n ()=l.length) (hg:∀ k,k<m.length→LeL (g fun _=>k) (bytF m fun _=>k)) :
    ∀ k,k<l.length+m.length→LeL (catF n (bytF l) g fun _=>k) (bytF (l++m) fun _=>k):=fun k hk=>by
  simp only [catF,hn]
  split
  · rename_i h
    show LeL [AV.int .u8 fun _=>((l.getD k 0:Nat):Int)] [AV.int .u8 fun _=>(((l++m).getD k 0:Nat):Int)]
    have:(l++m).getD k 0=l.getD k 0:=by rw [List.getD_eq_getElem?_getD,List.getElem?_append_left h,List.getD_eq_getElem?_getD]
    rw [this];exact LeL.of_eq rfl
  · rename_i h
    have h2:=hg (k - l.length) (by omega)
    have:(bytF (l++m) fun _=>k)=bytF m fun _=>k - l.length:=by
      show [AV.int .u8 fun _=>(((l++m).getD k 0:Nat):Int)]=[AV.int .u8 fun _=>((m.getD (k - l.length) 0:Nat):Int)]
      rw [List.getD_eq_getElem?_getD,List.getElem?_append_right (by omega),List.getD_eq_getElem?_getD]
    rw [this];exact h2
def outO (l:List Nat) (ver:Nat):List (Nat×AO):=[(1000,.arr false 5 1 ver (fun _=>l.length) (bytF l))]
def WrOK (f e d c:Nat) (t:Ty) (v:V) (q:List Nat):Prop :=
  ∀ l r:List Nat,r=l++q→r.length≤35184372000000→Af Tryz.prog f [.aref 1000 0 (fun _=>l.length),encT e d .any fun _=>t,encV c .any fun _=>v] (outO l 0) (.aref 1000 1 fun _=>r.length) (outO r 1)
theorem w_bool (e d c:Nat) (t:Ty) (v:V) (n:Nat) (hn:v.int=n) (h:n<256):WrOK 92 e d c t v [n]:=fun l r hr hl=>by
  have hrl:r.length=l.length+1:=by rw [hr];simp
  (apply Af.of tF mF [.tmp 6] kp92 [(0,[(0,.nil,[]),(1,.nil,[])])] Tryz.func92 (fun _=>?_);(any_goals ((with_reducible refine wI ?_);cbv;(try dsimp only [nc] at *);(repeat' (with_reducible first|exact aO|exact oN|refine oC ?_ ?_|refine VC.mk rfl ?_ ?_ ?_|(apply Ca.mk<;>intro _)|(apply Cv.mk<;>intro zq<;>(try simp only [nc,cl] at zq)<;>(try simp only [bl,dl] at zq)<;>(revert zq;intro _))|((first|apply xE|apply uE);cbv;(try dsimp only [nc] at *)))))))
  ((all_goals (try (with_reducible ((first|refine rE ?_|refine nE ?_);(focus (cbv;(try dsimp only [nc] at *);(try simp only [wl,nc]);(repeat' (with_reducible apply And.intro));all_goals (try exact wZ)))))));(all_goals (try ((with_reducible rw [aC]);(try simp only [wl,nc]);(repeat' (with_reducible apply And.intro));(all_goals (try exact cZ))))))
  all_goals (try exact hrl.symm)
  rw [hr,hn]
  have hu:IntKind.u8.wrap (n:Int)=n:=u8 (by omega) (by omega)
  rw [hu]
  exact fun k hk=>bytF_app (n:=fun _=>l.length) rfl (LeL.of_eq rfl) k hk
theorem w_int (e d c:Nat) (t:Ty) (v:V) (h1 : -2305843009213693952≤v.int) (h2:v.int<2305843009213693952):WrOK 90 e d c t v (putN (zigI v.int).toNat):=fun l r hr hl=>by
  obtain ⟨m,hm⟩:∃ m:Nat,zigI v.int=m:=⟨(zigI v.int).toNat,by simp only [zigI];omega⟩
  have hm2:m<4611686018427387904:=by simp only [zigI] at hm;omega
  rw [hm,Int.toNat_natCast] at hr
  have hl0:l.length≤35184372000000:=by rw [hr,List.length_append] at hl;omega
  have hz:=zigzag_ok v.int h1 h2
  rw [hm] at hz
  (apply Af.of tF mF [.tmp 6] kp90 [(0,[(0,.nil,[]),(1,.nil,[])]),(1,[(3,.int .i64 fun _=>m,[]),(4,.aref 1000 1 fun _=>r.length,outO r 1)])] Tryz.func90 (fun _=>?_);(any_goals ((with_reducible refine wI ?_);cbv;(try dsimp only [nc] at *);(repeat' (with_reducible first|exact aO|exact oN|refine oC ?_ ?_|refine VC.mk rfl ?_ ?_ ?_|(apply Ca.mk<;>intro _)|(apply Cv.mk<;>intro zq<;>(try simp only [nc,cl] at zq)<;>(try simp only [bl,dl] at zq)<;>(revert zq;intro _))|((first|apply xE|apply uE);cbv;(try dsimp only [nc] at *)))))))
  (any_goals ((with_reducible refine bZ ?_)<;>exact hz))
  (any_goals ((with_reducible refine bZ ?_)<;>exact (put_false l m (by omega) hl0 r hr)))
  (all_goals (try exact eZ))
theorem w_text (e d c:Nat) (t:Ty) (v:V) (hs:v.text.size≤1073741824):WrOK 91 e d c t v (putN v.text.size++strN v.text):=fun l r hr hl=>by
  obtain ⟨q,hq⟩:∃ q,q=l++putN v.text.size:=⟨_,rfl⟩
  have hr2:r=q++strN v.text:=by rw [hr,hq,List.append_assoc]
  have hl2:q.length+v.text.size≤35184372000000:=by rw [hr2,List.length_append,sN] at hl;exact hl
  have hl0:l.length≤35184372000000:=by have:=congrArg List.length hq;rw [List.length_append] at this;omega
  have hrl:r.length=q.length+v.text.size:=by rw [hr2,List.length_append,sN]
  (apply Af.of tF mF [.tmp 6] kp91 [(0,[(0,.nil,[]),(1,.nil,[])]),(1,[(4,.aref 1000 1 fun _=>q.length,outO q 1)])] Tryz.func91 (fun _=>?_);(any_goals ((with_reducible refine wI ?_);cbv;(try dsimp only [nc] at *);(repeat' (with_reducible first|exact aO|exact oN|refine oC ?_ ?_|refine VC.mk rfl ?_ ?_ ?_|(apply Ca.mk<;>intro _)|(apply Cv.mk<;>intro zq<;>(try simp only [nc,cl] at zq)<;>(try simp only [bl,dl] at zq)<;>(revert zq;intro _))|((first|apply xE|apply uE);cbv;(try dsimp only [nc] at *)))))))
  (any_goals ((with_reducible refine bZ ?_)<;>exact (put_false l v.text.size (by omega) hl0 q hq)))
  ((all_goals (try (with_reducible ((first|refine rE ?_|refine nE ?_);(focus (cbv;(try dsimp only [nc] at *);(try simp only [wl,nc]);(repeat' (with_reducible apply And.intro));all_goals (try exact wZ)))))));(all_goals (try ((with_reducible rw [aC]);(try simp only [wl,nc]);(repeat' (with_reducible apply And.intro));(all_goals (try exact cZ))))))
  all_goals (try exact hrl.symm)
  rw [hr2,← sN]
  refine bytF_cat rfl fun k hk=>?_
  show LeL [AV.int .u8 fun _=>(((v.text.data[k]?).getD 0).toNat:Int)] [AV.int .u8 fun _=>(((strN v.text).getD k 0:Nat):Int)]
  rw [byt_strN];exact LeL.of_eq rfl
def wholeN (q:List Nat):List Nat:=putN q.length++q
def cT (g:Nat→List Nat):Nat→List Nat
  | 0=>[]
  | i+1=>cT g i++g i
theorem concatTo_le {g:Nat→List Nat} {n:Nat}:∀ i,i≤n→(cT g i).length≤(cT g n).length:=by
  induction n with
  | zero=>intro i hi;rw [Nat.le_zero.1 hi];exact Nat.le_refl _
  | succ n ih =>
    intro i hi
    rcases Nat.lt_or_ge n i with q|q
    · rw [show i=n+1 by omega];exact Nat.le_refl _
    · have:=ih i q
      simp only [cT,List.length_append];omega
theorem WrOK.nil {f e d c:Nat} {t:Ty} {v:V} {q:List Nat} (h:WrOK f e d c t v q) (hq:q.length≤35184372000000) :
    Af Tryz.prog f [.nil,encT e d .any fun _=>t,encV c .any fun _=>v] [] (.aref 1000 1 fun _=>q.length) (outO q 1):=Af.nil_arg (args:=[encT e d .any fun _=>t,encV c .any fun _=>v]) (h [] q rfl hq) (by simp [AV.pureL,encT,cl',cellsTG,encV,cells,cellsG])
theorem w_whole (e d c:Nat) (t:Ty) (v:V) (q:List Nat) (hW:WrOK 42 e d c t v q):WrOK 97 e d c t v (wholeN q):=fun l r hr hl=>by
  obtain ⟨r1,hr1⟩:∃ r1,r1=l++putN q.length:=⟨_,rfl⟩
  have hr2:r=r1++q:=by rw [hr,hr1,wholeN,List.append_assoc]
  have hrl:r.length=r1.length+q.length:=by rw [hr2,List.length_append]
  have hl0:l.length≤r1.length:=by rw [hr1,List.length_append];omega
  have hWn:=hW.nil (by omega)
  (apply Af.of tF mF [.tmp 6] kp97 [(0,[(0,.nil,[]),(1,.nil,[])]),(1,[(2,.aref 1000 1 fun _=>q.length,outO q 1)]),(2,[(3,.aref 1000 1 fun _=>r1.length,outO r1 1)])] Tryz.func97 (fun _=>?_);(any_goals ((with_reducible refine wI ?_);cbv;(try dsimp only [nc] at *);(repeat' (with_reducible first|exact aO|exact oN|refine oC ?_ ?_|refine VC.mk rfl ?_ ?_ ?_|(apply Ca.mk<;>intro _)|(apply Cv.mk<;>intro zq<;>(try simp only [nc,cl] at zq)<;>(try simp only [bl,dl] at zq)<;>(revert zq;intro _))|((first|apply xE|apply uE);cbv;(try dsimp only [nc] at *)))))))
  (any_goals ((with_reducible refine bZ ?_)<;>exact hWn))
  (any_goals ((with_reducible refine bZ ?_)<;>exact (put_false l q.length (by omega) (by omega) r1 hr1)))
  ((all_goals (try (with_reducible ((first|refine rE ?_|refine nE ?_);(focus (cbv;(try dsimp only [nc] at *);(try simp only [wl,nc]);(repeat' (with_reducible apply And.intro));all_goals (try exact wZ)))))));(all_goals (try ((with_reducible rw [aC]);(try simp only [wl,nc]);(repeat' (with_reducible apply And.intro));(all_goals (try exact cZ))))))
  all_goals (try exact hrl.symm)
  rw [hr2]
  exact fun k hk=>bytF_cat (n:=fun _=>r1.length) rfl (fun k hk=>LeL.of_eq rfl) k hk
theorem w_list (e d c:Nat) (t:Ty) (v:V) (hn:v.list.length≤1073741824) (h1:0<t.elem.length) (g:Nat→List Nat)
    (ih:∀ i,i<v.list.length→WrOK 42 e d c (t.elem.getD 0 default) (v.list.getD i default) (g i)):WrOK 93 e (d+1) (c+1) t v (putN v.list.length++cT g v.list.length):=fun l r hr hl=>by
  obtain ⟨r1,hr1⟩:∃ r1,r1=l++putN v.list.length:=⟨_,rfl⟩
  have hr2:r=r1++cT g v.list.length:=by rw [hr,hr1,List.append_assoc]
  have hl0:l.length≤r1.length:=by rw [hr1,List.length_append];omega
  have hrl:r.length=r1.length+(cT g v.list.length).length:=by rw [hr2,List.length_append]
  (apply Af.of tF mF [.tmp 6] kp93 [(0,[(0,.nil,[]),(1,.nil,[])]),(1,[(4,.aref 1000 1 fun _=>r1.length,outO r1 1)])] Tryz.func93 (fun _=>?_);(any_goals ((with_reducible refine wI ?_);cbv;(try dsimp only [nc] at *);(repeat' (with_reducible first|exact aO|exact oN|refine oC ?_ ?_|refine VC.mk rfl ?_ ?_ ?_|(apply Ca.mk<;>intro _)|(apply Cv.mk<;>intro zq<;>(try simp only [nc,cl] at zq)<;>(try simp only [bl,dl] at zq)<;>(revert zq;intro _))|((first|apply xE|apply uE);cbv;(try dsimp only [nc] at *)))))))
  (any_goals ((with_reducible refine bZ ?_)<;>exact (put_false l v.list.length (by omega) (by omega) r1 hr1)))
  ((all_goals (try (with_reducible ((first|refine rE ?_|refine nE ?_);(focus (cbv;(try dsimp only [nc] at *);(try simp only [wl,nc]);(repeat' (with_reducible apply And.intro));all_goals (try exact wZ)))))));(all_goals (try ((with_reducible rw [aC]);(try simp only [wl,nc]);(repeat' (with_reducible apply And.intro));(all_goals (try exact cZ))))))
  refine .loop (fun i:Nat=>⟨30,[(17,.int .i64 fun _=>i),(16,.int .i64 fun _=>v.list.length),(15,slcV c .any fun _=>v.list),(0,.aref 1000 1 fun _=>(r1++cT g i).length),(4,boxT e (d+1) fun _=>t)],[(1000,.arr false 5 1 1 (fun _=>(r1++cT g i).length) (bytF (r1++cT g i)))]⟩)
    (fun i=>i≤v.list.length) (fun i=>v.list.length - i) 0 (by simp) ?_ fun i E hi=>?_
  · simp only [cT,List.append_nil]
    (focus (cbv;(try dsimp only [nc] at *);(try simp only [wl,nc]);(repeat' (with_reducible apply And.intro));all_goals (try exact wZ)))
  by_cases h:i<v.list.length
  · obtain ⟨a,ha⟩:∃ a,a=r1++cT g i:=⟨_,rfl⟩
    obtain ⟨b,hb⟩:∃ b,b=r1++cT g (i+1):=⟨_,rfl⟩
    have hab:b=a++g i:=by rw [hb,ha,cT,List.append_assoc]
    have hbl:b.length≤35184372000000:=by
      have:=concatTo_le (g:=g) (i+1) (show i+1≤v.list.length by omega)
      rw [hb,List.length_append];omega
    rw [← ha]
    apply AWp.wk tF mF [(5,[(6,.aref 1000 1 fun _=>b.length,outO b 1)])] kp93 ?_
    (any_goals ((with_reducible refine wI ?_);cbv;(try dsimp only [nc] at *);(repeat' (with_reducible first|exact aO|exact oN|refine oC ?_ ?_|refine VC.mk rfl ?_ ?_ ?_|(apply Ca.mk<;>intro _)|(apply Cv.mk<;>intro zq<;>(try simp only [nc,cl] at zq)<;>(try simp only [bl,dl] at zq)<;>(revert zq;intro _))|((first|apply xE|apply uE);cbv;(try dsimp only [nc] at *))))))
    all_goals (try exact absurd h (Nat.not_lt.2 ‹v.list.length≤i›))
    all_goals (try simp only [Int.toNat_natCast])
    (any_goals ((with_reducible refine bZ ?_);(try dsimp only);(have q:=(ih i h a b hab hbl);refine Af.wN q ?_;clear q);(focus (cbv;(try dsimp only [nc] at *);(try simp only [wl,nc]);(repeat' (with_reducible apply And.intro));all_goals (try exact wZ)))))
    ((all_goals (try (with_reducible ((first|refine rE ?_|refine nE ?_);(focus (cbv;(try dsimp only [nc] at *);(try simp only [wl,nc]);(repeat' (with_reducible apply And.intro));all_goals (try exact wZ)))))));(all_goals (try ((with_reducible rw [aC]);(try simp only [wl,nc]);(repeat' (with_reducible apply And.intro));(all_goals (try exact cZ))))))
    refine dE (i+1) ⟨by omega,by omega⟩ ?_
    rw [← hb]
    (focus (cbv;(try dsimp only [nc] at *);(try simp only [wl,nc]);(repeat' (with_reducible apply And.intro));all_goals (try exact wZ)))
    exact w64n (by omega)
  · have hie:i=v.list.length:=by omega
    subst hie
    rw [← hr2]
    apply AWp.wk tF mF [(5,[(6,.nil,[])])] kp93 ?_
    (any_goals ((with_reducible refine wI ?_);cbv;(try dsimp only [nc] at *);(repeat' (with_reducible first|exact aO|exact oN|refine oC ?_ ?_|refine VC.mk rfl ?_ ?_ ?_|(apply Ca.mk<;>intro _)|(apply Cv.mk<;>intro zq<;>(try simp only [nc,cl] at zq)<;>(try simp only [bl,dl] at zq)<;>(revert zq;intro _))|((first|apply xE|apply uE);cbv;(try dsimp only [nc] at *))))))
    all_goals (try exact absurd ‹v.list.length<v.list.length› h)
    ((all_goals (try (with_reducible ((first|refine rE ?_|refine nE ?_);(focus (cbv;(try dsimp only [nc] at *);(try simp only [wl,nc]);(repeat' (with_reducible apply And.intro));all_goals (try exact wZ)))))));(all_goals (try ((with_reducible rw [aC]);(try simp only [wl,nc]);(repeat' (with_reducible apply And.intro));(all_goals (try exact cZ))))))
theorem w_var (e d c:Nat) (t:Ty) (v:V) (hk:t.kind=10) (ht:Ty.le e (d+1) t) (h1:0<v.list.length) (hf:0≤iI (bQ v.text) t.fields) (n:Nat) (hn:fNum (gT t (bQ v.text))=n) (hn2:n<1073741824) (q:List Nat)
    (ih:WrOK 97 e d c (fT (gT t (bQ v.text))) (v.list.getD 0 default) q):WrOK 95 e (d+1) (c+1) t v (putN n++q):=fun l r hr hl=>by
  obtain ⟨r1,hr1⟩:∃ r1,r1=l++putN n:=⟨_,rfl⟩
  obtain ⟨f,hf2⟩:∃ f,f=gT t (bQ v.text):=⟨_,rfl⟩
  have hr2:r=r1++q:=by rw [hr,hr1,List.append_assoc]
  have hl0:l.length≤r1.length:=by rw [hr1,List.length_append];omega
  have hrl:r.length=r1.length+q.length:=by rw [hr2,List.length_append]
  have hF:=FieldT_yes e d t ht v.text ⟨.inr hk,hf⟩
  rw [← hf2] at hF ih hn
  have hp:=put_false l n (by omega) (by omega) r1 hr1
  rw [← hn] at hp
  (apply Af.of tF mF [.tmp 6] kp95 [(0,[(0,.nil,[]),(1,.nil,[])]),(1,[(3,.tup [encTF e d .any fun _=>f,.bool fun _=>true],[])]),(2,[(3,.aref 1000 1 fun _=>r1.length,outO r1 1),(10,.aref 1000 1 fun _=>r.length,outO r 1)])] Tryz.func95 (fun _=>?_);(any_goals ((with_reducible refine wI ?_);cbv;(try dsimp only [nc] at *);(repeat' (with_reducible first|exact aO|exact oN|refine oC ?_ ?_|refine VC.mk rfl ?_ ?_ ?_|(apply Ca.mk<;>intro _)|(apply Cv.mk<;>intro zq<;>(try simp only [nc,cl] at zq)<;>(try simp only [bl,dl] at zq)<;>(revert zq;intro _))|((first|apply xE|apply uE);cbv;(try dsimp only [nc] at *)))))))
  (any_goals ((with_reducible refine bZ ?_)<;>exact hF))
  (any_goals ((with_reducible refine bZ ?_)<;>exact hp))
  (any_goals ((with_reducible refine bZ ?_)<;>exact (ih r1 r hr2 hl)))
  (all_goals (try exact eZ))
theorem cloneTFs_ok (e d:Nat) (l:List TF) (hl:l.length≤1073741824):Af Tryz.prog 135 [slcTF e d .any fun _=>l] [] (.aref 5 1 fun _=>l.length) [(5,.arr false 70 11 1 (fun _=>l.length) (rowsTF e d fun _=>l))]:=by
  (apply Af.of tF mF [.tmp 2] kp135 [] Tryz.func135 (fun _=>?_);(any_goals ((with_reducible refine wI ?_);cbv;(try dsimp only [nc] at *);(repeat' (with_reducible first|exact aO|exact oN|refine oC ?_ ?_|refine VC.mk rfl ?_ ?_ ?_|(apply Ca.mk<;>intro _)|(apply Cv.mk<;>intro zq<;>(try simp only [nc,cl] at zq)<;>(try simp only [bl,dl] at zq)<;>(revert zq;intro _))|((first|apply xE|apply uE);cbv;(try dsimp only [nc] at *)))))))
  (all_goals (try exact eZ))
theorem ownT_nodup {t:Ty} (h:ownT t=0) (hk:t.kind=9∨t.kind=10):(t.fields.map fNum).Nodup∧(t.fields.map fM).Nodup:=by
  have key:∀ i j,i<j→∀ (hi:i<t.fields.length) (hj:j<t.fields.length),fM t.fields[i]≠fM t.fields[j]∧fNum t.fields[i]≠fNum t.fields[j]:=fun i j hij hi hj=>by
    have h1:=ownT_field h hk hj
    simp only [fieldE,fldE,List.getD_eq_getElem?_getD,List.getElem?_eq_getElem hj,Option.getD_some] at h1
    have h2:dupB t.fields j t.fields[j]=false:=by grind
    simp only [dupB,List.any_eq_false] at h2
    have h3:=h2 t.fields[i] (List.mem_take_iff_getElem.2 ⟨i,by omega,rfl⟩)
    simp at h3
    exact h3
  constructor
  · rw [List.Nodup,List.pairwise_map,List.pairwise_iff_getElem]
    exact fun i j hi hj hij=>(key i j hij hi hj).2
  · rw [List.Nodup,List.pairwise_map,List.pairwise_iff_getElem]
    exact fun i j hi hj hij=>(key i j hij hi hj).1
theorem ownT_num {t:Ty} (h:ownT t=0) (hk:t.kind=9∨t.kind=10) {f:TF} (hf:f ∈ t.fields):1≤fNum f∧fNum f≤9999:=by
  obtain ⟨j,hj,hjf⟩:=List.getElem_of_mem hf
  have h1:=ownT_field h hk hj
  simp only [fieldE,fldE,List.getD_eq_getElem?_getD,List.getElem?_eq_getElem hj,hjf,Option.getD_some] at h1
  grind
theorem sortT_mem {l:List TF} {x:TF}:x ∈ sortT l↔x ∈ l:=by unfold sortT;exact List.mem_mergeSort
def fldN (v:V) (q:TF→List Nat) (f:TF):List Nat:=if hasF v (fM f) then putN (fNum f).toNat++q f else []
theorem le_sub (d:Nat) (v:Unit→V) (b:Bool) (i:Nat):LeL (sub d .new v b fun _=>i) (sub d .any v b fun _=>i):=by
  cases d with
  | zero=>exact LeL.of_eq rfl
  | succ d =>
    cases b with
    | true=>exact le_cells d fun _=>(v ()).list.getD i default
    | false =>
      obtain ⟨h1,h2,h3⟩:=le_cells d fun _=>((v ()).fields.getD i default).2
      refine ⟨congrArg Nat.succ h1,fun _=>rfl,fun w D B j av av' u g1 g2 h=>?_⟩
      cases j with
      | zero =>
        have e1:av=.str fun _=>((v ()).fields.getD i default).1:=(Option.some.inj g1).symm
        have e2:av'=.str fun _=>((v ()).fields.getD i default).1:=(Option.some.inj g2).symm
        rw [e2,← e1];exact h
      | succ j=>exact h3 w D B j av av' u g1 g2 h
theorem w_rec (e d c:Nat) (t:Ty) (v:V) (hk:t.kind=9) (ht:Ty.le e (d+1) t) (hown:ownT t=0) (hv:V.le (c+1) v) (q:TF→List Nat)
    (ih:∀ f ∈ t.fields,hasF v (fM f)→WrOK 97 e d c (fT f) (fieldV v (fM f)) (q f)) :
    WrOK 94 e (d+1) (c+1) t v (putN v.fields.length++cT (fun i=>fldN v q ((sortT t.fields).getD i default)) t.fields.length):=fun l r hr hl=>by
  obtain ⟨g,hg⟩:∃ g,g=fun i=>fldN v q ((sortT t.fields).getD i default):=⟨_,rfl⟩
  rw [← hg] at hr
  obtain ⟨r1,hr1⟩:∃ r1,r1=l++putN v.fields.length:=⟨_,rfl⟩
  have hr2:r=r1++cT g t.fields.length:=by rw [hr,hr1,List.append_assoc]
  have hl0:l.length≤r1.length:=by rw [hr1,List.length_append];omega
  have hrl:r.length=r1.length+(cT g t.fields.length).length:=by rw [hr2,List.length_append]
  have hlf:=ht.2.2.2.1
  have hvl:=hv.2.1
  obtain ⟨s,hs⟩:∃ s,s=sortT t.fields:=⟨_,rfl⟩
  have hsl:s.length=t.fields.length:=by rw [hs,sortT_len]
  have hS:=SortT_ok e d false t.fields hlf (ownT_nodup hown (.inl hk)).1
  rw [← hs] at hS
  (apply Af.of tF mF [.tmp 6] kp94 [(0,[(0,.nil,[]),(1,.nil,[])]),(1,[(4,.aref 1000 1 fun _=>r1.length,outO r1 1)]),(2,[(2,.aref 5 1 fun _=>t.fields.length,[(5,.arr false 70 11 1 (fun _=>t.fields.length) (rowsTF e d fun _=>t.fields))])]),
    (3,[(1,.tup [],[(1000,.arr false 70 11 0 (fun _=>t.fields.length) (rowsTF e d fun _=>s))])])] Tryz.func94 (fun _=>?_);(any_goals ((with_reducible refine wI ?_);cbv;(try dsimp only [nc] at *);(repeat' (with_reducible first|exact aO|exact oN|refine oC ?_ ?_|refine VC.mk rfl ?_ ?_ ?_|(apply Ca.mk<;>intro _)|(apply Cv.mk<;>intro zq<;>(try simp only [nc,cl] at zq)<;>(try simp only [bl,dl] at zq)<;>(revert zq;intro _))|((first|apply xE|apply uE);cbv;(try dsimp only [nc] at *)))))))
  (any_goals ((with_reducible refine bZ ?_)<;>exact (put_false l v.fields.length (by omega) (by omega) r1 hr1)))
  (any_goals ((with_reducible refine bZ ?_);(try dsimp only);(have q:=(cloneTFs_ok e d t.fields hlf);refine Af.wN q ?_;clear q);(focus (cbv;(try dsimp only [nc] at *);(try simp only [wl,nc]);(repeat' (with_reducible apply And.intro));all_goals (try exact wZ)))))
  (any_goals ((with_reducible refine bZ ?_);(try dsimp only);(have q:=hS;refine Af.wN q ?_;clear q);(focus (cbv;(try dsimp only [nc] at *);(try simp only [wl,nc]);(repeat' (with_reducible apply And.intro));all_goals (try exact wZ)))))
  ((all_goals (try (with_reducible ((first|refine rE ?_|refine nE ?_);(focus (cbv;(try dsimp only [nc] at *);(try simp only [wl,nc]);(repeat' (with_reducible apply And.intro));all_goals (try exact wZ)))))));(all_goals (try ((with_reducible rw [aC]);(try simp only [wl,nc]);(repeat' (with_reducible apply And.intro));(all_goals (try exact cZ))))))
  refine .loop (fun i:Nat=>⟨46,[(24,.int .i64 fun _=>i),(23,.int .i64 fun _=>t.fields.length),(22,.aref 200005 1 fun _=>t.fields.length),(0,.aref 1000 1 fun _=>(r1++cT g i).length),(5,boxW (c+1) fun _=>v)],
      [(1000,.arr false 5 1 1 (fun _=>(r1++cT g i).length) (bytF (r1++cT g i))),(200005,.arr false 70 11 1 (fun _=>t.fields.length) (rowsTF e d fun _=>s))]⟩)
    (fun i=>i≤t.fields.length) (fun i=>t.fields.length - i) 0 (by simp) ?_ fun i E hi=>?_
  · simp only [cT,List.append_nil]
    (focus (cbv;(try dsimp only [nc] at *);(try simp only [wl,nc]);(repeat' (with_reducible apply And.intro));all_goals (try exact wZ)))
  obtain ⟨a,ha⟩:∃ a,a=r1++cT g i:=⟨_,rfl⟩
  by_cases h:i<t.fields.length
  · obtain ⟨b,hb⟩:∃ b,b=r1++cT g (i+1):=⟨_,rfl⟩
    have hab:b=a++g i:=by rw [hb,ha,cT,List.append_assoc]
    have hbl:b.length≤35184372000000:=by
      have:=concatTo_le (g:=g) (i+1) (show i+1≤t.fields.length by omega)
      rw [hb,List.length_append];omega
    rw [← ha]
    obtain ⟨f,hf⟩:∃ f,f=s.getD i default:=⟨_,rfl⟩
    have hfm:f ∈ t.fields:=by
      rw [← sortT_mem,← hs,hf];exact gD (by omega)
    have hgi:g i=fldN v q f:=by rw [hg,hf,hs]
    have hnum:=ownT_num hown (.inl hk) hfm
    by_cases hF:hasF v (fM f)
    · obtain ⟨a1,ha1⟩:∃ a1,a1=a++putN (fNum f).toNat:=⟨_,rfl⟩
      have hb1:b=a1++q f:=by rw [hab,hgi,fldN,if_pos hF,ha1,List.append_assoc]
      have hal:a.length≤b.length:=by rw [hab,List.length_append];omega
      have hp:=put_false a (fNum f).toNat (by omega) (by omega) a1 ha1
      rw [show ((fNum f).toNat:Int)=fNum f by omega] at hp
      apply AWp.wk tF mF [(7,[(3,.tup [encV c .new fun _=>fieldV v (fM f),.bool fun _=>true],[])]),(9,[(3,.aref 1000 1 fun _=>a1.length,outO a1 1),(7,.aref 1000 1 fun _=>b.length,outO b 1)])] kp94 ?_
      (any_goals ((with_reducible refine wI ?_);cbv;(try dsimp only [nc] at *);(repeat' (with_reducible first|exact aO|exact oN|refine oC ?_ ?_|refine VC.mk rfl ?_ ?_ ?_|(apply Ca.mk<;>intro _)|(apply Cv.mk<;>intro zq<;>(try simp only [nc,cl] at zq)<;>(try simp only [bl,dl] at zq)<;>(revert zq;intro _))|((first|apply xE|apply uE);cbv;(try dsimp only [nc] at *))))))
      all_goals (try exact absurd h (Nat.not_lt.2 ‹t.fields.length≤i›))
      all_goals (try simp only [Int.toNat_natCast,← hf])
      (any_goals ((with_reducible refine bZ ?_);(try dsimp only);(have q:=(Field_yes c v hv (fM f) hF);refine Af.wN q ?_;clear q);(focus (cbv;(try dsimp only [nc] at *);(try simp only [wl,nc]);(repeat' (with_reducible apply And.intro));all_goals (try exact wZ)))))
      (any_goals ((with_reducible refine bZ ?_);(try dsimp only);(have q:=hp;refine Af.wN q ?_;clear q);(focus (cbv;(try dsimp only [nc] at *);(try simp only [wl,nc]);(repeat' (with_reducible apply And.intro));all_goals (try exact wZ)))))
      (any_goals ((with_reducible refine bZ ?_);(try dsimp only);(have q:=(ih f hfm hF a1 b hb1 hbl);refine Af.wN q ?_;clear q);(focus (cbv;(try dsimp only [nc] at *);(try simp only [wl,nc]);(repeat' (with_reducible apply And.intro));all_goals (try exact wZ)))))
      ((all_goals (try (with_reducible ((first|refine rE ?_|refine nE ?_);(focus (cbv;(try dsimp only [nc] at *);(try simp only [wl,nc]);(repeat' (with_reducible apply And.intro));all_goals (try exact wZ)))))));(all_goals (try ((with_reducible rw [aC]);(try simp only [wl,nc]);(repeat' (with_reducible apply And.intro));(all_goals (try exact cZ))))))
      any_goals exact fun i _=>le_sub c _ _ i
      refine dE (i+1) ⟨by omega,by omega⟩ ?_
      rw [← hb]
      (focus (cbv;(try dsimp only [nc] at *);(try simp only [wl,nc]);(repeat' (with_reducible apply And.intro));all_goals (try exact wZ)))
      exact w64n (by omega)
    · have hb1:b=a:=by rw [hab,hgi,fldN,if_neg hF,List.append_nil]
      apply AWp.wk tF mF [(7,[(3,.tup [encV c .new fun _=>default,.bool fun _=>false],[])])] kp94 ?_
      (any_goals ((with_reducible refine wI ?_);cbv;(try dsimp only [nc] at *);(repeat' (with_reducible first|exact aO|exact oN|refine oC ?_ ?_|refine VC.mk rfl ?_ ?_ ?_|(apply Ca.mk<;>intro _)|(apply Cv.mk<;>intro zq<;>(try simp only [nc,cl] at zq)<;>(try simp only [bl,dl] at zq)<;>(revert zq;intro _))|((first|apply xE|apply uE);cbv;(try dsimp only [nc] at *))))))
      all_goals (try exact absurd h (Nat.not_lt.2 ‹t.fields.length≤i›))
      all_goals (try simp only [Int.toNat_natCast,← hf])
      (any_goals ((with_reducible refine bZ ?_);(try dsimp only);(have q:=(Field_no c v hv (fM f) hF);refine Af.wN q ?_;clear q);(focus (cbv;(try dsimp only [nc] at *);(try simp only [wl,nc]);(repeat' (with_reducible apply And.intro));all_goals (try exact wZ)))))
      ((all_goals (try (with_reducible ((first|refine rE ?_|refine nE ?_);(focus (cbv;(try dsimp only [nc] at *);(try simp only [wl,nc]);(repeat' (with_reducible apply And.intro));all_goals (try exact wZ)))))));(all_goals (try ((with_reducible rw [aC]);(try simp only [wl,nc]);(repeat' (with_reducible apply And.intro));(all_goals (try exact cZ))))))
      refine dE (i+1) ⟨by omega,by omega⟩ ?_
      rw [← hb,hb1]
      (focus (cbv;(try dsimp only [nc] at *);(try simp only [wl,nc]);(repeat' (with_reducible apply And.intro));all_goals (try exact wZ)))
      exact w64n (by omega)
  · have hie:i=t.fields.length:=by omega
    subst hie
    rw [← hr2]
    apply AWp.wk tF mF [(7,[(3,.tup [encV c .new fun _=>default,.bool fun _=>false],[])]),(9,[(3,.nil,[]),(7,.nil,[])])] kp94 ?_
    (any_goals ((with_reducible refine wI ?_);cbv;(try dsimp only [nc] at *);(repeat' (with_reducible first|exact aO|exact oN|refine oC ?_ ?_|refine VC.mk rfl ?_ ?_ ?_|(apply Ca.mk<;>intro _)|(apply Cv.mk<;>intro zq<;>(try simp only [nc,cl] at zq)<;>(try simp only [bl,dl] at zq)<;>(revert zq;intro _))|((first|apply xE|apply uE);cbv;(try dsimp only [nc] at *))))))
    all_goals (try exact absurd ‹t.fields.length<t.fields.length› h)
    ((all_goals (try (with_reducible ((first|refine rE ?_|refine nE ?_);(focus (cbv;(try dsimp only [nc] at *);(try simp only [wl,nc]);(repeat' (with_reducible apply And.intro));all_goals (try exact wZ)))))));(all_goals (try ((with_reducible rw [aC]);(try simp only [wl,nc]);(repeat' (with_reducible apply And.intro));(all_goals (try exact cZ))))))
def encN:Nat→Ty→V→List Nat
  | 0,_,_=>[]
  | d+1,t,v =>
    if t.kind=1 then [v.int.toNat] else
    if t.kind=2∨t.kind=3∨t.kind=6∨t.kind=7 then putN (zigI v.int).toNat else
    if t.kind=4∨t.kind=5 then putN v.text.size++strN v.text else
    if t.kind=8 then putN v.list.length++cT (fun i=>encN d (t.elem.getD 0 default) (v.list.getD i default)) v.list.length else
    if t.kind=9 then putN v.fields.length++cT (fun i=>fldN v (fun f=>wholeN (encN d (fT f) (fieldV v (fM f)))) ((sortT t.fields).getD i default)) t.fields.length else
    if t.kind=10 then putN (fNum (gT t (bQ v.text))).toNat++wholeN (encN d (fT (gT t (bQ v.text))) (v.list.getD 0 default)) else []
theorem write_1 (e d c:Nat) (t:Ty) (v:V) (q:List Nat) (hk:t.kind=1) (h:WrOK 92 e d c t v q):WrOK 42 e d c t v q:=fun l r hr hl=>by
  have hw:=h l r hr hl
  rw [encT_kind hk]
  (apply Af.of tF mF [.tmp 6] kp42 [(0,[(0,.nil,[]),(1,.nil,[])]),(1,[(0,.fmap wMap,[]),(7,.aref 1000 1 fun _=>r.length,outO r 1)])] Tryz.func42 (fun _=>?_);(any_goals ((with_reducible refine wI ?_);cbv;(try dsimp only [nc] at *);(repeat' (with_reducible first|exact aO|exact oN|refine oC ?_ ?_|refine VC.mk rfl ?_ ?_ ?_|(apply Ca.mk<;>intro _)|(apply Cv.mk<;>intro zq<;>(try simp only [nc,cl] at zq)<;>(try simp only [bl,dl] at zq)<;>(revert zq;intro _))|((first|apply xE|apply uE);cbv;(try dsimp only [nc] at *)))))))
  (any_goals ((with_reducible refine bZ ?_)<;>exact writers_ok))
  (any_goals ((with_reducible refine bZ ?_);(try dsimp only);(have q:=hw;refine Af.wN q ?_;clear q);(exact aZ)))
  (all_goals (try exact eZ))
theorem write_2 (e d c:Nat) (t:Ty) (v:V) (q:List Nat) (hk:t.kind=2) (h:WrOK 90 e d c t v q):WrOK 42 e d c t v q:=fun l r hr hl=>by
  have hw:=h l r hr hl
  rw [encT_kind hk]
  (apply Af.of tF mF [.tmp 6] kp42 [(0,[(0,.nil,[]),(1,.nil,[])]),(1,[(0,.fmap wMap,[]),(7,.aref 1000 1 fun _=>r.length,outO r 1)])] Tryz.func42 (fun _=>?_);(any_goals ((with_reducible refine wI ?_);cbv;(try dsimp only [nc] at *);(repeat' (with_reducible first|exact aO|exact oN|refine oC ?_ ?_|refine VC.mk rfl ?_ ?_ ?_|(apply Ca.mk<;>intro _)|(apply Cv.mk<;>intro zq<;>(try simp only [nc,cl] at zq)<;>(try simp only [bl,dl] at zq)<;>(revert zq;intro _))|((first|apply xE|apply uE);cbv;(try dsimp only [nc] at *)))))))
  (any_goals ((with_reducible refine bZ ?_)<;>exact writers_ok))
  (any_goals ((with_reducible refine bZ ?_);(try dsimp only);(have q:=hw;refine Af.wN q ?_;clear q);(exact aZ)))
  (all_goals (try exact eZ))
theorem write_3 (e d c:Nat) (t:Ty) (v:V) (q:List Nat) (hk:t.kind=3) (h:WrOK 90 e d c t v q):WrOK 42 e d c t v q:=fun l r hr hl=>by
  have hw:=h l r hr hl
  rw [encT_kind hk]
  (apply Af.of tF mF [.tmp 6] kp42 [(0,[(0,.nil,[]),(1,.nil,[])]),(1,[(0,.fmap wMap,[]),(7,.aref 1000 1 fun _=>r.length,outO r 1)])] Tryz.func42 (fun _=>?_);(any_goals ((with_reducible refine wI ?_);cbv;(try dsimp only [nc] at *);(repeat' (with_reducible first|exact aO|exact oN|refine oC ?_ ?_|refine VC.mk rfl ?_ ?_ ?_|(apply Ca.mk<;>intro _)|(apply Cv.mk<;>intro zq<;>(try simp only [nc,cl] at zq)<;>(try simp only [bl,dl] at zq)<;>(revert zq;intro _))|((first|apply xE|apply uE);cbv;(try dsimp only [nc] at *)))))))
  (any_goals ((with_reducible refine bZ ?_)<;>exact writers_ok))
  (any_goals ((with_reducible refine bZ ?_);(try dsimp only);(have q:=hw;refine Af.wN q ?_;clear q);(exact aZ)))
  (all_goals (try exact eZ))
theorem write_6 (e d c:Nat) (t:Ty) (v:V) (q:List Nat) (hk:t.kind=6) (h:WrOK 90 e d c t v q):WrOK 42 e d c t v q:=fun l r hr hl=>by
  have hw:=h l r hr hl
  rw [encT_kind hk]
  (apply Af.of tF mF [.tmp 6] kp42 [(0,[(0,.nil,[]),(1,.nil,[])]),(1,[(0,.fmap wMap,[]),(7,.aref 1000 1 fun _=>r.length,outO r 1)])] Tryz.func42 (fun _=>?_);(any_goals ((with_reducible refine wI ?_);cbv;(try dsimp only [nc] at *);(repeat' (with_reducible first|exact aO|exact oN|refine oC ?_ ?_|refine VC.mk rfl ?_ ?_ ?_|(apply Ca.mk<;>intro _)|(apply Cv.mk<;>intro zq<;>(try simp only [nc,cl] at zq)<;>(try simp only [bl,dl] at zq)<;>(revert zq;intro _))|((first|apply xE|apply uE);cbv;(try dsimp only [nc] at *)))))))
  (any_goals ((with_reducible refine bZ ?_)<;>exact writers_ok))
  (any_goals ((with_reducible refine bZ ?_);(try dsimp only);(have q:=hw;refine Af.wN q ?_;clear q);(exact aZ)))
  (all_goals (try exact eZ))
theorem write_7 (e d c:Nat) (t:Ty) (v:V) (q:List Nat) (hk:t.kind=7) (h:WrOK 90 e d c t v q):WrOK 42 e d c t v q:=fun l r hr hl=>by
  have hw:=h l r hr hl
  rw [encT_kind hk]
  (apply Af.of tF mF [.tmp 6] kp42 [(0,[(0,.nil,[]),(1,.nil,[])]),(1,[(0,.fmap wMap,[]),(7,.aref 1000 1 fun _=>r.length,outO r 1)])] Tryz.func42 (fun _=>?_);(any_goals ((with_reducible refine wI ?_);cbv;(try dsimp only [nc] at *);(repeat' (with_reducible first|exact aO|exact oN|refine oC ?_ ?_|refine VC.mk rfl ?_ ?_ ?_|(apply Ca.mk<;>intro _)|(apply Cv.mk<;>intro zq<;>(try simp only [nc,cl] at zq)<;>(try simp only [bl,dl] at zq)<;>(revert zq;intro _))|((first|apply xE|apply uE);cbv;(try dsimp only [nc] at *)))))))
  (any_goals ((with_reducible refine bZ ?_)<;>exact writers_ok))
  (any_goals ((with_reducible refine bZ ?_);(try dsimp only);(have q:=hw;refine Af.wN q ?_;clear q);(exact aZ)))
  (all_goals (try exact eZ))
theorem write_4 (e d c:Nat) (t:Ty) (v:V) (q:List Nat) (hk:t.kind=4) (h:WrOK 91 e d c t v q):WrOK 42 e d c t v q:=fun l r hr hl=>by
  have hw:=h l r hr hl
  rw [encT_kind hk]
  (apply Af.of tF mF [.tmp 6] kp42 [(0,[(0,.nil,[]),(1,.nil,[])]),(1,[(0,.fmap wMap,[]),(7,.aref 1000 1 fun _=>r.length,outO r 1)])] Tryz.func42 (fun _=>?_);(any_goals ((with_reducible refine wI ?_);cbv;(try dsimp only [nc] at *);(repeat' (with_reducible first|exact aO|exact oN|refine oC ?_ ?_|refine VC.mk rfl ?_ ?_ ?_|(apply Ca.mk<;>intro _)|(apply Cv.mk<;>intro zq<;>(try simp only [nc,cl] at zq)<;>(try simp only [bl,dl] at zq)<;>(revert zq;intro _))|((first|apply xE|apply uE);cbv;(try dsimp only [nc] at *)))))))
  (any_goals ((with_reducible refine bZ ?_)<;>exact writers_ok))
  (any_goals ((with_reducible refine bZ ?_);(try dsimp only);(have q:=hw;refine Af.wN q ?_;clear q);(exact aZ)))
  (all_goals (try exact eZ))
theorem write_5 (e d c:Nat) (t:Ty) (v:V) (q:List Nat) (hk:t.kind=5) (h:WrOK 91 e d c t v q):WrOK 42 e d c t v q:=fun l r hr hl=>by
  have hw:=h l r hr hl
  rw [encT_kind hk]
  (apply Af.of tF mF [.tmp 6] kp42 [(0,[(0,.nil,[]),(1,.nil,[])]),(1,[(0,.fmap wMap,[]),(7,.aref 1000 1 fun _=>r.length,outO r 1)])] Tryz.func42 (fun _=>?_);(any_goals ((with_reducible refine wI ?_);cbv;(try dsimp only [nc] at *);(repeat' (with_reducible first|exact aO|exact oN|refine oC ?_ ?_|refine VC.mk rfl ?_ ?_ ?_|(apply Ca.mk<;>intro _)|(apply Cv.mk<;>intro zq<;>(try simp only [nc,cl] at zq)<;>(try simp only [bl,dl] at zq)<;>(revert zq;intro _))|((first|apply xE|apply uE);cbv;(try dsimp only [nc] at *)))))))
  (any_goals ((with_reducible refine bZ ?_)<;>exact writers_ok))
  (any_goals ((with_reducible refine bZ ?_);(try dsimp only);(have q:=hw;refine Af.wN q ?_;clear q);(exact aZ)))
  (all_goals (try exact eZ))
theorem write_8 (e d c:Nat) (t:Ty) (v:V) (q:List Nat) (hk:t.kind=8) (h:WrOK 93 e d c t v q):WrOK 42 e d c t v q:=fun l r hr hl=>by
  have hw:=h l r hr hl
  rw [encT_kind hk]
  (apply Af.of tF mF [.tmp 6] kp42 [(0,[(0,.nil,[]),(1,.nil,[])]),(1,[(0,.fmap wMap,[]),(7,.aref 1000 1 fun _=>r.length,outO r 1)])] Tryz.func42 (fun _=>?_);(any_goals ((with_reducible refine wI ?_);cbv;(try dsimp only [nc] at *);(repeat' (with_reducible first|exact aO|exact oN|refine oC ?_ ?_|refine VC.mk rfl ?_ ?_ ?_|(apply Ca.mk<;>intro _)|(apply Cv.mk<;>intro zq<;>(try simp only [nc,cl] at zq)<;>(try simp only [bl,dl] at zq)<;>(revert zq;intro _))|((first|apply xE|apply uE);cbv;(try dsimp only [nc] at *)))))))
  (any_goals ((with_reducible refine bZ ?_)<;>exact writers_ok))
  (any_goals ((with_reducible refine bZ ?_);(try dsimp only);(have q:=hw;refine Af.wN q ?_;clear q);(exact aZ)))
  (all_goals (try exact eZ))
theorem write_9 (e d c:Nat) (t:Ty) (v:V) (q:List Nat) (hk:t.kind=9) (h:WrOK 94 e d c t v q):WrOK 42 e d c t v q:=fun l r hr hl=>by
  have hw:=h l r hr hl
  rw [encT_kind hk]
  (apply Af.of tF mF [.tmp 6] kp42 [(0,[(0,.nil,[]),(1,.nil,[])]),(1,[(0,.fmap wMap,[]),(7,.aref 1000 1 fun _=>r.length,outO r 1)])] Tryz.func42 (fun _=>?_);(any_goals ((with_reducible refine wI ?_);cbv;(try dsimp only [nc] at *);(repeat' (with_reducible first|exact aO|exact oN|refine oC ?_ ?_|refine VC.mk rfl ?_ ?_ ?_|(apply Ca.mk<;>intro _)|(apply Cv.mk<;>intro zq<;>(try simp only [nc,cl] at zq)<;>(try simp only [bl,dl] at zq)<;>(revert zq;intro _))|((first|apply xE|apply uE);cbv;(try dsimp only [nc] at *)))))))
  (any_goals ((with_reducible refine bZ ?_)<;>exact writers_ok))
  (any_goals ((with_reducible refine bZ ?_);(try dsimp only);(have q:=hw;refine Af.wN q ?_;clear q);(exact aZ)))
  (all_goals (try exact eZ))
theorem write_10 (e d c:Nat) (t:Ty) (v:V) (q:List Nat) (hk:t.kind=10) (h:WrOK 95 e d c t v q):WrOK 42 e d c t v q:=fun l r hr hl=>by
  have hw:=h l r hr hl
  rw [encT_kind hk]
  (apply Af.of tF mF [.tmp 6] kp42 [(0,[(0,.nil,[]),(1,.nil,[])]),(1,[(0,.fmap wMap,[]),(7,.aref 1000 1 fun _=>r.length,outO r 1)])] Tryz.func42 (fun _=>?_);(any_goals ((with_reducible refine wI ?_);cbv;(try dsimp only [nc] at *);(repeat' (with_reducible first|exact aO|exact oN|refine oC ?_ ?_|refine VC.mk rfl ?_ ?_ ?_|(apply Ca.mk<;>intro _)|(apply Cv.mk<;>intro zq<;>(try simp only [nc,cl] at zq)<;>(try simp only [bl,dl] at zq)<;>(revert zq;intro _))|((first|apply xE|apply uE);cbv;(try dsimp only [nc] at *)))))))
  (any_goals ((with_reducible refine bZ ?_)<;>exact writers_ok))
  (any_goals ((with_reducible refine bZ ?_);(try dsimp only);(have q:=hw;refine Af.wN q ?_;clear q);(exact aZ)))
  (all_goals (try exact eZ))
end Go.Ai
