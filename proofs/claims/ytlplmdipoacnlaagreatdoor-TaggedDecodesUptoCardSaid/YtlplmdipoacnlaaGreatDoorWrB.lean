/- Chapter 10: how long what is written is; write. -/
import Derived.Test.YtlplmdipoacnlaaGreatDoorWrA
set_option linter.all false
namespace Go.Ai
open Go Go.Proofs
set_option maxRecDepth 100000
set_option maxHeartbeats 4000000
theorem own_ruleE {vs:ByteArray→Bool} {v:V} (h:ownE vs v=0):ruleE vs v=0:=by
 unfold ownE at h
 split at h
 ·cases h
 split at h
 ·cases h
 split at h
 ·cases h
 exact h
theorem V.ok_bool {vs:ByteArray→Bool} {v:V} (h:ownE vs v=0) (hk:v.kind=1):0≤v.int∧v.int≤1:=by
 have:=own_ruleE h
 simp only [ruleE,between,hk,if_true] at this
 grind
theorem V.ok_int {vs:ByteArray→Bool} {v:V} (h:ownE vs v=0) (hk:v.kind=2∨v.kind=3∨v.kind=6∨v.kind=7) : -999999999999999≤v.int∧v.int≤999999999999999:=by
 have:=own_ruleE h
 simp only [ruleE,between] at this
 rcases hk with hk|hk|hk|hk<;>simp [hk] at this<;>grind
theorem V.ok_text {vs:ByteArray→Bool} {v:V} (h:ownE vs v=0) (hk:v.kind=4∨v.kind=5):v.text.size≤1024:=by
 have:=own_ruleE h
 simp only [ruleE,sizeE] at this
 rcases hk with hk|hk<;>simp [hk] at this<;>grind
theorem idxI_cons {α:Type} {p:α→Bool} {x:α} {l:List α}:iI p (x :: l)=if p x then 0 else if iI p l<0 then -1 else iI p l+1:=by
 unfold iI
 rw [List.findIdx_cons]
 cases hp:p x
 ·simp only [cond_false,List.length_cons,Bool.false_eq_true,if_false]
  split<;>split<;>omega
 ·simp
theorem concatTo_map {α:Type} [Inhabited α] (G:α→List Nat) (l:List α):∀ n,n≤l.length→cT (fun i=>G (l.getD i default)) n=((l.take n).map G).flatten
 | 0,_=>by simp [cT]
 | n+1,h=>by
  have hn:n<l.length:=h
  rw [cT,concatTo_map G l n (by omega),List.take_succ_eq_append_getElem hn,List.map_append,List.flatten_append,List.map_singleton,List.flatten_singleton,List.getD_eq_getElem?_getD,List.getElem?_eq_getElem hn,Option.getD_some]
theorem concatTo_all {α:Type} [Inhabited α] (G:α→List Nat) (l:List α) {n:Nat} (hn:n=l.length):cT (fun i=>G (l.getD i default)) n=(l.map G).flatten:=by
 subst hn
 rw [concatTo_map G l _ (Nat.le_refl _),List.take_length]
theorem flat_le {α:Type} (G:α→List Nat) (F:α→Nat):∀ (l:List α),(∀ x ∈ l,(G x).length≤F x)→((l.map G).flatten).length≤(l.map F).sum
 | [],_=>by simp
 | x :: l,h=>by
  have h1:=h x (by simp)
  have h2:=flat_le G F l fun y hy=>h y (by simp [hy])
  simp only [List.map_cons,List.flatten_cons,List.length_append,List.sum_cons]
  omega
theorem sum_one (n:ByteArray) (G:TF→Nat) (b:Nat):∀ (l:List TF),(l.map fM).Nodup→(∀ f ∈ l,fM f=n→G f≤b)→(l.map G).sum≤(l.map fun f=>if fM f=n then 0 else G f).sum+b
 | [],_,_=>by simp
 | f :: l,hn,h=>by
  simp only [List.map_cons,List.nodup_cons] at hn
  simp only [List.map_cons,List.sum_cons]
  by_cases hf:fM f=n
  ·have:(l.map fun f=>if fM f=n then 0 else G f)=l.map G:=List.map_congr_left fun x hx=>if_neg fun q=>hn.1 (by rw [hf,← q];exact List.mem_map_of_mem hx)
   rw [this,if_pos hf]
   have:=h f (by simp) hf
   omega
  ·have:=sum_one n G b l hn.2 fun x hx=>h x (by simp [hx])
   rw [if_neg hf];omega
theorem sum_inj (S:V→Nat):∀ (F:List (ByteArray×V)) (l:List TF) (G:TF→Nat),(l.map fM).Nodup →
 (∀ f ∈ l,G f≤if 0≤iI (fun x:ByteArray×V=>decide (x.1=fM f)) F then S (F.getD (iI (fun x:ByteArray×V=>decide (x.1=fM f)) F).toNat default).2 else 0)→(l.map G).sum≤(F.map fun x=>S x.2).sum
 | [],l,G,_,h=>by
  have:∀ f ∈ l,G f=0:=fun f hf=>by
   have:=h f hf
   rw [if_neg (by simp [iI])] at this
   omega
  have h2:(l.map G)=l.map fun _=>0:=List.map_congr_left this
  rw [h2,List.map_const',List.sum_replicate_nat];simp
 | x :: F,l,G,hn,h=>by
  have h1:=sum_one x.1 G (S x.2) l hn fun f hf hx=>by
   have:=h f hf
   have hq:decide (x.1=fM f)=true:=by simp [hx]
   rw [idxI_cons,if_pos hq,if_pos (Int.le_refl 0)] at this
   exact this
  have h2:=sum_inj S F l (fun f=>if fM f=x.1 then 0 else G f) hn fun f hf=>by
   by_cases hx:fM f=x.1
   ·rw [if_pos hx];omega
   ·rw [if_neg hx]
    have:=h f hf
    have hq:¬ decide (x.1=fM f)=true:=by simp only [decide_eq_true_eq];exact fun q=>hx (Eq.symm q)
    rw [idxI_cons,if_neg hq] at this
    by_cases hi:iI (fun y:ByteArray×V=>decide (y.1=fM f)) F<0
    ·rw [if_pos hi,if_neg (by omega)] at this
     omega
    ·rw [if_neg hi,if_pos (by omega)] at this
     rw [if_pos (by omega)]
     obtain ⟨k,hk⟩:∃ k:Nat,iI (fun y:ByteArray×V=>decide (y.1=fM f)) F=k:=⟨(iI (fun y:ByteArray×V=>decide (y.1=fM f)) F).toNat,by omega⟩
     rw [hk] at this ⊢
     simpa using this
  simp only [List.map_cons,List.sum_cons]
  omega
theorem idxI_hit {α:Type} {p:α→Bool} {l:List α} {x:α} (h:0≤iI p l):p (l.getD (iI p l).toNat x)=true:=by
 unfold iI at h ⊢
 split at h
 ·rename_i hlt
  rw [if_pos hlt,Int.toNat_natCast,List.getD_eq_getElem?_getD,List.getElem?_eq_getElem hlt,Option.getD_some]
  exact List.findIdx_getElem
 ·omega
theorem idxI_of_mem {α:Type} {p:α→Bool} {l:List α} {x:α} (h:x ∈ l) (hp:p x=true):0≤iI p l:=by
 have:List.findIdx p l<l.length:=List.findIdx_lt_length.2 ⟨x,h,hp⟩
 unfold iI
 rw [if_pos this];omega
theorem getTF_name {t:Ty} (hn:(t.fields.map fM).Nodup) {f:TF} (hf:f ∈ t.fields):0≤iI (bQ (fM f)) t.fields∧gT t (bQ (fM f))=f:=by
 have h0:0≤iI (bQ (fM f)) t.fields:=idxI_of_mem hf (by simp [bQ])
 refine ⟨h0,?_⟩
 have h1:fM (gT t (bQ (fM f)))=fM f:=by
  have:=idxI_hit (x:=default) h0
  simpa [bQ,gT] using this
 have hm:=getTF_mem h0
 obtain ⟨i,hi,hfi⟩:=List.getElem_of_mem hf
 obtain ⟨j,hj,hgj⟩:=List.getElem_of_mem hm
 have:i=j:=(List.getElem_inj (h₀:=by simpa using hi) (h₁:=by simpa using hj) hn).1 (by simp only [List.getElem_map];rw [hfi,hgj,h1])
 subst this
 rw [← hgj,hfi]
theorem hasT_kind {d:Nat} {t:Ty} {v:V} (h:hasT (d+1) t v=true):v.kind=t.kind:=by
 simp only [hasT] at h
 split at h
 ·cases h
 ·omega
theorem hasT_list {d:Nat} {t:Ty} {v:V} (h:hasT (d+1) t v=true) (hk:t.kind=8):∀ x ∈ v.list,hasT d (t.elem.getD 0 default) x=true:=by
 have hv:=hasT_kind h
 simp only [hasT] at h
 rw [if_neg (by omega),if_neg (by omega),if_neg (by omega),if_neg (by omega),if_pos (by omega)] at h
 simp only [Bool.and_eq_true,Bool.not_eq_true',List.any_eq_false] at h
 intro x hx
 simpa using h.2 x hx
theorem hasT_var {d:Nat} {t:Ty} {v:V} (h:hasT (d+1) t v=true) (hk:t.kind=10):0≤iI (bQ v.text) t.fields∧hasT d (fT (gT t (bQ v.text))) (v.list.getD 0 default)=true:=by
 have hv:=hasT_kind h
 simp only [hasT] at h
 rw [if_neg (by omega),if_neg (by omega),if_neg (by omega),if_neg (by omega),if_neg (by omega),if_pos (by omega)] at h
 simp only [Bool.and_eq_true,decide_eq_true_eq] at h
 exact h
theorem hasT_rec {d:Nat} {t:Ty} {v:V} (h:hasT (d+1) t v=true) (hk:t.kind=9):∀ x ∈ v.fields,0≤iI (bQ x.1) t.fields∧hasT d (fT (gT t (bQ x.1))) x.2=true:=by
 have hv:=hasT_kind h
 simp only [hasT] at h
 rw [if_neg (by omega),if_neg (by omega),if_neg (by omega),if_neg (by omega),if_neg (by omega),if_neg (by omega),if_pos (by omega)] at h
 simp only [Bool.and_eq_true,List.all_eq_true,decide_eq_true_eq] at h
 exact h.1
theorem hasT_fld {d:Nat} {t:Ty} {v:V} (h:hasT (d+1) t v=true) (hk:t.kind=9) (hn:(t.fields.map fM).Nodup) {f:TF} (hf:f ∈ t.fields) (hF:0≤findI v (fM f)) :
 v.fields.getD (findI v (fM f)).toNat default ∈ v.fields∧hasT d (fT f) (fieldV v (fM f))=true:=by
 have hlt:findI v (fM f)<v.fields.length:=idxI_lt
 have hm:v.fields.getD (findI v (fM f)).toNat default ∈ v.fields:=gD (by omega)
 have hx:(v.fields.getD (findI v (fM f)).toNat default).1=fM f:=by
  have:=idxI_hit (p:=fun x:ByteArray×V=>decide (x.1=fM f)) (x:=default) hF
  simp only [decide_eq_true_eq] at this
  exact this
 have h2:=hasT_rec h hk _ hm
 rw [hx,(getTF_name hn hf).2] at h2
 exact ⟨hm,h2.2⟩
theorem write_ok (e:Nat):∀ (d c:Nat) (t:Ty) (v:V),Ty.le e d t→Ty.ok e d t→V.le c v→V.ok c v→hasT d t v=true→WrOK 42 e d c t v (encN d t v)
 | 0,_,_,_,h,_,_,_,_=>h.elim
 | d + 1,c,t,v,ht,hto,hv,hvo,hh=>by
  obtain ⟨c,rfl⟩:=V.lP hv
  have hvk:=hasT_kind hh
  have hown:=V.ok_self hvo
  have hk10:t.kind=1∨t.kind=2∨t.kind=3∨t.kind=4∨t.kind=5∨t.kind=6∨t.kind=7∨t.kind=8∨t.kind=9∨t.kind=10:=by
   have:=hto.1
   simp only [ownT] at this
   split at this
   ·cases this
   ·omega
  rcases hk10 with hk|hk|hk|hk|hk|hk|hk|hk|hk|hk
  ·have hb:=V.ok_bool hown (by omega)
   have he:encN (d+1) t v=[v.int.toNat]:=by simp only [encN];rw [if_pos hk]
   rw [he]
   exact write_1 _ _ _ _ _ _ hk (w_bool _ _ _ _ _ v.int.toNat (by omega) (by omega))
  ·have hb:=V.ok_int hown (by omega)
   have he:encN (d+1) t v=putN (zigI v.int).toNat:=by simp only [encN];rw [if_neg (by omega),if_pos (by omega)]
   rw [he]
   exact write_2 _ _ _ _ _ _ hk (w_int _ _ _ _ _ (by omega) (by omega))
  ·have hb:=V.ok_int hown (by omega)
   have he:encN (d+1) t v=putN (zigI v.int).toNat:=by simp only [encN];rw [if_neg (by omega),if_pos (by omega)]
   rw [he]
   exact write_3 _ _ _ _ _ _ hk (w_int _ _ _ _ _ (by omega) (by omega))
  ·have hb:=V.ok_text hown (by omega)
   have he:encN (d+1) t v=putN v.text.size++strN v.text:=by simp only [encN];rw [if_neg (by omega),if_neg (by omega),if_pos (by omega)]
   rw [he]
   exact write_4 _ _ _ _ _ _ hk (w_text _ _ _ _ _ (by omega))
  ·have hb:=V.ok_text hown (by omega)
   have he:encN (d+1) t v=putN v.text.size++strN v.text:=by simp only [encN];rw [if_neg (by omega),if_neg (by omega),if_pos (by omega)]
   rw [he]
   exact write_5 _ _ _ _ _ _ hk (w_text _ _ _ _ _ (by omega))
  ·have hb:=V.ok_int hown (by omega)
   have he:encN (d+1) t v=putN (zigI v.int).toNat:=by simp only [encN];rw [if_neg (by omega),if_pos (by omega)]
   rw [he]
   exact write_6 _ _ _ _ _ _ hk (w_int _ _ _ _ _ (by omega) (by omega))
  ·have hb:=V.ok_int hown (by omega)
   have he:encN (d+1) t v=putN (zigI v.int).toNat:=by simp only [encN];rw [if_neg (by omega),if_pos (by omega)]
   rw [he]
   exact write_7 _ _ _ _ _ _ hk (w_int _ _ _ _ _ (by omega) (by omega))
  ·have h1:=ownT_elem hto.1 hk
   have hx:t.elem.getD 0 default ∈ t.elem:=gD (by omega)
   have he:encN (d+1) t v=putN v.list.length++cT (fun i=>encN d (t.elem.getD 0 default) (v.list.getD i default)) v.list.length:=by
    simp only [encN];rw [if_neg (by omega),if_neg (by omega),if_neg (by omega),if_pos (by omega)]
   rw [he]
   refine write_8 _ _ _ _ _ _ hk (w_list e d c t v hv.1 (by omega) _ fun i hi=>?_)
   have hxl:v.list.getD i default ∈ v.list:=gD hi
   exact write_ok e d c _ _ (ht.2.2.2.2.1 _ hx) (Ty.ok_elem hto hk hx) (hv.2.2.2.1 _ hxl) (V.ok_kid hvo (by simp only [kz];rw [if_pos (by omega)];exact hxl)) (hasT_list hh hk _ hxl)
  ·have he:encN (d+1) t v=putN v.fields.length++cT (fun i=>fldN v (fun f=>wholeN (encN d (fT f) (fieldV v (fM f)))) ((sortT t.fields).getD i default)) t.fields.length:=by
    simp only [encN];rw [if_neg (by omega),if_neg (by omega),if_neg (by omega),if_neg (by omega),if_pos (by omega)]
   rw [he]
   refine write_9 _ _ _ _ _ _ hk (w_rec e d c t v hk ht hto.1 hv _ fun f hf hF=>w_whole _ _ _ _ _ _ ?_)
   obtain ⟨hm,hT⟩:=hasT_fld hh hk (ownT_nodup hto.1 (.inl hk)).2 hf hF.2
   exact write_ok e d c _ _ (ht.2.2.2.2.2 _ hf).2.2.2 (Ty.ok_field hto (.inl hk) hf) (hv.2.2.2.2 _ hm).2 (V.ok_kid hvo (by simp only [kz];rw [if_neg (by omega),if_pos (by omega)];exact List.mem_map_of_mem (f:=(·.2)) hm)) hT
  ·have h1:=V.ok_list hown (by omega)
   have hxl:v.list.getD 0 default ∈ v.list:=gD (by omega)
   obtain ⟨h0,hT⟩:=hasT_var hh hk
   have hfm:=getTF_mem h0
   have hnum:=ownT_num hto.1 (.inr hk) hfm
   have he:encN (d+1) t v=putN (fNum (gT t (bQ v.text))).toNat++wholeN (encN d (fT (gT t (bQ v.text))) (v.list.getD 0 default)):=by
    simp only [encN];rw [if_neg (by omega),if_neg (by omega),if_neg (by omega),if_neg (by omega),if_neg (by omega),if_pos (by omega)]
   rw [he]
   refine write_10 _ _ _ _ _ _ hk (w_var e d c t v hk ht (by omega) h0 _ (by omega) (by omega) _ (w_whole _ _ _ _ _ _ ?_))
   exact write_ok e d c _ _ (ht.2.2.2.2.2 _ hfm).2.2.2 (Ty.ok_field hto (.inr hk) hfm) (hv.2.2.2.1 _ hxl) (V.ok_kid hvo (by simp only [kz];rw [if_pos (by omega)];exact hxl)) hT
theorem putN_le9 {n:Nat} (h:n<9223372036854775808):(putN n).length≤9:=putN_len 8 n (by omega)
theorem sum_mul (S:V→Nat) (k:Nat):∀ l:List V,(l.map fun x=>k * S x).sum=k * (l.map S).sum
 | []=>by simp
 | x :: l=>by simp only [List.map_cons,List.sum_cons,sum_mul S k l,Nat.mul_add]
theorem sum_ge (S:V→Nat):∀ {l:List V} {x:V},x ∈ l→S x≤(l.map S).sum
 | y :: l,x,h=>by
  simp only [List.map_cons,List.sum_cons]
  rcases List.mem_cons.1 h with rfl|h
  ·omega
  ·have:=sum_ge S h;omega
theorem encN_len (e:Nat):∀ (d c:Nat) (t:Ty) (v:V),Ty.ok e d t→V.le c v→V.ok c v→sV c v≤1073741824→hasT d t v=true→(encN d t v).length+18≤1100 * sV c v
 | 0,_,_,_,h,_,_,_,_=>h.elim
 | d + 1,c,t,v,hto,hv,hvo,hs,hh=>by
  obtain ⟨c,rfl⟩:=V.lP hv
  have hvk:=hasT_kind hh
  have hown:=V.ok_self hvo
  have hsz:sV (c+1) v=1+((kz v).map (sV c)).sum:=rfl
  rw [hsz] at hs ⊢
  have kid:∀ x ∈ kz v,∀ t',Ty.ok e d t'→hasT d t' x=true→(encN d t' x).length+18≤1100 * sV c x:=fun x hx t' h1 h2 =>
   encN_len e d c t' x h1 (kids_le hv hx) (V.ok_kid hvo hx) (by have:=sum_ge (sV c) hx;omega) h2
  simp only [encN]
  split
  ·simp only [List.length_cons,List.length_nil];omega
  split
  ·have hb:=V.ok_int hown (by omega)
   have:=putN_le9 (n:=(zigI v.int).toNat) (by simp only [zigI];omega)
   omega
  split
  ·have hb:=V.ok_text hown (by omega)
   have:=putN_le9 (n:=v.text.size) (by omega)
   rw [List.length_append,sN];omega
  split
  ·have hk:t.kind=8:=‹_›
   have h1:=ownT_elem hto.1 hk
   have hx:t.elem.getD 0 default ∈ t.elem:=gD (by omega)
   have:=putN_le9 (n:=v.list.length) (by have:=hv.1;omega)
   have hkids:kz v=v.list:=by simp only [kz];rw [if_pos (by omega)]
   rw [concatTo_all (fun x=>encN d (t.elem.getD 0 default) x) v.list rfl,List.length_append]
   have h2:=flat_le (fun x=>encN d (t.elem.getD 0 default) x) (fun x=>1100 * sV c x) v.list fun x hxl=>by
    have:=kid x (by rw [hkids];exact hxl) _ (Ty.ok_elem hto hk hx) (hasT_list hh hk x hxl)
    omega
   rw [sum_mul] at h2
   rw [hkids];omega
  split
  ·have hk:t.kind=9:=‹_›
   have hnd:=(ownT_nodup hto.1 (.inl hk)).2
   have:=putN_le9 (n:=v.fields.length) (by have:=hv.2.1;omega)
   have hkids:kz v=v.fields.map (·.2):=by simp only [kz];rw [if_neg (by omega),if_pos (by omega)]
   obtain ⟨q,hq⟩:∃ q:TF→List Nat,q=fun f=>wholeN (encN d (fT f) (fieldV v (fM f))):=⟨_,rfl⟩
   rw [← hq,concatTo_all (fun f=>fldN v q f) (sortT t.fields) (sortT_len _).symm,List.length_append]
   have h2:=flat_le (fun f=>fldN v q f) (fun f=>(fldN v q f).length) (sortT t.fields) fun _ _=>Nat.le_refl _
   have h3:((sortT t.fields).map fun f=>(fldN v q f).length).sum=(t.fields.map fun f=>(fldN v q f).length).sum:=((List.mergeSort_perm t.fields leF).map _).sum_nat
   have h4:=sum_inj (fun x=>1100 * sV c x) v.fields t.fields (fun f=>(fldN v q f).length) hnd fun f hf=>by
    show (fldN v q f).length≤if 0≤findI v (fM f) then 1100 * sV c (fieldV v (fM f)) else 0
    by_cases hF:0≤findI v (fM f)
    ·rw [if_pos hF,fldN,if_pos ⟨by omega,hF⟩]
     obtain ⟨hm,hT⟩:=hasT_fld hh hk hnd hf hF
     have hnum:=ownT_num hto.1 (.inl hk) hf
     have hx:fieldV v (fM f) ∈ kz v:=by rw [hkids];exact List.mem_map_of_mem (f:=(·.2)) hm
     have h5:=kid _ hx _ (Ty.ok_field hto (.inl hk) hf) hT
     have h6:=sum_ge (sV c) hx
     have h7:=putN_le9 (n:=(fNum f).toNat) (by omega)
     have h8:=putN_le9 (n:=(encN d (fT f) (fieldV v (fM f))).length) (by omega)
     rw [hq]
     simp only [wholeN,List.length_append]
     omega
    ·rw [if_neg hF,fldN,if_neg (fun z=>hF z.2)];exact Nat.le_refl _
   have h9:(v.fields.map fun x=>(1100 * sV c x.2)).sum=1100 * ((kz v).map (sV c)).sum:=by
    rw [hkids,← sum_mul,List.map_map];rfl
   rw [h9] at h4
   omega
  split
  ·have hk:t.kind=10:=‹_›
   have h1:=V.ok_list hown (by omega)
   have hxl:v.list.getD 0 default ∈ v.list:=gD (by omega)
   obtain ⟨h0,hT⟩:=hasT_var hh hk
   have hfm:=getTF_mem h0
   have hnum:=ownT_num hto.1 (.inr hk) hfm
   have hkids:kz v=v.list:=by simp only [kz];rw [if_pos (by omega)]
   have hx:v.list.getD 0 default ∈ kz v:=by rw [hkids];exact hxl
   have h5:=kid _ hx _ (Ty.ok_field hto (.inr hk) hfm) hT
   have h6:=sum_ge (sV c) hx
   have h7:=putN_le9 (n:=(fNum (gT t (bQ v.text))).toNat) (by omega)
   have h8:=putN_le9 (n:=(encN d (fT (gT t (bQ v.text))) (v.list.getD 0 default)).length) (by omega)
   simp only [wholeN,List.length_append]
   omega
  ·simp only [List.length_nil];omega
def encE (e d c:Nat) (t:Ty) (v:V):Int:=if chkT e d t≠0 then chkT e d t else if accV c d t v=false then 18 else 0
def encS (e d c:Nat) (t:Ty) (v:V):ByteArray:=if encE e d c t v=0 then baL (encN d t v) else ⟨#[]⟩
theorem accV_size {c d:Nat} {t:Ty} {v:V} (h:accV c d t v=true):sV c v≤4096:=by
 simp only [accV,Bool.and_eq_true,decide_eq_true_eq] at h
 exact chk_size h.1
theorem Encode_ok (e d c:Nat) (t:Ty) (v:V) (he:e+1≤1073741824) (ht:Ty.le (e+1) d t) (hv:V.le c v) (hc:c≤1073741824) :
 Af Tryz.prog 16 [encT (e+1) d .any fun _=>t,encV c .any fun _=>v] [] (.tup [.str fun _=>encS (e+1) d c t v,.int .i64 fun _=>encE (e+1) d c t v]) []:=by
 obtain ⟨q,hq⟩:∃ q,q=encN d t v:=⟨_,rfl⟩
 (apply Af.of tF mF [.tmp 4,.tmp 5] kp16 [(0,[(0,.nil,[]),(1,.nil,[])]),(1,[(1,.int .i64 fun _=>chkT (e+1) d t,[])]),(4,[(2,.bool fun _=>decide (chkT (e+1) d t=0) && accV c d t v,[])]),(6,[(2,.aref 1000 1 fun _=>q.length,outO q 1)])] Tryz.func16 (fun _=>?_);(any_goals ((with_reducible refine wI ?_);cbv;(try dsimp only [nc] at *);(repeat' (with_reducible first|exact aO|exact oN|refine oC ?_ ?_|refine VC.mk rfl ?_ ?_ ?_|(apply Ca.mk<;>intro _)|(apply Cv.mk<;>intro zq<;>(try simp only [nc,cl] at zq)<;>(try simp only [bl,dl] at zq)<;>(revert zq;intro _))|((first|apply xE|apply uE);cbv;(try dsimp only [nc] at *)))))))
 (any_goals ((with_reducible refine bZ ?_)<;>exact (schemaCheck_ok e d t he ht)))
 (any_goals ((with_reducible refine bZ ?_)<;>exact (Accepts_ok e d c t v he ht hv hc)))
 any_goals (with_reducible refine nO ?_)<;>exact (by
  have h0:chkT (e+1) d t=0:=‹_›
  have hA:accV c d t v=true:=And.right ‹chkT (e+1) d t=0∧accV c d t v=true›
  have hto:=chkT_ok ht h0
  have hsz:=accV_size hA
  have hA2:=hA
  simp only [accV,Bool.and_eq_true,decide_eq_true_eq] at hA2
  have hvo:=V.ok_of_chk hA2.1
  have hlen:=encN_len (e+1) d c t v hto hv hvo (by omega) hA2.2
  rw [hq]
  exact (write_ok (e+1) d c t v ht hto hv hvo hA2.2).nil (by omega))
 ((all_goals (try (with_reducible ((first|refine rE ?_|refine nE ?_);(focus (cbv;(try dsimp only [nc] at *);(try simp only [wl,nc]);(repeat' (with_reducible apply And.intro));all_goals (try exact wZ)))))));(all_goals (try ((with_reducible rw [aC]);(try simp only [wl,nc]);(repeat' (with_reducible apply And.intro));(all_goals (try exact cZ))))))
 all_goals first
  | exact fun i _=>isByte_bytF q i
  | (rw [bytesA_bytF _ _ rfl,hq];simp only [encS,encE];grind)
  | (simp only [encS,encE];grind)
def exT:Ty:=.mk 9 0 0 0 [] [] [(2,⟨#[119]⟩,1,.mk 4 0 9 0 [] [] [],[]),(1,⟨#[110]⟩,1,.mk 2 0 9 0 [] [] [],[])]
def exV:V:=.mk 9 0 0 ⟨#[]⟩ [] [(⟨#[110]⟩,.mk 2 4 0 ⟨#[]⟩ [] []),(⟨#[119]⟩,.mk 4 0 0 ⟨#[103,111,108,100]⟩ [] [])]
theorem exT_le:Ty.le 1 2 exT:=by
 simp [Ty.le,exT,Ty.words,Ty.elem,Ty.fields,fM,fDef,fT];decide
theorem exV_le:V.le 2 exV:=by
 simp [V.le,exV,V.list,V.fields,V.text];decide
theorem ex_chkT:chkT 1 2 exT=0:=by kernel_rfl
theorem ex_chk:chk 2 exV=0:=by kernel_rfl
theorem ex_has:hasT 2 exT exV=true:=by kernel_rfl
theorem ex_sort:sortT exT.fields=[(1,⟨#[110]⟩,1,.mk 2 0 9 0 [] [] [],[]),(2,⟨#[119]⟩,1,.mk 4 0 9 0 [] [] [],[])]:=by
 simp [sortT,exT,Ty.fields,List.mergeSort,List.MergeSort.Internal.splitInTwo,List.merge,leF,fNum]
 rfl
theorem ex_enc:encN 2 exT exV=[2,1,1,8,2,5,4,103,111,108,100]:=by
 show putN 2++cT (fun i=>fldN exV (fun f=>wholeN (encN 1 (fT f) (fieldV exV (fM f)))) ((sortT exT.fields).getD i default)) 2=_
 rw [ex_sort]
 kernel_rfl
theorem ex_put:putN 300=[172,2]:=by kernel_rfl
theorem ex_encE:encE 1 2 2 exT exV=0:=by simp [encE,accV,ex_chkT,ex_chk,ex_has]
theorem ex_encS:encS 1 2 2 exT exV=⟨#[2,1,1,8,2,5,4,103,111,108,100]⟩:=by
 simp only [encS,ex_encE,ex_enc]
 rfl
theorem ex_putS:putS 300=⟨#[172,2]⟩:=by
 show baL (putN 300)=_
 rw [ex_put];rfl
theorem example_ok:Af Tryz.prog 37 [] [] (encT 1 2 .any fun _=>exT) []:=by
 (apply Af.of tF mF [.cell 0 26] kp37 [] Tryz.func37 (fun _=>?_);(any_goals ((with_reducible refine wI ?_);cbv;(try dsimp only [nc] at *);(repeat' (with_reducible first|exact aO|exact oN|refine oC ?_ ?_|refine VC.mk rfl ?_ ?_ ?_|(apply Ca.mk<;>intro _)|(apply Cv.mk<;>intro zq<;>(try simp only [nc,cl] at zq)<;>(try simp only [bl,dl] at zq)<;>(revert zq;intro _))|((first|apply xE|apply uE);cbv;(try dsimp only [nc] at *)))))))
 ((all_goals (try (with_reducible ((first|refine rE ?_|refine nE ?_);(focus (cbv;(try dsimp only [nc] at *);(try simp only [wl,nc]);(repeat' (with_reducible apply And.intro));all_goals (try exact wZ)))))));(all_goals (try ((with_reducible rw [aC]);(try simp only [wl,nc]);(repeat' (with_reducible apply And.intro));(all_goals (try exact cZ))))))
 intro i hi
 have hi2:i=0∨i=1:=by omega
 rcases hi2 with rfl|rfl
 all_goals
  refine ⟨rfl,fun _=>rfl,fun w D B j av av' u h1 h2 h=>?_⟩
  match j with
  | 0|1|2|3|4|5|6 =>
   cases Option.some.inj h1;cases Option.some.inj h2;exact h
  | 7|8|9|10 =>
   cases Option.some.inj h1;cases Option.some.inj h2
   cases h
   exact .empty _ _ _ _ none 0 rfl (Nat.zero_le _)
  | n+11=>cases h1
theorem nf_cellsTG {t:Unit→Ty} {L F:(Unit→Nat)→List AV} (hL:∀ i,∀ av ∈ L fun _=>i,NF av) (hF:∀ i,∀ av ∈ F fun _=>i,NF av):∀ av ∈ cellsTG .any t L F,NF av:=fun av h=>by
 simp only [cellsTG,List.mem_cons,List.not_mem_nil,or_false] at h
 rcases h with rfl|rfl|rfl|rfl|rfl|rfl|rfl
 ·exact .int _ _
 ·exact .int _ _
 ·exact .int _ _
 ·exact .int _ _
 ·exact .slc fun i _ av h=>by
   simp only [wordsF,List.mem_cons,List.not_mem_nil,or_false] at h
   subst h;exact .str _
 ·exact .slc fun i _ av h=>hL i av h
 ·exact .slc fun i _ av h=>hF i av h
theorem nf_cellsT (e:Nat):∀ (d:Nat) (t:Unit→Ty),∀ av ∈ cl' e d .any t,NF av
 | 0,t=>nf_cellsTG (fun i av h=>by simp [subT] at h) (fun i av h=>by simp [subT] at h)
 | d + 1,t=>nf_cellsTG (fun i av h=>nf_cellsT e d _ av h) (fun i av h=>by
  simp only [subT,List.mem_cons,List.mem_append,List.not_mem_nil,or_false] at h
  rcases h with rfl|rfl|rfl|h|rfl
  ·exact .int _ _
  ·exact .str _
  ·exact .int _ _
  ·exact nf_cellsT e d _ av h
  ·exact .slc fun i _ av h=>nf_cells e _ av h)
theorem nf_encT (e d:Nat) (t:Unit→Ty):NF (encT e d .any t):=.agg (nf_cellsT e d t)
theorem known_ok:Af Tryz.prog 13 [] [] (.bool fun _=>true) []:=by
 have hE:=Encode_ok 0 2 2 exT exV (by decide) exT_le exV_le (by decide)
 rw [show (0:Nat)+1=1 from rfl,ex_encE,ex_encS] at hE
 have hP:=Put_ok 300
 simp only [if_neg (show ¬ numBad 300 by decide),ex_putS] at hP
 (apply Af.of tF mF [.tmp 0] kp13 [(2,[(0,encT 1 2 .any fun _=>exT,[]),(2,.tup [.str fun _=>⟨#[2,1,1,8,2,5,4,103,111,108,100]⟩,.int .i64 fun _=>0],[(1001001005,.arr false 73 7 0 (fun _=>2) (fF 1 .any fun _=>exV.fields))])]),(3,[(0,.tup [.str fun _=>⟨#[172,2]⟩,.int .i64 fun _=>0],[])])] Tryz.func13 (fun _=>?_);(any_goals ((with_reducible refine wI ?_);cbv;(try dsimp only [nc] at *);(repeat' (with_reducible first|exact aO|exact oN|refine oC ?_ ?_|refine VC.mk rfl ?_ ?_ ?_|(apply Ca.mk<;>intro _)|(apply Cv.mk<;>intro zq<;>(try simp only [nc,cl] at zq)<;>(try simp only [bl,dl] at zq)<;>(revert zq;intro _))|((first|apply xE|apply uE);cbv;(try dsimp only [nc] at *)))))))
 ·exact nO example_ok
 ·refine nO ?_
  dsimp only
  refine Af.wN (args2:=[encT 1 2 .any fun _=>exT,.agg [.int .i64 fun _=>9,.int .i64 fun _=>0,.int .i64 fun _=>0,.str fun _=>⟨#[]⟩,.nil,.aref 1001001005 0 fun _=>2]]) (objs2:=[(1001001005,.arr false 73 7 0 (fun _=>2) (fF 1 .any fun _=>exV.fields))])
   (hE.borrow ?_ (by simp [AV.pureL,encT,cl',cellsTG,encV,cells,cellsG]) (fun av h=>?_) (by simp [AV.pureL]) (.tup fun c hc=>?_)) ?_
  ·(focus (cbv;(try dsimp only [nc] at *);(try simp only [wl,nc]);(repeat' (with_reducible apply And.intro));all_goals (try exact wZ)))
  ·simp only [List.mem_cons,List.not_mem_nil,or_false] at h
   rcases h with rfl|rfl
   ·exact nf_encT _ _ _
   ·exact nf_encV _ _
  ·simp only [List.mem_cons,List.not_mem_nil,or_false] at hc
   rcases hc with rfl|rfl
   ·exact .str _
   ·exact .int _ _
  ·(focus (cbv;(try dsimp only [nc] at *);(try simp only [wl,nc]);(repeat' (with_reducible apply And.intro));all_goals (try exact wZ)))
   intro i hi
   have hi2:i=0∨i=1:=by omega
   rcases hi2 with rfl|rfl
   all_goals
    refine ⟨rfl,fun _=>rfl,fun w D B j av av' u h1 h2 h=>?_⟩
    match j with
    | 0|1|2|3|4 =>
     cases Option.some.inj h1;cases Option.some.inj h2;exact h
    | 5|6 =>
     cases Option.some.inj h1;cases Option.some.inj h2
     cases h
     exact .empty _ _ _ _ none 0 rfl (Nat.zero_le _)
    | n+7=>cases h1
 ·exact nO hP
 ((all_goals (try (with_reducible ((first|refine rE ?_|refine nE ?_);(focus (cbv;(try dsimp only [nc] at *);(try simp only [wl,nc]);(repeat' (with_reducible apply And.intro));all_goals (try exact wZ)))))));(all_goals (try ((with_reducible rw [aC]);(try simp only [wl,nc]);(repeat' (with_reducible apply And.intro));(all_goals (try exact cZ))))))
end Go.Ai
