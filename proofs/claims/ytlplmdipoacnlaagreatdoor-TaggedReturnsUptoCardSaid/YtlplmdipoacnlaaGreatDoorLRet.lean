/- TaggedReturns. -/
import Derived.Test.YtlplmdipoacnlaaGreatDoorRdC
import Derived.Test.YtlplmdipoacnlaaGreatDoorDecP
import Derived.Test.YtlplmdipoacnlaaGreatDoorEncE
import Derived.Test.YtlplmdipoacnlaaGreatDoorEncC
import Derived.Test.YtlplmdipoacnlaaGreatDoorWrB
import Derived.Test.YtlplmdipoacnlaaGreatDoorTot
import Derived.Test.YtlplmdipoacnlaaGreatDoorReadT
set_option linter.all false
namespace Go.Ai
open Go Go.Proofs
set_option maxRecDepth 100000
set_option maxHeartbeats 4000000
theorem sizeV_any:∀ (c d:Nat) (v:V),V.le c v→sizeV d v≤sizeV c v
  | _,0,_,_=>Nat.zero_le _
  | 0,_+1,_,h=>h.elim
  | c + 1,d+1,v,h=>by
    simp only [sizeV]
    have:∀ l:List V,(∀ x ∈ l,V.le c x)→(l.map (sizeV d)).sum≤(l.map (sizeV c)).sum:=by
      intro l
      induction l with
      | nil=>intro _;exact Nat.le_refl _
      | cons x l ih =>
        intro hl
        have h1:=sizeV_any c d x (hl x (List.mem_cons_self ..))
        have h2:=ih fun y hy=>hl y (List.mem_cons_of_mem _ hy)
        simp only [List.map_cons,List.sum_cons];omega
    have:=this (kids v) fun x hx=>kids_le h hx
    omega
theorem strN_256 (s:ByteArray):∀ x ∈ strN s,x<256:=fun x hx=>by
  obtain ⟨y,_,rfl⟩:=List.mem_map.1 hx
  exact y.toNat_lt
theorem concat_256 {g:Nat→List Nat}:∀ n,(∀ i,i<n→∀ x ∈ g i,x<256)→∀ x ∈ concatTo g n,x<256
  | 0,_=>fun x hx=>by simp [concatTo] at hx
  | n+1,h=>fun x hx=>by
    simp only [concatTo] at hx
    rcases List.mem_append.1 hx with hx|hx
    · exact concat_256 n (fun i hi=>h i (by omega)) x hx
    · exact h n (by omega) x hx
theorem whole_256 {l:List Nat} (h:∀ x ∈ l,x<256):∀ x ∈ wholeN l,x<256:=fun x hx=>by
  rcases List.mem_append.1 hx with hx|hx
  · exact putN_256 _ x hx
  · exact h x hx
theorem encN_256 (e:Nat):∀ (d c:Nat) (t:Ty) (v:V),Ty.ok e d t→V.le c v→V.ok c v→hasT d t v=true→∀ x ∈ encN d t v,x<256
  | 0,_,_,_,h,_,_,_=>h.elim
  | d + 1,c,t,v,hto,hv,hvo,hh=>by
    obtain ⟨c,rfl⟩:=V.le_pos hv
    have hvk:=hasT_kind hh
    have hown:=V.ok_self hvo
    simp only [encN]
    split
    · have hb:=V.ok_bool hown (by omega)
      intro x hx;simp at hx;omega
    split
    · exact putN_256 _
    split
    · intro x hx
      rcases List.mem_append.1 hx with hx|hx
      · exact putN_256 _ x hx
      · exact strN_256 _ x hx
    split
    · have hk:t.kind=8:=‹_›
      have h1:=ownT_elem hto.1 hk
      have hx:t.elem.getD 0 default ∈ t.elem:=getD_in (by omega)
      intro y hy
      rcases List.mem_append.1 hy with hy|hy
      · exact putN_256 _ y hy
      · refine concat_256 _ (fun i hi=>?_) y hy
        have hxl:v.list.getD i default ∈ v.list:=getD_in hi
        exact encN_256 e d c _ _ (Ty.ok_elem hto hk hx) (hv.2.2.2.1 _ hxl) (V.ok_kid hvo (by simp only [kids];rw [if_pos (by omega)];exact hxl)) (hasT_list hh hk _ hxl)
    split
    · have hk:t.kind=9:=‹_›
      have hnd:=(ownT_nodup hto.1 (.inl hk)).2
      intro y hy
      rcases List.mem_append.1 hy with hy|hy
      · exact putN_256 _ y hy
      · refine concat_256 _ (fun i hi=>?_) y hy
        have hfm:(sortT t.fields).getD i default ∈ t.fields:=sortT_mem.1 (getD_in (by rw [sortT_len];exact hi))
        intro z hz
        unfold fldN at hz
        split at hz
        · rename_i q
          rcases List.mem_append.1 hz with hz|hz
          · exact putN_256 _ z hz
          · obtain ⟨hm,hT⟩:=hasT_fld hh hk hnd hfm q.2
            exact whole_256 (encN_256 e d c _ _ (Ty.ok_field hto (.inl hk) hfm) (hv.2.2.2.2 _ hm).2 (V.ok_kid hvo (by simp only [kids];rw [if_neg (by omega),if_pos (by omega)];exact List.mem_map_of_mem (f:=(·.2)) hm)) hT) z hz
        · cases hz
    split
    · have hk:t.kind=10:=‹_›
      have h1:=V.ok_list hown (by omega)
      have hxl:v.list.getD 0 default ∈ v.list:=getD_in (by omega)
      obtain ⟨h0,hT⟩:=hasT_var hh hk
      intro y hy
      rcases List.mem_append.1 hy with hy|hy
      · exact putN_256 _ y hy
      · exact whole_256 (encN_256 e d c _ _ (Ty.ok_field hto (.inr hk) (getTF_mem h0)) (hv.2.2.2.1 _ hxl) (V.ok_kid hvo (by simp only [kids];rw [if_pos (by omega)];exact hxl)) hT) y hy
    · intro x hx;cases hx
theorem dec_back {e d c:Nat} {t:Ty} {v:V} {m:ByteArray} (hto:Ty.ok e d t) (hv:V.le c v) (hvo:V.ok c v) (hh:hasT d t v=true) (hz:(baL (encN d t v)++m).size≤536870912) :
    decV d t (rdAt (baL (encN d t v)++m) 0)=(v,rdAt (baL (encN d t v)++m) (baL (encN d t v)).size):=by
  have hb:=encN_256 e d c t v hto hv hvo hh
  have hg:(rdAt (baL (encN d t v)++m) 0).good:=rdAt_good (by omega) (by omega) (by omega)
  have hr:(rdAt (baL (encN d t v)++m) 0).room=encN d t v++strN m:=by
    show ((strN (baL (encN d t v)++m)).take (baL (encN d t v)++m).size).drop 0=_
    rw [List.drop_zero,List.take_of_length_le (by rw [strN_len];exact Nat.le_refl _)]
    have:strN (baL (encN d t v)++m)=strN (baL (encN d t v))++strN m:=by simp [strN,ByteArray.data_append]
    rw [this,strN_of hb]
  rw [dec_enc e d c t v hto hv hvo hh _ _ hg rfl hr]
  show (v,Rd.to _ _)=_
  simp only [Rd.to,rdAt,baL_size,Int.zero_add]
theorem decode_back {e d c:Nat} {t:Ty} {v:V} {m:ByteArray} (hck:chkT e d t=0) (hto:Ty.ok e d t) (hv:V.le c v) (hA:accV c d t v=true) (hz:(baL (encN d t v)++m).size≤536870912) :
    decodeV e d t (baL (encN d t v)++m)=if m.size=0 then (v,0,0) else (default,((baL (encN d t v)).size:Int),5):=by
  have hA2:=hA
  simp only [accV,Bool.and_eq_true,decide_eq_true_eq] at hA2
  have hs:=sizeV_any c (d+e) v hv
  have hs2:=accV_size hA
  unfold decodeV
  rw [if_neg (by omega),dec_back hto hv (V.ok_of_chk hA2.1) hA2.2 hz]
  have hsz:(baL (encN d t v)++m).size=(baL (encN d t v)).size+m.size:=ByteArray.size_append
  by_cases hm:m.size=0
  · have hl:longR (rdAt (baL (encN d t v)++m) (baL (encN d t v)).size)=rdAt (baL (encN d t v)++m) (baL (encN d t v)).size:=by
      unfold longR
      rw [if_neg]
      show ¬ (((baL (encN d t v)).size:Int)<((baL (encN d t v)++m).size:Nat))
      omega
    simp only [hl]
    rw [if_neg (by show ¬ (0:Int)≠0;simp),if_neg (by omega),if_pos hm]
  · have hl:longR (rdAt (baL (encN d t v)++m) (baL (encN d t v)).size)=⟨baL (encN d t v)++m,((baL (encN d t v)).size:Int),((baL (encN d t v)++m).size:Nat),((baL (encN d t v)).size:Int),5⟩:=by
      unfold longR
      rw [if_pos (by show (((baL (encN d t v)).size:Int)<((baL (encN d t v)++m).size:Nat));omega)]
      rfl
    simp only [hl]
    rw [if_pos (by decide),if_neg hm]
theorem equal_up {M c:Nat} {v:V} (hv:V.le c v) (hc:c≤M):AFun Tryz.prog 34 [encV M .any fun _=>v,encV c .any fun _=>v] [] (.bool fun _=>true) []:=by
  obtain ⟨c,rfl⟩:=V.le_pos hv
  obtain ⟨M,rfl⟩:∃ k,M=k+1:=⟨M - 1,by omega⟩
  have h:=refEqual_ok (M+1) v v (V.le_mono hv hc) (V.le_mono hv hc)
  have hr:(cmpV (M+1) v v == 0)=true:=by rw [(cmpV_cmp _).refl];rfl
  rw [hr] at h
  refine AFun.weak_in h ?_
  (focus (cbv;(try dsimp only [nc] at *);(try simp only [wl,nc]);(repeat' (with_reducible apply And.intro));all_goals (try exact wZ)))
  · exact fun i hi=>cells_mono (V.le_list hv hi) (by omega)
  · exact fun i hi=>(cells_mono (V.le_field hv hi) (by omega)).cons _
theorem Returns_ok (e d c:Nat) (t:Ty) (v:V) (m:ByteArray) (he:d+(e+1)≤1073741824) (hcM:c≤d+(e+1)) (ht:Ty.le (e+1) d t) (hz:Ty.sz (e+1) d t) (hv:V.le c v) (hc:c≤1073741824) (hs:sizeV c v≤1073741824) (hm:m.size≤1048576) :
    AFun Tryz.prog 9 [encT (e+1) d .any fun _=>t,encV c .any fun _=>v,.str fun _=>m] [] (.bool fun _=>true) []:=by
  have hS:=Small_ok (e+1) d t ht
  have hSV:=SmallValue_ok c v hv
  have hE:=Encode_ok e d c t v (by omega) ht hv hc
  have hCk:=refCheckT_ok e d t (by omega) ht hz
  obtain ⟨a,ha⟩:∃ a,a=(smallT (e+1) d 12 t 200).1:=⟨_,rfl⟩
  obtain ⟨b,hb⟩:∃ b,b=(smallV c 12 v 300).1:=⟨_,rfl⟩
  obtain ⟨S,hSS⟩:∃ S,S=encS (e+1) d c t v:=⟨_,rfl⟩
  obtain ⟨X,hX⟩:∃ X,X=encE (e+1) d c t v:=⟨_,rfl⟩
  obtain ⟨K,hK⟩:∃ K,K=chkT (e+1) d t:=⟨_,rfl⟩
  obtain ⟨A,hA⟩:∃ A,A=accV c d t v:=⟨_,rfl⟩
  have hXe:K=0→A=true→X=0:=fun h1 h2=>by
    rw [hX,encE,← hK,← hA,if_neg (by omega),if_neg (by rw [h2];simp)]
  have hSe:K=0→A=true→S=baL (encN d t v)∧S.size≤268435456:=fun h1 h2=>by
    have h3:S=baL (encN d t v):=by rw [hSS,encS,← hX,if_pos (hXe h1 h2)]
    refine ⟨h3,?_⟩
    rw [hA] at h2
    have h4:=accV_size h2
    simp only [accV,Bool.and_eq_true,decide_eq_true_eq] at h2
    have:=encN_len (e+1) d c t v (chkT_ok ht (by rw [← hK];exact h1)) hv (V.ok_of_chk h2.1) (by omega) h2.2
    rw [h3,baL_size];omega
  have hAc:K=0→AFun Tryz.prog 19 [encT (e+1) d .any fun _=>t,encV c .any fun _=>v] [] (.bool fun _=>A) []:=fun h=>by
    rw [hA];exact refAccepts_ok (e+1) d c t v ht (chkT_ok ht (by rw [← hK];exact h)) hv hc hs
  have hDec:∀ n:ByteArray,n.size≤1048576→K=0→A=true→AFun Tryz.prog 33 [encT (e+1) d .any fun _=>t,.str fun _=>S++n] []
      (.tup [encV (d+(e+1)) .any fun _=>if n.size=0 then v else default,.int .i64 fun _=>if n.size=0 then 0 else (S.size:Int),.int .i64 fun _=>if n.size=0 then 0 else 5]) []:=fun n hn h1 h2=>by
    obtain ⟨q1,q2⟩:=hSe h1 h2
    have hto:=chkT_ok ht (by rw [← hK];exact h1)
    have hsz:(S++n).size≤536870912:=by rw [ByteArray.size_append];omega
    rw [hA] at h2
    have hA2:=h2
    simp only [accV,Bool.and_eq_true,decide_eq_true_eq] at hA2
    have hb:=dec_back (m:=n) hto hv (V.ok_of_chk hA2.1) hA2.2 (by rw [← q1];exact hsz)
    rw [← q1] at hb
    have hD:=Decode_ok e d t he ht (S++n) hsz fun _ _=>by
      rw [hb]
      have:=sizeV_any c (d+(e+1)) v hv
      show sizeV _ v≤_
      omega
    have hd:=decode_back (m:=n) (by rw [← hK];exact h1) hto hv h2 (by rw [← q1];exact hsz)
    rw [← q1] at hd
    rw [hd] at hD
    by_cases hn0:n.size=0
    · simp only [if_pos hn0] at hD ⊢;exact hD
    · simp only [if_neg hn0] at hD ⊢;exact hD
  have hD0:K=0→A=true→AFun Tryz.prog 33 [encT (e+1) d .any fun _=>t,.str fun _=>S] [] (.tup [encV (d+(e+1)) .any fun _=>v,.int .i64 fun _=>0,.int .i64 fun _=>0]) []:=fun h1 h2=>by
    have h:=hDec ⟨#[]⟩ (Nat.zero_le _) h1 h2
    have h0:S++(⟨#[]⟩:ByteArray)=S:=by
      apply ByteArray.ext;rw [ByteArray.data_append];simp
    rw [h0] at h
    exact h
  have hD1:=hDec m hm
  have hEq:=equal_up hv hcM
  rw [← ha] at hS
  rw [← hb] at hSV
  rw [← hSS,← hX] at hE
  rw [← hK] at hCk
  clear ha hb hSS hX hK hA hDec
  obtain ⟨M,hM⟩:∃ M,d+(e+1)=M:=⟨_,rfl⟩
  rw [hM] at hD0 hD1 hEq
  clear hM hcM he
  obtain ⟨d,rfl⟩:=Ty.le_pos ht
  obtain ⟨c,rfl⟩:=V.le_pos hv
  (apply AFun.of T4_ok mixed4 [.tmp 6] kp9 [(1,[(0,.bool fun _=>true,[]),(4,.bool fun _=>a,[]),(9,.bool fun _=>b,[]),(19,.int .i64 fun _=>K,[]),(25,.bool fun _=>A,[])]),(2,[(0,.bool fun _=>true,[])]),(3,[(2,.tup [.str fun _=>S,.int .i64 fun _=>X],[])]),
    (4,[(2,.tup [encV M .any fun _=>v,.int .i64 fun _=>0,.int .i64 fun _=>0],[])]),(5,[(5,.bool fun _=>true,[])]),
    (7,[(4,.tup [encV M .any fun _=>if m.size=0 then v else default,.int .i64 fun _=>if m.size=0 then 0 else (S.size:Int),.int .i64 fun _=>if m.size=0 then 0 else 5],[])]),(8,[(4,.bool fun _=>isNull (if m.size=0 then v else default),[])])] Tryz.func9 (fun _=>?_);(any_goals ((with_reducible refine wk_id ?_);cbv;(try dsimp only [nc] at *);(repeat' (with_reducible first|exact all_nil.2 trivial|exact ob_nil|refine ob_cons ?_ ?_|refine VC.mk rfl ?_ ?_ ?_|refine CondAny.mk (fun _=>?_) (fun _=>?_)|(refine CondVC.mk ?_ ?_<;>intro zq<;>(try simp only [nc,cl] at zq)<;>(try simp only [bl,dl] at zq)<;>(revert zq;intro _))|((first|refine end_exit ?_|refine end_out ?_);cbv;(try dsimp only [nc] at *)))))))
  (any_goals ((with_reducible first|refine hob_none ?_|refine hob_some (fun _=>?_))<;>exact known_ok))
  (any_goals ((with_reducible first|refine hob_none ?_|refine hob_some (fun _=>?_))<;>exact hS))
  (any_goals ((with_reducible first|refine hob_none ?_|refine hob_some (fun _=>?_))<;>exact hSV))
  (any_goals ((with_reducible first|refine hob_none ?_|refine hob_some (fun _=>?_))<;>exact hE))
  (any_goals ((with_reducible first|refine hob_none ?_|refine hob_some (fun _=>?_))<;>exact hCk))
  any_goals (with_reducible refine hob_some (fun q=>?_))<;>exact hAc (by simp at q;exact q.2)
  all_goals (try (have hq0:=‹(_∧K=0)∧A=true›))
  all_goals (try (have k1:=hq0.1.2))
  all_goals (try (have k2:=hq0.2))
  all_goals (try (have hx0:=hXe k1 k2))
  all_goals (try (have hs0:=(hSe k1 k2).2))
  any_goals (with_reducible refine hob_none ?_)<;>first
    | exact hD0 k1 k2
    | exact hD1 k1 k2
  (any_goals ((with_reducible first|refine hob_none ?_|refine hob_some (fun _=>?_));(try dsimp only);(have q:=hEq;refine AFun.weak_in q ?_;clear q);(focus (cbv;(try dsimp only [nc] at *);(try simp only [wl,nc]);(repeat' (with_reducible apply And.intro));all_goals (try exact wZ)))))
  (any_goals ((with_reducible first|refine hob_none ?_|refine hob_some (fun _=>?_))<;>exact (Null_ok _ _)))
  ((all_goals (try (with_reducible ((first|refine end_ret ?_|refine end_normal ?_);(focus (cbv;(try dsimp only [nc] at *);(try simp only [wl,nc]);(repeat' (with_reducible apply And.intro));all_goals (try exact wZ)))))));(all_goals (try ((with_reducible rw [all_cons]);(try simp only [wl,nc]);(repeat' (with_reducible apply And.intro));(all_goals (try exact cZ))))))
  · have:=‹((¬X=0∨False)∨¬True)∨¬True›
    simp [hx0] at this
  · intro h1 h2
    rw [h1,h2];rfl
  · by_cases hm0:m.size=0
    · rw [if_pos (decide_eq_true ((bytes_empty m).2 hm0))]
    · rw [if_neg (fun z=>hm0 ((bytes_empty m).1 (of_decide_eq_true z)))]
      simp only [if_neg hm0]
      have hn:isNull (default:V)=true:=rfl
      rw [hn]
      simp
end Go.Ai

namespace Go.Proofs.YtlplmdipoacnlaaGreatDoor
open Go Go.Ai Go.RowKit Go.ChangeShapes Go.WideShapes Go.ChangeAt
set_option maxRecDepth 100000
theorem rets_contract (H:Type) (enc:TypeId×Value→H) (W:World) (base:Nat) (args:Array Value) (ds gs:List (DataW H)) (before:List MemPlace)
    (hval:∀ (j:Nat) t v,Tryz.f9.params[j]? = some t→args[j]? = some v→Value.okWide Tryz.prog W .any base t v)
    (hW:DataW.Whole enc Tryz.prog Tryz.f9.params.toList Rows.taggedReturnsSpec.vars false W args.toList ds gs before) (hk:Rows.uptoSmall H (ds++gs)=true) (hL:laidMetH Tryz.prog Rows.taggedReturnsUptoRow.laid W) :
    Calls Tryz.prog 9 args W fun e W'=>∃ v,e=.returned v∧Rows.taggedReturnsSpec.post enc Tryz.prog Tryz.f9 false true false false W args v W':=by
  have hW':=hW
  obtain ⟨p,q,hA,hV,rfl,_,_⟩:=hW
  obtain rfl:=vars_nil hV
  rw [Tryz.params9] at hA hval
  obtain ⟨v0,vs0,d0,ds0,pa0,pb0,hargs,rfl,rfl,t0,r0⟩:=trodAll_cons hA
  obtain ⟨v1,vs1,d1,ds1,pa1,pb1,rfl,rfl,rfl,t1,r1⟩:=trodAll_cons r0
  obtain ⟨v2,vs2,d2,ds2,pa2,pb2,rfl,rfl,rfl,t2,r2⟩:=trodAll_cons r1
  obtain ⟨rfl,rfl,rfl⟩:=trodAll_nil r2
  obtain rfl:args=#[v0,v1,v2]:=by cases args;simp_all
  have hb:Rows.uptoBulkAll ([d0,d1,d2]++[])≤1048576:=of_decide_eq_true hk
  simp only [List.append_nil,Rows.uptoBulkAll] at hb
  obtain ⟨x0,h0,z0,a0⟩:=open_type t0 (by omega)
  obtain ⟨x1,h1,b1,a1⟩:=open_value t1 (by omega)
  obtain ⟨x2,rfl,rfl,_,_⟩:=Go.ChangeMaps.open_string Tryz.underlying9 (hval 2 9 v2 rfl rfl) t2
  have h2:x2.size≤1048576:=by simp only [Rows.uptoBulk,len_bytes] at hb;omega
  have a2:RD W (fun b=>b<W.heap.size) W.heap.size (.str fun _=>x2) (.string x2):=.str _
  refine (calls_law (Returns_ok 1048575 1048576 1048576 x0 x1 x2 (by omega) (by omega) h0 z0 h1 (by omega) (by omega) h2) rfl (tabs_of hL) fun i av hi=>?_).mono fun e W' ⟨he,hbel⟩=>⟨_,he,?_⟩
  · match i with
    | 0=>simp only [List.getElem?_cons_zero,Option.some.injEq] at hi;subst hi;exact a0
    | 1=>simp only [List.getElem?_cons_zero,List.getElem?_cons_succ,Option.some.injEq] at hi;subst hi;exact a1
    | 2=>simp only [List.getElem?_cons_zero,List.getElem?_cons_succ,Option.some.injEq] at hi;subst hi;exact a2
    | i+3=>simp at hi
  · refine post_law (s:=Rows.taggedReturnsSpec) rfl (by kernel_rfl) rfl ?_ hW' hbel
    rw [Tryz.params9]
    intro t ht
    have:t=26∨t=30∨t=9:=by simp at ht;grind
    rcases this with rfl|rfl|rfl
    · exact ⟨by kernel_rfl,of_decide_eq_true (by kernel_rfl)⟩
    · exact ⟨by kernel_rfl,of_decide_eq_true (by kernel_rfl)⟩
    · exact ⟨by kernel_rfl,of_decide_eq_true (by kernel_rfl)⟩
theorem rets_reads (os:Os) {H:Type} (enc:TypeId×Value→H):∃ places,DataW.whole enc Tryz.prog ((laidWorld os).forCall (fun _ _=>0) ⟨#[],#[.agg #[.int .i64 0,.int .i64 0,.int .i64 0,.int .i64 0,.slice none 0 0,.slice none 0 0,.slice none 0 0],.agg #[.int .i64 0,.int .i64 0,.int .i64 0,.string ⟨#[]⟩,.slice none 0 0,.slice none 0 0],.string ⟨#[]⟩],[]⟩).memory Tryz.f9.params.toList Rows.taggedReturnsSpec.vars false (#[.agg #[.int .i64 0,.int .i64 0,.int .i64 0,.int .i64 0,.slice none 0 0,.slice none 0 0,.slice none 0 0],.agg #[.int .i64 0,.int .i64 0,.int .i64 0,.string ⟨#[]⟩,.slice none 0 0,.slice none 0 0],.string ⟨#[]⟩]:Array Value).toList 8=some ([.agg [.lit (.int .i64 0),.lit (.int .i64 0),.lit (.int .i64 0),.lit (.int .i64 0),.nil,.nil,.nil],.agg [.lit (.int .i64 0),.lit (.int .i64 0),.lit (.int .i64 0),.lit (.string []),.nil,.nil],.lit (.string [])],[],places) :=
  ⟨[],by kernel_rfl⟩
theorem rets_laid (os:Os):laidMet Tryz.prog Rows.taggedReturnsUptoRow.laid ((laidWorld os).forCall (fun _ _=>0) ⟨#[],#[.agg #[.int .i64 0,.int .i64 0,.int .i64 0,.int .i64 0,.slice none 0 0,.slice none 0 0,.slice none 0 0],.agg #[.int .i64 0,.int .i64 0,.int .i64 0,.string ⟨#[]⟩,.slice none 0 0,.slice none 0 0],.string ⟨#[]⟩],[]⟩).memory :=
  laidMet_of_run' 8 (by kernel_rfl) (by kernel_rfl)
theorem rets_lifted (os:Os) (started:os.Started) (H:Type) (enc:TypeId×Value→H) (F:Stop.Interp) :
    ReturnsInHanded {} Tryz.checked os 9 .any ((Rows.OpenSpec.upto Rows.taggedReturnsSpec).preRow enc Tryz.prog Tryz.f9 Rows.taggedReturnsUptoRow.domain false Rows.taggedReturnsUptoRow.laid) (((Rows.OpenSpec.upto Rows.taggedReturnsSpec).at F).post enc Tryz.prog Tryz.f9 false true false false):=by
  obtain ⟨places,hx⟩:=rets_reads os enc
  refine returnsInHanded_of_row (C:=Tryz.checked) (s:=Rows.OpenSpec.upto Rows.taggedReturnsSpec) own4 started (by kernel_rfl) Tryz.func9
    (witness_row_at (enc:=enc) (C:=Tryz.checked) false (laidWorld os) #[.agg #[.int .i64 0,.int .i64 0,.int .i64 0,.int .i64 0,.slice none 0 0,.slice none 0 0,.slice none 0 0],.agg #[.int .i64 0,.int .i64 0,.int .i64 0,.string ⟨#[]⟩,.slice none 0 0,.slice none 0 0],.string ⟨#[]⟩] rfl (by kernel_rfl) (by kernel_rfl) (by kernel_rfl)
      (OpenSpec.preRow_of_cond 8 hx (by kernel_rfl) (fun k hk=>by cases hk;kernel_rfl) (by kernel_rfl) (rets_laid os))) ?_
  intro W base args ds gs before hval hW _ hcond _ hL _ _
  exact rets_contract H enc W base args ds gs before hval hW (hcond _ rfl) hL
theorem rets_said:Rows.TaggedReturnsUptoSaid :=
  OpenClaim.holds_of_cond 9 Tryz.f9 rfl rfl rfl rfl rfl rfl rfl ⟨rfl,rfl,rfl,rfl,rfl⟩ rfl rfl rfl rfl rfl (by kernel_rfl) Tryz.func9 (by kernel_rfl)
    (of_decide_eq_true (by kernel_rfl)) (by unfold Func.isWrapper;first|(rw [if_pos (by decide +kernel)];kernel_rfl)|(rw [if_neg (by decide +kernel)];exact ⟨rfl,rfl⟩))
    (fun os started H enc _ F=>by rw [OpenClaim.pre_eq_preRow];exact rets_lifted os started H enc F)
theorem rets_plain (f:FuncId) (fn:Func) (hf:Tryz.pinned.checked.prog.funcNamed Rows.taggedReturnsUptoRow.func=some f) (hfn:Tryz.pinned.checked.prog.funcs[f]? = some fn) :
    false=Tryz.pinned.checked.prog.looks []∧∀ (j:Nat) t,fn.params[j]? = some t→Tryz.pinned.checked.prog.wantsStandIn t=false:=by
  obtain rfl:f=9:=Option.some.inj ((show Tryz.prog.funcNamed Rows.taggedReturnsUptoRow.func=some 9 by kernel_rfl).symm.trans hf) |>.symm
  obtain rfl:fn=Tryz.f9:=(Option.some.inj (Tryz.func9.symm.trans hfn)).symm
  refine ⟨by kernel_rfl,fun j t ht=>?_⟩
  rw [Tryz.params9] at ht
  have hm:=Array.mem_of_getElem? ht
  have:t=26∨t=30∨t=9:=by simp at hm;grind
  rcases this with rfl|rfl|rfl
  · exact (show Tryz.prog.wantsStandIn 26=false by kernel_rfl)
  · exact (show Tryz.prog.wantsStandIn 30=false by kernel_rfl)
  · exact (show Tryz.prog.wantsStandIn 9=false by kernel_rfl)
theorem taggedReturns_holds:Rows.TaggedReturnsUptoCardSaid :=
  Claim7.holds_tied_plain_at .later [] _ _ _ _ rets_said (fun _ h=>by cases h) (by kernel_rfl) (fun _ h=>by cases h) taggedReturnsUpto_row_tie rfl ⟨rfl,rfl⟩ (by kernel_rfl) rfl rets_plain (by kernel_rfl)
#print axioms taggedReturns_holds
end Go.Proofs.YtlplmdipoacnlaaGreatDoor
