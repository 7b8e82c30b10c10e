/- Chapter 10: a field that a type does not have is skipped. -/
import Derived.Test.YtlplmdipoacnlaaGreatDoorDecP
import Derived.Test.YtlplmdipoacnlaaGreatDoorSkpD
import Derived.Test.YtlplmdipoacnlaaGreatDoorRetP
set_option linter.all false
namespace Go.Ai
open Go Go.Proofs
set_option maxRecDepth 100000
set_option maxHeartbeats 2000000
def parK (num:Int) (l:PL) (p:Rd):PL×Rd:=(l++[(num,p.all)],p.to p.fin)
theorem partA_eq (num:Int) (l:PL) (r:Rd) (h:r.good):partA num l r=partR (parK num) l r:=by
  unfold partA partR
  split
  · rfl
  · rename_i q
    have hg:=(subR_good h (by omega)).1
    have hl:longR (parK num l (subR r)).2=(parK num l (subR r)).2:=by
      unfold longR
      rw [if_neg]
      show ¬ (subR r).fin<(subR r).fin
      exact Int.lt_irrefl _
    rw [hl]
    have hb:backR (sub2 r) (parK num l (subR r)).2=sub2 r:=by
      unfold backR
      rw [if_neg]
      show ¬ (0:Int)≠0
      simp
    rw [hb]
    rfl
theorem fieldsA_eq:∀ (n:Nat) (last:Int) (l:PL) (r:Rd),r.good→fieldsA n last l r=fieldsR parK n last l r
  | 0,_,_,_,_=>rfl
  | n+1,last,l,r,h=>by
    have hs:=aft_step last h
    rw [fieldsA_succ,fieldsR,partA_eq _ _ _ hs.good,fieldsA_eq n _ _ _ (aft_part hs.good).1.good]
def Asc (l:PL):Prop:=(∀ b ∈ l,1≤b.1∧b.1≤9999)∧l.Pairwise fun a b=>a.1<b.1
theorem bytesP_flat (l:PL):bytesP l=(l.map fun b=>putN b.1.toNat++wholeN (strN b.2)).flatten:=by
  unfold bytesP
  congr 1
  refine List.map_congr_left fun b _=>?_
  simp only [partN,wholeN,sN]
theorem joined_256 (l:PL) (n:Nat):∀ x ∈ putN n++bytesP l,x<256:=fun x hx=>by
  rcases List.mem_append.1 hx with hx|hx
  · exact putN_256 _ x hx
  · exact bytesP_byte l x hx
theorem rd_joined {q:List Nat} (h:∀ x ∈ q,x<256) (hz:q.length≤536870912):(rdAt (baL q) 0).good∧(rdAt (baL q) 0).room=q++[]:=by
  refine ⟨rdAt_good (by omega) (by omega) (by rw [bS];omega),?_⟩
  show ((strN (baL q)).take (baL q).size).drop 0=_
  rw [List.drop_zero,List.take_of_length_le (by rw [sN];exact Nat.le_refl _),strN_of h,List.append_nil]
theorem fields_joined {γ:Type} (eff:Int×ByteArray→List γ) {k:Int→List γ→Rd→List γ×Rd} {l:PL} (ha:Asc l) {r:Rd} (h:r.good) (he:r.e=0) (hr:r.room=bytesP l++[])
    (hk:∀ b ∈ l,∀ (acc:List γ) (p:Rd),p.good→p.e=0→p.room=strN b.2++[]→k b.1 acc p=(acc++eff b,p.adv (strN b.2))):fieldsR k l.length 0 [] r=((l.map eff).flatten,r.adv (bytesP l)):=by
  have hc:∀ b ∈ l,((b.1.toNat:Nat):Int)=b.1:=fun b hb=>by have:=(ha.1 b hb).1;omega
  have hF:=fields_room (fun b:Int×ByteArray=>b.1.toNat) (fun b=>strN b.2) eff (k:=k) l 0 [] r [] (fun b hb=>by have:=ha.1 b hb;omega)
    (by
      refine List.Pairwise.imp_of_mem (fun {a b} h1 h2 h3=>?_) ha.2
      have:=ha.1 a h1
      omega) (fun b hb acc p p1 p2 p3=>by
      rw [hc b hb];exact hk b hb acc p p1 p2 p3) h he (by rw [hr,bytesP_flat])
  rw [hF,List.nil_append,← bytesP_flat]
theorem parts_back {l:PL} (ha:Asc l) (hz:(putN l.length++bytesP l).length≤536870912) (hl:l.length≤1048576):partsV (baL (putN l.length++bytesP l))=(l,0,0):=by
  obtain ⟨g1,g2⟩:=rd_joined (joined_256 l l.length) hz
  rw [List.append_assoc] at g2
  have hN:=num_room (r:=rdAt (baL (putN l.length++bytesP l)) 0) rfl (n:=l.length) (by omega) g2
  obtain ⟨a1,a2⟩:=adv_room g1 g2
  have hF:=fields_joined (fun b=>[b]) (k:=parK) ha a1 rfl a2 fun b hb acc p p1 p2 p3=>by
    have hl:=Rd.room_len p1
    rw [p3,List.append_nil] at hl
    have hf:p.fin=p.pos+((strN b.2).length:Int):=by have:=p1.2.1;omega
    unfold parK
    have hb2:p.all=b.2:=by
      have:=bytes_room p1 p2 (b:=b.2) (rest:=[]) p3
      rw [sN] at hf
      unfold Rd.all
      have h5:(bR p b.2.size).1=p.s.extract p.pos.toNat (p.pos+b.2.size).toNat:=by
        unfold bR
        rw [if_neg (by rw [p2];simp),if_neg (by omega)]
      rw [hf,← h5,this]
    rw [hb2,hf]
    rfl
  have hfl:(l.map fun b=>[b]).flatten=l:=by
    clear hF a2 a1 hN g2 g1 hz hl ha
    induction l with
    | nil=>rfl
    | cons x l ih=>rw [List.map_cons,List.flatten_cons,ih];rfl
  have hFV:fieldsV (rdAt (baL (putN l.length++bytesP l)) 0)=(l,(rdAt (baL (putN l.length++bytesP l)) 0).adv (putN l.length++bytesP l)):=by
    unfold fieldsV
    rw [hN]
    simp only [Int.toNat_natCast]
    rw [fieldsA_eq _ _ _ _ a1,hF,hfl,adv_adv]
  have hL:longR ((rdAt (baL (putN l.length++bytesP l)) 0).adv (putN l.length++bytesP l))=(rdAt (baL (putN l.length++bytesP l)) 0).adv (putN l.length++bytesP l):=by
    unfold longR
    rw [if_neg]
    show ¬ ((0:Int)+((putN l.length++bytesP l).length:Nat)<((baL (putN l.length++bytesP l)).size:Nat))
    rw [bS];omega
  unfold partsV
  rw [hFV]
  simp only [hL]
  rw [if_neg (by show ¬ (0:Int)≠0;simp)]
theorem join_back:∀ (l:PL) (last:Int) (out:List Nat),(∀ b ∈ l,1≤b.1∧b.1≤9999∧last<b.1)→l.Pairwise (fun a b=>a.1<b.1)→(joinL l last out).2=0
  | [],_,_,_,_=>rfl
  | x :: r,last,out,h,hp=>by
    have h1:=h x (List.mem_cons_self ..)
    rw [List.pairwise_cons] at hp
    rw [joinL,if_neg (by omega),if_neg (by omega)]
    exact join_back r x.1 _ (fun b hb=>by
      have:=h b (List.mem_cons_of_mem _ hb)
      have:=hp.1 b hb
      omega) hp.2
theorem joinV_asc {l:PL} (ha:Asc l):joinV l=(baL (putN l.length++bytesP l),0):=by
  have h1:=join_back l 0 (putN l.length) (fun b hb=>by have:=ha.1 b hb;omega) ha.2
  have h2:=joinL_one l 0 (putN l.length) h1
  unfold joinV
  rw [h1,h2];simp
theorem rec_done {d:Nat} {t:Ty} {v:V} {r q:Rd} (hto:ownT t=0) (hvo:ownE vsD v=0) (hh:hasT (d+1) t v=true) (hk:t.kind=9) (hnull:∀ x ∈ v.fields,isNull x.2=false)
    (hF:fieldsF (decV d) t r=((fldsL t v).map fun f=>(fName f,fieldV v (fName f)),q)):recR (decV d) t r=(v,q):=by
  have hvk:=hasT_kind hh
  obtain ⟨f1,f2,f3,f4,f5,f6⟩:=rec_facts (c:=0) hto hvo hh hk
  have hD:defsR t.fields (fieldsF (decV d) t r).1 (fieldsF (decV d) t r).2=fieldsF (decV d) t r:=by
    refine (defsR_full (t:=t) (v:=v) t.fields fun f hf hN=>?_).trans rfl
    rw [hF] at hN
    have h0:findI v (fName f)<0:=by
      apply Int.not_le.1
      intro z
      have:f ∈ fldsL t v:=List.mem_filter.2 ⟨sortT_mem.2 hf,by simpa using z⟩
      have h2:hasN (fName f) ((fldsL t v).map fun f=>(fName f,fieldV v (fName f)))=true:=List.any_eq_true.2 ⟨_,List.mem_map_of_mem this,by simp⟩
      rw [h2] at hN;cases hN
    have:=hh
    simp only [hasT] at this
    rw [if_neg (by omega),if_neg (by omega),if_neg (by omega),if_neg (by omega),if_neg (by omega),if_neg (by omega),if_pos (by omega)] at this
    simp only [Bool.and_eq_true,Bool.not_eq_true',List.any_eq_false,decide_eq_true_eq,bne_iff_ne,ne_eq,not_and,Decidable.not_not] at this
    exact this.2 f hf h0
  unfold recR
  rw [hD,hF]
  simp only
  congr 1
  have hk:keepR ((fldsL t v).map fun f=>(fName f,fieldV v (fName f)))=(fldsL t v).map fun f=>(fName f,fieldV v (fName f)) :=
    keepR_all _ ((f1.map (·.1)).nodup_iff.2 f3) fun x hx=>hnull x (f1.mem_iff.1 hx)
  unfold recV
  rw [hk,sortN_perm f4 f1]
  exact f6.symm
def valP (d:Nat) (t:Ty) (v:V):PL:=(fldsL t v).map fun f=>(fNum f,baL (encN d (fTyp f) (fieldV v (fName f))))
def insP (l:PL) (x:Int×ByteArray):PL:=(l.filter fun b=>decide (b.1<x.1))++x :: l.drop (l.filter fun b=>decide (b.1<x.1)).length
theorem filter_asc (c:Int):∀ (l:PL),l.Pairwise (fun a b=>a.1<b.1)→l.filter (fun b=>decide (b.1<c))++l.drop (l.filter fun b=>decide (b.1<c)).length=l∧∀ b ∈ l.drop (l.filter fun b=>decide (b.1<c)).length,c≤b.1
  | [],_=>⟨rfl,fun b h=>by cases h⟩
  | x :: r,h=>by
    rw [List.pairwise_cons] at h
    obtain ⟨h1,h2⟩:=filter_asc c r h.2
    by_cases hx:x.1<c
    · rw [List.filter_cons_of_pos (by simpa using hx)]
      refine ⟨?_,fun b hb=>h2 b hb⟩
      simp only [List.length_cons,List.drop_succ_cons,List.cons_append]
      rw [h1]
    · have hn:r.filter (fun b=>decide (b.1<c))=[]:=by
        rw [List.filter_eq_nil_iff]
        intro b hb
        have:=h.1 b hb
        simp;omega
      rw [List.filter_cons_of_neg (by simpa using hx),hn]
      refine ⟨rfl,fun b hb=>?_⟩
      rcases List.mem_cons.1 hb with rfl|hb
      · omega
      · have:=h.1 b hb;omega
theorem insP_asc {l:PL} {x:Int×ByteArray} (h:Asc l) (hx:1≤x.1∧x.1≤9999) (hn:∀ b ∈ l,b.1≠x.1):Asc (insP l x)∧(insP l x).length=l.length+1:=by
  obtain ⟨h1,h2⟩:=filter_asc x.1 l h.2
  generalize hF:(l.filter fun b=>decide (b.1<x.1))=F at *
  have hFm:∀ b ∈ F,b ∈ l∧b.1<x.1:=fun b hb=>by rw [← hF] at hb;simpa using hb
  have hDm:∀ b ∈ l.drop F.length,b ∈ l:=fun b hb=>List.mem_of_mem_drop hb
  have hlen:(insP l x).length=l.length+1:=by
    have:=congrArg List.length h1
    rw [List.length_append] at this
    unfold insP
    rw [hF,List.length_append,List.length_cons];omega
  refine ⟨⟨fun b hb=>?_,?_⟩,hlen⟩
  · unfold insP at hb
    rw [hF] at hb
    rcases List.mem_append.1 hb with hb|hb
    · exact h.1 b (hFm b hb).1
    · rcases List.mem_cons.1 hb with rfl|hb
      · exact hx
      · exact h.1 b (hDm b hb)
  · unfold insP
    rw [hF,List.pairwise_append,List.pairwise_cons]
    have hp:F.Pairwise (fun a b=>a.1<b.1):=by rw [← hF];exact h.2.filter _
    refine ⟨hp,⟨fun b hb=>?_,h.2.drop⟩,fun a ha b hb=>?_⟩
    · have:=h2 b hb
      have:=hn b (hDm b hb)
      omega
    · have h3:=(hFm a ha).2
      rcases List.mem_cons.1 hb with rfl|hb
      · exact h3
      · have:=h2 b hb;omega
section
variable {e d c:Nat} {t:Ty} {v:V}
theorem part_le:∀ {l:PL} {b:Int×ByteArray},b ∈ l→(partN b).length≤(bytesP l).length
  | x :: l,b,h=>by
    rw [bytesP_cons,List.length_append]
    rcases List.mem_cons.1 h with rfl|h
    · omega
    · have:=part_le h;omega
def effP (t:Ty) (v:V) (b:Int×ByteArray):FL:=if idxI (byNum b.1) t.fields<0 then [] else [(fName (gT t (byNum b.1)),fieldV v (fName (gT t (byNum b.1))))]
theorem fld_256 (hto:Ty.ok e (d+1) t) (hk:t.kind=9) (hv:V.le (c+1) v) (hvo:V.ok (c+1) v) (hh:hasT (d+1) t v=true) {f:TF} (hf:f ∈ fldsL t v) :
    (∀ x ∈ encN d (fTyp f) (fieldV v (fName f)),x<256)∧V.le c (fieldV v (fName f))∧V.ok c (fieldV v (fName f))∧hasT d (fTyp f) (fieldV v (fName f))=true:=by
  have hvk:=hasT_kind hh
  obtain ⟨g1,g2⟩:=fldsL_mem hf
  obtain ⟨hm,hT⟩:=hasT_fld hh hk (ownT_nodup hto.1 (.inl hk)).2 g1 g2
  have h1:=(hv.2.2.2.2 _ hm).2
  have h2:=V.ok_kid hvo (x:=fieldV v (fName f)) (by simp only [kids];rw [if_neg (by omega),if_pos (by omega)];exact List.mem_map_of_mem (f:=(·.2)) hm)
  exact ⟨encN_256 e d c _ _ (Ty.ok_field hto (.inl hk) g1) h1 h2 hT,h1,h2,hT⟩
theorem valP_enc (hto:Ty.ok e (d+1) t) (hk:t.kind=9) (hv:V.le (c+1) v) (hvo:V.ok (c+1) v) (hh:hasT (d+1) t v=true) :
    encN (d+1) t v=putN (valP d t v).length++bytesP (valP d t v)∧(valP d t v).length=v.fields.length∧v.fields.length≤64:=by
  have hvk:=hasT_kind hh
  obtain ⟨f1,f2,f3,f4,f5,f6⟩:=rec_facts (c:=0) hto.1 (V.ok_self hvo) hh hk
  have hl:(valP d t v).length=v.fields.length:=by unfold valP;rw [List.length_map,f2]
  refine ⟨?_,hl,f5⟩
  rw [encN_rec hk (by omega),hl]
  congr 1
  rw [bytesP_flat]
  unfold valP
  rw [List.map_map]
  congr 1
  refine List.map_congr_left fun f hf=>?_
  show _=putN (fNum f).toNat++wholeN (strN (baL _))
  rw [strN_of (fld_256 hto hk hv hvo hh hf).1]
theorem valP_asc (hto:Ty.ok e (d+1) t) (hk:t.kind=9):Asc (valP d t v):=by
  have hn:=(ownT_nodup hto.1 (.inl hk)).1
  have hnum:=fun f hf=>ownT_num hto.1 (.inl hk) (f:=f) hf
  refine ⟨fun b hb=>?_,?_⟩
  · obtain ⟨f,hf,rfl⟩:=List.mem_map.1 hb
    exact hnum f (fldsL_mem hf).1
  · unfold valP
    rw [List.pairwise_map]
    refine List.Pairwise.imp_of_mem (fun {a b} h1 h2 h3=>?_) (fldsL_pair (v:=v) hn fun f hf=>(hnum f hf).1)
    have:=hnum a (fldsL_mem h1).1
    have:=hnum b (fldsL_mem h2).1
    show fNum a<fNum b
    omega
theorem valP_known (hto:Ty.ok e (d+1) t) (hk:t.kind=9):∀ b ∈ valP d t v,∃ f ∈ fldsL t v,b=(fNum f,baL (encN d (fTyp f) (fieldV v (fName f))))∧0≤idxI (byNum b.1) t.fields∧gT t (byNum b.1)=f:=fun b hb=>by
  obtain ⟨f,hf,rfl⟩:=List.mem_map.1 hb
  obtain ⟨h1,h2⟩:=getTF_num (ownT_nodup hto.1 (.inl hk)).1 (fldsL_mem hf).1
  exact ⟨f,hf,rfl,h1,h2⟩
theorem valP_eff (hto:Ty.ok e (d+1) t) (hk:t.kind=9):((valP d t v).map (effP t v)).flatten=(fldsL t v).map fun f=>(fName f,fieldV v (fName f)):=by
  have key:∀ L:List TF,(∀ f ∈ L,f ∈ fldsL t v)→((L.map fun f=>(fNum f,baL (encN d (fTyp f) (fieldV v (fName f))))).map (effP t v)).flatten=L.map fun f=>(fName f,fieldV v (fName f)):=by
    intro L
    induction L with
    | nil=>intro _;rfl
    | cons f L ih =>
      intro h
      obtain ⟨h1,h2⟩:=getTF_num (ownT_nodup hto.1 (.inl hk)).1 (fldsL_mem (h f (List.mem_cons_self ..))).1
      rw [List.map_cons,List.map_cons,List.flatten_cons,ih fun x hx=>h x (List.mem_cons_of_mem _ hx),List.map_cons]
      unfold effP
      simp only
      rw [if_neg (by omega),h2]
      rfl
  exact key _ fun f hf=>hf
theorem dec_joined {M:PL} (hto:Ty.ok e (d+1) t) (hk:t.kind=9) (hv:V.le (c+1) v) (hvo:V.ok (c+1) v) (hh:hasT (d+1) t v=true) (hM:Asc M) (hz:(putN M.length++bytesP M).length≤536870912) (hml:M.length≤1048576)
    (hb:∀ b ∈ M,b ∈ valP d t v∨idxI (byNum b.1) t.fields<0) (hE:(M.map (effP t v)).flatten=(fldsL t v).map fun f=>(fName f,fieldV v (fName f))) :
    decV (d+1) t (rdAt (baL (putN M.length++bytesP M)) 0)=(v,(rdAt (baL (putN M.length++bytesP M)) 0).adv (putN M.length++bytesP M)):=by
  have hvk:=hasT_kind hh
  obtain ⟨g1,g2⟩:=rd_joined (joined_256 M M.length) hz
  generalize hq:rdAt (baL (putN M.length++bytesP M)) 0=r at *
  have he:r.e=0:=by rw [← hq];rfl
  rw [List.append_assoc] at g2
  have hN:=num_room he (n:=M.length) (by omega) g2
  obtain ⟨a1,a2⟩:=adv_room g1 g2
  have hF:=fields_joined (effP t v) (k:=fldK (decV d) t) hM a1 he a2 fun b hbm acc p p1 p2 p3=>by
    have hl:=Rd.room_len p1
    rw [p3,List.append_nil] at hl
    have hf:p.fin=p.pos+((strN b.2).length:Int):=by have:=p1.2.1;omega
    unfold fldK effP
    by_cases hi:idxI (byNum b.1) t.fields<0
    · rw [if_pos hi,if_pos hi,hf,List.append_nil];rfl
    · rw [if_neg hi,if_neg hi]
      have h1:=(hb b hbm).resolve_right hi
      obtain ⟨f,hfm,rfl,h2,h3⟩:=valP_known hto hk b h1
      simp only at h3 p3 ⊢
      obtain ⟨x1,x2,x3,x4⟩:=fld_256 hto hk hv hvo hh hfm
      rw [strN_of x1] at p3 ⊢
      rw [h3,dec_enc e d c _ _ (Ty.ok_field hto (.inl hk) (fldsL_mem hfm).1) x2 x3 x4 p [] p1 p2 p3]
  have hFF:fieldsF (decV d) t r=((fldsL t v).map fun f=>(fName f,fieldV v (fName f)),r.adv (putN M.length++bytesP M)):=by
    unfold fieldsF
    rw [hN]
    simp only [Int.toNat_natCast]
    rw [hF,hE,adv_adv]
  rw [decV,if_neg (by rw [he];simp),if_neg (by omega),if_pos hk]
  refine rec_done hto.1 (V.ok_self hvo) hh hk (fun x hx=>?_) hFF
  obtain ⟨c,rfl⟩:=V.lP (hv.2.2.2.2 x hx).2
  exact isNull_no (V.ok_self (V.ok_kid hvo (by simp only [kids];rw [if_neg (by omega),if_pos (by omega)];exact List.mem_map_of_mem (f:=(·.2)) hx)))
theorem skip_facts {x:Int×ByteArray} (hck:chkT e (d+1) t=0) (hto:Ty.ok e (d+1) t) (hk:t.kind=9) (hv:V.le (c+1) v) (hA:accV (c+1) (d+1) t v=true) (hx:1≤x.1∧x.1≤9999) (hxs:x.2.size≤1048576) (hn:∀ f ∈ t.fields,fNum f≠x.1) (hz:(encN (d+1) t v).length≤268435456) :
    partsV (baL (encN (d+1) t v))=(valP d t v,0,0)∧(valP d t v).length=v.fields.length∧v.fields.length≤64∧(∀ b ∈ valP d t v,b.2.size≤(encN (d+1) t v).length) ∧
      joinV (insP (valP d t v) x)=(baL (putN (insP (valP d t v) x).length++bytesP (insP (valP d t v) x)),0)∧(insP (valP d t v) x).length=v.fields.length+1 ∧
      (encN (d+1) t v).length<(putN (insP (valP d t v) x).length++bytesP (insP (valP d t v) x)).length∧(putN (insP (valP d t v) x).length++bytesP (insP (valP d t v) x)).length≤536870912 ∧
      decodeV e (d+1) t (baL (putN (insP (valP d t v) x).length++bytesP (insP (valP d t v) x)))=(v,0,0) ∧
      sizeV (d+1+e) (decV (d+1) t (rdAt (baL (putN (insP (valP d t v) x).length++bytesP (insP (valP d t v) x))) 0)).1≤4096 ∧
      unkV t (baL (putN (insP (valP d t v) x).length++bytesP (insP (valP d t v) x)))=([x.1],0)∧unkV t (baL (encN (d+1) t v))=([],0) ∧
      partsV (baL (putN (insP (valP d t v) x).length++bytesP (insP (valP d t v) x)))=(insP (valP d t v) x,0,0):=by
  have hA2:=hA
  simp only [accV,Bool.and_eq_true,decide_eq_true_eq] at hA2
  have hvo:=V.ok_of_chk hA2.1
  have hh:=hA2.2
  obtain ⟨e1,e2,e3⟩:=valP_enc hto hk hv hvo hh
  have hP:=valP_asc (v:=v) hto hk
  have hkn:=valP_known (v:=v) hto hk
  have hxn:idxI (byNum x.1) t.fields<0:=by
    apply Int.not_le.1
    intro z
    have h1:=idxI_hit (p:=byNum x.1) (x:=(default:TF)) z
    have h2:=getTF_mem (p:=byNum x.1) z
    exact hn _ h2 (by simpa [byNum,gT] using h1)
  obtain ⟨hM,hMl⟩:=insP_asc hP hx fun b hb=>by
    obtain ⟨f,hf,rfl,_⟩:=hkn b hb
    exact hn f (fldsL_mem hf).1
  obtain ⟨s1,s2⟩:=filter_asc x.1 (valP d t v) hP.2
  obtain ⟨P,hPe⟩:∃ P,P=valP d t v:=⟨_,rfl⟩
  have hEf:=valP_eff (v:=v) hto hk
  rw [← hPe] at e1 e2 hP hkn hM hMl s1 s2 hEf ⊢
  have hbl:(bytesP (insP P x)).length=(bytesP P).length+(partN x).length:=by
    conv=>rhs;rw [← s1]
    unfold insP
    simp only [bytesP,List.map_append,List.map_cons,List.flatten_append,List.flatten_cons,List.length_append]
    omega
  have hxl:0<(partN x).length∧(partN x).length≤1048600:=by
    refine ⟨?_,partN_len x hx.2 hxs⟩
    have:0<(putN x.1.toNat).length:=by rw [putN];split<;>simp
    simp only [partN,List.length_append];omega
  have hp1:(putN P.length).length=1∧(putN (insP P x).length).length=1:=by
    rw [putN_lt (by omega),putN_lt (by omega)];exact ⟨rfl,rfl⟩
  have hUl:(putN (insP P x).length++bytesP (insP P x)).length=(encN (d+1) t v).length+(partN x).length:=by
    rw [e1,List.length_append,List.length_append,hbl,hp1.1,hp1.2];omega
  have hmem:∀ b ∈ insP P x,b ∈ P∨b=x:=fun b hb=>by
    unfold insP at hb
    rcases List.mem_append.1 hb with hb|hb
    · exact .inl (List.mem_filter.1 hb).1
    · rcases List.mem_cons.1 hb with rfl|hb
      · exact .inr rfl
      · exact .inl (List.mem_of_mem_drop hb)
  have hD:=dec_joined (M:=insP P x) hto hk hv hvo hh hM (by omega) (by omega) (fun b hb=>by
    rcases hmem b hb with h|rfl
    · exact .inl (hPe ▸ h)
    · exact .inr hxn) (by
    rw [← hEf]
    conv=>rhs;rw [← s1]
    unfold insP
    have hx0:effP t v x=[]:=by unfold effP;rw [if_pos hxn]
    simp only [List.map_append,List.map_cons,List.flatten_append,List.flatten_cons,hx0,List.nil_append])
  have hS1:=parts_back hP (by rw [← e1];omega) (by omega)
  have hS2:=parts_back hM (by omega) (by omega)
  rw [← e1] at hS1
  have hsz:=sizeV_any (c+1) (d+1+e) v hv
  have hs2:=accV_size hA
  refine ⟨hS1,e2,e3,fun b hb=>?_,joinV_asc hM,by omega,by omega,by omega,?_,by rw [hD];show sizeV _ v≤4096;omega,?_,?_,hS2⟩
  · have h1:b.2.size≤(partN b).length:=by simp only [partN,List.length_append,sN];omega
    have h2:=part_le hb
    rw [e1,List.length_append];omega
  · have hL:longR ((rdAt (baL (putN (insP P x).length++bytesP (insP P x))) 0).adv (putN (insP P x).length++bytesP (insP P x)))=(rdAt (baL (putN (insP P x).length++bytesP (insP P x))) 0).adv (putN (insP P x).length++bytesP (insP P x)):=by
      unfold longR
      rw [if_neg]
      show ¬ ((0:Int)+((putN (insP P x).length++bytesP (insP P x)).length:Nat)<((baL (putN (insP P x).length++bytesP (insP P x))).size:Nat))
      rw [bS];omega
    unfold decodeV
    rw [if_neg (by omega),hD]
    simp only [hL]
    rw [if_neg (by show ¬ (0:Int)≠0;simp),if_neg (by omega)]
  · unfold unkV
    rw [if_neg (by omega),hS2]
    simp only
    rw [if_neg (by simp)]
    have:unkL t (insP P x)=[x.1]:=by
      unfold unkL insP
      have hf:∀ l:PL,(∀ b ∈ l,b ∈ P)→(l.map Prod.fst).filter (fun n=>decide (idxI (byNum n) t.fields<0))=[]:=fun l hl=>by
        rw [List.filter_eq_nil_iff]
        intro n hn
        obtain ⟨b,hb,rfl⟩:=List.mem_map.1 hn
        obtain ⟨f,hf,rfl,h2,_⟩:=hkn b (hl b hb)
        simp only [decide_eq_true_eq];simp only at h2;omega
      rw [List.map_append,List.map_cons,List.filter_append,hf _ fun b hb=>(List.mem_filter.1 hb).1,List.filter_cons_of_pos (by simpa using hxn),hf _ fun b hb=>List.mem_of_mem_drop hb]
      rfl
    rw [this]
  · unfold unkV
    rw [if_neg (by omega),hS1]
    simp only
    rw [if_neg (by simp)]
    have:unkL t P=[]:=by
      unfold unkL
      rw [List.filter_eq_nil_iff]
      intro n hn
      obtain ⟨b,hb,rfl⟩:=List.mem_map.1 hn
      obtain ⟨f,hf,rfl,h2,_⟩:=hkn b hb
      simp only [decide_eq_true_eq];simp only at h2;omega
    rw [this]
end
end Go.Ai
