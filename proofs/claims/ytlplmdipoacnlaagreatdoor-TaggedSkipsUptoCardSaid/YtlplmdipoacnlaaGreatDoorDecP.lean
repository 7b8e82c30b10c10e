/- Chapter 10: what is decoded is what was encoded: names in order, records. -/
import Derived.Test.YtlplmdipoacnlaaGreatDoorRdA
import Derived.Test.YtlplmdipoacnlaaGreatDoorWrB
import Derived.Test.YtlplmdipoacnlaaGreatDoorDecC
import Derived.Test.YtlplmdipoacnlaaGreatDoorEncD
set_option linter.all false
namespace Go.Ai
open Go Go.Proofs
set_option maxRecDepth 100000
set_option maxHeartbeats 2000000
theorem fieldsE_zero {l:List (ByteArray×V)}:∀ {n:Nat},fieldsE l n=0↔∀ i,i<n→isName (l.getD i default).1=true∧(0<i→(l.getD i default).1≠(l.getD (i - 1) default).1∧ltB (l.getD i default).1 (l.getD (i - 1) default).1=false)
  | 0=>⟨fun _ i h=>by omega,fun _=>rfl⟩
  | n + 1 => by
    constructor
    · intro h i hi
      have h0:fieldsE l n=0:=by
        simp only [fieldsE] at h
        split at h
        · exact h
        · rename_i q;simpa using q
      rcases Nat.lt_succ_iff_lt_or_eq.1 hi with hi|rfl
      · exact fieldsE_zero.1 h0 i hi
      · simp only [fieldsE,h0] at h
        rw [if_neg (by simp)] at h
        by_cases q1:isName (l.getD i default).1=false
        · rw [if_pos q1] at h;cases h
        · rw [if_neg q1] at h
          refine ⟨by simpa using q1,fun hi0=>?_⟩
          by_cases q2:(l.getD i default).1=(l.getD (i - 1) default).1
          · rw [if_pos ⟨hi0,q2⟩] at h;cases h
          · rw [if_neg (fun q=>q2 q.2)] at h
            refine ⟨q2,?_⟩
            by_cases q3:ltB (l.getD i default).1 (l.getD (i - 1) default).1=true
            · rw [if_pos ⟨hi0,q3⟩] at h;cases h
            · simpa using q3
    · intro h
      have h0:=(fieldsE_zero (l:=l) (n:=n)).2 fun i hi=>h i (by omega)
      obtain ⟨q1,q2⟩:=h n (by omega)
      simp only [fieldsE,h0]
      rw [if_neg (fun q=>q rfl),if_neg (fun q=>by rw [q1] at q;cases q),if_neg (fun q=>(q2 q.1).1 q.2),if_neg (fun q=>by have:=(q2 q.1).2;rw [this] at q;cases q.2)]
theorem ltB_iff (a b:ByteArray):ltB a b=true↔ltS a b:=by
  unfold ltB
  rw [bytesLess_lt,ByteArray.toList_eq,ByteArray.toList_eq,decide_eq_true_eq]
  rfl
theorem next_lt {a b:ByteArray}:(b≠a∧ltB b a=false)↔ltS a b:=by
  constructor
  · rintro ⟨h1,h2⟩
    rcases ltS_tri a b with h|h|h
    · exact h
    · exact absurd h.symm h1
    · rw [(ltB_iff b a).2 h] at h2;cases h2
  · intro h
    refine ⟨fun e=>by subst e;exact ltS_irrefl _ h,?_⟩
    cases q:ltB b a with
    | false=>rfl
    | true=>exact (ltS_asymm h ((ltB_iff b a).1 q)).elim
def Names (l:List (ByteArray×V)):Prop:=∀ i,i<l.length→isName (l.getD i default).1=true∧(0<i→ltS (l.getD (i - 1) default).1 (l.getD i default).1)
theorem rule9_zero {l:List (ByteArray×V)}:rule9 l=0↔l.length≤64∧Names l:=by
  unfold rule9 Names
  by_cases h:64<l.length
  · rw [if_pos h];exact ⟨fun q=>(by cases q),fun q=>(by omega)⟩
  · rw [if_neg h,fieldsE_zero]
    refine ⟨fun q=>⟨by omega,fun i hi=>⟨(q i hi).1,fun h0=>next_lt.1 ((q i hi).2 h0)⟩⟩,fun q i hi=>⟨(q.2 i hi).1,fun h0=>next_lt.2 ((q.2 i hi).2 h0)⟩⟩
theorem names_pair {l:FL} (h:Names l):l.Pairwise fun x y=>ltS x.1 y.1:=by
  rw [List.pairwise_iff_getElem]
  intro i j hi hj hij
  have key:∀ k,i<k→(hk:k<l.length)→ltS l[i].1 l[k].1:=fun k=>by
    induction k with
    | zero=>intro z;omega
    | succ k ih =>
      intro h1 h2
      have h3:=(h (k+1) h2).2 (by omega)
      simp only [List.getD_eq_getElem?_getD,List.getElem?_eq_getElem h2,Nat.add_sub_cancel,List.getElem?_eq_getElem (show k<l.length by omega),Option.getD_some] at h3
      rcases Nat.lt_or_ge i k with h4|h4
      · exact ltS_trans (ih h4 (by omega)) h3
      · have:i=k:=by omega
        subst this;exact h3
  exact key j hij hj
theorem leN_iff (x y:ByteArray×V):leN x y=true↔¬ ltS y.1 x.1:=by
  simp only [leN,Bool.not_eq_true',decide_eq_false_iff_not,cmpS_lt]
theorem sortN_perm {l m:FL} (hm:m.Pairwise fun x y=>ltS x.1 y.1) (hp:l.Perm m):sortN l=m:=by
  have h1:(sortN l).Pairwise fun x y=>leN x y=true:=by
    refine List.pairwise_mergeSort (fun a b c h1 h2=>?_) (fun a b=>?_) l
    · rw [leN_iff] at *
      intro h3
      rcases ltS_tri b.1 c.1 with h|h|h
      · exact h1 (ltS_trans h h3)
      · rw [h] at h1;exact h1 h3
      · exact h2 h
    · rw [Bool.or_eq_true,leN_iff,leN_iff]
      rcases ltS_tri a.1 b.1 with h|h|h
      · exact .inl fun q=>ltS_asymm h q
      · refine .inl fun q=>?_
        rw [h] at q;exact ltS_irrefl _ q
      · exact .inr fun q=>ltS_asymm h q
  have hpm:(sortN l).Perm m:=(List.mergeSort_perm l leN).trans hp
  refine List.Perm.eq_of_pairwise (le:=fun x y=>leN x y=true) (fun a b ha hb h2 h3=>?_) h1 (hm.imp fun {a b} h=>(leN_iff a b).2 fun q=>ltS_asymm h q) hpm
  rw [leN_iff] at h2 h3
  have ha:=hpm.mem_iff.1 ha
  obtain ⟨i,hi,rfl⟩:=List.getElem_of_mem ha
  obtain ⟨j,hj,rfl⟩:=List.getElem_of_mem hb
  rw [List.pairwise_iff_getElem] at hm
  rcases Nat.lt_trichotomy i j with h|h|h
  · exact absurd (hm i j hi hj h) h3
  · subst h;rfl
  · exact absurd (hm j i hj hi h) h2
theorem keepR_all:∀ (l:FL),(l.map (·.1)).Nodup→(∀ x ∈ l,isNull x.2=false)→keepR l=l
  | [],_,_=>rfl
  | x :: r,h,hn=>by
    rw [List.map_cons,List.nodup_cons] at h
    have h1:laterB x r=false:=by
      rw [laterB,List.any_eq_false]
      intro y hy
      simp only [Bool.and_eq_true,decide_eq_true_eq,not_and]
      intro q
      exact absurd (List.mem_map.2 ⟨y,hy,q⟩) h.1
    rw [keepR,if_pos (by rw [h1,hn x (List.mem_cons_self ..)];rfl),keepR_all r h.2 fun y hy=>hn y (List.mem_cons_of_mem _ hy)]
theorem V.ok_rec {vs:ByteArray→Bool} {v:V} (h:ownE vs v=0) (hk:v.kind=9):v.fields.length≤64∧Names v.fields:=by
  have h1:=own_ruleE h
  rw [ruleE9 hk] at h1
  exact rule9_zero.1 h1
theorem V.ok_uses {vs:ByteArray→Bool} {v:V} (h:ownE vs v=0):usesB v=true∧isNull v=false:=by
  unfold ownE at h
  split at h
  · cases h
  split at h
  · cases h
  split at h
  · cases h
  · rename_i a b c
    exact ⟨by simpa using c,by simpa using a⟩
theorem nodup_of {α β:Type} {f:α→β} {l:List α} (h:(l.map f).Nodup):l.Nodup:=(List.pairwise_map.1 h).imp fun hne e=>hne (congrArg f e)
theorem fields_perm {d:Nat} {t:Ty} {v:V} (h:hasT (d+1) t v=true) (hk:t.kind=9) (hn:(t.fields.map fName).Nodup) (hv:(v.fields.map (·.1)).Nodup) {L:List TF} (hL:L.Perm t.fields) :
    ((L.filter fun f=>decide (0≤findI v (fName f))).map fun f=>(fName f,fieldV v (fName f))).Perm v.fields:=by
  have hnL:(L.map fName).Nodup:=(hL.map fName).symm.nodup_iff.1 hn
  have hat:∀ f,0≤findI v (fName f)→(fName f,fieldV v (fName f)) ∈ v.fields:=fun f hF=>by
    have hlt:findI v (fName f)<v.fields.length:=idxI_lt
    have hm:v.fields.getD (findI v (fName f)).toNat default ∈ v.fields:=getD_in (by omega)
    have hx:(v.fields.getD (findI v (fName f)).toNat default).1=fName f:=by
      have:=idxI_hit (p:=fun x:ByteArray×V=>decide (x.1=fName f)) (x:=default) hF
      simp only [decide_eq_true_eq] at this
      exact this
    have:(fName f,fieldV v (fName f))=v.fields.getD (findI v (fName f)).toNat default:=Prod.ext hx.symm rfl
    rw [this];exact hm
  have hnd1:((L.filter fun f=>decide (0≤findI v (fName f))).map fun f=>(fName f,fieldV v (fName f))).Nodup:=by
    have h1:((L.filter fun f=>decide (0≤findI v (fName f))).map fName).Nodup:=hnL.sublist ((List.filter_sublist).map fName)
    refine nodup_of (f:=Prod.fst) ?_
    rw [List.map_map]
    exact h1
  have hnd2:v.fields.Nodup:=nodup_of hv
  refine (List.perm_ext_iff_of_nodup hnd1 hnd2).2 fun x=>⟨fun hx=>?_,fun hx=>?_⟩
  · obtain ⟨f,hf,rfl⟩:=List.mem_map.1 hx
    exact hat f (by simpa using (List.mem_filter.1 hf).2)
  · obtain ⟨h1,h2⟩:=hasT_rec h hk x hx
    have hm:=getTF_mem h1
    have hnm:fName (gT t (byName x.1))=x.1:=by
      have:=idxI_hit (p:=byName x.1) (x:=(default:TF)) h1
      simpa [byName,gT] using this
    have hfi:0≤findI v x.1:=idxI_of_mem hx (by simp)
    refine List.mem_map.2 ⟨gT t (byName x.1),List.mem_filter.2 ⟨hL.mem_iff.2 hm,by rw [hnm];simpa using hfi⟩,?_⟩
    rw [hnm]
    have h3:=hat (gT t (byName x.1)) (by rw [hnm];exact hfi)
    rw [hnm] at h3
    obtain ⟨i,hi,hie⟩:=List.getElem_of_mem h3
    obtain ⟨j,hj,hje⟩:=List.getElem_of_mem hx
    have:i=j:=by
      refine (List.getElem_inj (xs:=v.fields.map (·.1)) hv (i:=i) (j:=j) (h₀:=by simpa using hi) (h₁:=by simpa using hj)).1 ?_
      rw [List.getElem_map,List.getElem_map,hie,hje]
    subst this
    rw [← hie,hje]
def Rd.adv (r:Rd) (l:List Nat):Rd:=r.to (r.pos+l.length)
theorem adv_nil (r:Rd):r.adv []=r:=by simp [Rd.adv,Rd.to]
theorem adv_adv (r:Rd) (a b:List Nat):(r.adv a).adv b=r.adv (a++b):=by
  simp only [Rd.adv,Rd.to,List.length_append]
  rw [show r.pos+(a.length:Int)+(b.length:Int)=r.pos+((a.length+b.length:Nat):Int) by omega]
theorem adv_e (r:Rd) (l:List Nat):(r.adv l).e=r.e:=rfl
theorem adv_room {r:Rd} (h:r.good) {l rest:List Nat} (hr:r.room=l++rest):(r.adv l).good∧(r.adv l).room=rest:=by
  have hl:=Rd.room_len h
  obtain ⟨h1,h2,h3,h4⟩:=h
  rw [hr,List.length_append] at hl
  refine ⟨⟨by show 0≤r.pos+l.length;omega,by show r.pos+l.length≤r.fin;omega,h3,h4⟩,?_⟩
  have:(r.adv l).room=r.room.drop l.length:=by
    show (List.take r.fin.toNat _).drop (r.pos+l.length).toNat=_
    unfold Rd.room
    rw [List.drop_drop,show (r.pos+(l.length:Int)).toNat=r.pos.toNat+l.length by omega]
    rfl
  rw [this,hr,List.drop_left]
theorem room_most {r:Rd} (h:r.good) {l rest:List Nat} (hr:r.room=l++rest):l.length≤35184372088832:=by
  have hl:=Rd.room_len h
  obtain ⟨h1,h2,h3,h4⟩:=h
  rw [hr,List.length_append] at hl
  omega
theorem num_room {r:Rd} (he:r.e=0) {n:Nat} {rest:List Nat} (hn:n≤4611686018427387903) (hr:r.room=putN n++rest):numR r=((n:Int),r.adv (putN n)):=by
  have ht:=take_put rest n 0 0 (.inl rfl) (by omega)
  rw [← hr] at ht
  rw [numR_get he ht]
  simp only [Nat.pow_zero,Nat.mul_one,Nat.zero_add]
  rfl
theorem bytes_room {r:Rd} (h:r.good) (he:r.e=0) {b:ByteArray} {rest:List Nat} (hr:r.room=strN b++rest):bR r b.size=(b,r.adv (strN b)):=by
  have hl:=Rd.room_len h
  obtain ⟨h1,h2,h3,h4⟩:=h
  rw [hr,List.length_append,sN] at hl
  unfold bR
  rw [if_neg (by omega),if_neg (by omega)]
  have hx:strN (r.s.extract r.pos.toNat (r.pos+b.size).toNat)=strN b:=by
    rw [strN_ext]
    have h5:sgm r.s r.pos.toNat (r.pos+b.size).toNat=r.room.take b.size:=by
      unfold sgm Rd.room
      show ((strN r.s).take _).drop _=(((strN r.s).take _).drop _).take _
      rw [List.drop_take,List.drop_take,List.take_take]
      congr 1;omega
    rw [h5,hr,List.take_left' (sN b)]
  rw [← baL_strN (r.s.extract _ _),hx,baL_strN]
  simp only [Rd.adv,sN]
theorem sub2_room {r:Rd} (h:r.good) (he:r.e=0) {l rest:List Nat} (hr:r.room=wholeN l++rest) :
    sub2 r=r.adv (wholeN l)∧subR r=⟨r.s,r.pos+(putN l.length).length,r.pos+(wholeN l).length,0,0⟩∧(subR r).good∧(subR r).room=l++[]:=by
  have hr2:r.room=putN l.length++(l++rest):=by rw [hr,wholeN,List.append_assoc]
  have hm:=room_most h hr
  have hn:=num_room he (n:=l.length) (by rw [wholeN,List.length_append] at hm;omega) hr2
  obtain ⟨a1,a2⟩:=adv_room h hr2
  have hl:=Rd.room_len a1
  rw [a2,List.length_append] at hl
  have hs:sub2 r=r.adv (wholeN l):=by
    unfold sub2
    rw [hn]
    simp only [bR]
    have hfp:=a1.2.1
    rw [if_neg (by rw [adv_e,he];simp),if_neg (by omega)]
    show (r.adv (putN l.length)).adv l=_
    rw [adv_adv];rfl
  have hS:subR r=⟨r.s,r.pos+(putN l.length).length,r.pos+(wholeN l).length,0,0⟩:=by
    unfold subR
    rw [hn,hs];rfl
  have he2:(sub2 r).e=0:=by rw [hs];exact he
  have hg:=(subR_good h he2).1
  refine ⟨hs,hS,hg,?_⟩
  rw [hS]
  have h5:(Rd.mk r.s (r.pos+(putN l.length).length) (r.pos+(wholeN l).length) 0 0).room=(r.adv (putN l.length)).room.take l.length:=by
    obtain ⟨b1,b2,b3,b4⟩:=a1
    obtain ⟨c1,c2,c3,c4⟩:=h
    show ((strN r.s).take (r.pos+(wholeN l).length).toNat).drop (r.pos+(putN l.length).length).toNat=(((strN r.s).take r.fin.toNat).drop (r.pos+(putN l.length).length).toNat).take l.length
    rw [List.drop_take,List.drop_take,List.take_take]
    have hq:(wholeN l).length=(putN l.length).length+l.length:=by rw [wholeN,List.length_append]
    have hfin:(r.adv (putN l.length)).fin=r.fin:=rfl
    have hpos:(r.adv (putN l.length)).pos=r.pos+(putN l.length).length:=rfl
    rw [hfin,hpos] at hl b2
    congr 1;omega
  rw [h5,a2,List.take_left',List.append_nil]
  rfl
theorem part_room {α:Type} {k:α→Rd→α×Rd} {acc x:α} {r:Rd} (h:r.good) (he:r.e=0) {l rest:List Nat} (hr:r.room=wholeN l++rest)
    (hk:∀ p:Rd,p.good→p.e=0→p.room=l++[]→k acc p=(x,p.adv l)):partR k acc r=(x,r.adv (wholeN l)):=by
  obtain ⟨h1,h2,h3,h4⟩:=sub2_room h he hr
  have hk:=hk (subR r) h3 (by rw [h2]) h4
  unfold partR
  rw [if_neg (by rw [h1,adv_e,he];simp),hk,h1]
  have hl:longR ((subR r).adv l)=(subR r).adv l:=by
    unfold longR
    rw [if_neg]
    rw [h2]
    show ¬ (r.pos+((putN l.length).length:Int)+l.length<r.pos+(wholeN l).length)
    rw [wholeN,List.length_append];omega
  simp only [hl]
  unfold backR
  rw [if_neg (by rw [adv_e,h2];simp)]
theorem fields_room {β γ:Type} (num:β→Nat) (enc:β→List Nat) (eff:β→List γ) {k:Int→List γ→Rd→List γ×Rd}:∀ (L:List β) (last:Int) (acc:List γ) (r:Rd) (rest:List Nat),
    (∀ b ∈ L,1≤num b∧num b≤9999∧last<num b)→L.Pairwise (fun a b=>num a<num b)→(∀ b ∈ L,∀ (acc:List γ) (p:Rd),p.good→p.e=0→p.room=enc b++[]→k (num b) acc p=(acc++eff b,p.adv (enc b))) →
    r.good→r.e=0→r.room=(L.map fun b=>putN (num b)++wholeN (enc b)).flatten++rest→fieldsR k L.length last acc r=(acc++(L.map eff).flatten,r.adv (L.map fun b=>putN (num b)++wholeN (enc b)).flatten)
  | [],last,acc,r,rest,_,_,_,_,_,_=>by simp [fieldsR,adv_nil]
  | b :: L,last,acc,r,rest,hn,hp,hk,h,he,hr=>by
    obtain ⟨n1,n2,n3⟩:=hn b (List.mem_cons_self ..)
    have hr2:r.room=putN (num b)++(wholeN (enc b)++((L.map fun b=>putN (num b)++wholeN (enc b)).flatten++rest)):=by rw [hr,List.map_cons,List.flatten_cons];simp only [List.append_assoc]
    have hN:=num_room he (n:=num b) (by omega) hr2
    obtain ⟨a1,a2⟩:=adv_room h hr2
    have hst:stepR last r=r.adv (putN (num b)):=by
      unfold stepR
      rw [hN]
      simp only
      rw [if_neg (by omega),if_neg (by omega)]
    have hP:=part_room (k:=k (num b)) (acc:=acc) (x:=acc++eff b) a1 he a2 fun p p1 p2 p3=>hk b (List.mem_cons_self ..) acc p p1 p2 p3
    obtain ⟨b1,b2⟩:=adv_room a1 a2
    rw [List.length_cons,fieldsR,if_neg (by rw [he];simp),hN,if_neg (by show ¬ (r.adv _).e≠0;rw [adv_e,he];simp),hst]
    simp only
    rw [hP]
    rw [List.pairwise_cons] at hp
    have ih:=fields_room num enc eff (k:=k) L (num b) (acc++eff b) ((r.adv (putN (num b))).adv (wholeN (enc b))) rest (fun x hx=>⟨(hn x (List.mem_cons_of_mem _ hx)).1,(hn x (List.mem_cons_of_mem _ hx)).2.1,by have:=hp.1 x hx;omega⟩) hp.2 (fun x hx=>hk x (List.mem_cons_of_mem _ hx)) b1 he b2
    simp only
    rw [ih,adv_adv,adv_adv,List.map_cons,List.map_cons,List.flatten_cons,List.flatten_cons,List.append_assoc,List.append_assoc]
theorem list_room {f:Rd→V×Rd} (enc:V→List Nat):∀ (L acc:List V) (r:Rd) (rest:List Nat),(∀ x ∈ L,∀ (p:Rd) (rest:List Nat),p.good→p.e=0→p.room=enc x++rest→f p=(x,p.adv (enc x))) →
    r.good→r.e=0→r.room=(L.map enc).flatten++rest→listR f L.length acc r=(acc++L,r.adv (L.map enc).flatten)
  | [],acc,r,rest,_,_,_,_=>by simp [listR,adv_nil]
  | x :: L,acc,r,rest,hf,h,he,hr=>by
    have hr2:r.room=enc x++((L.map enc).flatten++rest):=by rw [hr,List.map_cons,List.flatten_cons,List.append_assoc]
    have h1:=hf x (List.mem_cons_self ..) r _ h he hr2
    obtain ⟨a1,a2⟩:=adv_room h hr2
    rw [List.length_cons,listR,if_neg (by rw [he];simp),h1]
    simp only
    rw [list_room enc L (acc++[x]) _ rest (fun y hy=>hf y (List.mem_cons_of_mem _ hy)) a1 he a2,adv_adv,List.map_cons,List.flatten_cons,List.append_assoc]
    rfl
theorem chk_one {v:V} (h:ownE vsD v=0):chk 1 v=0:=by
  have hp:preV 1 1 v=[(1,0,v)]:=by
    simp only [preV]
    have:((kids v).map fun _=>([]:List (Int×Nat×V))).flatten=[]:=by
      induction kids v with
      | nil=>rfl
      | cons x l ih=>simpa using ih
    rw [this]
  unfold chk
  rw [hp]
  simp [checkE,firstI,checkAt,h]
theorem scal_eq {v:V} (h:ownE vsD v=0) (h8:v.kind≠8) (h9:v.kind≠9) (h10:v.kind≠10) :
    v=.mk v.kind v.int v.scale v.text [] []∧(v.kind≠4→v.kind≠5→v.text=⟨#[]⟩)∧(v.kind=4∨v.kind=5→v.int=0)∧(v.kind≠3→v.scale=0):=by
  have hu:=(V.ok_uses h).1
  simp only [usesB,Bool.and_eq_true,Bool.or_eq_true,beq_iff_eq] at hu
  obtain ⟨⟨⟨⟨u1,u2⟩,u3⟩,u4⟩,u5⟩:=hu
  have hl:v.list=[]:=List.eq_nil_of_length_eq_zero (by omega)
  have hf:v.fields=[]:=List.eq_nil_of_length_eq_zero (by omega)
  refine ⟨?_,fun a b=>?_,fun a=>by omega,fun a=>by omega⟩
  · cases v with
    | mk k i s t l f =>
      have hl:l=[]:=hl
      have hf:f=[]:=hf
      subst hl hf;rfl
  · have:v.text.size=0:=by omega
    cases ht:v.text with
    | mk d=>rw [ht] at this;rw [Array.eq_empty_of_size_eq_zero this]
theorem tok_scale {t:Ty} (h:ownT t=0) (hk:t.kind≠3):t.scale=0:=by
  have h1:=ownT_form h
  unfold formE at h1
  grind
theorem getTF_num {t:Ty} (hn:(t.fields.map fNum).Nodup) {f:TF} (hf:f ∈ t.fields):0≤idxI (byNum (fNum f)) t.fields∧gT t (byNum (fNum f))=f:=by
  have h0:0≤idxI (byNum (fNum f)) t.fields:=idxI_of_mem hf (by simp [byNum])
  refine ⟨h0,?_⟩
  have hx:=idxI_hit (p:=byNum (fNum f)) (x:=(default:TF)) h0
  have hm:=getTF_mem h0
  have hx:fNum (gT t (byNum (fNum f)))=fNum f:=by simpa [byNum,gT] using hx
  obtain ⟨i,hi,hie⟩:=List.getElem_of_mem hm
  obtain ⟨j,hj,hje⟩:=List.getElem_of_mem hf
  have:i=j:=by
    refine (List.getElem_inj (xs:=t.fields.map fNum) hn (i:=i) (j:=j) (h₀:=by simpa using hi) (h₁:=by simpa using hj)).1 ?_
    rw [List.getElem_map,List.getElem_map,hie,hje,hx]
  subst this
  rw [← hie,hje]
theorem tryR_yes {d:Nat} {t:Ty} {p:Int} {v:V} {r:Rd} (h:accV 1 d t v=true):tryR d t p (v,r)=(v,r):=by
  unfold tryR
  simp only
  rw [if_neg (fun z=>by rw [h] at z;exact Bool.noConfusion z.2)]
theorem defsR_full {t:Ty} {v:V} {L:FL} {r:Rd}:∀ (fs:List TF),(∀ f ∈ fs,hasN (fName f) L=false→fNeed f=2)→defsR fs L r=(L,r)
  | [],_=>rfl
  | f :: fs,h=>by
    have ih:=defsR_full (t:=t) (v:=v) (L:=L) (r:=r) fs fun x hx=>h x (List.mem_cons_of_mem _ hx)
    rw [defsR]
    split
    · exact ih
    · have:=h f (List.mem_cons_self ..) (by simpa using ‹¬ hasN (fName f) L=true›)
      rw [if_neg (by omega),if_neg (by omega)]
      exact ih
theorem flat_filter {α:Type} (p:α→Bool) (G:α→List Nat):∀ l:List α,(l.map fun x=>if p x=true then G x else []).flatten=((l.filter p).map G).flatten
  | []=>rfl
  | x :: l=>by
    have ih:=flat_filter p G l
    rw [List.map_cons,List.flatten_cons,ih]
    by_cases h:p x=true
    · rw [if_pos h,List.filter_cons_of_pos h,List.map_cons,List.flatten_cons]
    · rw [if_neg h,List.filter_cons_of_neg h,List.nil_append]
def fldsL (t:Ty) (v:V):List TF:=(sortT t.fields).filter fun f=>decide (0≤findI v (fName f))
theorem encN_rec {d:Nat} {t:Ty} {v:V} (hk:t.kind=9) (hv:v.kind=9):encN (d+1) t v=putN v.fields.length++((fldsL t v).map fun f=>putN (fNum f).toNat++wholeN (encN d (fTyp f) (fieldV v (fName f)))).flatten:=by
  simp only [encN]
  rw [if_neg (by omega),if_neg (by omega),if_neg (by omega),if_neg (by omega),if_pos hk,concatTo_all (fun f=>fldN v (fun f=>wholeN (encN d (fTyp f) (fieldV v (fName f)))) f) (sortT t.fields) (sortT_len _).symm]
  congr 1
  rw [fldsL,← flat_filter]
  congr 1
  refine List.map_congr_left fun f _=>?_
  unfold fldN
  by_cases h:0≤findI v (fName f)
  · rw [if_pos (show hasF v (fName f) from ⟨hv,h⟩),if_pos (decide_eq_true h)]
  · rw [if_neg (fun z:hasF v (fName f)=>h z.2),if_neg (fun z=>h (of_decide_eq_true z))]
theorem fldsL_mem {t:Ty} {v:V} {f:TF} (h:f ∈ fldsL t v):f ∈ t.fields∧0≤findI v (fName f):=by
  obtain ⟨h1,h2⟩:=List.mem_filter.1 h
  exact ⟨sortT_mem.1 h1,by simpa using h2⟩
theorem fldsL_pair {t:Ty} {v:V} (hn:(t.fields.map fNum).Nodup) (h1:∀ f ∈ t.fields,1≤fNum f):(fldsL t v).Pairwise fun a b=>(fNum a).toNat<(fNum b).toNat:=by
  refine List.Pairwise.filter _ ?_
  rw [List.pairwise_iff_getElem]
  intro i j hi hj hij
  have:=sortT_lt hn hij hj
  simp only [List.getD_eq_getElem?_getD,List.getElem?_eq_getElem hi,List.getElem?_eq_getElem hj,Option.getD_some] at this
  have:=h1 _ (sortT_mem.1 (List.getElem_mem hi))
  omega
theorem rec_facts {c d:Nat} {t:Ty} {v:V} (hto:ownT t=0) (hvo:ownE vsD v=0) (hh:hasT (d+1) t v=true) (hk:t.kind=9) :
    ((fldsL t v).map fun f=>(fName f,fieldV v (fName f))).Perm v.fields∧(fldsL t v).length=v.fields.length∧(v.fields.map (·.1)).Nodup∧v.fields.Pairwise (fun x y=>ltS x.1 y.1)∧v.fields.length≤64 ∧
      v=.mk 9 0 0 ⟨#[]⟩ [] v.fields:=by
  have hvk:=hasT_kind hh
  obtain ⟨h64,hN⟩:=V.ok_rec hvo (by omega)
  have hpw:=names_pair hN
  have hnd:(v.fields.map (·.1)).Nodup:=by
    rw [List.Nodup,List.pairwise_map]
    exact hpw.imp fun {a b} h q=>by rw [q] at h;exact ltS_irrefl _ h
  have hp:=fields_perm hh hk (ownT_nodup hto (.inl hk)).2 hnd (L:=sortT t.fields) (List.mergeSort_perm t.fields leF)
  refine ⟨hp,?_,hnd,hpw,h64,?_⟩
  · have:=hp.length_eq
    rw [List.length_map] at this
    exact this
  · have hu:=(V.ok_uses hvo).1
    simp only [usesB,Bool.and_eq_true,Bool.or_eq_true,beq_iff_eq] at hu
    obtain ⟨⟨⟨⟨u1,u2⟩,u3⟩,u4⟩,u5⟩:=hu
    cases v with
    | mk k i s x l f =>
      have hk2:k=9:=by rw [← hk];exact hvk
      have u1:(((((k=1∨k=2)∨k=6)∨k=7)∨k=3)∨i=0):=u1
      have u2:k=3∨s=0:=u2
      have u3:(((k=4∨k=5)∨k=10)∨x.size=0):=u3
      have u4:((k=8∨k=10)∨l.length=0):=u4
      have hl:l=[]:=List.eq_nil_of_length_eq_zero (by omega)
      have hi:i=0:=by omega
      have hs:s=0:=by omega
      have hx:x=⟨#[]⟩:=by
        have:x.size=0:=by omega
        cases x with
        | mk d=>rw [Array.eq_empty_of_size_eq_zero this]
      subst hk2 hl hi hs hx
      rfl
theorem isNull_no {vs:ByteArray→Bool} {v:V} (h:ownE vs v=0):isNull v=false:=(V.ok_uses h).2
theorem dec_enc (e:Nat):∀ (d c:Nat) (t:Ty) (v:V),Ty.ok e d t→V.le c v→V.ok c v→hasT d t v=true→∀ (r:Rd) (rest:List Nat),r.good→r.e=0→r.room=encN d t v++rest→decV d t r=(v,r.adv (encN d t v))
  | 0,_,_,_,h,_,_,_,_,_,_,_,_=>h.elim
  | d + 1,c,t,v,hto,hv,hvo,hh,r,rest,h,he,hr=>by
    obtain ⟨c,rfl⟩:=V.lP hv
    have hvk:=hasT_kind hh
    have hown:=V.ok_self hvo
    have hacc:accV 1 (d+1) t v=true:=by simp only [accV,chk_one hown,decide_true,Bool.true_and,hh]
    rw [decV,if_neg (by rw [he];simp)]
    by_cases h8:t.kind=8
    · rw [if_pos h8]
      have h1:=ownT_elem hto.1 h8
      have hx:t.elem.getD 0 default ∈ t.elem:=getD_in (by omega)
      have hle:=hv.1
      have hee:encN (d+1) t v=putN v.list.length++(v.list.map fun x=>encN d (t.elem.getD 0 default) x).flatten:=by
        simp only [encN];rw [if_neg (by omega),if_neg (by omega),if_neg (by omega),if_pos (by omega),concatTo_all (fun x=>encN d (t.elem.getD 0 default) x) v.list rfl]
      rw [hee] at hr ⊢
      rw [List.append_assoc] at hr
      have hN:=num_room he (n:=v.list.length) (by omega) hr
      obtain ⟨a1,a2⟩:=adv_room h hr
      have hb:t.min≤v.list.length∧v.list.length≤t.max:=by
        have:=hh
        simp only [hasT] at this
        rw [if_neg (by omega),if_neg (by omega),if_neg (by omega),if_neg (by omega),if_pos (by omega)] at this
        simp only [Bool.and_eq_true,decide_eq_true_eq] at this
        exact this.1
      have hkid:∀ x ∈ v.list,V.ok c x:=fun x hx=>V.ok_kid hvo (by simp only [kids];rw [if_pos (by omega)];exact hx)
      have hL:=list_room (f:=decV d (t.elem.getD 0 default)) (fun x=>encN d (t.elem.getD 0 default) x) v.list [] (r.adv (putN v.list.length)) rest
        (fun x hxl p rest p1 p2 p3=>dec_enc e d c _ x (Ty.ok_elem hto h8 hx) (hv.2.2.2.1 x hxl) (hkid x hxl) (hasT_list hh h8 x hxl) p rest p1 p2 p3) a1 he a2
      have hst:lstR (decV d (t.elem.getD 0 default)) t r=(.mk 8 0 0 ⟨#[]⟩ v.list [],(r.adv (putN v.list.length)).adv (v.list.map fun x=>encN d (t.elem.getD 0 default) x).flatten):=by
        unfold lstR
        simp only [hN,Int.toNat_natCast]
        rw [if_neg (by omega),hL]
        rfl
      rw [hst,adv_adv]
      congr 1
      have hu:=(V.ok_uses hown).1
      simp only [usesB,Bool.and_eq_true,Bool.or_eq_true,beq_iff_eq] at hu
      obtain ⟨⟨⟨⟨u1,u2⟩,u3⟩,u4⟩,u5⟩:=hu
      have hf:v.fields=[]:=List.eq_nil_of_length_eq_zero (by omega)
      have hi:v.int=0:=by omega
      have hs:v.scale=0:=by omega
      have ht:v.text.size=0:=by omega
      cases v with
      | mk k i s x l f =>
        have hk2:k=8:=by rw [← h8];exact hvk
        have hf:f=[]:=hf
        have hi:i=0:=hi
        have hs:s=0:=hs
        have hx:x=⟨#[]⟩:=by
          have ht:x.size=0:=ht
          cases x with
          | mk d=>rw [Array.eq_empty_of_size_eq_zero ht]
        subst hk2 hf hi hs hx
        rfl
    rw [if_neg h8]
    by_cases h9:t.kind=9
    · rw [if_pos h9]
      obtain ⟨f1,f2,f3,f4,f5,f6⟩:=rec_facts (c:=c) hto.1 hown hh h9
      obtain ⟨hn1,hn2⟩:=ownT_nodup hto.1 (.inl h9)
      have hnum:=fun f hf=>ownT_num hto.1 (.inl h9) (f:=f) hf
      rw [encN_rec h9 (by omega)] at hr ⊢
      rw [List.append_assoc] at hr
      have hN:=num_room he (n:=v.fields.length) (by omega) hr
      obtain ⟨a1,a2⟩:=adv_room h hr
      have hF:=fields_room (fun f:TF=>(fNum f).toNat) (fun f=>encN d (fTyp f) (fieldV v (fName f))) (fun f=>[(fName f,fieldV v (fName f))]) (k:=fldK (decV d) t) (fldsL t v) 0 [] (r.adv (putN v.fields.length)) rest
        (fun f hf=>by have:=hnum f (fldsL_mem hf).1;omega) (fldsL_pair hn1 fun f hf=>(hnum f hf).1) (fun f hf acc p p1 p2 p3=>by
          obtain ⟨g1,g2⟩:=fldsL_mem hf
          have hn:=hnum f g1
          have hcast:(((fNum f).toNat:Nat):Int)=fNum f:=by omega
          obtain ⟨b1,b2⟩:=getTF_num hn1 g1
          obtain ⟨hm,hT⟩:=hasT_fld hh h9 hn2 g1 g2
          have ih:=dec_enc e d c (fTyp f) (fieldV v (fName f)) (Ty.ok_field hto (.inl h9) g1) (hv.2.2.2.2 _ hm).2 (V.ok_kid hvo (by simp only [kids];rw [if_neg (by omega),if_pos (by omega)];exact List.mem_map_of_mem (f:=(·.2)) hm)) hT p [] p1 p2 p3
          rw [hcast]
          unfold fldK
          rw [if_neg (by omega),b2,ih]) a1 he a2
      have hmf:((fldsL t v).map fun f=>[(fName f,fieldV v (fName f))]).flatten=(fldsL t v).map fun f=>(fName f,fieldV v (fName f)):=by
        generalize fldsL t v=l
        induction l with
        | nil=>rfl
        | cons x l ih=>rw [List.map_cons,List.flatten_cons,ih];rfl
      have hFF:fieldsF (decV d) t r=((fldsL t v).map fun f=>(fName f,fieldV v (fName f)),(r.adv (putN v.fields.length)).adv ((fldsL t v).map fun f=>putN (fNum f).toNat++wholeN (encN d (fTyp f) (fieldV v (fName f)))).flatten):=by
        unfold fieldsF
        rw [hN]
        simp only [Int.toNat_natCast]
        rw [f2] at hF
        rw [hF,hmf]
        rfl
      have hD:defsR t.fields (fieldsF (decV d) t r).1 (fieldsF (decV d) t r).2=fieldsF (decV d) t r:=by
        refine (defsR_full (t:=t) (v:=v) t.fields fun f hf hN=>?_).trans rfl
        rw [hFF] at hN
        have h0:findI v (fName f)<0:=by
          apply Int.not_le.1
          intro z
          have:f ∈ fldsL t v:=List.mem_filter.2 ⟨sortT_mem.2 hf,by simpa using z⟩
          have h2:hasN (fName f) ((fldsL t v).map fun f=>(fName f,fieldV v (fName f)))=true:=List.any_eq_true.2 ⟨_,List.mem_map_of_mem this,by simp⟩
          rw [h2] at hN;cases hN
        have:=hh
        simp only [hasT] at this
        rw [if_neg (by omega),if_neg (by omega),if_neg (by omega),if_neg (by omega),if_neg (by omega),if_neg (by omega),if_pos (by omega)] at this
        simp only [Bool.and_eq_true,Bool.not_eq_true',List.any_eq_false,decide_eq_true_eq,bne_iff_ne,ne_eq,not_and,Decidable.not_not] at this
        exact this.2 f hf h0
      unfold recR
      rw [hD,hFF,adv_adv]
      simp only
      congr 1
      have hk:keepR ((fldsL t v).map fun f=>(fName f,fieldV v (fName f)))=(fldsL t v).map fun f=>(fName f,fieldV v (fName f)):=by
        refine keepR_all _ ((f1.map (·.1)).nodup_iff.2 f3) fun x hx=>?_
        have hx2:=f1.mem_iff.1 hx
        obtain ⟨c,rfl⟩:=V.lP (hv.2.2.2.2 x hx2).2
        exact isNull_no (V.ok_self (V.ok_kid hvo (by simp only [kids];rw [if_neg (by omega),if_pos (by omega)];exact List.mem_map_of_mem (f:=(·.2)) hx2)))
      unfold recV
      rw [hk,sortN_perm f4 f1]
      exact f6.symm
    rw [if_neg h9]
    by_cases h10:t.kind=10
    · rw [if_pos h10]
      have h1:=V.ok_list hown (by omega)
      have hxl:v.list.getD 0 default ∈ v.list:=getD_in (by omega)
      obtain ⟨h0,hT⟩:=hasT_var hh h10
      have hfm:=getTF_mem h0
      have hnum:=ownT_num hto.1 (.inr h10) hfm
      have hee:encN (d+1) t v=putN (fNum (gT t (byName v.text))).toNat++wholeN (encN d (fTyp (gT t (byName v.text))) (v.list.getD 0 default)):=by
        simp only [encN];rw [if_neg (by omega),if_neg (by omega),if_neg (by omega),if_neg (by omega),if_neg (by omega),if_pos (by omega)]
      have hnm:fName (gT t (byName v.text))=v.text:=by
        have:=idxI_hit (p:=byName v.text) (x:=(default:TF)) h0
        simpa [byName,gT] using this
      rw [hee] at hr ⊢
      generalize gT t (byName v.text)=f at *
      rw [List.append_assoc] at hr
      have hN:=num_room he (n:=(fNum f).toNat) (by omega) hr
      obtain ⟨a1,a2⟩:=adv_room h hr
      have hcast:(((fNum f).toNat:Nat):Int)=fNum f:=by omega
      rw [hcast] at hN
      obtain ⟨b1,b2⟩:=getTF_num (ownT_nodup hto.1 (.inr h10)).1 hfm
      have hP:=part_room (k:=varK (decV d) (fTyp f)) (acc:=[]) (x:=[v.list.getD 0 default]) a1 he a2 fun p p1 p2 p3=>by
        have ih:=dec_enc e d c (fTyp f) (v.list.getD 0 default) (Ty.ok_field hto (.inr h10) hfm) (hv.2.2.2.1 _ hxl) (V.ok_kid hvo (by simp only [kids];rw [if_pos (by omega)];exact hxl)) hT p [] p1 p2 p3
        unfold varK
        rw [ih]
      unfold varR
      rw [hN]
      simp only
      rw [if_neg (by omega),b2,hP,adv_adv,hnm]
      simp only
      congr 1
      have hu:=(V.ok_uses hown).1
      simp only [usesB,Bool.and_eq_true,Bool.or_eq_true,beq_iff_eq] at hu
      obtain ⟨⟨⟨⟨u1,u2⟩,u3⟩,u4⟩,u5⟩:=hu
      have hf:v.fields=[]:=List.eq_nil_of_length_eq_zero (by omega)
      have hi:v.int=0:=by omega
      have hs:v.scale=0:=by omega
      cases v with
      | mk k i s x l f =>
        have hk2:k=10:=by rw [← h10];exact hvk
        have hf:f=[]:=hf
        have hi:i=0:=hi
        have hs:s=0:=hs
        have hl:l.length=1:=h1
        subst hk2 hf hi hs
        obtain ⟨y,rfl⟩:∃ y,l=[y]:=by
          cases l with
          | nil=>cases hl
          | cons y l =>
            cases l with
            | nil=>exact ⟨y,rfl⟩
            | cons z l=>simp at hl
        rfl
    rw [if_neg h10]
    obtain ⟨s1,s2,s3,s4⟩:=scal_eq hown (by omega) (by omega) (by omega)
    have hts:t.scale=v.scale:=by
      by_cases h3:t.kind=3
      · have:=hh
        simp only [hasT] at this
        rw [if_neg (by omega),if_pos (by omega)] at this
        simp only [Bool.and_eq_true,beq_iff_eq] at this
        exact this.2.symm
      · rw [tok_scale hto.1 h3,s4 (by omega)]
    have key:scalR t r=(v,r.adv (encN (d+1) t v)):=by
      by_cases h1:t.kind=1
      · have hb:=V.ok_bool hown (by omega)
        have hee:encN (d+1) t v=[v.int.toNat]:=by simp only [encN];rw [if_pos h1]
        rw [hee] at hr ⊢
        have hsn:strN (baL [v.int.toNat])=[v.int.toNat]:=strN_of (by simp;omega)
        have hB:=bytes_room h he (b:=baL [v.int.toNat]) (rest:=rest) (by rw [hsn];exact hr)
        rw [bS,hsn] at hB
        have hB:bR r 1=(baL [v.int.toNat],r.adv [v.int.toNat]):=hB
        have hby:byt (baL [v.int.toNat]) 0=v.int:=by
          unfold byt
          rw [byt_strN,hsn]
          simp;omega
        have hbr:boolR 0 r=(v.int,r.adv [v.int.toNat]):=by
          unfold boolR
          rw [hB]
          simp only
          rw [if_neg (by rw [adv_e,he];simp),if_neg (by rw [hby];omega),hby]
        unfold scalR
        rw [if_pos h1,hbr]
        simp only
        have hq:V.mk t.kind v.int t.scale ⟨#[]⟩ [] []=v:=by rw [hts,← hvk,← s2 (by omega) (by omega)];exact s1.symm
        rw [hq]
      by_cases h45:t.kind=4∨t.kind=5
      · have hb:=V.ok_text hown (by omega)
        have hee:encN (d+1) t v=putN v.text.size++strN v.text:=by simp only [encN];rw [if_neg (by omega),if_neg (by omega),if_pos (by omega)]
        rw [hee] at hr ⊢
        rw [List.append_assoc] at hr
        have hN:=num_room he (n:=v.text.size) (by omega) hr
        obtain ⟨a1,a2⟩:=adv_room h hr
        have hB:=bytes_room a1 he a2
        unfold scalR
        rw [if_neg h1,if_pos h45,hN]
        simp only
        rw [hB,adv_adv]
        have hq:V.mk t.kind 0 t.scale v.text [] []=v:=by rw [hts,← hvk,← s3 (by omega)];exact s1.symm
        rw [hq]
      · have hk:t.kind=2∨t.kind=3∨t.kind=6∨t.kind=7:=by
          have:=hto.1
          simp only [ownT] at this
          split at this
          · cases this
          · omega
        have hb:=V.ok_int hown (by omega)
        have hee:encN (d+1) t v=putN (zigI v.int).toNat:=by simp only [encN];rw [if_neg (by omega),if_pos (by omega)]
        have hz:((zigI v.int).toNat:Int)=zigI v.int∧(zigI v.int).toNat≤4611686018427387903:=by simp only [zigI];omega
        rw [hee] at hr ⊢
        have hN:=num_room he hz.2 hr
        unfold scalR
        rw [if_neg h1,if_neg h45,hN]
        simp only
        rw [hz.1,unzig_zig]
        have hq:V.mk t.kind v.int t.scale ⟨#[]⟩ [] []=v:=by rw [hts,← hvk,← s2 (by omega) (by omega)];exact s1.symm
        rw [hq]
    rw [key]
    exact tryR_yes hacc
end Go.Ai
