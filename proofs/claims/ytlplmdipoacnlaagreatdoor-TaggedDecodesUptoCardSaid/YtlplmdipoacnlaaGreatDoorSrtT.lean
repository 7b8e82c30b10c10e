/- slices.SortFunc at a type's fields, by their numbers. -/
import Derived.Test.YtlplmdipoacnlaaGreatDoorSrtR
set_option linter.all false
namespace Go.Ai
open Go Go.Proofs Go.Lib
set_option maxRecDepth 100000
set_option maxHeartbeats 2000000
theorem SortT_none (x:Bool) (f:(Unit→Nat)→List AV):Af Tryz.prog 136 [.aref 1000 0 fun _=>0,.func 137 []] [(1000,.arr x 70 11 0 (fun _=>0) f)] (.tup []) [(1000,.arr x 70 11 0 (fun _=>0) f)]:=by
  refine ⟨ent_of Tryz.func136 (by kernel_rfl) rfl,fun E β vs hpin hdf hY hr=>?_⟩
  have hv0:=hr.tmps 0 _ rfl
  have hsz:=hr.size
  obtain ⟨_,q0⟩:=hv0.aI
  have e0:=(q0 _ _ _ _ _ _ rfl).2 rfl
  obtain ⟨fv,hvs⟩:∃ fv,vs=#[β 1000,fv]:=by
    refine ⟨vs.getD 1 undef,?_⟩
    apply Array.ext (by simpa using hsz)
    intro k h1 h2
    have h3:k=0∨k=1:=by simp at h2;omega
    rcases h3 with rfl|rfl
    · have:=e0.2;simpa [Array.getD_eq_getD_getElem?,h1] using this
    · simp [Array.getD_eq_getD_getElem?,h1]
  subst hvs
  have o0:=hr.objs 1000
  change OR E E.w0 β _ 1000 (.arr x 70 11 0 (fun _=>0) f) at o0
  have hβ:∃ p cap,β 1000=.slice p 0 cap:=by
    rcases o0 with ⟨h,_⟩|⟨g,cap,cur,h,_⟩
    · exact ⟨_,_,h⟩
    · exact ⟨_,_,h⟩
  obtain ⟨p,cap,hβ⟩:=hβ
  rw [hβ]
  have hcall:=AnyF.slices_SortFunc_none Tryz.sortT p cap fv E.w0
  change Calls Tryz.prog 136 _ _ _ at hcall
  refine hcall.mono fun e w' ⟨he,hw⟩=>?_
  subst hw
  refine ⟨.tuple #[],upd β 1000 (β 1000),he,?_⟩
  exact turn_end (o:=1000) (ver2:=0) (n2:=fun _=>0) (f2:=f) hr hdf rfl rfl rfl rfl (Nat.le_refl _) (fun k hk _=>rfl) (v:=β 1000) (fun b hb=>.inl hb) (.inl ⟨rfl,rfl,rfl⟩) (fun hrd=>by
    rcases o0 with ⟨h,h2⟩|⟨g,cap2,cur,h,h2,h3,h4,h5,h6,h7,h8⟩
    · exact .inl ⟨by simp [upd,h],rfl⟩
    · exact .inr ⟨g,cap2,cur,by simp [upd,h],h2,h3,h4,h5,h6,h7,fun i hi=>absurd hi (Nat.not_lt_zero _)⟩) (.d (.tup [] #[] rfl (by simp)))
theorem sortT_list {n:Nat} {l:List TF} (hn:l.length=n) :
    ((List.finRange n).mergeSort fun x y=>!(decide (compareInt (fNum (l.getD y.val default)) (fNum (l.getD x.val default))<0))).map (fun q=>l.getD q.val default)=sortT l:=by
  subst hn
  unfold sortT
  rw [List.map_mergeSort (f:=fun q:_root_.Fin l.length=>l.getD q.val default) (s:=leF) (r:=fun x y=>!(decide (compareInt (fNum (l.getD y.val default)) (fNum (l.getD x.val default))<0))) (l:=List.finRange l.length) (fun a _ b _=>rfl)]
  congr 1
  refine List.ext_getElem (by simp) fun i h1 h2=>?_
  simp [List.getD,h2]
def rowsTF (e d:Nat) (l:Unit→List TF):(Unit→Nat)→List AV:=fun j=>cF e d .any fun _=>(l ()).getD (j ()) default
theorem SortT_ok (ee d:Nat) (x:Bool) (l:List TF) (hn:l.length≤1073741824) (hd:(l.map fNum).Nodup) :
    Af Tryz.prog 136 [.aref 1000 0 fun _=>l.length,.func 137 []] [(1000,.arr x 70 11 0 (fun _=>l.length) (rowsTF ee d fun _=>l))] (.tup []) [(1000,.arr x 70 11 0 (fun _=>l.length) (rowsTF ee d fun _=>sortT l))]:=by
  rcases Nat.eq_zero_or_pos l.length with h0|h0
  · obtain rfl:=List.eq_nil_of_length_eq_zero h0
    rw [show sortT ([]:List TF)=[] by simp [sortT]]
    exact SortT_none x _
  refine ⟨ent_of Tryz.func136 (by kernel_rfl) rfl,fun E β vs hpin hdf hY hr=>?_⟩
  have hv0:=hr.tmps 0 _ rfl
  have hv1:=hr.tmps 1 _ rfl
  have hsz:=hr.size
  obtain ⟨_,q0⟩:=hv0.aI
  have e0:=(q0 _ _ _ _ _ _ rfl).2 rfl
  obtain ⟨us,eu,lu,_⟩:=hv1.func_inv
  have hus:us=#[]:=by simpa using lu.symm
  subst hus
  have hvs:vs=#[β 1000,.func (.func 137) #[] #[]]:=by
    apply Array.ext (by simpa using hsz)
    intro k h1 h2
    have h3:k=0∨k=1:=by simp at h2;omega
    rcases h3 with rfl|rfl
    · have:=e0.2;simpa [Array.getD_eq_getD_getElem?,h1] using this
    · simpa [Array.getD_eq_getD_getElem?,h1] using eu
  subst hvs
  have o0:=hr.objs 1000
  change OR E E.w0 β _ 1000 (.arr x 70 11 0 (fun _=>l.length) (rowsTF ee d fun _=>l)) at o0
  rcases o0 with ⟨_,hz⟩|⟨b,c,cur,hβ,hh,hc1,hc2,hcsz,hx1,hown,hel⟩
  · simp only at hz;omega
  simp only at hc1 hel
  rw [hβ]
  have hget:∀ q:_root_.Fin l.length,l.getD q.val default=l[q.val]:=fun q=>by simp [List.getD]
  have hcall:=SortT_raw l.length b c h0 (fun q=>fNum (l.getD q.val default)) (fun i j h=>by
      apply _root_.Fin.ext
      simp only [hget] at h
      have h1:(l.map fNum)[i.val]'(by simp)=(l.map fNum)[j.val]'(by simp):=by simpa using h
      exact (List.getElem_inj hd).1 h1) cur E.w0 hn hc1 hh hcsz (els_one11 hcsz hc1 hel) (fun i=>by
      obtain ⟨_,_,h3⟩:=hel i.val i.isLt
      have hlt:i.val * 11<cur.size:=by have:=i.isLt;omega
      have:=h3 0 _ cur[i.val * 11] rfl (by rw [Nat.add_zero];exact Array.getElem?_eq_getElem hlt)
      rw [Array.getElem?_eq_getElem hlt]
      exact congrArg some (RX.d (β:=β) (H:=fun _=>.none) this).int_inv)
  refine hcall.mono fun e w' ⟨he,L,new,hL,hos,htape,hout,hsize,hheap,hg,hns,hnew⟩=>?_
  have hLm:L.map (fun q=>l.getD q.val default)=sortT l:=by rw [hL];exact sortT_list rfl
  have hLl:L.length=l.length:=by
    have:=congrArg List.length hLm
    rw [List.length_map,sortT_len] at this
    exact this
  refine ⟨.tuple #[],upd β 1000 (β 1000),he,?_⟩
  refine turn_end (o:=1000) (ver2:=0) (n2:=fun _=>l.length) (f2:=rowsTF ee d fun _=>sortT l) hr hdf rfl hos htape hout hsize (fun k hk hkb=>hheap k hk fun e=>hkb (by rw [hβ,e];rfl)) (v:=β 1000) (fun b hb=>.inl hb) (.inl ⟨rfl,rfl,rfl⟩) (fun hrd=>?_) (.d (.tup [] #[] rfl (by simp)))
  refine .inr ⟨b,c,new,by simp [upd,hβ],hg,hc1,hc2,by rw [hns,hcsz],hx1,hown,fun i hi=>?_⟩
  have hi2:i<l.length:=hi
  have hLi:L[i]? = some L[i]:=List.getElem?_eq_getElem (by omega)
  have hrow:(rowsTF ee d (fun _=>sortT l) fun _=>i)=rowsTF ee d (fun _=>l) fun _=>(L[i]'(by omega)).val:=by
    show (cF ee d .any fun _=>(sortT l).getD i default)=cF ee d .any fun _=>l.getD _ default
    have:(sortT l).getD i default=l.getD (L[i]'(by omega)).val default:=by
      rw [← hLm];simp [List.getD,hLi]
    rw [this]
  rw [hrow]
  obtain ⟨a1,a2,a3⟩:=hel _ (L[i]'(by omega)).isLt
  refine ⟨a1,a2,fun j av v hj hv=>hrd _ _ (a3 j av v hj ?_)⟩
  have hj7:j<11:=by have:=(List.getElem?_eq_some_iff.1 hj).1;omega
  rw [← hnew i _ j hLi hj7];exact hv
end Go.Ai
