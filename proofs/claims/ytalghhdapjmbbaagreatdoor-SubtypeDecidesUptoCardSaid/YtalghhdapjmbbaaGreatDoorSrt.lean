/- slices.SortFunc at a record's fields. -/
import Derived.Test.YtalghhdapjmbbaaGreatDoorSortF
import Derived.Test.YtalghhdapjmbbaaGreatDoorOrd
import Derived.Test.YtalghhdapjmbbaaGreatDoorSeg
import Derived.Test.YtalghhdapjmbbaaGreatDoorRecP
import Derived.Shelf.SlSortCmp.NoneTotal
set_option linter.all false
namespace Go.Ai
open Go Go.Proofs Go.Shelf Go.RowKit Go.Lib Go.Sort
set_option maxRecDepth 100000
set_option maxHeartbeats 2000000
theorem Record2_raw (a b:ByteArray) (xs ys:List Value) (hx:xs.length=6) (hy:ys.length=6) (W:World) :
    Calls Tryz.prog 126 #[.agg (Value.string a :: xs).toArray,.agg (Value.string b :: ys).toArray] W fun e w'=>e=.returned (.int .i64 (cmpS a b))∧∃ q os',w'=grow (W.drewN q) os':=by
  have hcon:=fun W'=>Tryz.strings_Compare a b W'
  change ∀ W',Calls Tryz.prog 127 _ _ _ at hcon
  unfold cmpS
  generalize Lib.compareBytes a.data.toList b.data.toList=r at hcon ⊢
  match xs,hx,ys,hy with
  | [x1,x2,x3,x4,x5,x6],_,[y1,y2,y3,y4,y5,y6],_ =>
    go_enter Tryz.func126,Tryz.ntmps126
    go_wp2_with (go_at_call 127;refine (hcon _).mono ?_;rintro e w' ⟨rfl,rfl⟩)
    go_ret
    exact ⟨rfl,0,_,by rw [alloc_eq_grow,alloc_eq_grow,grow_grow];rfl⟩
theorem agg73:∀ w,(isAgg (Tryz.sortF_ren.t 24)).run Tryz.prog w=.ok true w:=fun w=>Tryz.isAgg50 w
theorem siz73:∀ w,(Go.sizeOf (Tryz.sortF_ren.t 24)).run Tryz.prog w=.ok 7 w:=fun w=>Tryz.sizeOf50 w
theorem swo_cmp {α:Type} (nm:α→ByteArray):SWO (ltOf fun x y:α=>cmpS (nm x) (nm y)) where
  irrefl x:=by simp [ltOf,cmpS_eq.2 rfl]
  trans x y z h1 h2:=by simp only [ltOf,decide_eq_true_eq,cmpS_lt] at *;exact ltS_trans h1 h2
  ntrans x y z h1 h2:=by
    simp only [ltOf,decide_eq_false_iff_not,cmpS_lt] at *
    intro h
    rcases ltS_tri (nm x) (nm y) with q|q|q
    · exact h1 q
    · rw [q] at h;exact h2 h
    · exact h2 (ltS_trans q h)
theorem Sort_raw (n b c:Nat) (hn0:0<n) (nm:_root_.Fin n→ByteArray) (hnm:∀ i j,nm i=nm j→i=j) (cur:Array Value) (w:World) (hn:n≤1073741824) (hc:n≤c) (hb:w.heap[b]? = some (.cells cur 50 (0,0))) (hsz:cur.size=c * 7)
    (h1:∀ j v,j<n * 7→cur[j]? = some v→v.oneCell'=true) (hname:∀ i:_root_.Fin n,cur[i.val * 7]? = some (.string (nm i))) :
    Calls Tryz.prog 125 #[.slice (some ⟨b,0,none⟩) n c,.func (.func 126) #[] #[]] w fun e w'=>e=.returned (.tuple #[]) ∧
      ∃ (L:List (_root_.Fin n)) (new:Array Value),L=(List.finRange n).mergeSort (fun x y=>!(decide (cmpS (nm y) (nm x)<0)))∧w'.os=w.os∧w'.tape=w.tape∧w'.output=w.output∧w.heap.size≤w'.heap.size∧(∀ k,k<w.heap.size→k≠b→w'.heap[k]? = w.heap[k]?) ∧
        w'.heap[b]? = some (.cells new 50 (0,0))∧new.size=cur.size∧∀ (i:Nat) (q:_root_.Fin n) (j:Nat),L[i]? = some q→j<7→new[i * 7+j]? = cur[q.val * 7+j]? := by
  haveI:Inhabited (_root_.Fin n):=⟨⟨0,hn0⟩⟩
  have hblt:b<w.heap.size:=(Array.getElem?_eq_some_iff.1 hb).1
  have hlen:∀ x:_root_.Fin n,(seg cur (x.val * 7) 7).length=7:=fun x=>seg_len (by have:=x.isLt;omega)
  have hget:∀ (x:_root_.Fin n) (j:Nat),j<7→(seg cur (x.val * 7) 7)[j]? = cur[x.val * 7+j]? := fun x j hj=>by rw [seg_get,if_pos hj]
  have hone:∀ x:_root_.Fin n,∀ v ∈ seg cur (x.val * 7) 7,v.oneCell'=true:=fun x=>seg_one h1 (by have:=x.isLt;omega)
  have hcons:∀ x:_root_.Fin n,∃ xs,seg cur (x.val * 7) 7=Value.string (nm x) :: xs∧xs.length=6:=fun x=>by
    have hl:=hlen x
    have h0:=hget x 0 (by omega)
    rw [Nat.add_zero,hname x] at h0
    cases hq:seg cur (x.val * 7) 7 with
    | nil=>rw [hq] at hl;cases hl
    | cons a r =>
      rw [hq] at h0 hl
      simp at h0 hl
      subst h0
      exact ⟨r,rfl,hl⟩
  let d:Array (_root_.Fin n):=(List.finRange n).toArray
  have hds:d.size=n:=by simp [d]
  have hdg:∀ k (hk:k<n),d[k]! = ⟨k,hk⟩:=fun k hk=>by
    rw [getElem!_pos d k (by omega)]
    simp [d]
  have eg:∀ args w,(callFunc 126 args).run Tryz.prog w=.ok (.enter 126 args) w:=enters_of Tryz.func126 (by kernel_rfl) rfl
  have hcmp:CmpLays Tryz.prog 126 #[] (fun x:_root_.Fin n=>seg cur (x.val * 7) 7) 7 (fun x y=>cmpS (nm x) (nm y)) b 0 d.size w:=fun m os dk hs x y=>by
    obtain ⟨xs,ex,lx⟩:=hcons x
    obtain ⟨ys,ey,ly⟩:=hcons y
    simp only [ex,ey]
    exact Record2_raw _ _ xs ys lx ly _
  have hfl:∀ (D:Array (_root_.Fin n)) (t:Nat) (hD:D.size=n) (ht:t<n * 7),some (flatK (fun x:_root_.Fin n=>seg cur (x.val * 7) 7) 7 D)[t]! = cur[D[t / 7]!.val * 7+t % 7]? := fun D t hD ht=>by
    rw [get_flatK _ _ _ _ (by rw [hD];exact ht),← hget _ _ (Nat.mod_lt _ (by omega))]
    rw [getElem!_pos _ _ (by rw [hlen];exact Nat.mod_lt _ (by omega)),List.getElem?_eq_getElem]
  have hH:HoldsK (fun x:_root_.Fin n=>seg cur (x.val * 7) 7) 7 w b 0 d:=fun j hj=>by
    rw [size_flatK,hds] at hj
    refine ⟨?_,by simp [World.frozen?,hb]⟩
    rw [Nat.zero_add,cell_of_row hb]
    have:=hfl d j hds hj
    rw [hdg (j / 7) (by omega)] at this
    rw [show j / 7 * 7+j % 7=j by omega] at this
    rw [← this];rfl
  have hT:∀ x y:_root_.Fin n,(ltOf fun x y=>cmpS (nm x) (nm y)) x y=false→(ltOf fun x y=>cmpS (nm x) (nm y)) y x=false→x=y:=fun x y a b=>by
    simp only [ltOf,decide_eq_false_iff_not,cmpS_lt] at a b
    rcases ltS_tri (nm x) (nm y) with q|q|q
    · exact (a q).elim
    · exact hnm _ _ q
    · exact (b q).elim
  have hcall:=(AnyQ.slices_SortFunc Tryz.sortF 7 agg73 siz73 (fun x:_root_.Fin n=>seg cur (x.val * 7) 7) hlen hone (fun x y=>cmpS (nm x) (nm y)) (swo_cmp nm) 126 #[] b 0 c d w eg hcmp hH hblt (by rw [hds];omega)).mono
    (fun e w' ⟨he,d',m,os,hp,hs,hw⟩=>(⟨he,m,os,by rw [hw,← sorted_unique_holds (swo_cmp nm) hT d d' hp hs]⟩:e=Ending.returned (.tuple #[])∧∃ m os,w'=sortWorldK (fun x:_root_.Fin n=>seg cur (x.val * 7) 7) 7 w b 0 m (d.toList.mergeSort fun x y=>!(ltOf fun x y=>cmpS (nm x) (nm y)) y x).toArray os))
  rw [hds] at hcall
  change Calls Tryz.prog 125 _ _ _ at hcall
  refine hcall.mono fun e w' ⟨he,m,os,hw⟩=>⟨he,?_⟩
  have hLl:((List.finRange n).mergeSort fun x y=>!(decide (cmpS (nm y) (nm x)<0))).length=n:=by rw [List.length_mergeSort];simp
  refine ⟨_,putCells id 0 (flatK (fun x:_root_.Fin n=>seg cur (x.val * 7) 7) 7 ((List.finRange n).mergeSort fun x y=>!(decide (cmpS (nm y) (nm x)<0))).toArray) cur,rfl,?_⟩
  have hdt:d.toList=List.finRange n:=by simp [d]
  rw [hdt] at hw
  change w'=sortWorldK _ 7 w b 0 m ((List.finRange n).mergeSort fun x y=>!(decide (cmpS (nm y) (nm x)<0))).toArray os at hw
  generalize ((List.finRange n).mergeSort fun x y=>!(decide (cmpS (nm y) (nm x)<0)))=L at hw hLl ⊢
  have hs0:(putRowK (fun x:_root_.Fin n=>seg cur (x.val * 7) 7) 7 (Sort.ahead w m) b 0 L.toArray).heap.size=w.heap.size:=by
    unfold putRowK;rw [Go.Sort.size_putRow];rfl
  have hold:∀ k,k<w.heap.size→w'.heap[k]? = (putRowK (fun x:_root_.Fin n=>seg cur (x.val * 7) 7) 7 (Sort.ahead w m) b 0 L.toArray).heap[k]? := fun k hk=>by
    rw [hw];unfold sortWorldK;exact Go.Sort.heap_grow_old _ _ (by rw [hs0];exact hk)
  refine ⟨by rw [hw];rfl,by rw [hw];rfl,by rw [hw];rfl,by rw [hw];unfold sortWorldK;rw [size_grow,hs0];omega,fun k hk hkb=>?_,?_,by simp [putCells],fun i q j hi hj=>?_⟩
  · rw [hold k hk]
    unfold putRowK putRow mapBlock
    simp only [Array.getElem?_modify,if_neg (Ne.symm hkb)]
    rfl
  · rw [hold b hblt]
    unfold putRowK putRow mapBlock
    simp only [Array.getElem?_modify,if_true]
    show Option.map _ (w.heap[b]?)=_
    rw [hb];rfl
  · have hin:i<n:=by have:=(List.getElem?_eq_some_iff.1 hi).1;omega
    have hq:q.val<n:=q.isLt
    have ht:i * 7+j<n * 7:=by omega
    have h3:=hfl L.toArray (i * 7+j) (by simpa using hLl) ht
    have hLi:L.toArray[(i * 7+j) / 7]! = q:=by
      rw [show (i * 7+j) / 7=i by omega,getElem!_pos L.toArray i (by simp;omega)]
      have:=(List.getElem?_eq_some_iff.1 hi).2
      simpa using this
    rw [hLi,show (i * 7+j) % 7=j by omega] at h3
    rw [← h3]
    simp only [putCells,Array.getElem?_mapIdx]
    rw [Array.getElem?_eq_getElem (by omega)]
    simp only [Option.map_some,Nat.zero_add,Nat.sub_zero,id_eq,Nat.zero_le,true_and]
    rw [size_flatK,if_pos (by simp;omega)]
end Go.Ai
namespace Go.Ai
open Go Go.Proofs
set_option maxRecDepth 100000
set_option maxHeartbeats 2000000
theorem Sort_none (x:Bool) (f:(Unit→Nat)→List AV):Af Tryz.prog 125 [.aref 1000 0 fun _=>0,.func 126 []] [(1000,.arr x 50 7 0 (fun _=>0) f)] (.tup []) [(1000,.arr x 50 7 0 (fun _=>0) f)]:=by
  refine ⟨ent_of Tryz.func125 (by kernel_rfl) rfl,fun E β vs hpin hdf hY hr=>?_⟩
  have hv0:=hr.tmps 0 _ rfl
  have hsz:=hr.size
  obtain ⟨_,q0⟩:=hv0.aI
  have e0:=(q0 _ _ _ _ _ _ rfl).2 rfl
  obtain ⟨fv,hvs⟩:∃ fv,vs=#[β 1000,fv]:=by
    refine ⟨vs.getD 1 undef,?_⟩
    apply Array.ext (by simpa using hsz)
    intro k h1 h2
    have h3:k=0∨k=1:=by simp at h2;omega
    rcases h3 with rfl|rfl
    · have:=e0.2;simpa [Array.getD_eq_getD_getElem?,h1] using this
    · simp [Array.getD_eq_getD_getElem?,h1]
  subst hvs
  have o0:=hr.objs 1000
  change OR E E.w0 β _ 1000 (.arr x 50 7 0 (fun _=>0) f) at o0
  have hβ:∃ p cap,β 1000=.slice p 0 cap:=by
    rcases o0 with ⟨h,_⟩|⟨g,cap,cur,h,_⟩
    · exact ⟨_,_,h⟩
    · exact ⟨_,_,h⟩
  obtain ⟨p,cap,hβ⟩:=hβ
  rw [hβ]
  have hcall:=AnyF.slices_SortFunc_none Tryz.sortF p cap fv E.w0
  change Calls Tryz.prog 125 _ _ _ at hcall
  refine hcall.mono fun e w' ⟨he,hw⟩=>?_
  subst hw
  refine ⟨.tuple #[],upd β 1000 (β 1000),he,?_⟩
  exact turn_end (o:=1000) (ver2:=0) (n2:=fun _=>0) (f2:=f) hr hdf rfl rfl rfl rfl (Nat.le_refl _) (fun k hk _=>rfl) (v:=β 1000) (fun b hb=>.inl hb) (.inl ⟨rfl,rfl,rfl⟩) (fun hrd=>by
    rcases o0 with ⟨h,h2⟩|⟨g,cap2,cur,h,h2,h3,h4,h5,h6,h7,h8⟩
    · exact .inl ⟨by simp [upd,h],rfl⟩
    · exact .inr ⟨g,cap2,cur,by simp [upd,h],h2,h3,h4,h5,h6,h7,fun i hi=>absurd hi (Nat.not_lt_zero _)⟩) (.d (.tup [] #[] rfl (by simp)))
theorem sort_list {n:Nat} {l:List (ByteArray×V)} (hn:l.length=n) :
    ((List.finRange n).mergeSort fun x y=>!(decide (cmpS (l.getD y.val default).1 (l.getD x.val default).1<0))).map (fun q=>l.getD q.val default)=sortN l:=by
  subst hn
  unfold sortN
  rw [List.map_mergeSort (f:=fun q:_root_.Fin l.length=>l.getD q.val default) (s:=leN) (r:=fun x y=>!(decide (cmpS (l.getD y.val default).1 (l.getD x.val default).1<0))) (l:=List.finRange l.length) (fun a _ b _=>rfl)]
  congr 1
  refine List.ext_getElem (by simp) fun i h1 h2=>?_
  simp [List.getD,h2]
theorem Sort_ok (d:Nat) (fr:FB) (x:Bool) (l:List (ByteArray×V)) (hn:l.length≤1073741824) (hd:(l.map (·.1)).Nodup) :
    Af Tryz.prog 125 [.aref 1000 0 fun _=>l.length,.func 126 []] [(1000,.arr x 50 7 0 (fun _=>l.length) (fF d fr fun _=>l))] (.tup []) [(1000,.arr x 50 7 0 (fun _=>l.length) (fF d fr fun _=>sortN l))]:=by
  rcases Nat.eq_zero_or_pos l.length with h0|h0
  · obtain rfl:=List.eq_nil_of_length_eq_zero h0
    rw [show sortN ([]:List (ByteArray×V))=[] by simp [sortN]]
    exact Sort_none x _
  refine ⟨ent_of Tryz.func125 (by kernel_rfl) rfl,fun E β vs hpin hdf hY hr=>?_⟩
  have hv0:=hr.tmps 0 _ rfl
  have hv1:=hr.tmps 1 _ rfl
  have hsz:=hr.size
  obtain ⟨_,q0⟩:=hv0.aI
  have e0:=(q0 _ _ _ _ _ _ rfl).2 rfl
  obtain ⟨us,eu,lu,_⟩:=hv1.func_inv
  have hus:us=#[]:=by simpa using lu.symm
  subst hus
  have hvs:vs=#[β 1000,.func (.func 126) #[] #[]]:=by
    apply Array.ext (by simpa using hsz)
    intro k h1 h2
    have h3:k=0∨k=1:=by simp at h2;omega
    rcases h3 with rfl|rfl
    · have:=e0.2;simpa [Array.getD_eq_getD_getElem?,h1] using this
    · simpa [Array.getD_eq_getD_getElem?,h1] using eu
  subst hvs
  have o0:=hr.objs 1000
  change OR E E.w0 β _ 1000 (.arr x 50 7 0 (fun _=>l.length) (fF d fr fun _=>l)) at o0
  rcases o0 with ⟨_,hz⟩|⟨b,c,cur,hβ,hh,hc1,hc2,hcsz,hx1,hown,hel⟩
  · simp only at hz;omega
  simp only at hc1 hel
  rw [hβ]
  have hget:∀ q:_root_.Fin l.length,l.getD q.val default=l[q.val]:=fun q=>by simp [List.getD]
  have hcall:=Sort_raw l.length b c h0 (fun q=>(l.getD q.val default).1) (fun i j h=>by
      apply _root_.Fin.ext
      simp only [hget] at h
      have h1:(l.map (·.1))[i.val]'(by simp)=(l.map (·.1))[j.val]'(by simp):=by simpa using h
      exact (List.getElem_inj hd).1 h1) cur E.w0 hn hc1 hh hcsz (els_one7 hcsz hc1 hel) (fun i=>by
      obtain ⟨_,_,h3⟩:=hel i.val i.isLt
      have hlt:i.val * 7<cur.size:=by have:=i.isLt;omega
      have:=h3 0 _ cur[i.val * 7] rfl (by rw [Nat.add_zero];exact Array.getElem?_eq_getElem hlt)
      rw [Array.getElem?_eq_getElem hlt]
      exact congrArg some (RX.d (β:=β) (H:=fun _=>.none) this).str_inv)
  refine hcall.mono fun e w' ⟨he,L,new,hL,hos,htape,hout,hsize,hheap,hg,hns,hnew⟩=>?_
  have hLm:L.map (fun q=>l.getD q.val default)=sortN l:=by rw [hL];exact sort_list rfl
  have hLl:L.length=l.length:=by
    have:=congrArg List.length hLm
    rw [List.length_map,sortN_len] at this
    exact this
  refine ⟨.tuple #[],upd β 1000 (β 1000),he,?_⟩
  refine turn_end (o:=1000) (ver2:=0) (n2:=fun _=>l.length) (f2:=fF d fr fun _=>sortN l) hr hdf rfl hos htape hout hsize (fun k hk hkb=>hheap k hk fun e=>hkb (by rw [hβ,e];rfl)) (v:=β 1000) (fun b hb=>.inl hb) (.inl ⟨rfl,rfl,rfl⟩) (fun hrd=>?_) (.d (.tup [] #[] rfl (by simp)))
  refine .inr ⟨b,c,new,by simp [upd,hβ],hg,hc1,hc2,by rw [hns,hcsz],hx1,hown,fun i hi=>?_⟩
  have hi2:i<l.length:=hi
  have hLi:L[i]? = some L[i]:=List.getElem?_eq_getElem (by omega)
  have hrow:(fF d fr (fun _=>sortN l) fun _=>i)=fF d fr (fun _=>l) fun _=>(L[i]'(by omega)).val:=by
    simp only [fF]
    have:(sortN l).getD i default=l.getD (L[i]'(by omega)).val default:=by
      rw [← hLm];simp [List.getD,hLi]
    rw [this]
  rw [hrow]
  obtain ⟨a1,a2,a3⟩:=hel _ (L[i]'(by omega)).isLt
  refine ⟨a1,a2,fun j av v hj hv=>hrd _ _ (a3 j av v hj ?_)⟩
  have hj7:j<7:=by have:=(List.getElem?_eq_some_iff.1 hj).1;omega
  rw [← hnew i _ j hLi hj7];exact hv
end Go.Ai
