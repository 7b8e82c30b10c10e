/- Chapter 8: words sorted, and each once: in plain words. -/
import Derived.Test.YtalghhdapjmbbaaGreatDoorSubA
import Derived.Lib.SlicesCompact
import Derived.Test.YtalghhdapjmbbaaGreatDoorSeg
import Derived.Test.YtalghhdapjmbbaaGreatDoorShS
import Derived.Test.YtalghhdapjmbbaaGreatDoorShC
import Derived.Test.YtalghhdapjmbbaaGreatDoorTyA
import Derived.Test.YtalghhdapjmbbaaGreatDoorSubG
import Derived.Test.YtalghhdapjmbbaaGreatDoorTyD
import Derived.Test.YtalghhdapjmbbaaGreatDoorSubB
import Derived.Test.YtalghhdapjmbbaaGreatDoorSubE
set_option linter.all false
namespace Go.Ai
open Go Go.Proofs
set_option maxRecDepth 100000
set_option maxHeartbeats 1000000
def blS (w:ByteArray):List UInt8:=w.data.toList
def unS (l:List UInt8):ByteArray:=⟨l.toArray⟩
theorem unS_blS (w:ByteArray):unS (blS w)=w:=by simp [unS,blS]
theorem blS_unS (l:List UInt8):blS (unS l)=l:=by simp [unS,blS]
theorem blS_lt {a b:ByteArray}:ltS a b↔blS a<blS b:=Iff.rfl
theorem lU_tri (a b:List UInt8):a<b∨a=b∨b<a:=by
  rcases ltS_tri (unS a) (unS b) with h|h|h
  · left;rw [blS_lt,blS_unS,blS_unS] at h;exact h
  · right;left;rw [← blS_unS a,h,blS_unS]
  · right;right;rw [blS_lt,blS_unS,blS_unS] at h;exact h
theorem lU_trans {a b c:List UInt8} (h1:a<b) (h2:b<c):a<c:=by
  have:=ltS_trans (a:=unS a) (b:=unS b) (by rw [blS_lt,blS_unS,blS_unS];exact h1) (c:=unS c) (by rw [blS_lt,blS_unS,blS_unS];exact h2)
  rw [blS_lt,blS_unS,blS_unS] at this;exact this
theorem lU_irr (a:List UInt8):¬ a<a:=fun h=>ltS_irrefl (unS a) (by rw [blS_lt,blS_unS];exact h)
theorem lU_le_lt {a b c:List UInt8} (h1:a≤b) (h2:b<c):a<c:=by
  rcases lU_tri a b with h|h|h
  · exact lU_trans h h2
  · subst h;exact h2
  · exact absurd h h1
theorem lU_le_trans {a b c:List UInt8} (h1:a≤b) (h2:b≤c):a≤c:=fun h=>h1 (by
  rcases lU_tri b c with q|q|q
  · exact lU_trans q h
  · subst q;exact h
  · exact absurd q h2)
theorem lU_total (a b:List UInt8):a≤b∨b≤a:=by
  by_cases h:b<a
  · exact .inr fun q=>lU_irr _ (lU_trans h q)
  · exact .inl h
def sortW (l:List ByteArray):List ByteArray:=((l.map blS).mergeSort fun x y=>decide (x≤y)).map unS
def compW (l:List ByteArray):List ByteArray:=(Lib.compact (l.map blS)).map unS
theorem sortW_len (l:List ByteArray):(sortW l).length=l.length:=by simp [sortW]
theorem sortB (l:List ByteArray):(sortW l).map blS=(l.map blS).mergeSort fun x y=>decide (x≤y):=by
  unfold sortW
  rw [List.map_map]
  exact (List.map_congr_left fun a _=>blS_unS a).trans (List.map_id _)
theorem sorted_le (l:List (List UInt8)):(l.mergeSort fun x y=>decide (x≤y)).Pairwise (·≤·):=by
  have:=List.pairwise_mergeSort (le:=fun x y:List UInt8=>decide (x≤y)) (fun a b c h1 h2=>by
    simp only [decide_eq_true_eq] at *;exact lU_le_trans h1 h2) (fun a b=>by
    simp only [Bool.or_eq_true,decide_eq_true_eq];exact lU_total a b) l
  exact this.imp fun h=>by simpa using h
theorem compact_inc {d:Array (List UInt8)} (hd:∀ i j,i<j→j<d.size→d[i]! ≤ d[j]!):∀ m,m≤d.size →
    (Lib.compactUpTo d m).Pairwise (·<·)∧(∀ x ∈ Lib.compactUpTo d m,∃ j,j<m∧d[j]! = x)∧∀ j,j<m→d[j]! ∈ Lib.compactUpTo d m
  | 0,_=>by simp [Lib.compactUpTo]
  | m + 1,hm=>by
    obtain ⟨h1,h2,h3⟩:=compact_inc hd m (by omega)
    rw [Lib.compactUpTo_succ]
    by_cases hk:Lib.keeps d m=true
    · rw [if_pos hk]
      refine ⟨List.pairwise_append.2 ⟨h1,by simp,fun x hx y hy=>?_⟩,fun x hx=>?_,fun j hj=>?_⟩
      · rw [List.mem_singleton] at hy
        subst hy
        obtain ⟨j,hj,rfl⟩:=h2 x hx
        have hne:d[m]! ≠ d[m - 1]! := by
          unfold Lib.keeps at hk
          rcases of_decide_eq_true hk with q|q
          · omega
          · exact q
        have hlt:d[m - 1]! < d[m]! := by
          have:=hd (m - 1) m (by omega) (by omega)
          rcases lU_tri d[m - 1]! d[m]! with q|q|q
          · exact q
          · exact absurd q.symm hne
          · exact absurd q this
        by_cases q:j=m - 1
        · subst q;exact hlt
        · exact lU_le_lt (hd j (m - 1) (by omega) (by omega)) hlt
      · rcases List.mem_append.1 hx with q|q
        · obtain ⟨j,hj,e⟩:=h2 x q;exact ⟨j,by omega,e⟩
        · rw [List.mem_singleton] at q;exact ⟨m,by omega,q.symm⟩
      · by_cases q:j=m
        · subst q;exact List.mem_append_right _ (by simp)
        · exact List.mem_append_left _ (h3 j (by omega))
    · rw [if_neg hk,List.append_nil]
      refine ⟨h1,fun x hx=>?_,fun j hj=>?_⟩
      · obtain ⟨j,hj,e⟩:=h2 x hx;exact ⟨j,by omega,e⟩
      · by_cases q:j=m
        · subst q
          have:¬ (j=0∨d[j]! ≠ d[j - 1]!):=fun z=>hk (by unfold Lib.keeps;exact decide_eq_true z)
          have h4:d[j]! = d[j - 1]! := Classical.byContradiction fun z=>this (.inr z)
          rw [h4];exact h3 (j - 1) (by omega)
        · exact h3 j (by omega)
theorem compW_sortW (l:List ByteArray):compW (sortW l)=unionW l:=by
  have hs:=sorted_le (l.map blS)
  have hB:=sortB l
  have hp:∀ x,x ∈ (l.map blS).mergeSort (fun x y=>decide (x≤y))↔x ∈ l.map blS:=fun x=>List.mem_mergeSort
  unfold compW
  rw [hB]
  generalize (l.map blS).mergeSort (fun x y=>decide (x≤y))=z at hs hp ⊢
  have hd:∀ i j,i<j→j<z.toArray.size→z.toArray[i]! ≤ z.toArray[j]! := fun i j h1 h2=>by
    have h2':j<z.length:=by simpa using h2
    have:=List.pairwise_iff_getElem.1 hs i j (by omega) h2' h1
    simpa [h2',show i<z.length by omega] using this
  obtain ⟨h1,h2,h3⟩:=compact_inc hd z.length (by simp)
  refine unionW_eq ?_ fun x=>?_
  · exact List.pairwise_map.2 (h1.imp fun {a b} h=>by rw [blS_lt,blS_unS,blS_unS];exact h)
  · have hmem:∀ y,y ∈ Lib.compact z↔y ∈ l.map blS:=fun y=>by
      rw [← hp y]
      constructor
      · intro q
        obtain ⟨j,hj,e⟩:=h2 y q
        have:z.toArray[j]! = z[j]:=by simp [hj]
        rw [this] at e
        rw [← e];exact List.getElem_mem hj
      · intro q
        obtain ⟨j,hj,e⟩:=List.getElem_of_mem q
        have:=h3 j hj
        rw [show z.toArray[j]! = z[j] by simp [hj],e] at this
        exact this
    rw [List.mem_map]
    constructor
    · rintro ⟨y,hy,rfl⟩
      obtain ⟨w,hw,rfl⟩:=List.mem_map.1 ((hmem y).1 hy)
      rw [unS_blS];exact hw
    · intro hx
      exact ⟨blS x,(hmem _).2 (List.mem_map_of_mem hx),unS_blS x⟩
end Go.Ai

namespace Go.Ai
open Go Go.Proofs Go.Shelf Go.RowKit Go.Lib Go.Sort
set_option maxRecDepth 100000
set_option maxHeartbeats 2000000
theorem putS_mem {w w':World} {b:Nat} {cur:Array Value} {L:List (List UInt8)} {m:Nat} (hb:w.heap[b]? = some (.cells cur 9 (0,0))) (hL:L.length≤cur.size)
    (hw:w'=putRow encStr (Sort.ahead w m) b 0 L.toArray) :
    w'.os=w.os∧w'.tape=w.tape∧w'.output=w.output∧w'.heap.size=w.heap.size∧(∀ k,k≠b→w'.heap[k]? = w.heap[k]?) ∧
      ∃ new,w'.heap[b]? = some (.cells new 9 (0,0))∧new.size=cur.size∧∀ i (hi:i<L.length),new[i]? = some (encStr L[i]):=by
  refine ⟨by rw [hw];rfl,by rw [hw];rfl,by rw [hw];rfl,by rw [hw,Go.Sort.size_putRow];rfl,fun k hkb=>?_,putCells encStr 0 L.toArray cur,?_,by simp [putCells],fun i hi=>?_⟩
  · rw [hw]
    unfold putRow mapBlock
    simp only [Array.getElem?_modify,if_neg (Ne.symm hkb)]
    rfl
  · rw [hw]
    unfold putRow mapBlock
    simp only [Array.getElem?_modify,if_true]
    show Option.map _ (w.heap[b]?)=_
    rw [hb];rfl
  · simp only [putCells,Array.getElem?_mapIdx]
    rw [Array.getElem?_eq_getElem (by omega)]
    simp only [Option.map_some,Nat.zero_add,Nat.sub_zero,Nat.zero_le,true_and,List.size_toArray,if_pos hi]
    simp [hi]
theorem putS_grow {w w':World} {b:Nat} {cur:Array Value} {L:List (List UInt8)} {m:Nat} {os:Array Obj} (hb:w.heap[b]? = some (.cells cur 9 (0,0))) (hL:L.length≤cur.size)
    (hw:w'=grow (putRow encStr (Sort.ahead w m) b 0 L.toArray) os) :
    w'.os=w.os∧w'.tape=w.tape∧w'.output=w.output∧w.heap.size≤w'.heap.size∧(∀ k,k<w.heap.size→k≠b→w'.heap[k]? = w.heap[k]?) ∧
      ∃ new,w'.heap[b]? = some (.cells new 9 (0,0))∧new.size=cur.size∧∀ i (hi:i<L.length),new[i]? = some (encStr L[i]):=by
  obtain ⟨h1,h2,h3,h4,h5,new,h6,h7,h8⟩:=putS_mem hb hL rfl (m:=m)
  have hblt:b<w.heap.size:=(Array.getElem?_eq_some_iff.1 hb).1
  refine ⟨by rw [hw];exact h1,by rw [hw];exact h2,by rw [hw];exact h3,by rw [hw,size_grow];omega,fun k hk hkb=>?_,new,?_,h7,h8⟩
  · rw [hw,Go.Sort.heap_grow_old _ _ (by rw [h4];exact hk)];exact h5 k hkb
  · rw [hw,Go.Sort.heap_grow_old _ _ (by rw [h4];exact hblt)];exact h6
theorem holdsS {w:World} {b c:Nat} {cur:Array Value} {l:List ByteArray} (hb:w.heap[b]? = some (.cells cur 9 (0,0))) (hg:∀ i,i<l.length→cur[i]? = some (.string (l.getD i ⟨#[]⟩))) :
    Holds encStr w b 0 (l.map blS).toArray:=fun j hj=>by
  have hj2:j<l.length:=by simpa using hj
  refine ⟨?_,by simp [World.frozen?,hb]⟩
  rw [Nat.zero_add,cell_of_row hb,hg j hj2]
  simp [hj2,encStr,blS,List.getD]
theorem words_row {E:Env} {β:Nat→Value} {H:Nat→AO} {x:Bool} {l:List ByteArray} (h0:l≠[])
    (o0:OR E E.w0 β H 1000 (.arr x 9 1 0 (fun _=>l.length) (wordsF fun _=>l))) :
    ∃ b c cur,β 1000=.slice (some ⟨b,0,none⟩) l.length c∧E.w0.heap[b]? = some (.cells cur 9 (0,0))∧l.length≤c∧c≤maxLen∧cur.size=c∧(x=false→E.B≤b)∧E.own b∧∀ i,i<l.length→cur[i]? = some (.string (l.getD i ⟨#[]⟩)):=by
  rcases o0 with ⟨_,hz⟩|⟨b,c,cur,hβ,hh,hc1,hc2,hcsz,hx1,hown,hel⟩
  · exact absurd (List.eq_nil_of_length_eq_zero hz) h0
  simp only at hc1 hel
  refine ⟨b,c,cur,hβ,hh,hc1,hc2,by omega,hx1,hown,fun i hi=>?_⟩
  obtain ⟨_,_,h3⟩:=hel i hi
  have hlt:i * 1+0<cur.size:=by omega
  have:=h3 0 _ cur[i * 1+0] rfl (Array.getElem?_eq_getElem hlt)
  have h4:=(RX.d (β:=β) (H:=fun _=>.none) this).str_inv
  rw [show i=i * 1+0 by omega,Array.getElem?_eq_getElem hlt,h4]
  rw [show i * 1+0=i by omega]
theorem SortS_none (x:Bool) (f:(Unit→Nat)→List AV):Af Tryz.prog 93 [.aref 1000 0 fun _=>0] [(1000,.arr x 9 1 0 (fun _=>0) f)] (.tup []) [(1000,.arr x 9 1 0 (fun _=>0) f)]:=by
  refine ⟨ent_of Tryz.func93 (by kernel_rfl) rfl,fun E β vs hpin hdf hY hr=>?_⟩
  have hv0:=hr.tmps 0 _ rfl
  have hsz:=hr.size
  obtain ⟨_,q0⟩:=hv0.aI
  have e0:=(q0 _ _ _ _ _ _ rfl).2 rfl
  have hvs:vs=#[β 1000]:=by
    apply Array.ext (by simpa using hsz)
    intro k h1 h2
    have h3:k=0:=by simp at h2;omega
    subst h3
    have:=e0.2;simpa [Array.getD_eq_getD_getElem?,h1] using this
  subst hvs
  have o0:=hr.objs 1000
  change OR E E.w0 β _ 1000 (.arr x 9 1 0 (fun _=>0) f) at o0
  have hβ:∃ p cap,β 1000=.slice p 0 cap:=by
    rcases o0 with ⟨h,_⟩|⟨g,cap,cur,h,_⟩
    · exact ⟨_,_,h⟩
    · exact ⟨_,_,h⟩
  obtain ⟨p,cap,hβ⟩:=hβ
  rw [hβ]
  have hcall:=Any.slices_Sort_string_none Tryz.lays190 p cap E.w0
  change Calls Tryz.prog 93 _ _ _ at hcall
  refine hcall.mono fun e w' ⟨he,hw⟩=>?_
  subst hw
  refine ⟨.tuple #[],upd β 1000 (β 1000),he,?_⟩
  exact turn_end (o:=1000) (ver2:=0) (n2:=fun _=>0) (f2:=f) hr hdf rfl rfl rfl rfl (Nat.le_refl _) (fun k hk _=>rfl) (v:=β 1000) (fun b hb=>.inl hb) (.inl ⟨rfl,rfl,rfl⟩) (fun hrd=>by
    rcases o0 with ⟨h,h2⟩|⟨g,cap2,cur,h,h2,h3,h4,h5,h6,h7,h8⟩
    · exact .inl ⟨by simp [upd,h],rfl⟩
    · exact .inr ⟨g,cap2,cur,by simp [upd,h],h2,h3,h4,h5,h6,h7,fun i hi=>absurd hi (Nat.not_lt_zero _)⟩) (.d (.tup [] #[] rfl (by simp)))
theorem SortS_ok (x:Bool) (l:List ByteArray) (hn:l.length≤1073741824) :
    Af Tryz.prog 93 [.aref 1000 0 fun _=>l.length] [(1000,.arr x 9 1 0 (fun _=>l.length) (wordsF fun _=>l))] (.tup []) [(1000,.arr x 9 1 0 (fun _=>l.length) (wordsF fun _=>sortW l))]:=by
  by_cases h0:l=[]
  · subst h0
    rw [show sortW ([]:List ByteArray)=[] by simp [sortW]]
    exact SortS_none x _
  refine ⟨ent_of Tryz.func93 (by kernel_rfl) rfl,fun E β vs hpin hdf hY hr=>?_⟩
  have hv0:=hr.tmps 0 _ rfl
  have hsz:=hr.size
  obtain ⟨_,q0⟩:=hv0.aI
  have e0:=(q0 _ _ _ _ _ _ rfl).2 rfl
  have hvs:vs=#[β 1000]:=by
    apply Array.ext (by simpa using hsz)
    intro k h1 h2
    have h3:k=0:=by simp at h2;omega
    subst h3
    have:=e0.2;simpa [Array.getD_eq_getD_getElem?,h1] using this
  subst hvs
  obtain ⟨b,c,cur,hβ,hh,hc1,hc2,hcsz,hx1,hown,hel⟩:=words_row h0 (hr.objs 1000)
  rw [hβ]
  have hcall:=Any.slices_Sort_string Tryz.lays190 b 0 c (l.map blS) E.w0 (holdsS (c:=c) hh hel) (Array.getElem?_eq_some_iff.1 hh).1 (by simp;omega)
  rw [List.length_map] at hcall
  change Calls Tryz.prog 93 _ _ _ at hcall
  refine hcall.mono fun e w' ⟨he,m,os,hw⟩=>?_
  have hSl:((l.map blS).mergeSort fun x y=>decide (x≤y)).length=l.length:=by simp
  obtain ⟨hos,htape,hout,hsize,hheap,new,hg,hns,hnew⟩:=putS_grow hh (by rw [hSl];omega) hw
  refine ⟨.tuple #[],upd β 1000 (β 1000),he,?_⟩
  refine turn_end (o:=1000) (ver2:=0) (n2:=fun _=>l.length) (f2:=wordsF fun _=>sortW l) hr hdf rfl hos htape hout hsize (fun k hk hkb=>hheap k hk fun e=>hkb (by rw [hβ,e];rfl)) (v:=β 1000) (fun b hb=>.inl hb) (.inl ⟨rfl,rfl,rfl⟩) (fun hrd=>?_) (.d (.tup [] #[] rfl (by simp)))
  refine .inr ⟨b,c,new,by simp [upd,hβ],hg,hc1,hc2,by rw [hns,hcsz];omega,hx1,hown,fun i hi=>?_⟩
  have hi2:i<l.length:=hi
  refine ⟨rfl,rfl,fun j av v hj hv=>?_⟩
  have hj0:j=0:=by have:=(List.getElem?_eq_some_iff.1 hj).1;simp [wordsF] at this;omega
  subst hj0
  have hv2:=hnew i (by rw [hSl];exact hi2)
  rw [show i * 1+0=i by omega,hv2] at hv
  simp [wordsF] at hj
  subst hj
  have hsv:sortW l=((l.map blS).mergeSort fun x y=>decide (x≤y)).map unS:=rfl
  have hvv:v=.string ((sortW l).getD i ⟨#[]⟩):=by
    rw [hsv]
    have:=(Option.some.inj hv).symm
    rw [this]
    simp [List.getD,hSl,hi2,encStr,unS]
  rw [hvv]
  simp only [List.getD_eq_getElem?_getD]
  exact .str fun _=>_
theorem compW_len (l:List ByteArray):(compW l).length≤l.length:=by
  unfold compW Lib.compact Lib.compactUpTo
  rw [List.length_map,List.length_map]
  have:=List.length_filter_le (Lib.keeps (l.map blS).toArray) (List.range (l.map blS).length)
  simpa using this
theorem CompactS_ok (x:Bool) (l:List ByteArray) (hn:l.length≤1073741824) (h0:l≠[]) :
    Af Tryz.prog 94 [.aref 1000 0 fun _=>l.length] [(1000,.arr x 9 1 0 (fun _=>l.length) (wordsF fun _=>l))] (.aref 1000 1 fun _=>(compW l).length) [(1000,.arr x 9 1 1 (fun _=>(compW l).length) (wordsF fun _=>compW l))]:=by
  refine ⟨ent_of Tryz.func94 (by kernel_rfl) rfl,fun E β vs hpin hdf hY hr=>?_⟩
  have hv0:=hr.tmps 0 _ rfl
  have hsz:=hr.size
  obtain ⟨_,q0⟩:=hv0.aI
  have e0:=(q0 _ _ _ _ _ _ rfl).2 rfl
  have hvs:vs=#[β 1000]:=by
    apply Array.ext (by simpa using hsz)
    intro k h1 h2
    have h3:k=0:=by simp at h2;omega
    subst h3
    have:=e0.2;simpa [Array.getD_eq_getD_getElem?,h1] using this
  subst hvs
  obtain ⟨b,c,cur,hβ,hh,hc1,hc2,hcsz,hx1,hown,hel⟩:=words_row h0 (hr.objs 1000)
  rw [hβ]
  have hcall:=Any.slices_Compact_string Tryz.lays194 b 0 c (l.map blS) E.w0 (holdsS (c:=c) hh hel) (by simp;omega) (by simpa using hc1)
  rw [List.length_map] at hcall
  change Calls Tryz.prog 94 _ _ _ at hcall
  refine hcall.mono fun e w' ⟨he,m,hw⟩=>?_
  have hCl:=compW_len l
  have hcl:(compW l).length=(Lib.compact (l.map blS)).length:=by simp [compW]
  obtain ⟨hos,htape,hout,hsize,hheap,new,hg,hns,hnew⟩:=putS_mem hh (by rw [List.length_append,List.length_replicate];omega) hw
  refine ⟨.slice (some ⟨b,0,none⟩) (compW l).length c,upd β 1000 (.slice (some ⟨b,0,none⟩) (compW l).length c),by rw [he,hcl],?_⟩
  refine turn_end (o:=1000) (ver2:=1) (n2:=fun _=>(compW l).length) (f2:=wordsF fun _=>compW l) hr hdf rfl hos htape hout (by omega) (fun k hk hkb=>hheap k fun e=>hkb (by rw [hβ,e];rfl)) (v:=.slice (some ⟨b,0,none⟩) (compW l).length c) (fun b' hb'=>.inl (by rw [hβ];exact hb')) (.inr (by omega)) (fun hrd=>?_) ?_
  · refine .inr ⟨b,c,new,by simp [upd],hg,by show (compW l).length≤c;omega,hc2,by rw [hns,hcsz];omega,hx1,hown,fun i hi=>?_⟩
    have hi2:i<(compW l).length:=hi
    refine ⟨rfl,rfl,fun j av v hj hv=>?_⟩
    have hj0:j=0:=by have:=(List.getElem?_eq_some_iff.1 hj).1;simp [wordsF] at this;omega
    subst hj0
    have hv2:=hnew i (by rw [List.length_append];omega)
    rw [show i * 1+0=i by omega,hv2] at hv
    simp [wordsF] at hj
    subst hj
    have hvv:v=.string ((compW l).getD i ⟨#[]⟩):=by
      have:=(Option.some.inj hv).symm
      rw [this,List.getElem_append_left (by omega)]
      unfold compW
      simp [List.getD,← hcl,hi2,encStr,unS]
    rw [hvv]
    simp only [List.getD_eq_getElem?_getD]
    exact .str fun _=>_
  · refine .aref _ _ _ _ (.inr ⟨b,c,rfl,by show (compW l).length≤c;omega,hc2⟩) fun x t sz' ver' n' f hH=>by simp [upd] at hH;obtain ⟨_,_,_,rfl,rfl,_⟩:=hH;exact ⟨Nat.le_refl _,fun _=>⟨rfl,by simp [upd]⟩⟩
end Go.Ai

namespace Go.Ai
open Go Go.Proofs
set_option maxRecDepth 100000
set_option maxHeartbeats 4000000
theorem loW_snoc (w:ByteArray):∀ (l:List ByteArray) (a:Int),loW (l++[w]) a=Min.min (loW l a) w.size
  | [],a=>rfl
  | x :: r,a=>loW_snoc w r _
theorem hiW_snoc (w:ByteArray):∀ (l:List ByteArray) (a:Int),hiW (l++[w]) a=Max.max (hiW l a) w.size
  | [],a=>rfl
  | x :: r,a=>hiW_snoc w r _
def loI (t:Ty) (i:Nat):Int:=if i=0 then t.min else loW (t.words.take i) (t.words.getD 0 ⟨#[]⟩).size
def hiI (t:Ty) (i:Nat):Int:=if i=0 then t.max else hiW (t.words.take i) (t.words.getD 0 ⟨#[]⟩).size
theorem take_getD1 {α:Type} {l:List α} {i:Nat} {x:α} (h:i<l.length):l.take (i+1)=l.take i++[l.getD i x]:=by
  rw [List.take_succ_eq_append_getElem h];simp [List.getD,h]
theorem loI_one {t:Ty} (h:0<t.words.length):loI t 1=(t.words.getD 0 ⟨#[]⟩).size:=by
  unfold loI
  rw [if_neg (by omega),take_getD1 (x:=⟨#[]⟩) h]
  simp only [List.take_zero,List.nil_append,loW];omega
theorem hiI_one {t:Ty} (h:0<t.words.length):hiI t 1=(t.words.getD 0 ⟨#[]⟩).size:=by
  unfold hiI
  rw [if_neg (by omega),take_getD1 (x:=⟨#[]⟩) h]
  simp only [List.take_zero,List.nil_append,hiW];omega
theorem loI_succ {t:Ty} {i:Nat} (h:i<t.words.length) (h0:i≠0):loI t (i+1)=Min.min (loI t i) (t.words.getD i ⟨#[]⟩).size:=by
  unfold loI
  rw [if_neg (by omega),if_neg h0,take_getD1 (x:=⟨#[]⟩) h,loW_snoc]
theorem hiI_succ {t:Ty} {i:Nat} (h:i<t.words.length) (h0:i≠0):hiI t (i+1)=Max.max (hiI t i) (t.words.getD i ⟨#[]⟩).size:=by
  unfold hiI
  rw [if_neg (by omega),if_neg h0,take_getD1 (x:=⟨#[]⟩) h,hiW_snoc]
theorem loI_all (t:Ty):loI t t.words.length=spanLo t:=by
  unfold loI spanLo
  rw [List.take_length]
  by_cases h:t.words.length=0
  · rw [if_pos h,if_neg (by omega)]
  · rw [if_neg h,if_pos (by omega)]
theorem hiI_all (t:Ty):hiI t t.words.length=spanHi t:=by
  unfold hiI spanHi
  rw [List.take_length]
  by_cases h:t.words.length=0
  · rw [if_pos h,if_neg (by omega)]
  · rw [if_neg h,if_pos (by omega)]
theorem ifmax (a b:Int):(if a<b then b else a)=Max.max a b:=by split<;>omega
theorem ifmin (a b:Int):(if b<a then b else a)=Min.min a b:=by split<;>omega
theorem catW_le (A B:List ByteArray):∀ k,k<A.length+B.length→LeL (catF (fun _=>A.length) (wordsF fun _=>A) (wordsF fun _=>B) fun _=>k) (wordsF (fun _=>A++B) fun _=>k):=fun k hk=>by
  refine LeL.of_eq ?_
  unfold catF wordsF
  by_cases h:k<A.length
  · simp [h,List.getD,List.getElem?_append]
  · simp [h,List.getD,List.getElem?_append]
theorem sliceClone_own (w:List ByteArray) (hl:w.length≤1073741824) (h0:0<w.length):Af Tryz.prog 91 [.slc .any 1 (fun _=>w.length) (wordsF fun _=>w)] [] (.aref 5 1 fun _=>w.length) [(5,.arr false 9 1 1 (fun _=>w.length) (wordsF fun _=>w))]:=by
  (apply Af.of tF mF [.tmp 2] kp91 [] Tryz.func91 (fun _=>?_);(any_goals ((with_reducible refine wI ?_);cbv;(try dsimp only [nc] at *);(repeat' (with_reducible first|exact aO|exact oN|refine oC ?_ ?_|refine VC.mk rfl ?_ ?_ ?_|(apply Ca.mk<;>intro _)|(apply Cv.mk<;>intro zq<;>(try simp only [nc,cl] at zq)<;>(try simp only [bl,dl] at zq)<;>(revert zq;intro _))|((first|apply xE|apply uE);cbv;(try dsimp only [nc] at *)))))))
  ((all_goals (try (with_reducible ((first|refine rE ?_|refine nE ?_);(focus (cbv;(try dsimp only [nc] at *);(try simp only [wl,nc]);(repeat' (with_reducible apply And.intro));all_goals (try exact wZ)))))));(all_goals (try ((with_reducible rw [aC]);(try simp only [wl,nc]);(repeat' (with_reducible apply And.intro));(all_goals (try exact cZ))))))
theorem span_ok (e d:Nat) (t:Ty) (ht:Ty.le e (d+1) t) :
    Af Tryz.prog 92 [encT e (d+1) .any fun _=>t] [] (.tup [.int .i64 fun _=>spanLo t,.int .i64 fun _=>spanHi t,.slc .any 1 (fun _=>(wordsJ t).length) (wordsF fun _=>wordsJ t)]) []:=by
  have hwl:=ht.1
  obtain ⟨J,hJ⟩:∃ J,J=wordsJ t:=⟨_,rfl⟩
  obtain ⟨lo,hlo⟩:∃ x,x=spanLo t:=⟨_,rfl⟩
  obtain ⟨hi,hhi⟩:∃ x,x=spanHi t:=⟨_,rfl⟩
  rw [← hJ,← hlo,← hhi]
  (apply Af.of tF mF [.tmp 2,.tmp 3,.tmp 4] kp92 [] Tryz.func92 (fun _=>?_);(any_goals ((with_reducible refine wI ?_);cbv;(try dsimp only [nc] at *);(repeat' (with_reducible first|exact aO|exact oN|refine oC ?_ ?_|refine VC.mk rfl ?_ ?_ ?_|(apply Ca.mk<;>intro _)|(apply Cv.mk<;>intro zq<;>(try simp only [nc,cl] at zq)<;>(try simp only [bl,dl] at zq)<;>(revert zq;intro _))|((first|apply xE|apply uE);cbv;(try dsimp only [nc] at *)))))))
  ((all_goals (try (with_reducible ((first|refine rE ?_|refine nE ?_);(focus (cbv;(try dsimp only [nc] at *);(try simp only [wl,nc]);(repeat' (with_reducible apply And.intro));all_goals (try exact wZ)))))));(all_goals (try ((with_reducible rw [aC]);(try simp only [wl,nc]);(repeat' (with_reducible apply And.intro));(all_goals (try exact cZ))))))
  · rename_i hc
    have hz:t.words.length=0:=by omega
    have hJ1:J=[⟨#[]⟩]:=by rw [hJ];unfold wordsJ;rw [if_pos ⟨hz,hc.2⟩]
    have hlo1:lo=t.min:=by rw [hlo];unfold spanLo;rw [if_neg (by omega)]
    have hhi1:hi=t.max:=by rw [hhi];unfold spanHi;rw [if_neg (by omega)]
    subst hJ1
    refine .loop (fun i:Nat=>⟨48,[(25,.int .i64 fun _=>i),(24,.int .i64 fun _=>t.words.length),(23,.slc .any 1 (fun _=>t.words.length) (wordsF fun _=>t.words)),(3,.int .i64 fun _=>t.max),(2,.int .i64 fun _=>t.min),(4,.aref 17 0 fun _=>1)],
        [(17,.arr false 9 1 0 (fun _=>1) (litArr [[.str fun _=>⟨#[]⟩]]))]⟩) (fun i=>i=0) (fun i=>i) 0 rfl ?_ fun i E hi=>?_
    · (focus (cbv;(try dsimp only [nc] at *);(try simp only [wl,nc]);(repeat' (with_reducible apply And.intro));all_goals (try exact wZ)))
    apply AWp.wk tF mF [] kp92 ?_
    (any_goals ((with_reducible refine wI ?_);cbv;(try dsimp only [nc] at *);(repeat' (with_reducible first|exact aO|exact oN|refine oC ?_ ?_|refine VC.mk rfl ?_ ?_ ?_|(apply Ca.mk<;>intro _)|(apply Cv.mk<;>intro zq<;>(try simp only [nc,cl] at zq)<;>(try simp only [bl,dl] at zq)<;>(revert zq;intro _))|((first|apply xE|apply uE);cbv;(try dsimp only [nc] at *))))))
    all_goals (try exact absurd ‹i<t.words.length› (by omega))
    ((all_goals (try (with_reducible ((first|refine rE ?_|refine nE ?_);(focus (cbv;(try dsimp only [nc] at *);(try simp only [wl,nc]);(repeat' (with_reducible apply And.intro));all_goals (try exact wZ)))))));(all_goals (try ((with_reducible rw [aC]);(try simp only [wl,nc]);(repeat' (with_reducible apply And.intro));(all_goals (try exact cZ))))))
    · exact fun i h=>by
        have:i=0:=by omega
        subst this;exact LeL.of_eq rfl
  · rename_i hc
    have hJ1:J=t.words:=by rw [hJ];unfold wordsJ;rw [if_neg (by omega)]
    subst hJ1
    refine .loop (fun i:Nat=>⟨48,[(25,.int .i64 fun _=>i),(24,.int .i64 fun _=>t.words.length),(23,.slc .any 1 (fun _=>t.words.length) (wordsF fun _=>t.words)),(3,.int .i64 fun _=>hiI t i),(2,.int .i64 fun _=>loI t i),(4,.slc .any 1 (fun _=>t.words.length) (wordsF fun _=>t.words))],
        []⟩) (fun i=>i≤t.words.length) (fun i=>t.words.length - i) 0 (by simp) ?_ fun i E hi=>?_
    · (focus (cbv;(try dsimp only [nc] at *);(try simp only [wl,nc]);(repeat' (with_reducible apply And.intro));all_goals (try exact wZ)))
      all_goals rfl
    apply AWp.wk tF mF [] kp92 ?_
    (any_goals ((with_reducible refine wI ?_);cbv;(try dsimp only [nc] at *);(repeat' (with_reducible first|exact aO|exact oN|refine oC ?_ ?_|refine VC.mk rfl ?_ ?_ ?_|(apply Ca.mk<;>intro _)|(apply Cv.mk<;>intro zq<;>(try simp only [nc,cl] at zq)<;>(try simp only [bl,dl] at zq)<;>(revert zq;intro _))|((first|apply xE|apply uE);cbv;(try dsimp only [nc] at *))))))
    ((all_goals (try (with_reducible ((first|refine rE ?_|refine nE ?_);(focus (cbv;(try dsimp only [nc] at *);(try simp only [wl,nc]);(repeat' (with_reducible apply And.intro));all_goals (try exact wZ)))))));(all_goals (try ((with_reducible rw [aC]);(try simp only [wl,nc]);(repeat' (with_reducible apply And.intro));(all_goals (try exact cZ))))))
    · rename_i hlt hz
      obtain rfl:i=0:=by omega
      refine dE 1 ⟨by omega,by omega⟩ ?_
      (focus (cbv;(try dsimp only [nc] at *);(try simp only [wl,nc]);(repeat' (with_reducible apply And.intro));all_goals (try exact wZ)))
      all_goals (simp only [Int.toNat_natCast,if_true,Bool.false_eq_true,if_false])
      all_goals (first|exact (ite_self _).trans (hiI_one (by omega)).symm|exact (ite_self _).trans (loI_one (by omega)).symm)
    · rename_i hlt hz
      refine dE (i+1) ⟨by omega,by omega⟩ ?_
      (focus (cbv;(try dsimp only [nc] at *);(try simp only [wl,nc]);(repeat' (with_reducible apply And.intro));all_goals (try exact wZ)))
      all_goals (try exact w64n (by omega))
      all_goals (simp only [Int.toNat_natCast,if_true,Bool.false_eq_true,if_false])
      all_goals (first|exact (ifmax _ _).trans (hiI_succ (by omega) (by omega)).symm|exact (ifmin _ _).trans (loI_succ (by omega) (by omega)).symm)
    · rw [show i=t.words.length by omega,loI_all];exact hlo.symm
    · rw [show i=t.words.length by omega,hiI_all];exact hhi.symm
theorem wordsJ_len (t:Ty):(wordsJ t).length≤t.words.length+1:=by unfold wordsJ;split<;>simp
theorem textT_ok (e d:Nat) (s t:Ty) (hs:Ty.le e (d+1) s) (ht:Ty.le e (d+1) t) (hsw:s.words.length≤64) (htw:t.words.length≤64) :
    Af Tryz.prog 53 [encT e (d+1) .any fun _=>s,encT e (d+1) .any fun _=>t] [] (encT e (d+1) .any fun _=>textJ s t) []:=by
  have h1:=span_ok e d s hs
  have h2:=span_ok e d t ht
  obtain ⟨A,hA⟩:∃ A,A=wordsJ s:=⟨_,rfl⟩
  obtain ⟨B,hB⟩:∃ A,A=wordsJ t:=⟨_,rfl⟩
  have hAl:A.length≤65:=by have:=wordsJ_len s;rw [hA];omega
  have hBl:B.length≤65:=by have:=wordsJ_len t;rw [hB];omega
  obtain ⟨R,hR⟩:∃ R,R=textJ s t:=⟨_,rfl⟩
  rw [← hA] at h1
  rw [← hB] at h2
  rw [← hR]
  obtain ⟨U,hU⟩:∃ U,U=unionW (A++B):=⟨_,rfl⟩
  have hT:(0<A.length∧0<B.length)∧U.length≤64→R=.mk 4 0 0 0 U [] []:=fun q=>by rw [hR,textJ,← hA,← hB,← hU,if_pos q]
  have hF:¬ ((0<A.length∧0<B.length)∧U.length≤64)→R=.mk 4 (Min.min (spanLo s) (spanLo t)) (Max.max (spanHi s) (spanHi t)) 0 [] [] []:=fun q=>by rw [hR,textJ,← hA,← hB,← hU,if_neg q]
  have hSl:=sortW_len (A++B)
  have hS:=SortS_ok false (A++B) (by rw [List.length_append];omega)
  have hCo:=CompactS_ok false (sortW (A++B)) (by rw [hSl,List.length_append];omega)
  rw [hSl,List.length_append,compW_sortW,← hU] at hCo
  rw [List.length_append] at hS hSl
  generalize sortW (A++B)=Z at hS hCo hSl
  have hZ:0<A.length→Z≠[]:=fun h q=>by rw [q] at hSl;simp at hSl;omega
  (apply Af.of tF mF [.cell 4 26] kp53 [(1,[(1,.tup [.int .i64 fun _=>spanLo s,.int .i64 fun _=>spanHi s,.slc .any 1 (fun _=>A.length) (wordsF fun _=>A)],[])]),(2,[(1,.tup [.int .i64 fun _=>spanLo t,.int .i64 fun _=>spanHi t,.slc .any 1 (fun _=>B.length) (wordsF fun _=>B)],[])]),
    (5,[(1,.aref 5 1 fun _=>A.length,[(5,.arr false 9 1 1 (fun _=>A.length) (wordsF fun _=>A))])]),(6,[(1,.tup [],[(1000,.arr false 9 1 0 (fun _=>A.length+B.length) (wordsF fun _=>Z))])]),
    (7,[(1,.aref 1000 1 fun _=>U.length,[(1000,.arr false 9 1 1 (fun _=>U.length) (wordsF fun _=>U))])])] Tryz.func53 (fun _=>?_);(any_goals ((with_reducible refine wI ?_);cbv;(try dsimp only [nc] at *);(repeat' (with_reducible first|exact aO|exact oN|refine oC ?_ ?_|refine VC.mk rfl ?_ ?_ ?_|(apply Ca.mk<;>intro _)|(apply Cv.mk<;>intro zq<;>(try simp only [nc,cl] at zq)<;>(try simp only [bl,dl] at zq)<;>(revert zq;intro _))|((first|apply xE|apply uE);cbv;(try dsimp only [nc] at *)))))))
  (any_goals ((with_reducible refine bZ ?_);(try dsimp only);(have q:=h1;refine Af.wN q ?_;clear q);(focus (cbv;(try dsimp only [nc] at *);(try simp only [wl,nc]);(repeat' (with_reducible apply And.intro));all_goals (try exact wZ)))))
  (any_goals ((with_reducible refine bZ ?_);(try dsimp only);(have q:=h2;refine Af.wN q ?_;clear q);(focus (cbv;(try dsimp only [nc] at *);(try simp only [wl,nc]);(repeat' (with_reducible apply And.intro));all_goals (try exact wZ)))))
  any_goals (refine nO ?_;(try dsimp only);first
    | exact sliceClone_own A (by omega) (by omega)
    | (refine Af.wN hS ?_;(focus (cbv;(try dsimp only [nc] at *);(try simp only [wl,nc]);(repeat' (with_reducible apply And.intro));all_goals (try exact wZ)));exact catW_le A B)
    | (refine Af.wN (hCo (hZ (by omega))) ?_;(focus (cbv;(try dsimp only [nc] at *);(try simp only [wl,nc]);(repeat' (with_reducible apply And.intro));all_goals (try exact wZ)))))
  ((all_goals (try (with_reducible ((first|refine rE ?_|refine nE ?_);(focus (cbv;(try dsimp only [nc] at *);(try simp only [wl,nc]);(repeat' (with_reducible apply And.intro));all_goals (try exact wZ)))))));(all_goals (try ((with_reducible rw [aC]);(try simp only [wl,nc]);(repeat' (with_reducible apply And.intro));(all_goals (try exact cZ))))))
  all_goals first
    | (rw [hT (by omega)];first|rfl|exact fun i _=>LeL.of_eq rfl)
    | (rw [hF (by omega)];first|rfl|exact ifmin _ _|exact ifmax _ _)
theorem row_one {n:Nat} {F G:(Unit→Nat)→List AV} (hn:n=1) (h:LeL (F fun _=>0) (G fun _=>0)):∀ i,i<n→LeL (F fun _=>i) (G fun _=>i):=fun i hi=>by
  obtain rfl:i=0:=by omega
  exact h
theorem join_step (e d:Nat) (s t:Ty) (hs:Ty.le e (d+1) s) (ht:Ty.le e (d+1) t) (hso:Ty.ok e (d+1) s) (hto:Ty.ok e (d+1) t)
    (ih:∀ x y,Ty.le e d x→Ty.le e d y→Ty.ok e d x→Ty.ok e d y→Af Tryz.prog 26 [encT e d .any fun _=>x,encT e d .any fun _=>y] [] (.tup [encT e d .any fun _=>(joinT d x y).1,.int .i64 fun _=>(joinT d x y).2]) []) :
    Af Tryz.prog 26 [encT e (d+1) .any fun _=>s,encT e (d+1) .any fun _=>t] [] (.tup [encT e (d+1) .any fun _=>(joinT (d+1) s t).1,.int .i64 fun _=>(joinT (d+1) s t).2]) []:=by
  have hq:=schemaEqual_ok e (d+1) s t hs ht
  have hC:=CloneT_ok e (d+1) s hs
  have hX:=fun (k4:s.kind=4) (kk:s.kind=t.kind)=>textT_ok e d s t hs ht (ownT_words hso.1 k4).1 (ownT_words hto.1 (kk ▸ k4)).1
  have hls:=fun (k8:s.kind=8)=>ownT_elem hso.1 k8
  have hlt:=fun (k8:s.kind=8) (kk:s.kind=t.kind)=>ownT_elem hto.1 (kk ▸ k8)
  have hCs:=fun (k8:s.kind=8)=>CloneT_ok e d (s.elem.getD 0 default) (hs.2.2.2.2.1 _ (gD (by have:=hls k8;omega)))
  have hCt:=fun (k8:s.kind=8) (kk:s.kind=t.kind)=>CloneT_ok e d (t.elem.getD 0 default) (ht.2.2.2.2.1 _ (gD (by have:=hlt k8 kk;omega)))
  have hr:=fun (k8:s.kind=8) (kk:s.kind=t.kind)=>ih (s.elem.getD 0 default) (t.elem.getD 0 default) (hs.2.2.2.2.1 _ (gD (by have:=hls k8;omega))) (ht.2.2.2.2.1 _ (gD (by have:=hlt k8 kk;omega))) (Ty.ok_elem0 hso k8) (Ty.ok_elem0 hto (kk ▸ k8))
  obtain ⟨J,hJ⟩:∃ J,J=(joinT (d+1) s t).1:=⟨_,rfl⟩
  obtain ⟨K,hK⟩:∃ K,K=(joinT (d+1) s t).2:=⟨_,rfl⟩
  rw [← hJ,← hK]
  obtain ⟨j,hj⟩:∃ j,j=(joinT d (s.elem.getD 0 default) (t.elem.getD 0 default)).1:=⟨_,rfl⟩
  obtain ⟨k,hk⟩:∃ k,k=(joinT d (s.elem.getD 0 default) (t.elem.getD 0 default)).2:=⟨_,rfl⟩
  rw [← hj,← hk] at hr
  simp only [joinT,← hj,← hk] at hJ hK
  have f1:s=t→J=s∧K=0:=fun q=>by rw [if_pos q] at hJ hK;exact ⟨hJ,hK⟩
  have f2:¬ s=t→(s.kind≠t.kind∨s.kind=9∨s.kind=10∨s.scale≠t.scale)→J=default∧K=18:=fun q b=>by rw [if_neg q,if_pos b] at hJ hK;exact ⟨hJ,hK⟩
  have f3:¬ s=t→¬ (s.kind≠t.kind∨s.kind=9∨s.kind=10∨s.scale≠t.scale)→s.kind=4→J=textJ s t∧K=0:=fun q b c=>by rw [if_neg q,if_neg b,if_pos c] at hJ hK;exact ⟨hJ,hK⟩
  have f4:¬ s=t→¬ (s.kind≠t.kind∨s.kind=9∨s.kind=10∨s.scale≠t.scale)→¬ s.kind=4→¬ s.kind=8→J=bndJ s t []∧K=0:=fun q b c g=>by rw [if_neg q,if_neg b,if_neg c,if_neg g] at hJ hK;exact ⟨hJ,hK⟩
  have f5:¬ s=t→¬ (s.kind≠t.kind∨s.kind=9∨s.kind=10∨s.scale≠t.scale)→s.kind=8→s.max=0→J=bndJ s t [t.elem.getD 0 default]∧K=0:=fun q b c g=>by rw [if_neg q,if_neg b,if_neg (by omega),if_pos c,if_pos g] at hJ hK;exact ⟨hJ,hK⟩
  have f6:¬ s=t→¬ (s.kind≠t.kind∨s.kind=9∨s.kind=10∨s.scale≠t.scale)→s.kind=8→¬ s.max=0→t.max=0→J=bndJ s t [s.elem.getD 0 default]∧K=0:=fun q b c g m=>by rw [if_neg q,if_neg b,if_neg (by omega),if_pos c,if_neg g,if_pos m] at hJ hK;exact ⟨hJ,hK⟩
  have f7:¬ s=t→¬ (s.kind≠t.kind∨s.kind=9∨s.kind=10∨s.scale≠t.scale)→s.kind=8→¬ s.max=0→¬ t.max=0→k≠0→J=default∧K=k:=fun q b c g m n=>by rw [if_neg q,if_neg b,if_neg (by omega),if_pos c,if_neg g,if_neg m,if_pos n] at hJ hK;exact ⟨hJ,hK⟩
  have f8:¬ s=t→¬ (s.kind≠t.kind∨s.kind=9∨s.kind=10∨s.scale≠t.scale)→s.kind=8→¬ s.max=0→¬ t.max=0→¬ k≠0→J=bndJ s t [j]∧K=0:=fun q b c g m n=>by rw [if_neg q,if_neg b,if_neg (by omega),if_pos c,if_neg g,if_neg m,if_neg n] at hJ hK;exact ⟨hJ,hK⟩
  clear hJ hK hj hk ih
  (apply Af.of tF mF [.cell 4 26,.tmp 5] kp26 [(1,[(2,.bool fun _=>decide (s=t),[])]),(2,[(1,encT e (d+1) .any fun _=>s,[])]),(6,[(2,encT e (d+1) .any fun _=>textJ s t,[])]),(10,[(8,.tup [encT e d .any fun _=>j,.int .i64 fun _=>k],[])]),
    (15,[(4,encT e d .any fun _=>t.elem.getD 0 default,[])]),(17,[(4,encT e d .any fun _=>s.elem.getD 0 default,[])])] Tryz.func26 (fun _=>?_);(any_goals ((with_reducible refine wI ?_);cbv;(try dsimp only [nc] at *);(repeat' (with_reducible first|exact aO|exact oN|refine oC ?_ ?_|refine VC.mk rfl ?_ ?_ ?_|(apply Ca.mk<;>intro _)|(apply Cv.mk<;>intro zq<;>(try simp only [nc,cl] at zq)<;>(try simp only [bl,dl] at zq)<;>(revert zq;intro _))|((first|apply xE|apply uE);cbv;(try dsimp only [nc] at *)))))))
  (any_goals ((with_reducible refine bZ ?_);(try dsimp only);(have q:=hq;refine Af.wN q ?_;clear q);(focus (cbv;(try dsimp only [nc] at *);(try simp only [wl,nc]);(repeat' (with_reducible apply And.intro));all_goals (try exact wZ)))))
  (any_goals ((with_reducible refine bZ ?_);(try dsimp only);(have q:=hC;refine Af.wN q ?_;clear q);(focus (cbv;(try dsimp only [nc] at *);(try simp only [wl,nc]);(repeat' (with_reducible apply And.intro));all_goals (try exact wZ)))))
  any_goals (refine nO ?_;first
    | exact hX ‹s.kind=4› (by omega)
    | exact hCs ‹s.kind=8›
    | exact hCt ‹s.kind=8› (by omega)
    | exact hr ‹s.kind=8› (by omega))
  ((all_goals (try (with_reducible ((first|refine rE ?_|refine nE ?_);(focus (cbv;(try dsimp only [nc] at *);(try simp only [wl,nc]);(repeat' (with_reducible apply And.intro));all_goals (try exact wZ)))))));(all_goals (try ((with_reducible rw [aC]);(try simp only [wl,nc]);(repeat' (with_reducible apply And.intro));(all_goals (try exact cZ))))))
  all_goals (try (have:=hls ‹s.kind=8›;have:=hlt ‹s.kind=8› (by omega);omega))
  all_goals first
    | (have q:=f1 ‹s=t›;obtain ⟨rfl,rfl⟩:=q;(first|rfl|exact ifmin _ _|exact ifmax _ _|exact fun _ _=>LeL.of_eq rfl|exact row_one rfl (LeL.of_eq rfl)))
    | (have q:=f2 ‹¬s=t› (by omega);obtain ⟨rfl,rfl⟩:=q;(first|rfl|exact ifmin _ _|exact ifmax _ _|exact fun _ _=>LeL.of_eq rfl|exact row_one rfl (LeL.of_eq rfl)))
    | (have q:=f3 ‹¬s=t› (by omega) ‹s.kind=4›;obtain ⟨rfl,rfl⟩:=q;(first|rfl|exact ifmin _ _|exact ifmax _ _|exact fun _ _=>LeL.of_eq rfl|exact row_one rfl (LeL.of_eq rfl)))
    | (have q:=f4 ‹¬s=t› (by omega) ‹¬s.kind=4› ‹¬s.kind=8›;obtain ⟨rfl,rfl⟩:=q;(first|rfl|exact ifmin _ _|exact ifmax _ _|exact fun _ _=>LeL.of_eq rfl|exact row_one rfl (LeL.of_eq rfl)))
    | (have q:=f5 ‹¬s=t› (by omega) ‹s.kind=8› ‹s.max=0›;obtain ⟨rfl,rfl⟩:=q;(first|rfl|exact ifmin _ _|exact ifmax _ _|exact fun _ _=>LeL.of_eq rfl|exact row_one rfl (LeL.of_eq rfl)))
    | (have q:=f6 ‹¬s=t› (by omega) ‹s.kind=8› ‹¬s.max=0› ‹t.max=0›;obtain ⟨rfl,rfl⟩:=q;(first|rfl|exact ifmin _ _|exact ifmax _ _|exact fun _ _=>LeL.of_eq rfl|exact row_one rfl (LeL.of_eq rfl)))
    | (have q:=f7 ‹¬s=t› (by omega) ‹s.kind=8› ‹¬s.max=0› ‹¬t.max=0› (by omega);obtain ⟨rfl,h7⟩:=q;first|(first|rfl|exact ifmin _ _|exact ifmax _ _|exact fun _ _=>LeL.of_eq rfl|exact row_one rfl (LeL.of_eq rfl))|exact h7.symm)
    | (have q:=f8 ‹¬s=t› (by omega) ‹s.kind=8› ‹¬s.max=0› ‹¬t.max=0› (by omega);obtain ⟨rfl,rfl⟩:=q;(first|rfl|exact ifmin _ _|exact ifmax _ _|exact fun _ _=>LeL.of_eq rfl|exact row_one rfl (LeL.of_eq rfl)))
theorem join_ok (e:Nat):∀ (d:Nat) (s t:Ty),Ty.le e d s→Ty.le e d t→Ty.ok e d s→Ty.ok e d t→Af Tryz.prog 26 [encT e d .any fun _=>s,encT e d .any fun _=>t] [] (.tup [encT e d .any fun _=>(joinT d s t).1,.int .i64 fun _=>(joinT d s t).2]) []
  | 0,_,_,h,_,_,_=>h.elim
  | d+1,s,t,hs,ht,hso,hto=>join_step e d s t hs ht hso hto fun x y h1 h2 h3 h4=>join_ok e d x y h1 h2 h3 h4
noncomputable def joinE (e d:Nat) (s t:Ty):Ty×Int:=if chk2 e d s t≠0 then (default,chk2 e d s t) else joinT d s t
theorem Join_ok (e d:Nat) (s t:Ty) (he:e+1≤1073741824) (hs:Ty.le (e+1) d s) (ht:Ty.le (e+1) d t) :
    Af Tryz.prog 14 [encT (e+1) d .any fun _=>s,encT (e+1) d .any fun _=>t] [] (.tup [encT (e+1) d .any fun _=>(joinE (e+1) d s t).1,.int .i64 fun _=>(joinE (e+1) d s t).2]) []:=by
  have h1:=check2_ok e d s t he hs ht
  have h2:=fun z:chk2 (e+1) d s t=0=>join_ok (e+1) d s t hs ht (chkT_ok hs (chk2_zero.1 z).1) (chkT_ok ht (chk2_zero.1 z).2)
  obtain ⟨J,hJ⟩:∃ J,J=(joinE (e+1) d s t).1:=⟨_,rfl⟩
  obtain ⟨X,hX⟩:∃ X,X=(joinE (e+1) d s t).2:=⟨_,rfl⟩
  rw [← hJ,← hX]
  obtain ⟨K,hK⟩:∃ K,K=chk2 (e+1) d s t:=⟨_,rfl⟩
  unfold joinE at hJ hX
  rw [← hK] at h1 h2 hJ hX
  have f1:K≠0→J=default∧X=K:=fun q=>by rw [if_pos q] at hJ hX;exact ⟨hJ,hX⟩
  have f2:¬ K≠0→J=(joinT d s t).1∧X=(joinT d s t).2:=fun q=>by rw [if_neg q] at hJ hX;exact ⟨hJ,hX⟩
  clear hJ hX hK
  generalize joinT d s t=j at h2 f2
  obtain ⟨d,rfl⟩:=Ty.lP hs
  (apply Af.of tF mF [.cell 4 26,.tmp 5] kp14 [(1,[(2,.int .i64 fun _=>K,[])]),(4,[(2,.tup [encT (e+1) (d+1) .any fun _=>j.1,.int .i64 fun _=>j.2],[])])] Tryz.func14 (fun _=>?_);(any_goals ((with_reducible refine wI ?_);cbv;(try dsimp only [nc] at *);(repeat' (with_reducible first|exact aO|exact oN|refine oC ?_ ?_|refine VC.mk rfl ?_ ?_ ?_|(apply Ca.mk<;>intro _)|(apply Cv.mk<;>intro zq<;>(try simp only [nc,cl] at zq)<;>(try simp only [bl,dl] at zq)<;>(revert zq;intro _))|((first|apply xE|apply uE);cbv;(try dsimp only [nc] at *)))))))
  (any_goals ((with_reducible refine bZ ?_);(try dsimp only);(have q:=h1;refine Af.wN q ?_;clear q);(focus (cbv;(try dsimp only [nc] at *);(try simp only [wl,nc]);(repeat' (with_reducible apply And.intro));all_goals (try exact wZ)))))
  (any_goals ((with_reducible refine bZ ?_);(try dsimp only);(have q:=(h2 (by omega));refine Af.wN q ?_;clear q);(focus (cbv;(try dsimp only [nc] at *);(try simp only [wl,nc]);(repeat' (with_reducible apply And.intro));all_goals (try exact wZ)))))
  ((all_goals (try (with_reducible ((first|refine rE ?_|refine nE ?_);(focus (cbv;(try dsimp only [nc] at *);(try simp only [wl,nc]);(repeat' (with_reducible apply And.intro));all_goals (try exact wZ)))))));(all_goals (try ((with_reducible rw [aC]);(try simp only [wl,nc]);(repeat' (with_reducible apply And.intro));(all_goals (try exact cZ))))))
  all_goals first
    | (have q:=f1 (by omega);obtain ⟨rfl,q⟩:=q;first|(first|rfl|exact ifmin _ _|exact ifmax _ _|exact fun _ _=>LeL.of_eq rfl|exact row_one rfl (LeL.of_eq rfl))|exact q.symm)
    | (have q:=f2 (by omega);obtain ⟨rfl,rfl⟩:=q;(first|rfl|exact ifmin _ _|exact ifmax _ _|exact fun _ _=>LeL.of_eq rfl|exact row_one rfl (LeL.of_eq rfl)))
end Go.Ai
