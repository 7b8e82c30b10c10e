/- slices.SortFunc at a type's fields, by their numbers: in memory. -/
import Derived.Test.YtlplmdipoacnlaaGreatDoorSortLaid
import Derived.Test.YtlplmdipoacnlaaGreatDoorOrd
import Derived.Test.YtlplmdipoacnlaaGreatDoorTyA
import Derived.Test.YtlplmdipoacnlaaGreatDoorSeg
import Derived.Shelf.SlSortCmp.NoneTotal
set_option linter.all false
namespace Go.Ai
open Go Go.Proofs Go.Shelf Go.RowKit Go.Lib Go.Sort
set_option maxRecDepth 100000
set_option maxHeartbeats 2000000
theorem record1_raw (a b:Int) (xs ys:List Value) (hx:xs.length=10) (hy:ys.length=10) (W:World) :
    Calls Tryz.prog 137 #[.agg (Value.int .i64 a :: xs).toArray,.agg (Value.int .i64 b :: ys).toArray] W fun e w'=>e=.returned (.int .i64 (compareInt a b))∧∃ q os',w'=grow (W.drewN q) os':=by
  have hcon:=fun W'=>Tryz.cmp_Compare_int a b W'
  change ∀ W',Calls Tryz.prog 138 _ _ _ at hcon
  generalize compareInt a b=r at hcon ⊢
  match xs,hx,ys,hy with
  | [x1,x2,x3,x4,x5,x6,x7,x8,x9,x10],_,[y1,y2,y3,y4,y5,y6,y7,y8,y9,y10],_ =>
    go_enter Tryz.func137,Tryz.ntmps137
    go_wp2_with (go_at_call 138;refine (hcon _).mono ?_;rintro e w' ⟨rfl,rfl⟩)
    go_ret
    exact ⟨rfl,0,_,by rw [alloc_eq_grow,alloc_eq_grow,grow_grow];rfl⟩
theorem cmpN_lt {a b:Int}:compareInt a b<0↔a<b:=by
  unfold compareInt
  split
  · omega
  · split<;>omega
def leF (x y:TF):Bool:=!(decide (compareInt (fNum y) (fNum x)<0))
def sortT (l:List TF):List TF:=l.mergeSort leF
theorem sortT_len (l:List TF):(sortT l).length=l.length:=List.length_mergeSort _
theorem agg70:∀ w,(isAgg (Tryz.sortT_ren.t 24)).run Tryz.prog w=.ok true w:=fun w=>Tryz.isAgg70 w
theorem siz70:∀ w,(Go.sizeOf (Tryz.sortT_ren.t 24)).run Tryz.prog w=.ok 11 w:=fun w=>Tryz.sizeOf70 w
theorem swo_cmpN {α:Type} (nm:α→Int):SWO (ltOf fun x y:α=>compareInt (nm x) (nm y)) where
  irrefl x:=by simp only [ltOf,decide_eq_false_iff_not,cmpN_lt];omega
  trans x y z h1 h2:=by simp only [ltOf,decide_eq_true_eq,cmpN_lt] at *;omega
  ntrans x y z h1 h2:=by
    simp only [ltOf,decide_eq_false_iff_not,cmpN_lt] at *
    omega
theorem SortT_raw (n b c:Nat) (hn0:0<n) (nm:_root_.Fin n→Int) (hnm:∀ i j,nm i=nm j→i=j) (cur:Array Value) (w:World) (hn:n≤1073741824) (hc:n≤c) (hb:w.heap[b]? = some (.cells cur 70 (0,0))) (hsz:cur.size=c * 11)
    (h1:∀ j v,j<n * 11→cur[j]? = some v→v.oneCell'=true) (hname:∀ i:_root_.Fin n,cur[i.val * 11]? = some (.int .i64 (nm i))) :
    Calls Tryz.prog 136 #[.slice (some ⟨b,0,none⟩) n c,.func (.func 137) #[] #[]] w fun e w'=>e=.returned (.tuple #[]) ∧
      ∃ (L:List (_root_.Fin n)) (new:Array Value),L=(List.finRange n).mergeSort (fun x y=>!(decide (compareInt (nm y) (nm x)<0)))∧w'.os=w.os∧w'.tape=w.tape∧w'.output=w.output∧w.heap.size≤w'.heap.size∧(∀ k,k<w.heap.size→k≠b→w'.heap[k]? = w.heap[k]?) ∧
        w'.heap[b]? = some (.cells new 70 (0,0))∧new.size=cur.size∧∀ (i:Nat) (q:_root_.Fin n) (j:Nat),L[i]? = some q→j<11→new[i * 11+j]? = cur[q.val * 11+j]? := by
  haveI:Inhabited (_root_.Fin n):=⟨⟨0,hn0⟩⟩
  have hblt:b<w.heap.size:=(Array.getElem?_eq_some_iff.1 hb).1
  have hlen:∀ x:_root_.Fin n,(seg cur (x.val * 11) 11).length=11:=fun x=>seg_len (by have:=x.isLt;omega)
  have hget:∀ (x:_root_.Fin n) (j:Nat),j<11→(seg cur (x.val * 11) 11)[j]? = cur[x.val * 11+j]? := fun x j hj=>by rw [seg_get,if_pos hj]
  have hone:∀ x:_root_.Fin n,∀ v ∈ seg cur (x.val * 11) 11,v.oneCell'=true:=fun x=>seg_one h1 (by have:=x.isLt;omega)
  have hcons:∀ x:_root_.Fin n,∃ xs,seg cur (x.val * 11) 11=Value.int .i64 (nm x) :: xs∧xs.length=10:=fun x=>by
    have hl:=hlen x
    have h0:=hget x 0 (by omega)
    rw [Nat.add_zero,hname x] at h0
    cases hq:seg cur (x.val * 11) 11 with
    | nil=>rw [hq] at hl;cases hl
    | cons a r =>
      rw [hq] at h0 hl
      simp at h0 hl
      subst h0
      exact ⟨r,rfl,hl⟩
  let d:Array (_root_.Fin n):=(List.finRange n).toArray
  have hds:d.size=n:=by simp [d]
  have hdg:∀ k (hk:k<n),d[k]! = ⟨k,hk⟩:=fun k hk=>by
    rw [getElem!_pos d k (by omega)]
    simp [d]
  have eg:∀ args w,(callFunc 137 args).run Tryz.prog w=.ok (.enter 137 args) w:=enters_of Tryz.func137 (by kernel_rfl) rfl
  have hcmp:CmpLays Tryz.prog 137 #[] (fun x:_root_.Fin n=>seg cur (x.val * 11) 11) 11 (fun x y=>compareInt (nm x) (nm y)) b 0 d.size w:=fun m os dk hs x y=>by
    obtain ⟨xs,ex,lx⟩:=hcons x
    obtain ⟨ys,ey,ly⟩:=hcons y
    simp only [ex,ey]
    exact record1_raw _ _ xs ys lx ly _
  have hfl:∀ (D:Array (_root_.Fin n)) (t:Nat) (hD:D.size=n) (ht:t<n * 11),some (flatK (fun x:_root_.Fin n=>seg cur (x.val * 11) 11) 11 D)[t]! = cur[D[t / 11]!.val * 11+t % 11]? := fun D t hD ht=>by
    rw [get_flatK _ _ _ _ (by rw [hD];exact ht),← hget _ _ (Nat.mod_lt _ (by omega))]
    rw [getElem!_pos _ _ (by rw [hlen];exact Nat.mod_lt _ (by omega)),List.getElem?_eq_getElem]
  have hH:HoldsK (fun x:_root_.Fin n=>seg cur (x.val * 11) 11) 11 w b 0 d:=fun j hj=>by
    rw [size_flatK,hds] at hj
    refine ⟨?_,by simp [World.frozen?,hb]⟩
    rw [Nat.zero_add,cell_of_row hb]
    have:=hfl d j hds hj
    rw [hdg (j / 11) (by omega)] at this
    rw [show j / 11 * 11+j % 11=j by omega] at this
    rw [← this];rfl
  have hT:∀ x y:_root_.Fin n,(ltOf fun x y=>compareInt (nm x) (nm y)) x y=false→(ltOf fun x y=>compareInt (nm x) (nm y)) y x=false→x=y:=fun x y a b=>by
    simp only [ltOf,decide_eq_false_iff_not,cmpN_lt] at a b
    exact hnm _ _ (by omega)
  have hcall:=(AnyQ.slices_SortFunc Tryz.sortT 11 agg70 siz70 (fun x:_root_.Fin n=>seg cur (x.val * 11) 11) hlen hone (fun x y=>compareInt (nm x) (nm y)) (swo_cmpN nm) 137 #[] b 0 c d w eg hcmp hH hblt (by rw [hds];omega)).mono
    (fun e w' ⟨he,d',m,os,hp,hs,hw⟩=>(⟨he,m,os,by rw [hw,← sorted_unique_holds (swo_cmpN nm) hT d d' hp hs]⟩:e=Ending.returned (.tuple #[])∧∃ m os,w'=sortWorldK (fun x:_root_.Fin n=>seg cur (x.val * 11) 11) 11 w b 0 m (d.toList.mergeSort fun x y=>!(ltOf fun x y=>compareInt (nm x) (nm y)) y x).toArray os))
  rw [hds] at hcall
  change Calls Tryz.prog 136 _ _ _ at hcall
  refine hcall.mono fun e w' ⟨he,m,os,hw⟩=>⟨he,?_⟩
  have hLl:((List.finRange n).mergeSort fun x y=>!(decide (compareInt (nm y) (nm x)<0))).length=n:=by rw [List.length_mergeSort];simp
  refine ⟨_,putCells id 0 (flatK (fun x:_root_.Fin n=>seg cur (x.val * 11) 11) 11 ((List.finRange n).mergeSort fun x y=>!(decide (compareInt (nm y) (nm x)<0))).toArray) cur,rfl,?_⟩
  have hdt:d.toList=List.finRange n:=by simp [d]
  rw [hdt] at hw
  change w'=sortWorldK _ 11 w b 0 m ((List.finRange n).mergeSort fun x y=>!(decide (compareInt (nm y) (nm x)<0))).toArray os at hw
  generalize ((List.finRange n).mergeSort fun x y=>!(decide (compareInt (nm y) (nm x)<0)))=L at hw hLl ⊢
  have hs0:(putRowK (fun x:_root_.Fin n=>seg cur (x.val * 11) 11) 11 (Sort.ahead w m) b 0 L.toArray).heap.size=w.heap.size:=by
    unfold putRowK;rw [Go.Sort.size_putRow];rfl
  have hold:∀ k,k<w.heap.size→w'.heap[k]? = (putRowK (fun x:_root_.Fin n=>seg cur (x.val * 11) 11) 11 (Sort.ahead w m) b 0 L.toArray).heap[k]? := fun k hk=>by
    rw [hw];unfold sortWorldK;exact Go.Sort.heap_grow_old _ _ (by rw [hs0];exact hk)
  refine ⟨by rw [hw];rfl,by rw [hw];rfl,by rw [hw];rfl,by rw [hw];unfold sortWorldK;rw [size_grow,hs0];omega,fun k hk hkb=>?_,?_,by simp [putCells],fun i q j hi hj=>?_⟩
  · rw [hold k hk]
    unfold putRowK putRow mapBlock
    simp only [Array.getElem?_modify,if_neg (Ne.symm hkb)]
    rfl
  · rw [hold b hblt]
    unfold putRowK putRow mapBlock
    simp only [Array.getElem?_modify,if_true]
    show Option.map _ (w.heap[b]?)=_
    rw [hb];rfl
  · have hin:i<n:=by have:=(List.getElem?_eq_some_iff.1 hi).1;omega
    have hq:q.val<n:=q.isLt
    have ht:i * 11+j<n * 11:=by omega
    have h3:=hfl L.toArray (i * 11+j) (by simpa using hLl) ht
    have hLi:L.toArray[(i * 11+j) / 11]! = q:=by
      rw [show (i * 11+j) / 11=i by omega,getElem!_pos L.toArray i (by simp;omega)]
      have:=(List.getElem?_eq_some_iff.1 hi).2
      simpa using this
    rw [hLi,show (i * 11+j) % 11=j by omega] at h3
    rw [← h3]
    simp only [putCells,Array.getElem?_mapIdx]
    rw [Array.getElem?_eq_getElem (by omega)]
    simp only [Option.map_some,Nat.zero_add,Nat.sub_zero,id_eq,Nat.zero_le,true_and]
    rw [size_flatK,if_pos (by simp;omega)]
end Go.Ai
