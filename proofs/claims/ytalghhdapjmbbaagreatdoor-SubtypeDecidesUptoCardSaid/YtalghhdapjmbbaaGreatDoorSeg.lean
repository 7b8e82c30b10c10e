/- Rows of cells in memory: small laws. -/
import Derived.Test.YtalghhdapjmbbaaGreatDoorEngB
import Derived.Test.YtalghhdapjmbbaaGreatDoorEngA
import Derived.KernelRfl
set_option linter.all false
namespace Go.Ai
open Go Go.RowKit
set_option maxRecDepth 100000
theorem cell_of_row {w:World} {g:Nat} {cur:Array Value} {t:TypeId} (h:w.heap[g]? = some (.cells cur t (0,0))) (j:Nat):w.cell? ⟨g,j,none⟩=cur[j]? := by
  simp [World.cell?,h]
def seg (cur:Array Value) (o n:Nat):List Value:=(cur.toList.drop o).take n
theorem seg_len {cur:Array Value} {o n:Nat} (h:o+n≤cur.size):(seg cur o n).length=n:=by simp [seg];omega
theorem seg_get {cur:Array Value} {o n:Nat} (j:Nat):(seg cur o n)[j]? = if j<n then cur[o+j]? else none:=by
  simp only [seg,List.getElem?_take,List.getElem?_drop,Array.getElem?_toList]
theorem seg_one {cur:Array Value} {m o n:Nat} (h:∀ j v,j<m→cur[j]? = some v→v.oneCell'=true) (hm:o+n≤m):∀ v ∈ seg cur o n,v.oneCell'=true:=by
  intro v hv
  obtain ⟨j,hj,e⟩:=List.getElem_of_mem hv
  have e2:(seg cur o n)[j]? = some v:=by rw [List.getElem?_eq_getElem hj,e]
  rw [seg_get] at e2
  split at e2
  · exact h _ v (by omega) e2
  · cases e2
theorem turn_end {E:Env} {args:List AV} {objs:List (Nat×AO)} {vs:Array Value} {w w':World} {β:Nat→Value} (h0:RelB E args (oL objs) ⟨vs,[]⟩ w β) (hdf:E.df=[])
    {o:Nat} {x:Bool} {t sz ver:Nat} {n:Unit→Nat} {f:(Unit→Nat)→List AV} (hold:oL objs o=.arr x t sz ver n f) (hos:w'.os=w.os) (htape:w'.tape=w.tape) (hout:w'.output=w.output) (hsize:w.heap.size≤w'.heap.size)
    (hheap:∀ b,b<w.heap.size→blkOf (β o)≠some b→w'.heap[b]? = w.heap[b]?) {ver2:Nat} {n2:Unit→Nat} {f2:(Unit→Nat)→List AV} {v:Value}
    (hb:∀ b,blkOf v=some b→blkOf (β o)=some b∨w.heap.size≤b) (hver:(ver2=ver∧n2 ()=n ()∧v=β o)∨ver<ver2)
    (ho:(∀ av u,RD w (E.D w β (oL objs)) E.B av u→RD w' (E.D w' (upd β o v) (upd (oL objs) o (.arr x t sz ver2 n2 f2))) E.B av u)→OR E w' (upd β o v) (upd (oL objs) o (.arr x t sz ver2 n2 f2)) o (.arr x t sz ver2 n2 f2))
    {res:AV} {u:Value} (hres:RX w' (E.D w' (upd β o v) (upd (oL objs) o (.arr x t sz ver2 n2 f2))) E.B (upd β o v) (upd (oL objs) o (.arr x t sz ver2 n2 f2)) res u) :
    RelB E [res] (oL (oset objs o (.arr x t sz ver2 n2 f2))) ⟨#[u],[]⟩ w' (upd β o v)∧Link (oL objs) β (oL (oset objs o (.arr x t sz ver2 n2 f2))) (upd β o v):=by
  have hself:=h0.objs o
  rw [hold] at hself
  have hnp:∀ b,β o=.pointer (some ⟨b,0,none⟩)→False:=fun b hb=>by
    rcases hself with ⟨h1,_⟩|⟨g,cap,cur,h1,_⟩<;>rw [h1] at hb<;>cases hb
  obtain ⟨h1,h2⟩:=RelB.turn (S:=⟨args,objs⟩) h0 (o:=o) (by show (oL objs o).is;rw [hold];trivial) hos htape hout hsize hheap (ob:=.arr x t sz ver2 n2 f2) trivial (v:=v) hb (fun b hb=>(hnp b hb).elim)
    (fun x1 t1 sz1 ver1 n1 f1 hf=>by
      replace hf:oL objs o=_:=hf
      rw [hold] at hf;cases hf
      exact ⟨_,_,_,rfl,hver⟩) (fun cs hcs=>by replace hcs:oL objs o=_:=hcs;rw [hold] at hcs;cases hcs) (fun _ hrd=>ho hrd)
  rw [olook_oset]
  refine ⟨⟨hdf.symm,rfl,fun k av hk=>?_,h1.objs,h1.apart,h1.frame,h1.pin⟩,fun o' hi=>?_⟩
  · cases k with
    | zero=>simp at hk;subst hk;exact hres
    | succ k=>simp at hk
  · by_cases e:o'=o
    · subst e
      refine ⟨(by simp [upd,AO.is]),(fun cs hcs=>by rw [hold] at hcs;cases hcs),fun x1 t1 sz1 ver1 n1 f1 hf=>?_⟩
      rw [hold] at hf;cases hf
      refine ⟨ver2,n2,f2,by simp [upd],?_⟩
      rcases hver with ⟨a,b,c⟩|h
      · exact .inl ⟨a,b,by simp [upd,c]⟩
      · exact .inr h
    · have q1:upd (oL objs) o (.arr x t sz ver2 n2 f2) o'=oL objs o':=by simp [upd,e]
      have q2:upd β o v o'=β o':=by simp [upd,e]
      rw [q1,q2]
      exact ⟨hi,fun cs h=>⟨⟨cs,h⟩,rfl⟩,fun x t sz ver n f h=>⟨ver,n,f,h,.inl ⟨rfl,rfl,rfl⟩⟩⟩
theorem els_one7 {w:World} {D:Nat→Prop} {B n:Nat} {f:(Unit→Nat)→List AV} {cur:Array Value} {c:Nat} (hsz:cur.size=c * 7) (hn:n≤c)
    (hel:∀ k,k<n→(f fun _=>k).length=7∧(f fun _=>k).all AV.cell=true∧∀ (j:Nat) (av:AV) (v:Value),(f fun _=>k)[j]? = some av→cur[k * 7+j]? = some v→RD w D B av v) :
    ∀ j v,j<n * 7→cur[j]? = some v→v.oneCell'=true:=by
  intro j v hj hv
  have he:Els w D B 7 n f (cur.toList.take (n * 7)):=⟨by simp;omega,fun k hk=>let ⟨a,b,c⟩:=hel k hk;⟨a,b,fun j av v h1 h2=>c j av v h1 (by
    rw [List.getElem?_take] at h2;split at h2;simpa using h2;cases h2)⟩⟩
  refine he.one v (List.mem_of_getElem? (i:=j) ?_)
  rw [List.getElem?_take,if_pos hj];simpa using hv
end Go.Ai
