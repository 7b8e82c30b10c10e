/- The tables of the whole program, from what a row lists and from the shape of its world. -/
import Derived.Lib.LaidU8T
import Derived.LaidLaws
import Derived.Shelf.Vars
import Derived.Lib.LaidTab
import Derived.Test.YtbagpkiomjlhkaaGreatDoorVal
import Derived.Test.YtbagpkiomjlhkaaGreatDoorEngA
import Derived.Test.YtbagpkiomjlhkaaGreatDoorRows
set_option linter.all false
namespace Go.Ai
open Go Go.Proofs Go.Shelf Go.Proofs.YtbagpkiomjlhkaaGreatDoor
set_option maxRecDepth 100000
theorem var_block {W:World} {n:String} {g:Nat} {cs:Array Value} (hg:Tryz.prog.globalNamed n=some g) (hv:W.var? Tryz.prog n=some cs):∃ ty fr,W.heap[g]? = some (.cells cs ty fr):=by
  simp only [World.var?,hg,Option.bind_some] at hv
  split at hv
  · rename_i cs' ty fr h
    obtain rfl:=Option.some.inj hv
    exact ⟨_,_,h⟩
  · cases hv
theorem iface_cell {W:World} {n:String} {g:Nat} {s:String} {d:DataW Unit} (hg:Tryz.prog.globalNamed n=some g) (hty:(Tryz.prog.globals[g]?).map (·.type)=some 160) (h:Lib.VarReads Tryz.prog W n (.iface s d)):∃ v,W.cell? ⟨g,0,none⟩=some v∧(v=.nilIface∨∃ te pe,v=.iface te pe):=by
  obtain ⟨g',t,cs,fuel,p,hg',hty',hvar,hd⟩:=h
  obtain rfl:=Option.some.inj (hg.symm.trans hg')
  obtain rfl:=Option.some.inj (hty.symm.trans hty')
  obtain ⟨_,u,v,hcs,_⟩:=iface_of_trod Tryz.underlying160 hd
  refine ⟨.iface u v,?_,.inr ⟨u,v,rfl⟩⟩
  rw [World.var?_cell hg hvar 0,← Array.getElem?_toList,hcs];rfl
theorem tabs_of {W:World} (hL:laidMetH Tryz.prog Rows.formulaReservedUptoRow.laid W) (hS:W.ShapedOpen Tryz.prog):Tabs W:=by
  have hL':laidMet Tryz.prog Rows.formulaReservedUptoRow.laid W:=hL
  have r:=fun n d=>Lib.laidMet.reads hL' (n:=n) (d:=d)
  refine ⟨utf8Tabs_of_readsT (U8Types.of196 Tryz.lays196) ⟨by kernel_rfl,by kernel_rfl,by kernel_rfl,by kernel_rfl,by kernel_rfl,by kernel_rfl,by kernel_rfl⟩ (r _ _ (.tail _ (.tail _ (.tail _ (.tail _ (.tail _ (.tail _ (.tail _ (.head _)))))))) ) (r _ _ (.tail _ (.tail _ (.tail _ (.head _))))),fun i s hi=>?_,
    cell_of_shapedOpen_int (zero:=#[.int .i64 0]) (t:=3) hS (of_decide_eq_true (by kernel_rfl)) (by kernel_rfl) rfl (by kernel_rfl) (by kernel_rfl) Tryz.underlying3,
    iface_cell (by kernel_rfl) (by kernel_rfl) (r _ _ (.tail _ (.tail _ (.tail _ (.tail _ (.tail _ (.head _))))))),iface_cell (by kernel_rfl) (by kernel_rfl) (r _ _ (.tail _ (.tail _ (.tail _ (.tail _ (.head _)))))),?_,?_⟩
  · obtain ⟨g,t,cs,fuel,p,hg,hty,hvar,hd⟩:=r _ _ (.tail _ (.tail _ (.tail _ (.tail _ (.tail _ (.tail _ (.head _)))))))
    obtain rfl:g=tabP:=Option.some.inj (hg.symm.trans (by kernel_rfl))
    obtain rfl:t=187:=Option.some.inj (hty.symm.trans (by kernel_rfl))
    have hi5:i<5:=by
      have:=(List.getElem?_eq_some_iff.1 hi).1
      exact this
    obtain ⟨fuel',d,q,hdi,he⟩:=Lib.array_elem Tryz.underlying187 hd i hi5
    have hc:Tryz.prog.cellsOf 9=1:=by kernel_rfl
    rw [hc] at he
    obtain ⟨s',hs',hx,_⟩:=DataW.trod_string Tryz.underlying9 he
    rw [World.var?_cell hg hvar i,← Array.getElem?_toList]
    have e0:=congrArg (·[0]?) hs'
    simp only [List.getElem?_take,List.getElem?_drop,Nat.mul_one,Nat.add_zero] at e0
    have e1:cs.toList[i]? = some (.string s'):=by simpa using e0
    rw [e1]
    have hd1:d=.lit (.string s'.data.toList):=(Prod.mk.injEq _ _ _ _ ▸ hx).1
    rw [hd1] at hdi
    have key:∀ i,i<5→∀ s,pairsL[i]? = some s→∀ l:List UInt8,([.lit (.string [45,62]),.lit (.string [33,61]),.lit (.string [60,61]),.lit (.string [62,61]),.lit (.string [46,46])]:List (DataW Unit))[i]? = some (.lit (.string l))→l=s.data.toList:=by
      intro i hi s hs l hl
      match i,hi with
      | 0,_|1,_|2,_|3,_|4,_=>simp [pairsL] at hs hl;subst hs;subst hl;rfl
    have:=key i hi5 s hi _ hdi
    have:s'=s:=by
      apply ByteArray.ext
      exact Array.toList_inj.1 this
    rw [this]
  · obtain ⟨g,t,cs,fuel,p,hg,hty,hvar,hd⟩:=r _ _ (.tail _ (.tail _ (.head _)))
    obtain rfl:g=tabW:=Option.some.inj (hg.symm.trans (by kernel_rfl))
    obtain ⟨ty,fr,hh⟩:=var_block hg hvar
    obtain rfl:t=245:=Option.some.inj (hty.symm.trans (by kernel_rfl))
    have hcs:=Lib.cells_of_tab (zs:=(List.range 20).map fun i=>((10 ^ i:Nat):Int)) (k:=.u64) (e:=220) (n:=20) (cs:=cs.toList) Tryz.underlying245 Tryz.underlying220 (by kernel_rfl) (by kernel_rfl) hd
    refine ⟨ty,fr,?_⟩
    rw [hh]
    have:cs=((List.range 20).map fun i=>Value.int .u64 ((10 ^ i:Nat):Int)).toArray:=by
      apply Array.toList_inj.1
      rw [hcs,List.map_map];rfl
    rw [this]
  · obtain ⟨g,t,cs,fuel,p,hg,hty,hvar,hd⟩:=r _ _ (.tail _ (.head _))
    obtain rfl:g=8:=Option.some.inj (hg.symm.trans (by kernel_rfl))
    obtain ⟨ty,fr,hh⟩:=var_block hg hvar
    have:=(Array.getElem?_eq_some_iff.1 hh).1
    omega
end Go.Ai
