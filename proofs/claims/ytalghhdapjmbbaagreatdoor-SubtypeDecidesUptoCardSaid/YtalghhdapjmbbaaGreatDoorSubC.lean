/- Chapter 8: the map of a type's names. -/
import Derived.Test.YtalghhdapjmbbaaGreatDoorEngC
import Derived.Carry
import Derived.MapKept
import Derived.Test.YtalghhdapjmbbaaGreatDoorProg
import Derived.Test.YtalghhdapjmbbaaGreatDoorSubA
import Derived.Test.YtalghhdapjmbbaaGreatDoorTyE
set_option linter.all false
namespace Go.Ai
open Go Go.Proofs
set_option maxRecDepth 100000
set_option maxHeartbeats 4000000
theorem makeMap_new {P:Program} (t:TypeId) (w:World):(Instr.makeMap t none).run P w=.ok (.map (some w.heap.size)) (w.alloc (.map #[] 0)):=rfl
def setM (w:World) (b:Nat) (es:Array MapEntry) (c:Nat):World:={ w with heap:=w.heap.setIfInBounds b (.map es c) }
theorem insertK_at {P:Program} {t kt et:TypeId} (ht:P.underlying t=some (.map kt et)) (hk:P.underlying kt=some .string) (w:World) (b:Nat) (es:Array MapEntry) (c:Nat) (hb:w.heap[b]? = some (.map es c)) (k:ByteArray) (v:Value) (hf:Instr.findNow .string (.string k) es.toList 0=some none) :
    (Instr.mapUpdate t (.map (some b)) (.string k) v).run P w=.ok () (setM w b (es.push { key:=.string k,val:=v,born:=c }) (c+1)):=by
  have hc:=MapKept.run_checkKey (w:=w) (d:=.string) (k:=.string k) hk trivial false 9999
  have hfk:(Instr.findKey kt (.string k) es.toList).run P w=.ok none w:=MapKept.run_findKey hk hf
  have hs:=MapKept.run_setObj_map (P:=P) (.map (es.push { key:=.string k,val:=v,born:=c }) (c+1)) hb
  simp only [Instr.mapUpdate,Sem.run_bind,run_underlying ht,Result.andThen_ok,MapKept.run_getObj_map hb]
  rw [show (10000:Nat)=9999+1 from rfl,hc]
  simp only [Result.andThen_ok,hfk]
  exact hs
def nEnts (ns:Nat→ByteArray) (n:Nat):Array MapEntry:=((List.range n).map fun i=>({ key:=.string (ns i),val:=.int .i64 i,born:=i }:MapEntry)).toArray
theorem nEnts_succ (ns:Nat→ByteArray) (n:Nat):nEnts ns (n+1)=(nEnts ns n).push { key:=.string (ns n),val:=.int .i64 n,born:=n }:=by
  simp [nEnts,List.range_succ]
theorem nEnts_find (ns:Nat→ByteArray) (n:Nat) (h:∀ j,j<n→ns j≠ns n):Instr.findNow .string (.string (ns n)) (nEnts ns n).toList 0=some none:=by
  rcases MapKept.findNow_spec (d:=.string) (k:=.string (ns n)) trivial (nEnts ns n).toList 0 (fun x hx=>by
    simp only [nEnts,List.toList_toArray,List.mem_map] at hx
    obtain ⟨i,_,rfl⟩:=hx
    trivial) with ⟨h1,_⟩|⟨j,e,_,h2,h3⟩
  · exact h1
  · exfalso
    have hm:=List.mem_of_getElem? h2
    simp only [nEnts,List.toList_toArray,List.mem_map,List.mem_range] at hm
    obtain ⟨i,hi,rfl⟩:=hm
    simp only [Value.string.injEq] at h3
    exact h i hi h3
theorem names_raw (W:World) (k mi ma sc ws el:Value) (p:Option Addr) (b o n cap:Nat) (ns:Nat→ByteArray) (c:Nat→Nat→Value) (hn:n≤1073741824) (hnc:n≤cap) (hp:0<n→p=some ⟨b,o,none⟩)
    (hc:∀ i j,i<n→j<11→W.cell? ⟨b,o+i * 11+j,none⟩=some (c i j)) (hb:0<n→b<W.heap.size) (hs:∀ i,i<n→∃ a0 a2 a3 a4 a5 a6 p7 n7 k7 p8 n8 k8 p9 n9 k9 p10 n10 k10,c i 0=.int .i64 a0∧c i 1=.string (ns i)∧c i 2=.int .i64 a2∧c i 3=.int .i64 a3∧c i 4=.int .i64 a4∧c i 5=.int .i64 a5∧c i 6=.int .i64 a6∧c i 7=.slice p7 n7 k7∧c i 8=.slice p8 n8 k8∧c i 9=.slice p9 n9 k9∧c i 10=.slice p10 n10 k10) (hd:∀ i j,i<j→j<n→ns i≠ns j) :
    Calls Tryz.prog 80 #[.agg #[k,mi,ma,sc,ws,el,.slice p n cap]] W fun e w'=>∃ h,e=.returned (.map (some (W.heap.size+1)))∧w'={ W with heap:=h }∧h[W.heap.size+1]? = some (.map (nEnts ns n) n)∧W.heap.size≤h.size∧∀ x,x<W.heap.size→h[x]? = W.heap[x]? := by
  go_enter Tryz.func80,Tryz.ntmps80
  go_wp2
  rw [makeMap_new]
  simp only [Result.andThen_ok,Oper.upon_value]
  go_wp2
  refine wp_loop (fun a w'=>∃ (i:Nat) (x4 x5 x6 x11 x12 x13 x14 x15 x16 x17 x18 x19 x20:Value),i≤n∧a=⟨#[.agg #[k,mi,ma,sc,ws,el,.slice p n cap],.pointer (some ⟨W.heap.size,0,none⟩),.map none,.map (some (W.heap.size+1)),x4,x5,x6,.pointer (some ⟨W.heap.size,6,none⟩),.slice p n cap,.int .i64 n,.int .i64 i,x11,x12,x13,x14,x15,x16,x17,x18,x19,x20],[]⟩ ∧
      ∃ h,w'={ W with heap:=h }∧h[W.heap.size+1]? = some (.map (nEnts ns i) i)∧W.heap.size≤h.size∧∀ x,x<W.heap.size→h[x]? = W.heap[x]?) (fun a _=>n - (RowKit.intOf (a.tmps.getD 10 undef)).toNat) ?_ ?_
  · refine ⟨0,_,_,_,_,_,_,_,_,_,_,_,_,_,Nat.zero_le _,rfl,_,rfl,?_,?_,?_⟩
    · show ((W.heap.push _).push _)[W.heap.size+1]? = _
      rw [Array.getElem?_push,if_pos (by rw [Array.size_push])]
      rfl
    · show W.heap.size≤((W.heap.push _).push _).size
      rw [Array.size_push,Array.size_push];omega
    · intro x hx
      simp only [World.alloc,Array.getElem?_push,Array.size_push]
      rw [if_neg (by omega),if_neg (by omega)]
  · rintro a w ⟨i,x4,x5,x6,x11,x12,x13,x14,x15,x16,x17,x18,x19,x20,hi,rfl,h,rfl,hm,hsz,hold⟩
    by_cases hlt:i<n
    · obtain rfl:=hp (by omega)
      have hbs:=hb (by omega)
      have hcell:∀ j,j<11→({ W with heap:=h }:World).cell? ⟨b,o+i * 11+j,none⟩=some (c i j):=fun j hj=>by
        rw [World.cell?_of_block (w:=W) (hold b hbs)]
        exact hc i j hlt hj
      obtain ⟨a0,a2,a3,a4,a5,a6,p7,n7,k7,p8,n8,k8,p9,n9,k9,p10,n10,k10,e0,e1,e2,e3,e4,e5,e6,e7,e8,e9,e10⟩:=hs i hlt
      have hc0:({ W with heap:=h }:World).cell? ⟨b,o+i * 11,none⟩=some (c i 0):=hcell 0 (by decide)
      have hc1:=hcell 1 (by decide)
      have hc2:=hcell 2 (by decide)
      have hc3:=hcell 3 (by decide)
      have hc4:=hcell 4 (by decide)
      have hc5:=hcell 5 (by decide)
      have hc6:=hcell 6 (by decide)
      have hc7:=hcell 7 (by decide)
      have hc8:=hcell 8 (by decide)
      have hc9:=hcell 9 (by decide)
      have hc10:=hcell 10 (by decide)
      rw [e0] at hc0
      rw [e1] at hc1
      rw [e2] at hc2
      rw [e3] at hc3
      rw [e4] at hc4
      rw [e5] at hc5
      rw [e6] at hc6
      rw [e7] at hc7
      rw [e8] at hc8
      rw [e9] at hc9
      rw [e10] at hc10
      have hlt':(i:Int)<(n:Int):=by omega
      have hw:IntKind.i64.wrap ((i:Int)+1)=(i:Int)+1:=by rw [IntKind.wrap_i64];omega
      go_wp2
      have hmb:W.heap.size+1<h.size:=(Array.getElem?_eq_some_iff.1 hm).1
      obtain ⟨ob,hob⟩:∃ ob,ob=Obj.cells #[Value.int IntKind.i64 a0,Value.string (ns i),Value.int IntKind.i64 a2,Value.int IntKind.i64 a3,Value.int IntKind.i64 a4,Value.int IntKind.i64 a5,Value.int IntKind.i64 a6,Value.slice p7 n7 k7,Value.slice p8 n8 k8,Value.slice p9 n9 k9,Value.slice p10 n10 k10] 52:=⟨_,rfl⟩
      rw [← hob]
      have hm2:(({ W with heap:=h }:World).alloc ob).heap[W.heap.size+1]? = some (.map (nEnts ns i) i):=by
        show (h.push ob)[W.heap.size+1]? = _
        rw [Array.getElem?_push,if_neg (by omega)];exact hm
      rw [insertK_at Tryz.underlying108 Tryz.underlying9 _ _ _ _ hm2 _ _ (nEnts_find ns i fun j hj=>hd j i hj hlt)]
      simp only [Result.andThen_ok,Oper.upon_skip]
      go_wp2
      rw [← hob]
      refine ⟨⟨i+1,_,_,_,_,_,_,_,_,_,_,_,_,_,hlt,rfl,_,rfl,?_,?_,fun x hx=>?_⟩,?_⟩
      · show ((h.push ob).setIfInBounds (W.heap.size+1) _)[W.heap.size+1]? = _
        rw [Array.getElem?_setIfInBounds_self_of_lt (by rw [Array.size_push];omega),← nEnts_succ]
      · show W.heap.size≤((h.push ob).setIfInBounds (W.heap.size+1) _).size
        rw [Array.size_setIfInBounds,Array.size_push];omega
      · show ((h.push ob).setIfInBounds (W.heap.size+1) _)[x]? = _
        rw [Array.getElem?_setIfInBounds_ne (by omega),Array.getElem?_push,if_neg (by omega)]
        exact hold x hx
      · show n - ((i:Int)+1).toNat<n - (i:Int).toNat
        omega
    · have hin:i=n:=by omega
      subst hin
      have hge:¬ (i:Int)<(i:Int):=by omega
      go_wp2
      go_ret
      exact ⟨rfl,h,rfl,hm,hsz,hold⟩
theorem bounded_ok (e d:Nat) (s t:Ty):Af Tryz.prog 63 [encT e d .any fun _=>s,encT e d .any fun _=>t] [] (.bool fun _=>bndB s t) []:=by
  (apply Af.of tF mF [.tmp 4] kp63 [] Tryz.func63 (fun _=>?_);(any_goals ((with_reducible refine wI ?_);cbv;(try dsimp only [nc] at *);(repeat' (with_reducible first|exact aO|exact oN|refine oC ?_ ?_|refine VC.mk rfl ?_ ?_ ?_|(apply Ca.mk<;>intro _)|(apply Cv.mk<;>intro zq<;>(try simp only [nc,cl] at zq)<;>(try simp only [bl,dl] at zq)<;>(revert zq;intro _))|((first|apply xE|apply uE);cbv;(try dsimp only [nc] at *)))))))
  ((all_goals (try (with_reducible ((first|refine rE ?_|refine nE ?_);(focus (cbv;(try dsimp only [nc] at *);(try simp only [wl,nc]);(repeat' (with_reducible apply And.intro));all_goals (try exact wZ)))))));(all_goals (try ((with_reducible rw [aC]);(try simp only [wl,nc]);(repeat' (with_reducible apply And.intro));(all_goals (try exact cZ))))))
  all_goals (simp only [bndB];((((try simp only [nc,cl] at *)<;>(try rw [Bool.eq_iff_iff]))<;>(try simp only [bl,false_iff,true_iff,iff_true,iff_false,dec_t,dec_f,ne_eq,Decidable.not_not] at *))<;>(first|omega|grind)))
theorem hasW_ok (e d:Nat) (t:Ty) (ht:Ty.le e (d+1) t) (w:ByteArray):Af Tryz.prog 42 [encT e (d+1) .any fun _=>t,.str fun _=>w] [] (.bool fun _=>txtB t w) []:=by
  (apply Af.of tF mF [.tmp 4] kp42 [(2,[(3,.bool fun _=>inWords t.words w,[])])] Tryz.func42 (fun _=>?_);(any_goals ((with_reducible refine wI ?_);cbv;(try dsimp only [nc] at *);(repeat' (with_reducible first|exact aO|exact oN|refine oC ?_ ?_|refine VC.mk rfl ?_ ?_ ?_|(apply Ca.mk<;>intro _)|(apply Cv.mk<;>intro zq<;>(try simp only [nc,cl] at zq)<;>(try simp only [bl,dl] at zq)<;>(revert zq;intro _))|((first|apply xE|apply uE);cbv;(try dsimp only [nc] at *)))))))
  (any_goals ((with_reducible refine bZ ?_)<;>exact (Contains_ok t.words w ht.1)))
  ((all_goals (try (with_reducible ((first|refine rE ?_|refine nE ?_);(focus (cbv;(try dsimp only [nc] at *);(try simp only [wl,nc]);(repeat' (with_reducible apply And.intro));all_goals (try exact wZ)))))));(all_goals (try ((with_reducible rw [aC]);(try simp only [wl,nc]);(repeat' (with_reducible apply And.intro));(all_goals (try exact cZ))))))
  · unfold txtB;rw [if_pos (show 0<t.words.length by omega)]
  · unfold txtB;rw [if_neg (show ¬ 0<t.words.length by omega)];((((try simp only [nc,cl] at *)<;>(try rw [Bool.eq_iff_iff]))<;>(try simp only [bl,false_iff,true_iff,iff_true,iff_false,dec_t,dec_f,ne_eq,Decidable.not_not] at *))<;>(first|omega|grind))
theorem IndexS_t (e d:Nat) (t:Ty) (fn:FuncId) (p:ByteArray→Bool) (l:List ByteArray) (hl:l.length≤1073741824)
    (hc:∀ x ∈ l,Af Tryz.prog fn [.str fun _=>x,boxT e d fun _=>t] [] (.bool fun _=>p x) []) :
    Af Tryz.prog 40 [.slc .any 1 (fun _=>l.length) (wordsF fun _=>l),.func fn [boxT e d fun _=>t]] [] (.int .i64 fun _=>iI p l) []:=by
  (apply Af.of tF mF [.tmp 4] kp40 [] Tryz.func40 (fun _=>?_);(any_goals ((with_reducible refine wI ?_);cbv;(try dsimp only [nc] at *);(repeat' (with_reducible first|exact aO|exact oN|refine oC ?_ ?_|refine VC.mk rfl ?_ ?_ ?_|(apply Ca.mk<;>intro _)|(apply Cv.mk<;>intro zq<;>(try simp only [nc,cl] at zq)<;>(try simp only [bl,dl] at zq)<;>(revert zq;intro _))|((first|apply xE|apply uE);cbv;(try dsimp only [nc] at *)))))))
  ((all_goals (try (with_reducible ((first|refine rE ?_|refine nE ?_);(focus (cbv;(try dsimp only [nc] at *);(try simp only [wl,nc]);(repeat' (with_reducible apply And.intro));all_goals (try exact wZ)))))));(all_goals (try ((with_reducible rw [aC]);(try simp only [wl,nc]);(repeat' (with_reducible apply And.intro));(all_goals (try exact cZ))))))
  refine .loop (fun i:Nat=>⟨19,[(8,.int .i64 fun _=>i),(7,.int .i64 fun _=>l.length),(1,.func fn [boxT e d fun _=>t]),(0,.slc .any 1 (fun _=>l.length) (wordsF fun _=>l))],[]⟩)
    (fun i=>i≤l.length∧∀ j,j<i→p (l.getD j ⟨#[]⟩)=false) (fun i=>l.length - i) 0 (by simp) ?_ fun i E hi=>?_
  · (focus (cbv;(try dsimp only [nc] at *);(try simp only [wl,nc]);(repeat' (with_reducible apply And.intro));all_goals (try exact wZ)))
  apply AWp.wk tF mF [(4,[(5,.bool (fun _=>?_),[])])] kp40 ?_
  (any_goals ((with_reducible refine wI ?_);cbv;(try dsimp only [nc] at *);(repeat' (with_reducible first|exact aO|exact oN|refine oC ?_ ?_|refine VC.mk rfl ?_ ?_ ?_|(apply Ca.mk<;>intro _)|(apply Cv.mk<;>intro zq<;>(try simp only [nc,cl] at zq)<;>(try simp only [bl,dl] at zq)<;>(revert zq;intro _))|((first|apply xE|apply uE);cbv;(try dsimp only [nc] at *))))))
  (any_goals ((with_reducible refine bZ ?_)<;>exact (hc _ (getD_mem ‹_›))))
  ((all_goals (try (with_reducible ((first|refine rE ?_|refine nE ?_);(focus (cbv;(try dsimp only [nc] at *);(try simp only [wl,nc]);(repeat' (with_reducible apply And.intro));all_goals (try exact wZ)))))));(all_goals (try ((with_reducible rw [aC]);(try simp only [wl,nc]);(repeat' (with_reducible apply And.intro));(all_goals (try exact cZ))))))
  · exact (idxI_at ‹_› ‹_› hi.2).symm
  · refine dE (i+1) ⟨⟨by omega,fun j hj=>?_⟩,by omega⟩ ?_
    · rcases Nat.lt_succ_iff_lt_or_eq.1 hj with hj|rfl
      · exact hi.2 j hj
      · assumption
    · (focus (cbv;(try dsimp only [nc] at *);(try simp only [wl,nc]);(repeat' (with_reducible apply And.intro));all_goals (try exact wZ)))
      exact w64n (by omega)
  · exact (idxI_none fun j hj=>hi.2 j (by omega)).symm
theorem ContainsS_t (e d:Nat) (t:Ty) (fn:FuncId) (p:ByteArray→Bool) (l:List ByteArray) (hl:l.length≤1073741824)
    (hc:∀ x ∈ l,Af Tryz.prog fn [.str fun _=>x,boxT e d fun _=>t] [] (.bool fun _=>p x) []) :
    Af Tryz.prog 108 [.slc .any 1 (fun _=>l.length) (wordsF fun _=>l),.func fn [boxT e d fun _=>t]] [] (.bool fun _=>l.any p) []:=by
  (apply Af.of tF mF [.tmp 4] kp108 [(1,[(2,.int .i64 (fun _=>?_),[])])] Tryz.func108 (fun _=>?_);(any_goals ((with_reducible refine wI ?_);cbv;(try dsimp only [nc] at *);(repeat' (with_reducible first|exact aO|exact oN|refine oC ?_ ?_|refine VC.mk rfl ?_ ?_ ?_|(apply Ca.mk<;>intro _)|(apply Cv.mk<;>intro zq<;>(try simp only [nc,cl] at zq)<;>(try simp only [bl,dl] at zq)<;>(revert zq;intro _))|((first|apply xE|apply uE);cbv;(try dsimp only [nc] at *)))))))
  (any_goals ((with_reducible refine bZ ?_)<;>exact (IndexS_t e d t fn p l hl hc)))
  ((all_goals (try (with_reducible ((first|refine rE ?_|refine nE ?_);(focus (cbv;(try dsimp only [nc] at *);(try simp only [wl,nc]);(repeat' (with_reducible apply And.intro));all_goals (try exact wZ)))))));(all_goals (try ((with_reducible rw [aC]);(try simp only [wl,nc]);(repeat' (with_reducible apply And.intro));(all_goals (try exact cZ))))))
  exact idxI_any
theorem texts1_ok (e d:Nat) (t:Ty) (ht:Ty.le e (d+1) t) (w:ByteArray):Af Tryz.prog 109 [.str fun _=>w,boxT e (d+1) fun _=>t] [] (.bool fun _=>!txtB t w) []:=by
  (apply Af.of tF mF [.tmp 3] kp109 [(1,[(2,.bool fun _=>txtB t w,[])])] Tryz.func109 (fun _=>?_);(any_goals ((with_reducible refine wI ?_);cbv;(try dsimp only [nc] at *);(repeat' (with_reducible first|exact aO|exact oN|refine oC ?_ ?_|refine VC.mk rfl ?_ ?_ ?_|(apply Ca.mk<;>intro _)|(apply Cv.mk<;>intro zq<;>(try simp only [nc,cl] at zq)<;>(try simp only [bl,dl] at zq)<;>(revert zq;intro _))|((first|apply xE|apply uE);cbv;(try dsimp only [nc] at *)))))))
  (any_goals ((with_reducible refine bZ ?_);(try dsimp only);(have q:=(hasW_ok e d t ht w);refine Af.wN q ?_;clear q);(focus (cbv;(try dsimp only [nc] at *);(try simp only [wl,nc]);(repeat' (with_reducible apply And.intro));all_goals (try exact wZ)))))
  ((all_goals (try (with_reducible ((first|refine rE ?_|refine nE ?_);(focus (cbv;(try dsimp only [nc] at *);(try simp only [wl,nc]);(repeat' (with_reducible apply And.intro));all_goals (try exact wZ)))))));(all_goals (try ((with_reducible rw [aC]);(try simp only [wl,nc]);(repeat' (with_reducible apply And.intro));(all_goals (try exact cZ))))))
theorem texts_ok (e d:Nat) (s t:Ty) (hs:Ty.le e (d+1) s) (ht:Ty.le e (d+1) t):Af Tryz.prog 65 [encT e (d+1) .any fun _=>s,encT e (d+1) .any fun _=>t] [] (.bool fun _=>txtsB s t) []:=by
  (apply Af.of tF mF [.tmp 4] kp65 [(0,[(1,.nil,[])]),(2,[(3,.bool fun _=>s.words.any fun w=>!txtB t w,[])]),(4,[(5,.bool fun _=>txtB t ⟨#[]⟩,[])]),(5,[(2,.bool fun _=>bndB s t,[])])] Tryz.func65 (fun _=>?_);(any_goals ((with_reducible refine wI ?_);cbv;(try dsimp only [nc] at *);(repeat' (with_reducible first|exact aO|exact oN|refine oC ?_ ?_|refine VC.mk rfl ?_ ?_ ?_|(apply Ca.mk<;>intro _)|(apply Cv.mk<;>intro zq<;>(try simp only [nc,cl] at zq)<;>(try simp only [bl,dl] at zq)<;>(revert zq;intro _))|((first|apply xE|apply uE);cbv;(try dsimp only [nc] at *)))))))
  (any_goals ((with_reducible refine bZ ?_)<;>exact (ContainsS_t e (d+1) t 109 (fun w=>!txtB t w) s.words hs.1 fun x _=>texts1_ok e d t ht x)))
  (any_goals ((with_reducible refine bZ ?_);(try dsimp only);(have q:=(hasW_ok e d t ht ⟨#[]⟩);refine Af.wN q ?_;clear q);(focus (cbv;(try dsimp only [nc] at *);(try simp only [wl,nc]);(repeat' (with_reducible apply And.intro));all_goals (try exact wZ)))))
  (any_goals ((with_reducible refine bZ ?_);(try dsimp only);(have q:=(bounded_ok e (d+1) s t);refine Af.wN q ?_;clear q);(focus (cbv;(try dsimp only [nc] at *);(try simp only [wl,nc]);(repeat' (with_reducible apply And.intro));all_goals (try exact wZ)))))
  ((all_goals (try (with_reducible ((first|refine rE ?_|refine nE ?_);(focus (cbv;(try dsimp only [nc] at *);(try simp only [wl,nc]);(repeat' (with_reducible apply And.intro));all_goals (try exact wZ)))))));(all_goals (try ((with_reducible rw [aC]);(try simp only [wl,nc]);(repeat' (with_reducible apply And.intro));(all_goals (try exact cZ))))))
  · unfold txtsB;rw [if_pos (show 0<s.words.length by omega)]
  · unfold txtsB;rw [if_neg (show ¬ 0<s.words.length by omega),if_pos (show 0<t.words.length by omega)];((((try simp only [nc,cl] at *)<;>(try rw [Bool.eq_iff_iff]))<;>(try simp only [bl,false_iff,true_iff,iff_true,iff_false,dec_t,dec_f,ne_eq,Decidable.not_not] at *))<;>(first|omega|grind))
  · unfold txtsB;rw [if_neg (show ¬ 0<s.words.length by omega),if_neg (show ¬ 0<t.words.length by omega)]
def namesA (t:Ty):AV:=.kmap (fun _=>t.fields.map fM) fun i=>.int .i64 fun _=>(i ():Int)
theorem RD.int_v {w:World} {D:Nat→Prop} {B:Nat} {k:IntKind} {n:Unit→Int} {v:Value} (h:RD w D B (.int k n) v):v=.int k (n ()):=by cases h;rfl
theorem RD.str_v {w:World} {D:Nat→Prop} {B:Nat} {s:Unit→ByteArray} {v:Value} (h:RD w D B (.str s) v):v=.string (s ()):=by cases h;rfl
theorem RD.slc_v {w:World} {D:Nat→Prop} {B:Nat} {fr:FB} {sz:Nat} {n:Unit→Nat} {f:(Unit→Nat)→List AV} {v:Value} (h:RD w D B (.slc fr sz n f) v):∃ p n cap,v=.slice p n cap:=by
  obtain ⟨p,cap,h,_⟩:=h.slc_inv;exact ⟨p,_,cap,h⟩
theorem nEnts_get {ns:Nat→ByteArray} {n i:Nat} {x:MapEntry} (h:(nEnts ns n)[i]? = some x):i<n∧x={ key:=.string (ns i),val:=.int .i64 i,born:=i }:=by
  unfold nEnts at h
  rw [List.getElem?_toArray,List.getElem?_map] at h
  by_cases hi:i<n
  · rw [List.getElem?_range hi] at h
    simp only [Option.map_some,Option.some.injEq] at h
    exact ⟨hi,h.symm⟩
  · rw [List.getElem?_eq_none (by rw [List.length_range];omega)] at h
    cases h
theorem names_ok (e d:Nat) (t:Ty) (ht:Ty.le e (d+1) t) (hnd:(t.fields.map fM).Nodup):Af Tryz.prog 80 [encT e (d+1) .any fun _=>t] [] (namesA t) []:=by
  refine ⟨ent_of Tryz.func80 rfl rfl,fun E β vs hpin hdf hY h0=>?_⟩
  have hsz:=h0.size
  obtain ⟨v,rfl⟩:∃ v,vs=#[v]:=by
    simp only [List.length_cons,List.length_nil] at hsz
    exact ⟨vs[0],by apply Array.ext<;>simp_all⟩
  have hx:=h0.tmps 0 _ rfl
  simp only [Array.getD,Array.size,List.length_cons,List.length_nil] at hx
  have hx:RX E.w0 (E.D E.w0 β (oL [])) E.B β (oL []) (encT e (d+1) .any fun _=>t) v:=hx
  obtain ⟨us,rfl,hul,hel⟩:=hx.agg_inv
  have hul7:us.size=7:=by rw [← hul];rfl
  obtain ⟨u0,u1,u2,u3,u4,u5,u6,rfl⟩:∃ u0 u1 u2 u3 u4 u5 u6,us=#[u0,u1,u2,u3,u4,u5,u6]:=by
    refine ⟨us[0],us[1],us[2],us[3],us[4],us[5],us[6],?_⟩
    apply Array.ext
    · simp [hul7]
    · intro i h1 h2
      have:i=0∨i=1∨i=2∨i=3∨i=4∨i=5∨i=6:=by omega
      rcases this with rfl|rfl|rfl|rfl|rfl|rfl|rfl<;>rfl
  have hf:RD E.w0 (E.D E.w0 β (oL [])) E.B (.slc .any 11 (fun _=>t.fields.length) (subT e (d+1) .any (fun _=>t) false)) u6:=(hel 6 _ u6 rfl rfl).slc_inv
  have hfl:=ht.2.2.2.1
  have hraw:∃ (p:Option Addr) (b o cap:Nat) (c:Nat→Nat→Value),u6=.slice p t.fields.length cap∧t.fields.length≤cap∧(0<t.fields.length→p=some ⟨b,o,none⟩) ∧
      (∀ i j,i<t.fields.length→j<11→E.w0.cell? ⟨b,o+i * 11+j,none⟩=some (c i j))∧(0<t.fields.length→b<E.w0.heap.size) ∧
      ∀ i,i<t.fields.length→∃ a0 a2 a3 a4 a5 a6 p7 n7 k7 p8 n8 k8 p9 n9 k9 p10 n10 k10,c i 0=.int .i64 a0∧c i 1=.string (fM (t.fields.getD i default))∧c i 2=.int .i64 a2∧c i 3=.int .i64 a3∧c i 4=.int .i64 a4∧c i 5=.int .i64 a5∧c i 6=.int .i64 a6∧c i 7=.slice p7 n7 k7∧c i 8=.slice p8 n8 k8∧c i 9=.slice p9 n9 k9∧c i 10=.slice p10 n10 k10:=by
    cases hf with
    | empty _ _ _ _ p cap hn hc =>
      have hn:t.fields.length=0:=hn
      exact ⟨p,0,0,cap,fun _ _=>undef,by rw [hn],by omega,fun h=>by omega,fun i j h=>by omega,fun h=>by omega,fun i h=>by omega⟩
    | slc _ _ _ _ b o cap c hn hc hD hB hcell hlen hone hce =>
      refine ⟨_,b,o,cap,fun i j=>c (i * 11+j),rfl,hn,fun _=>rfl,fun i j hi hj=>?_,fun hp=>?_,fun i hi=>?_⟩
      · rw [Nat.add_assoc];exact hcell _ (show i * 11+j<t.fields.length * 11 by omega)
      · have:=cell_lt (hcell 0 (show 0<t.fields.length * 11 by omega));exact this
      · have q:=fun j av (h:(subT e (d+1) .any (fun _=>t) false fun _=>i)[j]? = some av)=>hce i j av hi h
        obtain ⟨p7,n7,k7,h7⟩:=(q 7 _ rfl).slc_v
        obtain ⟨p8,n8,k8,h8⟩:=(q 8 _ rfl).slc_v
        obtain ⟨p9,n9,k9,h9⟩:=(q 9 _ rfl).slc_v
        obtain ⟨p10,n10,k10,h10⟩:=(q 10 _ rfl).slc_v
        exact ⟨_,_,_,_,_,_,p7,n7,k7,p8,n8,k8,p9,n9,k9,p10,n10,k10,(q 0 _ rfl).int_v,(q 1 _ rfl).str_v,(q 2 _ rfl).int_v,(q 3 _ rfl).int_v,(q 4 _ rfl).int_v,(q 5 _ rfl).int_v,(q 6 _ rfl).int_v,h7,h8,h9,h10⟩
  obtain ⟨p,b,o,cap,c,rfl,hnc,hp,hcell,hb,hs⟩:=hraw
  have hd:∀ i j,i<j→j<t.fields.length→fM (t.fields.getD i default)≠fM (t.fields.getD j default):=fun i j hij hj h=>by
    have hij':=(List.pairwise_iff_getElem.1 hnd) i j (by simp;omega) (by simpa using hj) hij
    simp only [List.getElem_map] at hij'
    rw [show t.fields.getD i default=t.fields[i] by simp [List.getD,show i<t.fields.length by omega],show t.fields.getD j default=t.fields[j] by simp [List.getD,hj]] at h
    exact hij' h
  refine (names_raw E.w0 u0 u1 u2 u3 u4 u5 p b o t.fields.length cap (fun i=>fM (t.fields.getD i default)) c hfl hnc hp hcell hb hs hd).mono fun en w' ⟨h,he,hw,hm,hhs,hold⟩=>⟨_,β,he,?_,fun o hi=>hi.elim⟩
  subst hw
  have hmb:E.w0.heap.size+1<h.size:=(Array.getElem?_eq_some_iff.1 hm).1
  refine ⟨hdf.symm,rfl,fun k av hk=>?_,fun o=>trivial,fun o o' b _ hi=>hi.elim,⟨rfl,rfl,rfl,hhs,fun b hb _=>hold b hb⟩,fun o u n0 hp=>by rw [hpin o] at hp;cases hp⟩
  cases k with
  | zero =>
    simp at hk;subst hk
    refine .d (.kmap _ _ (E.w0.heap.size+1) _ _ ⟨.inr (.inr (show E.w0.heap.size≤_ by omega)),hmb,fun o hi=>hi.elim⟩ hm ?_ (fun i k' e' h1 h2=>?_) fun i e' h2=>?_)
    · simp [nEnts]
    · obtain ⟨hi,rfl⟩:=nEnts_get h2
      rw [List.getElem?_map,List.getElem?_eq_getElem hi] at h1
      simp only [Option.map_some,Option.some.injEq] at h1
      rw [← h1]
      simp [List.getD,hi]
    · obtain ⟨hi,rfl⟩:=nEnts_get h2
      exact .int _ _
  | succ k=>simp at hk
end Go.Ai
