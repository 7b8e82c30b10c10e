/- Functions of plain numbers, Booleans and strings: contracts of the kit's, as contracts of the abstract machine. -/
import Derived.Test.YtalghhdapjmbbaaGreatDoorEngC
import Derived.Test.YtalghhdapjmbbaaGreatDoorFnC
import Derived.Test.YtalghhdapjmbbaaGreatDoorShelf
set_option linter.all false
namespace Go.Ai
open Go
def scal:AV→Option Value
  | .int k n=>some (.int k (n ()))
  | .bool b=>some (.bool (b ()))
  | .str s=>some (.string (s ()))
  | _=>none
theorem scal_inv {w:World} {D:Nat→Prop} {B:Nat} {β:Nat→Value} {H:Nat→AO} {av:AV} {v u:Value} (h:scal av=some v) (hx:RX w D B β H av u):u=v:=by
  cases av<;>simp [scal] at h
  · rw [hx.int_inv,h]
  · rw [hx.bool_inv,h]
  · rw [hx.str_inv,h]
theorem scal_rd {w:World} {D:Nat→Prop} {B:Nat} {av:AV} {v:Value} (h:scal av=some v):RD w D B av v:=by
  cases av<;>simp [scal] at h<;>subst h
  · exact .int _ _
  · exact .bool _
  · exact .str _
theorem Af.pure {P:Program} {f:FuncId} {args:List AV} {vals:Array Value} {res:AV} {v:Value} {fn:Func} {c:Code} (hf:P.funcs[f]? = some fn) (ha:args.map scal=vals.toList.map some) (hr:scal res=some v)
    (h : ∀ w, Calls P f vals w fun e w' => e = .returned v ∧ w' = w) (hname : (fn.name == "runtime.NumGoroutine") = false := by rfl) (hb : fn.body = some c := by rfl) : Af P f args [] res [] := by
  refine ⟨ent_of hf hname hb,fun E β vs hpin hdf hY h0=>?_⟩
  have hlen:args.length=vals.size:=by simpa using congrArg List.length ha
  have hvs:vs=vals:=by
    refine Array.ext ?_ fun i h1 h2=>?_
    · have:=h0.size;simp only at this;omega
    · have hi:i<args.length:=by omega
      have h3:=h0.tmps i args[i] (List.getElem?_eq_getElem hi)
      have h4:=congrArg (fun l=>l[i]?) ha
      simp only [List.getElem?_map,List.getElem?_eq_getElem hi,Option.map_some] at h4
      have h5:vals.toList[i]? = some vals[i]:=by simp [h2]
      rw [h5] at h4
      simp only [Option.map_some,Option.some.injEq] at h4
      have:=scal_inv h4 h3
      simpa [Array.getD,h1] using this
  subst hvs
  refine (h E.w0).mono fun e w' ⟨he,hw⟩=>⟨v,β,he,?_,fun o hi=>hi.elim⟩
  subst hw
  refine ⟨hdf.symm,rfl,fun t av ht=>?_,fun o=>trivial,fun o o' b _ hi=>hi.elim,h0.frame,fun o u n0 hp=>by rw [hpin o] at hp;cases hp⟩
  cases t with
  | zero=>simp at ht;subst ht;exact .d (scal_rd hr)
  | succ t=>simp at ht
end Go.Ai

namespace Go.Ai
open Go Go.Proofs
set_option maxRecDepth 100000
set_option maxHeartbeats 2000000
def cmpS (a b:ByteArray):Int:=Lib.compareBytes a.data.toList b.data.toList
def cmpI (x y:Int):Int:=if x<y then -1 else if y<x then 1 else 0
theorem strCompare_ok (a b:ByteArray):Af Tryz.prog 127 [.str fun _=>a,.str fun _=>b] [] (.int .i64 fun _=>cmpS a b) [] :=
  Af.pure (vals:=#[.string a,.string b]) Tryz.func127 rfl rfl (Tryz.strings_Compare a b)
theorem isNaN_ok (n:Int):Af Tryz.prog 192 [.int .i64 fun _=>n] [] (.bool fun _=>false) []:=by
  (apply Af.of tF mF [.tmp 2] kp192 [] Tryz.func192 (fun _=>?_);(any_goals ((with_reducible refine wI ?_);cbv;(try dsimp only [nc] at *);(repeat' (with_reducible first|exact aO|exact oN|refine oC ?_ ?_|refine VC.mk rfl ?_ ?_ ?_|(apply Ca.mk<;>intro _)|(apply Cv.mk<;>intro zq<;>(try simp only [nc,cl] at zq)<;>(try simp only [bl,dl] at zq)<;>(revert zq;intro _))|((first|apply xE|apply uE);cbv;(try dsimp only [nc] at *)))))))
  ((all_goals (try (with_reducible ((first|refine rE ?_|refine nE ?_);(focus (cbv;(try dsimp only [nc] at *);(try simp only [wl,nc]);(repeat' (with_reducible apply And.intro));all_goals (try exact wZ)))))));(all_goals (try ((with_reducible rw [aC]);(try simp only [wl,nc]);(repeat' (with_reducible apply And.intro));(all_goals (try exact cZ))))))
  ((((try simp only [nc,cl] at *)<;>(try rw [Bool.eq_iff_iff]))<;>(try simp only [bl,false_iff,true_iff,iff_true,iff_false,dec_t,dec_f,ne_eq,Decidable.not_not] at *))<;>(first|omega|grind))
theorem cmpCompare_ok (x y:Int):Af Tryz.prog 152 [.int .i64 fun _=>x,.int .i64 fun _=>y] [] (.int .i64 fun _=>cmpI x y) []:=by
  (apply Af.of tF mF [.tmp 4] kp152 [(1,[(1,.bool (fun _=>?_),[])]),(2,[(1,.bool (fun _=>?_),[])])] Tryz.func152 (fun _=>?_);(any_goals ((with_reducible refine wI ?_);cbv;(try dsimp only [nc] at *);(repeat' (with_reducible first|exact aO|exact oN|refine oC ?_ ?_|refine VC.mk rfl ?_ ?_ ?_|(apply Ca.mk<;>intro _)|(apply Cv.mk<;>intro zq<;>(try simp only [nc,cl] at zq)<;>(try simp only [bl,dl] at zq)<;>(revert zq;intro _))|((first|apply xE|apply uE);cbv;(try dsimp only [nc] at *)))))))
  (any_goals ((with_reducible refine bZ ?_)<;>exact (isNaN_ok _)))
  ((all_goals (try (with_reducible ((first|refine rE ?_|refine nE ?_);(focus (cbv;(try dsimp only [nc] at *);(try simp only [wl,nc]);(repeat' (with_reducible apply And.intro));all_goals (try exact wZ)))))));(all_goals (try ((with_reducible rw [aC]);(try simp only [wl,nc]);(repeat' (with_reducible apply And.intro));(all_goals (try exact cZ))))))
  all_goals (try simp only [cmpI]);((try simp only [nc,cl] at *)<;>grind)
theorem sign_ok (x y:Int):Af Tryz.prog 82 [.int .i64 fun _=>x,.int .i64 fun _=>y] [] (.int .i64 fun _=>cmpI x y) []:=by
  (apply Af.of tF mF [.tmp 4] kp82 [] Tryz.func82 (fun _=>?_);(any_goals ((with_reducible refine wI ?_);cbv;(try dsimp only [nc] at *);(repeat' (with_reducible first|exact aO|exact oN|refine oC ?_ ?_|refine VC.mk rfl ?_ ?_ ?_|(apply Ca.mk<;>intro _)|(apply Cv.mk<;>intro zq<;>(try simp only [nc,cl] at zq)<;>(try simp only [bl,dl] at zq)<;>(revert zq;intro _))|((first|apply xE|apply uE);cbv;(try dsimp only [nc] at *)))))))
  ((all_goals (try (with_reducible ((first|refine rE ?_|refine nE ?_);(focus (cbv;(try dsimp only [nc] at *);(try simp only [wl,nc]);(repeat' (with_reducible apply And.intro));all_goals (try exact wZ)))))));(all_goals (try ((with_reducible rw [aC]);(try simp only [wl,nc]);(repeat' (with_reducible apply And.intro));(all_goals (try exact cZ))))))
  all_goals (try simp only [cmpI]);((try simp only [nc,cl] at *)<;>grind)
def firstL:List Int→Int
  | []=>0
  | a :: r=>if a≠0 then a else firstL r
theorem firstL_snoc (a:Int):∀ l:List Int,firstL (l++[a])=if firstL l≠0 then firstL l else a
  | []=>by
    simp only [List.nil_append,firstL]
    by_cases h:a=0
    · simp [h]
    · simp [h]
  | b :: r=>by
    simp only [List.cons_append,firstL,firstL_snoc a r]
    split<;>simp_all
theorem firstI_list (l:List Int):fI (fun i=>l.getD i 0) l.length=firstL l:=by
  have:∀ k,k≤l.length→fI (fun i=>l.getD i 0) k=firstL (l.take k):=by
    intro k
    induction k with
    | zero=>intro _;simp [fI,firstL]
    | succ k ih =>
      intro hk
      have hg:l.getD k 0=l[k]:=by simp [List.getD,show k<l.length by omega]
      rw [List.take_succ_eq_append_getElem (by omega),firstL_snoc,← ih (by omega),← hg]
      rfl
  simpa using this l.length (Nat.le_refl _)
def lexC {α β:Type} (c:α→β→Int):List α→List β→Int
  | [],[]=>0
  | [],_ :: _ => -1
  | _ :: _,[]=>1
  | a :: l,b :: m=>if c a b≠0 then c a b else lexC c l m
theorem lexC_drop {α β:Type} {c:α→β→Int} {l:List α} {m:List β} {i:Nat} (h1:i<l.length) (h2:i<m.length) (da:α) (db:β) :
    lexC c (l.drop i) (m.drop i)=if c (l.getD i da) (m.getD i db)≠0 then c (l.getD i da) (m.getD i db) else lexC c (l.drop (i+1)) (m.drop (i+1)):=by
  rw [List.drop_eq_getElem_cons h1,List.drop_eq_getElem_cons h2]
  simp only [lexC,List.getD,List.getElem?_eq_getElem h1,List.getElem?_eq_getElem h2,Option.getD_some]
theorem lexC_long {α β:Type} {c:α→β→Int} {l:List α} {m:List β} {i:Nat} (h1:i<l.length) (h2:m.length≤i):lexC c (l.drop i) (m.drop i)=1:=by
  rw [List.drop_eq_getElem_cons h1,List.drop_eq_nil_iff.2 h2];rfl
theorem lexC_end {α β:Type} {c:α→β→Int} {l:List α} {m:List β} {i:Nat} (h1:l.length≤i) (hi:i≤m.length) (hl:i=l.length):lexC c (l.drop i) (m.drop i)=if l.length<m.length then -1 else 0:=by
  rw [List.drop_eq_nil_iff.2 h1]
  by_cases h:i<m.length
  · rw [List.drop_eq_getElem_cons h,if_pos (by omega)];rfl
  · rw [List.drop_eq_nil_iff.2 (by omega),if_neg (by omega)];rfl
def rowF (d:Nat) (x:ByteArray×V):List AV:=.str (fun _=>x.1) :: cells d .any fun _=>x.2
def cmpFd (c:V→V→Int) (x y:ByteArray×V):Int:=firstL [cmpS x.1 y.1,c x.2 y.2]
def cmpV:Nat→V→V→Int
  | 0,_,_=>0
  | d+1,a,b=>firstL [cmpI a.kind b.kind,cmpI a.int b.int,cmpI a.scale b.scale,cmpS a.text b.text,lexC (cmpV d) a.list b.list,lexC (cmpFd (cmpV d)) a.fields b.fields]
def iI {α:Type} (p:α→Bool) (l:List α):Int:=if l.findIdx p<l.length then (l.findIdx p:Int) else -1
theorem idxI_at {α:Type} {p:α→Bool} {l:List α} {i:Nat} {df:α} (hi:i<l.length) (h:p (l.getD i df)=true) (h0:∀ j,j<i→p (l.getD j df)=false):iI p l=i:=by
  have hg:∀ j (hj:j<l.length),l.getD j df=l[j]:=fun j hj=>by simp [List.getD,hj]
  have:l.findIdx p=i:=by
    rw [List.findIdx_eq hi]
    refine ⟨by rw [← hg i hi];exact h,fun j hj=>by rw [← hg j (by omega)];exact h0 j hj⟩
  simp only [iI,this,if_pos hi]
theorem idxI_none {α:Type} {p:α→Bool} {l:List α} {df:α} (h0:∀ j,j<l.length→p (l.getD j df)=false):iI p l = -1:=by
  unfold iI
  rw [if_neg]
  intro h
  have:=List.findIdx_getElem (w:=h) (p:=p)
  have h2:=h0 _ h
  rw [show l.getD (l.findIdx p) df=l[l.findIdx p] by simp [List.getD,h]] at h2
  rw [h2] at this;cases this
abbrev capP:Nat:=1001001000
theorem IndexFuncS_ok (d:Nat) (fn:FuncId) (p:ByteArray×V→Bool) (l:List (ByteArray×V)) (s:ByteArray) (hl:l.length≤1073741824)
    (hc:∀ x ∈ l,Af Tryz.prog fn [.agg (rowF d x),.ptr 1001 0] [(1001,.box [.str fun _=>s])] (.bool fun _=>p x) [(1001,.box [.str fun _=>s])]) :
    Af Tryz.prog 148 [slcF d .any fun _=>l,.func fn [.ptr capP 0]] [(capP,.box [.str fun _=>s])] (.int .i64 fun _=>iI p l) [(capP,.box [.str fun _=>s])]:=by
  (apply Af.of tF mF [.tmp 4] kp148 [] Tryz.func148 (fun _=>?_);(any_goals ((with_reducible refine wI ?_);cbv;(try dsimp only [nc] at *);(repeat' (with_reducible first|exact aO|exact oN|refine oC ?_ ?_|refine VC.mk rfl ?_ ?_ ?_|(apply Ca.mk<;>intro _)|(apply Cv.mk<;>intro zq<;>(try simp only [nc,cl] at zq)<;>(try simp only [bl,dl] at zq)<;>(revert zq;intro _))|((first|apply xE|apply uE);cbv;(try dsimp only [nc] at *)))))))
  ((all_goals (try (with_reducible ((first|refine rE ?_|refine nE ?_);(focus (cbv;(try dsimp only [nc] at *);(try simp only [wl,nc]);(repeat' (with_reducible apply And.intro));all_goals (try exact wZ)))))));(all_goals (try ((with_reducible rw [aC]);(try simp only [wl,nc]);(repeat' (with_reducible apply And.intro));(all_goals (try exact cZ))))))
  refine .loop (fun i:Nat=>⟨19,[(8,.int .i64 fun _=>i),(7,.int .i64 fun _=>l.length),(1,.func fn [.ptr capP 0]),(0,slcF d .any fun _=>l)],[(capP,.box [.str fun _=>s])]⟩)
    (fun i=>i≤l.length∧∀ j,j<i→p (l.getD j default)=false) (fun i=>l.length - i) 0 (by simp) ?_ fun i E hi=>?_
  · (focus (cbv;(try dsimp only [nc] at *);(try simp only [wl,nc]);(repeat' (with_reducible apply And.intro));all_goals (try exact wZ)))
  apply AWp.wk tF mF [(4,[(5,.bool (fun _=>?_),[(1001,.box [.str fun _=>s])])])] kp148 ?_
  (any_goals ((with_reducible refine wI ?_);cbv;(try dsimp only [nc] at *);(repeat' (with_reducible first|exact aO|exact oN|refine oC ?_ ?_|refine VC.mk rfl ?_ ?_ ?_|(apply Ca.mk<;>intro _)|(apply Cv.mk<;>intro zq<;>(try simp only [nc,cl] at zq)<;>(try simp only [bl,dl] at zq)<;>(revert zq;intro _))|((first|apply xE|apply uE);cbv;(try dsimp only [nc] at *))))))
  (any_goals ((with_reducible refine bZ ?_)<;>exact (hc _ (getD_mem ‹_›))))
  ((all_goals (try (with_reducible ((first|refine rE ?_|refine nE ?_);(focus (cbv;(try dsimp only [nc] at *);(try simp only [wl,nc]);(repeat' (with_reducible apply And.intro));all_goals (try exact wZ)))))));(all_goals (try ((with_reducible rw [aC]);(try simp only [wl,nc]);(repeat' (with_reducible apply And.intro));(all_goals (try exact cZ))))))
  · exact (idxI_at ‹_› ‹_› hi.2).symm
  · refine dE (i+1) ⟨⟨by omega,fun j hj=>?_⟩,by omega⟩ ?_
    · rcases Nat.lt_succ_iff_lt_or_eq.1 hj with hj|rfl
      · exact hi.2 j hj
      · assumption
    · (focus (cbv;(try dsimp only [nc] at *);(try simp only [wl,nc]);(repeat' (with_reducible apply And.intro));all_goals (try exact wZ)))
      exact w64n (by omega)
  · exact (idxI_none fun j hj=>hi.2 j (by omega)).symm
theorem IndexFuncR_ok (d:Nat) (fn:FuncId) (p:ByteArray×V→Bool) (l:List (ByteArray×V)) (y:ByteArray×V) (hl:l.length≤1073741824)
    (hc:∀ x ∈ l,Af Tryz.prog fn [.agg (rowF d x),.ptr 1001 0] [(1001,.box (rowF d y))] (.bool fun _=>p x) [(1001,.box (rowF d y))]) :
    Af Tryz.prog 148 [slcF d .any fun _=>l,.func fn [.ptr capP 0]] [(capP,.box (rowF d y))] (.int .i64 fun _=>iI p l) [(capP,.box (rowF d y))]:=by
  (apply Af.of tF mF [.tmp 4] kp148 [] Tryz.func148 (fun _=>?_);(any_goals ((with_reducible refine wI ?_);cbv;(try dsimp only [nc] at *);(repeat' (with_reducible first|exact aO|exact oN|refine oC ?_ ?_|refine VC.mk rfl ?_ ?_ ?_|(apply Ca.mk<;>intro _)|(apply Cv.mk<;>intro zq<;>(try simp only [nc,cl] at zq)<;>(try simp only [bl,dl] at zq)<;>(revert zq;intro _))|((first|apply xE|apply uE);cbv;(try dsimp only [nc] at *)))))))
  ((all_goals (try (with_reducible ((first|refine rE ?_|refine nE ?_);(focus (cbv;(try dsimp only [nc] at *);(try simp only [wl,nc]);(repeat' (with_reducible apply And.intro));all_goals (try exact wZ)))))));(all_goals (try ((with_reducible rw [aC]);(try simp only [wl,nc]);(repeat' (with_reducible apply And.intro));(all_goals (try exact cZ))))))
  refine .loop (fun i:Nat=>⟨19,[(8,.int .i64 fun _=>i),(7,.int .i64 fun _=>l.length),(1,.func fn [.ptr capP 0]),(0,slcF d .any fun _=>l)],[(capP,.box (rowF d y))]⟩)
    (fun i=>i≤l.length∧∀ j,j<i→p (l.getD j default)=false) (fun i=>l.length - i) 0 (by simp) ?_ fun i E hi=>?_
  · (focus (cbv;(try dsimp only [nc] at *);(try simp only [wl,nc]);(repeat' (with_reducible apply And.intro));all_goals (try exact wZ)))
  apply AWp.wk tF mF [(4,[(5,.bool (fun _=>?_),[(1001,.box (rowF d y))])])] kp148 ?_
  (any_goals ((with_reducible refine wI ?_);cbv;(try dsimp only [nc] at *);(repeat' (with_reducible first|exact aO|exact oN|refine oC ?_ ?_|refine VC.mk rfl ?_ ?_ ?_|(apply Ca.mk<;>intro _)|(apply Cv.mk<;>intro zq<;>(try simp only [nc,cl] at zq)<;>(try simp only [bl,dl] at zq)<;>(revert zq;intro _))|((first|apply xE|apply uE);cbv;(try dsimp only [nc] at *))))))
  (any_goals ((with_reducible refine bZ ?_)<;>exact (hc _ (getD_mem ‹_›))))
  ((all_goals (try (with_reducible ((first|refine rE ?_|refine nE ?_);(focus (cbv;(try dsimp only [nc] at *);(try simp only [wl,nc]);(repeat' (with_reducible apply And.intro));all_goals (try exact wZ)))))));(all_goals (try ((with_reducible rw [aC]);(try simp only [wl,nc]);(repeat' (with_reducible apply And.intro));(all_goals (try exact cZ))))))
  · exact (idxI_at ‹_› ‹_› hi.2).symm
  · refine dE (i+1) ⟨⟨by omega,fun j hj=>?_⟩,by omega⟩ ?_
    · rcases Nat.lt_succ_iff_lt_or_eq.1 hj with hj|rfl
      · exact hi.2 j hj
      · assumption
    · (focus (cbv;(try dsimp only [nc] at *);(try simp only [wl,nc]);(repeat' (with_reducible apply And.intro));all_goals (try exact wZ)))
      exact w64n (by omega)
  · exact (idxI_none fun j hj=>hi.2 j (by omega)).symm
theorem index1_ok (d:Nat) (x:ByteArray×V) (s:ByteArray):Af Tryz.prog 221 [.agg (rowF d x),.ptr 1001 0] [(1001,.box [.str fun _=>s])] (.bool fun _=>decide (x.1=s)) [(1001,.box [.str fun _=>s])]:=by
  (apply Af.of tF mF [.tmp 3] kp221 [] Tryz.func221 (fun _=>?_);(any_goals ((with_reducible refine wI ?_);cbv;(try dsimp only [nc] at *);(repeat' (with_reducible first|exact aO|exact oN|refine oC ?_ ?_|refine VC.mk rfl ?_ ?_ ?_|(apply Ca.mk<;>intro _)|(apply Cv.mk<;>intro zq<;>(try simp only [nc,cl] at zq)<;>(try simp only [bl,dl] at zq)<;>(revert zq;intro _))|((first|apply xE|apply uE);cbv;(try dsimp only [nc] at *)))))))
  ((all_goals (try (with_reducible ((first|refine rE ?_|refine nE ?_);(focus (cbv;(try dsimp only [nc] at *);(try simp only [wl,nc]);(repeat' (with_reducible apply And.intro));all_goals (try exact wZ)))))));(all_goals (try ((with_reducible rw [aC]);(try simp only [wl,nc]);(repeat' (with_reducible apply And.intro));(all_goals (try exact cZ))))))
theorem Record1_ok (d:Nat) (x y:ByteArray×V):Af Tryz.prog 123 [.agg (rowF d x),.ptr 1001 0] [(1001,.box (rowF d y))] (.bool fun _=>decide (x.1=y.1) && !isNull x.2) [(1001,.box (rowF d y))]:=by
  (apply Af.of tF mF [.tmp 3] kp123 [(1,[(8,.bool (fun _=>?_),[])])] Tryz.func123 (fun _=>?_);(any_goals ((with_reducible refine wI ?_);cbv;(try dsimp only [nc] at *);(repeat' (with_reducible first|exact aO|exact oN|refine oC ?_ ?_|refine VC.mk rfl ?_ ?_ ?_|(apply Ca.mk<;>intro _)|(apply Cv.mk<;>intro zq<;>(try simp only [nc,cl] at zq)<;>(try simp only [bl,dl] at zq)<;>(revert zq;intro _))|((first|apply xE|apply uE);cbv;(try dsimp only [nc] at *)))))))
  (any_goals ((with_reducible refine bZ ?_)<;>exact (IsNull_ok _ _)))
  ((all_goals (try (with_reducible ((first|refine rE ?_|refine nE ?_);(focus (cbv;(try dsimp only [nc] at *);(try simp only [wl,nc]);(repeat' (with_reducible apply And.intro));all_goals (try exact wZ)))))));(all_goals (try ((with_reducible rw [aC]);(try simp only [wl,nc]);(repeat' (with_reducible apply And.intro));(all_goals (try exact cZ))))))
  ((((try simp only [nc,cl] at *)<;>(try rw [Bool.eq_iff_iff]))<;>(try simp only [bl,false_iff,true_iff,iff_true,iff_false,dec_t,dec_f,ne_eq,Decidable.not_not] at *))<;>(first|omega|grind))
def findI (v:V) (s:ByteArray):Int:=iI (fun x:ByteArray×V=>decide (x.1=s)) v.fields
theorem index_ok (d:Nat) (v:V) (s:ByteArray) (h:v.fields.length≤1073741824):Af Tryz.prog 216 [encV (d+1) .any fun _=>v,.str fun _=>s] [] (.int .i64 fun _=>findI v s) []:=by
  (apply Af.of tF mF [.tmp 4] kp216 [(1,[(3,.int .i64 (fun _=>?_),[(capP,.box [.str fun _=>s])])])] Tryz.func216 (fun _=>?_);(any_goals ((with_reducible refine wI ?_);cbv;(try dsimp only [nc] at *);(repeat' (with_reducible first|exact aO|exact oN|refine oC ?_ ?_|refine VC.mk rfl ?_ ?_ ?_|(apply Ca.mk<;>intro _)|(apply Cv.mk<;>intro zq<;>(try simp only [nc,cl] at zq)<;>(try simp only [bl,dl] at zq)<;>(revert zq;intro _))|((first|apply xE|apply uE);cbv;(try dsimp only [nc] at *)))))))
  (any_goals ((with_reducible refine bZ ?_)<;>exact (IndexFuncS_ok d 221 (fun x=>decide (x.1=s)) v.fields s h fun x _=>index1_ok d x s)))
  ((all_goals (try (with_reducible ((first|refine rE ?_|refine nE ?_);(focus (cbv;(try dsimp only [nc] at *);(try simp only [wl,nc]);(repeat' (with_reducible apply And.intro));all_goals (try exact wZ)))))));(all_goals (try ((with_reducible rw [aC]);(try simp only [wl,nc]);(repeat' (with_reducible apply And.intro));(all_goals (try exact cZ))))))
  rfl
theorem idxI_lt {α:Type} {p:α→Bool} {l:List α}:iI p l<l.length:=by
  unfold iI;split<;>omega
def hasF (v:V) (s:ByteArray):Prop:=v.kind=9∧0≤findI v s
instance (v:V) (s:ByteArray):Decidable (hasF v s):=inferInstanceAs (Decidable (_∧_))
def fieldV (v:V) (s:ByteArray):V:=(v.fields.getD (findI v s).toNat default).2
theorem Field_no (d:Nat) (v:V) (hv:V.le (d+1) v) (s:ByteArray) (h:¬ hasF v s):Af Tryz.prog 181 [encV (d+1) .any fun _=>v,.str fun _=>s] []
    (.tup [encV d .new fun _=>default,.bool fun _=>false]) []:=by
  (apply Af.of tF mF [.cell 4 33,.tmp 5] kp181 [(1,[(2,.int .i64 (fun _=>?_),[])]),(4,[(6,encV d .new fun _=>?_,[])])] Tryz.func181 (fun _=>?_);(any_goals ((with_reducible refine wI ?_);cbv;(try dsimp only [nc] at *);(repeat' (with_reducible first|exact aO|exact oN|refine oC ?_ ?_|refine VC.mk rfl ?_ ?_ ?_|(apply Ca.mk<;>intro _)|(apply Cv.mk<;>intro zq<;>(try simp only [nc,cl] at zq)<;>(try simp only [bl,dl] at zq)<;>(revert zq;intro _))|((first|apply xE|apply uE);cbv;(try dsimp only [nc] at *)))))))
  (any_goals ((with_reducible refine bZ ?_)<;>exact (index_ok d v s hv.2.1)))
  (all_goals (try simp only [dec_t,dec_f,Int.not_lt,Int.not_le] at *))
  all_goals (try exact absurd (‹v.kind=9∧0≤findI v s›:_∧_) h)
  ((all_goals (try (with_reducible ((first|refine rE ?_|refine nE ?_);(focus (cbv;(try dsimp only [nc] at *);(try simp only [wl,nc]);(repeat' (with_reducible apply And.intro));all_goals (try exact wZ)))))));(all_goals (try ((with_reducible rw [aC]);(try simp only [wl,nc]);(repeat' (with_reducible apply And.intro));(all_goals (try exact cZ))))))
  all_goals first|rfl|exact default
theorem Field_yes (d:Nat) (v:V) (hv:V.le (d+1) v) (s:ByteArray) (h:hasF v s):Af Tryz.prog 181 [encV (d+1) .any fun _=>v,.str fun _=>s] []
    (.tup [encV d .new fun _=>fieldV v s,.bool fun _=>true]) []:=by
  have hlt:findI v s<v.fields.length:=idxI_lt
  have h1:=h.1
  have h2:=h.2
  have hx:V.le d (fieldV v s):=V.le_field hv (by omega)
  (apply Af.of tF mF [.cell 4 33,.tmp 5] kp181 [(1,[(2,.int .i64 (fun _=>?_),[])]),(4,[(6,encV d .new fun _=>?_,[])])] Tryz.func181 (fun _=>?_);(any_goals ((with_reducible refine wI ?_);cbv;(try dsimp only [nc] at *);(repeat' (with_reducible first|exact aO|exact oN|refine oC ?_ ?_|refine VC.mk rfl ?_ ?_ ?_|(apply Ca.mk<;>intro _)|(apply Cv.mk<;>intro zq<;>(try simp only [nc,cl] at zq)<;>(try simp only [bl,dl] at zq)<;>(revert zq;intro _))|((first|apply xE|apply uE);cbv;(try dsimp only [nc] at *)))))))
  (any_goals ((with_reducible refine bZ ?_)<;>exact (index_ok d v s hv.2.1)))
  (any_goals ((with_reducible refine bZ ?_)<;>exact (Clone_ok d _ hx)))
  (all_goals (try simp only [dec_t,dec_f,Int.not_lt,Int.not_le] at *))
  all_goals (try exact absurd (‹¬v.kind=9∨findI v s<0›:_∨_) (by omega))
  ((all_goals (try (with_reducible ((first|refine rE ?_|refine nE ?_);(focus (cbv;(try dsimp only [nc] at *);(try simp only [wl,nc]);(repeat' (with_reducible apply And.intro));all_goals (try exact wZ)))))));(all_goals (try ((with_reducible rw [aC]);(try simp only [wl,nc]);(repeat' (with_reducible apply And.intro));(all_goals (try exact cZ))))))
end Go.Ai

namespace Go.Ai
open Go
def NF (av:AV):Prop:=∀ (w:World) (D:Nat→Prop) (B B':Nat) (v:Value),RD w D B av v→RD w D B' av v
def FreshR (av:AV):Prop:=∀ (w:World) (D:Nat→Prop) (B:Nat) (v:Value),RD w D B av v→RD w (fun b=>D b∧B≤b) B av v
theorem Link.refl (H:Nat→AO) (β:Nat→Value):Link H β H β:=fun o hi =>
  ⟨hi,fun cs h=>⟨⟨cs,h⟩,rfl⟩,fun x t sz ver n f h=>⟨ver,n,f,h,.inl ⟨rfl,rfl,rfl⟩⟩⟩
theorem Af.borrow {P:Program} {f:FuncId} {args args':List AV} {objs:List (Nat×AO)} {res:AV} (h:Af P f args' [] res []) (hw:weakVC ⟨args,objs⟩ ⟨args',[]⟩)
    (hp:AV.pureL args'=true) (hnf:∀ av ∈ args',NF av) (hpr:AV.pureL [res]=true) (hfr:FreshR res):Af P f args objs res objs:=by
  refine ⟨h.ent,fun E β vs hpin hdf hY h0=>?_⟩
  have h1:=weakB_of hw E ⟨vs,[]⟩ E.w0 β h0
  let E2:Env:={ w0:=E.w0,B:=E.N,D0:=fun b=>b<E.N,X:=fun _=>False,pin:=E.pin,hpin:=E.hpin,Y:=fun _=>False,df:=[],hB:=Nat.le_refl _,hD:=fun b hb=>⟨hb,fun q=>q⟩,hX:=fun b q=>q.elim,hY:=fun b q=>q.elim,hdf:=fun d hd=>(by cases hd),hT:=E.hT,hTD:=⟨(E.hD tabA E.hTD.1).1,(E.hD tabB E.hTD.2).1⟩,ndf:=.nil }
  have hsz:E.w0.heap.size=E.N:=rfl
  have h2:RelB E2 args' (oL []) ⟨vs,[]⟩ E.w0 (wβ (oL objs) β):=by
    refine ⟨rfl,h1.size,fun t av ht=>?_,fun o=>trivial,fun o o' b _ hi=>hi.elim,⟨rfl,rfl,rfl,Nat.le_refl _,fun _ _ _=>rfl⟩,fun o v n0 q=>by rw [show E2.pin o=E.pin o from rfl,hpin o] at q;cases q⟩
    have q:=(h1.tmps t av ht).pure (pureL_get hp t av ht)
    have q2:=hnf av (List.mem_of_getElem? ht) _ _ _ E.N _ q
    exact .d (q2.mono (fun _ _=>rfl) (fun b hb=>⟨.inl hb.2.1,hb.2.1,fun o hi=>hi.elim⟩) (Nat.le_refl _))
  refine (h.calls E2 _ vs (fun o=>hpin o) rfl (fun b q=>q) h2).mono fun e w' hx=>?_
  obtain ⟨v,β',he,hr,_⟩:=hx
  have hold:∀ b,b<E.N→w'.heap[b]? = E.w0.heap[b]? := fun b hb=>hr.frame.block b hb fun q=>q
  have hrd:∀ av u,RD E.w0 (E.D E.w0 β (oL objs)) E.B av u→RD w' (E.D w' β (oL objs)) E.B av u:=fun av u q =>
    q.mono (fun b hb=>hold b hb.2.1) (fun b hb=>⟨hb.1,Nat.lt_of_lt_of_le hb.2.1 hr.frame.size,hb.2.2⟩) (Nat.le_refl _)
  have hrx:∀ av u,RX E.w0 (E.D E.w0 β (oL objs)) E.B β (oL objs) av u→RX w' (E.D w' β (oL objs)) E.B β (oL objs) av u:=fun av u q =>
    q.map hrd (fun o off v q=>by obtain ⟨b,h1,rfl⟩:=q.ptr_inv;exact .ptr _ _ b h1) (fun o ver n v q=>by obtain ⟨h1,h2⟩:=q.aI;exact .aref _ _ _ _ h1 h2) (fun o sz ver n i off v q=>by obtain ⟨h1,h2,h3⟩:=q.aptr_inv;exact .aptr _ _ _ _ _ _ _ h1 h2 h3)
  have hblk:∀ o b,(oL objs o).is→blkOf (β o)=some b→b<E.N:=fun o b hi hb=>((h0.objs o).lt hb hi).1
  refine ⟨v,β,he,⟨hdf.symm,rfl,fun t av ht=>?_,fun o=>?_,h0.apart,⟨hr.frame.os,hr.frame.tape,hr.frame.output,hr.frame.size,fun b hb _=>hold b hb⟩,fun o u n0 q=>by rw [hpin o] at q;cases q⟩,.refl _ _⟩
  · cases t with
    | zero =>
      simp at ht;subst ht
      have q:=(hr.tmps 0 _ rfl).pure hpr
      have q2:=hfr _ _ _ _ q
      exact .d (q2.mono (fun _ _=>rfl) (fun b hb=>⟨.inr (.inr hb.2),hb.1.2.1,fun o hi q=>absurd (hblk o b hi q) (Nat.not_lt.2 hb.2)⟩) E.hB)
    | succ t=>simp at ht
  · by_cases hi:(oL objs o).is
    · exact (h0.objs o).mono rfl (fun b hb=>hold b (hblk o b hi hb)) (fun cs _ i av u _ q=>hrx _ _ q) hrd
    · cases hq:oL objs o with
      | none=>trivial
      | box cs=>rw [hq] at hi;exact (hi trivial).elim
      | arr x t sz ver n f=>rw [hq] at hi;exact (hi trivial).elim
theorem NF.int (k:IntKind) (n:Unit→Int):NF (.int k n):=fun w D B B' v h=>by cases h;exact .int _ _
theorem NF.bool (b:Unit→Bool):NF (.bool b):=fun w D B B' v h=>by cases h;exact .bool _
theorem NF.str (s:Unit→ByteArray):NF (.str s):=fun w D B B' v h=>by cases h;exact .str _
theorem NF.slc {sz:Nat} {n:Unit→Nat} {f:(Unit→Nat)→List AV} (hf:∀ i,i<n ()→∀ av ∈ f (fun _=>i),NF av):NF (.slc .any sz n f):=fun w D B B' v h=>by
  cases h with
  | empty _ _ _ _ p cap hn hc=>exact .empty _ _ _ _ p cap hn hc
  | slc _ _ _ _ b o cap c hn hc hD hB hcell hlen hone hel =>
    exact .slc _ _ _ _ b o cap c hn hc hD trivial hcell hlen hone fun i j av hi hj=>hf i hi av (List.mem_of_getElem? hj) _ _ _ _ _ (hel i j av hi hj)
theorem NF.agg {cs:List AV} (h:∀ c ∈ cs,NF c):NF (.agg cs):=fun w D B B' v q=>by
  cases q with
  | agg _ vs hl hx=>exact .agg _ _ hl fun i av v h1 h2=>h av (List.mem_of_getElem? h1) _ _ _ _ _ (hx i av v h1 h2)
theorem FreshR.int (k:IntKind) (n:Unit→Int):FreshR (.int k n):=fun w D B v h=>by cases h;exact .int _ _
theorem FreshR.bool (b:Unit→Bool):FreshR (.bool b):=fun w D B v h=>by cases h;exact .bool _
theorem FreshR.str (s:Unit→ByteArray):FreshR (.str s):=fun w D B v h=>by cases h;exact .str _
theorem FreshR.slc {sz:Nat} {n:Unit→Nat} {f:(Unit→Nat)→List AV} (hf:∀ i,i<n ()→∀ av ∈ f (fun _=>i),FreshR av):FreshR (.slc .new sz n f):=fun w D B v h=>by
  cases h with
  | empty _ _ _ _ p cap hn hc=>exact .empty _ _ _ _ p cap hn hc
  | slc _ _ _ _ b o cap c hn hc hD hB hcell hlen hone hel =>
    exact .slc _ _ _ _ b o cap c hn hc ⟨hD,hB.1⟩ hB hcell hlen hone fun i j av hi hj=>hf i hi av (List.mem_of_getElem? hj) _ _ _ _ (hel i j av hi hj)
theorem FreshR.agg {cs:List AV} (h:∀ c ∈ cs,FreshR c):FreshR (.agg cs):=fun w D B v q=>by
  cases q with
  | agg _ vs hl hx=>exact .agg _ _ hl fun i av v h1 h2=>h av (List.mem_of_getElem? h1) _ _ _ _ (hx i av v h1 h2)
theorem FreshR.tup {cs:List AV} (h:∀ c ∈ cs,FreshR c):FreshR (.tup cs):=fun w D B v q=>by
  cases q with
  | tup _ vs hl hx=>exact .tup _ _ hl fun i av v h1 h2=>h av (List.mem_of_getElem? h1) _ _ _ _ (hx i av v h1 h2)
end Go.Ai
