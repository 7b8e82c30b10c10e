/- Chapter 6: types as data. -/
import Derived.Test.YtalghhdapjmbbaaGreatDoorEngC
import Derived.Test.YtalghhdapjmbbaaGreatDoorFnA
import Derived.Test.YtalghhdapjmbbaaGreatDoorFnE
set_option linter.all false
namespace Go.Ai
open Go Go.Proofs
set_option maxRecDepth 100000
set_option maxHeartbeats 2000000
inductive Ty where
  | mk (kind min max scale:Int) (words:List ByteArray) (elem:List Ty) (fields:List (Int×ByteArray×Int×Ty×List V))
namespace Ty
def kind:Ty→Int|mk k _ _ _ _ _ _=>k
def min:Ty→Int|mk _ a _ _ _ _ _=>a
def max:Ty→Int|mk _ _ a _ _ _ _=>a
def scale:Ty→Int|mk _ _ _ s _ _ _=>s
def words:Ty→List ByteArray|mk _ _ _ _ w _ _=>w
def elem:Ty→List Ty|mk _ _ _ _ _ e _=>e
def fields:Ty→List (Int×ByteArray×Int×Ty×List V)|mk _ _ _ _ _ _ f=>f
instance:Inhabited Ty:=⟨mk 0 0 0 0 [] [] []⟩
end Ty
abbrev TF:=Int×ByteArray×Int×Ty×List V
def fNum (f:TF):Int:=f.1
def fM (f:TF):ByteArray:=f.2.1
def fN (f:TF):Int:=f.2.2.1
def fT (f:TF):Ty:=f.2.2.2.1
def fDef (f:TF):List V:=f.2.2.2.2
def Ty.le (e:Nat):Nat→Ty→Prop
  | 0,_=>False
  | d + 1,t=>t.words.length≤1073741824∧(∀ w ∈ t.words,w.size≤1073741824)∧t.elem.length≤1073741824∧t.fields.length≤1073741824∧(∀ x ∈ t.elem,Ty.le e d x) ∧
      ∀ f ∈ t.fields,(fM f).size≤1073741824∧(fDef f).length≤1073741824∧(∀ v ∈ fDef f,V.le e v)∧Ty.le e d (fT f)
theorem Ty.lP {e d:Nat} {t:Ty} (h:Ty.le e d t):∃ c,d=c+1:=by
  cases d with
  | zero=>exact h.elim
  | succ d=>exact ⟨d,rfl⟩
theorem gD {α:Type} {l:List α} {i:Nat} {x:α} (h:i<l.length):l.getD i x ∈ l:=by
  have:l.getD i x=l[i]:=by simp [List.getD,h]
  rw [this];exact List.getElem_mem h
theorem Ty.le_elem {e d:Nat} {t:Ty} (h:Ty.le e (d+1) t) {i:Nat} (hi:i<t.elem.length):Ty.le e d (t.elem.getD i default):=h.2.2.2.2.1 _ (gD hi)
theorem Ty.le_field {e d:Nat} {t:Ty} (h:Ty.le e (d+1) t) {i:Nat} (hi:i<t.fields.length):Ty.le e d (fT (t.fields.getD i default)):=(h.2.2.2.2.2 _ (gD hi)).2.2.2
def wordsF (w:Unit→List ByteArray):(Unit→Nat)→List AV:=fun i=>[.str fun _=>(w ()).getD (i ()) ⟨#[]⟩]
def cellsTG (fr:FB) (t:Unit→Ty) (L F:(Unit→Nat)→List AV):List AV :=
  [.int .i64 (fun _=>(t ()).kind),.int .i64 (fun _=>(t ()).min),.int .i64 (fun _=>(t ()).max),.int .i64 (fun _=>(t ()).scale),.slc fr 1 (fun _=>(t ()).words.length) (wordsF fun _=>(t ()).words),
   .slc fr 7 (fun _=>(t ()).elem.length) L,.slc fr 11 (fun _=>(t ()).fields.length) F]
def subT (e:Nat):Nat→FB→(Unit→Ty)→Bool→(Unit→Nat)→List AV
  | 0,_,_,_,_=>[]
  | d+1,fr,t,true,i=>cellsTG fr (fun _=>(t ()).elem.getD (i ()) default) (subT e d fr (fun _=>(t ()).elem.getD (i ()) default) true) (subT e d fr (fun _=>(t ()).elem.getD (i ()) default) false)
  | d + 1,fr,t,false,i=>.int .i64 (fun _=>fNum ((t ()).fields.getD (i ()) default)) :: .str (fun _=>fM ((t ()).fields.getD (i ()) default)) :: .int .i64 (fun _=>fN ((t ()).fields.getD (i ()) default)) ::
      (cellsTG fr (fun _=>fT ((t ()).fields.getD (i ()) default)) (subT e d fr (fun _=>fT ((t ()).fields.getD (i ()) default)) true) (subT e d fr (fun _=>fT ((t ()).fields.getD (i ()) default)) false) ++
        [.slc fr 6 (fun _=>(fDef ((t ()).fields.getD (i ()) default)).length) fun j=>cells e fr fun _=>(fDef ((t ()).fields.getD (i ()) default)).getD (j ()) default])
def cl' (e d:Nat) (fr:FB) (t:Unit→Ty):List AV:=cellsTG fr t (subT e d fr t true) (subT e d fr t false)
def cF (e d:Nat) (fr:FB) (f:Unit→TF):List AV :=
  .int .i64 (fun _=>fNum (f ())) :: .str (fun _=>fM (f ())) :: .int .i64 (fun _=>fN (f ())) :: (cl' e d fr (fun _=>fT (f ()))++[.slc fr 6 (fun _=>(fDef (f ())).length) fun j=>cells e fr fun _=>(fDef (f ())).getD (j ()) default])
def encT (e d:Nat) (fr:FB) (t:Unit→Ty):AV:=.agg (cl' e d fr t)
def encTF (e d:Nat) (fr:FB) (f:Unit→TF):AV:=.agg (cF e d fr f)
def slcT (e d:Nat) (fr:FB) (l:Unit→List Ty):AV:=.slc fr 7 (fun _=>(l ()).length) fun i=>cl' e d fr fun _=>(l ()).getD (i ()) default
def slcTF (e d:Nat) (fr:FB) (l:Unit→List TF):AV:=.slc fr 11 (fun _=>(l ()).length) fun i=>cF e d fr fun _=>(l ()).getD (i ()) default
theorem cellsT_eq {e d:Nat} {fr:FB} {t t':Ty} (h:t=t'):LeL (cl' e d fr fun _=>t) (cl' e d fr fun _=>t'):=by subst h;exact LeL.of_eq rfl
def pS (t:Ty):List Ty:=if t.kind=8 then t.elem else if t.kind=9∨t.kind=10 then t.fields.map fT else []
theorem in_ok (n a b:Int):Af Tryz.prog 135 [.int .i64 fun _=>n,.int .i64 fun _=>a,.int .i64 fun _=>b] [] (.bool fun _=>decide (a≤n∧n≤b)) []:=by
  (apply Af.of tF mF [.tmp 6] kp135 [] Tryz.func135 (fun _=>?_);(any_goals ((with_reducible refine wI ?_);cbv;(try dsimp only [nc] at *);(repeat' (with_reducible first|exact aO|exact oN|refine oC ?_ ?_|refine VC.mk rfl ?_ ?_ ?_|(apply Ca.mk<;>intro _)|(apply Cv.mk<;>intro zq<;>(try simp only [nc,cl] at zq)<;>(try simp only [bl,dl] at zq)<;>(revert zq;intro _))|((first|apply xE|apply uE);cbv;(try dsimp only [nc] at *)))))))
  ((all_goals (try (with_reducible ((first|refine rE ?_|refine nE ?_);(focus (cbv;(try dsimp only [nc] at *);(try simp only [wl,nc]);(repeat' (with_reducible apply And.intro));all_goals (try exact wZ)))))));(all_goals (try ((with_reducible rw [aC]);(try simp only [wl,nc]);(repeat' (with_reducible apply And.intro));(all_goals (try exact cZ))))))
  ((((try simp only [nc,cl] at *)<;>(try rw [Bool.eq_iff_iff]))<;>(try simp only [bl,false_iff,true_iff,iff_true,iff_false,dec_t,dec_f,ne_eq,Decidable.not_not] at *))<;>(first|omega|grind))
theorem getD_map {α β:Type} {l:List α} {f:α→β} {i:Nat} {x:α} {y:β} (h:i<l.length):(l.map f).getD i y=f (l.getD i x):=by
  simp [List.getD,h]
theorem partsT_ok (e d:Nat) (t:Ty) (ht:Ty.le e (d+1) t):Af Tryz.prog 105 [encT e (d+1) .any fun _=>t] [] (slcT e d .any fun _=>pS t) []:=by
  have hf:=ht.2.2.2.1
  (apply Af.of tF mF [.tmp 2] kp105 [] Tryz.func105 (fun _=>?_);(any_goals ((with_reducible refine wI ?_);cbv;(try dsimp only [nc] at *);(repeat' (with_reducible first|exact aO|exact oN|refine oC ?_ ?_|refine VC.mk rfl ?_ ?_ ?_|(apply Ca.mk<;>intro _)|(apply Cv.mk<;>intro zq<;>(try simp only [nc,cl] at zq)<;>(try simp only [bl,dl] at zq)<;>(revert zq;intro _))|((first|apply xE|apply uE);cbv;(try dsimp only [nc] at *)))))))
  ((all_goals (try (with_reducible ((first|refine rE ?_|refine nE ?_);(focus (cbv;(try dsimp only [nc] at *);(try simp only [wl,nc]);(repeat' (with_reducible apply And.intro));all_goals (try exact wZ)))))));(all_goals (try ((with_reducible rw [aC]);(try simp only [wl,nc]);(repeat' (with_reducible apply And.intro));(all_goals (try exact cZ))))))
  case _ h=>simp [pS,h]
  case _ h=>exact fun i hi=>cellsT_eq (by simp [pS,h])
  all_goals first
    | omega
    | (simp [pS, *];done)
    | (have hk:pS t=t.fields.map fT:=by simp [pS, *]
       refine .loop (fun i:Nat=>⟨33,[(22,.int .i64 fun _=>i),(21,.int .i64 fun _=>t.fields.length),(20,.slc .any 11 (fun _=>t.fields.length) fun i=>cF e d .any fun _=>t.fields.getD (i ()) default),(3,.aref 18 0 fun _=>i)],
          [(18,.arr false 26 7 0 (fun _=>i) fun j=>cl' e d .any fun _=>fT (t.fields.getD (j ()) default))]⟩)
         (fun i=>i≤t.fields.length) (fun i=>t.fields.length - i) 0 (by simp) ?_ fun i E hi=>?_
       · (focus (cbv;(try dsimp only [nc] at *);(try simp only [wl,nc]);(repeat' (with_reducible apply And.intro));all_goals (try exact wZ)))
       · apply AWp.wk tF mF [] kp105 ?_
         (any_goals ((with_reducible refine wI ?_);cbv;(try dsimp only [nc] at *);(repeat' (with_reducible first|exact aO|exact oN|refine oC ?_ ?_|refine VC.mk rfl ?_ ?_ ?_|(apply Ca.mk<;>intro _)|(apply Cv.mk<;>intro zq<;>(try simp only [nc,cl] at zq)<;>(try simp only [bl,dl] at zq)<;>(revert zq;intro _))|((first|apply xE|apply uE);cbv;(try dsimp only [nc] at *))))))
         ((all_goals (try (with_reducible ((first|refine rE ?_|refine nE ?_);(focus (cbv;(try dsimp only [nc] at *);(try simp only [wl,nc]);(repeat' (with_reducible apply And.intro));all_goals (try exact wZ)))))));(all_goals (try ((with_reducible rw [aC]);(try simp only [wl,nc]);(repeat' (with_reducible apply And.intro));(all_goals (try exact cZ))))))
         · refine dE (i+1) ⟨by omega,by omega⟩ ?_
           (focus (cbv;(try dsimp only [nc] at *);(try simp only [wl,nc]);(repeat' (with_reducible apply And.intro));all_goals (try exact wZ)))
           · exact w64n (by omega)
           · refine cat_le (n:=fun _=>i) (m:=1) (F:=fun j=>cl' e d .any fun _=>fT (t.fields.getD (j ()) default)) (fun k hk=>LeL.of_eq rfl) (fun k hk=>?_)
             have:k=0:=by omega
             subst this
             exact LeL.of_eq rfl
         · rw [hk];simp;omega
         · rw [hk]
           intro j hj
           refine cellsT_eq ?_
           rw [getD_map (x:=default) (by omega)])
theorem IndexTF_tf (e d:Nat) (y:TF) (fn:FuncId) (p:TF→Bool) (l:List TF) (hl:l.length≤1073741824)
    (hc:∀ x ∈ l,Af Tryz.prog fn [.agg (cF e d .any fun _=>x),.ptr 1001 0] [(1001,.box (cF e d .any fun _=>y))] (.bool fun _=>p x) [(1001,.box (cF e d .any fun _=>y))]) :
    Af Tryz.prog 142 [slcTF e d .any fun _=>l,.func fn [.ptr capP 0]] [(capP,.box (cF e d .any fun _=>y))] (.int .i64 fun _=>iI p l) [(capP,.box (cF e d .any fun _=>y))]:=by
  (apply Af.of tF mF [.tmp 4] kp142 [] Tryz.func142 (fun _=>?_);(any_goals ((with_reducible refine wI ?_);cbv;(try dsimp only [nc] at *);(repeat' (with_reducible first|exact aO|exact oN|refine oC ?_ ?_|refine VC.mk rfl ?_ ?_ ?_|(apply Ca.mk<;>intro _)|(apply Cv.mk<;>intro zq<;>(try simp only [nc,cl] at zq)<;>(try simp only [bl,dl] at zq)<;>(revert zq;intro _))|((first|apply xE|apply uE);cbv;(try dsimp only [nc] at *)))))))
  ((all_goals (try (with_reducible ((first|refine rE ?_|refine nE ?_);(focus (cbv;(try dsimp only [nc] at *);(try simp only [wl,nc]);(repeat' (with_reducible apply And.intro));all_goals (try exact wZ)))))));(all_goals (try ((with_reducible rw [aC]);(try simp only [wl,nc]);(repeat' (with_reducible apply And.intro));(all_goals (try exact cZ))))))
  refine .loop (fun i:Nat=>⟨19,[(8,.int .i64 fun _=>i),(7,.int .i64 fun _=>l.length),(1,.func fn [.ptr capP 0]),(0,slcTF e d .any fun _=>l)],[(capP,.box (cF e d .any fun _=>y))]⟩)
    (fun i=>i≤l.length∧∀ j,j<i→p (l.getD j default)=false) (fun i=>l.length - i) 0 (by simp) ?_ fun i E hi=>?_
  · (focus (cbv;(try dsimp only [nc] at *);(try simp only [wl,nc]);(repeat' (with_reducible apply And.intro));all_goals (try exact wZ)))
  apply AWp.wk tF mF [(4,[(5,.bool (fun _=>?_),[(1001,.box (cF e d .any fun _=>y))])])] kp142 ?_
  (any_goals ((with_reducible refine wI ?_);cbv;(try dsimp only [nc] at *);(repeat' (with_reducible first|exact aO|exact oN|refine oC ?_ ?_|refine VC.mk rfl ?_ ?_ ?_|(apply Ca.mk<;>intro _)|(apply Cv.mk<;>intro zq<;>(try simp only [nc,cl] at zq)<;>(try simp only [bl,dl] at zq)<;>(revert zq;intro _))|((first|apply xE|apply uE);cbv;(try dsimp only [nc] at *))))))
  (any_goals ((with_reducible refine bZ ?_)<;>exact (hc _ (getD_mem ‹_›))))
  ((all_goals (try (with_reducible ((first|refine rE ?_|refine nE ?_);(focus (cbv;(try dsimp only [nc] at *);(try simp only [wl,nc]);(repeat' (with_reducible apply And.intro));all_goals (try exact wZ)))))));(all_goals (try ((with_reducible rw [aC]);(try simp only [wl,nc]);(repeat' (with_reducible apply And.intro));(all_goals (try exact cZ))))))
  · exact (idxI_at ‹_› ‹_› hi.2).symm
  · refine dE (i+1) ⟨⟨by omega,fun j hj=>?_⟩,by omega⟩ ?_
    · rcases Nat.lt_succ_iff_lt_or_eq.1 hj with hj|rfl
      · exact hi.2 j hj
      · assumption
    · (focus (cbv;(try dsimp only [nc] at *);(try simp only [wl,nc]);(repeat' (with_reducible apply And.intro));all_goals (try exact wZ)))
      exact w64n (by omega)
  · exact (idxI_none fun j hj=>hi.2 j (by omega)).symm
theorem ContainsTF_tf (e d:Nat) (y:TF) (fn:FuncId) (p:TF→Bool) (l:List TF) (hl:l.length≤1073741824)
    (hc:∀ x ∈ l,Af Tryz.prog fn [.agg (cF e d .any fun _=>x),.ptr 1001 0] [(1001,.box (cF e d .any fun _=>y))] (.bool fun _=>p x) [(1001,.box (cF e d .any fun _=>y))]) :
    Af Tryz.prog 110 [slcTF e d .any fun _=>l,.func fn [.ptr capP 0]] [(capP,.box (cF e d .any fun _=>y))] (.bool fun _=>l.any p) [(capP,.box (cF e d .any fun _=>y))]:=by
  (apply Af.of tF mF [.tmp 4] kp110 [(1,[(2,.int .i64 (fun _=>?_),[(capP,.box (cF e d .any fun _=>y))])])] Tryz.func110 (fun _=>?_);(any_goals ((with_reducible refine wI ?_);cbv;(try dsimp only [nc] at *);(repeat' (with_reducible first|exact aO|exact oN|refine oC ?_ ?_|refine VC.mk rfl ?_ ?_ ?_|(apply Ca.mk<;>intro _)|(apply Cv.mk<;>intro zq<;>(try simp only [nc,cl] at zq)<;>(try simp only [bl,dl] at zq)<;>(revert zq;intro _))|((first|apply xE|apply uE);cbv;(try dsimp only [nc] at *)))))))
  (any_goals ((with_reducible refine bZ ?_)<;>exact (IndexTF_tf e d y fn p l hl hc)))
  ((all_goals (try (with_reducible ((first|refine rE ?_|refine nE ?_);(focus (cbv;(try dsimp only [nc] at *);(try simp only [wl,nc]);(repeat' (with_reducible apply And.intro));all_goals (try exact wZ)))))));(all_goals (try ((with_reducible rw [aC]);(try simp only [wl,nc]);(repeat' (with_reducible apply And.intro));(all_goals (try exact cZ))))))
  exact idxI_any
theorem IndexTF_str (e d:Nat) (s:ByteArray) (fn:FuncId) (p:TF→Bool) (l:List TF) (hl:l.length≤1073741824)
    (hc:∀ x ∈ l,Af Tryz.prog fn [.agg (cF e d .any fun _=>x),.ptr 1001 0] [(1001,.box [.str fun _=>s])] (.bool fun _=>p x) [(1001,.box [.str fun _=>s])]) :
    Af Tryz.prog 142 [slcTF e d .any fun _=>l,.func fn [.ptr capP 0]] [(capP,.box [.str fun _=>s])] (.int .i64 fun _=>iI p l) [(capP,.box [.str fun _=>s])]:=by
  (apply Af.of tF mF [.tmp 4] kp142 [] Tryz.func142 (fun _=>?_);(any_goals ((with_reducible refine wI ?_);cbv;(try dsimp only [nc] at *);(repeat' (with_reducible first|exact aO|exact oN|refine oC ?_ ?_|refine VC.mk rfl ?_ ?_ ?_|(apply Ca.mk<;>intro _)|(apply Cv.mk<;>intro zq<;>(try simp only [nc,cl] at zq)<;>(try simp only [bl,dl] at zq)<;>(revert zq;intro _))|((first|apply xE|apply uE);cbv;(try dsimp only [nc] at *)))))))
  ((all_goals (try (with_reducible ((first|refine rE ?_|refine nE ?_);(focus (cbv;(try dsimp only [nc] at *);(try simp only [wl,nc]);(repeat' (with_reducible apply And.intro));all_goals (try exact wZ)))))));(all_goals (try ((with_reducible rw [aC]);(try simp only [wl,nc]);(repeat' (with_reducible apply And.intro));(all_goals (try exact cZ))))))
  refine .loop (fun i:Nat=>⟨19,[(8,.int .i64 fun _=>i),(7,.int .i64 fun _=>l.length),(1,.func fn [.ptr capP 0]),(0,slcTF e d .any fun _=>l)],[(capP,.box [.str fun _=>s])]⟩)
    (fun i=>i≤l.length∧∀ j,j<i→p (l.getD j default)=false) (fun i=>l.length - i) 0 (by simp) ?_ fun i E hi=>?_
  · (focus (cbv;(try dsimp only [nc] at *);(try simp only [wl,nc]);(repeat' (with_reducible apply And.intro));all_goals (try exact wZ)))
  apply AWp.wk tF mF [(4,[(5,.bool (fun _=>?_),[(1001,.box [.str fun _=>s])])])] kp142 ?_
  (any_goals ((with_reducible refine wI ?_);cbv;(try dsimp only [nc] at *);(repeat' (with_reducible first|exact aO|exact oN|refine oC ?_ ?_|refine VC.mk rfl ?_ ?_ ?_|(apply Ca.mk<;>intro _)|(apply Cv.mk<;>intro zq<;>(try simp only [nc,cl] at zq)<;>(try simp only [bl,dl] at zq)<;>(revert zq;intro _))|((first|apply xE|apply uE);cbv;(try dsimp only [nc] at *))))))
  (any_goals ((with_reducible refine bZ ?_)<;>exact (hc _ (getD_mem ‹_›))))
  ((all_goals (try (with_reducible ((first|refine rE ?_|refine nE ?_);(focus (cbv;(try dsimp only [nc] at *);(try simp only [wl,nc]);(repeat' (with_reducible apply And.intro));all_goals (try exact wZ)))))));(all_goals (try ((with_reducible rw [aC]);(try simp only [wl,nc]);(repeat' (with_reducible apply And.intro));(all_goals (try exact cZ))))))
  · exact (idxI_at ‹_› ‹_› hi.2).symm
  · refine dE (i+1) ⟨⟨by omega,fun j hj=>?_⟩,by omega⟩ ?_
    · rcases Nat.lt_succ_iff_lt_or_eq.1 hj with hj|rfl
      · exact hi.2 j hj
      · assumption
    · (focus (cbv;(try dsimp only [nc] at *);(try simp only [wl,nc]);(repeat' (with_reducible apply And.intro));all_goals (try exact wZ)))
      exact w64n (by omega)
  · exact (idxI_none fun j hj=>hi.2 j (by omega)).symm
def inWords (w:List ByteArray) (s:ByteArray):Bool:=w.any fun x=>decide (s=x)
theorem IndexStr_ok (w:List ByteArray) (s:ByteArray) (hl:w.length≤1073741824):Af Tryz.prog 120 [.slc .any 1 (fun _=>w.length) (wordsF fun _=>w),.str fun _=>s] [] (.int .i64 fun _=>iI (fun x=>decide (s=x)) w) []:=by
  (apply Af.of tF mF [.tmp 4] kp120 [] Tryz.func120 (fun _=>?_);(any_goals ((with_reducible refine wI ?_);cbv;(try dsimp only [nc] at *);(repeat' (with_reducible first|exact aO|exact oN|refine oC ?_ ?_|refine VC.mk rfl ?_ ?_ ?_|(apply Ca.mk<;>intro _)|(apply Cv.mk<;>intro zq<;>(try simp only [nc,cl] at zq)<;>(try simp only [bl,dl] at zq)<;>(revert zq;intro _))|((first|apply xE|apply uE);cbv;(try dsimp only [nc] at *)))))))
  ((all_goals (try (with_reducible ((first|refine rE ?_|refine nE ?_);(focus (cbv;(try dsimp only [nc] at *);(try simp only [wl,nc]);(repeat' (with_reducible apply And.intro));all_goals (try exact wZ)))))));(all_goals (try ((with_reducible rw [aC]);(try simp only [wl,nc]);(repeat' (with_reducible apply And.intro));(all_goals (try exact cZ))))))
  refine .loop (fun i:Nat=>⟨19,[(8,.int .i64 fun _=>i),(7,.int .i64 fun _=>w.length),(1,.str fun _=>s),(0,.slc .any 1 (fun _=>w.length) (wordsF fun _=>w))],[]⟩)
    (fun i=>i≤w.length∧∀ j,j<i→decide (s=w.getD j ⟨#[]⟩)=false) (fun i=>w.length - i) 0 (by simp) ?_ fun i E hi=>?_
  · (focus (cbv;(try dsimp only [nc] at *);(try simp only [wl,nc]);(repeat' (with_reducible apply And.intro));all_goals (try exact wZ)))
  apply AWp.wk tF mF [] kp120 ?_
  (any_goals ((with_reducible refine wI ?_);cbv;(try dsimp only [nc] at *);(repeat' (with_reducible first|exact aO|exact oN|refine oC ?_ ?_|refine VC.mk rfl ?_ ?_ ?_|(apply Ca.mk<;>intro _)|(apply Cv.mk<;>intro zq<;>(try simp only [nc,cl] at zq)<;>(try simp only [bl,dl] at zq)<;>(revert zq;intro _))|((first|apply xE|apply uE);cbv;(try dsimp only [nc] at *))))))
  ((all_goals (try (with_reducible ((first|refine rE ?_|refine nE ?_);(focus (cbv;(try dsimp only [nc] at *);(try simp only [wl,nc]);(repeat' (with_reducible apply And.intro));all_goals (try exact wZ)))))));(all_goals (try ((with_reducible rw [aC]);(try simp only [wl,nc]);(repeat' (with_reducible apply And.intro));(all_goals (try exact cZ))))))
  · refine (idxI_at (df:=⟨#[]⟩) ‹_› ?_ hi.2).symm
    simpa using ‹s=_›
  · refine dE (i+1) ⟨⟨by omega,fun j hj=>?_⟩,by omega⟩ ?_
    · rcases Nat.lt_succ_iff_lt_or_eq.1 hj with hj|rfl
      · exact hi.2 j hj
      · simpa using ‹¬ s=_›
    · (focus (cbv;(try dsimp only [nc] at *);(try simp only [wl,nc]);(repeat' (with_reducible apply And.intro));all_goals (try exact wZ)))
      exact w64n (by omega)
  · exact (idxI_none (df:=⟨#[]⟩) fun j hj=>hi.2 j (by omega)).symm
theorem Contains_ok (w:List ByteArray) (s:ByteArray) (hl:w.length≤1073741824):Af Tryz.prog 76 [.slc .any 1 (fun _=>w.length) (wordsF fun _=>w),.str fun _=>s] [] (.bool fun _=>inWords w s) []:=by
  (apply Af.of tF mF [.tmp 4] kp76 [(1,[(2,.int .i64 (fun _=>?_),[])])] Tryz.func76 (fun _=>?_);(any_goals ((with_reducible refine wI ?_);cbv;(try dsimp only [nc] at *);(repeat' (with_reducible first|exact aO|exact oN|refine oC ?_ ?_|refine VC.mk rfl ?_ ?_ ?_|(apply Ca.mk<;>intro _)|(apply Cv.mk<;>intro zq<;>(try simp only [nc,cl] at zq)<;>(try simp only [bl,dl] at zq)<;>(revert zq;intro _))|((first|apply xE|apply uE);cbv;(try dsimp only [nc] at *)))))))
  (any_goals ((with_reducible refine bZ ?_)<;>exact (IndexStr_ok w s hl)))
  ((all_goals (try (with_reducible ((first|refine rE ?_|refine nE ?_);(focus (cbv;(try dsimp only [nc] at *);(try simp only [wl,nc]);(repeat' (with_reducible apply And.intro));all_goals (try exact wZ)))))));(all_goals (try ((with_reducible rw [aC]);(try simp only [wl,nc]);(repeat' (with_reducible apply And.intro));(all_goals (try exact cZ))))))
  exact idxI_any
theorem field1_ok (e d:Nat) (x y:TF):Af Tryz.prog 174 [.agg (cF e d .any fun _=>x),.ptr 1001 0] [(1001,.box (cF e d .any fun _=>y))] (.bool fun _=>decide (fM x=fM y) || decide (fNum x=fNum y)) [(1001,.box (cF e d .any fun _=>y))]:=by
  (apply Af.of tF mF [.tmp 3] kp174 [] Tryz.func174 (fun _=>?_);(any_goals ((with_reducible refine wI ?_);cbv;(try dsimp only [nc] at *);(repeat' (with_reducible first|exact aO|exact oN|refine oC ?_ ?_|refine VC.mk rfl ?_ ?_ ?_|(apply Ca.mk<;>intro _)|(apply Cv.mk<;>intro zq<;>(try simp only [nc,cl] at zq)<;>(try simp only [bl,dl] at zq)<;>(revert zq;intro _))|((first|apply xE|apply uE);cbv;(try dsimp only [nc] at *)))))))
  ((all_goals (try (with_reducible ((first|refine rE ?_|refine nE ?_);(focus (cbv;(try dsimp only [nc] at *);(try simp only [wl,nc]);(repeat' (with_reducible apply And.intro));all_goals (try exact wZ)))))));(all_goals (try ((with_reducible rw [aC]);(try simp only [wl,nc]);(repeat' (with_reducible apply And.intro));(all_goals (try exact cZ))))))
  ((((try simp only [nc,cl] at *)<;>(try rw [Bool.eq_iff_iff]))<;>(try simp only [bl,false_iff,true_iff,iff_true,iff_false,dec_t,dec_f,ne_eq,Decidable.not_not] at *))<;>(first|omega|grind))
theorem Field1_ok (e d:Nat) (x:TF) (s:ByteArray):Af Tryz.prog 215 [.agg (cF e d .any fun _=>x),.ptr 1001 0] [(1001,.box [.str fun _=>s])] (.bool fun _=>decide (fM x=s)) [(1001,.box [.str fun _=>s])]:=by
  (apply Af.of tF mF [.tmp 3] kp215 [] Tryz.func215 (fun _=>?_);(any_goals ((with_reducible refine wI ?_);cbv;(try dsimp only [nc] at *);(repeat' (with_reducible first|exact aO|exact oN|refine oC ?_ ?_|refine VC.mk rfl ?_ ?_ ?_|(apply Ca.mk<;>intro _)|(apply Cv.mk<;>intro zq<;>(try simp only [nc,cl] at zq)<;>(try simp only [bl,dl] at zq)<;>(revert zq;intro _))|((first|apply xE|apply uE);cbv;(try dsimp only [nc] at *)))))))
  ((all_goals (try (with_reducible ((first|refine rE ?_|refine nE ?_);(focus (cbv;(try dsimp only [nc] at *);(try simp only [wl,nc]);(repeat' (with_reducible apply And.intro));all_goals (try exact wZ)))))));(all_goals (try ((with_reducible rw [aC]);(try simp only [wl,nc]);(repeat' (with_reducible apply And.intro));(all_goals (try exact cZ))))))
end Go.Ai
