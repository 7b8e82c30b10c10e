/- Chapter 6: the fields of a type; a type without its parts. -/
import Derived.Test.YtalghhdapjmbbaaGreatDoorTyB
set_option linter.all false
namespace Go.Ai
open Go Go.Proofs
set_option maxRecDepth 100000
set_option maxHeartbeats 4000000
def dupB (l:List TF) (i:Nat) (f:TF):Bool:=(l.take i).any fun g=>decide (fM g=fM f) || decide (fNum g=fNum f)
def fldE (k:Int) (dup:Bool) (f:TF):Int :=
  if isName (fM f)=false then 12 else
  if fNum f<1∨9999<fNum f then 2 else
  if dup=true then 7 else
  if (fN f<1∨3<fN f)∨(k=10∧fN f≠1) then 11 else
  if fN f=3∧(fDef f).length=0 then 4 else
  if 1<(fDef f).length∨(fN f≠3∧0<(fDef f).length) then 3 else 0
def fieldE (t:Ty) (i:Nat):Int:=fldE t.kind (dupB t.fields i (t.fields.getD i default)) (t.fields.getD i default)
theorem take_getD {α:Type} (l:List α) (i k:Nat) (x:α) (h:k<i):(l.take i).getD k x=l.getD k x:=by
  rw [List.getD_eq_getElem?_getD,List.getElem?_take,if_pos h,← List.getD_eq_getElem?_getD]
theorem field_ok (e d:Nat) (t:Ty) (ht:Ty.le e (d+1) t) (i:Nat) (hi:i<t.fields.length):Af Tryz.prog 139 [encT e (d+1) .any fun _=>t,.int .i64 fun _=>i] [] (.int .i64 fun _=>fieldE t i) []:=by
  obtain ⟨f,hf⟩:∃ f,f=t.fields.getD i default:=⟨_,rfl⟩
  have hfl:=ht.2.2.2.2.2 _ (gD (x:=default) hi)
  rw [← hf] at hfl
  unfold fieldE
  rw [← hf]
  have hl:=ht.2.2.2.1
  (apply Af.of tF mF [.tmp 4] kp139 [(2,[(2,.bool fun _=>isName (fM f),[])]),(4,[(2,.bool fun _=>decide (1≤fNum f∧fNum f≤9999),[])]),(6,[(5,.bool fun _=>dupB t.fields i f,[(capP,.box (cF e d .any fun _=>f))])]),(8,[(2,.bool fun _=>decide (1≤fN f∧fN f≤3),[])])] Tryz.func139 (fun _=>?_);(any_goals ((with_reducible refine wI ?_);cbv;(try dsimp only [nc] at *);(repeat' (with_reducible first|exact aO|exact oN|refine oC ?_ ?_|refine VC.mk rfl ?_ ?_ ?_|(apply Ca.mk<;>intro _)|(apply Cv.mk<;>intro zq<;>(try simp only [nc,cl] at zq)<;>(try simp only [bl,dl] at zq)<;>(revert zq;intro _))|((first|apply xE|apply uE);cbv;(try dsimp only [nc] at *)))))))
  all_goals (try simp only [Int.toNat_natCast,← hf])
  (any_goals ((with_reducible refine bZ ?_)<;>exact (IsName_ok (fM f) (Nat.le_trans hfl.1 (by decide)))))
  (any_goals ((with_reducible refine bZ ?_)<;>exact (in_ok _ _ _)))
  (any_goals ((with_reducible refine bZ ?_);(try dsimp only);(have q:=(ContainsTF_tf e d f 174 (fun g=>decide (fM g=fM f) || decide (fNum g=fNum f)) (t.fields.take i) (by rw [List.length_take];omega) fun g _=>field1_ok e d g f);refine Af.wN q ?_;clear q);(focus (cbv;(try dsimp only [nc] at *);(try simp only [wl,nc]);(repeat' (with_reducible apply And.intro));all_goals (try exact wZ)))))
  ((all_goals (try (with_reducible ((first|refine rE ?_|refine nE ?_);(focus (cbv;(try dsimp only [nc] at *);(try simp only [wl,nc]);(repeat' (with_reducible apply And.intro));all_goals (try exact wZ)))))));(all_goals (try ((with_reducible rw [aC]);(try simp only [wl,nc]);(repeat' (with_reducible apply And.intro));(all_goals (try exact cZ))))))
  all_goals first
    | (simp only [fldE];grind)
    | (simp;omega)
    | (intro k hk
       have hk2:k<i:=by simp at hk;omega
       show LeL (cF e d .any fun _=>t.fields.getD (Int.toNat 0+k) default) _
       rw [take_getD _ _ _ _ hk2,show Int.toNat 0+k=k by simp]
       exact LeL.of_eq rfl)
def kLo (k:Int):Int:=if k=2∨k=3 then -999999999999999 else if k=6 then -719162 else if k=7 then -62135596800000 else 0
def kHi (k:Int):Int:=if k=2∨k=3 then 999999999999999 else if k=4∨k=5 then 1024 else if k=6 then 2932896 else if k=7 then 253402300799999 else if k=8 then 256 else 0
def ownT (t:Ty):Int :=
  if t.kind<1∨10<t.kind then 11 else
  if formE t (decide (2≤t.kind∧t.kind≤8)) (decide (t.kind=3)) (decide (t.kind=4)) (decide (t.kind=8)) (decide (t.kind=9∨t.kind=10))≠0 then 3 else
  if t.kind=4∧0<t.words.length then wordsE t else
  if ((2≤t.kind∧t.kind≤8)∧(t.max<t.min∨t.min<kLo t.kind∨kHi t.kind<t.max))∨(t.kind=3∧(t.scale<0∨12<t.scale)) then 2 else
  if (t.kind=8∧t.elem.length=0)∨(t.kind=10∧t.fields.length=0) then 4 else
  if t.kind=8∧1<t.elem.length then 3 else
  if 64<t.fields.length then 9 else fI (fieldE t) t.fields.length
theorem own_kinds (k:Int) (h:¬ (k<1∨10<k)):k=1∨k=2∨k=3∨k=4∨k=5∨k=6∨k=7∨k=8∨k=9∨k=10:=by omega
theorem encT_kind {e d:Nat} {fr:FB} {t:Ty} {k:Int} (h:t.kind=k):encT e d fr (fun _=>t)=.agg (.int .i64 (fun _=>k) :: (cl' e d fr fun _=>t).tail):=by
  subst h;rfl
def kName (k:Int):ByteArray:=pickS [AV.str fun _=>ByteArray.mk (Array.mk []),AV.str fun _=>ByteArray.mk (Array.mk [98,111,111,108]),AV.str fun _=>ByteArray.mk (Array.mk [105,110,116]),AV.str fun _=>ByteArray.mk (Array.mk [100,101,99,105,109,97,108]),AV.str fun _=>ByteArray.mk (Array.mk [116,101,120,116]),AV.str fun _=>ByteArray.mk (Array.mk [98,121,116,101,115]),AV.str fun _=>ByteArray.mk (Array.mk [100,97,116,101]),AV.str fun _=>ByteArray.mk (Array.mk [116,105,109,101]),AV.str fun _=>ByteArray.mk (Array.mk [108,105,115,116]),AV.str fun _=>ByteArray.mk (Array.mk [114,101,99,111,114,100]),AV.str fun _=>ByteArray.mk (Array.mk [118,97,114,105,97,110,116])] k.toNat
theorem lim_n (k:Int):pickS [AV.str fun _=>ByteArray.mk (Array.mk []),AV.str fun _=>ByteArray.mk (Array.mk [98,111,111,108]),AV.str fun _=>ByteArray.mk (Array.mk [105,110,116]),AV.str fun _=>ByteArray.mk (Array.mk [100,101,99,105,109,97,108]),AV.str fun _=>ByteArray.mk (Array.mk [116,101,120,116]),AV.str fun _=>ByteArray.mk (Array.mk [98,121,116,101,115]),AV.str fun _=>ByteArray.mk (Array.mk [100,97,116,101]),AV.str fun _=>ByteArray.mk (Array.mk [116,105,109,101]),AV.str fun _=>ByteArray.mk (Array.mk [108,105,115,116]),AV.str fun _=>ByteArray.mk (Array.mk [114,101,99,111,114,100]),AV.str fun _=>ByteArray.mk (Array.mk [118,97,114,105,97,110,116])] k.toNat=kName k:=rfl
theorem lim_lo (k:Int) (h:¬ (k<1∨10<k)):pickI [AV.int .i64 fun _=>0,AV.int .i64 fun _=>0,AV.int .i64 fun _ => -999999999999999,AV.int .i64 fun _ => -999999999999999,AV.int .i64 fun _=>0,AV.int .i64 fun _=>0,AV.int .i64 fun _ => -719162,AV.int .i64 fun _ => -62135596800000,AV.int .i64 fun _=>0,AV.int .i64 fun _=>0,AV.int .i64 fun _=>0] k.toNat=kLo k:=by
  rcases own_kinds k h with rfl|rfl|rfl|rfl|rfl|rfl|rfl|rfl|rfl|rfl<;>rfl
theorem lim_hi (k:Int) (h:¬ (k<1∨10<k)):pickI [AV.int .i64 fun _=>0,AV.int .i64 fun _=>0,AV.int .i64 fun _=>999999999999999,AV.int .i64 fun _=>999999999999999,AV.int .i64 fun _=>1024,AV.int .i64 fun _=>1024,AV.int .i64 fun _=>2932896,AV.int .i64 fun _=>253402300799999,AV.int .i64 fun _=>256,AV.int .i64 fun _=>0,AV.int .i64 fun _=>0] k.toNat=kHi k:=by
  rcases own_kinds k h with rfl|rfl|rfl|rfl|rfl|rfl|rfl|rfl|rfl|rfl<;>rfl
theorem lim_b (k:Int) (h:¬ (k<1∨10<k)):pickB [AV.bool fun _=>false,AV.bool fun _=>false,AV.bool fun _=>true,AV.bool fun _=>true,AV.bool fun _=>true,AV.bool fun _=>true,AV.bool fun _=>true,AV.bool fun _=>true,AV.bool fun _=>true,AV.bool fun _=>false,AV.bool fun _=>false] k.toNat=decide (2≤k∧k≤8):=by
  rcases own_kinds k h with rfl|rfl|rfl|rfl|rfl|rfl|rfl|rfl|rfl|rfl<;>rfl
theorem lim_s (k:Int) (h:¬ (k<1∨10<k)):pickB [AV.bool fun _=>false,AV.bool fun _=>false,AV.bool fun _=>false,AV.bool fun _=>true,AV.bool fun _=>false,AV.bool fun _=>false,AV.bool fun _=>false,AV.bool fun _=>false,AV.bool fun _=>false,AV.bool fun _=>false,AV.bool fun _=>false] k.toNat=decide (k=3):=by
  rcases own_kinds k h with rfl|rfl|rfl|rfl|rfl|rfl|rfl|rfl|rfl|rfl<;>rfl
theorem lim_x (k:Int) (h:¬ (k<1∨10<k)):pickB [AV.bool fun _=>false,AV.bool fun _=>false,AV.bool fun _=>false,AV.bool fun _=>false,AV.bool fun _=>true,AV.bool fun _=>false,AV.bool fun _=>false,AV.bool fun _=>false,AV.bool fun _=>false,AV.bool fun _=>false,AV.bool fun _=>false] k.toNat=decide (k=4):=by
  rcases own_kinds k h with rfl|rfl|rfl|rfl|rfl|rfl|rfl|rfl|rfl|rfl<;>rfl
theorem lim_l (k:Int) (h:¬ (k<1∨10<k)):pickB [AV.bool fun _=>false,AV.bool fun _=>false,AV.bool fun _=>false,AV.bool fun _=>false,AV.bool fun _=>false,AV.bool fun _=>false,AV.bool fun _=>false,AV.bool fun _=>false,AV.bool fun _=>true,AV.bool fun _=>false,AV.bool fun _=>false] k.toNat=decide (k=8):=by
  rcases own_kinds k h with rfl|rfl|rfl|rfl|rfl|rfl|rfl|rfl|rfl|rfl<;>rfl
theorem lim_f (k:Int) (h:¬ (k<1∨10<k)):pickB [AV.bool fun _=>false,AV.bool fun _=>false,AV.bool fun _=>false,AV.bool fun _=>false,AV.bool fun _=>false,AV.bool fun _=>false,AV.bool fun _=>false,AV.bool fun _=>false,AV.bool fun _=>false,AV.bool fun _=>true,AV.bool fun _=>true] k.toNat=decide (k=9∨k=10):=by
  rcases own_kinds k h with rfl|rfl|rfl|rfl|rfl|rfl|rfl|rfl|rfl|rfl<;>rfl
theorem firstI_next {f:Nat→Int} {i:Nat} (h1:fI f i=0) (h2:f i=0):fI f (i+1)=0:=by simp [fI,h1,h2]
theorem own_ok (e d:Nat) (t:Ty) (ht:Ty.le e (d+1) t):Af Tryz.prog 104 [encT e (d+1) .any fun _=>t] [] (.int .i64 fun _=>ownT t) []:=by
  have hfl:=ht.2.2.2.1
  by_cases hk:t.kind<1∨10<t.kind
  · have hE:ownT t=11:=by simp only [ownT,if_pos hk]
    rw [hE]
    (apply Af.of tF mF [.tmp 2] kp104 [(1,[(2,.bool fun _=>false,[])]),(3,[(0,.any,[])])] Tryz.func104 (fun _=>?_);(any_goals ((with_reducible refine wI ?_);cbv;(try dsimp only [nc] at *);(repeat' (with_reducible first|exact aO|exact oN|refine oC ?_ ?_|refine VC.mk rfl ?_ ?_ ?_|(apply Ca.mk<;>intro _)|(apply Cv.mk<;>intro zq<;>(try simp only [nc,cl] at zq)<;>(try simp only [bl,dl] at zq)<;>(revert zq;intro _))|((first|apply xE|apply uE);cbv;(try dsimp only [nc] at *)))))))
    have hin:=in_ok t.kind 1 10
    rw [show decide (1≤t.kind∧t.kind≤10)=false by simp;omega] at hin
    (any_goals ((with_reducible refine bZ ?_)<;>exact hin))
    all_goals (try contradiction)
    ((all_goals (try (with_reducible ((first|refine rE ?_|refine nE ?_);(focus (cbv;(try dsimp only [nc] at *);(try simp only [wl,nc]);(repeat' (with_reducible apply And.intro));all_goals (try exact wZ)))))));(all_goals (try ((with_reducible rw [aC]);(try simp only [wl,nc]);(repeat' (with_reducible apply And.intro));(all_goals (try exact cZ))))))
  obtain ⟨F,hF⟩:∃ F,F=formE t (decide (2≤t.kind∧t.kind≤8)) (decide (t.kind=3)) (decide (t.kind=4)) (decide (t.kind=8)) (decide (t.kind=9∨t.kind=10)):=⟨_,rfl⟩
  obtain ⟨E,hE⟩:∃ E,ownT t=E:=⟨_,rfl⟩
  have hE2:=hE
  simp only [ownT,if_neg hk,← hF] at hE2
  rw [hE]
  have hF3:F=0∨F=3:=by rw [hF];unfold formE;split<;>simp
  have hff:F=0→t.kind=4→t.fields.length=0:=fun h h4=>by
    rw [hF] at h
    unfold formE at h
    split at h
    · cases h
    · rename_i q;simp only [not_or,not_and] at q;have:=q.2.2.2.2;simp [h4] at this;simp [this]
  have hin:=in_ok t.kind 1 10
  rw [show decide (1≤t.kind∧t.kind≤10)=true by simp;omega] at hin
  have hform:=form_ok e (d+1) t (kName t.kind) (kLo t.kind) (kHi t.kind) (decide (2≤t.kind∧t.kind≤8)) (decide (t.kind=3)) (decide (t.kind=4)) (decide (t.kind=8)) (decide (t.kind=9∨t.kind=10))
  rw [← hF] at hform
  (apply Af.of tF mF [.tmp 2] kp104 [(1,[(2,.bool fun _=>true,[])]),(3,[(0,.agg kindsC,[])]),(4,[(2,.int .i64 fun _=>F,[])]),(8,[(1,.int .i64 fun _=>wordsE t,[])]),(12,[(5,.bool fun _=>decide (0≤t.scale∧t.scale≤12),[])])] Tryz.func104 (fun _=>?_);(any_goals ((with_reducible refine wI ?_);cbv;(try dsimp only [nc] at *);(repeat' (with_reducible first|exact aO|exact oN|refine oC ?_ ?_|refine VC.mk rfl ?_ ?_ ?_|(apply Ca.mk<;>intro _)|(apply Cv.mk<;>intro zq<;>(try simp only [nc,cl] at zq)<;>(try simp only [bl,dl] at zq)<;>(revert zq;intro _))|((first|apply xE|apply uE);cbv;(try dsimp only [nc] at *)))))))
  all_goals (try contradiction)
  all_goals (try simp only [lim_n,lim_lo t.kind hk,lim_hi t.kind hk,lim_b t.kind hk,lim_s t.kind hk,lim_x t.kind hk,lim_l t.kind hk,lim_f t.kind hk] at *)
  (all_goals (try simp only [dec_t,dec_f,Int.not_lt,Int.not_le] at *))
  all_goals (try (exfalso;omega))
  (any_goals ((with_reducible refine bZ ?_)<;>exact hin))
  (any_goals ((with_reducible refine bZ ?_)<;>exact kinds_ok))
  (any_goals ((with_reducible refine bZ ?_)<;>exact hform))
  (any_goals ((with_reducible refine bZ ?_);(try dsimp only);(have q:=(words_ok e d t ht);refine Af.wN q ?_;clear q);(focus (cbv;(try dsimp only [nc] at *);(try simp only [wl,nc]);(repeat' (with_reducible apply And.intro));all_goals (try exact wZ)))))
  (any_goals ((with_reducible refine bZ ?_)<;>exact (in_ok _ _ _)))
  ((all_goals (try (with_reducible ((first|refine rE ?_|refine nE ?_);(focus (cbv;(try dsimp only [nc] at *);(try simp only [wl,nc]);(repeat' (with_reducible apply And.intro));all_goals (try exact wZ)))))));(all_goals (try ((with_reducible rw [aC]);(try simp only [wl,nc]);(repeat' (with_reducible apply And.intro));(all_goals (try exact cZ))))))
  all_goals
    have hL:fI (fieldE t) t.fields.length=E:=by
      first
        | (have hz:=hff ‹F=0› (by omega);rw [hz];simp only [fI];omega)
        | (rw [← hE2,if_neg (by omega),if_neg (by omega),if_neg (by omega),if_neg (by omega),if_neg (by omega),if_neg (by omega)])
    have hzz:t.kind=4∧0<t.words.length→t.fields.length=0:=fun q=>hff ‹F=0› q.1
    clear hE2 hE
    refine .loop (fun i:Nat=>⟨116,[(106,.int .i64 fun _=>i),(105,.int .i64 fun _=>t.fields.length),(1,.ptr 1 0)],[(1,.box (cl' e (d+1) .any fun _=>t))]⟩)
      (fun i=>i≤t.fields.length∧fI (fieldE t) i=0) (fun i=>t.fields.length - i) 0 (by simp [fI]) ?_ fun i E hi=>?_
    · (focus (cbv;(try dsimp only [nc] at *);(try simp only [wl,nc]);(repeat' (with_reducible apply And.intro));all_goals (try exact wZ)))
    apply AWp.wk tF mF [(24,[(2,.int .i64 fun _=>fieldE t i,[])])] kp104 ?_
    (any_goals ((with_reducible refine wI ?_);cbv;(try dsimp only [nc] at *);(repeat' (with_reducible first|exact aO|exact oN|refine oC ?_ ?_|refine VC.mk rfl ?_ ?_ ?_|(apply Ca.mk<;>intro _)|(apply Cv.mk<;>intro zq<;>(try simp only [nc,cl] at zq)<;>(try simp only [bl,dl] at zq)<;>(revert zq;intro _))|((first|apply xE|apply uE);cbv;(try dsimp only [nc] at *))))))
    (any_goals ((with_reducible refine bZ ?_)<;>exact (field_ok e d t ht i (by omega))))
    ((all_goals (try (with_reducible ((first|refine rE ?_|refine nE ?_);(focus (cbv;(try dsimp only [nc] at *);(try simp only [wl,nc]);(repeat' (with_reducible apply And.intro));all_goals (try exact wZ)))))));(all_goals (try ((with_reducible rw [aC]);(try simp only [wl,nc]);(repeat' (with_reducible apply And.intro));(all_goals (try exact cZ))))))
    all_goals first
      | (exfalso;have q:=hzz (by omega);omega)
      | exact ((firstI_at (f:=fieldE t) (n:=t.fields.length) (i:=i) (by omega) hi.2 ‹_›).symm.trans hL)
      | (refine dE (i+1) ?_ ?_
         · exact ⟨⟨by omega,firstI_next hi.2 ‹fieldE t i=0›⟩,by omega⟩
         · (focus (cbv;(try dsimp only [nc] at *);(try simp only [wl,nc]);(repeat' (with_reducible apply And.intro));all_goals (try exact wZ)))
           exact w64n (by omega))
      | (have:i=t.fields.length:=by omega
         rw [← hL,← this];exact hi.2.symm)
      | skip
end Go.Ai
