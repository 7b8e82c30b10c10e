/- Chapter 10: Parts, Join. -/
import Derived.Test.YtlplmdipoacnlaaGreatDoorDecA
import Derived.Test.YtlplmdipoacnlaaGreatDoorWrA
import Derived.Test.YtlplmdipoacnlaaGreatDoorEncC
set_option linter.all false
namespace Go.Ai
open Go Go.Proofs
set_option maxRecDepth 100000
set_option maxHeartbeats 4000000
def partsV (s:ByteArray):PL×Int×Int :=
  if (longR (fieldsV (rdAt s 0)).2).e≠0 then ([],(longR (fieldsV (rdAt s 0)).2).bad,(longR (fieldsV (rdAt s 0)).2).e) else ((fieldsV (rdAt s 0)).1,0,0)
def slcP (l:Unit→PL):AV:=.slc .any 2 (fun _=>(l ()).length) (rowsP l)
theorem Parts_ok (s:ByteArray) (hs:s.size≤1073741824):Af Tryz.prog 29 [.str fun _=>s] [] (.tup [slcP fun _=>(partsV s).1,.int .i64 fun _=>(partsV s).2.1,.int .i64 fun _=>(partsV s).2.2]) []:=by
  have hg:(rdAt s 0).good:=rdAt_good (by omega) (by omega) (by omega)
  have hF:=fieldsA_ok (rdAt s 0) hg hs
  obtain ⟨X,hX⟩:∃ X,X=fieldsV (rdAt s 0):=⟨_,rfl⟩
  obtain ⟨P,hP⟩:∃ P,P=partsV s:=⟨_,rfl⟩
  have hPe:P=if (longR X.2).e≠0 then ([],(longR X.2).bad,(longR X.2).e) else (X.1,0,0):=by rw [hP,hX];rfl
  rw [← hX] at hF
  rw [← hP]
  have hL:=fail_ok X.2 X.2.pos 5
  obtain ⟨Y,hY⟩:∃ Y,Y=X.2.fail X.2.pos 5:=⟨_,rfl⟩
  rw [← hY] at hL
  have h1:X.2.pos<X.2.fin→longR X.2=Y:=fun h=>by rw [longR,if_pos h,hY]
  have h2:X.2.fin≤X.2.pos→longR X.2=X.2:=fun h=>by rw [longR,if_neg (by omega)]
  clear hX hP hY
  (apply Af.of tF mF [.cell 2 52,.tmp 3,.tmp 4] kq29 [(2,[(2,.tup [],[(1000,Rd.box fun _=>X.2),(1001001000,.box [.aref 200 1 fun _=>X.1.length]),(200,.arr false 60 2 1 (fun _=>X.1.length) (rowsP fun _=>X.1))])]),(4,[(5,.tup [],[(1000,Rd.box fun _=>Y)])])] Tryz.func29 (fun _=>?_);(any_goals ((with_reducible refine wI ?_);cbv;(try dsimp only [nc] at *);(repeat' (with_reducible first|exact aN.2 trivial|exact oN|refine oC ?_ ?_|refine VC.mk rfl ?_ ?_ ?_|refine Ca.mk (fun _=>?_) (fun _=>?_)|(refine Cv.mk ?_ ?_<;>intro zq<;>(try simp only [nc,cl] at zq)<;>(try simp only [bl,dl] at zq)<;>(revert zq;intro _))|((first|refine xE ?_|refine uE ?_);cbv;(try dsimp only [nc] at *)))))))
  (any_goals ((with_reducible first|refine nO ?_|refine sO (fun _=>?_));(try dsimp only);(have q:=hF;refine Af.wN q ?_;clear q);(focus (cbv;(try dsimp only [nc] at *);(try simp only [wl,nc]);(repeat' (with_reducible apply And.intro));all_goals (try exact wZ)))))
  (any_goals ((with_reducible first|refine nO ?_|refine sO (fun _=>?_))<;>exact hL))
  ((all_goals (try (with_reducible ((first|refine rE ?_|refine nE ?_);(focus (cbv;(try dsimp only [nc] at *);(try simp only [wl,nc]);(repeat' (with_reducible apply And.intro));all_goals (try exact wZ)))))));(all_goals (try ((with_reducible rw [aC]);(try simp only [wl,nc]);(repeat' (with_reducible apply And.intro));(all_goals (try exact cZ))))))
  all_goals
    have hPq:P=(if Y.e≠0∧X.2.pos<X.2.fin then ([],Y.bad,Y.e) else if ¬ X.2.pos<X.2.fin∧X.2.e≠0 then ([],X.2.bad,X.2.e) else (X.1,0,0)):=by
      rw [hPe]
      by_cases hq:X.2.pos<X.2.fin
      · rw [h1 hq]
        by_cases he:Y.e=0
        · rw [if_neg (fun z=>z he),if_neg (fun z=>z.1 he),if_neg (fun z=>z.1 hq)]
        · rw [if_pos he,if_pos ⟨he,hq⟩]
      · rw [h2 (by omega),if_neg (c:=Y.e≠0∧X.2.pos<X.2.fin) (fun z=>hq z.2)]
        by_cases he:X.2.e=0
        · rw [if_neg (fun z=>z he),if_neg (fun z=>z.2 he)]
        · rw [if_pos he,if_pos ⟨hq,he⟩]
    first
      | (rw [hPq,if_pos ⟨‹¬ Y.e=0›,‹X.2.pos<X.2.fin›⟩];first|done|rfl)
      | (rw [hPq,if_neg (fun z=>z.1 ‹Y.e=0›),if_neg (fun z=>z.1 ‹X.2.pos<X.2.fin›)];first|done|exact fun i _=>LeL.of_eq rfl)
      | (rw [hPq,if_neg (c:=Y.e≠0∧X.2.pos<X.2.fin) (fun z=>by omega),if_pos ⟨by omega,‹¬ X.2.e=0›⟩];first|done|rfl)
      | (rw [hPq,if_neg (c:=Y.e≠0∧X.2.pos<X.2.fin) (fun z=>by omega),if_neg (fun z=>z.2 ‹X.2.e=0›)];first|done|exact fun i _=>LeL.of_eq rfl)
def partN (x:Int×ByteArray):List Nat:=putN x.1.toNat++(putN x.2.size++strN x.2)
def joinL:PL→Int→List Nat→List Nat×Int
  | [],_,out=>(out,0)
  | x :: r,last,out=>if x.1<1∨9999<x.1 then ([],2) else if x.1≤last then ([],24) else joinL r x.1 (out++partN x)
def joinV (l:PL):ByteArray×Int:=(if (joinL l 0 (putN l.length)).2≠0 then ⟨#[]⟩ else baL (joinL l 0 (putN l.length)).1,(joinL l 0 (putN l.length)).2)
theorem partN_len (x:Int×ByteArray) (h:x.1≤9999) (hs:x.2.size≤1048576):(partN x).length≤1048600:=by
  have h1:=putN_len 8 x.1.toNat (by omega)
  have h2:=putN_len 8 x.2.size (by omega)
  simp only [partN,List.length_append,sN];omega
def joinB (i:Nat):Nat:=9+i * 1048600
theorem joinB_succ (i:Nat):joinB (i+1)=joinB i+1048600:=by simp only [joinB];omega
theorem joinB_le {i:Nat} (h:i≤1048576):joinB i≤2000000000000:=by
  have:i * 1048600≤1048576 * 1048600:=Nat.mul_le_mul_right _ h
  simp only [joinB];omega
theorem Join_ok (l:PL) (hl:l.length≤1048576) (hs:∀ x ∈ l,x.2.size≤1048576):Af Tryz.prog 31 [slcP fun _=>l] [] (.tup [.str fun _=>(joinV l).1,.int .i64 fun _=>(joinV l).2]) []:=by
  obtain ⟨J,hJ⟩:∃ J,J=joinV l:=⟨_,rfl⟩
  rw [← hJ]
  obtain ⟨R,hR⟩:∃ R,R=joinL l 0 (putN l.length):=⟨_,rfl⟩
  have hJe:J=(if R.2≠0 then ⟨#[]⟩ else baL R.1,R.2):=by rw [hJ,hR];rfl
  obtain ⟨q,hq⟩:∃ q,q=putN l.length:=⟨_,rfl⟩
  have hp:=put_nil l.length (by omega) q hq
  have hql:=putN_len 8 l.length (by omega)
  rw [← hq] at hR hql
  clear hJ hq
  (apply Af.of tF mF [.tmp 2,.tmp 3] kq31 [(1,[(2,.aref 15 0 fun _=>q.length,[(15,.arr false 5 1 0 (fun _=>q.length) (bytF q))])])] Tryz.func31 (fun _=>?_);(any_goals ((with_reducible refine wI ?_);cbv;(try dsimp only [nc] at *);(repeat' (with_reducible first|exact aN.2 trivial|exact oN|refine oC ?_ ?_|refine VC.mk rfl ?_ ?_ ?_|refine Ca.mk (fun _=>?_) (fun _=>?_)|(refine Cv.mk ?_ ?_<;>intro zq<;>(try simp only [nc,cl] at zq)<;>(try simp only [bl,dl] at zq)<;>(revert zq;intro _))|((first|refine xE ?_|refine uE ?_);cbv;(try dsimp only [nc] at *)))))))
  (any_goals ((with_reducible first|refine nO ?_|refine sO (fun _=>?_))<;>exact hp))
  ((all_goals (try (with_reducible ((first|refine rE ?_|refine nE ?_);(focus (cbv;(try dsimp only [nc] at *);(try simp only [wl,nc]);(repeat' (with_reducible apply And.intro));all_goals (try exact wZ)))))));(all_goals (try ((with_reducible rw [aC]);(try simp only [wl,nc]);(repeat' (with_reducible apply And.intro));(all_goals (try exact cZ))))))
  refine .loop (fun p:Nat×Int×List Nat=>⟨48,[(13,.int .i64 fun _=>p.1),(12,.int .i64 fun _=>l.length),(11,slcP fun _=>l),(5,.int .i64 fun _=>p.2.1),(4,.aref 110015 0 fun _=>p.2.2.length)],[(110015,.arr false 5 1 0 (fun _=>p.2.2.length) (bytF p.2.2))]⟩)
    (fun p=>p.1≤l.length∧p.2.2.length≤joinB p.1∧R=joinL (l.drop p.1) p.2.1 p.2.2) (fun p=>l.length - p.1) (0,0,q) ⟨Nat.zero_le _,by simpa [joinB] using hql,by simpa using hR⟩ ?_ fun p E hi=>?_
  · (focus (cbv;(try dsimp only [nc] at *);(try simp only [wl,nc]);(repeat' (with_reducible apply And.intro));all_goals (try exact wZ)))
  obtain ⟨i1,i2,i3⟩:=hi
  have hmul:=joinB_le (show p.1≤1048576 by omega)
  have hmul2:=joinB_succ p.1
  by_cases h:p.1<l.length
  · obtain ⟨x,hx⟩:∃ x,x=l.getD p.1 default:=⟨_,rfl⟩
    have hxm:x ∈ l:=by rw [hx];exact getD_mem h
    have hxs:=hs x hxm
    have hd:l.drop p.1=x :: l.drop (p.1+1):=by
      rw [List.drop_eq_getElem_cons h,hx,List.getD_eq_getElem?_getD,List.getElem?_eq_getElem h,Option.getD_some]
    rw [hd] at i3
    simp only [joinL] at i3
    obtain ⟨a1,ha1⟩:∃ a1,a1=p.2.2++putN x.1.toNat:=⟨_,rfl⟩
    obtain ⟨a2,ha2⟩:∃ a2,a2=a1++putN x.2.size:=⟨_,rfl⟩
    obtain ⟨a3,ha3⟩:∃ a3,a3=a2++strN x.2:=⟨_,rfl⟩
    have h3:p.2.2++partN x=a3:=by rw [ha3,ha2,ha1,partN];simp only [List.append_assoc]
    have hl2:a2.length+x.2.size=a3.length:=by rw [ha3,List.length_append,sN]
    have hl1:a1.length≤a2.length:=by rw [ha2,List.length_append];omega
    have hl0:p.2.2.length≤a1.length:=by rw [ha1,List.length_append];omega
    have hb3:1≤x.1∧x.1≤9999→a3.length≤joinB (p.1+1):=fun z=>by
      have:=partN_len x z.2 hxs
      rw [← h3,List.length_append];omega
    have hp1:1≤x.1∧x.1≤9999→Af Tryz.prog 51 [.aref 1000 0 fun _=>p.2.2.length,.int .i64 fun _=>x.1] (outO p.2.2 0) (.aref 1000 1 fun _=>a1.length) (outO a1 1):=fun z=>by
      have:=put_false p.2.2 x.1.toNat (by omega) (by omega) a1 ha1
      rwa [show (x.1.toNat:Int)=x.1 by omega] at this
    have hp2:1≤x.1∧x.1≤9999→Af Tryz.prog 51 [.aref 1000 0 fun _=>a1.length,.int .i64 fun _=>x.2.size] (outO a1 0) (.aref 1000 1 fun _=>a2.length) (outO a2 1):=fun z=>by
      have:=hb3 z
      exact put_false a1 x.2.size (by omega) (by omega) a2 ha2
    rw [h3] at i3
    apply AWp.wk tF mF [(11,[(3,.aref 1000 1 fun _=>a1.length,outO a1 1)]),(12,[(4,.aref 1000 1 fun _=>a2.length,outO a2 1)])] kq31 ?_
    (any_goals ((with_reducible refine wI ?_);cbv;(try dsimp only [nc] at *);(repeat' (with_reducible first|exact aN.2 trivial|exact oN|refine oC ?_ ?_|refine VC.mk rfl ?_ ?_ ?_|refine Ca.mk (fun _=>?_) (fun _=>?_)|(refine Cv.mk ?_ ?_<;>intro zq<;>(try simp only [nc,cl] at zq)<;>(try simp only [bl,dl] at zq)<;>(revert zq;intro _))|((first|refine xE ?_|refine uE ?_);cbv;(try dsimp only [nc] at *))))))
    all_goals (try exact absurd h (Nat.not_lt.2 ‹l.length≤p.1›))
    all_goals (try simp only [Int.toNat_natCast,← hx] at *)
    any_goals (with_reducible refine nO ?_)<;>first
      | exact hp1 ‹1≤x.1∧x.1≤9999›
      | exact hp2 ‹1≤x.1∧x.1≤9999›
    ((all_goals (try (with_reducible ((first|refine rE ?_|refine nE ?_);(focus (cbv;(try dsimp only [nc] at *);(try simp only [wl,nc]);(repeat' (with_reducible apply And.intro));all_goals (try exact wZ)))))));(all_goals (try ((with_reducible rw [aC]);(try simp only [wl,nc]);(repeat' (with_reducible apply And.intro));(all_goals (try exact cZ))))))
    · rw [if_pos ‹x.1<1∨9999<x.1›] at i3
      rw [hJe,i3];rfl
    · rw [if_pos ‹x.1<1∨9999<x.1›] at i3
      rw [hJe,i3]
    · rw [if_neg (show ¬ (x.1<1∨9999<x.1) by omega),if_pos ‹x.1≤p.2.1›] at i3
      rw [hJe,i3];rfl
    · rw [if_neg (show ¬ (x.1<1∨9999<x.1) by omega),if_pos ‹x.1≤p.2.1›] at i3
      rw [hJe,i3]
    · have hk:=‹1≤x.1∧x.1≤9999›
      rw [if_neg (show ¬ (x.1<1∨9999<x.1) by omega),if_neg (show ¬ x.1≤p.2.1 by omega)] at i3
      refine dE (p.1+1,x.1,a3) ⟨⟨by show p.1+1≤_;omega,by show a3.length≤joinB (p.1+1);exact hb3 hk,i3⟩,by show _ - (p.1+1)<_ - p.1;omega⟩ ?_
      (focus (cbv;(try dsimp only [nc] at *);(try simp only [wl,nc]);(repeat' (with_reducible apply And.intro));all_goals (try exact wZ)))
      all_goals first
        | exact w64n (by omega)
        | exact hl2
        | (rw [ha3,← sN]
           refine bytF_cat rfl fun k hk=>?_
           show LeL [AV.int .u8 fun _=>(((x.2.data[k]?).getD 0).toNat:Int)] [AV.int .u8 fun _=>(((strN x.2).getD k 0:Nat):Int)]
           rw [byt_strN];exact LeL.of_eq rfl)
  · rw [List.drop_eq_nil_of_le (by omega)] at i3
    simp only [joinL] at i3
    apply AWp.wk tF mF [(11,[(3,.nil,[])]),(12,[(4,.nil,[])])] kq31 ?_
    (any_goals ((with_reducible refine wI ?_);cbv;(try dsimp only [nc] at *);(repeat' (with_reducible first|exact aN.2 trivial|exact oN|refine oC ?_ ?_|refine VC.mk rfl ?_ ?_ ?_|refine Ca.mk (fun _=>?_) (fun _=>?_)|(refine Cv.mk ?_ ?_<;>intro zq<;>(try simp only [nc,cl] at zq)<;>(try simp only [bl,dl] at zq)<;>(revert zq;intro _))|((first|refine xE ?_|refine uE ?_);cbv;(try dsimp only [nc] at *))))))
    all_goals (try exact absurd ‹p.1<l.length› h)
    ((all_goals (try (with_reducible ((first|refine rE ?_|refine nE ?_);(focus (cbv;(try dsimp only [nc] at *);(try simp only [wl,nc]);(repeat' (with_reducible apply And.intro));all_goals (try exact wZ)))))));(all_goals (try ((with_reducible rw [aC]);(try simp only [wl,nc]);(repeat' (with_reducible apply And.intro));(all_goals (try exact cZ))))))
    · exact fun i _=>isByte_bytF _ i
    · rw [hJe,i3,bytesA_bytF _ _ rfl];rfl
    · rw [hJe,i3]
end Go.Ai

namespace Go.Ai
open Go Go.Proofs
set_option maxRecDepth 100000
set_option maxHeartbeats 2000000
def sgm (s:ByteArray) (a b:Nat):List Nat:=((strN s).take b).drop a
theorem strN_ext (s:ByteArray) {a b:Nat}:strN (s.extract a b)=sgm s a b:=by
  unfold sgm strN
  rw [ByteArray.data_extract,Array.toList_extract,← List.map_take,← List.map_drop]
  congr 1
  rw [List.extract_eq_drop_take,List.drop_take]
end Go.Ai
