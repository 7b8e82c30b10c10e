/- Small types and small values. -/
import Derived.Test.YtlplmdipoacnlaaGreatDoorTyF
set_option linter.all false
namespace Go.Ai
open Go Go.Proofs
set_option maxRecDepth 100000
set_option maxHeartbeats 4000000
def goS {α:Type} (f:α→Int→Bool×Int):List α→Int→Bool×Int
 | [],l=>(true,l)
 | x :: xs,l=>if (f x l).1=true then goS f xs (f x l).2 else (false,(f x l).2)
def smallV:Nat→Int→V→Int→Bool×Int
 | 0,_,_,l=>(true,l)
 | d+1,lev,v,l =>
  if l - 1<0∨lev=0∨2000<v.text.size then (false,l - 1) else
  if (goS (smallV d (lev - 1)) v.list (l - 1)).1=true then goS (fun (x:ByteArray×V) l=>if 100<x.1.size then (false,l) else smallV d (lev - 1) x.2 l) v.fields (goS (smallV d (lev - 1)) v.list (l - 1)).2
  else (false,(goS (smallV d (lev - 1)) v.list (l - 1)).2)
def wordsSmall (w:List ByteArray):Bool:=w.all fun x=>decide (x.size≤2000)
def smallD (e:Nat) (x:TF):Bool:=decide ((fDef x).length≤3) && decide ((fM x).size≤100) && (fDef x).all fun v=>(smallV e 12 v 300).1
def smallT (e:Nat):Nat→Int→Ty→Int→Bool×Int
 | 0,_,_,l=>(true,l)
 | d+1,lev,t,l =>
  if l - 1<0∨lev=0∨70<t.words.length∨wordsSmall t.words=false then (false,l - 1) else
  if (goS (smallT e d (lev - 1)) t.elem (l - 1)).1=true then goS (fun (x:TF) l=>if (smallT e d (lev - 1) (fT x) l).1=true∧smallD e x=true then (true,(smallT e d (lev - 1) (fT x) l).2) else (false,(smallT e d (lev - 1) (fT x) l).2)) t.fields (goS (smallT e d (lev - 1)) t.elem (l - 1)).2
  else (false,(goS (smallT e d (lev - 1)) t.elem (l - 1)).2)
def LeftOk (r:Bool×Int) (l:Int):Prop := -1≤r.2∧r.2≤l∧(r.1=true→0≤r.2)
theorem goS_left {α:Type} {f:α→Int→Bool×Int}:∀ (xs:List α) (l:Int),(∀ x ∈ xs,∀ l,0≤l→LeftOk (f x l) l)→0≤l→LeftOk (goS f xs l) l
 | [],l,_,h0=>⟨by simp only [goS];omega,Int.le_refl _,fun _=>h0⟩
 | x :: xs,l,h,h0=>by
  have h1:=h x (by simp) l h0
  simp only [goS]
  split
  ·have h2:=goS_left xs (f x l).2 (fun y hy=>h y (by simp [hy])) (h1.2.2 ‹_›)
   exact ⟨h2.1,by have:=h1.2.1;have:=h2.2.1;omega,h2.2.2⟩
  ·exact ⟨h1.1,h1.2.1,fun q=>by cases q⟩
theorem smallV_left:∀ (d:Nat) (lev:Int) (v:V) (l:Int),0≤l→LeftOk (smallV d lev v l) l
 | 0,_,_,l,h=>⟨by simp only [smallV];omega,Int.le_refl _,fun _=>h⟩
 | d + 1,lev,v,l,h=>by
  simp only [smallV]
  split
  ·exact ⟨by show -1≤l - 1;omega,by show l - 1≤l;omega,fun q=>by cases q⟩
  ·rename_i hc
   have h1:=goS_left (f:=smallV d (lev - 1)) v.list (l - 1) (fun x _ l hl=>smallV_left d (lev - 1) x l hl) (by omega)
   split
   ·have h2:=goS_left (f:=fun (x:ByteArray×V) l=>if 100<x.1.size then (false,l) else smallV d (lev - 1) x.2 l) v.fields (goS (smallV d (lev - 1)) v.list (l - 1)).2 (fun x _ l hl=>by
     show LeftOk (if 100<x.1.size then (false,l) else smallV d (lev - 1) x.2 l) l
     split
     ·exact ⟨by show -1≤l;omega,Int.le_refl _,fun q=>by cases q⟩
     ·exact smallV_left d (lev - 1) x.2 l hl) (h1.2.2 ‹_›)
    exact ⟨h2.1,by have:=h1.2.1;have:=h2.2.1;omega,h2.2.2⟩
   ·exact ⟨h1.1,by have:=h1.2.1;show (goS (smallV d (lev - 1)) v.list (l - 1)).2≤l;omega,fun q=>by cases q⟩
theorem smallT_left (e:Nat):∀ (d:Nat) (lev:Int) (t:Ty) (l:Int),0≤l→LeftOk (smallT e d lev t l) l
 | 0,_,_,l,h=>⟨by simp only [smallT];omega,Int.le_refl _,fun _=>h⟩
 | d + 1,lev,t,l,h=>by
  simp only [smallT]
  split
  ·exact ⟨by show -1≤l - 1;omega,by show l - 1≤l;omega,fun q=>by cases q⟩
  ·rename_i hc
   have h1:=goS_left (f:=smallT e d (lev - 1)) t.elem (l - 1) (fun x _ l hl=>smallT_left e d (lev - 1) x l hl) (by omega)
   split
   ·have h2:=goS_left (f:=fun (x:TF) l=>if (smallT e d (lev - 1) (fT x) l).1=true∧smallD e x=true then (true,(smallT e d (lev - 1) (fT x) l).2) else (false,(smallT e d (lev - 1) (fT x) l).2)) t.fields (goS (smallT e d (lev - 1)) t.elem (l - 1)).2 (fun x _ l hl=>by
     have q:=smallT_left e d (lev - 1) (fT x) l hl
     show LeftOk (if (smallT e d (lev - 1) (fT x) l).1=true∧smallD e x=true then (true,(smallT e d (lev - 1) (fT x) l).2) else (false,(smallT e d (lev - 1) (fT x) l).2)) l
     split
     ·exact ⟨q.1,q.2.1,fun _=>q.2.2 (And.left ‹_∧_›)⟩
     ·exact ⟨q.1,q.2.1,fun z=>by cases z⟩) (h1.2.2 ‹_›)
    exact ⟨h2.1,by have:=h1.2.1;have:=h2.2.1;omega,h2.2.2⟩
   ·exact ⟨h1.1,by have:=h1.2.1;show (goS (smallT e d (lev - 1)) t.elem (l - 1)).2≤l;omega,fun q=>by cases q⟩
theorem goS_step {α:Type} [Inhabited α] {f:α→Int→Bool×Int} {l:List α} {i:Nat} {a:Int} (h:i<l.length):goS f (l.drop i) a=if (f (l.getD i default) a).1=true then goS f (l.drop (i+1)) (f (l.getD i default) a).2 else (false,(f (l.getD i default) a).2):=by
 rw [List.drop_eq_getElem_cons h,goS,List.getD_eq_getElem?_getD,List.getElem?_eq_getElem h,Option.getD_some]
theorem goS_end {α:Type} {f:α→Int→Bool×Int} {l:List α} {i:Nat} {a:Int} (h:l.length≤i):goS f (l.drop i) a=(true,a):=by
 rw [List.drop_eq_nil_of_le h];rfl
theorem smallV_step (d:Nat) (lev:Int) (v:V) (l:Int) (hv:V.le (d+1) v) (h0:0≤lev∧lev≤1073741824) (hl:0≤l∧l≤1073741824)
 (ih:∀ x,V.le d x→∀ l,0≤l∧l≤1073741824→0<lev→Af Tryz.prog 39 [encV d .any fun _=>x,.int .i64 fun _=>lev - 1,.ptr 1002 0] [(1002,.box [.int .i64 fun _=>l])] (.bool fun _=>(smallV d (lev - 1) x l).1) [(1002,.box [.int .i64 fun _=>(smallV d (lev - 1) x l).2])]) :
 Af Tryz.prog 39 [encV (d+1) .any fun _=>v,.int .i64 fun _=>lev,.ptr 1002 0] [(1002,.box [.int .i64 fun _=>l])] (.bool fun _=>(smallV (d+1) lev v l).1) [(1002,.box [.int .i64 fun _=>(smallV (d+1) lev v l).2])]:=by
 have hvl:=hv.1
 have hvf:=hv.2.1
 obtain ⟨R,hR⟩:∃ R:Bool×Int,R=smallV (d+1) lev v l:=⟨_,rfl⟩
 rw [← hR]
 obtain ⟨F,hF⟩:∃ F:V→Int→Bool×Int,F=smallV d (lev - 1):=⟨_,rfl⟩
 obtain ⟨G,hG⟩:∃ G:ByteArray×V→Int→Bool×Int,G=fun x l=>if 100<x.1.size then (false,l) else F x.2 l:=⟨_,rfl⟩
 have hRe:R=if l - 1<0∨lev=0∨2000<v.text.size then (false,l - 1) else if (goS F v.list (l - 1)).1=true then goS G v.fields (goS F v.list (l - 1)).2 else (false,(goS F v.list (l - 1)).2):=by
  rw [hR,hG,hF];rfl
 have hw:IntKind.i64.wrap (l - 1)=l - 1:=w64 (by omega) (by omega)
 (apply Af.of tF mF [.tmp 6] kp39 [(0,[(0,.nil,[])])] Tryz.func39 (fun _=>?_);(any_goals ((with_reducible refine wI ?_);cbv;(try dsimp only [nc] at *);(repeat' (with_reducible first|exact aO|exact oN|refine oC ?_ ?_|refine VC.mk rfl ?_ ?_ ?_|(apply Ca.mk<;>intro _)|(apply Cv.mk<;>intro zq<;>(try simp only [nc,cl] at zq)<;>(try simp only [bl,dl] at zq)<;>(revert zq;intro _))|((first|apply xE|apply uE);cbv;(try dsimp only [nc] at *)))))))
 all_goals (try simp only [hw] at *)
 ((all_goals (try (with_reducible ((first|refine rE ?_|refine nE ?_);(focus (cbv;(try dsimp only [nc] at *);(try simp only [wl,nc]);(repeat' (with_reducible apply And.intro));all_goals (try exact wZ)))))));(all_goals (try ((with_reducible rw [aC]);(try simp only [wl,nc]);(repeat' (with_reducible apply And.intro));(all_goals (try exact cZ))))))
 ·rw [hRe,if_pos (by omega)]
 ·rw [hRe,if_pos (by omega)]
 have hn:¬ (l - 1<0∨lev=0∨2000<v.text.size):=by omega
 have hR1:R=if (goS F v.list (l - 1)).1=true then goS G v.fields (goS F v.list (l - 1)).2 else (false,(goS F v.list (l - 1)).2):=by rw [hRe,if_neg hn]
 refine .loop (fun p:Nat×Int=>⟨73,[(7,.int .i64 fun _=>p.1),(3,boxW (d+1) fun _=>v),(1,.int .i64 fun _=>lev),(2,.ptr 1002 0)],[(1002,.box [.int .i64 fun _=>p.2])]⟩)
  (fun p=>p.1≤v.list.length∧(0≤p.2∧p.2≤1073741824)∧goS F v.list (l - 1)=goS F (v.list.drop p.1) p.2) (fun p=>v.list.length - p.1) (0,l - 1) ⟨by simp,by simp;omega,by simp⟩ ?_ fun p E hi=>?_
 ·(focus (cbv;(try dsimp only [nc] at *);(try simp only [wl,nc]);(repeat' (with_reducible apply And.intro));all_goals (try exact wZ)))
 by_cases h:p.1<v.list.length
 ·obtain ⟨x,hx⟩:∃ x,x=v.list.getD p.1 default:=⟨_,rfl⟩
  have hxm:x ∈ v.list:=by rw [hx];exact gD h
  have hst:=hi.2.2
  rw [goS_step h,← hx] at hst
  have hih:=ih x (hv.2.2.2.1 x hxm) p.2 hi.2.1 (by omega)
  have hFx:F x p.2=smallV d (lev - 1) x p.2:=by rw [hF]
  have hleft:=smallV_left d (lev - 1) x p.2 hi.2.1.1
  rw [← hFx] at hih hleft
  apply AWp.wk tF mF [(7,[(8,.bool fun _=>(F x p.2).1,[(1002,.box [.int .i64 fun _=>(F x p.2).2])])])] kp39 ?_
  (any_goals ((with_reducible refine wI ?_);cbv;(try dsimp only [nc] at *);(repeat' (with_reducible first|exact aO|exact oN|refine oC ?_ ?_|refine VC.mk rfl ?_ ?_ ?_|(apply Ca.mk<;>intro _)|(apply Cv.mk<;>intro zq<;>(try simp only [nc,cl] at zq)<;>(try simp only [bl,dl] at zq)<;>(revert zq;intro _))|((first|apply xE|apply uE);cbv;(try dsimp only [nc] at *))))))
  all_goals (try exact absurd h (Nat.not_lt.2 ‹v.list.length≤p.1›))
  all_goals (try simp only [Int.toNat_natCast,← hx])
  (any_goals ((with_reducible refine bZ ?_);(try dsimp only);(have q:=hih;refine Af.wN q ?_;clear q);(focus (cbv;(try dsimp only [nc] at *);(try simp only [wl,nc]);(repeat' (with_reducible apply And.intro));all_goals (try exact wZ)))))
  ((all_goals (try (with_reducible ((first|refine rE ?_|refine nE ?_);(focus (cbv;(try dsimp only [nc] at *);(try simp only [wl,nc]);(repeat' (with_reducible apply And.intro));all_goals (try exact wZ)))))));(all_goals (try ((with_reducible rw [aC]);(try simp only [wl,nc]);(repeat' (with_reducible apply And.intro));(all_goals (try exact cZ))))))
  ·exact w64 (by omega) (by omega)
  ·rw [hR1,hst,‹(F x p.2).1=false›];rfl
  ·rw [hR1,hst,‹(F x p.2).1=false›];rfl
  ·rw [if_pos ‹(F x p.2).1=true›] at hst
   have:=hleft.2.2 ‹(F x p.2).1=true›
   have:=hleft.2.1
   refine dE (p.1+1,(F x p.2).2) ⟨⟨by show p.1+1≤_;omega,by show 0≤(F x p.2).2∧(F x p.2).2≤_;omega,hst⟩,by show _ - (p.1+1)<_ - p.1;omega⟩ ?_
   (focus (cbv;(try dsimp only [nc] at *);(try simp only [wl,nc]);(repeat' (with_reducible apply And.intro));all_goals (try exact wZ)))
   exact w64n (by omega)
 ·have hge:v.list.length≤p.1:=by omega
  have hR2:R=goS G v.fields p.2:=by rw [hR1,hi.2.2,goS_end hge,if_pos rfl]
  apply AWp.wk tF mF [(7,[(8,.bool fun _=>true,[(1002,.box [.int .i64 fun _=>0])])])] kp39 ?_
  (any_goals ((with_reducible refine wI ?_);cbv;(try dsimp only [nc] at *);(repeat' (with_reducible first|exact aO|exact oN|refine oC ?_ ?_|refine VC.mk rfl ?_ ?_ ?_|(apply Ca.mk<;>intro _)|(apply Cv.mk<;>intro zq<;>(try simp only [nc,cl] at zq)<;>(try simp only [bl,dl] at zq)<;>(revert zq;intro _))|((first|apply xE|apply uE);cbv;(try dsimp only [nc] at *))))))
  all_goals (try exact absurd ‹p.1<v.list.length› h)
  ((all_goals (try (with_reducible ((first|refine rE ?_|refine nE ?_);(focus (cbv;(try dsimp only [nc] at *);(try simp only [wl,nc]);(repeat' (with_reducible apply And.intro));all_goals (try exact wZ)))))));(all_goals (try ((with_reducible rw [aC]);(try simp only [wl,nc]);(repeat' (with_reducible apply And.intro));(all_goals (try exact cZ))))))
  have hb:=hi.2.1
  clear hi h
  refine .loop (fun q:Nat×Int=>⟨73,[(8,.int .i64 fun _=>q.1),(3,boxW (d+1) fun _=>v),(1,.int .i64 fun _=>lev),(2,.ptr 1002 0)],[(1002,.box [.int .i64 fun _=>q.2])]⟩)
   (fun q=>q.1≤v.fields.length∧(0≤q.2∧q.2≤1073741824)∧R=goS G (v.fields.drop q.1) q.2) (fun q=>v.fields.length - q.1) (0,p.2) ⟨by simp,hb,by simpa using hR2⟩ ?_ fun q E hi=>?_
  ·(focus (cbv;(try dsimp only [nc] at *);(try simp only [wl,nc]);(repeat' (with_reducible apply And.intro));all_goals (try exact wZ)))
  by_cases h:q.1<v.fields.length
  ·obtain ⟨x,hx⟩:∃ x,x=v.fields.getD q.1 default:=⟨_,rfl⟩
   have hxm:x ∈ v.fields:=by rw [hx];exact gD h
   have hst:=hi.2.2
   rw [goS_step h,← hx] at hst
   have hGx:G x q.2=if 100<x.1.size then (false,q.2) else F x.2 q.2:=by rw [hG]
   have hih:=ih x.2 (hv.2.2.2.2 x hxm).2 q.2 hi.2.1 (by omega)
   have hFx:F x.2 q.2=smallV d (lev - 1) x.2 q.2:=by rw [hF]
   have hleft:=smallV_left d (lev - 1) x.2 q.2 hi.2.1.1
   rw [← hFx] at hih hleft
   by_cases hn:100<x.1.size
   ·refine AWp.weak (weakS_of (s':=⟨73,[(8,.int .i64 fun _=>q.1),(3,boxW (d+1) fun _=>v),(1,.int .i64 fun _=>lev)],[(1002,.box [.int .i64 fun _=>q.2])]⟩) ?_) ?_
    ·(focus (cbv;(try dsimp only [nc] at *);(try simp only [wl,nc]);(repeat' (with_reducible apply And.intro));all_goals (try exact wZ)))
    apply AWp.wk tF mF [(12,[(18,.bool fun _=>false,[])])] kp39 ?_
    (any_goals ((with_reducible refine wI ?_);cbv;(try dsimp only [nc] at *);(repeat' (with_reducible first|exact aO|exact oN|refine oC ?_ ?_|refine VC.mk rfl ?_ ?_ ?_|(apply Ca.mk<;>intro _)|(apply Cv.mk<;>intro zq<;>(try simp only [nc,cl] at zq)<;>(try simp only [bl,dl] at zq)<;>(revert zq;intro _))|((first|apply xE|apply uE);cbv;(try dsimp only [nc] at *))))))
    all_goals (try exact absurd h (Nat.not_lt.2 ‹v.fields.length≤q.1›))
    all_goals (try simp only [Int.toNat_natCast,← hx] at *)
    any_goals (with_reducible refine sO (fun q=>absurd q ?_))<;>(simp;omega)
    ((all_goals (try (with_reducible ((first|refine rE ?_|refine nE ?_);(focus (cbv;(try dsimp only [nc] at *);(try simp only [wl,nc]);(repeat' (with_reducible apply And.intro));all_goals (try exact wZ)))))));(all_goals (try ((with_reducible rw [aC]);(try simp only [wl,nc]);(repeat' (with_reducible apply And.intro));(all_goals (try exact cZ))))))
    ·rw [hst,hGx,if_pos hn];rfl
    ·rw [hst,hGx,if_pos hn];rfl
    ·exact (And.right ‹_∧False›).elim
   ·rw [if_neg hn] at hGx
    rw [hGx] at hst
    apply AWp.wk tF mF [(12,[(18,.bool fun _=>(F x.2 q.2).1,[(1002,.box [.int .i64 fun _=>(F x.2 q.2).2])])])] kp39 ?_
    (any_goals ((with_reducible refine wI ?_);cbv;(try dsimp only [nc] at *);(repeat' (with_reducible first|exact aO|exact oN|refine oC ?_ ?_|refine VC.mk rfl ?_ ?_ ?_|(apply Ca.mk<;>intro _)|(apply Cv.mk<;>intro zq<;>(try simp only [nc,cl] at zq)<;>(try simp only [bl,dl] at zq)<;>(revert zq;intro _))|((first|apply xE|apply uE);cbv;(try dsimp only [nc] at *))))))
    all_goals (try exact absurd h (Nat.not_lt.2 ‹v.fields.length≤q.1›))
    all_goals (try simp only [Int.toNat_natCast,← hx] at *)
    (any_goals ((with_reducible refine bZ ?_);(try dsimp only);(have q:=hih;refine Af.wN q ?_;clear q);(focus (cbv;(try dsimp only [nc] at *);(try simp only [wl,nc]);(repeat' (with_reducible apply And.intro));all_goals (try exact wZ)))))
    ((all_goals (try (with_reducible ((first|refine rE ?_|refine nE ?_);(focus (cbv;(try dsimp only [nc] at *);(try simp only [wl,nc]);(repeat' (with_reducible apply And.intro));all_goals (try exact wZ)))))));(all_goals (try ((with_reducible rw [aC]);(try simp only [wl,nc]);(repeat' (with_reducible apply And.intro));(all_goals (try exact cZ))))))
    ·exact w64 (by omega) (by omega)
    ·rw [hst,(‹_∨(F x.2 q.2).1=false›).resolve_left (by omega)];rfl
    ·rw [hst,(‹_∨(F x.2 q.2).1=false›).resolve_left (by omega)];rfl
    ·have hr:=And.right ‹_∧(F x.2 q.2).1=true›
     rw [if_pos hr] at hst
     have:=hleft.2.2 hr
     have:=hleft.2.1
     refine dE (q.1+1,(F x.2 q.2).2) ⟨⟨by show q.1+1≤_;omega,by show 0≤(F x.2 q.2).2∧(F x.2 q.2).2≤_;omega,hst⟩,by show _ - (q.1+1)<_ - q.1;omega⟩ ?_
     (focus (cbv;(try dsimp only [nc] at *);(try simp only [wl,nc]);(repeat' (with_reducible apply And.intro));all_goals (try exact wZ)))
     exact w64n (by omega)
  ·refine AWp.weak (weakS_of (s':=⟨73,[(8,.int .i64 fun _=>q.1),(3,boxW (d+1) fun _=>v),(1,.int .i64 fun _=>lev)],[(1002,.box [.int .i64 fun _=>q.2])]⟩) ?_) ?_
   ·(focus (cbv;(try dsimp only [nc] at *);(try simp only [wl,nc]);(repeat' (with_reducible apply And.intro));all_goals (try exact wZ)))
   apply AWp.wk tF mF [(12,[(18,.bool fun _=>true,[])])] kp39 ?_
   (any_goals ((with_reducible refine wI ?_);cbv;(try dsimp only [nc] at *);(repeat' (with_reducible first|exact aO|exact oN|refine oC ?_ ?_|refine VC.mk rfl ?_ ?_ ?_|(apply Ca.mk<;>intro _)|(apply Cv.mk<;>intro zq<;>(try simp only [nc,cl] at zq)<;>(try simp only [bl,dl] at zq)<;>(revert zq;intro _))|((first|apply xE|apply uE);cbv;(try dsimp only [nc] at *))))))
   all_goals (try exact absurd ‹q.1<v.fields.length› h)
   ((all_goals (try (with_reducible ((first|refine rE ?_|refine nE ?_);(focus (cbv;(try dsimp only [nc] at *);(try simp only [wl,nc]);(repeat' (with_reducible apply And.intro));all_goals (try exact wZ)))))));(all_goals (try ((with_reducible rw [aC]);(try simp only [wl,nc]);(repeat' (with_reducible apply And.intro));(all_goals (try exact cZ))))))
   all_goals (rw [hi.2.2,goS_end (by omega)])
theorem smallV_ok:∀ (d:Nat) (lev:Int) (v:V) (l:Int),V.le d v→0≤lev∧lev≤1073741824→0≤l∧l≤1073741824 →
 Af Tryz.prog 39 [encV d .any fun _=>v,.int .i64 fun _=>lev,.ptr 1002 0] [(1002,.box [.int .i64 fun _=>l])] (.bool fun _=>(smallV d lev v l).1) [(1002,.box [.int .i64 fun _=>(smallV d lev v l).2])]
 | 0,_,_,_,h,_,_=>h.elim
 | d+1,lev,v,l,hv,h0,hl=>smallV_step d lev v l hv h0 hl fun x hx l hl h1=>smallV_ok d (lev - 1) x l hx (by omega) hl
theorem SmallValue_ok (d:Nat) (v:V) (hv:V.le d v):Af Tryz.prog 15 [encV d .any fun _=>v] [] (.bool fun _=>(smallV d 12 v 300).1) []:=by
 obtain ⟨r,hr⟩:∃ r,r=smallV d 12 v 300:=⟨_,rfl⟩
 have h:=smallV_ok d 12 v 300 hv (by omega) (by omega)
 rw [← hr] at h
 rw [← hr]
 obtain ⟨d,rfl⟩:=V.lP hv
 (apply Af.of tF mF [.tmp 2] kp15 [(0,[(0,.nil,[])]),(2,[(1,.bool fun _=>r.1,[(1002,.box [.int .i64 fun _=>r.2])])])] Tryz.func15 (fun _=>?_);(any_goals ((with_reducible refine wI ?_);cbv;(try dsimp only [nc] at *);(repeat' (with_reducible first|exact aO|exact oN|refine oC ?_ ?_|refine VC.mk rfl ?_ ?_ ?_|(apply Ca.mk<;>intro _)|(apply Cv.mk<;>intro zq<;>(try simp only [nc,cl] at zq)<;>(try simp only [bl,dl] at zq)<;>(revert zq;intro _))|((first|apply xE|apply uE);cbv;(try dsimp only [nc] at *)))))))
 (any_goals ((with_reducible refine bZ ?_)<;>exact h))
 (all_goals (try exact eZ))
theorem wordsSmall_no {w:List ByteArray} {i:Nat} (h:i<w.length) (hb:2000<(w.getD i ⟨#[]⟩).size):wordsSmall w=false:=by
 refine List.all_eq_false.2 ⟨_,gD (x:=⟨#[]⟩) h,?_⟩
 simp only [decide_eq_true_eq];omega
theorem wordsSmall_yes {w:List ByteArray} (h:∀ j,j<w.length→(w.getD j ⟨#[]⟩).size≤2000):wordsSmall w=true:=by
 refine List.all_eq_true.2 fun x hx=>?_
 obtain ⟨k,hk,rfl⟩:=List.getElem_of_mem hx
 have:=h k hk
 rw [List.getD_eq_getElem?_getD,List.getElem?_eq_getElem hk,Option.getD_some] at this
 simpa using this
theorem smallT_step (e d:Nat) (lev:Int) (t:Ty) (l:Int) (ht:Ty.le e (d+1) t) (h0:0≤lev∧lev≤1073741824) (hl:0≤l∧l≤1073741824)
 (ih:∀ x,Ty.le e d x→∀ l,0≤l∧l≤1073741824→0<lev→Af Tryz.prog 38 [encT e d .any fun _=>x,.int .i64 fun _=>lev - 1,.ptr 1002 0] [(1002,.box [.int .i64 fun _=>l])] (.bool fun _=>(smallT e d (lev - 1) x l).1) [(1002,.box [.int .i64 fun _=>(smallT e d (lev - 1) x l).2])]) :
 Af Tryz.prog 38 [encT e (d+1) .any fun _=>t,.int .i64 fun _=>lev,.ptr 1002 0] [(1002,.box [.int .i64 fun _=>l])] (.bool fun _=>(smallT e (d+1) lev t l).1) [(1002,.box [.int .i64 fun _=>(smallT e (d+1) lev t l).2])]:=by
 have hwl:=ht.1
 have hel:=ht.2.2.1
 have hfl:=ht.2.2.2.1
 obtain ⟨R,hR⟩:∃ R:Bool×Int,R=smallT e (d+1) lev t l:=⟨_,rfl⟩
 rw [← hR]
 obtain ⟨F,hF⟩:∃ F:Ty→Int→Bool×Int,F=smallT e d (lev - 1):=⟨_,rfl⟩
 obtain ⟨G,hG⟩:∃ G:TF→Int→Bool×Int,G=fun x l=>if (F (fT x) l).1=true∧smallD e x=true then (true,(F (fT x) l).2) else (false,(F (fT x) l).2):=⟨_,rfl⟩
 have hRe:R=if l - 1<0∨lev=0∨70<t.words.length∨wordsSmall t.words=false then (false,l - 1) else if (goS F t.elem (l - 1)).1=true then goS G t.fields (goS F t.elem (l - 1)).2 else (false,(goS F t.elem (l - 1)).2):=by
  rw [hR,hG,hF];rfl
 have hw:IntKind.i64.wrap (l - 1)=l - 1:=w64 (by omega) (by omega)
 (apply Af.of tF mF [.tmp 6] kp38 [(0,[(0,.nil,[])])] Tryz.func38 (fun _=>?_);(any_goals ((with_reducible refine wI ?_);cbv;(try dsimp only [nc] at *);(repeat' (with_reducible first|exact aO|exact oN|refine oC ?_ ?_|refine VC.mk rfl ?_ ?_ ?_|(apply Ca.mk<;>intro _)|(apply Cv.mk<;>intro zq<;>(try simp only [nc,cl] at zq)<;>(try simp only [bl,dl] at zq)<;>(revert zq;intro _))|((first|apply xE|apply uE);cbv;(try dsimp only [nc] at *)))))))
 all_goals (try simp only [hw] at *)
 ((all_goals (try (with_reducible ((first|refine rE ?_|refine nE ?_);(focus (cbv;(try dsimp only [nc] at *);(try simp only [wl,nc]);(repeat' (with_reducible apply And.intro));all_goals (try exact wZ)))))));(all_goals (try ((with_reducible rw [aC]);(try simp only [wl,nc]);(repeat' (with_reducible apply And.intro));(all_goals (try exact cZ))))))
 ·rw [hRe,if_pos (by omega)]
 ·rw [hRe,if_pos (by omega)]
 have h70:0≤l - 1∧lev≠0∧t.words.length≤70:=by omega
 have hRw:wordsSmall t.words=false→R=(false,l - 1):=fun q=>by rw [hRe,if_pos (.inr (.inr (.inr q)))]
 refine .loop (fun i:Nat=>⟨107,[(7,.int .i64 fun _=>i),(3,boxT e (d+1) fun _=>t),(1,.int .i64 fun _=>lev),(2,.ptr 1002 0)],[(1002,.box [.int .i64 fun _=>l - 1])]⟩)
  (fun i=>i≤t.words.length∧∀ j,j<i→(t.words.getD j ⟨#[]⟩).size≤2000) (fun i=>t.words.length - i) 0 (by simp) ?_ fun i E hi=>?_
 ·(focus (cbv;(try dsimp only [nc] at *);(try simp only [wl,nc]);(repeat' (with_reducible apply And.intro));all_goals (try exact wZ)))
 by_cases h:i<t.words.length
 ·apply AWp.wk tF mF [] kp38 ?_
  (any_goals ((with_reducible refine wI ?_);cbv;(try dsimp only [nc] at *);(repeat' (with_reducible first|exact aO|exact oN|refine oC ?_ ?_|refine VC.mk rfl ?_ ?_ ?_|(apply Ca.mk<;>intro _)|(apply Cv.mk<;>intro zq<;>(try simp only [nc,cl] at zq)<;>(try simp only [bl,dl] at zq)<;>(revert zq;intro _))|((first|apply xE|apply uE);cbv;(try dsimp only [nc] at *))))))
  all_goals (try exact absurd h (Nat.not_lt.2 ‹t.words.length≤i›))
  all_goals (try simp only [Int.toNat_natCast])
  ((all_goals (try (with_reducible ((first|refine rE ?_|refine nE ?_);(focus (cbv;(try dsimp only [nc] at *);(try simp only [wl,nc]);(repeat' (with_reducible apply And.intro));all_goals (try exact wZ)))))));(all_goals (try ((with_reducible rw [aC]);(try simp only [wl,nc]);(repeat' (with_reducible apply And.intro));(all_goals (try exact cZ))))))
  ·rw [hRw (wordsSmall_no h (Int.ofNat_lt.1 ‹(2000:Int)<_›))]
  ·rw [hRw (wordsSmall_no h (Int.ofNat_lt.1 ‹(2000:Int)<_›))]
  ·refine dE (i+1) ⟨⟨by omega,fun j hj=>?_⟩,by omega⟩ ?_
   ·rcases Nat.lt_succ_iff_lt_or_eq.1 hj with hj|rfl
    ·exact hi.2 j hj
    ·exact Int.ofNat_le.1 ‹_≤(2000:Int)›
   ·(focus (cbv;(try dsimp only [nc] at *);(try simp only [wl,nc]);(repeat' (with_reducible apply And.intro));all_goals (try exact wZ)))
    exact w64n (by omega)
 have hws:wordsSmall t.words=true:=wordsSmall_yes fun j hj=>hi.2 j (by omega)
 have hR1:R=if (goS F t.elem (l - 1)).1=true then goS G t.fields (goS F t.elem (l - 1)).2 else (false,(goS F t.elem (l - 1)).2):=by
  rw [hRe,if_neg (by rw [hws];simp;omega)]
 apply AWp.wk tF mF [] kp38 ?_
 (any_goals ((with_reducible refine wI ?_);cbv;(try dsimp only [nc] at *);(repeat' (with_reducible first|exact aO|exact oN|refine oC ?_ ?_|refine VC.mk rfl ?_ ?_ ?_|(apply Ca.mk<;>intro _)|(apply Cv.mk<;>intro zq<;>(try simp only [nc,cl] at zq)<;>(try simp only [bl,dl] at zq)<;>(revert zq;intro _))|((first|apply xE|apply uE);cbv;(try dsimp only [nc] at *))))))
 all_goals (try exact absurd ‹i<t.words.length› h)
 ((all_goals (try (with_reducible ((first|refine rE ?_|refine nE ?_);(focus (cbv;(try dsimp only [nc] at *);(try simp only [wl,nc]);(repeat' (with_reducible apply And.intro));all_goals (try exact wZ)))))));(all_goals (try ((with_reducible rw [aC]);(try simp only [wl,nc]);(repeat' (with_reducible apply And.intro));(all_goals (try exact cZ))))))
 clear hi h hRw hRe
 refine .loop (fun p:Nat×Int=>⟨107,[(8,.int .i64 fun _=>p.1),(3,boxT e (d+1) fun _=>t),(1,.int .i64 fun _=>lev),(2,.ptr 1002 0)],[(1002,.box [.int .i64 fun _=>p.2])]⟩)
  (fun p=>p.1≤t.elem.length∧(0≤p.2∧p.2≤1073741824)∧goS F t.elem (l - 1)=goS F (t.elem.drop p.1) p.2) (fun p=>t.elem.length - p.1) (0,l - 1) ⟨by simp,by simp;omega,by simp⟩ ?_ fun p E hi=>?_
 ·(focus (cbv;(try dsimp only [nc] at *);(try simp only [wl,nc]);(repeat' (with_reducible apply And.intro));all_goals (try exact wZ)))
 by_cases h:p.1<t.elem.length
 ·obtain ⟨x,hx⟩:∃ x,x=t.elem.getD p.1 default:=⟨_,rfl⟩
  have hxm:x ∈ t.elem:=by rw [hx];exact gD h
  have hst:=hi.2.2
  rw [goS_step h,← hx] at hst
  have hih:=ih x (ht.2.2.2.2.1 x hxm) p.2 hi.2.1 (by omega)
  have hFx:F x p.2=smallT e d (lev - 1) x p.2:=by rw [hF]
  have hleft:=smallT_left e d (lev - 1) x p.2 hi.2.1.1
  rw [← hFx] at hih hleft
  apply AWp.wk tF mF [(12,[(8,.bool fun _=>(F x p.2).1,[(1002,.box [.int .i64 fun _=>(F x p.2).2])])])] kp38 ?_
  (any_goals ((with_reducible refine wI ?_);cbv;(try dsimp only [nc] at *);(repeat' (with_reducible first|exact aO|exact oN|refine oC ?_ ?_|refine VC.mk rfl ?_ ?_ ?_|(apply Ca.mk<;>intro _)|(apply Cv.mk<;>intro zq<;>(try simp only [nc,cl] at zq)<;>(try simp only [bl,dl] at zq)<;>(revert zq;intro _))|((first|apply xE|apply uE);cbv;(try dsimp only [nc] at *))))))
  all_goals (try exact absurd h (Nat.not_lt.2 ‹t.elem.length≤p.1›))
  all_goals (try simp only [Int.toNat_natCast,← hx])
  (any_goals ((with_reducible refine bZ ?_);(try dsimp only);(have q:=hih;refine Af.wN q ?_;clear q);(focus (cbv;(try dsimp only [nc] at *);(try simp only [wl,nc]);(repeat' (with_reducible apply And.intro));all_goals (try exact wZ)))))
  ((all_goals (try (with_reducible ((first|refine rE ?_|refine nE ?_);(focus (cbv;(try dsimp only [nc] at *);(try simp only [wl,nc]);(repeat' (with_reducible apply And.intro));all_goals (try exact wZ)))))));(all_goals (try ((with_reducible rw [aC]);(try simp only [wl,nc]);(repeat' (with_reducible apply And.intro));(all_goals (try exact cZ))))))
  ·exact w64 (by omega) (by omega)
  ·rw [hR1,hst,‹(F x p.2).1=false›];rfl
  ·rw [hR1,hst,‹(F x p.2).1=false›];rfl
  ·rw [if_pos ‹(F x p.2).1=true›] at hst
   have:=hleft.2.2 ‹(F x p.2).1=true›
   have:=hleft.2.1
   refine dE (p.1+1,(F x p.2).2) ⟨⟨by show p.1+1≤_;omega,by show 0≤(F x p.2).2∧(F x p.2).2≤_;omega,hst⟩,by show _ - (p.1+1)<_ - p.1;omega⟩ ?_
   (focus (cbv;(try dsimp only [nc] at *);(try simp only [wl,nc]);(repeat' (with_reducible apply And.intro));all_goals (try exact wZ)))
   exact w64n (by omega)
 have hge:t.elem.length≤p.1:=by omega
 have hR2:R=goS G t.fields p.2:=by rw [hR1,hi.2.2,goS_end hge,if_pos rfl]
 apply AWp.wk tF mF [(12,[(8,.bool fun _=>true,[(1002,.box [.int .i64 fun _=>0])])])] kp38 ?_
 (any_goals ((with_reducible refine wI ?_);cbv;(try dsimp only [nc] at *);(repeat' (with_reducible first|exact aO|exact oN|refine oC ?_ ?_|refine VC.mk rfl ?_ ?_ ?_|(apply Ca.mk<;>intro _)|(apply Cv.mk<;>intro zq<;>(try simp only [nc,cl] at zq)<;>(try simp only [bl,dl] at zq)<;>(revert zq;intro _))|((first|apply xE|apply uE);cbv;(try dsimp only [nc] at *))))))
 all_goals (try exact absurd ‹p.1<t.elem.length› h)
 ((all_goals (try (with_reducible ((first|refine rE ?_|refine nE ?_);(focus (cbv;(try dsimp only [nc] at *);(try simp only [wl,nc]);(repeat' (with_reducible apply And.intro));all_goals (try exact wZ)))))));(all_goals (try ((with_reducible rw [aC]);(try simp only [wl,nc]);(repeat' (with_reducible apply And.intro));(all_goals (try exact cZ))))))
 have hb:=hi.2.1
 clear hi h hR1
 refine .loop (fun q:Nat×Int=>⟨107,[(9,.int .i64 fun _=>q.1),(3,boxT e (d+1) fun _=>t),(1,.int .i64 fun _=>lev),(2,.ptr 1002 0)],[(1002,.box [.int .i64 fun _=>q.2])]⟩)
  (fun q=>q.1≤t.fields.length∧(0≤q.2∧q.2≤1073741824)∧R=goS G (t.fields.drop q.1) q.2) (fun q=>t.fields.length - q.1) (0,p.2) ⟨by simp,hb,by simpa using hR2⟩ ?_ fun q E hi=>?_
 ·(focus (cbv;(try dsimp only [nc] at *);(try simp only [wl,nc]);(repeat' (with_reducible apply And.intro));all_goals (try exact wZ)))
 by_cases h:q.1<t.fields.length
 ·obtain ⟨f,hf⟩:∃ f,f=t.fields.getD q.1 default:=⟨_,rfl⟩
  have hfm:f ∈ t.fields:=by rw [hf];exact gD h
  have hfl2:=ht.2.2.2.2.2 _ hfm
  have hst:=hi.2.2
  rw [goS_step h,← hf] at hst
  obtain ⟨Y,hY⟩:∃ Y,Y=F (fT f) q.2:=⟨_,rfl⟩
  have hGx:G f q.2=if Y.1=true∧smallD e f=true then (true,Y.2) else (false,Y.2):=by rw [hG,hY]
  have hih:=ih (fT f) hfl2.2.2.2 q.2 hi.2.1 (by omega)
  have hleft:=smallT_left e d (lev - 1) (fT f) q.2 hi.2.1.1
  rw [← hF,← hY] at hih hleft
  have hno:¬ (Y.1=true∧smallD e f=true)→R=(false,Y.2):=fun z=>by rw [hst,hGx,if_neg z];rfl
  apply AWp.wk tF mF [(18,[(5,.bool fun _=>Y.1,[(1002,.box [.int .i64 fun _=>Y.2])])]),(23,[(5,.bool fun _=>false,[])])] kp38 ?_
  (any_goals ((with_reducible refine wI ?_);cbv;(try dsimp only [nc] at *);(repeat' (with_reducible first|exact aO|exact oN|refine oC ?_ ?_|refine VC.mk rfl ?_ ?_ ?_|(apply Ca.mk<;>intro _)|(apply Cv.mk<;>intro zq<;>(try simp only [nc,cl] at zq)<;>(try simp only [bl,dl] at zq)<;>(revert zq;intro _))|((first|apply xE|apply uE);cbv;(try dsimp only [nc] at *))))))
  all_goals (try exact absurd h (Nat.not_lt.2 ‹t.fields.length≤q.1›))
  all_goals (try simp only [Int.toNat_natCast,← hf] at *)
  (any_goals ((with_reducible refine bZ ?_);(try dsimp only);(have q:=hih;refine Af.wN q ?_;clear q);(focus (cbv;(try dsimp only [nc] at *);(try simp only [wl,nc]);(repeat' (with_reducible apply And.intro));all_goals (try exact wZ)))))
  ((all_goals (try (with_reducible ((first|refine rE ?_|refine nE ?_);(focus (cbv;(try dsimp only [nc] at *);(try simp only [wl,nc]);(repeat' (with_reducible apply And.intro));all_goals (try exact wZ)))))));(all_goals (try ((with_reducible rw [aC]);(try simp only [wl,nc]);(repeat' (with_reducible apply And.intro));(all_goals (try exact cZ))))))
  ·exact w64 (by omega) (by omega)
  ·rw [hno (fun z=>by simp only [smallD,Bool.and_eq_true,decide_eq_true_eq] at z;grind)]
  ·rw [hno (fun z=>by simp only [smallD,Bool.and_eq_true,decide_eq_true_eq] at z;grind)]
  have hq:=‹(Y.1=true∧_)∧_›
  have hr:=hq.1.1
  have h1:=hleft.2.2 hr
  have h2:=hleft.2.1
  refine .loop (fun j:Nat=>⟨107,[(11,.int .i64 fun _=>j),(10,.ptr 10 0),(9,.int .i64 fun _=>q.1),(3,boxT e (d+1) fun _=>t),(1,.int .i64 fun _=>lev),(2,.ptr 1002 0)],[(1002,.box [.int .i64 fun _=>Y.2]),(10,.box (cF e d .any fun _=>f))]⟩)
   (fun j=>j≤(fDef f).length∧∀ k,k<j→(smallV e 12 ((fDef f).getD k default) 300).1=true) (fun j=>(fDef f).length - j) 0 (by simp) ?_ fun j E hj=>?_
  ·(focus (cbv;(try dsimp only [nc] at *);(try simp only [wl,nc]);(repeat' (with_reducible apply And.intro));all_goals (try exact wZ)))
  by_cases hjl:j<(fDef f).length
  ·obtain ⟨v,hv⟩:∃ v,v=(fDef f).getD j default:=⟨_,rfl⟩
   have hvm:v ∈ fDef f:=by rw [hv];exact gD hjl
   have hS:=SmallValue_ok e v (hfl2.2.2.1 _ hvm)
   obtain ⟨b,hb⟩:∃ b,b=(smallV e 12 v 300).1:=⟨_,rfl⟩
   rw [← hb] at hS
   apply AWp.wk tF mF [(18,[(5,.bool fun _=>true,[(1002,.box [.int .i64 fun _=>0])])]),(23,[(5,.bool fun _=>b,[])])] kp38 ?_
   (any_goals ((with_reducible refine wI ?_);cbv;(try dsimp only [nc] at *);(repeat' (with_reducible first|exact aO|exact oN|refine oC ?_ ?_|refine VC.mk rfl ?_ ?_ ?_|(apply Ca.mk<;>intro _)|(apply Cv.mk<;>intro zq<;>(try simp only [nc,cl] at zq)<;>(try simp only [bl,dl] at zq)<;>(revert zq;intro _))|((first|apply xE|apply uE);cbv;(try dsimp only [nc] at *))))))
   all_goals (try exact absurd hjl (Nat.not_lt.2 ‹(fDef f).length≤j›))
   all_goals (try simp only [Int.toNat_natCast,← hv])
   (any_goals ((with_reducible refine bZ ?_);(try dsimp only);(have q:=hS;refine Af.wN q ?_;clear q);(focus (cbv;(try dsimp only [nc] at *);(try simp only [wl,nc]);(repeat' (with_reducible apply And.intro));all_goals (try exact wZ)))))
   ((all_goals (try (with_reducible ((first|refine rE ?_|refine nE ?_);(focus (cbv;(try dsimp only [nc] at *);(try simp only [wl,nc]);(repeat' (with_reducible apply And.intro));all_goals (try exact wZ)))))));(all_goals (try ((with_reducible rw [aC]);(try simp only [wl,nc]);(repeat' (with_reducible apply And.intro));(all_goals (try exact cZ))))))
   ·rw [hno (fun z=>by
     have z2:=z.2
     simp only [smallD,Bool.and_eq_true,List.all_eq_true] at z2
     have:=z2.2 v hvm
     rw [← hb,‹b=false›] at this;cases this)]
   ·rw [hno (fun z=>by
     have z2:=z.2
     simp only [smallD,Bool.and_eq_true,List.all_eq_true] at z2
     have:=z2.2 v hvm
     rw [← hb,‹b=false›] at this;cases this)]
   ·refine dE (j+1) ⟨⟨by omega,fun k hk=>?_⟩,by omega⟩ ?_
    ·rcases Nat.lt_succ_iff_lt_or_eq.1 hk with hk|rfl
     ·exact hj.2 k hk
     ·rw [← hv,← hb];assumption
    ·(focus (cbv;(try dsimp only [nc] at *);(try simp only [wl,nc]);(repeat' (with_reducible apply And.intro));all_goals (try exact wZ)))
     exact w64n (by omega)
  ·have hD:smallD e f=true:=by
    simp only [smallD,Bool.and_eq_true,decide_eq_true_eq,List.all_eq_true]
    refine ⟨⟨by omega,by omega⟩,fun v hv=>?_⟩
    obtain ⟨k,hk,hkv⟩:=List.getElem_of_mem hv
    have:=hj.2 k (by omega)
    rwa [List.getD_eq_getElem?_getD,List.getElem?_eq_getElem hk,Option.getD_some,hkv] at this
   have hG2:G f q.2=(true,Y.2):=by rw [hGx,if_pos ⟨hr,hD⟩]
   rw [hG2,if_pos rfl] at hst
   apply AWp.wk tF mF [(18,[(5,.bool fun _=>true,[(1002,.box [.int .i64 fun _=>0])])]),(23,[(5,.bool fun _=>true,[])])] kp38 ?_
   (any_goals ((with_reducible refine wI ?_);cbv;(try dsimp only [nc] at *);(repeat' (with_reducible first|exact aO|exact oN|refine oC ?_ ?_|refine VC.mk rfl ?_ ?_ ?_|(apply Ca.mk<;>intro _)|(apply Cv.mk<;>intro zq<;>(try simp only [nc,cl] at zq)<;>(try simp only [bl,dl] at zq)<;>(revert zq;intro _))|((first|apply xE|apply uE);cbv;(try dsimp only [nc] at *))))))
   all_goals (try exact absurd ‹j<(fDef f).length› hjl)
   ((all_goals (try (with_reducible ((first|refine rE ?_|refine nE ?_);(focus (cbv;(try dsimp only [nc] at *);(try simp only [wl,nc]);(repeat' (with_reducible apply And.intro));all_goals (try exact wZ)))))));(all_goals (try ((with_reducible rw [aC]);(try simp only [wl,nc]);(repeat' (with_reducible apply And.intro));(all_goals (try exact cZ))))))
   refine dE (q.1+1,Y.2) ⟨⟨by show q.1+1≤_;omega,by show 0≤Y.2∧Y.2≤_;omega,hst⟩,by show _ - (q.1+1)<_ - q.1;omega⟩ ?_
   (focus (cbv;(try dsimp only [nc] at *);(try simp only [wl,nc]);(repeat' (with_reducible apply And.intro));all_goals (try exact wZ)))
   exact w64n (by omega)
 ·apply AWp.wk tF mF [(18,[(5,.bool fun _=>true,[(1002,.box [.int .i64 fun _=>0])])]),(23,[(5,.bool fun _=>true,[])])] kp38 ?_
  (any_goals ((with_reducible refine wI ?_);cbv;(try dsimp only [nc] at *);(repeat' (with_reducible first|exact aO|exact oN|refine oC ?_ ?_|refine VC.mk rfl ?_ ?_ ?_|(apply Ca.mk<;>intro _)|(apply Cv.mk<;>intro zq<;>(try simp only [nc,cl] at zq)<;>(try simp only [bl,dl] at zq)<;>(revert zq;intro _))|((first|apply xE|apply uE);cbv;(try dsimp only [nc] at *))))))
  all_goals (try exact absurd ‹q.1<t.fields.length› h)
  ((all_goals (try (with_reducible ((first|refine rE ?_|refine nE ?_);(focus (cbv;(try dsimp only [nc] at *);(try simp only [wl,nc]);(repeat' (with_reducible apply And.intro));all_goals (try exact wZ)))))));(all_goals (try ((with_reducible rw [aC]);(try simp only [wl,nc]);(repeat' (with_reducible apply And.intro));(all_goals (try exact cZ))))))
  all_goals (rw [hi.2.2,goS_end (by omega)])
theorem smallT_ok (e:Nat):∀ (d:Nat) (lev:Int) (t:Ty) (l:Int),Ty.le e d t→0≤lev∧lev≤1073741824→0≤l∧l≤1073741824 →
 Af Tryz.prog 38 [encT e d .any fun _=>t,.int .i64 fun _=>lev,.ptr 1002 0] [(1002,.box [.int .i64 fun _=>l])] (.bool fun _=>(smallT e d lev t l).1) [(1002,.box [.int .i64 fun _=>(smallT e d lev t l).2])]
 | 0,_,_,_,h,_,_=>h.elim
 | d+1,lev,t,l,ht,h0,hl=>smallT_step e d lev t l ht h0 hl fun x hx l hl h1=>smallT_ok e d (lev - 1) x l hx (by omega) hl
theorem Small_ok (e d:Nat) (t:Ty) (ht:Ty.le e d t):Af Tryz.prog 14 [encT e d .any fun _=>t] [] (.bool fun _=>(smallT e d 12 t 200).1) []:=by
 obtain ⟨r,hr⟩:∃ r,r=smallT e d 12 t 200:=⟨_,rfl⟩
 have h:=smallT_ok e d 12 t 200 ht (by omega) (by omega)
 rw [← hr] at h
 rw [← hr]
 obtain ⟨d,rfl⟩:=Ty.lP ht
 (apply Af.of tF mF [.tmp 2] kp14 [(0,[(0,.nil,[])]),(2,[(1,.bool fun _=>r.1,[(1002,.box [.int .i64 fun _=>r.2])])])] Tryz.func14 (fun _=>?_);(any_goals ((with_reducible refine wI ?_);cbv;(try dsimp only [nc] at *);(repeat' (with_reducible first|exact aO|exact oN|refine oC ?_ ?_|refine VC.mk rfl ?_ ?_ ?_|(apply Ca.mk<;>intro _)|(apply Cv.mk<;>intro zq<;>(try simp only [nc,cl] at zq)<;>(try simp only [bl,dl] at zq)<;>(revert zq;intro _))|((first|apply xE|apply uE);cbv;(try dsimp only [nc] at *)))))))
 (any_goals ((with_reducible refine bZ ?_)<;>exact h))
 (all_goals (try exact eZ))
end Go.Ai
