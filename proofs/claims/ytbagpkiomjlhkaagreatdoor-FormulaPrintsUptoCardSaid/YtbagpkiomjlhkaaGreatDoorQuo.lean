/- Chapter 13: quoted texts. -/
import Derived.Test.YtbagpkiomjlhkaaGreatDoorBld
import Derived.Test.YtbagpkiomjlhkaaGreatDoorWide
import Derived.Shelf.Spec.TrailingZeros
import Derived.Lib.ItoaMem
import Derived.WalkKit
import Derived.LoopN
import Derived.Handy
import Derived.Deep.WholeRow
import Derived.BigCall
import Derived.BigGuard
set_option linter.all false
namespace Go.Ai
open Go Go.Proofs
set_option maxRecDepth 100000
set_option maxHeartbeats 4000000
def escB (hx:UInt8→ByteArray) (c:UInt8):ByteArray :=
 if c.toNat=34∨c.toNat=92 then ⟨#[92]⟩++⟨#[c]⟩ else if c.toNat=10 then ⟨#[92,110]⟩ else if c.toNat=13 then ⟨#[92,114]⟩ else if c.toNat=9 then ⟨#[92,116]⟩
 else if c.toNat<32∨c.toNat=127 then ⟨#[92,117,123]⟩++hx c++⟨#[125]⟩ else ⟨#[c]⟩
def escL (hx:UInt8→ByteArray) (s:ByteArray):Nat→ByteArray
 | 0=>⟨#[34]⟩
 | n+1=>escL hx s n++escB hx ((s.data[n]?).getD 0)
theorem af0 (hx:UInt8→ByteArray) (s:ByteArray) (h:∀ c,(hx c).size≤64):∀ i,(escL hx s i).size≤1+70 * i
 | 0=>by show 1≤_;omega
 | i + 1=>by
  have:=af0 hx s h i
  rw [escL,ByteArray.size_append]
  have h2:(escB hx ((s.data[i]?).getD 0)).size≤70:=by
   have:=h ((s.data[i]?).getD 0)
   unfold escB
   repeat' split
   ·rw [ByteArray.size_append];show 1+1≤70;omega
   ·show 2≤70;omega
   ·show 2≤70;omega
   ·show 2≤70;omega
   ·simp only [ByteArray.size_append];show 3+_+1≤70;omega
   ·show 1≤70;omega
  omega
theorem quote_ok (hx:UInt8→ByteArray) (s:ByteArray) (hs:s.size≤1000000) (hh:∀ c:UInt8,(hx c).size≤64∧Af Tryz.prog 218 [.int .i64 fun _=>c.toNat,.int .i64 fun _=>16] [] (.str fun _=>hx c) []) :
 Af Tryz.prog 152 [.str fun _=>s] [] (.str fun _=>escL hx s s.size++⟨#[34]⟩) []:=by
 have h1:=wb_fresh 34
 (apply Af.of tF mF [.tmp 2] kp152 [(2,[(0,.ifc fun _=>true,[(1000,bldC 1000 14 1 ⟨#[34]⟩),(14,bldR 1 ⟨#[34]⟩)])]),(20,[(0,.ifc fun _=>true,[(1000,bldC 1000 1001000001 1 (escL hx s s.size++⟨#[34]⟩)),(1001000001,bldR 1 (escL hx s s.size++⟨#[34]⟩))])]),(21,[(0,.str fun _=>escL hx s s.size++⟨#[34]⟩,[(1000,bldC 1000 1001000001 0 (escL hx s s.size++⟨#[34]⟩)),(1001000001,agE (escL hx s s.size++⟨#[34]⟩))])])] Tryz.func152 (fun _=>?_);(any_goals ((with_reducible refine wI ?_);cbv;(try dsimp only [nc] at *);(repeat' (with_reducible first|exact ‹False›.elim|exact nZ|refine oC ?_ ?_|refine VC.mk rfl ?_ ?_ ?_|(apply Ca.mk<;>intro _)|refine cV (fun _=>?_) fun _=>?_|((first|apply xE|apply uE);cbv;(try dsimp only [nc] at *)))))))
 any_goals ((with_reducible refine nO ?_);exact h1)
 ((all_goals (try (with_reducible ((first|refine rE ?_|refine nE ?_);cbv;(try dsimp only [nc] at *);(try simp only [wl,nc]);(repeat' apply And.intro);all_goals (try exact wZ)))));(all_goals (try ((with_reducible rw [aC]);(try simp only [wl,nc]);(repeat' (with_reducible apply And.intro));(all_goals (try exact cZ))))))
 refine .loop (fun i:Nat=>⟨55,[(9,.int .i64 fun _=>(i:Int)),(8,.int .i64 fun _=>(s.size:Int)),(3,.ptr 3 0),(0,.str fun _=>s)],[(3,bldC 3 70014 1 (escL hx s i)),(70014,bldR 1 (escL hx s i))]⟩)
  (fun i=>i≤s.size) (fun i=>s.size - i) 0 (Nat.zero_le _) ?_ fun i E hi=>?_
 ·(exact aZ)
 have hz:=af0 hx s (fun c=>(hh c).1) i
 by_cases hi:i<s.size
 ·obtain ⟨c,hc⟩:∃ c,c=(s.data[i]?).getD 0:=⟨_,rfl⟩
  have e1:escL hx s (i+1)=escL hx s i++escB hx c:=by rw [hc];rfl
  generalize escL hx s i=acc at *
  have z3:(⟨#[92,117,123]⟩:ByteArray).size=3:=rfl
  have z1:(⟨#[125]⟩:ByteArray).size=1:=rfl
  have h2:=aga 92 acc (by omega)
  have h3:=aga c (acc++⟨#[92]⟩) (by rw [ByteArray.size_append];show _+1≤_;omega)
  have h4:=aga c acc (by omega)
  have h5:=aey ⟨#[92,110]⟩ acc (by omega) (by decide)
  have h6:=aey ⟨#[92,114]⟩ acc (by omega) (by decide)
  have h7:=aey ⟨#[92,116]⟩ acc (by omega) (by decide)
  have h8:=(hh c).2
  have h9:=aey (⟨#[92,117,123]⟩++hx c++⟨#[125]⟩) acc (by omega) (by have:=(hh c).1;simp only [ByteArray.size_append];show 3+_+1≤_;omega)
  have hk:=(hh c).1
  unfold escB at e1
  have hcn:c.toNat=((s.data[i]?).getD 0).toNat:=by rw [hc]
  have hcw:IntKind.i64.wrap (c.toNat:Int)=c.toNat:=w64 (by omega) (by have:=c.toNat_lt;omega)
  generalize hx c=hc1 at *
  apply AWp.wk tF mF [(9,[(0,.ifc fun _=>true,[(1000,bldC 1000 1001000001 1 (acc++⟨#[92]⟩)),(1001000001,bldR 1 (acc++⟨#[92]⟩))])]),(10,[(1,.ifc fun _=>true,[(1000,bldC 1000 1001000001 1 (acc++⟨#[92]⟩++⟨#[c]⟩)),(1001000001,bldR 1 (acc++⟨#[92]⟩++⟨#[c]⟩))])]),
   (12,[(0,.tup [.int .i64 fun _=>2,.ifc fun _=>true],[(1000,bldC 1000 1001000001 1 (acc++⟨#[92,110]⟩)),(1001000001,bldR 1 (acc++⟨#[92,110]⟩))])]),(14,[(0,.tup [.int .i64 fun _=>2,.ifc fun _=>true],[(1000,bldC 1000 1001000001 1 (acc++⟨#[92,114]⟩)),(1001000001,bldR 1 (acc++⟨#[92,114]⟩))])]),(16,[(0,.tup [.int .i64 fun _=>2,.ifc fun _=>true],[(1000,bldC 1000 1001000001 1 (acc++⟨#[92,116]⟩)),(1001000001,bldR 1 (acc++⟨#[92,116]⟩))])]),
   (18,[(2,.str fun _=>hc1,[]),(5,.tup [.int .i64 fun _=>(⟨#[92,117,123]⟩++hc1++⟨#[125]⟩:ByteArray).size,.ifc fun _=>true],[(1000,bldC 1000 1001000001 1 (acc++(⟨#[92,117,123]⟩++hc1++⟨#[125]⟩))),(1001000001,bldR 1 (acc++(⟨#[92,117,123]⟩++hc1++⟨#[125]⟩)))])]),(7,[(1,.ifc fun _=>true,[(1000,bldC 1000 1001000001 1 (acc++⟨#[c]⟩)),(1001000001,bldR 1 (acc++⟨#[c]⟩))])])] kp152 ?_
  (any_goals ((with_reducible refine wI ?_);cbv;(try dsimp only [nc] at *);(repeat' (with_reducible first|exact ‹False›.elim|exact nZ|refine oC ?_ ?_|refine VC.mk rfl ?_ ?_ ?_|(apply Ca.mk<;>intro _)|refine cV (fun _=>?_) fun _=>?_|((first|apply xE|apply uE);cbv;(try dsimp only [nc] at *))))))
  all_goals (try (exact absurd hi ‹¬i<s.size›))
  all_goals (try simp only [Int.toNat_natCast,← hc,hcw])
  any_goals ((with_reducible refine nO ?_);first|exact h2|exact h3|exact h4|exact h5|exact h6|exact h7|exact h8|exact h9)
  ((all_goals (try (with_reducible ((first|refine rE ?_|refine nE ?_);cbv;(try dsimp only [nc] at *);(try simp only [wl,nc]);(repeat' apply And.intro);all_goals (try exact wZ)))));(all_goals (try ((with_reducible rw [aC]);(try simp only [wl,nc]);(repeat' (with_reducible apply And.intro));(all_goals (try exact cZ))))))
  all_goals (try (focus (simp only [ByteArray.size_append,z3,z1];omega)))
  ·rw [if_pos (by omega),← ByteArray.append_assoc] at e1
   refine dE (i+1) ⟨by omega,by omega⟩ ?_
   (focus (cbv;(try dsimp only [nc] at *);(try simp only [wl,nc]);(repeat' (with_reducible apply And.intro));all_goals (try exact wZ)))
   all_goals (first|exact w64n (by omega)|(rw [e1];done)|(rw [e1];exact fun i hi=>LeL.of_eq rfl))
  ·rw [if_neg (by omega),if_pos (by omega)] at e1
   refine dE (i+1) ⟨by omega,by omega⟩ ?_
   (focus (cbv;(try dsimp only [nc] at *);(try simp only [wl,nc]);(repeat' (with_reducible apply And.intro));all_goals (try exact wZ)))
   all_goals (first|exact w64n (by omega)|(rw [e1];done)|(rw [e1];exact fun i hi=>LeL.of_eq rfl))
  ·rw [if_neg (by omega),if_neg (by omega),if_pos (by omega)] at e1
   refine dE (i+1) ⟨by omega,by omega⟩ ?_
   (focus (cbv;(try dsimp only [nc] at *);(try simp only [wl,nc]);(repeat' (with_reducible apply And.intro));all_goals (try exact wZ)))
   all_goals (first|exact w64n (by omega)|(rw [e1];done)|(rw [e1];exact fun i hi=>LeL.of_eq rfl))
  ·rw [if_neg (by omega),if_neg (by omega),if_neg (by omega),if_pos (by omega)] at e1
   refine dE (i+1) ⟨by omega,by omega⟩ ?_
   (focus (cbv;(try dsimp only [nc] at *);(try simp only [wl,nc]);(repeat' (with_reducible apply And.intro));all_goals (try exact wZ)))
   all_goals (first|exact w64n (by omega)|(rw [e1];done)|(rw [e1];exact fun i hi=>LeL.of_eq rfl))
  ·rw [if_neg (by omega),if_neg (by omega),if_neg (by omega),if_neg (by omega),if_pos (by omega)] at e1
   refine dE (i+1) ⟨by omega,by omega⟩ ?_
   (focus (cbv;(try dsimp only [nc] at *);(try simp only [wl,nc]);(repeat' (with_reducible apply And.intro));all_goals (try exact wZ)))
   all_goals (first|exact w64n (by omega)|(rw [e1];done)|(rw [e1];exact fun i hi=>LeL.of_eq rfl))
  ·rw [if_neg (by omega),if_neg (by omega),if_neg (by omega),if_neg (by omega),if_neg (by omega)] at e1
   refine dE (i+1) ⟨by omega,by omega⟩ ?_
   (focus (cbv;(try dsimp only [nc] at *);(try simp only [wl,nc]);(repeat' (with_reducible apply And.intro));all_goals (try exact wZ)))
   all_goals (first|exact w64n (by omega)|(rw [e1];done)|(rw [e1];exact fun i hi=>LeL.of_eq rfl))
 ·obtain rfl:i=s.size:=by omega
  generalize escL hx s s.size=acc at *
  have h2:=aga 34 acc (by omega)
  have h3:=anz (acc++⟨#[34]⟩) (by rw [ByteArray.size_append];show _+1≤_;omega)
  apply AWp.wk tF mF [] kp152 ?_
  (any_goals ((with_reducible refine wI ?_);cbv;(try dsimp only [nc] at *);(repeat' (with_reducible first|exact ‹False›.elim|exact nZ|refine oC ?_ ?_|refine VC.mk rfl ?_ ?_ ?_|(apply Ca.mk<;>intro _)|refine cV (fun _=>?_) fun _=>?_|((first|apply xE|apply uE);cbv;(try dsimp only [nc] at *))))))
  all_goals (try (exact absurd ‹s.size<s.size› hi))
  any_goals ((with_reducible refine nO ?_);first|exact h2|exact h3)
  (all_goals exact eZ)
theorem bs_fresh:Af Tryz.prog 162 [.ptr 1000 0] [(1000,.box [.tnil 179,.nil])] (.str fun _=>⟨#[]⟩) [(1000,.box [.tnil 179,.nil])]:=by
 refine ⟨aco Tryz.func162 rfl rfl,fun E β vs hpin hdf hY h0=>?_⟩
 obtain ⟨b,us,ty,q1,q2,q3,q4,q5,q6⟩:=h0.objs 1000
 obtain rfl:=agV h0 q1
 obtain ⟨u0,u1,rfl⟩:=arr2 (us:=us) q4.symm
 obtain rfl:u1=.slice none 0 0:=(q5 1 _ _ rfl rfl).ab2
 have c1:E.w0.drew.cell? ⟨b,1,none⟩=some (.slice none 0 0):=by
  have:E.w0.drew.heap[b]? = some (.cells #[u0,.slice none 0 0] ty (0,0)):=q2
  simp [World.cell?,this]
 refine (aeC b E.w0 _ _ none 0 0 none _ c1 (Lib.run_unsafeSliceData_nil _ _ _ _ _) c1 (Lib.run_unsafeString_none _ _ _ _ _)).mono fun e w' ⟨he,hw⟩=>?_
 subst hw
 have hH:upd (oL [(1000,AO.box [.tnil 179,.nil])]) 1000 (.box [.tnil 179,.nil])=oL [(1000,.box [.tnil 179,.nil])]:=by
  funext o
  unfold upd
  by_cases e:o=1000
  ·subst e;rfl
  ·simp only [if_neg e]
 have hβ:upd β 1000 (β 1000)=β:=by funext o;unfold upd;split<;>simp_all
 obtain ⟨g1,_⟩:=RelB.turn (S:=⟨[.ptr 1000 0],[(1000,.box [.tnil 179,.nil])]⟩) h0 (o:=1000) trivial (w':=E.w0.drew) rfl rfl rfl (Nat.le_refl _) (fun _ _ _=>rfl) (ob:=.box [.tnil 179,.nil]) trivial (v:=β 1000) (fun b hb=>.inl hb) (fun _ _=>rfl) (fun x t sz ver n f hf=>by cases hf) (fun cs hcs=>⟨_,rfl⟩)
  (fun hrx hrd=>⟨b,_,ty,by rw [hβ];exact q1,q2,q3,q4,fun i av v h1 h2=>hrx _ _ (q5 i av v h1 h2),q6⟩) (fun ks f s p q=>by cases q)
 have g3:RelB E [.ptr 1000 0] (oL [(1000,.box [.tnil 179,.nil])]) ⟨#[.pointer (some ⟨b,0,none⟩)],[]⟩ E.w0.drew β:=by
  have:=g1
  rw [hβ] at this
  rw [← hH]
  exact this
 exact ⟨_,β,he,g3.res hdf (.d (.str _)),Link.same⟩
def lowT:ByteArray:=⟨#[48,49,50,51,52,53,54,55,56,57,97,98,99,100,101,102]⟩
def hexB (c:UInt8):ByteArray:=lowT.extract (c.toNat / 16) (c.toNat / 16+1)++lowT.extract (c.toNat % 16) (c.toNat % 16+1)
def qbL (s:ByteArray):Nat→ByteArray
 | 0=>⟨#[]⟩
 | n+1=>qbL s n++hexB ((s.data[n]?).getD 0)
def qbS (s:ByteArray):Nat→SS
 | 0=>⟨36,[(7,.int .i64 fun _=>0),(6,.int .i64 fun _=>(s.size:Int)),(3,.ptr 3 0),(0,.str fun _=>s)],[(3,.box [.tnil 179,.nil])]⟩
 | n+1=>⟨36,[(7,.int .i64 fun _=>((n+1:Nat):Int)),(6,.int .i64 fun _=>(s.size:Int)),(3,.ptr 3 0),(0,.str fun _=>s)],[(3,bldC 3 320014 1 (qbL s (n+1))),(320014,bldR 1 (qbL s (n+1)))]⟩
theorem acw (c:UInt8):(hexB c).size≤2:=by
 unfold hexB
 rw [ByteArray.size_append,ByteArray.size_extract,ByteArray.size_extract]
 omega
theorem ajF (s:ByteArray):∀ i,(qbL s i).size≤2 * i
 | 0=>Nat.zero_le _
 | i+1=>by
  have:=ajF s i
  have:=acw ((s.data[i]?).getD 0)
  rw [qbL,ByteArray.size_append];omega
theorem w8 {n:Nat} (h:n<256):IntKind.u8.wrap (n:Int)=n:=by
 simp [IntKind.wrap,IntKind.bits,IntKind.signed]
 omega
theorem w8s {n:Nat} (h:n<255):IntKind.u8.wrap ((n:Int)+1)=((n+1:Nat):Int):=w8 (n:=n+1) (by omega)
theorem agl (s:ByteArray) (hs:s.size≤1000000):Af Tryz.prog 153 [.str fun _=>s] [] (.str fun _=>⟨#[120,34]⟩++qbL s s.size++⟨#[34]⟩) []:=by
 by_cases h0:s.size=0
 ·rw [h0]
  (apply Af.of tF mF [.tmp 2] akW [(7,[(0,.str fun _=>⟨#[]⟩,[(1000,.box [.tnil 179,.nil])])])] Tryz.func153 (fun _=>?_);(any_goals ((with_reducible refine wI ?_);cbv;(try dsimp only [nc] at *);(repeat' (with_reducible first|exact ‹False›.elim|exact nZ|refine oC ?_ ?_|refine VC.mk rfl ?_ ?_ ?_|(apply Ca.mk<;>intro _)|refine cV (fun _=>?_) fun _=>?_|((first|apply xE|apply uE);cbv;(try dsimp only [nc] at *)))))))
  ((all_goals (try (with_reducible ((first|refine rE ?_|refine nE ?_);cbv;(try dsimp only [nc] at *);(try simp only [wl,nc]);(repeat' apply And.intro);all_goals (try exact wZ)))));(all_goals (try ((with_reducible rw [aC]);(try simp only [wl,nc]);(repeat' (with_reducible apply And.intro));(all_goals (try exact cZ))))))
  refine .loop (fun i:Nat=>qbS s 0) (fun i=>i=0) (fun i=>0) 0 rfl ?_ fun i E hi=>?_
  ·(exact aZ)
  show AWp _ _ _ _ _ (SS.st ⟨36,[(7,.int .i64 fun _=>0),(6,.int .i64 fun _=>(s.size:Int)),(3,.ptr 3 0),(0,.str fun _=>s)],[(3,.box [.tnil 179,.nil])]⟩)
  apply AWp.wk tF mF [(5,[(21,.any,[(1000,.box [.any,.any])])])] akW ?_
  (any_goals ((with_reducible refine wI ?_);cbv;(try dsimp only [nc] at *);(repeat' (with_reducible first|exact ‹False›.elim|exact nZ|refine oC ?_ ?_|refine VC.mk rfl ?_ ?_ ?_|(apply Ca.mk<;>intro _)|refine cV (fun _=>?_) fun _=>?_|((first|apply xE|apply uE);cbv;(try dsimp only [nc] at *))))))
  all_goals (try (exfalso;omega))
  any_goals ((with_reducible refine nO ?_);exact bs_fresh)
  ((all_goals (try (with_reducible ((first|refine rE ?_|refine nE ?_);cbv;(try dsimp only [nc] at *);(try simp only [wl,nc]);(repeat' apply And.intro);all_goals (try exact wZ)))));(all_goals (try ((with_reducible rw [aC]);(try simp only [wl,nc]);(repeat' (with_reducible apply And.intro));(all_goals (try exact cZ))))))
  ·decide
  ·decide
  ·rfl
 ·have hz:=ajF s
  have hZ:=hz s.size
  obtain ⟨acc,hacc⟩:∃ a,a=qbL s s.size:=⟨_,rfl⟩
  rw [← hacc] at hZ ⊢
  (apply Af.of tF mF [.tmp 2] akW [(7,[(0,.str fun _=>acc,[(1000,bldC 1000 1001000001 0 acc),(1001000001,agE acc)])])] Tryz.func153 (fun _=>?_);(any_goals ((with_reducible refine wI ?_);cbv;(try dsimp only [nc] at *);(repeat' (with_reducible first|exact ‹False›.elim|exact nZ|refine oC ?_ ?_|refine VC.mk rfl ?_ ?_ ?_|(apply Ca.mk<;>intro _)|refine cV (fun _=>?_) fun _=>?_|((first|apply xE|apply uE);cbv;(try dsimp only [nc] at *)))))))
  ((all_goals (try (with_reducible ((first|refine rE ?_|refine nE ?_);cbv;(try dsimp only [nc] at *);(try simp only [wl,nc]);(repeat' apply And.intro);all_goals (try exact wZ)))));(all_goals (try ((with_reducible rw [aC]);(try simp only [wl,nc]);(repeat' (with_reducible apply And.intro));(all_goals (try exact cZ))))))
  refine .loop (fun i:Nat=>qbS s i) (fun i=>i≤s.size) (fun i=>s.size - i) 0 (Nat.zero_le _) ?_ fun i E hi=>?_
  ·(exact aZ)
  obtain ⟨c,hc⟩:∃ c,c=(s.data[i]?).getD 0:=⟨_,rfl⟩
  have hcn:=c.toNat_lt
  have e1:qbL s (i+1)=qbL s i++hexB c:=by rw [hc];rfl
  have k1:(c.toNat:Int).tdiv 16=((c.toNat / 16:Nat):Int):=by rw [Int.tdiv_eq_ediv_of_nonneg (by omega)];omega
  have k2:(c.toNat:Int).tmod 16=((c.toNat % 16:Nat):Int):=by rw [Int.tmod_eq_emod_of_nonneg (by omega)];omega
  have w1:=w8 (n:=c.toNat / 16) (by omega)
  have w2:=w8s (n:=c.toNat / 16) (by omega)
  have w3:=w8s (n:=c.toNat % 16) (by omega)
  rcases i with _|n
  ·show AWp _ _ _ _ _ (SS.st ⟨36,[(7,.int .i64 fun _=>0),(6,.int .i64 fun _=>(s.size:Int)),(3,.ptr 3 0),(0,.str fun _=>s)],[(3,.box [.tnil 179,.nil])]⟩)
   have h2:=ws_fresh (hexB c) (by have:=acw c;omega)
   have e1:qbL s 1=hexB c:=by rw [e1];exact ByteArray.empty_append
   have hc:(s.data[0]?).getD 0=c:=hc.symm
   have hsz:lowT.size=16:=rfl
   apply AWp.wk tF mF [(5,[(21,.tup [.int .i64 fun _=>(hexB c).size,.ifc fun _=>true],[(1000,bldC 1000 14 1 (hexB c)),(14,bldR 1 (hexB c))])])] akW ?_
   (any_goals ((with_reducible refine wI ?_);cbv;(try dsimp only [nc] at *);(repeat' (with_reducible first|exact ‹False›.elim|exact nZ|refine oC ?_ ?_|refine VC.mk rfl ?_ ?_ ?_|(apply Ca.mk<;>intro _)|refine cV (fun _=>?_) fun _=>?_|((first|apply xE|apply uE);cbv;(try dsimp only [nc] at *))))))
   all_goals (try (exfalso;omega))
   all_goals (try simp only [Int.toNat_zero,hc,k1,k2,w1,w2,w3,Int.toNat_natCast])
   any_goals ((with_reducible refine nO ?_);exact h2)
   ((all_goals (try (with_reducible ((first|refine rE ?_|refine nE ?_);cbv;(try dsimp only [nc] at *);(try simp only [wl,nc]);(repeat' apply And.intro);all_goals (try exact wZ)))));(all_goals (try ((with_reducible rw [aC]);(try simp only [wl,nc]);(repeat' (with_reducible apply And.intro));(all_goals (try exact cZ))))))
   ·show ((c.toNat / 16+1:Nat):Int)≤((16:Nat):Int);omega
   ·show ((c.toNat % 16+1:Nat):Int)≤((16:Nat):Int);omega
   ·have q:=acw c
    rw [hexB,ByteArray.size_append] at q
    exact Nat.le_trans q (by decide)
   ·refine dE 1 ⟨by omega,by omega⟩ ?_
    (focus (cbv;(try dsimp only [nc] at *);(try simp only [wl,nc]);(repeat' (with_reducible apply And.intro));all_goals (try exact wZ)))
    all_goals (first|exact w64n (by omega)|(rw [e1];done)|(rw [e1];exact fun i hi=>LeL.of_eq rfl)|skip)
  ·show AWp _ _ _ _ _ (SS.st ⟨36,[(7,.int .i64 fun _=>((n+1:Nat):Int)),(6,.int .i64 fun _=>(s.size:Int)),(3,.ptr 3 0),(0,.str fun _=>s)],[(3,bldC 3 320014 1 (qbL s (n+1))),(320014,bldR 1 (qbL s (n+1)))]⟩)
   have hzn:=hz (n+1)
   have hc:(s.data[n+1]?).getD 0=c:=hc.symm
   have ha:n+1=s.size→qbL s (n+1)=acc:=fun q=>by rw [q,hacc]
   generalize qbL s (n+1)=ac at *
   have h2:=aey (hexB c) ac (by omega) (by have:=acw c;omega)
   have hsz:lowT.size=16:=rfl
   by_cases hn:n+1<s.size
   ·apply AWp.wk tF mF [(5,[(21,.tup [.int .i64 fun _=>(hexB c).size,.ifc fun _=>true],[(1000,bldC 1000 1001000001 1 (ac++hexB c)),(1001000001,bldR 1 (ac++hexB c))])])] akW ?_
    (any_goals ((with_reducible refine wI ?_);cbv;(try dsimp only [nc] at *);(repeat' (with_reducible first|exact ‹False›.elim|exact nZ|refine oC ?_ ?_|refine VC.mk rfl ?_ ?_ ?_|(apply Ca.mk<;>intro _)|refine cV (fun _=>?_) fun _=>?_|((first|apply xE|apply uE);cbv;(try dsimp only [nc] at *))))))
    all_goals (try (exact absurd hn (Nat.not_lt.2 ‹_›)))
    all_goals (try simp only [Int.toNat_natCast,hc,k1,k2,w1,w2,w3])
    any_goals ((with_reducible refine nO ?_);exact h2)
    ((all_goals (try (with_reducible ((first|refine rE ?_|refine nE ?_);cbv;(try dsimp only [nc] at *);(try simp only [wl,nc]);(repeat' apply And.intro);all_goals (try exact wZ)))));(all_goals (try ((with_reducible rw [aC]);(try simp only [wl,nc]);(repeat' (with_reducible apply And.intro));(all_goals (try exact cZ))))))
    ·show ((c.toNat / 16+1:Nat):Int)≤((16:Nat):Int);omega
    ·show ((c.toNat % 16+1:Nat):Int)≤((16:Nat):Int);omega
    ·have q:=acw c
     rw [hexB,ByteArray.size_append] at q
     exact Nat.le_trans q (by decide)
    ·refine dE (n+1+1) ⟨by omega,by omega⟩ ?_
     (focus (cbv;(try dsimp only [nc] at *);(try simp only [wl,nc]);(repeat' (with_reducible apply And.intro));all_goals (try exact wZ)))
     all_goals (first|exact w64n (by omega)|(rw [e1];done)|(rw [e1];exact fun i hi=>LeL.of_eq rfl)|skip)
   ·have q:=ha (by omega)
    subst q
    have h3:=anz ac (by omega)
    apply AWp.wk tF mF [(5,[(21,.any,[(1000,.box [.any,.any]),(1001000001,bldR 1 ac)])])] akW ?_
    (any_goals ((with_reducible refine wI ?_);cbv;(try dsimp only [nc] at *);(repeat' (with_reducible first|exact ‹False›.elim|exact nZ|refine oC ?_ ?_|refine VC.mk rfl ?_ ?_ ?_|(apply Ca.mk<;>intro _)|refine cV (fun _=>?_) fun _=>?_|((first|apply xE|apply uE);cbv;(try dsimp only [nc] at *))))))
    all_goals (try (exact absurd ‹n+1<s.size› hn))
    any_goals ((with_reducible refine nO ?_);exact h3)
    ((all_goals (try (with_reducible ((first|refine rE ?_|refine nE ?_);cbv;(try dsimp only [nc] at *);(try simp only [wl,nc]);(repeat' apply And.intro);all_goals (try exact wZ)))));(all_goals (try ((with_reducible rw [aC]);(try simp only [wl,nc]);(repeat' (with_reducible apply And.intro));(all_goals (try exact cZ))))))
    ·show 2+ac.size≤_;omega
    ·rw [ByteArray.size_append];show 2+ac.size+1≤_;omega
end Go.Ai

namespace Go.Ai
open Go Go.Proofs Go.RowKit Go.Shelf Go.Sort Go.Lib
set_option maxRecDepth 100000
set_option maxHeartbeats 4000000
theorem tz_16 (w:World) (hT:w.cell? ⟨8,15,none⟩=some (.int .u8 4)):Calls Tryz.prog 275 #[.int .u64 16] w fun e w'=>e=.returned (.int .i64 4)∧w'=w:=by
 go_enter Tryz.func275,Tryz.ntmps275
 have key:IntKind.u64.wrap (Go.bits BinOp.and IntKind.u64 16 (IntKind.u64.wrap (-16)) * 285870213051353865) / 288230376151711744=15:=by decide +kernel
 go_wp2_with (simp only [key])
 go_ret
 exact ⟨rfl,rfl⟩
theorem tz16 (w:World) (hT:w.cell? ⟨8,15,none⟩=some (.int .u8 4)):Calls Tryz.prog 263 #[.int .u64 16] w fun e w'=>e=.returned (.int .i64 4)∧w'=w:=by
 have e275:∀ args w,(callFunc 275 args).run Tryz.prog w=.ok (.enter 275 args) w:=enters_of Tryz.func275 (by kernel_rfl) rfl
 go_enter Tryz.func263,Tryz.ntmps263
 go_wp2_with (go_at_fn 275;refine (tz_16 _ hT).mono ?_;rintro e w' ⟨rfl,rfl⟩)
 go_ret
 exact ⟨rfl,rfl⟩
theorem am5 (w:World):Calls Tryz.prog 262 #[.int .i64 16] w fun e w'=>e=.returned (.bool true)∧w'=w:=by
 go_enter Tryz.func262,Tryz.ntmps262
 go_wp2
 go_ret
 exact ⟨rfl,rfl⟩
def z65:Array Value:=Array.replicate 65 (.int .u8 0)
theorem ali:∀ w,(zeroValue 247).run Tryz.prog w=.ok (.agg z65) w:=(zero_of_info (n:=65) (by kernel_rfl)).1
def dg36:ByteArray:=⟨#[48,49,50,51,52,53,54,55,56,57,97,98,99,100,101,102,103,104,105,106,107,108,109,110,111,112,113,114,115,116,117,118,119,120,121,122]⟩
theorem cv1 (w:World) (cs:Array Value) (b:UInt8) (ty:TypeId) (h:cs[64]? = some (.int .u8 b.toNat)) :
 (convert 120 9 (.slice (some ⟨w.heap.size,64,none⟩) 1 1)).run Tryz.prog (w.alloc (.cells cs ty))=.ok (.string ⟨#[b]⟩) (w.alloc (.cells cs ty)):=by
 have:=run_convert_bytes_back (P:=Tryz.prog) (w.alloc (.cells cs ty)) 120 9 5 ⟨w.heap.size,64,none⟩ 1 [b] Tryz.underlying120 Tryz.underlying5 Tryz.underlying9 (fun j hj=>by
  obtain rfl:j=0:=by simpa using hj
  rw [add_plain,World.cell?_alloc_new];exact h)
 exact this
theorem cv2 (w:World) (cs:Array Value) (a b:UInt8) (ty:TypeId) (h1:cs[63]? = some (.int .u8 a.toNat)) (h:cs[64]? = some (.int .u8 b.toNat)) :
 (convert 120 9 (.slice (some ⟨w.heap.size,63,none⟩) 2 2)).run Tryz.prog (w.alloc (.cells cs ty))=.ok (.string ⟨#[a,b]⟩) (w.alloc (.cells cs ty)):=by
 have:=run_convert_bytes_back (P:=Tryz.prog) (w.alloc (.cells cs ty)) 120 9 5 ⟨w.heap.size,63,none⟩ 2 [a,b] Tryz.underlying120 Tryz.underlying5 Tryz.underlying9 (fun j hj=>by
  have:j=0∨j=1:=by have:j<2:=hj;omega
  rcases this with rfl|rfl
  ·rw [add_plain,World.cell?_alloc_new];exact h1
  ·rw [add_plain,World.cell?_alloc_new];exact h)
 exact this
def hexT (c:Nat):ByteArray:=if c<16 then ⟨#[dg36[c]!]⟩ else ⟨#[dg36[c / 16]!,dg36[c % 16]!]⟩
theorem fb_lo (c:Nat) (hc:c<16) (w:World) (hT:w.cell? ⟨8,15,none⟩=some (.int .u8 4)) (h8:8<w.heap.size) :
 Calls Tryz.prog 239 #[.slice none 0 0,.int .u64 c,.int .i64 16,.bool false,.bool false] w fun e w'=>e=.returned (.tuple #[.slice none 0 0,.string (hexT c)])∧∃ k os,w'=grow (w.drewN k) os:=by
 have e262:∀ args w,(callFunc 262 args).run Tryz.prog w=.ok (.enter 262 args) w:=enters_of Tryz.func262 (by kernel_rfl) rfl
 have e263:∀ args w,(callFunc 263 args).run Tryz.prog w=.ok (.enter 263 args) w:=enters_of Tryz.func263 (by kernel_rfl) rfl
 have z:=ali
 have hcc:c<dg36.size:=by show c<36;omega
 have hT':(w.alloc (.cells z65 247)).cell? ⟨8,15,none⟩=some (.int .u8 4):=by
  rw [← hT];unfold World.cell?;rw [RowKit.Below.heap_alloc w _ 8 h8]
 have e2:hexT c=⟨#[dg36[c]'hcc]⟩:=by unfold hexT;rw [if_pos hc,getElem!_pos dg36 c hcc]
 rw [e2]
 go_enter Tryz.func239,Tryz.ntmps239
 go_wp2_with (first|(go_at_fn 262;refine (am5 _).mono ?_;rintro e w' ⟨rfl,rfl⟩)|(go_at_fn 263;refine (tz16 _ hT').mono ?_;rintro e w' ⟨rfl,rfl⟩))
 go_rounds 1
 rw [cv1 w _ (dg36[c]'hcc) 247 ?hh]
 case hh=>simp [z65];rfl
 go_wp2
 go_ret2
 exact ⟨rfl,0,#[_],by rw [World.drewN_zero,alloc_eq_grow]⟩
theorem fb_hi (c:Nat) (h16:16≤c) (hc:c<256) (w:World) (hT:w.cell? ⟨8,15,none⟩=some (.int .u8 4)) (h8:8<w.heap.size) :
 Calls Tryz.prog 239 #[.slice none 0 0,.int .u64 c,.int .i64 16,.bool false,.bool false] w fun e w'=>e=.returned (.tuple #[.slice none 0 0,.string (hexT c)])∧∃ k os,w'=grow (w.drewN k) os:=by
 have e262:∀ args w,(callFunc 262 args).run Tryz.prog w=.ok (.enter 262 args) w:=enters_of Tryz.func262 (by kernel_rfl) rfl
 have e263:∀ args w,(callFunc 263 args).run Tryz.prog w=.ok (.enter 263 args) w:=enters_of Tryz.func263 (by kernel_rfl) rfl
 have z:=ali
 have hT':(w.alloc (.cells z65 247)).cell? ⟨8,15,none⟩=some (.int .u8 4):=by
  rw [← hT];unfold World.cell?;rw [RowKit.Below.heap_alloc w _ 8 h8]
 have hd1:c / 16<dg36.size:=by show c / 16<36;omega
 have hd2:c % 16<dg36.size:=by show c % 16<36;omega
 have e2:hexT c=⟨#[dg36[c / 16]'hd1,dg36[c % 16]'hd2]⟩:=by unfold hexT;rw [if_neg (by omega),getElem!_pos dg36 _ hd1,getElem!_pos dg36 _ hd2]
 rw [e2]
 have key:Go.bits BinOp.and IntKind.u64 (c:Int) 15=((c % 16:Nat):Int):=by
  rw [show (15:Int)=((15:Nat):Int) from rfl,bits_and_u64_nat c 15 (by omega) (by omega),Nat.and_two_pow_sub_one_eq_mod c 4]
 go_enter Tryz.func239,Tryz.ntmps239
 go_wp2_with (first|(go_at_fn 262;refine (am5 _).mono ?_;rintro e w' ⟨rfl,rfl⟩)|(go_at_fn 263;refine (tz16 _ hT').mono ?_;rintro e w' ⟨rfl,rfl⟩))
 go_rounds 2
 rw [cv2 w _ (dg36[c / 16]'hd1) (dg36[c % 16]'hd2) 247 ?h1 ?h2]
 case h1=>simp [z65];rfl
 case h2=>(try simp only [key]);simp [z65];rfl
 go_wp2
 go_ret2
 exact ⟨rfl,0,#[_],by rw [World.drewN_zero,alloc_eq_grow]⟩
theorem fi_16 (c:Nat) (hc:c<256) (w:World) (hT:w.cell? ⟨8,15,none⟩=some (.int .u8 4)) (h8:8<w.heap.size) :
 Calls Tryz.prog 195 #[.int .i64 c,.int .i64 16] w fun e w'=>e=.returned (.string (hexT c))∧∃ k os,w'=grow (w.drewN k) os:=by
 have e239:∀ args w,(callFunc 239 args).run Tryz.prog w=.ok (.enter 239 args) w:=enters_of Tryz.func239 (by kernel_rfl) rfl
 have hb:∀ w:World,w.cell? ⟨8,15,none⟩=some (.int .u8 4)→8<w.heap.size→Calls Tryz.prog 239 #[.slice none 0 0,.int .u64 c,.int .i64 16,.bool false,.bool false] w fun e w'=>e=.returned (.tuple #[.slice none 0 0,.string (hexT c)])∧∃ k os,w'=grow (w.drewN k) os:=by
  intro w hT h8
  by_cases h:c<16
  ·exact fb_lo c h w hT h8
  ·exact fb_hi c (by omega) hc w hT h8
 generalize hexT c=t at *
 have hw:IntKind.u64.wrap (c:Int)=(c:Int):=by rw [IntKind.wrap_u64];omega
 go_enter Tryz.func195,Tryz.ntmps195
 go_wp2_with (go_at_fn 239;refine (hb _ hT h8).mono ?_;rintro e w' ⟨rfl,k,os,rfl⟩)
 go_ret
 exact ⟨rfl,k,os,rfl⟩
theorem Fi_16 (c:Nat) (hc:c<256) (w:World) (hT:w.cell? ⟨8,15,none⟩=some (.int .u8 4)) (h8:8<w.heap.size) :
 Calls Tryz.prog 218 #[.int .i64 c,.int .i64 16] w fun e w'=>e=.returned (.string (hexT c))∧∃ k os,w'=grow (w.drewN k) os:=by
 have e195:∀ args w,(callFunc 195 args).run Tryz.prog w=.ok (.enter 195 args) w:=enters_of Tryz.func195 (by kernel_rfl) rfl
 go_enter Tryz.func218,Tryz.ntmps218
 go_wp2_with (go_at_fn 195;refine (fi_16 c hc _ hT h8).mono ?_;rintro e w' ⟨rfl,k,os,rfl⟩)
 go_ret
 exact ⟨rfl,k,os,rfl⟩
theorem hex_ok (c:UInt8):(hexT c.toNat).size≤64∧Af Tryz.prog 218 [.int .i64 fun _=>c.toNat,.int .i64 fun _=>16] [] (.str fun _=>hexT c.toNat) []:=by
 refine ⟨by unfold hexT;split;exact (show 1≤64 by omega);exact (show 2≤64 by omega),Af.akI (vals:=#[.int .i64 (c.toNat:Int),.int .i64 16]) Tryz.func218 rfl fun w hT=>?_⟩
 refine (Fi_16 c.toNat (UInt8.toNat_lt c) w hT.db (by have:=hT.sz;omega)).mono fun e w' ⟨he,k,os,hw⟩=>⟨_,he,fun w2 D B=>.str fun _=>hexT c.toNat,?_⟩
 rw [hw];exact Lib.below_grow _ _ (Nat.le_refl _) _ _
end Go.Ai
