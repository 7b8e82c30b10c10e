/- Chapter 13: quoted texts. -/
import Derived.Test.YtbagpkiomjlhkaaGreatDoorBld
import Derived.Test.YtbagpkiomjlhkaaGreatDoorWide
import Derived.Shelf.Spec.TrailingZeros
import Derived.Lib.ItoaMem
import Derived.WalkKit
import Derived.LoopN
import Derived.Handy
import Derived.Deep.WholeRow
import Derived.BigCall
import Derived.BigGuard
set_option linter.all false
namespace Go.Ai
open Go Go.Proofs
set_option maxRecDepth 100000
set_option maxHeartbeats 4000000
def apw:Af Tryz.prog 162 [.ptr 1000 0] [(1000,.box [.tnil 179,.nil])] (.str fun _=>⟨#[]⟩) [(1000,.box [.tnil 179,.nil])]:=by
 refine⟨aco Tryz.func162 rfl rfl,fun E β vs hpin hdf hY h0=>?_⟩;obtain⟨b,us,ty,q1,q2,q3,q4,q5,q6⟩:=h0.objs 1000;obtain rfl:=agV h0 q1;obtain⟨u0,u1,rfl⟩:=arr2 (us:=us) q4.symm;obtain rfl:u1=.slice none 0 0:=(q5 1 _ _ rfl rfl).ab2;have c1:E.w0.drew.cell? ⟨b,1,none⟩=some (.slice none 0 0):=by
  have:E.w0.drew.heap[b]? = some (.cells #[u0,.slice none 0 0] ty (0,0)):=q2;simp[World.cell?,this]
 refine(aeC b E.w0 _ _ none 0 0 none _ c1 (Lib.run_unsafeSliceData_nil _ _ _ _ _) c1 (Lib.run_unsafeString_none _ _ _ _ _)).mono fun e w' ⟨he,hw⟩=>?_;subst hw;have hH:upd (oL [(1000,AO.box [.tnil 179,.nil])]) 1000 (.box [.tnil 179,.nil])=oL [(1000,.box [.tnil 179,.nil])]:=by
  funext o;unfold upd;by_cases e:o=1000
  ·subst e;rfl
  ·simp only[if_neg e]
 have hβ:upd β 1000 (β 1000)=β:=by funext o;unfold upd;split<;>simp_all
 obtain⟨g1,_⟩:=RelB.turn (S:=⟨[.ptr 1000 0],[(1000,.box [.tnil 179,.nil])]⟩) h0 (o:=1000) trivial (w':=E.w0.drew) rfl rfl rfl (Nat.le_refl _) (fun _ _ _=>rfl) (ob:=.box [.tnil 179,.nil]) trivial (v:=β 1000) (fun b hb=>.inl hb) (fun _ _=>rfl) (fun x t sz ver n f hf=>by cases hf) (fun cs hcs=>⟨_,rfl⟩)
  (fun hrx hrd=>⟨b,_,ty,by rw[hβ];exact q1,q2,q3,q4,fun i av v h1 h2=>hrx _ _ (q5 i av v h1 h2),q6⟩) (fun ks f s p q=>by cases q)
 have g3:RelB E [.ptr 1000 0] (oL [(1000,.box [.tnil 179,.nil])]) ⟨#[.pointer (some ⟨b,0,none⟩)],[]⟩ E.w0.drew β:=by
  have:=g1;rw[hβ]at this;rw[<- hH];exact this
 exact⟨_,β,he,g3.res hdf (.d (.str _)),Link.same⟩
end Go.Ai

namespace Go.Ai
open Go Go.Proofs Go.RowKit Go.Shelf Go.Sort Go.Lib
set_option maxRecDepth 100000
set_option maxHeartbeats 4000000
end Go.Ai
