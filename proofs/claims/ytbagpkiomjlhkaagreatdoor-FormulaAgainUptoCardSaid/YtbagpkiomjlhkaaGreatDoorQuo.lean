/- Chapter 13: quoted texts. -/
import Derived.Test.YtbagpkiomjlhkaaGreatDoorBld
import Derived.Test.YtbagpkiomjlhkaaGreatDoorWide
import Derived.Shelf.Spec.TrailingZeros
import Derived.Lib.ItoaMem
import Derived.WalkKit
import Derived.LoopN
import Derived.Handy
import Derived.Deep.WholeRow
import Derived.BigCall
import Derived.BigGuard
set_option linter.all false
namespace Go.Ai
open Go Go.Proofs Tryz
set_option maxRecDepth 100000
set_option maxHeartbeats 4000000
def fW(hx:UInt8->ByteArray)(c:UInt8):ByteArray:=
 if c.toNat=34∨c.toNat=92 then⟨#[92]⟩++⟨#[c]⟩else if c.toNat=10 then⟨#[92,110]⟩else if c.toNat=13 then⟨#[92,114]⟩else if c.toNat=9 then⟨#[92,116]⟩
 else if c.toNat<32∨c.toNat=127 then⟨#[92,117,123]⟩++hx c++⟨#[125]⟩else⟨#[c]⟩
def bo(hx:UInt8->ByteArray)(s:ByteArray):Nat->ByteArray
 | 0=>⟨#[34]⟩
 | n+1=>bo hx s n++fW hx ((s.data[n]?).getD 0)
theorem Lu(hx:UInt8->ByteArray)(s:ByteArray)(h:∀c,(hx c).size<=64):∀i,(bo hx s i).size<=1+70*i
 | 0=>by show 1<=_;omega
 | i+1=>by
  have:=Lu hx s h i;rw[bo,aj];have h2:(fW hx ((s.data[i]?).getD 0)).size<=70:=by
   have:=h ((s.data[i]?).getD 0);unfold fW
   repeat' split
   ·rw[aj];show 1+1<=70;omega
   ·show 2<=70;omega
   ·show 2<=70;omega
   ·show 2<=70;omega
   ·simp only[aj];show 3+_+1<=70;omega
   ·show 1<=70;omega
  omega
def V7(hx:UInt8->ByteArray)(s:ByteArray)(hs:s.size<=1000000)(hh:∀c:UInt8,(hx c).size<=64∧Af prog 218 [.int .i64 fun _=>c.toNat,.int .i64 fun _=>16] [] (.str fun _=>hx c) []):
 Af prog 152 [.str fun _=>s] [] (.str fun _=>bo hx s s.size++⟨#[34]⟩) []:=by
 have h1:=Bm 34
 (apply Af.of tF mF [.tmp 2] EO [(2,[(0,.bz fun _=>true,[(1000,bc 1000 14 1 ⟨#[34]⟩),(14,br 1 ⟨#[34]⟩)])]),(20,[(0,.bz fun _=>true,[(1000,bc 1000 1001000001 1 (bo hx s s.size++⟨#[34]⟩)),(1001000001,br 1 (bo hx s s.size++⟨#[34]⟩))])]),(21,[(0,.str fun _=>bo hx s s.size++⟨#[34]⟩,[(1000,bc 1000 1001000001 0 (bo hx s s.size++⟨#[34]⟩)),(1001000001,lX (bo hx s s.size++⟨#[34]⟩))])])] func152 (fun _=>?_);(repeat' with_reducible first|exact nY|refine oC ?_ ?_|refine vQ ?_ ?_ ?_|refine cV (fun _=>?_) fun _=>?_|refine wQ ?_|fail))
 all_goals try exact zB
 (all_goals try first|exact eZ|with_reducible (refine rQ ?_;repeat' first|apply ai|exact wZ)|(refine sQ ?_;repeat' first|with_reducible apply ai|exact cZ))
 refine .loop (fun i:Nat=>⟨55,[(9,.int .i64 fun _=>(i:Int)),(8,.int .i64 fun _=>(s.size:Int)),(3,.ptr 3 0),(0,.str fun _=>s)],[(3,bc 3 70014 1 (bo hx s i)),(70014,br 1 (bo hx s i))]⟩)
  (fun i=>i<=s.size) (fun i=>s.size-i) 0 (aB _) ?_ fun i E hi=>?_
 ·exact aZ
 have hz:=Lu hx s (fun c=>(hh c).1) i;by_cases hi:i<s.size
 ·obtain⟨c,hc⟩:∃c,c=(s.data[i]?).getD 0:=⟨_,rfl⟩
  have e1:bo hx s (i+1)=bo hx s i++fW hx c:=by rw[hc];rfl
  generalize bo hx s i=acc at*;have z3:(⟨#[92,117,123]⟩:ByteArray).size=3:=rfl;have z1:(⟨#[125]⟩:ByteArray).size=1:=rfl;have h2:=sM 92 acc zo;have h3:=sM c (acc++⟨#[92]⟩) (by rw[aj];show _+1<=_;omega);have h4:=sM c acc zo;have h5:=sP ⟨#[92,110]⟩ acc zo zd;have h6:=sP ⟨#[92,114]⟩ acc zo zd;have h7:=sP ⟨#[92,116]⟩ acc zo zd;have h8:=(hh c).2;have h9:=sP (⟨#[92,117,123]⟩++hx c++⟨#[125]⟩) acc zo (by have:=(hh c).1;simp only[aj];show 3+_+1<=_;omega);have hk:=(hh c).1;unfold fW at e1;have hcn:c.toNat=((s.data[i]?).getD 0).toNat:=by rw[hc]
  have hcw:IntKind.i64.wrap (c.toNat:Int)=c.toNat:=ax zo (by have:=c.toNat_lt;omega);generalize hx c=hc1 at*
  apply af.wk tF mF [(9,[(0,.bz fun _=>true,[(1000,bc 1000 1001000001 1 (acc++⟨#[92]⟩)),(1001000001,br 1 (acc++⟨#[92]⟩))])]),(10,[(1,.bz fun _=>true,[(1000,bc 1000 1001000001 1 (acc++⟨#[92]⟩++⟨#[c]⟩)),(1001000001,br 1 (acc++⟨#[92]⟩++⟨#[c]⟩))])]),
   (12,[(0,.ag [zI 2,.bz fun _=>true],[(1000,bc 1000 1001000001 1 (acc++⟨#[92,110]⟩)),(1001000001,br 1 (acc++⟨#[92,110]⟩))])]),(14,[(0,.ag [zI 2,.bz fun _=>true],[(1000,bc 1000 1001000001 1 (acc++⟨#[92,114]⟩)),(1001000001,br 1 (acc++⟨#[92,114]⟩))])]),(16,[(0,.ag [zI 2,.bz fun _=>true],[(1000,bc 1000 1001000001 1 (acc++⟨#[92,116]⟩)),(1001000001,br 1 (acc++⟨#[92,116]⟩))])]),
   (18,[(2,zR hc1,[]),(5,.ag [.int .i64 fun _=>(⟨#[92,117,123]⟩++hc1++⟨#[125]⟩:ByteArray).size,.bz fun _=>true],[(1000,bc 1000 1001000001 1 (acc++(⟨#[92,117,123]⟩++hc1++⟨#[125]⟩))),(1001000001,br 1 (acc++(⟨#[92,117,123]⟩++hc1++⟨#[125]⟩)))])]),(7,[(1,.bz fun _=>true,[(1000,bc 1000 1001000001 1 (acc++⟨#[c]⟩)),(1001000001,br 1 (acc++⟨#[c]⟩))])])] EO ?_
  (repeat' with_reducible first|exact nY|refine oC ?_ ?_|refine vQ ?_ ?_ ?_|refine cV (fun _=>?_) fun _=>?_|refine wQ ?_|fail)
  all_goals try exact absurd hi ‹¬i<s.size›
  all_goals(try simp only[bu,<- hc,hcw])
  all_goals try exact zB
  (all_goals try first|exact eZ|with_reducible (refine rQ ?_;repeat' first|apply ai|exact wZ)|(refine sQ ?_;repeat' first|with_reducible apply ai|exact cZ))
  all_goals try focus(simp only[aj,z3,z1];omega)
  ·rw[ae zo,<- ee]at e1;refine dE (i+1) ⟨zo,zo⟩ ?_
   (focus(refine aQ ?_;repeat' first|with_reducible apply ai|exact wZ|fail))
   all_goals(first|exact aS zo|(rw[e1];done)|(rw[e1];exact fun i hi=>aD.of_eq rfl))
  ·rw[aa zo,ae zo]at e1;refine dE (i+1) ⟨zo,zo⟩ ?_
   (focus(refine aQ ?_;repeat' first|with_reducible apply ai|exact wZ|fail))
   all_goals(first|exact aS zo|(rw[e1];done)|(rw[e1];exact fun i hi=>aD.of_eq rfl))
  ·rw[aa zo,aa zo,ae zo]at e1;refine dE (i+1) ⟨zo,zo⟩ ?_
   (focus(refine aQ ?_;repeat' first|with_reducible apply ai|exact wZ|fail))
   all_goals(first|exact aS zo|(rw[e1];done)|(rw[e1];exact fun i hi=>aD.of_eq rfl))
  ·rw[aa zo,aa zo,aa zo,ae zo]at e1;refine dE (i+1) ⟨zo,zo⟩ ?_
   (focus(refine aQ ?_;repeat' first|with_reducible apply ai|exact wZ|fail))
   all_goals(first|exact aS zo|(rw[e1];done)|(rw[e1];exact fun i hi=>aD.of_eq rfl))
  ·rw[aa zo,aa zo,aa zo,aa zo,ae zo]at e1;refine dE (i+1) ⟨zo,zo⟩ ?_
   (focus(refine aQ ?_;repeat' first|with_reducible apply ai|exact wZ|fail))
   all_goals(first|exact aS zo|(rw[e1];done)|(rw[e1];exact fun i hi=>aD.of_eq rfl))
  ·rw[aa zo,aa zo,aa zo,aa zo,aa zo]at e1;refine dE (i+1) ⟨zo,zo⟩ ?_
   (focus(refine aQ ?_;repeat' first|with_reducible apply ai|exact wZ|fail))
   all_goals(first|exact aS zo|(rw[e1];done)|(rw[e1];exact fun i hi=>aD.of_eq rfl))
 ·obtain rfl:i=s.size:=by omega
  generalize bo hx s s.size=acc at*;have h2:=sM 34 acc zo;have h3:=yb (acc++⟨#[34]⟩) (by rw[aj];show _+1<=_;omega);apply af.wk tF mF [] EO ?_
  (repeat' with_reducible first|exact nY|refine oC ?_ ?_|refine vQ ?_ ?_ ?_|refine cV (fun _=>?_) fun _=>?_|refine wQ ?_|fail)
  all_goals try exact absurd ‹s.size<s.size› hi
  all_goals try exact zB
  all_goals exact eZ
def EP:Af prog 162 [.ptr 1000 0] [(1000,.box [.bj 179,.nil])] (.str fun _=>⟨#[]⟩) [(1000,.box [.bj 179,.nil])]:=by
 refine⟨lm func162 rfl rfl,fun E β vs cC hdf hY h0=>?_⟩;obtain⟨b,us,ty,q1,q2,q3,q4,q5,q6⟩:=h0.objs 1000;obtain rfl:=x9 h0 q1;obtain⟨u0,u1,rfl⟩:=x8 (us:=us) q4.symm;obtain rfl:u1=.slice none 0 0:=(q5 1 _ _ rfl rfl).kG;have c1:E.w0.drew.cell? ⟨b,1,none⟩=some (.slice none 0 0):=by
  have:E.w0.drew.heap[b]? = some (.cells #[u0,.slice none 0 0] ty (0,0)):=q2;simp[World.cell?,this]
 refine(vc b E.w0 _ _ none 0 0 none _ c1 (Lib.run_unsafeSliceData_nil _ _ _ _ _) c1 (Fs _ _ _ _ _)).mono fun e w' ⟨he,hw⟩=>?_;subst hw;have hH:upd (oL [(1000,AO.box [.bj 179,.nil])]) 1000 (.box [.bj 179,.nil])=oL [(1000,.box [.bj 179,.nil])]:=by
  funext o;unfold upd;by_cases e:o=1000
  ·subst e;rfl
  ·simp only[aa e]
 have hβ:upd β 1000 (β 1000)=β:=by funext o;unfold upd;split<;>simp_all
 obtain⟨g1,_⟩:=RelB.turn (S:=⟨[.ptr 1000 0],[(1000,.box [.bj 179,.nil])]⟩) h0 (o:=1000) trivial (w':=E.w0.drew) rfl rfl rfl (ao _) (fun _ _ _=>rfl) (ob:=.box [.bj 179,.nil]) trivial (v:=β 1000) (fun b hb=>.inl hb) (fun _ _=>rfl) (fun x t sz ver n f hf=>by cases hf) (fun cs hcs=>⟨_,rfl⟩)
  (fun hrx hrd=>⟨b,_,ty,by rw[hβ];exact q1,q2,q3,q4,fun i av v h1 h2=>hrx _ _ (q5 i av v h1 h2),q6⟩) (fun ks f s p q=>by cases q)
 have g3:RelB E [.ptr 1000 0] (oL [(1000,.box [.bj 179,.nil])]) ⟨#[.pointer (some ⟨b,0,none⟩)],[]⟩ E.w0.drew β:=by
  have:=g1;rw[hβ]at this;rw[<- hH];exact this
 exact⟨_,β,he,g3.res hdf (.d (.str _)),Link.same⟩
def AI:ByteArray:=⟨#[48,49,50,51,52,53,54,55,56,57,97,98,99,100,101,102]⟩
def fm(c:UInt8):ByteArray:=AI.extract (c.toNat/16) (c.toNat/16+1)++AI.extract (c.toNat%16) (c.toNat%16+1)
def dU(s:ByteArray):Nat->ByteArray
 | 0=>⟨#[]⟩
 | n+1=>dU s n++fm ((s.data[n]?).getD 0)
def Lv(s:ByteArray):Nat->SS
 | 0=>⟨36,[(7,.int .i64 fun _=>0),(6,.int .i64 fun _=>(s.size:Int)),(3,.ptr 3 0),(0,.str fun _=>s)],[(3,.box [.bj 179,.nil])]⟩
 | n+1=>⟨36,[(7,.int .i64 fun _=>((n+1:Nat):Int)),(6,.int .i64 fun _=>(s.size:Int)),(3,.ptr 3 0),(0,.str fun _=>s)],[(3,bc 3 320014 1 (dU s (n+1))),(320014,br 1 (dU s (n+1)))]⟩
def xz(c:UInt8):(fm c).size<=2:=by
 unfold fm;rw[aj,dh,dh];omega
theorem EM(s:ByteArray):∀i,(dU s i).size<=2*i
 | 0=>aB _
 | i+1=>by
  have:=EM s i;have:=xz ((s.data[i]?).getD 0);rw[dU,aj];omega
def w8{n:Nat}(h:n<256):IntKind.u8.wrap (n:Int)=n:=by
 simp[IntKind.wrap,IntKind.bits,IntKind.signed];omega
def Lw{n:Nat}(h:n<255):IntKind.u8.wrap ((n:Int)+1)=((n+1:Nat):Int):=w8 (n:=n+1) zo
def Wa(s:ByteArray)(hs:s.size<=1000000):Af prog 153 [.str fun _=>s] [] (.str fun _=>⟨#[120,34]⟩++dU s s.size++⟨#[34]⟩) []:=by
 by_cases h0:s.size=0
 ·rw[h0]
  (apply Af.of tF mF [.tmp 2] uz [(7,[(0,.str fun _=>⟨#[]⟩,[(1000,.box [.bj 179,.nil])])])] func153 (fun _=>?_);(repeat' with_reducible first|exact nY|refine oC ?_ ?_|refine vQ ?_ ?_ ?_|refine cV (fun _=>?_) fun _=>?_|refine wQ ?_|fail))
  (all_goals try first|exact eZ|with_reducible (refine rQ ?_;repeat' first|apply ai|exact wZ)|(refine sQ ?_;repeat' first|with_reducible apply ai|exact cZ))
  refine .loop (fun i:Nat=>Lv s 0) (fun i=>i=0) (fun i=>0) 0 rfl ?_ fun i E hi=>?_
  ·exact aZ
  show af _ _ _ _ _ (SS.st ⟨36,[(7,.int .i64 fun _=>0),(6,.int .i64 fun _=>(s.size:Int)),(3,.ptr 3 0),(0,.str fun _=>s)],[(3,.box [.bj 179,.nil])]⟩);apply af.wk tF mF [(5,[(21,.any,[(1000,.box [.any,.any])])])] uz ?_
  (repeat' with_reducible first|exact nY|refine oC ?_ ?_|refine vQ ?_ ?_ ?_|refine cV (fun _=>?_) fun _=>?_|refine wQ ?_|fail)
  all_goals(try(exfalso;omega))
  any_goals((with_reducible refine nO ?_);exact EP)
  (all_goals try first|exact eZ|with_reducible (refine rQ ?_;repeat' first|apply ai|exact wZ)|(refine sQ ?_;repeat' first|with_reducible apply ai|exact cZ))
  ·decide
  ·decide
  ·rfl
 ·have hz:=EM s;have hZ:=hz s.size;obtain⟨acc,hacc⟩:∃a,a=dU s s.size:=⟨_,rfl⟩
  rw[<- hacc]at hZ ⊢
  (apply Af.of tF mF [.tmp 2] uz [(7,[(0,zR acc,[(1000,bc 1000 1001000001 0 acc),(1001000001,lX acc)])])] func153 (fun _=>?_);(repeat' with_reducible first|exact nY|refine oC ?_ ?_|refine vQ ?_ ?_ ?_|refine cV (fun _=>?_) fun _=>?_|refine wQ ?_|fail))
  (all_goals try first|exact eZ|with_reducible (refine rQ ?_;repeat' first|apply ai|exact wZ)|(refine sQ ?_;repeat' first|with_reducible apply ai|exact cZ))
  refine .loop (fun i:Nat=>Lv s i) (fun i=>i<=s.size) (fun i=>s.size-i) 0 (aB _) ?_ fun i E hi=>?_
  ·exact aZ
  obtain⟨c,hc⟩:∃c,c=(s.data[i]?).getD 0:=⟨_,rfl⟩
  have hcn:=c.toNat_lt;have e1:dU s (i+1)=dU s i++fm c:=by rw[hc];rfl
  have k1:(c.toNat:Int).tdiv 16=((c.toNat/16:Nat):Int):=by rw[qx zo];omega
  have k2:(c.toNat:Int).tmod 16=((c.toNat%16:Nat):Int):=by rw[mP zo];omega
  have w1:=w8 (n:=c.toNat/16) zo;have w2:=Lw (n:=c.toNat/16) zo;have w3:=Lw (n:=c.toNat%16) zo;rcases i with _|n
  ·show af _ _ _ _ _ (SS.st ⟨36,[(7,.int .i64 fun _=>0),(6,.int .i64 fun _=>(s.size:Int)),(3,.ptr 3 0),(0,.str fun _=>s)],[(3,.box [.bj 179,.nil])]⟩);have h2:=FY (fm c) (by have:=xz c;omega);have e1:dU s 1=fm c:=by rw[e1];exact x7
   have hc:(s.data[0]?).getD 0=c:=hc.symm;have hsz:AI.size=16:=rfl;apply af.wk tF mF [(5,[(21,.ag [.int .i64 fun _=>(fm c).size,.bz fun _=>true],[(1000,bc 1000 14 1 (fm c)),(14,br 1 (fm c))])])] uz ?_
   (repeat' with_reducible first|exact nY|refine oC ?_ ?_|refine vQ ?_ ?_ ?_|refine cV (fun _=>?_) fun _=>?_|refine wQ ?_|fail)
   all_goals(try(exfalso;omega))
   all_goals(try simp only[gt,hc,k1,k2,w1,w2,w3,bu])
   all_goals try exact zB
   (all_goals try first|exact eZ|with_reducible (refine rQ ?_;repeat' first|apply ai|exact wZ)|(refine sQ ?_;repeat' first|with_reducible apply ai|exact cZ))
   ·show((c.toNat/16+1:Nat):Int)<=((16:Nat):Int);omega
   ·show((c.toNat%16+1:Nat):Int)<=((16:Nat):Int);omega
   ·have q:=xz c;rw[fm,aj]at q;exact aG q zd
   ·refine dE 1 ⟨zo,zo⟩ ?_
    (focus(refine aQ ?_;repeat' first|with_reducible apply ai|exact wZ|fail))
    all_goals(first|exact aS zo|(rw[e1];done)|(rw[e1];exact fun i hi=>aD.of_eq rfl)|skip)
  ·show af _ _ _ _ _ (SS.st ⟨36,[(7,.int .i64 fun _=>((n+1:Nat):Int)),(6,.int .i64 fun _=>(s.size:Int)),(3,.ptr 3 0),(0,.str fun _=>s)],[(3,bc 3 320014 1 (dU s (n+1))),(320014,br 1 (dU s (n+1)))]⟩);have hzn:=hz (n+1);have hc:(s.data[n+1]?).getD 0=c:=hc.symm;have ha:n+1=s.size->dU s (n+1)=acc:=fun q=>by rw[q,hacc]
   generalize dU s (n+1)=ac at*;have h2:=sP (fm c) ac zo (by have:=xz c;omega);have hsz:AI.size=16:=rfl;by_cases hn:n+1<s.size
   ·apply af.wk tF mF [(5,[(21,.ag [.int .i64 fun _=>(fm c).size,.bz fun _=>true],[(1000,bc 1000 1001000001 1 (ac++fm c)),(1001000001,br 1 (ac++fm c))])])] uz ?_
    (repeat' with_reducible first|exact nY|refine oC ?_ ?_|refine vQ ?_ ?_ ?_|refine cV (fun _=>?_) fun _=>?_|refine wQ ?_|fail)
    all_goals try exact absurd hn (lU.2 ‹_›)
    all_goals(try simp only[bu,hc,k1,k2,w1,w2,w3])
    all_goals try exact zB
    (all_goals try first|exact eZ|with_reducible (refine rQ ?_;repeat' first|apply ai|exact wZ)|(refine sQ ?_;repeat' first|with_reducible apply ai|exact cZ))
    ·show((c.toNat/16+1:Nat):Int)<=((16:Nat):Int);omega
    ·show((c.toNat%16+1:Nat):Int)<=((16:Nat):Int);omega
    ·have q:=xz c;rw[fm,aj]at q;exact aG q zd
    ·refine dE (n+1+1) ⟨zo,zo⟩ ?_
     (focus(refine aQ ?_;repeat' first|with_reducible apply ai|exact wZ|fail))
     all_goals(first|exact aS zo|(rw[e1];done)|(rw[e1];exact fun i hi=>aD.of_eq rfl)|skip)
   ·have q:=ha zo;subst q;have h3:=yb ac zo;apply af.wk tF mF [(5,[(21,.any,[(1000,.box [.any,.any]),(1001000001,br 1 ac)])])] uz ?_
    (repeat' with_reducible first|exact nY|refine oC ?_ ?_|refine vQ ?_ ?_ ?_|refine cV (fun _=>?_) fun _=>?_|refine wQ ?_|fail)
    all_goals try exact absurd ‹n+1<s.size› hn
    all_goals try exact zB
    (all_goals try first|exact eZ|with_reducible (refine rQ ?_;repeat' first|apply ai|exact wZ)|(refine sQ ?_;repeat' first|with_reducible apply ai|exact cZ))
    ·show 2+ac.size<=_;omega
    ·rw[aj];show 2+ac.size+1<=_;omega
end Go.Ai

namespace Go.Ai
open Go Go.Proofs Go.RowKit Go.Shelf Go.Sort Go.Lib Tryz
set_option maxRecDepth 100000
set_option maxHeartbeats 4000000
def Wp(w:World)(hT:w.cell? ⟨8,15,none⟩=some (.int .u8 4)):Calls prog 275 #[.int .u64 16] w fun e w'=>e=.returned (.int .i64 4)∧w'=w:=by
 go_enter func275,ntmps275
 have key:IntKind.u64.wrap (Go.bits BinOp.and IntKind.u64 16 (IntKind.u64.wrap (-16))*285870213051353865)/288230376151711744=15:=by decide +kernel
 go_wp2_with (simp only[key])
 go_ret
 exact⟨rfl,rfl⟩
def Ly(w:World)(hT:w.cell? ⟨8,15,none⟩=some (.int .u8 4)):Calls prog 263 #[.int .u64 16] w fun e w'=>e=.returned (.int .i64 4)∧w'=w:=by
 have e275:∀args w,(callFunc 275 args).run prog w=.ok (.enter 275 args) w:=enters_of func275 zk rfl
 go_enter func263,ntmps263
 go_wp2_with (go_at_fn 275;refine(Wp _ hT).mono ?_;rintro e w' ⟨rfl,rfl⟩)
 go_ret
 exact⟨rfl,rfl⟩
def Lz(w:World):Calls prog 262 #[.int .i64 16] w fun e w'=>e=.returned (.bool true)∧w'=w:=by
 go_enter func262,ntmps262
 go_wp2
 go_ret
 exact⟨rfl,rfl⟩
def z65:Array Value:=Array.replicate 65 (.int .u8 0)
def LA:∀w,(zeroValue 247).run prog w=.ok (.agg z65) w:=(zero_of_info (n:=65) zk).1
def jy:ByteArray:=⟨#[48,49,50,51,52,53,54,55,56,57,97,98,99,100,101,102,103,104,105,106,107,108,109,110,111,112,113,114,115,116,117,118,119,120,121,122]⟩
def Wq(w:World)(cs:Array Value)(b:UInt8)(ty:TypeId)(h:cs[64]? = some (.int .u8 b.toNat)):
 (convert 120 9 (.slice (some ⟨w.heap.size,64,none⟩) 1 1)).run prog (w.alloc (.cells cs ty))=.ok (.string ⟨#[b]⟩) (w.alloc (.cells cs ty)):=by
 have:=run_convert_bytes_back (P:=prog) (w.alloc (.cells cs ty)) 120 9 5 ⟨w.heap.size,64,none⟩ 1 [b] underlying120 underlying5 underlying9 (fun j hj=>by
  obtain rfl:j=0:=by simpa using hj
  rw[add_plain,World.cell?_alloc_new];exact h)
 exact this
def Wr(w:World)(cs:Array Value)(a b:UInt8)(ty:TypeId)(h1:cs[63]? = some (.int .u8 a.toNat))(h:cs[64]? = some (.int .u8 b.toNat)):
 (convert 120 9 (.slice (some ⟨w.heap.size,63,none⟩) 2 2)).run prog (w.alloc (.cells cs ty))=.ok (.string ⟨#[a,b]⟩) (w.alloc (.cells cs ty)):=by
 have:=run_convert_bytes_back (P:=prog) (w.alloc (.cells cs ty)) 120 9 5 ⟨w.heap.size,63,none⟩ 2 [a,b] underlying120 underlying5 underlying9 (fun j hj=>by
  have:j=0∨j=1:=by have:j<2:=hj;omega
  rcases this with rfl|rfl
  ·rw[add_plain,World.cell?_alloc_new];exact h1
  ·rw[add_plain,World.cell?_alloc_new];exact h)
 exact this
def fk(c:Nat):ByteArray:=if c<16 then⟨#[jy[c]!]⟩else⟨#[jy[c/16]!,jy[c%16]!]⟩
def Ws(c:Nat)(hc:c<16)(w:World)(hT:w.cell? ⟨8,15,none⟩=some (.int .u8 4))(h8:8<w.heap.size):
 Calls prog 239 #[.slice none 0 0,.int .u64 c,.int .i64 16,.bool false,.bool false] w fun e w'=>e=.returned (.tuple #[.slice none 0 0,.string (fk c)])∧∃k os,w'=grow (w.drewN k) os:=by
 have e262:∀args w,(callFunc 262 args).run prog w=.ok (.enter 262 args) w:=enters_of func262 zk rfl;have Wt:∀args w,(callFunc 263 args).run prog w=.ok (.enter 263 args) w:=enters_of func263 zk rfl;have z:=LA;have hcc:c<jy.size:=by show c<36;omega
 have hT':(w.alloc (.cells z65 247)).cell? ⟨8,15,none⟩=some (.int .u8 4):=by
  rw[<- hT];unfold World.cell?;rw[Be w _ 8 h8]
 have e2:fk c=⟨#[jy[c]'hcc]⟩:=by unfold fk;rw[ae hc,getElem!_pos jy c hcc]
 rw[e2]
 go_enter func239,ntmps239
 go_wp2_with (first|(go_at_fn 262;refine(Lz _).mono ?_;rintro e w' ⟨rfl,rfl⟩)|(go_at_fn 263;refine(Ly _ hT').mono ?_;rintro e w' ⟨rfl,rfl⟩))
 go_rounds 1
 rw[Wq w _ (jy[c]'hcc) 247 ?hh]
 case hh=>simp[z65];rfl
 go_wp2
 go_ret2
 exact⟨rfl,0,#[_],by rw[World.drewN_zero,alloc_eq_grow]⟩
def Wu(c:Nat)(h16:16<=c)(hc:c<256)(w:World)(hT:w.cell? ⟨8,15,none⟩=some (.int .u8 4))(h8:8<w.heap.size):
 Calls prog 239 #[.slice none 0 0,.int .u64 c,.int .i64 16,.bool false,.bool false] w fun e w'=>e=.returned (.tuple #[.slice none 0 0,.string (fk c)])∧∃k os,w'=grow (w.drewN k) os:=by
 have e262:∀args w,(callFunc 262 args).run prog w=.ok (.enter 262 args) w:=enters_of func262 zk rfl;have Wt:∀args w,(callFunc 263 args).run prog w=.ok (.enter 263 args) w:=enters_of func263 zk rfl;have z:=LA;have hT':(w.alloc (.cells z65 247)).cell? ⟨8,15,none⟩=some (.int .u8 4):=by
  rw[<- hT];unfold World.cell?;rw[Be w _ 8 h8]
 have hd1:c/16<jy.size:=by show c/16<36;omega
 have hd2:c%16<jy.size:=by show c%16<36;omega
 have e2:fk c=⟨#[jy[c/16]'hd1,jy[c%16]'hd2]⟩:=by unfold fk;rw[aa zo,getElem!_pos jy _ hd1,getElem!_pos jy _ hd2]
 rw[e2];have key:Go.bits BinOp.and IntKind.u64 (c:Int) 15=((c%16:Nat):Int):=by
  rw[show(15:Int)=((15:Nat):Int)from rfl,bits_and_u64_nat c 15 zo zo,Nat.and_two_pow_sub_one_eq_mod c 4]
 go_enter func239,ntmps239
 go_wp2_with (first|(go_at_fn 262;refine(Lz _).mono ?_;rintro e w' ⟨rfl,rfl⟩)|(go_at_fn 263;refine(Ly _ hT').mono ?_;rintro e w' ⟨rfl,rfl⟩))
 go_rounds 2
 rw[Wr w _ (jy[c/16]'hd1) (jy[c%16]'hd2) 247 ?h1 ?h2]
 case h1=>simp[z65];rfl
 case h2=>(try simp only[key]);simp[z65];rfl
 go_wp2
 go_ret2
 exact⟨rfl,0,#[_],by rw[World.drewN_zero,alloc_eq_grow]⟩
def Wv(c:Nat)(hc:c<256)(w:World)(hT:w.cell? ⟨8,15,none⟩=some (.int .u8 4))(h8:8<w.heap.size):
 Calls prog 195 #[.int .i64 c,.int .i64 16] w fun e w'=>e=.returned (.string (fk c))∧∃k os,w'=grow (w.drewN k) os:=by
 have ZC:∀args w,(callFunc 239 args).run prog w=.ok (.enter 239 args) w:=enters_of func239 zk rfl;have hb:∀w:World,w.cell? ⟨8,15,none⟩=some (.int .u8 4)->8<w.heap.size->Calls prog 239 #[.slice none 0 0,.int .u64 c,.int .i64 16,.bool false,.bool false] w fun e w'=>e=.returned (.tuple #[.slice none 0 0,.string (fk c)])∧∃k os,w'=grow (w.drewN k) os:=by
  intro w hT h8;by_cases h:c<16
  ·exact Ws c h w hT h8
  ·exact Wu c zo hc w hT h8
 generalize fk c=t at*;have hw:IntKind.u64.wrap (c:Int)=(c:Int):=by rw[IntKind.wrap_u64];omega
 go_enter func195,ntmps195
 go_wp2_with (go_at_fn 239;refine(hb _ hT h8).mono ?_;rintro e w' ⟨rfl,k,os,rfl⟩)
 go_ret
 exact⟨rfl,k,os,rfl⟩
def Ww(c:Nat)(hc:c<256)(w:World)(hT:w.cell? ⟨8,15,none⟩=some (.int .u8 4))(h8:8<w.heap.size):
 Calls prog 218 #[.int .i64 c,.int .i64 16] w fun e w'=>e=.returned (.string (fk c))∧∃k os,w'=grow (w.drewN k) os:=by
 have e195:∀args w,(callFunc 195 args).run prog w=.ok (.enter 195 args) w:=enters_of func195 zk rfl
 go_enter func218,ntmps218
 go_wp2_with (go_at_fn 195;refine(Wv c hc _ hT h8).mono ?_;rintro e w' ⟨rfl,k,os,rfl⟩)
 go_ret
 exact⟨rfl,k,os,rfl⟩
def V8(c:UInt8):(fk c.toNat).size<=64∧Af prog 218 [.int .i64 fun _=>c.toNat,.int .i64 fun _=>16] [] (.str fun _=>fk c.toNat) []:=by
 refine⟨by unfold fk;split;exact(show 1<=64 by omega);exact(show 2<=64 by omega),Af.pp (vals:=#[.int .i64 (c.toNat:Int),.int .i64 16]) func218 rfl fun w hT=>?_⟩;refine(Ww c.toNat (Bi c) w hT.db (by have:=hT.sz;omega)).mono fun e w' ⟨he,k,os,hw⟩=>⟨_,he,fun w2 D B=>.str fun _=>fk c.toNat,?_⟩
 rw[hw];exact Lib.below_grow _ _ (ao _) _ _
end Go.Ai
