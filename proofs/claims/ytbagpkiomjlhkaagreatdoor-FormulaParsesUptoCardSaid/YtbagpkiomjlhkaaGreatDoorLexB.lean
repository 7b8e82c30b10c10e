/- Chapter 15: the scanner: bytes, blanks, words. -/
import Derived.Test.YtbagpkiomjlhkaaGreatDoorLexA
import Derived.Shelf.Small.Strs
import Derived.Shelf.Strings.Prefix
import Derived.Ground.NamesProg
import Derived.Test.YtbagpkiomjlhkaaGreatDoorProg
import Derived.Test.YtbagpkiomjlhkaaGreatDoorFnD
import Derived.Test.YtbagpkiomjlhkaaGreatDoorEngC
set_option linter.all false
namespace Go.Ai
open Go Go.Proofs
set_option maxRecDepth 100000
set_option maxHeartbeats 4000000
def adx(c:Int):Af Tryz.prog 166 [.int .u8 fun _=>c] [] (.bool fun _=>digB c) []:=by
 (refine fB [.tmp 2] kp166 [] Tryz.func166 fun _=>?_;repeat' with_reducible first|exact⟨⟩|refine mA ?_ ?_|refine mC (fun _=>?_) fun _=>?_)
 simp only[digB];((((try simp only[nc,cl]at*)<;>(try rw[Bool.eq_iff_iff]))<;>(try simp only[bl,false_iff,true_iff,iff_true,iff_false,aja,ajb,ne_eq,Decidable.not_not]at*))<;>(first|omega|grind))
def aeM(c:Int):Af Tryz.prog 164 [.int .u8 fun _=>c] [] (.bool fun _=>letB c) []:=by
 (refine fB [.tmp 2] kp164 [] Tryz.func164 fun _=>?_;repeat' with_reducible first|exact⟨⟩|refine mA ?_ ?_|refine mC (fun _=>?_) fun _=>?_)
 all_goals(try simp only[letB])
 all_goals((((try simp only[nc,cl]at*)<;>(try rw[Bool.eq_iff_iff]))<;>(try simp only[bl,false_iff,true_iff,iff_true,iff_false,aja,ajb,ne_eq,Decidable.not_not]at*))<;>(first|omega|grind))
def amg(c:Int):Af Tryz.prog 165 [.int .u8 fun _=>c] [] (.bool fun _=>adM c) []:=by
 have h1:=aeM c;have h2:=adx c;unfold adM;generalize letB c=a at h1 ⊢;generalize digB c=b at h2 ⊢
 (apply Af.of tF mF [.tmp 2] kp165 [(1,[(1,.bool fun _=>a,[]),(4,.bool fun _=>b,[])])] Tryz.func165 (fun _=>?_);(any_goals((with_reducible refine wI ?_);cbv;(try dsimp only[nc]at*);(repeat'(with_reducible first|exact‹False›.elim|exact nZ|refine oC ?_ ?_|refine VC.mk rfl ?_ ?_ ?_|(apply Ca.mk<;>intro _)|refine cV (fun _=>?_) fun _=>?_|((first|apply xE|apply uE);cbv;(try dsimp only[nc]at*)))))))
 any_goals(refine nO ?_;exact h1)
 any_goals((with_reducible refine sO (fun _=>?_));exact h2)
 (all_goals try first|exact eZ|with_reducible (refine rQ ?_;repeat' first|apply And.intro|exact wZ)|(refine sQ ?_;repeat' first|with_reducible apply And.intro|exact cZ))
 by_cases k:c=95<;>cases a<;>cases b<;>simp[k]
def boxC(s:ByteArray)(at_:Nat)(w e:Int):AO:=.box [.str fun _=>s,.int .i64 fun _=>at_,.int .i64 fun _=>w,.int .i64 fun _=>e]
def afa{s:ByteArray}{i:Nat}(h:s.size<=i):byt s i=0:=by
 have h1:s.data.size<=i:=h;simp[byt,Array.getElem?_eq_none h1]
def aaH(s:ByteArray)(i off:Nat)(w e:Int)(hi:i<=1073741824)(ho:off<=4):Af Tryz.prog 157 [.ptr 1000 0,.int .i64 fun _=>off] [(1000,boxC s i w e)] (.int .u8 fun _=>byt s (i+off)) [(1000,boxC s i w e)]:=by
 (refine fB [.tmp 4] kp157 [] Tryz.func157 fun _=>?_;repeat' with_reducible first|exact⟨⟩|refine mA ?_ ?_|refine mC (fun _=>?_) fun _=>?_)
 ·rename_i h;rw[w64 (by omega) (by omega)]at h;exact(afa (by omega)).symm
 ·rw[w64 (by omega) (by omega),show((i:Int)+(off:Int)).toNat=i+off by omega];rfl
def anT(s:ByteArray)(i:Nat)(w e p q:Int):Af Tryz.prog 109 [.ptr 1000 0,.int .i64 fun _=>p,.int .i64 fun _=>q] [(1000,boxC s i w e)] (.tup []) [(1000,boxC s i (if e=0 then p else w) (if e=0 then q else e))]:=by
 (refine fB [] kp109 [] Tryz.func109 fun _=>?_;repeat' with_reducible first|exact⟨⟩|refine mA ?_ ?_|refine mC (fun _=>?_) fun _=>?_)
def ajp(s:ByteArray)(i:Nat)(w e:Int)(hs:s.size<=1073741824)(hi:i<=s.size)(fn:FuncId)(p:Int->Bool)(hp:∀c,Af Tryz.prog fn [.int .u8 fun _=>c] [] (.bool fun _=>p c) []):
 Af Tryz.prog 158 [.ptr 1000 0,.func fn []] [(1000,boxC s i w e)] (.str fun _=>s.extract i (aag s p i)) [(1000,boxC s (aag s p i) w e)]:=by
 obtain⟨W,hW⟩:∃W,W=aag s p i:=⟨_,rfl⟩
 rw[<- hW]
 (refine fB [.tmp 4] kp158 [] Tryz.func158 fun _=>?_;repeat' with_reducible first|exact⟨⟩|refine mA ?_ ?_|refine mC (fun _=>?_) fun _=>?_)
 refine .loop (fun j:Nat=>⟨50,[(5,.int .i64 fun _=>i),(0,.ptr 1000 0),(1,.func fn [])],[(1000,boxC s j w e)]⟩)
  (fun j=>i<=j∧j<=s.size∧W=aag s p j) (fun j=>s.size-j) i ⟨Nat.le_refl _,hi,hW⟩ ?_ fun j E hj=>?_
 ·exact aZ
 obtain⟨j1,j2,j3⟩:=hj;have hpj:=hp (byt s j);by_cases q:j<s.size∧p (byt s j)=true
 ·rw[abw q]at j3;rw[q.2]at hpj;have q1:=q.1;apply AWp.wk tF mF [(2,[(21,zO true,[])])] kp158 ?_
  (refine oA ?_;repeat' with_reducible first|exact⟨⟩|refine mA ?_ ?_|refine mC (fun _=>?_) fun _=>?_)
  any_goals((with_reducible refine sO (fun _=>?_));exact hpj)
  all_goals(try(exact absurd (‹s.size<=j∨False›.resolve_right id) (by omega)))
  (all_goals try first|exact eZ|(refine qC ?_;repeat' with_reducible first|exact⟨⟩|refine mA ?_ ?_))
  refine dE (j+1) ⟨⟨by omega,by omega,j3⟩,by omega⟩ ?_
  (focus(refine aQ ?_;repeat' first|with_reducible apply And.intro|exact wZ|fail))
  exact w64n (by omega)
 ·rw[abv q]at j3;subst j3;apply AWp.wk tF mF [(2,[(21,.bool fun _=>p (byt s W),[])])] kp158 ?_
  (refine oA ?_;repeat' with_reducible first|exact⟨⟩|refine mA ?_ ?_|refine mC (fun _=>?_) fun _=>?_)
  any_goals((with_reducible refine sO (fun _=>?_));exact hpj)
  all_goals(try(exact absurd ‹W<s.size∧p (byt s W)=true› q))
  (all_goals try first|exact eZ|(refine qC ?_;repeat' with_reducible first|exact⟨⟩|refine mA ?_ ?_))
  all_goals rfl
theorem afe{s:ByteArray}:∀n i,i<=s.size->i<=abM s n i∧abM s n i<=s.size
 | 0,i,h=>⟨Nat.le_refl _,h⟩
 | n+1,i,h=>by
  simp only[abM];split
  ·split
   ·have:=afe (s:=s) n (i+1) (by omega);omega
   split
   ·have h1:=abb (s:=s) (p:=fun c=>c != 10) h;have:=afe (s:=s) n (aag s (fun c=>c != 10) i) h1.2;omega
   ·exact⟨Nat.le_refl _,h⟩
  ·exact⟨Nat.le_refl _,h⟩
end Go.Ai

namespace Go.Proofs
open Go.Shelf
def Tryz.aiY:Go.Shelf.Ren:=⟨fun|137=>171|217=>225|266=>254|n=>n,fun|9=>9|5=>5|3=>3|n=>n,fun|n=>n⟩
def Tryz.lays137:Go.Proofs.Lays.n137 Tryz.prog Tryz.aiY:={
 mixed:=by kernel_rfl
 f137:=Tryz.func171.trans (congrArg some (by kernel_rfl))
 f217:=Tryz.func225.trans (congrArg some (by kernel_rfl))
 f266:=Tryz.func254.trans (congrArg some (by kernel_rfl))
 t3:=Tryz.underlying3
 a3:=Tryz.isAgg3
 z3:=Tryz.sizeOf3
 v3:=Tryz.zeroValue3
 t5:=Tryz.underlying5
 a5:=Tryz.isAgg5
 z5:=Tryz.sizeOf5
 v5:=Tryz.zeroValue5
 t9:=Tryz.underlying9
 a9:=Tryz.isAgg9
 z9:=Tryz.sizeOf9
 v9:=Tryz.zeroValue9 }
def Tryz.akT:Go.Shelf.Ren:=⟨fun|99=>143|206=>196|n=>n,fun|9=>9|4=>4|3=>3|n=>n,fun|n=>n⟩
def Tryz.lays99:Go.Proofs.Lays.n99 Tryz.prog Tryz.akT:={
 mixed:=by kernel_rfl
 f99:=Tryz.func143.trans (congrArg some (by kernel_rfl))
 f206:=Tryz.func196.trans (congrArg some (by kernel_rfl))
 t3:=Tryz.underlying3
 a3:=Tryz.isAgg3
 z3:=Tryz.sizeOf3
 v3:=Tryz.zeroValue3
 t4:=Tryz.underlying4
 a4:=Tryz.isAgg4
 z4:=Tryz.sizeOf4
 v4:=Tryz.zeroValue4
 t9:=Tryz.underlying9
 a9:=Tryz.isAgg9
 z9:=Tryz.sizeOf9
 v9:=Tryz.zeroValue9 }
end Go.Proofs

namespace Go.Ai
open Go Go.Proofs
set_option maxRecDepth 100000
set_option maxHeartbeats 4000000
def idxB(s:ByteArray)(c:Int):Int:=Lib.indexByte s.data.toList c.toNat.toUInt8
def aeb(s:ByteArray)(c:Int):Af Tryz.prog 171 [.str fun _=>s,.int .u8 fun _=>c] [] (.int .i64 fun _=>idxB s c) []:=
 Af.pure (vals:=#[.string s,.int .u8 c]) Tryz.func171 rfl rfl fun w=>Any.strings_IndexByte Tryz.lays137 s c w
def ae8(s:ByteArray)(i:Nat):(s.extract i s.size).data.toList=s.data.toList.drop i:=by
 rw[ByteArray.data_extract,Array.toList_extract];simp only[List.extract];exact List.take_of_length_le (by rw[List.length_drop,Array.length_toList];exact Nat.le_refl _)
def adW{s:ByteArray}{i:Nat}(h:i<s.size):∃b:UInt8,s.data.toList.drop i=b::s.data.toList.drop (i+1)∧byt s i=b.toNat:=by
 have h0:i<s.data.size:=h;have h1:i<s.data.toList.length:=by rw[Array.length_toList];exact h0
 refine⟨s.data.toList[i],List.drop_eq_getElem_cons h1,?_⟩;unfold byt;rw[Array.getElem?_eq_getElem h0,Array.getElem_toList];rfl
theorem ak1(s:ByteArray)(c:Nat)(hc:c<256):∀(n i:Nat) (k:Int),s.size-i=n->i<=s.size->k=Lib.indexByte (s.data.toList.drop i) c.toUInt8 ->
 (if k<0 then(s.size:Int)-i else k)=(aag s (fun x=>x != (c:Int)) i:Int)-i ∧ -1<=k
 | 0,i,k,hn,hi,hk=>by
  have:i=s.size:=by omega
  subst this;have hd:s.data.toList.drop s.size=[]:=List.drop_eq_nil_iff.2 (by rw[Array.length_toList];exact Nat.le_refl _);rw[hd]at hk;have:k = -1:=hk;rw[abv (by omega),this];simp
 | n+1,i,k,hn,hi,hk=>by
  have hlt:i<s.size:=by omega
  obtain⟨b,hb,hbt⟩:=adW hlt;obtain⟨ih,ihm⟩:=ak1 s c hc n (i+1) _ (by omega) (by omega) rfl;rw[hb]at hk;simp only[Lib.indexByte]at hk;generalize Lib.indexByte (s.data.toList.drop (i+1)) c.toUInt8=m at ih ihm hk;have hcn:c.toUInt8.toNat=c:=by rw[Nat.toUInt8,UInt8.toNat_ofNat'];omega
  by_cases q:b=c.toUInt8
  ·have hbc:byt s i=(c:Int):=by rw[hbt,q,hcn]
   rw[if_pos (by rw[q];exact beq_self_eq_true _)]at hk;rw[abv (by rw[hbc];simp),hk];simp
  ·have hbc:byt s i≠(c:Int):=by
    rw[hbt];intro h;apply q;have h1:b.toNat=c:=by exact_mod_cast h
    exact UInt8.toNat_inj.1 (by rw[h1,hcn])
   rw[if_neg (by simpa using q)]at hk;rw[abw ⟨hlt,by simpa using hbc⟩];generalize aag s (fun x=>x != (c:Int)) (i+1)=W at ih ⊢;by_cases k1:m = -1
   ·subst k1;rw[if_pos (by rfl)]at hk;subst hk;rw[if_pos (by decide)]at ih ⊢;omega
   ·rw[if_neg (by simpa using k1)]at hk;rw[if_neg (by omega)]at ih;rw[if_neg (by omega)];omega
theorem ada{s:ByteArray}:∀n m i,i<=s.size->s.size-i<=n->s.size-i<=m->abM s n i=abM s m i
 | 0,0,_,_,_,_=>rfl
 | 0,m+1,i,hi,h,_=>by simp only[abM];rw[if_neg (by omega)]
 | n+1,0,i,hi,_,h=>by simp only[abM];rw[if_neg (by omega)]
 | n+1,m+1,i,hi,h1,h2=>by
  simp only[abM];split
  ·split
   ·exact ada n m (i+1) (by omega) (by omega) (by omega)
   split
   ·rename_i q;have h3:=abb (s:=s) (p:=fun c=>c != 10) hi;have h4:aag s (fun c=>c != 10) i=aag s (fun c=>c != 10) (i+1):=abw ⟨‹_›,by rw[q.1];decide⟩;have h5:=abb (s:=s) (p:=fun c=>c != 10) (i:=i+1) (by omega);exact ada n m _ h3.2 (by omega) (by omega)
   ·rfl
  ·rfl
def ale{s:ByteArray}{i:Nat}(hi:i<s.size)(h:byt s i=32∨byt s i=9∨byt s i=10):abH s i=abH s (i+1):=by
 unfold abH;obtain⟨n,hn⟩:∃n,s.size-i=n+1:=⟨s.size-i-1,by omega⟩
 rw[hn,abM,if_pos hi,if_pos h,show s.size-(i+1)=n by omega]
def afd{s:ByteArray}{i:Nat}(hi:i<s.size)(h:byt s i=47∧byt s (i+1)=47):abH s i=abH s (aag s (fun c=>c != 10) i)∧i<aag s (fun c=>c != 10) i:=by
 have h3:=abb (s:=s) (p:=fun c=>c != 10) (i:=i) (by omega);have h4:aag s (fun c=>c != 10) i=aag s (fun c=>c != 10) (i+1):=abw ⟨hi,by rw[h.1];decide⟩;have h5:=abb (s:=s) (p:=fun c=>c != 10) (i:=i+1) (by omega);refine⟨?_,by omega⟩;unfold abH;obtain⟨n,hn⟩:∃n,s.size-i=n+1:=⟨s.size-i-1,by omega⟩
 rw[hn,abM,if_pos hi,if_neg (by omega),if_pos h];exact ada _ _ _ h3.2 (by omega) (by omega)
def afc{s:ByteArray}{i:Nat}(h:¬(i<s.size∧((byt s i=32∨byt s i=9∨byt s i=10)∨(byt s i=47∧byt s (i+1)=47)))):abH s i=i:=by
 unfold abH;cases q:s.size-i with
 | zero=>rfl
 | succ n=>
  rw[abM,if_pos (by omega),if_neg (fun k=>h ⟨by omega,.inl k⟩),if_neg (fun k=>h ⟨by omega,.inr k⟩)]
def anB(s:ByteArray)(i:Nat)(w e:Int)(hs:s.size<=1073741824)(hi:i<=s.size):Af Tryz.prog 108 [.ptr 1000 0] [(1000,boxC s i w e)] (.tup []) [(1000,boxC s (abH s i) w e)]:=by
 obtain⟨W,hW⟩:∃W,W=abH s i:=⟨_,rfl⟩
 rw[<- hW]
 (refine fA [] kp108 [] Tryz.func108 fun _=>?_;repeat' with_reducible first|exact⟨⟩|refine mA ?_ ?_|refine mC (fun _=>?_) fun _=>?_)
 refine .loop (fun j:Nat=>⟨79,[(0,.ptr 1000 0)],[(1000,boxC s j w e)]⟩)
  (fun j=>i<=j∧j<=s.size∧W=abH s j) (fun j=>s.size-j) i ⟨Nat.le_refl _,hi,hW⟩ ?_ fun j E hj=>?_
 ·exact aZ
 obtain⟨j1,j2,j3⟩:=hj;have hb1:=aaH s j 1 w e (by omega) (by omega);have hi:=aeb (s.extract j s.size) 10;obtain⟨hx,hx0⟩:=ak1 s 10 (by omega) _ j _ rfl j2 rfl;rw[<- ae8]at hx hx0;have hx':(if idxB (s.extract j s.size) 10<0 then(s.size:Int)-j else idxB (s.extract j s.size) 10)=(aag s (fun x=>x != 10) j:Int)-j ∧ -1<=idxB (s.extract j s.size) 10:=⟨hx,hx0⟩
 clear hx hx0;have hl:=abb (s:=s) (p:=fun x=>x != 10) j2;obtain⟨k,hk⟩:∃k,k=idxB (s.extract j s.size) 10:=⟨_,rfl⟩
 obtain⟨L,hL⟩:∃L,L=aag s (fun x=>x != 10) j:=⟨_,rfl⟩
 obtain⟨c,hc⟩:∃c,c=byt s (j+1):=⟨_,rfl⟩
 rw[<- hk]at hi hx';rw[<- hL]at hx' hl;rw[<- hc]at hb1;apply AWp.wk tF mF [(4,[(4,.int .u8 fun _=>c,[(1000,boxC s j w e)])]),(5,[(9,zI k,[])])] kp108 ?_
 (refine oA ?_;repeat' with_reducible first|exact⟨⟩|refine mA ?_ ?_|refine mC (fun _=>?_) fun _=>?_)
 any_goals((with_reducible refine sO (fun _=>?_));exact hb1)
 all_goals(try simp only[ite_self])
 all_goals(try exact zB)
 (all_goals try first|exact eZ|(refine qC ?_;repeat' with_reducible first|exact⟨⟩|refine mA ?_ ?_))
 ·rename_i q q1;refine dE (j+1) ⟨⟨by omega,by omega,?_⟩,by omega⟩ ?_
  ·rw[j3];exact ale q (by rcases q1 with(q1|q1)|q1<;>first|exact .inl q1|exact .inr (.inl q1)|exact .inr (.inr q1))
  ·(focus(refine aQ ?_;repeat' first|with_reducible apply And.intro|exact wZ|fail));exact w64n (by omega)
 ·rename_i q _ q1 q2;obtain⟨h1,h2⟩:=afd q ⟨q1.1,hc▸q1.2⟩;rw[if_pos q2]at hx';rw[<- hL]at h1 h2;refine dE L ⟨⟨by omega,by omega,j3.trans h1⟩,by omega⟩ ?_
  (focus(refine aQ ?_;repeat' first|with_reducible apply And.intro|exact wZ|fail))
  rw[w64 (x:=(s.size:Int)-j) (by omega) (by omega),w64 (by omega) (by omega)];omega
 ·rename_i q _ q1 q2;obtain⟨h1,h2⟩:=afd q ⟨q1.1,hc▸q1.2⟩;rw[if_neg (by omega)]at hx';rw[<- hL]at h1 h2;refine dE L ⟨⟨by omega,by omega,j3.trans h1⟩,by omega⟩ ?_
  (focus(refine aQ ?_;repeat' first|with_reducible apply And.intro|exact wZ|fail))
  rw[w64 (by omega) (by omega)];omega
 ·rename_i _ q1 q2;rw[j3,afc];rintro⟨_,(h|h|h)|⟨h,h'⟩⟩
  ·exact q1.1.1 h
  ·exact q1.1.2 h
  ·exact q1.2 h
  ·rcases q2 with q2|q2
   ·exact q2 h
   ·exact q2 (hc.trans h')
 ·rw[j3,afc (fun h=>by omega)]
def boxK(t:Tok):AO:=.box (acT fun _=>t)
def Tok.set(t:Tok)(k:Int)(x:ByteArray):Tok:=mk k t.line t.col x t.value t.num t.scale t.joined
def apN(s:ByteArray)(i:Nat)(w e:Int)(t:Tok)(hi:i<=1073741824)(hl:letB (byt s i)=false):Af Tryz.prog 104 [.ptr 1000 0,.ptr 1001 0] [(1000,boxC s i w e),(1001,boxK t)] (.bool fun _=>false) [(1000,boxC s i w e),(1001,boxK t)]:=by
 have h0:=aaH s i 0 w e hi (by omega);have h1:=aaH s i 1 w e hi (by omega);have h2:=aeM (byt s i);rw[hl]at h2;obtain⟨c,hc⟩:∃c,c=byt s (i+1):=⟨_,rfl⟩
 rw[<- hc]at h1
 (refine fA [.tmp 4] kp104 [(1,[(1,.int .u8 fun _=>byt s i,[(1000,boxC s i w e)]),(2,zO false,[]),(6,.int .u8 fun _=>byt s i,[(1000,boxC s i w e)]),(10,.int .u8 fun _=>c,[(1000,boxC s i w e)])])] Tryz.func104 fun _=>?_;repeat' with_reducible first|exact⟨⟩|refine mA ?_ ?_|refine mC (fun _=>?_) fun _=>?_)
 all_goals(try simp only[ite_self])
 all_goals(try exact zB)
 all_goals(try exact zB)
 all_goals(try exact zB)
 (all_goals try first|exact eZ|(refine qC ?_;repeat' with_reducible first|exact⟨⟩|refine mA ?_ ?_))
 ·exact fun h=>by cases h
 ·rename_i h;exact h.1.elim
def apM(s:ByteArray)(i:Nat)(w e:Int)(t:Tok)(hs:s.size<=1073741824)(hi:i<=s.size)(hl:letB (byt s i)=true)(hq:¬(byt s i=120∧byt s (i+1)=34))(j:Nat)(hj:j=aag s adM i):
 Af Tryz.prog 104 [.ptr 1000 0,.ptr 1001 0] [(1000,boxC s i w e),(1001,boxK t)] (.bool fun _=>true) [(1000,boxC s j (if 64<j-i∧e=0 then i else w) (if 64<j-i∧e=0 then 5 else e)),(1001,boxK (t.set 1 (s.extract i j)))]:=by
 have h0:=aaH s i 0 w e (by omega) (by omega);have h1:=aaH s i 1 w e (by omega) (by omega);have h2:=aeM (byt s i);have h3:=ajp s i w e hs hi 165 adM amg;have hjl:=abb (s:=s) (p:=adM) hi;rw[<- hj]at h3 hjl;have h4:=anT s j w e i 5;rw[hl]at h2;obtain⟨c,hc⟩:∃c,c=byt s (i+1):=⟨_,rfl⟩
 rw[<- hc]at hq h1;have hx:(s.extract i j).size=j-i:=by rw[ByteArray.size_extract];omega
 generalize s.extract i j=x at h3 hx ⊢;obtain⟨w2,hw2⟩:∃w2,w2=if 64<j-i∧e=0 then(i:Int)else w:=⟨_,rfl⟩
 obtain⟨e2,he2⟩:∃e2,e2=if 64<j-i∧e=0 then 5 else e:=⟨_,rfl⟩
 rw[<- hw2,<- he2]
 (refine fA [.tmp 4] kp104 [(1,[(1,.int .u8 fun _=>byt s i,[(1000,boxC s i w e)]),(2,zO true,[]),(6,.int .u8 fun _=>byt s i,[(1000,boxC s i w e)]),(10,.int .u8 fun _=>c,[(1000,boxC s i w e)])]),
   (4,[(3,zR x,[(1000,boxC s j w e)])]),(6,[(2,zT,[(1000,boxC s j (if e=0 then i else w) (if e=0 then 5 else e))])])] Tryz.func104 fun _=>?_;repeat' with_reducible first|exact⟨⟩|refine mA ?_ ?_|refine mC (fun _=>?_) fun _=>?_)
 all_goals(try simp only[ite_self])
 all_goals(try exact zB)
 all_goals(try exact zB)
 all_goals(try exact zB)
 all_goals(try exact zB)
 all_goals(try exact zB)
 all_goals(try(exact absurd (‹False∨byt s i=120∧c=34›.resolve_left id) hq))
 (all_goals try first|exact eZ|(refine qC ?_;repeat' with_reducible first|exact⟨⟩|refine mA ?_ ?_))
 all_goals(try rfl)
def apW(s:ByteArray)(i:Nat)(w e:Int)(t:Tok)(hi:i<=1073741824)(hq:byt s i≠34):Af Tryz.prog 106 [.ptr 1000 0,.ptr 1001 0] [(1000,boxC s i w e),(1001,boxK t)] (.bool fun _=>false) [(1000,boxC s i w e),(1001,boxK t)]:=by
 have h0:=aaH s i 0 w e hi (by omega);have h1:byt s (i+0)=byt s i:=rfl;rw[h1]at h0;obtain⟨c,hc⟩:∃c,c=byt s i:=⟨_,rfl⟩
 rw[<- hc]at hq h0
 (refine fA [.tmp 4] aod [(1,[(1,.int .u8 fun _=>c,[(1000,boxC s i w e)])])] Tryz.func106 fun _=>?_;repeat' with_reducible first|exact⟨⟩|refine mA ?_ ?_|refine mC (fun _=>?_) fun _=>?_)
 all_goals(try simp only[ite_self])
 all_goals(try exact zB)
 all_goals(try(exact absurd ‹c=34› hq))
 all_goals exact eZ
def apv(s:ByteArray)(i:Nat)(w e:Int)(t:Tok)(hi:i<=1073741824)(hq:¬(byt s i=120∧byt s (i+1)=34)):Af Tryz.prog 103 [.ptr 1000 0,.ptr 1001 0] [(1000,boxC s i w e),(1001,boxK t)] (.bool fun _=>false) [(1000,boxC s i w e),(1001,boxK t)]:=by
 have h0:=aaH s i 0 w e hi (by omega);have h1:=aaH s i 1 w e hi (by omega);have h2:byt s (i+0)=byt s i:=rfl;rw[h2]at h0;obtain⟨c,hc⟩:∃c,c=byt s i:=⟨_,rfl⟩
 obtain⟨c1,hc1⟩:∃c,c=byt s (i+1):=⟨_,rfl⟩
 rw[<- hc]at hq h0;rw[<- hc1]at hq h1
 (refine fA [.tmp 4] aoM [(1,[(1,.int .u8 fun _=>c,[(1000,boxC s i w e)]),(5,.int .u8 fun _=>c1,[(1000,boxC s i w e)])])] Tryz.func103 fun _=>?_;repeat' with_reducible first|exact⟨⟩|refine mA ?_ ?_|refine mC (fun _=>?_) fun _=>?_)
 all_goals(try simp only[ite_self])
 all_goals(try exact zB)
 all_goals(try exact zB)
 all_goals(try(exact absurd ‹c=120∧c1=34› hq))
 all_goals exact eZ
def aaK(s p:ByteArray):Bool:=Lib.hasPrefix s.data.toList p.data.toList
def acB(s p:ByteArray):Af Tryz.prog 143 [.str fun _=>s,.str fun _=>p] [] (.bool fun _=>aaK s p) []:=
 Af.pure (vals:=#[.string s,.string p]) Tryz.func143 rfl rfl fun w=>Any.strings_HasPrefix Tryz.lays99 s p w
def aaQ(k:Nat):ByteArray:=am9 [.str fun _=>⟨#[45,62]⟩,.str fun _=>⟨#[33,61]⟩,.str fun _=>⟨#[60,61]⟩,.str fun _=>⟨#[62,61]⟩,.str fun _=>⟨#[46,46]⟩] k
def ones:ByteArray:=⟨#[40,41,123,125,91,93,60,62,61,58,59,44,46,63,43,45,42,38,64,124]⟩
theorem akQ:∀{j:Nat},j<5->(aaQ j).size=2
 | 0,_=>rfl
 | 1,_=>rfl
 | 2,_=>rfl
 | 3,_=>rfl
 | 4,_=>rfl
 | _+5,h=>by omega
def ah5(s:ByteArray)(i:Nat)(w e:Int)(t:Tok)(hs:s.size<=1073741824)(hi:i<s.size)(k:Nat)(hk:k<=5)(hb:∀j,j<k->aaK (s.extract i s.size) (aaQ j)=false)
 (r:Bool) (at2:Nat) (t2:Tok)
 (hr:(k<5∧aaK (s.extract i s.size) (aaQ k)=true∧r=true∧at2=i+2∧t2=t.set 5 (aaQ k))∨(k=5∧((idxB ones (byt s i)<0∧r=false∧at2=i∧t2=t)∨(0<=idxB ones (byt s i)∧r=true∧at2=i+1∧t2=t.set 5 (s.extract i (i+1)))))):
 Af Tryz.prog 107 [.ptr 1000 0,.ptr 1001 0] [(1000,boxC s i w e),(1001,boxK t)] (.bool fun _=>r) [(1000,boxC s at2 w e),(1001,boxK t2)]:=by
 have key:∀j,aaK (s.extract i s.size) (aaQ j)=false->Af Tryz.prog 143 [.str fun _=>s.extract i s.size,.str fun _=>aaQ j] [] (.bool fun _=>false) []:=fun j h=>h▸acB _ _;have keyT:∀j,aaK (s.extract i s.size) (aaQ j)=true->Af Tryz.prog 143 [.str fun _=>s.extract i s.size,.str fun _=>aaQ j] [] (.bool fun _=>true) []:=fun j h=>h▸acB _ _;have hx:=aeb ones (byt s i);obtain⟨z,hz⟩:∃z,z=idxB ones (byt s i):=⟨_,rfl⟩
 rw[<- hz]at hr hx
 (refine fB [.tmp 4] kp107 [(9,[(9,zI z,[])])] Tryz.func107 fun _=>?_;repeat' with_reducible first|exact⟨⟩|refine mA ?_ ?_|refine mC (fun _=>?_) fun _=>?_)
 refine .loop (fun j:Nat=>⟨77,[(8,.int .i64 fun _=>j),(7,.agg [.str fun _=>⟨#[45,62]⟩,.str fun _=>⟨#[33,61]⟩,.str fun _=>⟨#[60,61]⟩,.str fun _=>⟨#[62,61]⟩,.str fun _=>⟨#[46,46]⟩]),(0,.ptr 1000 0),(1,.ptr 1001 0)],[(1000,boxC s i w e),(1001,boxK t)]⟩)
  (fun j=>j<=k) (fun j=>5-j) 0 (Nat.zero_le _) ?_ fun j E hj=>?_
 ·exact aZ
 by_cases q:j=5
 ·subst q;have hk5:k=5:=by omega
  obtain⟨h1,_⟩|⟨_,hr⟩:=hr
  ·omega
  clear hb hj;subst hk5;apply AWp.wk tF mF [] kp107 ?_
  (refine oA ?_;repeat' with_reducible first|exact⟨⟩|refine mA ?_ ?_|refine mC (fun _=>?_) fun _=>?_)
  all_goals(try exact zB)
  all_goals(try(exact absurd ‹((5:Nat):Int)<5› (by decide)))
  (all_goals try first|exact eZ|(refine qC ?_;repeat' with_reducible first|exact⟨⟩|refine mA ?_ ?_))
  all_goals first
   | (rcases hr with⟨_,rfl,rfl,rfl⟩|⟨hz1,_⟩
      ·rfl
      ·exact absurd ‹z<0› (by omega))
   | (rcases hr with⟨hz1,_⟩|⟨_,rfl,rfl,rfl⟩
      ·exact absurd ‹0<=z› (by omega)
      ·first|rfl|exact w64n (by omega)|(rw[w64n (by omega)];rfl))
 by_cases q1:j<k
 ·have hf:=hb j q1;have hc:=key j hf;apply AWp.wk tF mF [(4,[(10,zO false,[])])] kp107 ?_
  (refine oA ?_;repeat' with_reducible first|exact⟨⟩|refine mA ?_ ?_|refine mC (fun _=>?_) fun _=>?_)
  all_goals(try exact zB)
  all_goals(try exact zB)
  all_goals(try(exact absurd ‹5<=(j:Int)› (by omega)))
  (all_goals try first|exact eZ|(refine qC ?_;repeat' with_reducible first|exact⟨⟩|refine mA ?_ ?_))
  refine dE (j+1) ⟨by omega,by omega⟩ ?_
  (focus(refine aQ ?_;repeat' first|with_reducible apply And.intro|exact wZ|fail))
  exact w64n (by omega)
 ·obtain rfl:j=k:=by omega
  obtain⟨h1,h2,h3,h4,h5⟩|⟨_,hr⟩:=hr
  ·have hc:=keyT j h2;apply AWp.wk tF mF [(4,[(10,zO true,[])])] kp107 ?_
   (refine oA ?_;repeat' with_reducible first|exact⟨⟩|refine mA ?_ ?_|refine mC (fun _=>?_) fun _=>?_)
   all_goals(try exact zB)
   all_goals(try exact zB)
   all_goals(try(exact absurd ‹5<=(j:Int)› (by omega)))
   (all_goals try first|exact eZ|(refine qC ?_;repeat' with_reducible first|exact⟨⟩|refine mA ?_ ?_))
   all_goals first
    | exact h3.symm
    | (rw[h5];rfl)
    | (rw[h4]
       show IntKind.i64.wrap ((i:Int)+((aaQ j).size:Int))=_;rw[akQ h1,w64 (by omega) (by omega)];rfl)
  ·omega
def Tok.setN(t:Tok)(x:ByteArray)(n sc:Int):Tok:=mk 2 t.line t.col x t.value n sc t.joined
def amw(s:ByteArray)(i:Nat)(w e:Int)(t:Tok)(hi:i<=1073741824)(hl:digB (byt s i)=false):Af Tryz.prog 105 [.ptr 1000 0,.ptr 1001 0] [(1000,boxC s i w e),(1001,boxK t)] (.bool fun _=>false) [(1000,boxC s i w e),(1001,boxK t)]:=by
 have h0:=aaH s i 0 w e hi (by omega);have h2:=adx (byt s i);rw[hl]at h2
 (refine fA [.tmp 4] ap0 [(1,[(1,.int .u8 fun _=>byt s i,[(1000,boxC s i w e)]),(2,zO false,[])])] Tryz.func105 fun _=>?_;repeat' with_reducible first|exact⟨⟩|refine mA ?_ ?_|refine mC (fun _=>?_) fun _=>?_)
 all_goals(try exact zB)
 all_goals(try exact zB)
 all_goals exact eZ
def Meth(f:FuncId)(s:ByteArray)(i:Nat)(w e:Int)(t:Tok)(r:Bool)(i':Nat)(w' e':Int)(t':Tok):Prop:=
 Af Tryz.prog f [.ptr 1000 0,.ptr 1001 0] [(1000,boxC s i w e),(1001,boxK t)] (.bool fun _=>r) [(1000,boxC s i' w' e'),(1001,boxK t')]
def ajw{f:FuncId}{s:ByteArray}{i i':Nat}{w e w' e':Int}{t t':Tok}{r:Bool}(h:Meth f s i w e t r i' w' e' t'):
 Af Tryz.prog 111 [.bptr f 1000,.ptr 1001 0] [(1000,boxC s i w e),(1001,boxK t)] (.bool fun _=>r) [(1000,boxC s i' w' e'),(1001,boxK t')]:=by
 unfold Meth at h
 (refine fA [.tmp 3] kp111 [(1,[(1,zO r,[(1000,boxC s i' w' e'),(1001,boxK t')])])] Tryz.func111 fun _=>?_;repeat' with_reducible first|exact⟨⟩|refine mA ?_ ?_|refine mC (fun _=>?_) fun _=>?_)
 all_goals(try exact zB)
 (all_goals(try exact eZ))
 all_goals trace_state
end Go.Ai
