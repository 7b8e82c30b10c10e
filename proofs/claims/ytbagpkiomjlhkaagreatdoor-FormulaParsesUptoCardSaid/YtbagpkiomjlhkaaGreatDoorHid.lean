/- Chapter 17: the printer: paths that begin with a reserved word. -/
import Derived.Test.YtbagpkiomjlhkaaGreatDoorChkA
import Derived.Test.YtbagpkiomjlhkaaGreatDoorRdD
set_option linter.all false
namespace Go.Ai
open Go Go.Proofs
set_option maxRecDepth 100000
set_option maxHeartbeats 4000000
def idxX(p:X->Bool):List X->Nat->Int
 | [],_ => -1
 | x::r,i=>if p x=true then i else idxX p r (i+1)
theorem ajZ(p:X->Bool):∀(l:List X) (i:Nat),decide (0<=idxX p l i)=l.any p
 | [],_=>by simp[idxX]
 | x::r,i=>by
  unfold idxX;by_cases q:p x=true
  ·rw[if_pos q];simp[q]
  ·rw[if_neg q,ajZ p r (i+1)];simp[q]
def amZ(p:X->Bool)(e D:Nat)(l:List X)(hl:l.length<=1073741824)(hp:∀i,i<l.length->Af Tryz.prog 39 [encX (e+1) D .any fun _=>l.getD i default] [] (.bool fun _=>p (l.getD i default)) []):
 Af Tryz.prog 136 [slcX (e+1) D .any fun _=>l,.func 39 []] [] (.int .i64 fun _=>idxX p l 0) []:=by
 obtain⟨Z,hZ⟩:∃Z,Z=idxX p l 0:=⟨_,rfl⟩
 rw[<- hZ];unfold slcX
 (refine fA [.tmp 4] kp136 [] Tryz.func136 fun _=>?_;repeat' with_reducible first|exact⟨⟩|refine mA ?_ ?_|refine mC (fun _=>?_) fun _=>?_)
 refine .loop (fun i:Nat=>⟨19,[(8,.int .i64 fun _=>(i:Int)),(7,.int .i64 fun _=>(l.length:Int)),(0,slcX (e+1) D .any fun _=>l),(1,.func 39 [])],[]⟩)
  (fun i=>i<=l.length∧idxX p (l.drop i) i=Z) (fun i=>l.length-i) 0 ⟨Nat.zero_le _,hZ.symm⟩ ?_ fun i E hi=>?_
 ·exact aZ
 obtain⟨h1,h2⟩:=hi;by_cases hi:i<l.length
 ·rw[List.drop_eq_getElem_cons hi]at h2;unfold idxX at h2;have h3:=hp i hi;have e1:l.getD i default=l[i]:=by simp[List.getD,hi]
  rw[<- e1]at h2;generalize p (l.getD i default)=b at*;apply AWp.wk tF mF [(4,[(5,zO b,[])])] kp136 ?_
  (refine oA ?_;repeat' with_reducible first|exact⟨⟩|refine mA ?_ ?_|refine mC (fun _=>?_) fun _=>?_)
  all_goals(try simp only[Int.toNat_natCast])
  all_goals(try exact zB)
  all_goals(try(exact absurd hi ‹¬i<l.length›))
  (all_goals try first|exact eZ|(refine qC ?_;repeat' with_reducible first|exact⟨⟩|refine mA ?_ ?_))
  ·rw[if_pos ‹b=true›]at h2;exact h2
  ·rw[if_neg (fun g=>Bool.noConfusion (g.symm.trans ‹b=false›))]at h2;refine dE (i+1) ⟨⟨by omega,h2⟩,by omega⟩ ?_
   (focus(refine aQ ?_;repeat' first|with_reducible apply And.intro|exact wZ|fail))
   exact w64n (by omega)
 ·have e:l.drop i=[]:=List.drop_eq_nil_of_le (by omega);rw[e]at h2;apply AWp.wk tF mF [(4,[(5,.any,[])])] kp136 ?_
  (refine oA ?_;repeat' with_reducible first|exact⟨⟩|refine mA ?_ ?_|refine mC (fun _=>?_) fun _=>?_)
  all_goals(try(exact absurd ‹i<l.length› hi))
  (all_goals try first|exact eZ|(refine qC ?_;repeat' with_reducible first|exact⟨⟩|refine mA ?_ ?_))
  rw[idxX]at h2
  first|exact h2|exact h2.symm
def ahZ(p:X->Bool)(e D:Nat)(l:List X)(hl:l.length<=1073741824)(hp:∀i,i<l.length->Af Tryz.prog 39 [encX (e+1) D .any fun _=>l.getD i default] [] (.bool fun _=>p (l.getD i default)) []):
 Af Tryz.prog 85 [slcX (e+1) D .any fun _=>l,.func 39 []] [] (.bool fun _=>l.any p) []:=by
 have h:=amZ p e D l hl hp;rw[<- ajZ p l 0];generalize idxX p l 0=n at*;unfold slcX at*
 (refine fA [.tmp 4] kp85 [(1,[(2,zI n,[])])] Tryz.func85 fun _=>?_;repeat' with_reducible first|exact⟨⟩|refine mA ?_ ?_|refine mC (fun _=>?_) fun _=>?_)
 all_goals(try exact zB)
 all_goals exact eZ
def aeY(t:ByteArray):ByteArray:=if 0<=idxA t then t.extract 0 (idxA t).toNat else t
def hidV:Nat->X->Bool
 | 0,_=>false
 | k+1,x=>resB (aeY x.text)||x.args.any (hidV k)
theorem aeU(e:Nat):∀(k D:Nat) (x:X),X.le (e+1) (D+1) x->X.le (e+1) k x->X.all (fun y=>y.text.size<=1073741824) k x->Af Tryz.prog 39 [encX (e+1) (D+1) .any fun _=>x] [] (.bool fun _=>hidV k x) []
 | 0,_,_,_,h,_=>h.elim
 | k+1,D,x,hx,hk,hz=>by
  have h1:=afn x.text hz.1;have h2:=acX (aeY x.text)
  have h3:=ahZ (hidV k) e D x.args hx.2.2.1 (fun i hi=>by
   have hy:=X.abm hx hi;obtain⟨c,rfl⟩:=X.lP hy;exact aeU e k c _ hy (X.abm hk hi) (hz.2 _ (by rw[show x.args.getD i default=x.args[i] by simp[List.getD,hi]];exact List.getElem_mem hi)))
  have hr:=ad5 sepT.data.toList x.text.data.toList;have hl:x.text.data.toList.length=x.text.size:=Array.length_toList;rw[hl]at hr;show Af Tryz.prog 39 _ [] (.bool fun _=>resB (aeY x.text)||x.args.any (hidV k)) [];unfold aeY at h2 ⊢;unfold idxA at*;generalize x.args.any (hidV k)=b at*;generalize Lib.indexAny x.text.data.toList sepT.data.toList=n at*;by_cases c:0<=n
  ·rw[if_pos c]at h2 ⊢;generalize resB (x.text.extract 0 n.toNat)=r at*
   (refine fA [.tmp 2] kp39 [(2,[(1,zI n,[])]),(5,[(1,zO r,[]),(5,zO b,[])])] Tryz.func39 fun _=>?_;repeat' with_reducible first|exact⟨⟩|refine mA ?_ ?_|refine mC (fun _=>?_) fun _=>?_)
   all_goals(try simp only[ite_self])
   all_goals(try exact zB)
   all_goals(try(exact absurd ‹n<0› (by omega)))
   (all_goals try first|exact eZ|(refine qC ?_;repeat' with_reducible first|exact⟨⟩|refine mA ?_ ?_))
   cases r<;>rfl
  ·rw[if_neg c]at h2 ⊢;generalize resB x.text=r at*
   (refine fA [.tmp 2] kp39 [(2,[(1,zI n,[])]),(5,[(1,zO r,[]),(5,zO b,[])])] Tryz.func39 fun _=>?_;repeat' with_reducible first|exact⟨⟩|refine mA ?_ ?_|refine mC (fun _=>?_) fun _=>?_)
   all_goals(try simp only[ite_self])
   all_goals(try exact zB)
   all_goals(try(exact absurd ‹0<=n› c))
   (all_goals try first|exact eZ|(refine qC ?_;repeat' with_reducible first|exact⟨⟩|refine mA ?_ ?_))
   cases r<;>rfl
def an4(e:Nat)(k D:Nat)(x:X)(hx:X.le (e+1) (D+1) x)(hk:X.le (e+1) k x)(hz:X.all (fun y=>y.text.size<=1073741824) k x):Af Tryz.prog 39 [encX (e+1) (D+1) .any fun _=>x] [] (.bool fun _=>hidV k x) []:=aeU e k D x hx hk hz
end Go.Ai

namespace Go.Ai
open Go Go.Proofs Go.RowKit
set_option maxRecDepth 100000
def Af.dataW{P:Program}{f:FuncId}{args:List AV}{res:AV}{fn:Func}{c:Code}(hf:P.funcs[f]? = some fn)
 (h:∀(w:World) (D:Nat->Prop) (B:Nat) (β:Nat->Value) (vs:Array Value),Tabs w->vs.size=args.length->(∀b,D b->b<w.heap.size)->(∀(i:Nat) (av:AV),args[i]? = some av->RX w D B β (oL []) av (vs.getD i undef)) ->
   Calls P f vs w fun e w' => ∃ v, e = .returned v ∧ (∀ (w2 : World) (D : Nat → Prop) (B : Nat), RD w2 D B res v) ∧ Below w.heap.size w w') (hname : (fn.name == "runtime.NumGoroutine") = false := by rfl) (hb : fn.body = some c := by rfl) : Af P f args [] res [] := by
 refine⟨aco hf hname hb,fun E β vs hpin hdf hY h0=>?_⟩;refine(h E.w0 (E.D E.w0 β (oL [])) E.B β vs E.hT h0.size (fun b hb=>hb.2.1) (fun i av hi=>h0.tmps i av hi)).mono fun e w' ⟨v,he,hr,hw⟩=>⟨v,β,he,?_,fun o hi=>hi.elim⟩
 obtain⟨b1,b2,b3,b4,b5⟩:=hw;refine⟨hdf.symm,rfl,fun t av ht=>?_,fun o=>trivial,fun o o' b _ hi=>hi.elim,⟨b1,b2,b3,b4,fun b hb _=>b5 b hb⟩,fun o u n0 hp=>by rw[hpin o]at hp;cases hp⟩;cases t with
 | zero=>simp at ht;subst ht;exact .d (hr _ _ _)
 | succ t=>simp at ht
def aax(xs:List ByteArray)(sep:ByteArray):ByteArray:=⟨(Lib.join (xs.map (·.data.toList)) sep.data.toList).toArray⟩
def Join_ok(xs:List ByteArray)(sep:ByteArray)(hl:xs.length<=1073741824)(hz:(aax xs sep).size<=140737488355328):Af Tryz.prog 138 [sS xs,.str fun _=>sep] [] (.str fun _=>aax xs sep) []:=by
 refine Af.dataW Tryz.func138 fun w D B β vs hT hs hD ha=>?_;have h0:=(ha 0 _ rfl).aaJ;have h1:=(ha 1 _ rfl).aaI;have hz':(Lib.join (xs.map (·.data.toList)) sep.data.toList).length<=140737488355328:=by
  have:(aax xs sep).size=(Lib.join (xs.map (·.data.toList)) sep.data.toList).length:=by
   show(Lib.join _ _).toArray.size=_;rw[List.size_toArray]
  omega
 have hvs:vs=#[vs.getD 0 undef,.string sep]:=by
  rw[<- h1];refine Array.ext (by rw[hs];rfl) fun i q1 q2=>?_;have hi:i<2:=q2;rcases i with _|_|i
  ·simp[Array.getD,q1]
  ·simp[Array.getD,q1]
  ·omega
 generalize vs.getD 0 undef=v at*;subst hvs;cases h0 with
 | empty _ _ _ _ p cap hn hc=>
  have hx:xs=[]:=List.eq_nil_of_length_eq_zero hn;subst hx;refine(Any.strings_Join_none Tryz.amQ Tryz.ac4 p cap sep w).mono fun e w' ⟨he,hw⟩=>⟨_,he,fun w2 D B=>?_,hw▸Below.refl _ _⟩
  exact .str fun _=>aax [] sep
 | slc _ _ _ _ b o cap cc hn hc hDb hB hcell hlen hone hel=>
  refine(Any.strings_Join Tryz.amQ Tryz.ac4 b o cap xs sep w (fun j x hj=>?_) (hD b hDb) (by omega) hn hz').mono fun e w' ⟨he,hw⟩=>⟨_,he,fun w2 D B=>.str fun _=>aax xs sep,hw⟩
  have hlt:j<xs.length:=(List.getElem?_eq_some_iff.1 hj).1;have h2:=hcell j (by show j<xs.length*1;omega);have h3:=hel j 0 _ hlt rfl;rw[h2];simp only[Nat.mul_one,Nat.add_zero]at h3;have h4:=(RX.d (β:=β) (H:=oL []) h3).aaI;rw[h4];simp[List.getD,hj]
end Go.Ai
