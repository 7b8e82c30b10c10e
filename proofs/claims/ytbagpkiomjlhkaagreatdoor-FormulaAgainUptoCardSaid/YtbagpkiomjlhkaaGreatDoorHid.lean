/- Chapter 17: the printer: paths that begin with a reserved word. -/
import Derived.Test.YtbagpkiomjlhkaaGreatDoorChkA
import Derived.Test.YtbagpkiomjlhkaaGreatDoorRdD
set_option linter.all false
namespace Go.Ai
open Go Go.Proofs Tryz
set_option maxRecDepth 100000
set_option maxHeartbeats 4000000
def nr(p:X->Bool):List X->Nat->Int
 | [],_ => -1
 | x::r,i=>if p x=true then i else nr p r (i+1)
theorem I4(p:X->Bool):∀(l:List X) (i:Nat),decide (0<=nr p l i)=l.any p
 | [],_=>by simp[nr]
 | x::r,i=>by
  unfold nr;by_cases q:p x=true
  ·rw[ae q];simp[q]
  ·rw[aa q,I4 p r (i+1)];simp[q]
def Rz(p:X->Bool)(e D:Nat)(l:List X)(hl:l.length<=1073741824)(hp:∀i,i<l.length->Af prog 39 [aq (e+1) D .any fun _=>l.getD i default] [] (.bool fun _=>p (l.getD i default)) []):
 Af prog 136 [eP (e+1) D .any fun _=>l,.func 39 []] [] (.int .i64 fun _=>nr p l 0) []:=by
 obtain⟨Z,hZ⟩:∃Z,Z=nr p l 0:=⟨_,rfl⟩
 rw[<- hZ];unfold eP
 (refine fA [.tmp 4] DC [] func136 fun _=>?_;repeat' first|exact⟨⟩|apply mA|apply mC<;>intro)
 refine .loop (fun i:Nat=>⟨19,[(8,.int .i64 fun _=>(i:Int)),(7,.int .i64 fun _=>(l.length:Int)),(0,eP (e+1) D .any fun _=>l),(1,.func 39 [])],[]⟩)
  (fun i=>i<=l.length∧nr p (l.drop i) i=Z) (fun i=>l.length-i) 0 ⟨aB _,hZ.symm⟩ ?_ fun i E hi=>?_
 ·exact aZ
 obtain⟨h1,h2⟩:=hi;by_cases hi:i<l.length
 ·rw[iH hi]at h2;unfold nr at h2;have h3:=hp i hi;have e1:l.getD i default=l[i]:=by simp[List.getD,hi]
  rw[<- e1]at h2;generalize p (l.getD i default)=b at*;apply af.wk tF mF [(4,[(5,zO b,[])])] DC ?_
  (refine oA ?_;repeat' first|exact⟨⟩|apply mA|apply mC<;>intro)
  all_goals(try simp only[bu])
  all_goals try exact zB
  all_goals try exact absurd hi ‹¬i<l.length›
  (all_goals try first|exact eZ|(refine qC ?_;repeat' first|exact⟨⟩|apply mA))
  ·rw[ae ‹b=true›]at h2;exact h2
  ·rw[aa (fun g=>Bool.noConfusion (g.symm.trans ‹b=false›))]at h2;refine dE (i+1) ⟨⟨zo,h2⟩,zo⟩ ?_
   (focus(refine aQ ?_;repeat' first|with_reducible apply ai|exact wZ|fail))
   exact aS zo
 ·have e:l.drop i=[]:=qB zo;rw[e]at h2;apply af.wk tF mF [(4,[(5,.any,[])])] DC ?_
  (refine oA ?_;repeat' first|exact⟨⟩|apply mA|apply mC<;>intro)
  all_goals try exact absurd ‹i<l.length› hi
  (all_goals try first|exact eZ|(refine qC ?_;repeat' first|exact⟨⟩|apply mA))
  rw[nr]at h2
  first|exact h2|exact h2.symm
def RA(p:X->Bool)(e D:Nat)(l:List X)(hl:l.length<=1073741824)(hp:∀i,i<l.length->Af prog 39 [aq (e+1) D .any fun _=>l.getD i default] [] (.bool fun _=>p (l.getD i default)) []):
 Af prog 85 [eP (e+1) D .any fun _=>l,.func 39 []] [] (.bool fun _=>l.any p) []:=by
 have h:=Rz p e D l hl hp;rw[<- I4 p l 0];generalize nr p l 0=n at*;unfold eP at*
 (refine fA [.tmp 4] RB [(1,[(2,zI n,[])])] func85 fun _=>?_;repeat' first|exact⟨⟩|apply mA|apply mC<;>intro)
 all_goals try exact zB
 all_goals exact eZ
def iV(t:ByteArray):ByteArray:=if 0<=iw t then t.extract 0 (iw t).toNat else t
def gL:Nat->X->Bool
 | 0,_=>false
 | k+1,x=>dQ (iV x.text)||x.args.any (gL k)
theorem DD(e:Nat):∀(k D:Nat) (x:X),X.le (e+1) (D+1) x->X.le (e+1) k x->X.all (fun y=>y.text.size<=1073741824) k x->Af prog 39 [aq (e+1) (D+1) .any fun _=>x] [] (.bool fun _=>gL k x) []
 | 0,_,_,_,h,_=>h.elim
 | k+1,D,x,hx,hk,hz=>by
  have h1:=I5 x.text hz.1;have h2:=DE (iV x.text)
  have h3:=RA (gL k) e D x.args hx.2.2.1 (fun i hi=>by
   have hy:=X.gg hx hi;obtain⟨c,rfl⟩:=X.lP hy;exact DD e k c _ hy (X.gg hk hi) (hz.2 _ (by rw[show x.args.getD i default=x.args[i] by simp[List.getD,hi]];exact d9 hi)))
  have hr:=wA fR.data.toList x.text.data.toList;have hl:x.text.data.toList.length=x.text.size:=fY;rw[hl]at hr;show Af prog 39 _ [] (.bool fun _=>dQ (iV x.text)||x.args.any (gL k)) [];unfold iV at h2 ⊢;unfold iw at*;generalize x.args.any (gL k)=b at*;generalize Lib.indexAny x.text.data.toList fR.data.toList=n at*;by_cases c:0<=n
  ·rw[ae c]at h2 ⊢;generalize dQ (x.text.extract 0 n.toNat)=r at*
   (refine fA [.tmp 2] I6 [(2,[(1,zI n,[])]),(5,[(1,zO r,[]),(5,zO b,[])])] func39 fun _=>?_;repeat' first|exact⟨⟩|apply mA|apply mC<;>intro)
   all_goals(try simp only[aF])
   all_goals try exact zB
   all_goals try exact absurd ‹n<0› zo
   (all_goals try first|exact eZ|(refine qC ?_;repeat' first|exact⟨⟩|apply mA))
   cases r<;>rfl
  ·rw[aa c]at h2 ⊢;generalize dQ x.text=r at*
   (refine fA [.tmp 2] I6 [(2,[(1,zI n,[])]),(5,[(1,zO r,[]),(5,zO b,[])])] func39 fun _=>?_;repeat' first|exact⟨⟩|apply mA|apply mC<;>intro)
   all_goals(try simp only[aF])
   all_goals try exact zB
   all_goals try exact absurd ‹0<=n› c
   (all_goals try first|exact eZ|(refine qC ?_;repeat' first|exact⟨⟩|apply mA))
   cases r<;>rfl
def RC(e:Nat)(k D:Nat)(x:X)(hx:X.le (e+1) (D+1) x)(hk:X.le (e+1) k x)(hz:X.all (fun y=>y.text.size<=1073741824) k x):Af prog 39 [aq (e+1) (D+1) .any fun _=>x] [] (.bool fun _=>gL k x) []:=DD e k D x hx hk hz
end Go.Ai

namespace Go.Ai
open Go Go.Proofs Go.RowKit Tryz
set_option maxRecDepth 100000
def Af.RE{P:Program}{f:FuncId}{args:List AV}{res:AV}{fn:Func}{c:Code}(hf:P.funcs[f]? = some fn)
 (h:∀(w:World) (D:Nat->Prop) (B:Nat) (β:Nat->Value) (vs:Array Value),m9 w->vs.size=args.length->(∀b,D b->b<w.heap.size)->(∀(i:Nat) (av:AV),args[i]? = some av->RX w D B β (oL []) av (vs.getD i undef)) ->
   Calls P f vs w fun e w' => ∃ v, e = .returned v ∧ (∀ (w2 : World) (D : Nat → Prop) (B : Nat), RD w2 D B res v) ∧ Below w.heap.size w w') (hname : (fn.name == "runtime.NumGoroutine") = false := by rfl) (hb : fn.body = some c := by rfl) : Af P f args [] res [] := by
 refine⟨lm hf hname hb,fun E β vs cC hdf hY h0=>?_⟩;refine(h E.w0 (E.D E.w0 β (oL [])) E.B β vs E.hT h0.size (fun b hb=>hb.2.1) (fun i av hi=>h0.tmps i av hi)).mono fun e w' ⟨v,he,hr,hw⟩=>⟨v,β,he,?_,fun o hi=>hi.elim⟩
 obtain⟨b1,b2,b3,b4,b5⟩:=hw;refine⟨hdf.symm,rfl,fun t av ht=>?_,fun o=>trivial,fun o o' b _ hi=>hi.elim,⟨b1,b2,b3,b4,fun b hb _=>b5 b hb⟩,fun o u n0 hp=>by rw[cC o]at hp;cases hp⟩;cases t with
 | zero=>simp at ht;subst ht;exact .d (hr _ _ _)
 | succ t=>simp at ht
def bO(xs:List ByteArray)(sep:ByteArray):ByteArray:=⟨(Lib.join (xs.map (·.data.toList)) sep.data.toList).toArray⟩
def RF(xs:List ByteArray)(sep:ByteArray)(hl:xs.length<=1073741824)(hz:(bO xs sep).size<=140737488355328):Af prog 138 [sS xs,.str fun _=>sep] [] (.str fun _=>bO xs sep) []:=by
 refine Af.RE func138 fun w D B β vs hT hs hD ha=>?_;have h0:=(ha 0 _ rfl).gY;have h1:=(ha 1 _ rfl).gX;have hz':(Lib.join (xs.map (·.data.toList)) sep.data.toList).length<=140737488355328:=by
  have:(bO xs sep).size=(Lib.join (xs.map (·.data.toList)) sep.data.toList).length:=by
   show(Lib.join _ _).toArray.size=_;rw[uL]
  omega
 have hvs:vs=#[vs.getD 0 undef,.string sep]:=by
  rw[<- h1];refine sB (by rw[hs];rfl) fun i q1 q2=>?_;have hi:i<2:=q2;rcases i with _|_|i
  ·simp[Array.getD,q1]
  ·simp[Array.getD,q1]
  ·omega
 generalize vs.getD 0 undef=v at*;subst hvs;cases h0 with
 | empty _ _ _ _ p cap hn hc=>
  have hx:xs=[]:=qH hn;subst hx;refine(Any.strings_Join_none lays156 I7 p cap sep w).mono fun e w' ⟨he,hw⟩=>⟨_,he,fun w2 D B=>?_,hw▸Below.refl _ _⟩
  exact .str fun _=>bO [] sep
 | slc _ _ _ _ b o cap cc hn hc eD hB hcell hlen hone hel=>
  refine(Any.strings_Join lays156 I7 b o cap xs sep w (fun j x hj=>?_) (hD b eD) zo hn hz').mono fun e w' ⟨he,hw⟩=>⟨_,he,fun w2 D B=>.str fun _=>bO xs sep,hw⟩
  have hlt:j<xs.length:=(bX.1 hj).1;have h2:=hcell j (by show j<xs.length*1;omega);have h3:=hel j 0 _ hlt rfl;rw[h2];simp only[uJ,fE]at h3;have h4:=(RX.d (β:=β) (H:=oL []) h3).gX;rw[h4];simp[List.getD,hj]
end Go.Ai
