/- Chapter 17's model: its reader of tokens. -/
import Derived.Test.YtbagpkiomjlhkaaGreatDoorLexA
import Derived.Test.YtbagpkiomjlhkaaGreatDoorScn
import Derived.Test.YtbagpkiomjlhkaaGreatDoorRdG
set_option linter.all false
namespace Go.Ai
open Go Go.Proofs
set_option maxRecDepth 100000
set_option maxHeartbeats 4000000
inductive Mr where
 | mk (l:List Tok) (i:Nat) (o e line col:Int)
namespace Mr
def l:Mr->List Tok|mk l _ _ _ _ _=>l
def i:Mr->Nat|mk _ i _ _ _ _=>i
def o:Mr->Int|mk _ _ o _ _ _=>o
def e:Mr->Int|mk _ _ _ e _ _=>e
def line:Mr->Int|mk _ _ _ _ n _=>n
def col:Mr->Int|mk _ _ _ _ _ n=>n
def peek(r:Mr):Tok:=if r.e≠0∨r.l.length<=r.i then default else r.l.getD r.i default
def behind(r:Mr):Tok:=if r.e≠0∨r.l.length<=r.i+1 then default else r.l.getD (r.i+1) default
def next(r:Mr):Mr:=if r.peek.kind≠0 then mk r.l (r.i+1) r.o r.e r.line r.col else r
def fail(r:Mr)(e:Int):Mr:=if r.e=0∧e≠0 then mk r.l r.i r.o e r.peek.line r.peek.col else r
def isT(r:Mr)(t:ByteArray):Bool:=(decide (r.peek.kind=1)||decide (r.peek.kind=5))&&decide (r.peek.text=t)
def accept(r:Mr)(t:ByteArray):Mr:=if r.isT t=true then r.next else r
end Mr
def boxM(r:Mr):AO:=.box [slcK fun _=>r.l,.int .i64 fun _=>(r.i:Int),.int .i64 fun _=>r.o,.int .i64 fun _=>r.e,.int .i64 fun _=>r.line,.int .i64 fun _=>r.col]
abbrev zM(r:Mr):List (Nat×AO):=[(1000,boxM r)]
def anS(r:Mr):Af Tryz.prog 66 [.ptr 1000 0] [(1000,boxM r)] (encK fun _=>r.peek) [(1000,boxM r)]:=by
 by_cases q:r.e≠0∨r.l.length<=r.i
 ·have hp:r.peek=default:=by unfold Mr.peek;rw[if_pos q]
  rw[hp]
  (refine fB [.cell 2 52] kp66 [] Tryz.func66 fun _=>?_;repeat' with_reducible first|exact⟨⟩|refine mA ?_ ?_|refine mC (fun _=>?_) fun _=>?_)
  all_goals(try(exfalso;omega))
  all_goals rfl
 ·have hp:r.peek=r.l.getD r.i default:=by unfold Mr.peek;rw[if_neg q]
  rw[hp]
  (refine fB [.cell 2 52] kp66 [] Tryz.func66 fun _=>?_;repeat' with_reducible first|exact⟨⟩|refine mA ?_ ?_|refine mC (fun _=>?_) fun _=>?_)
  all_goals(try(exfalso;omega))
  all_goals(try rfl)
def apE(r:Mr)(hi:r.i<=1073741824):Af Tryz.prog 83 [.ptr 1000 0] [(1000,boxM r)] (encK fun _=>r.behind) [(1000,boxM r)]:=by
 have hw:IntKind.i64.wrap ((r.i:Int)+1)=((r.i+1:Nat):Int):=w64n (by omega);by_cases q:r.e≠0∨r.l.length<=r.i+1
 ·have hp:r.behind=default:=by unfold Mr.behind;rw[if_pos q]
  rw[hp]
  (apply Af.of tF mF [.cell 2 52] kp83 [] Tryz.func83 (fun _=>?_);(repeat' with_reducible first|exact nY|refine oC ?_ ?_|refine vQ ?_ ?_ ?_|refine cV (fun _=>?_) fun _=>?_|refine wQ ?_|fail))
  all_goals(try simp only[hw]at*)
  (all_goals(try exact eZ))
  all_goals(try(exfalso;omega))
  all_goals rfl
 ·have hp:r.behind=r.l.getD (r.i+1) default:=by unfold Mr.behind;rw[if_neg q]
  rw[hp]
  (apply Af.of tF mF [.cell 2 52] kp83 [] Tryz.func83 (fun _=>?_);(repeat' with_reducible first|exact nY|refine oC ?_ ?_|refine vQ ?_ ?_ ?_|refine cV (fun _=>?_) fun _=>?_|refine wQ ?_|fail))
  all_goals(try simp only[hw]at*)
  (all_goals try first|exact eZ|with_reducible (refine rQ ?_;repeat' first|apply And.intro|exact wZ)|(refine sQ ?_;repeat' first|with_reducible apply And.intro|exact cZ))
  all_goals(try(exfalso;omega))
  all_goals(try rfl)
def anU(r:Mr)(hi:r.i<=1073741824):Af Tryz.prog 78 [.ptr 1000 0] [(1000,boxM r)] (encK fun _=>r.peek) [(1000,boxM r.next)]:=by
 have h1:=anS r;have hw:IntKind.i64.wrap ((r.i:Int)+1)=((r.i+1:Nat):Int):=w64n (by omega);unfold Mr.next;generalize r.peek=p at*;by_cases q:p.kind≠0
 ·rw[if_pos q]
  (refine fB [.cell 2 52] kp78 [(1,[(1,zK p,zM r)])] Tryz.func78 fun _=>?_;repeat' with_reducible first|exact⟨⟩|refine mA ?_ ?_|refine mC (fun _=>?_) fun _=>?_)
  all_goals(try(exact absurd ‹p.kind=0› q))
  all_goals(try exact hw)
  all_goals(try rfl)
  all_goals(try exact fun _ _=>LeL.of_eq rfl)
 ·rw[if_neg q]
  (refine fA [.cell 2 52] kp78 [(1,[(1,zK p,zM r)])] Tryz.func78 fun _=>?_;repeat' with_reducible first|exact⟨⟩|refine mA ?_ ?_|refine mC (fun _=>?_) fun _=>?_)
  all_goals(try exact zB)
  all_goals(try(exact absurd ‹¬p.kind=0› q))
  all_goals exact eZ
def anX(r:Mr)(e:Int):Af Tryz.prog 65 [.ptr 1000 0,.int .i64 fun _=>e] [(1000,boxM r)] (.tup []) [(1000,boxM (r.fail e))]:=by
 have h1:=anS r;unfold Mr.fail;generalize r.peek=p at*;by_cases q:r.e=0∧e≠0
 ·rw[if_pos q]
  (refine fB [] kp65 [(1,[(1,zK p,zM r)])] Tryz.func65 fun _=>?_;repeat' with_reducible first|exact⟨⟩|refine mA ?_ ?_|refine mC (fun _=>?_) fun _=>?_)
  all_goals first|rfl|exact fun _=>rfl|exact fun _ _=>LeL.of_eq rfl
 ·rw[if_neg q]
  (refine fB [] kp65 [(1,[(1,zK p,zM r)])] Tryz.func65 fun _=>?_;repeat' with_reducible first|exact⟨⟩|refine mA ?_ ?_|refine mC (fun _=>?_) fun _=>?_)
def ao5(r:Mr)(t:ByteArray):Af Tryz.prog 80 [.ptr 1000 0,.str fun _=>t] [(1000,boxM r)] (.bool fun _=>r.isT t) [(1000,boxM r)]:=by
 have h1:=anS r;unfold Mr.isT;generalize r.peek=p at*
 (refine fB [.tmp 4] kp80 [(1,[(1,zK p,zM r)])] Tryz.func80 fun _=>?_;repeat' with_reducible first|exact⟨⟩|refine mA ?_ ?_|refine mC (fun _=>?_) fun _=>?_)
 by_cases k1:p.kind=1<;>by_cases k5:p.kind=5<;>simp[k1,k5]
def aoE(r:Mr)(t:ByteArray)(hi:r.i<=1073741824):Af Tryz.prog 79 [.ptr 1000 0,.str fun _=>t] [(1000,boxM r)] (.bool fun _=>r.isT t) [(1000,boxM (r.accept t))]:=by
 have h1:=ao5 r t;have h2:=anU r hi;generalize r.peek=p at h2;obtain⟨A,hA⟩:∃A,A=r.accept t:=⟨_,rfl⟩
 rw[<- hA];unfold Mr.accept at hA;generalize r.next=u at*;cases q:r.isT t with
 | true=>
  rw[q,if_pos rfl]at hA;rw[hA];rw[q]at h1
  (refine fB [.tmp 4] kp79 [(1,[(2,zO true,zM r)]),(3,[(1,zK p,zM u)])] Tryz.func79 fun _=>?_;repeat' with_reducible first|exact⟨⟩|refine mA ?_ ?_|refine mC (fun _=>?_) fun _=>?_)
 | false=>
  rw[q,if_neg (by simp)]at hA;rw[hA];rw[q]at h1
  (refine fB [.tmp 4] kp79 [(1,[(2,zO false,zM r)]),(3,[(1,zK p,zM u)])] Tryz.func79 fun _=>?_;repeat' with_reducible first|exact⟨⟩|refine mA ?_ ?_|refine mC (fun _=>?_) fun _=>?_)
def Mr.place(r:Mr):Int×Int×Int:=if r.e=0 then(0,0,0)else(r.line,r.col,r.e)
def aoY(r:Mr):Af Tryz.prog 34 [.ptr 1000 0] [(1000,boxM r)] (.tup [.int .i64 fun _=>r.place.1,.int .i64 fun _=>r.place.2.1,.int .i64 fun _=>r.place.2.2]) [(1000,boxM r)]:=by
 unfold Mr.place;by_cases q:r.e=0
 ·rw[if_pos q]
  (refine fB [.tmp 2,.tmp 3,.tmp 4] kp34 [] Tryz.func34 fun _=>?_;repeat' with_reducible first|exact⟨⟩|refine mA ?_ ?_|refine mC (fun _=>?_) fun _=>?_)
 ·rw[if_neg q]
  (refine fB [.tmp 2,.tmp 3,.tmp 4] kp34 [] Tryz.func34 fun _=>?_;repeat' with_reducible first|exact⟨⟩|refine mA ?_ ?_|refine mC (fun _=>?_) fun _=>?_)
def aoS{s:ByteArray}{a b:Nat}(hb:b<=s.size)(h:∀m,a<=m->m<b->byt s m<128):Asc (s.extract a b):=by
 intro x hx;obtain⟨k,hk,hkx⟩:=List.getElem_of_mem hx;have hl:(s.extract a b).data.toList.length=b-a:=by
  rw[Array.length_toList];show(s.extract a b).size=_;rw[ByteArray.size_extract];omega
 rw[hl]at hk;have h1:=aok (s:=s) (i:=a) (j:=b) (k:=k) hk hb;have h2:=h (a+k) (by omega) (by omega);have h3:byt (s.extract a b) k=(x.toNat:Int):=by
  unfold byt;rw[<- Array.getElem?_toList,List.getElem?_eq_getElem (by rw[hl];exact hk),hkx];rfl
 omega
def partB_lt{c:Int}(h:adM c=true):c<128:=by
 unfold adM letB digB at h;simp only[Bool.or_eq_true,decide_eq_true_eq]at h;omega
def aqc{c:Int}(h:digB c=true):c<128:=by
 unfold digB at h;simp only[decide_eq_true_eq]at h;omega
def aoi{s:ByteArray}{p:Int->Bool}{i m:Nat}(h:i<=m)(g:m<aag s p i):p (byt s m)=true:=aoH _ _ m h g
def num_asc{s:ByteArray}{i:Nat}(hi:i<s.size)(hl:digB (byt s i)=true):∀m,i<=m->m<numQ s i->byt s m<128:=by
 have h1:=apn hi hl;have hJ:∀m,i<=m->m<numJ s i->byt s m<128:=fun m a b=>aqc (aoi a b);have hK:∀m,i<=m->m<numK s i->byt s m<128:=by
  intro m a b;by_cases g:m<numJ s i
  ·exact hJ m a g
  ·unfold numK at b;split at b
   ·rename_i c;by_cases e:m=numJ s i
    ·rw[e,c.1];decide
    ·exact aqc (aoi (i:=numJ s i+1) (by omega) b)
   ·omega
 intro m a b;by_cases g:m<numK s i
 ·exact hK m a g
 ·unfold numQ at b;split at b
  ·rename_i c;have:m=numJ s i:=by omega
   rw[this,c.2.1];decide
  ·omega
def ap3{s:ByteArray}{i:Nat}(h:amj s i=true):letB (byt s i)=false∧byt s i<128∧byt s (i+1)<128:=by
 unfold amj at h;simp only[Bool.or_eq_true,Bool.and_eq_true,beq_iff_eq]at h;have k:∀c:Int,c=45∨c=33∨c=60∨c=62∨c=46->letB c=false:=by
  rintro c (rfl|rfl|rfl|rfl|rfl)<;>rfl
 exact⟨k _ (by omega),by omega,by omega⟩
def aoG{c:Int}(h:aiz c=true):letB c=false∧c<128:=by
 unfold aiz at h;rw[List.contains_iff_mem]at h;have k:∀c∈([40,41,123,125,91,93,60,62,61,58,59,44,46,63,43,45,42,38,64,124]:List Int),letB c=false∧c<128:=by decide
 exact k c h
def aoR{s:ByteArray}{i j:Nat}(h:i<j)(hj:j<=s.size):byt (s.extract i j) 0=byt s i:=by
 have:=aok (s:=s) (i:=i) (j:=j) (k:=0) (by omega) hj;simpa using this
def decV_rng{x:ByteArray}(h:(dV x).2.2=0):(-1000000000000000<=(dV x).1∧(dV x).1<=1000000000000000)∧0<=(dV x).2.1∧(byt x 0≠45->0<=(dV x).1):=by
 unfold dV decP at*;split at h
 ·exact absurd h (by show¬((4:Int)=0);decide)
 split at h
 ·exact absurd h (by show¬((5:Int)=0);decide)
 split at h
 ·exact absurd h (by show¬((13:Int)=0);decide)
 rename_i c1 c2 c3;rw[if_neg c1,if_neg c2,if_neg c3];have hn:(decT (rawD x)).2=0:=Decidable.not_not.1 fun g=>c3 (.inr (.inl g));unfold decT at hn;have he:numE (rawD x)=0:=by
  by_cases g:numE (rawD x)≠0
  ·rw[if_pos g]at hn;exact hn
  ·exact Decidable.not_not.1 g
 unfold numE at he;split at he
 ·rename_i g;dsimp only;refine⟨by omega,by omega,fun hb=>?_⟩;have ht:(decT (rawD x)).1=x:=Decidable.not_not.1 fun g=>c3 (.inr (.inr (.inl g)));unfold decT at ht;rw[if_neg (show¬numE (rawD x)≠0 from fun g=>g (by unfold numE;rw[if_pos ‹_›]))]at ht;dsimp only at ht;refine Int.not_lt.1 fun hn=>hb ?_;rw[if_pos hn]at ht;rw[<- ht];unfold byt;rw[ByteArray.data_append,Array.getElem?_append_left (by decide)];rfl
 ·exact absurd he (by decide)
def aq1{s:ByteArray}(hs:s.size<=65536){i:Nat}(hi:i<s.size){l c:Int}{j:Bool}(h1:(anW s i (.mk 0 l c ⟨#[]⟩ ⟨#[]⟩ 0 0 j)).1=true)(h0:(anW s i (.mk 0 l c ⟨#[]⟩ ⟨#[]⟩ 0 0 j)).2.2.2.1=0):
 PlTok (anW s i (.mk 0 l c ⟨#[]⟩ ⟨#[]⟩ 0 0 j)).2.2.2.2∧(anW s i (.mk 0 l c ⟨#[]⟩ ⟨#[]⟩ 0 0 j)).2.2.2.2.kind≠0:=by
 have ez:∀k,k<=s.size->(s.extract i k).size=k-i:=fun k hk=>by rw[ByteArray.size_extract];omega
 have z0:(0:Nat)<=65536:=by decide
 have zn:(-1000000000000000:Int)<=0∧(0:Int)<=1000000000000000:=by decide
 unfold anW at*;by_cases c0:byt s i=120∧byt s (i+1)=34
 ·rw[if_pos c0]at h0 ⊢;unfold bytR at*;by_cases c1:s.size<=aag s hxB (i+2)
  ·rw[if_pos c1]at h0;exact absurd h0 (by show¬((29:Int)=0);decide)
  rw[if_neg c1]at h0 ⊢;by_cases c2:byt s (aag s hxB (i+2))≠34∨(aag s hxB (i+2)-(i+2))%2≠0
  ·rw[if_pos c2]at h0;exact absurd h0 (by show¬((13:Int)=0);decide)
  rw[if_neg c2]at h0 ⊢;dsimp only at h0 ⊢;split at h0
  ·exact absurd h0 (by decide)
  rename_i g;refine⟨⟨z0,?_,zn,Int.le_refl _,fun q=>absurd q (by show¬((4:Int)=1);decide),fun q=>absurd q (by show¬((4:Int)=2);decide),fun q=>absurd q (by show¬((4:Int)=5);decide),Asc.nil⟩,by show(4:Int)≠0;decide⟩;show(unL _ _).size<=_;rw[aoo];omega
 rw[if_neg c0]at h0 h1 ⊢;by_cases c1:letB (byt s i)=true
 ·rw [if_pos c1];have hw:=abb (s:=s) (p:=adM) (i:=i) (by omega);refine⟨⟨?_,z0,zn,Int.le_refl _,fun _=>?_,fun q=>absurd q (by show¬((1:Int)=2);decide),fun q=>absurd q (by show¬((1:Int)=5);decide),aoS hw.2 fun m a b=>partB_lt (aoi a b)⟩,by show(1:Int)≠0;decide⟩
  ·show(s.extract i _).size<=_;rw[ez _ hw.2];omega
  ·show letB (byt (s.extract i _) 0)=true;have:i<aag s adM i:=by
    rw[abw ⟨hi,by unfold adM;rw[c1];rfl⟩];have:=abb (s:=s) (p:=adM) (i:=i+1) (by omega);omega
   rw[aoR this hw.2];exact c1
 rw[if_neg c1]at h0 h1 ⊢;by_cases c2:digB (byt s i)=true
 ·rw[if_pos c2]at h0 ⊢;have hq:=apn hi c2;unfold nR at*;by_cases c3:1<numJ s i-i∧byt s i=48
  ·rw[if_pos c3]at h0;exact absurd h0 (by show¬((3:Int)=0);decide)
  rw[if_neg c3]at h0 ⊢;have hd:=decV_rng h0;refine⟨⟨?_,z0,hd.1,hd.2.1,fun q=>absurd q (by show¬((2:Int)=1);decide),fun _=>⟨?_,?_⟩,fun q=>absurd q (by show¬((2:Int)=5);decide),aoS (by omega) (num_asc hi c2)⟩,by show(2:Int)≠0;decide⟩
  ·show(s.extract i _).size<=_;rw[ez _ (by omega)];omega
  ·show 0<(s.extract i _).size;rw[ez _ (by omega)];omega
  ·refine hd.2.2 ?_;rw[aoR (by omega) (by omega)];intro q;rw[q]at c2;exact absurd c2 (by decide)
 rw[if_neg c2]at h0 h1 ⊢;by_cases c3:byt s i=34
 ·rw[if_pos c3]at h0 ⊢;have h2:=aos (s:=s) (s.size+1) (i+1) ⟨#[]⟩ hi;unfold txtR at*;cases hq:txtQ s (s.size+1) (i+1) ⟨#[]⟩with
  | inl v=>
   obtain⟨k,v⟩:=v;rw[hq]at h0;dsimp only at h0 ⊢;split at h0
   ·exact absurd h0 (by decide)
   rename_i g;refine⟨⟨z0,?_,zn,Int.le_refl _,fun q=>absurd q (by show¬((3:Int)=1);decide),fun q=>absurd q (by show¬((3:Int)=2);decide),fun q=>absurd q (by show¬((3:Int)=5);decide),Asc.nil⟩,by show(3:Int)≠0;decide⟩;show v.size<=_;omega
  | inr v=>
   obtain⟨k,w,e⟩:=v;rw[hq]at h0 h2;dsimp only at h0 h2;exact absurd h0 h2.2.2
 rw[if_neg c3]at h0 h1 ⊢;by_cases c4:amj s i=true
 ·rw [if_pos c4];have hp:=ap3 c4;have hi2:i+2<=s.size:=by
   have:byt s (i+1)≠0:=by
    intro q;unfold amj at c4;rw[q]at c4;simp at c4
   have:=anw this;omega
  refine⟨⟨?_,z0,zn,Int.le_refl _,fun q=>absurd q (by show¬((5:Int)=1);decide),fun q=>absurd q (by show¬((5:Int)=2);decide),fun _=>?_,aoS hi2 fun m a b=>?_⟩,by show(5:Int)≠0;decide⟩
  ·show(s.extract i _).size<=_;rw[ez _ hi2];omega
  ·show letB (byt (s.extract i (i+2)) 0)=false;rw[aoR (by omega) hi2];exact hp.1
  ·rcases(by omega:m=i∨m=i+1)with rfl|rfl
   ·exact hp.2.1
   ·exact hp.2.2
 rw[if_neg c4]at h0 h1 ⊢;by_cases c5:aiz (byt s i)=true
 ·rw[if_pos c5];have hp:=aoG c5;refine⟨⟨?_,z0,zn,Int.le_refl _,fun q=>absurd q (by show¬((5:Int)=1);decide),fun q=>absurd q (by show¬((5:Int)=2);decide),fun _=>?_,aoS (by omega) fun m a b=>?_⟩,by show(5:Int)≠0;decide⟩
  ·show(s.extract i _).size<=_;rw[ez _ (by omega)];omega
  ·show letB (byt (s.extract i (i+1)) 0)=false;rw[aoR (by omega) (by omega)];exact hp.1
  ·obtain rfl:m=i:=by omega
   exact hp.2
 rw[if_neg c5]at h1;exact absurd h1 (by show¬(false=true);decide)
def Toks(R:List Tok×Int×Int×Int):Prop:=(R.2.2.2≠0∧R.1=[])∨(R.2=(0,0,0)∧∃L t,R.1=L++[t]∧(∀u∈L,PlTok u∧u.kind≠0)∧PlTok t∧t.kind=0∧L.length<=16384)
theorem aoB{s:ByteArray}(hs:s.size<=65536):∀(n:Nat) (l:List Tok) (f i:Nat) (p:Int×Int) (last:Int),(∀u∈l,PlTok u∧u.kind≠0)->l.length<=16384->i<=s.size->s.size-i<n->Toks (apA s n l f i p last)
 | 0,l,f,i,p,last,_,_,_,h=>absurd h (by omega)
 | n+1,l,f,i,p,last,hl,hn,hi,h=>by
  simp only[apA];obtain⟨b1,b2⟩:=afe (s:=s) (s.size-i) i hi;replace b1:i<=abH s i:=b1;replace b2:abH s i<=s.size:=b2;generalize abH s i=j at*;by_cases c1:s.size<=j
  ·rw[if_pos c1];exact .inr ⟨rfl,l,_,rfl,hl,⟨Nat.zero_le _,Nat.zero_le _,⟨by show(-1000000000000000:Int)<=0;decide,by show(0:Int)<=1000000000000000;decide⟩,Int.le_refl _,fun q=>absurd q (by show¬((0:Int)=1);decide),fun q=>absurd q (by show¬((0:Int)=2);decide),fun q=>absurd q (by show¬((0:Int)=5);decide),Asc.nil⟩,rfl,hn⟩
  rw[if_neg c1];by_cases c2:l.length=16384
  ·rw[if_pos c2];exact .inl ⟨by show(9:Int)≠0;decide,rfl⟩
  rw[if_neg c2];have ht:=aq1 hs (Nat.lt_of_not_le c1) (l:=(posV s f j p).1) (c:=(posV s f j p).2) (j:=decide ((j:Int)=last));have hm:=apr (Nat.lt_of_not_le c1) (.mk 0 (posV s f j p).1 (posV s f j p).2 ⟨#[]⟩ ⟨#[]⟩ 0 0 (decide ((j:Int)=last)));generalize anW s j (.mk 0 (posV s f j p).1 (posV s f j p).2 ⟨#[]⟩ ⟨#[]⟩ 0 0 (decide ((j:Int)=last)))=r at*;by_cases c3:r.1=false
  ·rw[if_pos c3];exact .inl ⟨by show(6:Int)≠0;decide,rfl⟩
  rw[if_neg c3];have c3:r.1=true:=by simpa using c3
  by_cases c4:r.2.2.2.1≠0
  ·rw[if_pos c4];exact .inl ⟨c4,rfl⟩
  rw[if_neg c4];have c4:r.2.2.2.1=0:=Decidable.not_not.1 c4;have hm:=hm.1 c4 c3;refine aoB hs n _ _ _ _ _ (fun u hu=>?_) (by rw[List.length_append];show l.length+1<=_;omega) hm.2 (by omega);rcases List.mem_append.1 hu with g|g
  ·exact hl u g
  ·rw[List.mem_singleton.1 g];exact ht c3 c4
def aoC(s:ByteArray):Toks (ao0 s):=by
 unfold ao0;split
 ·exact .inl ⟨by show(5:Int)≠0;decide,rfl⟩
 ·exact aoB (by omega) _ _ _ _ _ _ (fun u hu=>by cases hu) (by decide) (Nat.zero_le _) (by omega)
def newS(s:ByteArray):St:=.mk (ao0 s).1 (ao0 s).2.1 (ao0 s).2.2.1 (ao0 s).2.2.2
def newM(s:ByteArray):Mr:=.mk (ao0 s).1 0 0 (ao0 s).2.2.2 (ao0 s).2.1 (ao0 s).2.2.1
def aqn(s:ByteArray)(hs:s.size<=1073741824):Af Tryz.prog 20 [.str fun _=>s] [] (.ptr 19 0) [(19,boxS fun _=>newS s)]:=by
 have h1:=apk s hs;unfold newS;generalize ao0 s=R at*;obtain⟨L,a,b,e⟩:=R;dsimp only at*
 (refine fB [.tmp 2] kp20 [(1,[(1,.tup [slcK fun _=>L,zI a,zI b,zI e],[])])] Tryz.func20 fun _=>?_;repeat' with_reducible first|exact⟨⟩|refine mA ?_ ?_|refine mC (fun _=>?_) fun _=>?_)
 all_goals rfl
def as1(s:ByteArray)(hs:s.size<=1073741824):Af Tryz.prog 31 [.str fun _=>s] [] (.ptr 19 0) [(19,boxM (newM s))]:=by
 have h1:=apk s hs;unfold newM;generalize ao0 s=R at*;obtain⟨L,a,b,e⟩:=R;dsimp only at*
 (refine fB [.tmp 2] kp31 [(1,[(1,.tup [slcK fun _=>L,zI a,zI b,zI e],[])])] Tryz.func31 fun _=>?_;repeat' with_reducible first|exact⟨⟩|refine mA ?_ ?_|refine mC (fun _=>?_) fun _=>?_)
 all_goals rfl
def Mr.anY{P:Tok->Prop}(hd:P default){r:Mr}(h:∀t∈r.l,P t):P r.peek:=by
 unfold Mr.peek;split
 ·exact hd
 ·rename_i q;have hl:r.i<r.l.length:=by omega
  rw[show r.l.getD r.i default=r.l[r.i] by simp[List.getD,hl]];exact h _ (List.getElem_mem hl)
def Mr.anR(r:Mr):r.next.l=r.l:=by unfold Mr.next;split<;>rfl
def Mr.aoX(r:Mr):r.next.i<=r.i+1:=by
 unfold Mr.next;split
 ·exact Nat.le_refl _
 ·omega
def Mr.afW(r:Mr)(e:Int):(r.fail e).l=r.l:=by unfold Mr.fail;split<;>rfl
def aon:ByteArray:=⟨#[102,97,108,115,101]⟩
def Mr.neg(r:Mr):Bool:=r.isT hyT&&(decide (r.behind.kind=2)&&r.behind.joined)
def apD(m:Bool)(x:Tok):V:=if 0<x.scale∨byt x.text (x.text.size-1)=100 then sc 3 (if m=true then -x.num else x.num) x.scale ⟨#[]⟩else sc 2 (if m=true then -x.num else x.num) 0 ⟨#[]⟩
def mnum(m:Bool)(r:Mr):V×Mr:=if r.peek.kind≠2 then(default,r.fail 13)else(apD m r.peek,r.next)
def mval(r:Mr):V×Mr:=
 if r.peek.kind=3 then(sc 4 0 0 r.peek.value,r.next)else if r.peek.kind=4 then(sc 5 0 0 r.peek.value,r.next)
 else if r.isT alz=true then(sc 1 1 0 ⟨#[]⟩,r.next)else if r.isT aon=true then(sc 1 0 0 ⟨#[]⟩,r.next)
 else if r.isT ao4=true∨r.isT ao9=true then
  if r.next.peek.kind≠3 then(default,r.next.fail 13)
  else if r.peek.text=ao4 then(sc 6 (ao8 r.next.peek.value).1 0 ⟨#[]⟩,r.next.next.fail (ao8 r.next.peek.value).2)
  else(sc 7 (ao7 r.next.peek.value).1 0 ⟨#[]⟩,r.next.next.fail (ao7 r.next.peek.value).2)
 else mnum r.neg (if r.neg=true then r.next else r)
def as2(e:Nat)(r:Mr)(hi:r.i<=1073741000)(hP:∀t∈r.l,PlTok t):Af Tryz.prog 32 [.ptr 1000 0] [(1000,boxM r)] (encV (e+1) .any fun _=>(mval r).1) [(1000,boxM (mval r).2)]:=by
 have hp:=Mr.anY PlTok.default hP;have h1:=anS r;have h3:=anU r (by omega);have h8:=aoE r alz (by omega);have h10:=aoE r aon (by omega);have h12:=ao5 r ao4;have h12b:=ao5 r ao9;have hi2:r.next.i<=1073741001:=Nat.le_trans (Mr.aoX r) (by omega);have hP2:∀t∈r.next.l,PlTok t:=by rw[Mr.anR];exact hP
 unfold mval;by_cases c3:r.peek.kind=3
 ·rw[if_pos c3];dsimp only;generalize r.next=n at*;generalize r.peek=p at*
  (apply Af.of tF mF [.cell 2 56] kp32 [(1,[(1,zK p,zM r)]),(3,[(1,zK p,zM n)])] Tryz.func32 (fun _=>?_);(repeat' with_reducible first|exact nY|refine oC ?_ ?_|refine vQ ?_ ?_ ?_|refine cV (fun _=>?_) fun _=>?_|refine wQ ?_|fail))
  all_goals(try simp only[ite_self])
  all_goals(try exact zB)
  all_goals(try(exact absurd c3 ‹¬p.kind=3›))
  (all_goals try first|exact eZ|with_reducible (refine rQ ?_;repeat' first|apply And.intro|exact wZ)|(refine sQ ?_;repeat' first|with_reducible apply And.intro|exact cZ))
  all_goals(try rfl)
  all_goals(try exact fun _=>rfl)
 rw[if_neg c3];by_cases c4:r.peek.kind=4
 ·rw[if_pos c4];dsimp only;generalize r.next=n at*;generalize r.peek=p at*
  (apply Af.of tF mF [.cell 2 56] kp32 [(1,[(1,zK p,zM r)]),(6,[(1,zK p,zM n)])] Tryz.func32 (fun _=>?_);(repeat' with_reducible first|exact nY|refine oC ?_ ?_|refine vQ ?_ ?_ ?_|refine cV (fun _=>?_) fun _=>?_|refine wQ ?_|fail))
  all_goals(try simp only[ite_self])
  all_goals(try exact zB)
  all_goals(try(exact absurd ‹p.kind=3› c3))
  all_goals(try(exact absurd c4 ‹¬p.kind=4›))
  (all_goals try first|exact eZ|with_reducible (refine rQ ?_;repeat' first|apply And.intro|exact wZ)|(refine sQ ?_;repeat' first|with_reducible apply And.intro|exact cZ))
  all_goals(try rfl)
  all_goals(try exact fun _=>rfl)
 rw[if_neg c4];by_cases c5:r.isT alz=true
 ·rw[if_pos c5];dsimp only;unfold Mr.accept at h8;rw[if_pos c5,c5]at h8;generalize r.next=n at*;generalize r.peek=p at*
  (apply Af.of tF mF [.cell 2 56] kp32 [(1,[(1,zK p,zM r)]),(8,[(1,zO true,zM n)])] Tryz.func32 (fun _=>?_);(repeat' with_reducible first|exact nY|refine oC ?_ ?_|refine vQ ?_ ?_ ?_|refine cV (fun _=>?_) fun _=>?_|refine wQ ?_|fail))
  all_goals(try simp only[ite_self])
  all_goals(try exact zB)
  all_goals(try(exact absurd ‹p.kind=3› c3))
  all_goals(try(exact absurd ‹p.kind=4› c4))
  (all_goals(try exact eZ))
  all_goals(try rfl)
  all_goals(try exact fun _=>rfl)
 rw[if_neg c5];have c5:r.isT alz=false:=by simpa using c5
 unfold Mr.accept at h8 h10;rw[if_neg (by rw[c5];decide),c5]at h8;by_cases c6:r.isT aon=true
 ·rw[if_pos c6];dsimp only;rw[if_pos c6,c6]at h10;generalize r.next=n at*;generalize r.peek=p at*
  (apply Af.of tF mF [.cell 2 56] kp32 [(1,[(1,zK p,zM r)]),(8,[(1,zO false,zM r)]),(10,[(1,zO true,zM n)])] Tryz.func32 (fun _=>?_);(repeat' with_reducible first|exact nY|refine oC ?_ ?_|refine vQ ?_ ?_ ?_|refine cV (fun _=>?_) fun _=>?_|refine wQ ?_|fail))
  all_goals(try simp only[ite_self])
  all_goals(try exact zB)
  all_goals(try(exact absurd ‹p.kind=3› c3))
  all_goals(try(exact absurd ‹p.kind=4› c4))
  (all_goals(try exact eZ))
  all_goals(try rfl)
  all_goals(try exact fun _=>rfl)
 rw[if_neg c6];have c6:r.isT aon=false:=by simpa using c6
 rw[if_neg (by rw[c6];decide),c6]at h10;by_cases c7:r.isT ao4=true∨r.isT ao9=true
 ·rw[if_pos c7];have h14:=anS r.next;have h16:=anX r.next 13;have h18:=anU r.next (by omega);have hp2:=Mr.anY PlTok.default hP2;have h20:=aqh r.next.peek.value (Nat.le_trans hp2.vsize (by decide));have h23:=apV r.next.peek.value (Nat.le_trans hp2.vsize (by decide));have h21:=anX r.next.next (ao8 r.next.peek.value).2;have h24:=anX r.next.next (ao7 r.next.peek.value).2;generalize ao8 r.next.peek.value=dq at*;generalize ao7 r.next.peek.value=tq at*;generalize r.next.next.fail dq.2=fd at*;generalize r.next.next.fail tq.2=ft at*;generalize r.next.next=n2 at*;generalize r.next.fail 13=fn at*;generalize r.next.peek=p2 at*;generalize r.next=n at*;generalize r.isT ao4=b1 at*;generalize r.isT ao9=b2 at*;generalize r.peek=p at*;by_cases c8:p2.kind≠3
  ·rw[if_pos c8]
   (apply Af.of tF mF [.cell 2 56] kp32 [(1,[(1,zK p,zM r)]),(8,[(1,zO false,zM r)]),(10,[(1,zO false,zM r)]),(12,[(1,zO b1,zM r),(4,zO b2,zM r)]),(13,[(1,zK p,zM n)]),(14,[(1,zK p2,zM n)]),(16,[(1,zT,zM fn)])] Tryz.func32 (fun _=>?_);(repeat' with_reducible first|exact nY|refine oC ?_ ?_|refine vQ ?_ ?_ ?_|refine cV (fun _=>?_) fun _=>?_|refine wQ ?_|fail))
   all_goals(try simp only[ite_self])
   all_goals(try exact zB)
   all_goals(try(exact absurd ‹p.kind=3› c3))
   all_goals(try(exact absurd ‹p.kind=4› c4))
   all_goals(try(exact absurd ‹p2.kind=3› c8))
   all_goals(try(exact absurd c7 (fun g=>g.elim (fun k=>Bool.noConfusion (k.symm.trans ‹b1=false∧b2=false›.1)) (fun k=>Bool.noConfusion (k.symm.trans ‹b1=false∧b2=false›.2)))))
   (all_goals(try exact eZ))
   all_goals(try rfl)
   all_goals(try exact fun _=>rfl)
  rw[if_neg c8];have c8:p2.kind=3:=Decidable.not_not.1 c8;by_cases c9:p.text=ao4
  ·rw[if_pos c9]
   (apply Af.of tF mF [.cell 2 56] kp32 [(1,[(1,zK p,zM r)]),(8,[(1,zO false,zM r)]),(10,[(1,zO false,zM r)]),(12,[(1,zO b1,zM r),(4,zO b2,zM r)]),(13,[(1,zK p,zM n)]),(14,[(1,zK p2,zM n)]),(18,[(1,zK p2,zM n2)]),(20,[(2,.tup [.int .i64 fun _=>dq.1,.int .i64 fun _=>dq.2],[])]),(21,[(2,zT,zM fd)])] Tryz.func32 (fun _=>?_);(repeat' with_reducible first|exact nY|refine oC ?_ ?_|refine vQ ?_ ?_ ?_|refine cV (fun _=>?_) fun _=>?_|refine wQ ?_|fail))
   all_goals(try simp only[ite_self])
   all_goals(try exact zB)
   all_goals(try(exact absurd ‹p.kind=3› c3))
   all_goals(try(exact absurd ‹p.kind=4› c4))
   all_goals(try(exact absurd c8 ‹¬p2.kind=3›))
   all_goals(try(exact absurd c9 ‹¬p.text=(⟨#[100,97,116,101]⟩:ByteArray)›))
   all_goals(try(exact absurd c7 (fun g=>g.elim (fun k=>Bool.noConfusion (k.symm.trans ‹b1=false∧b2=false›.1)) (fun k=>Bool.noConfusion (k.symm.trans ‹b1=false∧b2=false›.2)))))
   (all_goals try first|exact eZ|with_reducible (refine rQ ?_;repeat' first|apply And.intro|exact wZ)|(refine sQ ?_;repeat' first|with_reducible apply And.intro|exact cZ))
   all_goals(try rfl)
   all_goals(try exact fun _=>rfl)
  rw[if_neg c9]
  (apply Af.of tF mF [.cell 2 56] kp32 [(1,[(1,zK p,zM r)]),(8,[(1,zO false,zM r)]),(10,[(1,zO false,zM r)]),(12,[(1,zO b1,zM r),(4,zO b2,zM r)]),(13,[(1,zK p,zM n)]),(14,[(1,zK p2,zM n)]),(18,[(1,zK p2,zM n2)]),(23,[(2,.tup [.int .i64 fun _=>tq.1,.int .i64 fun _=>tq.2],[])]),(24,[(2,zT,zM ft)])] Tryz.func32 (fun _=>?_);(repeat' with_reducible first|exact nY|refine oC ?_ ?_|refine vQ ?_ ?_ ?_|refine cV (fun _=>?_) fun _=>?_|refine wQ ?_|fail))
  all_goals(try simp only[ite_self])
  all_goals(try exact zB)
  all_goals(try(exact absurd ‹p.kind=3› c3))
  all_goals(try(exact absurd ‹p.kind=4› c4))
  all_goals(try(exact absurd c8 ‹¬p2.kind=3›))
  all_goals(try(exact absurd ‹p.text=(⟨#[100,97,116,101]⟩:ByteArray)› c9))
  all_goals(try(exact absurd c7 (fun g=>g.elim (fun k=>Bool.noConfusion (k.symm.trans ‹b1=false∧b2=false›.1)) (fun k=>Bool.noConfusion (k.symm.trans ‹b1=false∧b2=false›.2)))))
  (all_goals try first|exact eZ|with_reducible (refine rQ ?_;repeat' first|apply And.intro|exact wZ)|(refine sQ ?_;repeat' first|with_reducible apply And.intro|exact cZ))
  all_goals(try rfl)
  all_goals(try exact fun _=>rfl)
 rw[if_neg c7];have c7a:r.isT ao4=false:=by
  cases q:r.isT ao4
  ·rfl
  ·exact absurd (.inl q) c7
 have c7b:r.isT ao9=false:=by
  cases q:r.isT ao9
  ·rfl
  ·exact absurd (.inr q) c7
 rw[c7a]at h12;rw[c7b]at h12b;clear c7 c7a c7b c5 c6;have h27:=apE r (by omega);have h28:=ao5 r hyT;obtain⟨m,hm⟩:∃m,m=r.neg:=⟨_,rfl⟩
 rw[<- hm];unfold Mr.neg at hm;obtain⟨u,hu⟩:∃u,u=if m=true then r.next else r:=⟨_,rfl⟩
 rw[<- hu];have hui:u.i<=1073741001:=by rw[hu];split<;>omega
 have huP:∀t∈u.l,PlTok t:=by
  rw[hu];split
  ·exact hP2
  ·exact hP
 have h31:=anS u;have h33:=anX u 13;have h35:=anU u (by omega);have hpu:=Mr.anY PlTok.default huP;unfold mnum;generalize u.fail 13=fu at*;generalize u.next=nu at*;generalize u.peek=x at*;generalize r.isT hyT=b at*;generalize r.behind=bh at*;generalize r.peek=p at*;by_cases hmt:m=true
 ·obtain rfl:m=true:=hmt;rw[if_pos rfl]at hu;clear hP2 hi2;generalize r.next=n at*;subst hu;have hbT:(b=true∧bh.kind=2)∧bh.joined=true:=by
   have g:=hm.symm;simp only[Bool.and_eq_true,decide_eq_true_eq]at g;exact⟨⟨g.1,g.2.1⟩,g.2.2⟩
  clear hm;by_cases c8:x.kind≠2
  ·rw[if_pos c8]
   (apply Af.of tF mF [.cell 2 56] kp32 [(1,[(1,zK p,zM r)]),(8,[(1,zO false,zM r)]),(10,[(1,zO false,zM r)]),(12,[(1,zO false,zM r),(4,zO false,zM r)]),(27,[(1,zK bh,zM r)]),(28,[(1,zO b,zM r)]),(29,[(1,zK p,zM u)]),(31,[(1,zK x,zM u)]),(33,[(1,zT,zM fu)])] Tryz.func32 (fun _=>?_);(repeat' with_reducible first|exact nY|refine oC ?_ ?_|refine vQ ?_ ?_ ?_|refine cV (fun _=>?_) fun _=>?_|refine wQ ?_|fail))
   all_goals(try simp only[ite_self])
   all_goals(try exact zB)
   all_goals(try(exact absurd ‹p.kind=3› c3))
   all_goals(try(exact absurd ‹p.kind=4› c4))
   all_goals(try(exact absurd ‹False∨False› (fun g=>g.elim id id)))
   all_goals(try(exact absurd ‹(b=false∨¬bh.kind=2)∨bh.joined=false› (fun g=>g.elim (fun k=>k.elim (fun z=>Bool.noConfusion (hbT.1.1.symm.trans z)) (fun z=>z hbT.1.2)) (fun z=>Bool.noConfusion (hbT.2.symm.trans z)))))
   all_goals(try(exact absurd ‹False∧True› (fun g=>g.1)))
   all_goals(try(exact absurd ‹x.kind=2› c8))
   (all_goals try first|exact eZ|with_reducible (refine rQ ?_;repeat' first|apply And.intro|exact wZ)|(refine sQ ?_;repeat' first|with_reducible apply And.intro|exact cZ))
   all_goals(try rfl)
   all_goals(try exact fun _=>rfl)
  rw[if_neg c8];have c8:x.kind=2:=Decidable.not_not.1 c8;have hx2:=(hpu.k2 c8).1;have hxs:=hpu.size;have hxn:=hpu.num;have hw1:IntKind.i64.wrap ((x.text.size:Int)-1)=((x.text.size-1:Nat):Int):=(w64 (by omega) (by omega)).trans (by omega);unfold apD;have hby:((x.text.data[x.text.size-1]?.getD 0).toNat:Int)=byt x.text (x.text.size-1):=rfl;generalize byt x.text (x.text.size-1)=lb at*;rw[show(if true=true then -x.num else x.num) = -x.num from rfl];have hw2:IntKind.i64.wrap (-1*x.num) = -x.num:=(w64 (by omega) (by omega)).trans (by omega);by_cases c9:0<x.scale∨lb=100
  ·rw[if_pos c9]
   (apply Af.of tF mF [.cell 2 56] kp32 [(1,[(1,zK p,zM r)]),(8,[(1,zO false,zM r)]),(10,[(1,zO false,zM r)]),(12,[(1,zO false,zM r),(4,zO false,zM r)]),(27,[(1,zK bh,zM r)]),(28,[(1,zO b,zM r)]),(29,[(1,zK p,zM u)]),(31,[(1,zK x,zM u)]),(35,[(1,zK x,zM nu)])] Tryz.func32 (fun _=>?_);(repeat' with_reducible first|exact nY|refine oC ?_ ?_|refine vQ ?_ ?_ ?_|refine cV (fun _=>?_) fun _=>?_|refine wQ ?_|fail))
   all_goals(try simp only[ite_self])
   all_goals(try exact zB)
   all_goals(try(exact absurd ‹p.kind=3› c3))
   all_goals(try(exact absurd ‹p.kind=4› c4))
   all_goals(try(exact absurd ‹False∨False› (fun g=>g.elim id id)))
   all_goals(try(exact absurd ‹(b=false∨¬bh.kind=2)∨bh.joined=false› (fun g=>g.elim (fun k=>k.elim (fun z=>Bool.noConfusion (hbT.1.1.symm.trans z)) (fun z=>z hbT.1.2)) (fun z=>Bool.noConfusion (hbT.2.symm.trans z)))))
   all_goals(try(exact absurd ‹False∧True› (fun g=>g.1)))
   all_goals(try(exact absurd c8 ‹¬x.kind=2›))
   all_goals(try(have g:=‹x.scale<=0∧¬((x.text.data[(IntKind.i64.wrap ((x.text.size:Int)-1)).toNat]?.getD 0).toNat:Int)=100›;rw[hw1,Int.toNat_natCast,hby]at g;exact absurd g (fun g=>c9.elim (fun k=>absurd k (Int.not_lt.2 g.1)) g.2)))
   all_goals(try simp only[hw1,hw2,Int.toNat_natCast,hby])
   (all_goals try first|exact eZ|with_reducible (refine rQ ?_;repeat' first|apply And.intro|exact wZ)|(refine sQ ?_;repeat' first|with_reducible apply And.intro|exact cZ))
   all_goals(try(exfalso;omega))
   all_goals(try exact fun _=>rfl)
   all_goals(try exact hw2)
   all_goals(try rfl)
  ·rw[if_neg c9]
   (apply Af.of tF mF [.cell 2 56] kp32 [(1,[(1,zK p,zM r)]),(8,[(1,zO false,zM r)]),(10,[(1,zO false,zM r)]),(12,[(1,zO false,zM r),(4,zO false,zM r)]),(27,[(1,zK bh,zM r)]),(28,[(1,zO b,zM r)]),(29,[(1,zK p,zM u)]),(31,[(1,zK x,zM u)]),(35,[(1,zK x,zM nu)])] Tryz.func32 (fun _=>?_);(repeat' with_reducible first|exact nY|refine oC ?_ ?_|refine vQ ?_ ?_ ?_|refine cV (fun _=>?_) fun _=>?_|refine wQ ?_|fail))
   all_goals(try simp only[ite_self])
   all_goals(try exact zB)
   all_goals(try(exact absurd ‹p.kind=3› c3))
   all_goals(try(exact absurd ‹p.kind=4› c4))
   all_goals(try(exact absurd ‹False∨False› (fun g=>g.elim id id)))
   all_goals(try(exact absurd ‹(b=false∨¬bh.kind=2)∨bh.joined=false› (fun g=>g.elim (fun k=>k.elim (fun z=>Bool.noConfusion (hbT.1.1.symm.trans z)) (fun z=>z hbT.1.2)) (fun z=>Bool.noConfusion (hbT.2.symm.trans z)))))
   all_goals(try(exact absurd ‹False∧True› (fun g=>g.1)))
   all_goals(try(exact absurd c8 ‹¬x.kind=2›))
   all_goals(try(have g:=‹0<x.scale∨((x.text.data[(IntKind.i64.wrap ((x.text.size:Int)-1)).toNat]?.getD 0).toNat:Int)=100›;rw[hw1,Int.toNat_natCast,hby]at g;exact absurd g c9))
   all_goals(try simp only[hw1,hw2,Int.toNat_natCast,hby])
   (all_goals try first|exact eZ|with_reducible (refine rQ ?_;repeat' first|apply And.intro|exact wZ)|(refine sQ ?_;repeat' first|with_reducible apply And.intro|exact cZ))
   all_goals(try(exfalso;omega))
   all_goals(try exact fun _=>rfl)
   all_goals(try exact hw2)
   all_goals(try rfl)
 ·obtain rfl:m=false:=by simpa using hmt
  rw[if_neg (by decide)]at hu;subst hu;have hm2:¬((b=true∧bh.kind=2)∧bh.joined=true):=by
   rintro⟨⟨g1,g2⟩,g3⟩;rw[g1,g3,g2]at hm;exact absurd hm (by decide)
  clear hm;by_cases c8:x.kind≠2
  ·rw[if_pos c8]
   (apply Af.of tF mF [.cell 2 56] kp32 [(1,[(1,zK p,zM u)]),(8,[(1,zO false,zM u)]),(10,[(1,zO false,zM u)]),(12,[(1,zO false,zM u),(4,zO false,zM u)]),(27,[(1,zK bh,zM u)]),(28,[(1,zO b,zM u)]),(31,[(1,zK x,zM u)]),(33,[(1,zT,zM fu)])] Tryz.func32 (fun _=>?_);(repeat' with_reducible first|exact nY|refine oC ?_ ?_|refine vQ ?_ ?_ ?_|refine cV (fun _=>?_) fun _=>?_|refine wQ ?_|fail))
   all_goals(try simp only[ite_self])
   all_goals(try exact zB)
   all_goals(try(exact absurd ‹p.kind=3› c3))
   all_goals(try(exact absurd ‹p.kind=4› c4))
   all_goals(try(exact absurd ‹False∨False› (fun g=>g.elim id id)))
   all_goals(try(exact absurd ‹(b=true∧bh.kind=2)∧bh.joined=true› hm2))
   all_goals(try(exact absurd ‹False∧True› (fun g=>g.1)))
   all_goals(try(exact absurd ‹x.kind=2› c8))
   (all_goals try first|exact eZ|with_reducible (refine rQ ?_;repeat' first|apply And.intro|exact wZ)|(refine sQ ?_;repeat' first|with_reducible apply And.intro|exact cZ))
   all_goals(try rfl)
   all_goals(try exact fun _=>rfl)
  rw[if_neg c8];have c8:x.kind=2:=Decidable.not_not.1 c8;have hx2:=(hpu.k2 c8).1;have hxs:=hpu.size;have hxn:=hpu.num;have hw1:IntKind.i64.wrap ((x.text.size:Int)-1)=((x.text.size-1:Nat):Int):=(w64 (by omega) (by omega)).trans (by omega);unfold apD;have hby:((x.text.data[x.text.size-1]?.getD 0).toNat:Int)=byt x.text (x.text.size-1):=rfl;generalize byt x.text (x.text.size-1)=lb at*;rw[show(if false=true then -x.num else x.num)=x.num from rfl];have hw2:IntKind.i64.wrap (1*x.num)=x.num:=(w64 (by omega) (by omega)).trans (by omega);by_cases c9:0<x.scale∨lb=100
  ·rw[if_pos c9]
   (apply Af.of tF mF [.cell 2 56] kp32 [(1,[(1,zK p,zM u)]),(8,[(1,zO false,zM u)]),(10,[(1,zO false,zM u)]),(12,[(1,zO false,zM u),(4,zO false,zM u)]),(27,[(1,zK bh,zM u)]),(28,[(1,zO b,zM u)]),(31,[(1,zK x,zM u)]),(35,[(1,zK x,zM nu)])] Tryz.func32 (fun _=>?_);(repeat' with_reducible first|exact nY|refine oC ?_ ?_|refine vQ ?_ ?_ ?_|refine cV (fun _=>?_) fun _=>?_|refine wQ ?_|fail))
   all_goals(try simp only[ite_self])
   all_goals(try exact zB)
   all_goals(try(exact absurd ‹p.kind=3› c3))
   all_goals(try(exact absurd ‹p.kind=4› c4))
   all_goals(try(exact absurd ‹False∨False› (fun g=>g.elim id id)))
   all_goals(try(exact absurd ‹(b=true∧bh.kind=2)∧bh.joined=true› hm2))
   all_goals(try(exact absurd ‹False∧True› (fun g=>g.1)))
   all_goals(try(exact absurd c8 ‹¬x.kind=2›))
   all_goals(try(have g:=‹x.scale<=0∧¬((x.text.data[(IntKind.i64.wrap ((x.text.size:Int)-1)).toNat]?.getD 0).toNat:Int)=100›;rw[hw1,Int.toNat_natCast,hby]at g;exact absurd g (fun g=>c9.elim (fun k=>absurd k (Int.not_lt.2 g.1)) g.2)))
   all_goals(try simp only[hw1,hw2,Int.toNat_natCast,hby])
   (all_goals try first|exact eZ|with_reducible (refine rQ ?_;repeat' first|apply And.intro|exact wZ)|(refine sQ ?_;repeat' first|with_reducible apply And.intro|exact cZ))
   all_goals(try(exfalso;omega))
   all_goals(try exact fun _=>rfl)
   all_goals(try exact hw2)
   all_goals(try rfl)
  ·rw[if_neg c9]
   (apply Af.of tF mF [.cell 2 56] kp32 [(1,[(1,zK p,zM u)]),(8,[(1,zO false,zM u)]),(10,[(1,zO false,zM u)]),(12,[(1,zO false,zM u),(4,zO false,zM u)]),(27,[(1,zK bh,zM u)]),(28,[(1,zO b,zM u)]),(31,[(1,zK x,zM u)]),(35,[(1,zK x,zM nu)])] Tryz.func32 (fun _=>?_);(repeat' with_reducible first|exact nY|refine oC ?_ ?_|refine vQ ?_ ?_ ?_|refine cV (fun _=>?_) fun _=>?_|refine wQ ?_|fail))
   all_goals(try simp only[ite_self])
   all_goals(try exact zB)
   all_goals(try(exact absurd ‹p.kind=3› c3))
   all_goals(try(exact absurd ‹p.kind=4› c4))
   all_goals(try(exact absurd ‹False∨False› (fun g=>g.elim id id)))
   all_goals(try(exact absurd ‹(b=true∧bh.kind=2)∧bh.joined=true› hm2))
   all_goals(try(exact absurd ‹False∧True› (fun g=>g.1)))
   all_goals(try(exact absurd c8 ‹¬x.kind=2›))
   all_goals(try(have g:=‹0<x.scale∨((x.text.data[(IntKind.i64.wrap ((x.text.size:Int)-1)).toNat]?.getD 0).toNat:Int)=100›;rw[hw1,Int.toNat_natCast,hby]at g;exact absurd g c9))
   all_goals(try simp only[hw1,hw2,Int.toNat_natCast,hby])
   (all_goals try first|exact eZ|with_reducible (refine rQ ?_;repeat' first|apply And.intro|exact wZ)|(refine sQ ?_;repeat' first|with_reducible apply And.intro|exact cZ))
   all_goals(try(exfalso;omega))
   all_goals(try exact fun _=>rfl)
   all_goals(try exact hw2)
   all_goals(try rfl)
end Go.Ai
