/- Chapter 4: the fields of records. -/
import Derived.Test.YtbagpkiomjlhkaaGreatDoorFnA
import Derived.Test.YtbagpkiomjlhkaaGreatDoorEngC
import Derived.Test.YtbagpkiomjlhkaaGreatDoorV
set_option linter.all false
namespace Go.Ai
open Go Go.Proofs Tryz
set_option maxRecDepth 100000
set_option maxHeartbeats 4000000
def AU(a b:ByteArray):Bool:=Op.bytesLess a.toList b.toList
def fX(l:List (ByteArray×V)):Nat->Int
 | 0=>0
 | i+1=>if fX l i≠0 then fX l i else if isName (l.getD i default).1=false then 12 else if 0<i∧(l.getD i default).1=(l.getD (i-1) default).1 then 7 else if 0<i∧AU (l.getD i default).1 (l.getD (i-1) default).1=true then 24 else 0
theorem Mu{l:List (ByteArray×V)}{i:Nat}(h:fX l i≠0):∀{n:Nat},i<=n->fX l n=fX l i
 | 0,hn=>by rw[Nat.le_zero.1 hn]
 | n+1,hn=>by
  rcases Nat.lt_or_eq_of_le hn with hn|rfl
  ·have:=Mu h (Nat.le_of_lt_succ hn);simp only[fX,this];rw[ae h]
  ·rfl
def sw(l:List (ByteArray×V)):Int:=if 64<l.length then 9 else fX l l.length
def tZ(d:Nat)(fr:FB)(l:Unit->List (ByteArray×V)):AV:=.slc fr 7 (fun _=>(l ()).length) (fun i=>.str (fun _=>((l ()).getD (i ()) default).1)::cells d fr fun _=>((l ()).getD (i ()) default).2)
def Fn{l:List (ByteArray×V)}{i:Nat}{e:Int}(h64:l.length<=64)(hi:i<l.length)(he:fX l (i+1)=e)(h:e≠0):e=sw l:=by
 have:=Mu (l:=l) (i:=i+1) (by rw[he];exact h) (n:=l.length) hi;simp only[sw,aa (lU.2 h64),this,he]
def Yv{l:List (ByteArray×V)}{i:Nat}(h0:fX l i=0)(hn:isName (l.getD i default).1=false):fX l (i+1)=12:=by
 simp only[fX,h0];rw[aa zsi,ae hn]
def Yw{l:List (ByteArray×V)}{i:Nat}(h0:fX l i=0)(hn:isName (l.getD i default).1=true)(h:0<i∧(l.getD i default).1=(l.getD (i-1) default).1):fX l (i+1)=7:=by
 simp only[fX,h0];rw[aa zsi,aa (by rw[hn];simp),ae h]
def Yx{l:List (ByteArray×V)}{i:Nat}(h0:fX l i=0)(hn:isName (l.getD i default).1=true)(h:¬(0<i∧(l.getD i default).1=(l.getD (i-1) default).1))(h2:0<i∧AU (l.getD i default).1 (l.getD (i-1) default).1=true):fX l (i+1)=24:=by
 simp only[fX,h0];rw[aa zsi,aa (by rw[hn];simp),aa h,ae h2]
def Yy{l:List (ByteArray×V)}{i:Nat}(h0:fX l i=0)(hn:isName (l.getD i default).1=true)(h:¬(0<i∧(l.getD i default).1=(l.getD (i-1) default).1))(h2:¬(0<i∧AU (l.getD i default).1 (l.getD (i-1) default).1=true)):fX l (i+1)=0:=by
 simp only[fX,h0];rw[aa zsi,aa (by rw[hn];simp),aa h,aa h2]
def wv{α:Type}{l:List α}{i:Nat}{d:α}(h:i<l.length):l.getD i d∈l:=by
 have:l.getD i d=l[i]:=by simp[List.getD,h]
 rw[this];exact d9 h
def Yz{i:Nat}(h:0<i)(h2:i<9223372036854775807):(IntKind.i64.wrap ((i:Int)-1)).toNat=i-1:=by rw[ax]<;>omega
def YA(d:Nat)(v:V)(hl:∀x∈v.fields,x.1.size<=35184372088832):Af prog 212 [aK (d+1) .any fun _=>v] [] (.int .i64 fun _=>sw v.fields) []:=by
 (apply Af.of tF mF [.tmp 2] Mq [(1,[(3,.int .i64 (fun _=>?r1),[])])] func212 (fun _=>?_);(repeat' with_reducible first|exact nY|refine oC ?_ ?_|refine vQ ?_ ?_ ?_|refine cV (fun _=>?_) fun _=>?_|refine wQ ?_|fail))
 (any_goals((with_reducible refine bZ ?_)<;>exact(wF _ _ _)))
 (all_goals try first|exact eZ|with_reducible (refine rQ ?_;repeat' first|apply ai|exact wZ)|(refine sQ ?_;repeat' first|with_reducible apply ai|exact cZ))
 ·rename_i h;have:64<v.fields.length:=mS fun q=>h (by simp only[fQ];rw[aa zo]);simp only[sw,fQ];rw[ae zo,ae this]
 rename_i h;have h64:v.fields.length<=64:=Bd fun q=>by simp only[fQ]at h;rw[ae zo]at h;omega
 clear h;refine .loop (fun i:Nat=>⟨57,[(16,.int .i64 fun _=>i),(15,.int .i64 fun _=>v.fields.length),(14,tZ d .any fun _=>v.fields),(1,.ptr 1 0)],[(1,.box (cells (d+1) .any fun _=>v))]⟩)
  (fun i=>i<=v.fields.length∧fX v.fields i=0) (fun i=>v.fields.length-i) 0 (by simp[fX]) ?_ fun i E hi=>?_
 ·exact aZ
 have hw:=Yz (i:=i);have hs:i<v.fields.length->(v.fields.getD i default).1.size<=35184372088832:=fun h=>hl _ (wv h);apply af.wk tF mF [(7,[(2,.bool (fun _=>?r2),[])])] Mq ?_
 (repeat' with_reducible first|exact nY|refine oC ?_ ?_|refine vQ ?_ ?_ ?_|refine cV (fun _=>?_) fun _=>?_|refine wQ ?_|fail)
 (any_goals((with_reducible refine bZ ?_)<;>exact(Du (v.fields.getD i default).1 (hs ‹_›))))
 (all_goals try first|exact eZ|with_reducible (refine rQ ?_;repeat' first|apply ai|exact wZ)|(refine sQ ?_;repeat' first|with_reducible apply ai|exact cZ))
 ·exact Fn zo ‹_› (Yv hi.2 ‹_›) zo
 ·rename_i hn hc;rw[hw zo zo]at hc;exact Fn zo ‹_› (Yw hi.2 hn ⟨zo,hc.2⟩) zo
 ·rename_i hn hc hc2;rw[hw zo zo]at hc hc2;exact Fn zo ‹_› (Yx hi.2 hn (fun q=>hc.elim (fun h=>zo) fun h=>h q.2) ⟨zo,hc2.2⟩) zo
 ·rename_i hn hc hc2;refine dE (i+1) ⟨⟨zo,Yy hi.2 hn (fun q=>?_) fun q=>?_⟩,zo⟩ ?_
  ·rw[hw q.1 zo]at hc;exact hc.elim (fun h=>zo) fun h=>h q.2
  ·rw[hw q.1 zo]at hc2;refine hc2.elim (fun h=>zo) fun h=>?_;have:=q.2;unfold AU at this;rw[h]at this;cases this
  ·(focus(refine aQ ?_;repeat' first|with_reducible apply ai|exact wZ|fail))
   exact aS zo
 ·have:i=v.fields.length:=by omega
  subst this;simp only[sw];rw[aa zo,hi.2]
def eA(vs:ByteArray->Bool)(v:V):Int:=
 if v.kind=1 then between v.int 0 1 else
 if v.kind=2 then between v.int (-999999999999999) 999999999999999 else
 if v.kind=3 then(if between v.int (-999999999999999) 999999999999999≠0 then between v.int (-999999999999999) 999999999999999 else between v.scale 0 12)else
 if v.kind=4 then(if fQ v.text.size 1024 5=0∧vs v.text=false then 16 else fQ v.text.size 1024 5)else
 if v.kind=5 then fQ v.text.size 1024 5 else
 if v.kind=6 then between v.int (-719162) 2932896 else
 if v.kind=7 then between v.int (-62135596800000) 253402300799999 else
 if v.kind=8 then fQ v.list.length 256 9 else
 if v.kind=9 then sw v.fields else zE v
def iz(vs:ByteArray->Bool)(v:V):Int:=
 if isNull v=true then 19 else if v.kind<1∨10<v.kind then 11 else if ou v=false then 3 else eA vs v
def Mv{vs:ByteArray->Bool}{v:V}(h:isNull v=true):iz vs v=19:=by simp only[iz];rw[ae h]
def YB{vs:ByteArray->Bool}{v:V}(h:isNull v=false)(h2:v.kind<1∨10<v.kind):iz vs v=11:=by simp only[iz];rw[aa (by rw[h];simp),ae h2]
def YC{vs:ByteArray->Bool}{v:V}(h:isNull v=false)(h2:¬(v.kind<1∨10<v.kind))(h3:ou v=false):iz vs v=3:=by simp only[iz];rw[aa (by rw[h];simp),aa h2,ae h3]
def Mw{vs:ByteArray->Bool}{v:V}(h:isNull v=false)(h2:¬(v.kind<1∨10<v.kind))(h3:ou v=true):iz vs v=eA vs v:=by simp only[iz];rw[aa (by rw[h];simp),aa h2,aa (by rw[h3];simp)]
def JZ{vs:ByteArray->Bool}{v:V}(h:v.kind=1):eA vs v=between v.int 0 1:=by unfold eA;simp[h]
def J0{vs:ByteArray->Bool}{v:V}(h:v.kind=2):eA vs v=between v.int (-999999999999999) 999999999999999:=by unfold eA;simp[h]
def J2{vs:ByteArray->Bool}{v:V}(h:v.kind=3):eA vs v=(if between v.int (-999999999999999) 999999999999999≠0 then between v.int (-999999999999999) 999999999999999 else between v.scale 0 12):=by unfold eA;simp[h]
def YD{vs:ByteArray->Bool}{v:V}(h:v.kind=4):eA vs v=(if fQ v.text.size 1024 5=0∧vs v.text=false then 16 else fQ v.text.size 1024 5):=by unfold eA;simp[h]
def YE{vs:ByteArray->Bool}{v:V}(h:v.kind=5):eA vs v=fQ v.text.size 1024 5:=by unfold eA;simp[h]
def YF{vs:ByteArray->Bool}{v:V}(h:v.kind=6):eA vs v=between v.int (-719162) 2932896:=by unfold eA;simp[h]
def YG{vs:ByteArray->Bool}{v:V}(h:v.kind=7):eA vs v=between v.int (-62135596800000) 253402300799999:=by unfold eA;simp[h]
def YH{vs:ByteArray->Bool}{v:V}(h:v.kind=8):eA vs v=fQ v.list.length 256 9:=by unfold eA;simp[h]
def YI{vs:ByteArray->Bool}{v:V}(h:v.kind=9):eA vs v=sw v.fields:=by unfold eA;simp[h]
def YJ{vs:ByteArray->Bool}{v:V}(h:v.kind=10):eA vs v=zE v:=by unfold eA;simp[h]
end Go.Ai

namespace Go.Ai
open Go Go.Proofs Tryz
def pre:Nat->Int->V->List (List AV)
 | 0,_,_=>[]
 | d+1,l,v=>[.int .i64 (fun _=>l),aK (d+1) .any fun _=>v]::((kz v).map (pre d (l+1))).flatten
def My{d:Nat}{v:V}(h:V.le (d+1) v){x:V}(hx:x∈kz v):V.le d x:=by
 unfold kz at hx;split at hx
 ·exact h.2.2.2.1 x hx
 ·split at hx
  ·obtain⟨y,hy,rfl⟩:=gG.1 hx;exact(h.2.2.2.2 y hy).2
  ·simp at hx
def YK{d:Nat}{v:V}(h:V.le (d+1) v):(kz v).length<=1073741824:=by
 unfold kz;split
 ·exact h.1
 ·split
  ·simpa using h.2.1
  ·simp
def YL{α β:Type}(f:α->List β)(l:List α)(i:Nat)(hi:i<l.length)(df:α):((l.take (i+1)).map f).flatten=((l.take i).map f).flatten++f (l.getD i df):=by
 have:l.getD i df=l[i]:=by simp[List.getD,hi]
 rw[this,FH hi];simp only[Bh,List.flatten_append,fZ,List.map_nil,List.flatten_cons,List.flatten_nil,uS]
def Mz{α β:Type}(f:α->List β)(l:List α)(i:Nat):((l.take i).map f).flatten <+: (l.map f).flatten:=by
 conv=>rhs;rw[<- FL i l]
 rw[Bh,List.flatten_append];exact List.prefix_append _ _
set_option maxRecDepth 100000 in
def YM:∀(d:Nat) (v:V) (l:Int),V.le d v->0<=l->l+d<=4611686018427387904->pR prog 215 (fun y=>[aK d .any fun _=>v,.int .i64 fun _=>l,.val (.func (.yield y) #[] #[])]) isBool (pre d l v):=by
 intro d
 induction d with
 | zero=>exact fun v l hv _ _=>hv.elim
 | succ d ih=>
  intro v l hv h0 hl;refine P5 (t:=6) func215 (by rfl) rfl (by rfl) (fun p g E hp hJ hall=>?_)
  (repeat(first|(refine zkQ ?_)|(first|focus(refine af.jm tF mF 7 [] [] (fun ob K' ap hK=>?_);(cbv;refine jo ap hK ?_ ?_ ?_;all_goals first|exact ziZ|(with_reducible rw[kC];simp only[kC,kN,ay,nc])|(try dsimp only[nc]));all_goals clear ap hK K' ob)|(with_reducible refine af.seq ?_)|focus(refine af.region tF mF [] (fun ob K' ap hK=>?_);(cbv;refine jp ap hK ?_ ?_ ?_;all_goals first|exact ziZ|(with_reducible rw[kC];simp only[kC,kN,ay,nc])|(try dsimp only[nc]));all_goals clear ap hK K' ob))))
  refine af.C4 ?_
  (focus(refine dc.op tF [] (fun ob K' ap hK=>?_);(cbv;refine kQ ap hK ?_ ?_ ?_;all_goals first|exact ziZ|(with_reducible rw[kC];simp only[kC,kN,ay,nc])|(try dsimp only[nc]));all_goals clear ap hK K' ob))
  (focus(refine dc.op tF [] (fun ob K' ap hK=>?_);(cbv;refine kQ ap hK ?_ ?_ ?_;all_goals first|exact ziZ|(with_reducible rw[kC];simp only[kC,kN,ay,nc])|(try dsimp only[nc]));all_goals clear ap hK K' ob))
  (focus(refine dc.op tF [] (fun ob K' ap hK=>?_);(cbv;refine kQ ap hK ?_ ?_ ?_;all_goals first|exact ziZ|(with_reducible rw[kC];simp only[kC,kN,ay,nc])|(try dsimp only[nc]));all_goals clear ap hK K' ob))
  have hpre:pre (d+1) l v=[.int .i64 (fun _=>l),aK (d+1) .any fun _=>v]::((kz v).map (pre d (l+1))).flatten:=rfl;have YN:g++[[.int .i64 (fun _=>l),aK (d+1) .any fun _=>v]] <+: p.all:=by
   refine List.IsPrefix.trans ?_ hall;rw[hpre];exact(Bj g).2 ⟨_,rfl⟩
  refine dc.yield (wb:=[.int .i64 (fun _=>l),aK (d+1) .any fun _=>v]) hp hJ rfl rfl rfl (aD.of_eq rfl) (by cbv) YN (fun E1 hE1 xd=>?_) (fun E1 hE1 xd=>?_)
  ·(focus (refine dc.op tF [] (fun ob K' ap hK=>?_);(cbv;refine kQ ap hK ?_ ?_ ?_;all_goals first|exact ziZ|(with_reducible rw[kC];simp only[kC,kN,ay,nc])|(try dsimp only[nc]));all_goals clear ap hK K' ob))
   refine dc.done ?_
   (repeat(first|(refine zkQ ?_)|(first|focus(refine af.jm tF mF 7 [] [] (fun ob K' ap hK=>?_);(cbv;refine jo ap hK ?_ ?_ ?_;all_goals first|exact ziZ|(with_reducible rw[kC];simp only[kC,kN,ay,nc])|(try dsimp only[nc]));all_goals clear ap hK K' ob)|(with_reducible refine af.seq ?_)|focus(refine af.region tF mF [] (fun ob K' ap hK=>?_);(cbv;refine jp ap hK ?_ ?_ ?_;all_goals first|exact ziZ|(with_reducible rw[kC];simp only[kC,kN,ay,nc])|(try dsimp only[nc]));all_goals clear ap hK K' ob))))
   (focus(refine af.cond rfl (fun h=>?_) (fun h=>?_);all_goals(try simp only[nc,mY]at h)))
   ·simp at h
   have hp1:=hp.ext hE1;clear h
   (repeat(first|(refine zkQ ?_)|(first|focus(refine af.jm tF mF 7 [] [] (fun ob K' ap hK=>?_);(cbv;refine jo ap hK ?_ ?_ ?_;all_goals first|exact ziZ|(with_reducible rw[kC];simp only[kC,kN,ay,nc])|(try dsimp only[nc]));all_goals clear ap hK K' ob)|(with_reducible refine af.seq ?_)|focus(refine af.region tF mF [] (fun ob K' ap hK=>?_);(cbv;refine jp ap hK ?_ ?_ ?_;all_goals first|exact ziZ|(with_reducible rw[kC];simp only[kC,kN,ay,nc])|(try dsimp only[nc]));all_goals clear ap hK K' ob))))
   (first|focus(refine af.jm tF mF 7 [15,16,17] [(1,gH d .any (fun _=>kz v),[])] (fun ob K' ap hK=>?_);(cbv;refine jo ap hK ?_ ?_ ?_;all_goals first|exact ziZ|(with_reducible rw[kC];simp only[kC,kN,ay,nc])|(try dsimp only[nc]));all_goals clear ap hK K' ob)|focus(refine af.region tF mF [(1,gH d .any (fun _=>kz v),[])] (fun ob K' ap hK=>?_);(cbv;refine jp ap hK ?_ ?_ ?_;all_goals first|exact ziZ|(with_reducible rw[kC];simp only[kC,kN,ay,nc])|(try dsimp only[nc]));all_goals clear ap hK K' ob))
   ·(repeat (first|(refine zkQ ?_)|(first|focus(refine af.jm tF mF 9 [15,16,17] [] (fun ob K' ap hK=>?_);(cbv;refine jo ap hK ?_ ?_ ?_;all_goals first|exact ziZ|(with_reducible rw[kC];simp only[kC,kN,ay,nc])|(try dsimp only[nc]));all_goals clear ap hK K' ob)|(with_reducible refine af.seq ?_)|focus(refine af.region tF mF [] (fun ob K' ap hK=>?_);(cbv;refine jp ap hK ?_ ?_ ?_;all_goals first|exact ziZ|(with_reducible rw[kC];simp only[kC,kN,ay,nc])|(try dsimp only[nc]));all_goals clear ap hK K' ob))))
    refine af.HL (fun i:Nat=>mkS 28 [(1,.int .i64 fun _=>l),(2,.val (.func (.yield p.l) #[] #[])),(6,.bool fun _=>false),(15,gH d .any fun _=>kz v),(16,.int .i64 fun _=>(kz v).length),(17,.int .i64 fun _=>i)] [])
     (fun i E'=>i<=(kz v).length∧p.J (g++[[.int .i64 (fun _=>l),aK (d+1) .any fun _=>v]]++(((kz v).take i).map (pre d (l+1))).flatten) E'.w0) (fun i=>(kz v).length-i) ⟨0,⟨zsi,by simpa using xd⟩,vY ?_⟩ (fun i E2 hE2 hi=>?_)
    ·(focus(cbv;(try simp only[aN,aC,ay,nc]);(try(repeat'(with_reducible apply ai)));(all_goals(try first|rfl|exact fun _ _=>aD.of_eq rfl|exact aD.of_eq rfl|trivial|omega))))
    have hp2:=hp1.ext hE2
    (repeat(first|(refine zkQ ?_)|(first|focus(refine af.jm tF mF 9 [15,16,17] [] (fun ob K' ap hK=>?_);(cbv;refine jo ap hK ?_ ?_ ?_;all_goals first|exact ziZ|(with_reducible rw[kC];simp only[kC,kN,ay,nc])|(try dsimp only[nc]));all_goals clear ap hK K' ob)|(with_reducible refine af.seq ?_)|focus(refine af.region tF mF [] (fun ob K' ap hK=>?_);(cbv;refine jp ap hK ?_ ?_ ?_;all_goals first|exact ziZ|(with_reducible rw[kC];simp only[kC,kN,ay,nc])|(try dsimp only[nc]));all_goals clear ap hK K' ob))))
    (focus(refine af.cond rfl (fun h3=>?_) (fun h3=>?_);all_goals(try simp only[nc,mY]at h3)))
    ·simp at h3;have hx:V.le d ((kz v).getD i default):=by
      have:(kz v).getD i default=(kz v)[i]:=by simp[List.getD,h3]
      rw[this];exact My hv (d9 h3)
     obtain⟨d,rfl⟩:=V.lP hx
     (repeat(first|(refine zkQ ?_)|(first|focus(refine af.jm tF mF 9 [15,16,17] [] (fun ob K' ap hK=>?_);(cbv;refine jo ap hK ?_ ?_ ?_;all_goals first|exact ziZ|(with_reducible rw[kC];simp only[kC,kN,ay,nc])|(try dsimp only[nc]));all_goals clear ap hK K' ob)|(with_reducible refine af.seq ?_)|focus(refine af.region tF mF [] (fun ob K' ap hK=>?_);(cbv;refine jp ap hK ?_ ?_ ?_;all_goals first|exact ziZ|(with_reducible rw[kC];simp only[kC,kN,ay,nc])|(try dsimp only[nc]));all_goals clear ap hK K' ob))))
     ·refine af.C4 ?_
      (focus(refine dc.op tF [] (fun ob K' ap hK=>?_);(cbv;refine kQ ap hK ?_ ?_ ?_;all_goals first|exact ziZ|(with_reducible rw[kC];simp only[kC,kN,ay,nc])|(try dsimp only[nc]));all_goals clear ap hK K' ob))
      (focus(refine dc.op tF [] (fun ob K' ap hK=>?_);(cbv;refine kQ ap hK ?_ ?_ ?_;all_goals first|exact ziZ|(with_reducible rw[kC];simp only[kC,kN,ay,nc])|(try dsimp only[nc]));all_goals clear ap hK K' ob))
      (focus(refine dc.op tF [] (fun ob K' ap hK=>?_);(cbv;refine kQ ap hK ?_ ?_ ?_;all_goals first|exact ziZ|(with_reducible rw[kC];simp only[kC,kN,ay,nc])|(try dsimp only[nc]));all_goals clear ap hK K' ob))
      (focus(refine dc.op tF [] (fun ob K' ap hK=>?_);(cbv;refine kQ ap hK ?_ ?_ ?_;all_goals first|exact ziZ|(with_reducible rw[kC];simp only[kC,kN,ay,nc])|(try dsimp only[nc]));all_goals clear ap hK K' ob))
      have hl2:l+(d:Int)+2<=4611686018427387904:=by simpa[Int.add_assoc]using hl
      have hl3:l+1+((d+1:Nat):Int)<=4611686018427387904:=by simp only[Int.natCast_add,Int.natCast_one];omega
      have hw:IntKind.i64.wrap (l+1)=l+1:=ax zo zo;have hft:=YL (pre (d+1) (l+1)) (kz v) i h3 default;have DA:(g++[[.int .i64 (fun _=>l),aK (d+1+1) .any fun _=>v]]++(((kz v).take i).map (pre (d+1) (l+1))).flatten)++pre (d+1) (l+1) ((kz v).getD i default) <+: p.all:=by
       refine List.IsPrefix.trans ?_ hall;rw[hpre,gF,gF,<- hft];exact(Bj g).2 ((Bj [_]).2 (Mz _ _ _))
      refine dc.into (args':=[aK (d+1) .any fun _=>(kz v).getD i default,.int .i64 (fun _=>IntKind.i64.wrap (l+1)),.val (.func (.yield p.l) #[] #[])]) hp2 hi.2 rfl rfl rfl (ih _ (l+1) hx zo hl3) DA (aD.of_eq (by rw[hw])) (by cbv) (fun E3 jq hJ3=>?_) (fun E3 jq hJ3=>?_)
      ·(focus(refine dc.op tF [] (fun ob K' ap hK=>?_);(cbv;refine kQ ap hK ?_ ?_ ?_;all_goals first|exact ziZ|(with_reducible rw[kC];simp only[kC,kN,ay,nc])|(try dsimp only[nc]));all_goals clear ap hK K' ob))
       refine dc.done ?_
       (repeat(first|(refine zkQ ?_)|(first|focus(refine af.jm tF mF 9 [15,16,17] [] (fun ob K' ap hK=>?_);(cbv;refine jo ap hK ?_ ?_ ?_;all_goals first|exact ziZ|(with_reducible rw[kC];simp only[kC,kN,ay,nc])|(try dsimp only[nc]));all_goals clear ap hK K' ob)|(with_reducible refine af.seq ?_)|focus(refine af.region tF mF [] (fun ob K' ap hK=>?_);(cbv;refine jp ap hK ?_ ?_ ?_;all_goals first|exact ziZ|(with_reducible rw[kC];simp only[kC,kN,ay,nc])|(try dsimp only[nc]));all_goals clear ap hK K' ob))))
       (focus(refine af.cond rfl (fun h4=>?_) (fun h4=>?_);all_goals(try simp only[nc,mY]at h4)))
       ·simp at h4
       (repeat(first|(refine zkQ ?_)|(first|focus(refine af.jm tF mF 9 [15,16,17] [] (fun ob K' ap hK=>?_);(cbv;refine jo ap hK ?_ ?_ ?_;all_goals first|exact ziZ|(with_reducible rw[kC];simp only[kC,kN,ay,nc])|(try dsimp only[nc]));all_goals clear ap hK K' ob)|(with_reducible refine af.seq ?_)|focus(refine af.region tF mF [] (fun ob K' ap hK=>?_);(cbv;refine jp ap hK ?_ ?_ ?_;all_goals first|exact ziZ|(with_reducible rw[kC];simp only[kC,kN,ay,nc])|(try dsimp only[nc]));all_goals clear ap hK K' ob))))
       refine⟨i+1,⟨⟨zo,?_⟩,zo⟩,vY ?_⟩
       ·rw[hft,<- gF];exact hJ3
       (focus(cbv;(try simp only[aN,aC,ay,nc]);(try(repeat'(with_reducible apply ai)));(all_goals(try first|rfl|exact fun _ _=>aD.of_eq rfl|exact aD.of_eq rfl|trivial|omega))))
       exact aS (by have:=YK hv;omega)
      ·(focus(refine dc.op tF [] (fun ob K' ap hK=>?_);(cbv;refine kQ ap hK ?_ ?_ ?_;all_goals first|exact ziZ|(with_reducible rw[kC];simp only[kC,kN,ay,nc])|(try dsimp only[nc]));all_goals clear ap hK K' ob))
       refine dc.done ?_
       (repeat(first|(refine zkQ ?_)|(first|focus(refine af.jm tF mF 9 [15,16,17] [] (fun ob K' ap hK=>?_);(cbv;refine jo ap hK ?_ ?_ ?_;all_goals first|exact ziZ|(with_reducible rw[kC];simp only[kC,kN,ay,nc])|(try dsimp only[nc]));all_goals clear ap hK K' ob)|(with_reducible refine af.seq ?_)|focus(refine af.region tF mF [] (fun ob K' ap hK=>?_);(cbv;refine jp ap hK ?_ ?_ ?_;all_goals first|exact ziZ|(with_reducible rw[kC];simp only[kC,kN,ay,nc])|(try dsimp only[nc]));all_goals clear ap hK K' ob))))
       (focus(refine af.cond rfl (fun h4=>?_) (fun h4=>?_);all_goals(try simp only[nc,mY]at h4)))
       ·(repeat(first|(refine zkQ ?_)|(first|focus(refine af.jm tF mF 9 [15,16,17] [] (fun ob K' ap hK=>?_);(cbv;refine jo ap hK ?_ ?_ ?_;all_goals first|exact ziZ|(with_reducible rw[kC];simp only[kC,kN,ay,nc])|(try dsimp only[nc]));all_goals clear ap hK K' ob)|(with_reducible refine af.seq ?_)|focus(refine af.region tF mF [] (fun ob K' ap hK=>?_);(cbv;refine jp ap hK ?_ ?_ ?_;all_goals first|exact ziZ|(with_reducible rw[kC];simp only[kC,kN,ay,nc])|(try dsimp only[nc]));all_goals clear ap hK K' ob))))
        refine C6 rfl (.inr ⟨rfl,?_⟩);obtain⟨q,hq,hqj⟩:=hJ3;refine⟨[[.int .i64 (fun _=>l),aK (d+1+1) .any fun _=>v]]++(((kz v).take i).map (pre (d+1) (l+1))).flatten++q,?_,by simpa[gF]using hqj⟩;rw[hpre,gF];refine(Bj [_]).2 (List.IsPrefix.trans ?_ (Mz _ _ (i+1)));rw[hft];exact(Bj _).2 hq
       ·simp at h4
    ·simp at h3
     (repeat(first|(refine zkQ ?_)|(first|focus(refine af.jm tF mF 9 [15,16,17] [] (fun ob K' ap hK=>?_);(cbv;refine jo ap hK ?_ ?_ ?_;all_goals first|exact ziZ|(with_reducible rw[kC];simp only[kC,kN,ay,nc])|(try dsimp only[nc]));all_goals clear ap hK K' ob)|(with_reducible refine af.seq ?_)|focus(refine af.region tF mF [] (fun ob K' ap hK=>?_);(cbv;refine jp ap hK ?_ ?_ ?_;all_goals first|exact ziZ|(with_reducible rw[kC];simp only[kC,kN,ay,nc])|(try dsimp only[nc]));all_goals clear ap hK K' ob))))
     refine C6 rfl (.inl ⟨rfl,?_⟩);have:i=(kz v).length:=zo
     subst this;have:=hi.2;rw[List.take_length]at this;rw[hpre];simpa[gF]using this
   ·exact H0 (Rr d v hv)
  ·(focus(refine dc.op tF [] (fun ob K' ap hK=>?_);(cbv;refine kQ ap hK ?_ ?_ ?_;all_goals first|exact ziZ|(with_reducible rw[kC];simp only[kC,kN,ay,nc])|(try dsimp only[nc]));all_goals clear ap hK K' ob))
   refine dc.done ?_
   (repeat(first|(refine zkQ ?_)|(first|focus(refine af.jm tF mF 7 [] [] (fun ob K' ap hK=>?_);(cbv;refine jo ap hK ?_ ?_ ?_;all_goals first|exact ziZ|(with_reducible rw[kC];simp only[kC,kN,ay,nc])|(try dsimp only[nc]));all_goals clear ap hK K' ob)|(with_reducible refine af.seq ?_)|focus(refine af.region tF mF [] (fun ob K' ap hK=>?_);(cbv;refine jp ap hK ?_ ?_ ?_;all_goals first|exact ziZ|(with_reducible rw[kC];simp only[kC,kN,ay,nc])|(try dsimp only[nc]));all_goals clear ap hK K' ob))))
   (focus(refine af.cond rfl (fun h=>?_) (fun h=>?_);all_goals(try simp only[nc,mY]at h)))
   ·(repeat(first|(refine zkQ ?_)|(first|focus(refine af.jm tF mF 7 [] [] (fun ob K' ap hK=>?_);(cbv;refine jo ap hK ?_ ?_ ?_;all_goals first|exact ziZ|(with_reducible rw[kC];simp only[kC,kN,ay,nc])|(try dsimp only[nc]));all_goals clear ap hK K' ob)|(with_reducible refine af.seq ?_)|focus(refine af.region tF mF [] (fun ob K' ap hK=>?_);(cbv;refine jp ap hK ?_ ?_ ?_;all_goals first|exact ziZ|(with_reducible rw[kC];simp only[kC,kN,ay,nc])|(try dsimp only[nc]));all_goals clear ap hK K' ob))))
    exact C6 rfl (.inr ⟨rfl,_,⟨_,by rw[hpre];rfl⟩,xd⟩)
   ·simp at h
def MA(d:Nat)(v:Unit->V):AV:=.dm .any 6 (fun _=>1) (fun _=>cells d .any v) (fun _=>0) 0
set_option maxRecDepth 100000 in
def YO(d:Nat)(v:V)(hv:V.le d v)(hd:d<=1073741824):pR prog 214 (fun y=>[.val (.func (.yield y) #[] #[]),MA d fun _=>v]) (fun _ _=>True) (pre d 1 v):=by
 obtain⟨d,rfl⟩:=V.lP hv;refine P6 func214 (by rfl) rfl (by rfl) (fun p g E hp hJ hall=>?_);refine af.C4 ?_
 (focus(refine dc.op tF [] (fun ob K' ap hK=>?_);(cbv;refine kQ ap hK ?_ ?_ ?_;all_goals first|exact ziZ|(with_reducible rw[kC];simp only[kC,kN,ay,nc])|(try dsimp only[nc]));all_goals clear ap hK K' ob))
 (focus(refine dc.op tF [] (fun ob K' ap hK=>?_);(cbv;refine kQ ap hK ?_ ?_ ?_;all_goals first|exact ziZ|(with_reducible rw[kC];simp only[kC,kN,ay,nc])|(try dsimp only[nc]));all_goals clear ap hK K' ob))
 have hone:(1:Int)+((d+1:Nat):Int)<=4611686018427387904:=zo
 refine dc.into (args':=[aK (d+1) .any fun _=>v,.int .i64 (fun _=>1),.val (.func (.yield p.l) #[] #[])]) hp hJ rfl rfl rfl (YM (d+1) v 1 hv zo hone) hall (aD.of_eq rfl) (by cbv) (fun E3 jq hJ3=>?_) (fun E3 jq hJ3=>?_)
 ·refine dc.done ?_;exact⟨true,.inl ⟨rfl,hJ3⟩⟩
 ·refine dc.done ?_;exact⟨false,.inr ⟨rfl,hJ3⟩⟩
set_option maxRecDepth 100000 in
def MB(d:Nat)(v:V):Af prog 148 [aK (d+1) .any fun _=>v] [] (.func 214 [.ptr 1 0]) [(1,.box (cells (d+1) .any fun _=>v))]:=by
 refine HY (rs:=[.tmp 2]) tF func148 (by rfl) rfl (by rfl) (by rfl) (fun E=>?_)
 (repeat(first|(refine zkQ ?_)|(first|focus(refine af.jm tF mF 3 [] [] (fun ob K' ap hK=>?_);(cbv;refine jo ap hK ?_ ?_ ?_;all_goals first|exact ziZ|(with_reducible rw[kC];simp only[kC,kN,ay,nc])|(try dsimp only[nc]));all_goals clear ap hK K' ob)|(with_reducible refine af.seq ?_)|focus(refine af.region tF mF [] (fun ob K' ap hK=>?_);(cbv;refine jp ap hK ?_ ?_ ?_;all_goals first|exact ziZ|(with_reducible rw[kC];simp only[kC,kN,ay,nc])|(try dsimp only[nc]));all_goals clear ap hK K' ob))))
 (focus(cbv;(try simp only[aN,aC,ay,nc]);(try(repeat'(with_reducible apply ai)));(all_goals(try first|rfl|exact fun _ _=>aD.of_eq rfl|exact aD.of_eq rfl|trivial|omega))))
end Go.Ai
