/- Chapter 4: the fields of records. -/
import Derived.Test.YtbagpkiomjlhkaaGreatDoorFnA
import Derived.Test.YtbagpkiomjlhkaaGreatDoorEngC
import Derived.Test.YtbagpkiomjlhkaaGreatDoorV
set_option linter.all false
namespace Go.Ai
open Go Go.Proofs
set_option maxRecDepth 100000
set_option maxHeartbeats 2000000
def ltB (a b:ByteArray):Bool:=Op.bytesLess a.toList b.toList
def aar (l:List (ByteArray×V)):Nat→Int
 | 0=>0
 | i+1=>if aar l i≠0 then aar l i else if isName (l.getD i default).1=false then 12 else if 0<i∧(l.getD i default).1=(l.getD (i - 1) default).1 then 7 else if 0<i∧ltB (l.getD i default).1 (l.getD (i - 1) default).1=true then 24 else 0
theorem ae7 {l:List (ByteArray×V)} {i:Nat} (h:aar l i≠0):∀ {n:Nat},i≤n→aar l n=aar l i
 | 0,hn=>by rw [Nat.le_zero.1 hn]
 | n + 1,hn=>by
  rcases Nat.lt_or_eq_of_le hn with hn|rfl
  ·have:=ae7 h (Nat.le_of_lt_succ hn)
   simp only [aar,this]
   rw [if_pos h]
  ·rfl
def aiC (l:List (ByteArray×V)):Int:=if 64<l.length then 9 else aar l l.length
def slcF (d:Nat) (fr:FB) (l:Unit→List (ByteArray×V)):AV:=.slc fr 7 (fun _=>(l ()).length) (fun i=>.str (fun _=>((l ()).getD (i ()) default).1) :: cells d fr fun _=>((l ()).getD (i ()) default).2)
theorem agh {l:List (ByteArray×V)} {i:Nat} {e:Int} (h64:l.length≤64) (hi:i<l.length) (he:aar l (i+1)=e) (h:e≠0):e=aiC l:=by
 have:=ae7 (l:=l) (i:=i+1) (by rw [he];exact h) (n:=l.length) hi
 simp only [aiC,if_neg (Nat.not_lt.2 h64),this,he]
theorem fE_name {l:List (ByteArray×V)} {i:Nat} (h0:aar l i=0) (hn:isName (l.getD i default).1=false):aar l (i+1)=12:=by
 simp only [aar,h0];rw [if_neg (by simp),if_pos hn]
theorem fE_dup {l:List (ByteArray×V)} {i:Nat} (h0:aar l i=0) (hn:isName (l.getD i default).1=true) (h:0<i∧(l.getD i default).1=(l.getD (i - 1) default).1):aar l (i+1)=7:=by
 simp only [aar,h0];rw [if_neg (by simp),if_neg (by rw [hn];simp),if_pos h]
theorem fE_ord {l:List (ByteArray×V)} {i:Nat} (h0:aar l i=0) (hn:isName (l.getD i default).1=true) (h:¬(0<i∧(l.getD i default).1=(l.getD (i - 1) default).1)) (h2:0<i∧ltB (l.getD i default).1 (l.getD (i - 1) default).1=true):aar l (i+1)=24:=by
 simp only [aar,h0];rw [if_neg (by simp),if_neg (by rw [hn];simp),if_neg h,if_pos h2]
theorem fE_ok {l:List (ByteArray×V)} {i:Nat} (h0:aar l i=0) (hn:isName (l.getD i default).1=true) (h:¬(0<i∧(l.getD i default).1=(l.getD (i - 1) default).1)) (h2:¬(0<i∧ltB (l.getD i default).1 (l.getD (i - 1) default).1=true)):aar l (i+1)=0:=by
 simp only [aar,h0];rw [if_neg (by simp),if_neg (by rw [hn];simp),if_neg h,if_neg h2]
theorem getD_mem {α:Type} {l:List α} {i:Nat} {d:α} (h:i<l.length):l.getD i d ∈ l:=by
 have:l.getD i d=l[i]:=by simp [List.getD,h]
 rw [this];exact List.getElem_mem h
theorem alm {i:Nat} (h:0<i) (h2:i<9223372036854775807):(IntKind.i64.wrap ((i:Int) - 1)).toNat=i - 1:=by rw [w64]<;>omega
theorem rule9_ok (d:Nat) (v:V) (hl:∀ x ∈ v.fields,x.1.size≤35184372088832):Af Tryz.prog 212 [encV (d+1) .any fun _=>v] [] (.int .i64 fun _=>aiC v.fields) []:=by
 (apply Af.of tF mF [.tmp 2] kp212 [(1,[(3,.int .i64 (fun _=>?r1),[])])] Tryz.func212 (fun _=>?_);(any_goals ((with_reducible refine wI ?_);cbv;(try dsimp only [nc] at *);(repeat' (with_reducible first|exact ‹False›.elim|exact nZ|refine oC ?_ ?_|refine VC.mk rfl ?_ ?_ ?_|(apply Ca.mk<;>intro _)|refine cV (fun _=>?_) fun _=>?_|((first|apply xE|apply uE);cbv;(try dsimp only [nc] at *)))))))
 (any_goals ((with_reducible refine bZ ?_)<;>exact (adi _ _ _)))
 ((all_goals (try (with_reducible ((first|refine rE ?_|refine nE ?_);cbv;(try dsimp only [nc] at *);(try simp only [wl,nc]);(repeat' apply And.intro);all_goals (try exact wZ)))));(all_goals (try ((with_reducible rw [aC]);(try simp only [wl,nc]);(repeat' (with_reducible apply And.intro));(all_goals (try exact cZ))))))
 ·rename_i h
  have:64<v.fields.length:=Nat.lt_of_not_le fun q=>h (by simp only [abT];rw [if_neg (by omega)])
  simp only [aiC,abT]
  rw [if_pos (by omega),if_pos this]
 rename_i h
 have h64:v.fields.length≤64:=Nat.le_of_not_lt fun q=>by simp only [abT] at h;rw [if_pos (by omega)] at h;omega
 clear h
 refine .loop (fun i:Nat=>⟨57,[(16,.int .i64 fun _=>i),(15,.int .i64 fun _=>v.fields.length),(14,slcF d .any fun _=>v.fields),(1,.ptr 1 0)],[(1,.box (cells (d+1) .any fun _=>v))]⟩)
  (fun i=>i≤v.fields.length∧aar v.fields i=0) (fun i=>v.fields.length - i) 0 (by simp [aar]) ?_ fun i E hi=>?_
 ·(exact aZ)
 have hw:=alm (i:=i)
 have hs:i<v.fields.length→(v.fields.getD i default).1.size≤35184372088832:=fun h=>hl _ (getD_mem h)
 apply AWp.wk tF mF [(7,[(2,.bool (fun _=>?r2),[])])] kp212 ?_
 (any_goals ((with_reducible refine wI ?_);cbv;(try dsimp only [nc] at *);(repeat' (with_reducible first|exact ‹False›.elim|exact nZ|refine oC ?_ ?_|refine VC.mk rfl ?_ ?_ ?_|(apply Ca.mk<;>intro _)|refine cV (fun _=>?_) fun _=>?_|((first|apply xE|apply uE);cbv;(try dsimp only [nc] at *))))))
 (any_goals ((with_reducible refine bZ ?_)<;>exact (afm (v.fields.getD i default).1 (hs ‹_›))))
 ((all_goals (try (with_reducible ((first|refine rE ?_|refine nE ?_);cbv;(try dsimp only [nc] at *);(try simp only [wl,nc]);(repeat' apply And.intro);all_goals (try exact wZ)))));(all_goals (try ((with_reducible rw [aC]);(try simp only [wl,nc]);(repeat' (with_reducible apply And.intro));(all_goals (try exact cZ))))))
 ·exact agh (by omega) ‹_› (fE_name hi.2 ‹_›) (by omega)
 ·rename_i hn hc
  rw [hw (by omega) (by omega)] at hc
  exact agh (by omega) ‹_› (fE_dup hi.2 hn ⟨by omega,hc.2⟩) (by omega)
 ·rename_i hn hc hc2
  rw [hw (by omega) (by omega)] at hc hc2
  exact agh (by omega) ‹_› (fE_ord hi.2 hn (fun q=>hc.elim (fun h=>by omega) fun h=>h q.2) ⟨by omega,hc2.2⟩) (by omega)
 ·rename_i hn hc hc2
  refine dE (i+1) ⟨⟨by omega,fE_ok hi.2 hn (fun q=>?_) fun q=>?_⟩,by omega⟩ ?_
  ·rw [hw q.1 (by omega)] at hc
   exact hc.elim (fun h=>by omega) fun h=>h q.2
  ·rw [hw q.1 (by omega)] at hc2
   refine hc2.elim (fun h=>by omega) fun h=>?_
   have:=q.2;unfold ltB at this;rw [h] at this;cases this
  ·(focus (cbv;(try dsimp only [nc] at *);(try simp only [wl,nc]);(repeat' (with_reducible apply And.intro));all_goals (try exact wZ)))
   exact w64n (by omega)
 ·have:i=v.fields.length:=by omega
  subst this
  simp only [aiC]
  rw [if_neg (by omega),hi.2]
def abe (vs:ByteArray→Bool) (v:V):Int :=
 if v.kind=1 then between v.int 0 1 else
 if v.kind=2 then between v.int (-999999999999999) 999999999999999 else
 if v.kind=3 then (if between v.int (-999999999999999) 999999999999999≠0 then between v.int (-999999999999999) 999999999999999 else between v.scale 0 12) else
 if v.kind=4 then (if abT v.text.size 1024 5=0∧vs v.text=false then 16 else abT v.text.size 1024 5) else
 if v.kind=5 then abT v.text.size 1024 5 else
 if v.kind=6 then between v.int (-719162) 2932896 else
 if v.kind=7 then between v.int (-62135596800000) 253402300799999 else
 if v.kind=8 then abT v.list.length 256 9 else
 if v.kind=9 then aiC v.fields else ajy v
def ownE (vs:ByteArray→Bool) (v:V):Int :=
 if isNull v=true then 19 else if v.kind<1∨10<v.kind then 11 else if aip v=false then 3 else abe vs v
theorem ajO {vs:ByteArray→Bool} {v:V} (h:isNull v=true):ownE vs v=19:=by simp only [ownE];rw [if_pos h]
theorem own_kind {vs:ByteArray→Bool} {v:V} (h:isNull v=false) (h2:v.kind<1∨10<v.kind):ownE vs v=11:=by simp only [ownE];rw [if_neg (by rw [h];simp),if_pos h2]
theorem own_uses {vs:ByteArray→Bool} {v:V} (h:isNull v=false) (h2:¬ (v.kind<1∨10<v.kind)) (h3:aip v=false):ownE vs v=3:=by simp only [ownE];rw [if_neg (by rw [h];simp),if_neg h2,if_pos h3]
theorem ajN {vs:ByteArray→Bool} {v:V} (h:isNull v=false) (h2:¬ (v.kind<1∨10<v.kind)) (h3:aip v=true):ownE vs v=abe vs v:=by simp only [ownE];rw [if_neg (by rw [h];simp),if_neg h2,if_neg (by rw [h3];simp)]
theorem ruleE1 {vs:ByteArray→Bool} {v:V} (h:v.kind=1):abe vs v=between v.int 0 1:=by unfold abe;simp [h]
theorem ruleE2 {vs:ByteArray→Bool} {v:V} (h:v.kind=2):abe vs v=between v.int (-999999999999999) 999999999999999:=by unfold abe;simp [h]
theorem ruleE3 {vs:ByteArray→Bool} {v:V} (h:v.kind=3):abe vs v=(if between v.int (-999999999999999) 999999999999999≠0 then between v.int (-999999999999999) 999999999999999 else between v.scale 0 12):=by unfold abe;simp [h]
theorem ruleE4 {vs:ByteArray→Bool} {v:V} (h:v.kind=4):abe vs v=(if abT v.text.size 1024 5=0∧vs v.text=false then 16 else abT v.text.size 1024 5):=by unfold abe;simp [h]
theorem ruleE5 {vs:ByteArray→Bool} {v:V} (h:v.kind=5):abe vs v=abT v.text.size 1024 5:=by unfold abe;simp [h]
theorem ruleE6 {vs:ByteArray→Bool} {v:V} (h:v.kind=6):abe vs v=between v.int (-719162) 2932896:=by unfold abe;simp [h]
theorem ruleE7 {vs:ByteArray→Bool} {v:V} (h:v.kind=7):abe vs v=between v.int (-62135596800000) 253402300799999:=by unfold abe;simp [h]
theorem ruleE8 {vs:ByteArray→Bool} {v:V} (h:v.kind=8):abe vs v=abT v.list.length 256 9:=by unfold abe;simp [h]
theorem ruleE9 {vs:ByteArray→Bool} {v:V} (h:v.kind=9):abe vs v=aiC v.fields:=by unfold abe;simp [h]
theorem ruleE10 {vs:ByteArray→Bool} {v:V} (h:v.kind=10):abe vs v=ajy v:=by unfold abe;simp [h]
end Go.Ai

namespace Go.Ai
open Go Go.Proofs
def pre:Nat→Int→V→List (List AV)
 | 0,_,_=>[]
 | d+1,l,v=>[.int .i64 (fun _=>l),encV (d+1) .any fun _=>v] :: ((kz v).map (pre d (l+1))).flatten
theorem amT {d:Nat} {v:V} (h:V.le (d+1) v) {x:V} (hx:x ∈ kz v):V.le d x:=by
 unfold kz at hx
 split at hx
 ·exact h.2.2.2.1 x hx
 ·split at hx
  ·obtain ⟨y,hy,rfl⟩:=List.mem_map.1 hx
   exact (h.2.2.2.2 y hy).2
  ·simp at hx
theorem kids_len {d:Nat} {v:V} (h:V.le (d+1) v):(kz v).length≤1073741824:=by
 unfold kz
 split
 ·exact h.1
 ·split
  ·simpa using h.2.1
  ·simp
theorem an8 {α β:Type} (f:α→List β) (l:List α) (i:Nat) (hi:i<l.length) (df:α):((l.take (i+1)).map f).flatten=((l.take i).map f).flatten++f (l.getD i df):=by
 have:l.getD i df=l[i]:=by simp [List.getD,hi]
 rw [this,List.take_succ_eq_append_getElem hi]
 simp only [List.map_append,List.flatten_append,List.map_cons,List.map_nil,List.flatten_cons,List.flatten_nil,List.append_nil]
theorem aeV {α β:Type} (f:α→List β) (l:List α) (i:Nat):((l.take i).map f).flatten <+: (l.map f).flatten:=by
 conv=>rhs;rw [← List.take_append_drop i l]
 rw [List.map_append,List.flatten_append]
 exact List.prefix_append _ _
set_option maxRecDepth 100000 in
theorem visit_ok:∀ (d:Nat) (v:V) (l:Int),V.le d v→0≤l→l+d≤4611686018427387904→ISpec Tryz.prog 215 (fun y=>[encV d .any fun _=>v,.int .i64 fun _=>l,.val (.func (.yield y) #[] #[])]) isBool (pre d l v):=by
 intro d
 induction d with
 | zero=>exact fun v l hv _ _=>hv.elim
 | succ d ih =>
  intro v l hv h0 hl
  refine ispec_of (t:=6) Tryz.func215 (by rfl) rfl (by rfl) (fun p g E hp hJ hall=>?_)
  (repeat (first|(with_reducible first|refine AWp.block ?_|refine AWp.skip ?_|refine AWp.exit ?_|refine AWp.ret ?_|refine tN ?_|refine aah ?_|refine aas ?_|refine bH ?_|refine bM rfl ?_|refine bN ?_|refine aai ?_|refine aaD ?_|refine rN ?_)|(first|focus (refine AWp.aaf tF mF 7 [] [] (fun ob K' hob hK=>?_);(cbv;refine acW hob hK ?_ ?_ ?_;(all_goals (first|with_reducible exact aN.2 trivial|with_reducible exact kN.2 trivial|((with_reducible rw [aC]);(focus ((try simp only [aC,aN,and_true,nc]);(repeat' (with_reducible apply And.intro));(all_goals (try first|exact pT|exact pF|exact fun _ h=>h|exact fun h=>h|trivial|omega|(simp;done)|(simp;omega)|grind)))))|(with_reducible rw [kC];(simp only [kC,kN,and_true,nc]))|(try dsimp only [nc]))));all_goals clear hob hK K' ob)|(with_reducible refine AWp.seq ?_)|focus (refine AWp.region tF mF [] (fun ob K' hob hK=>?_);(cbv;refine aby hob hK ?_ ?_ ?_;(all_goals (first|with_reducible exact aN.2 trivial|with_reducible exact kN.2 trivial|((with_reducible rw [aC]);(focus ((try simp only [aC,aN,and_true,nc]);(repeat' (with_reducible apply And.intro));(all_goals (try first|exact pT|exact pF|exact fun _ h=>h|exact fun h=>h|trivial|omega|(simp;done)|(simp;omega)|grind)))))|(with_reducible rw [kC];(simp only [kC,kN,and_true,nc]))|(try dsimp only [nc]))));all_goals clear hob hK K' ob))))
  refine AWp.amr ?_
  (focus (refine aaG.op tF [] (fun ob K' hob hK=>?_);(cbv;refine abR hob hK ?_ ?_ ?_;(all_goals (first|with_reducible exact aN.2 trivial|with_reducible exact kN.2 trivial|((with_reducible rw [aC]);(focus ((try simp only [aC,aN,and_true,nc]);(repeat' (with_reducible apply And.intro));(all_goals (try first|exact pT|exact pF|exact fun _ h=>h|exact fun h=>h|trivial|omega|(simp;done)|(simp;omega)|grind)))))|(with_reducible rw [kC];(simp only [kC,kN,and_true,nc]))|(try dsimp only [nc]))));all_goals clear hob hK K' ob))
  (focus (refine aaG.op tF [] (fun ob K' hob hK=>?_);(cbv;refine abR hob hK ?_ ?_ ?_;(all_goals (first|with_reducible exact aN.2 trivial|with_reducible exact kN.2 trivial|((with_reducible rw [aC]);(focus ((try simp only [aC,aN,and_true,nc]);(repeat' (with_reducible apply And.intro));(all_goals (try first|exact pT|exact pF|exact fun _ h=>h|exact fun h=>h|trivial|omega|(simp;done)|(simp;omega)|grind)))))|(with_reducible rw [kC];(simp only [kC,kN,and_true,nc]))|(try dsimp only [nc]))));all_goals clear hob hK K' ob))
  (focus (refine aaG.op tF [] (fun ob K' hob hK=>?_);(cbv;refine abR hob hK ?_ ?_ ?_;(all_goals (first|with_reducible exact aN.2 trivial|with_reducible exact kN.2 trivial|((with_reducible rw [aC]);(focus ((try simp only [aC,aN,and_true,nc]);(repeat' (with_reducible apply And.intro));(all_goals (try first|exact pT|exact pF|exact fun _ h=>h|exact fun h=>h|trivial|omega|(simp;done)|(simp;omega)|grind)))))|(with_reducible rw [kC];(simp only [kC,kN,and_true,nc]))|(try dsimp only [nc]))));all_goals clear hob hK K' ob))
  have hpre:pre (d+1) l v=[.int .i64 (fun _=>l),encV (d+1) .any fun _=>v] :: ((kz v).map (pre d (l+1))).flatten:=rfl
  have hall1:g++[[.int .i64 (fun _=>l),encV (d+1) .any fun _=>v]] <+: p.all:=by
   refine List.IsPrefix.trans ?_ hall
   rw [hpre]
   exact (List.prefix_append_right_inj g).2 ⟨_,rfl⟩
  refine aaG.yield (el':=[.int .i64 (fun _=>l),encV (d+1) .any fun _=>v]) hp hJ rfl rfl rfl (LeL.of_eq rfl) (by cbv) hall1 (fun E1 hE1 hJ1=>?_) (fun E1 hE1 hJ1=>?_)
  ·(focus (refine aaG.op tF [] (fun ob K' hob hK=>?_);(cbv;refine abR hob hK ?_ ?_ ?_;(all_goals (first|with_reducible exact aN.2 trivial|with_reducible exact kN.2 trivial|((with_reducible rw [aC]);(focus ((try simp only [aC,aN,and_true,nc]);(repeat' (with_reducible apply And.intro));(all_goals (try first|exact pT|exact pF|exact fun _ h=>h|exact fun h=>h|trivial|omega|(simp;done)|(simp;omega)|grind)))))|(with_reducible rw [kC];(simp only [kC,kN,and_true,nc]))|(try dsimp only [nc]))));all_goals clear hob hK K' ob))
   refine aaG.done ?_
   (repeat (first|(with_reducible first|refine AWp.block ?_|refine AWp.skip ?_|refine AWp.exit ?_|refine AWp.ret ?_|refine tN ?_|refine aah ?_|refine aas ?_|refine bH ?_|refine bM rfl ?_|refine bN ?_|refine aai ?_|refine aaD ?_|refine rN ?_)|(first|focus (refine AWp.aaf tF mF 7 [] [] (fun ob K' hob hK=>?_);(cbv;refine acW hob hK ?_ ?_ ?_;(all_goals (first|with_reducible exact aN.2 trivial|with_reducible exact kN.2 trivial|((with_reducible rw [aC]);(focus ((try simp only [aC,aN,and_true,nc]);(repeat' (with_reducible apply And.intro));(all_goals (try first|exact pT|exact pF|exact fun _ h=>h|exact fun h=>h|trivial|omega|(simp;done)|(simp;omega)|grind)))))|(with_reducible rw [kC];(simp only [kC,kN,and_true,nc]))|(try dsimp only [nc]))));all_goals clear hob hK K' ob)|(with_reducible refine AWp.seq ?_)|focus (refine AWp.region tF mF [] (fun ob K' hob hK=>?_);(cbv;refine aby hob hK ?_ ?_ ?_;(all_goals (first|with_reducible exact aN.2 trivial|with_reducible exact kN.2 trivial|((with_reducible rw [aC]);(focus ((try simp only [aC,aN,and_true,nc]);(repeat' (with_reducible apply And.intro));(all_goals (try first|exact pT|exact pF|exact fun _ h=>h|exact fun h=>h|trivial|omega|(simp;done)|(simp;omega)|grind)))))|(with_reducible rw [kC];(simp only [kC,kN,and_true,nc]))|(try dsimp only [nc]))));all_goals clear hob hK K' ob))))
   (focus (refine AWp.cond rfl (fun h=>?_) (fun h=>?_);all_goals (try simp only [nc,aaW] at h)))
   ·simp at h
   have hp1:=hp.ext hE1
   clear h
   (repeat (first|(with_reducible first|refine AWp.block ?_|refine AWp.skip ?_|refine AWp.exit ?_|refine AWp.ret ?_|refine tN ?_|refine aah ?_|refine aas ?_|refine bH ?_|refine bM rfl ?_|refine bN ?_|refine aai ?_|refine aaD ?_|refine rN ?_)|(first|focus (refine AWp.aaf tF mF 7 [] [] (fun ob K' hob hK=>?_);(cbv;refine acW hob hK ?_ ?_ ?_;(all_goals (first|with_reducible exact aN.2 trivial|with_reducible exact kN.2 trivial|((with_reducible rw [aC]);(focus ((try simp only [aC,aN,and_true,nc]);(repeat' (with_reducible apply And.intro));(all_goals (try first|exact pT|exact pF|exact fun _ h=>h|exact fun h=>h|trivial|omega|(simp;done)|(simp;omega)|grind)))))|(with_reducible rw [kC];(simp only [kC,kN,and_true,nc]))|(try dsimp only [nc]))));all_goals clear hob hK K' ob)|(with_reducible refine AWp.seq ?_)|focus (refine AWp.region tF mF [] (fun ob K' hob hK=>?_);(cbv;refine aby hob hK ?_ ?_ ?_;(all_goals (first|with_reducible exact aN.2 trivial|with_reducible exact kN.2 trivial|((with_reducible rw [aC]);(focus ((try simp only [aC,aN,and_true,nc]);(repeat' (with_reducible apply And.intro));(all_goals (try first|exact pT|exact pF|exact fun _ h=>h|exact fun h=>h|trivial|omega|(simp;done)|(simp;omega)|grind)))))|(with_reducible rw [kC];(simp only [kC,kN,and_true,nc]))|(try dsimp only [nc]))));all_goals clear hob hK K' ob))))
   (first|focus (refine AWp.aaf tF mF 7 [15,16,17] [(1,slcV d .any (fun _=>kz v),[])] (fun ob K' hob hK=>?_);(cbv;refine acW hob hK ?_ ?_ ?_;(all_goals (first|with_reducible exact aN.2 trivial|with_reducible exact kN.2 trivial|((with_reducible rw [aC]);(focus ((try simp only [aC,aN,and_true,nc]);(repeat' (with_reducible apply And.intro));(all_goals (try first|exact pT|exact pF|exact fun _ h=>h|exact fun h=>h|trivial|omega|(simp;done)|(simp;omega)|grind)))))|(with_reducible rw [kC];(simp only [kC,kN,and_true,nc]))|(try dsimp only [nc]))));all_goals clear hob hK K' ob)|focus (refine AWp.region tF mF [(1,slcV d .any (fun _=>kz v),[])] (fun ob K' hob hK=>?_);(cbv;refine aby hob hK ?_ ?_ ?_;(all_goals (first|with_reducible exact aN.2 trivial|with_reducible exact kN.2 trivial|((with_reducible rw [aC]);(focus ((try simp only [aC,aN,and_true,nc]);(repeat' (with_reducible apply And.intro));(all_goals (try first|exact pT|exact pF|exact fun _ h=>h|exact fun h=>h|trivial|omega|(simp;done)|(simp;omega)|grind)))))|(with_reducible rw [kC];(simp only [kC,kN,and_true,nc]))|(try dsimp only [nc]))));all_goals clear hob hK K' ob))
   ·(repeat (first|(with_reducible first|refine AWp.block ?_|refine AWp.skip ?_|refine AWp.exit ?_|refine AWp.ret ?_|refine tN ?_|refine aah ?_|refine aas ?_|refine bH ?_|refine bM rfl ?_|refine bN ?_|refine aai ?_|refine aaD ?_|refine rN ?_)|(first|focus (refine AWp.aaf tF mF 9 [15,16,17] [] (fun ob K' hob hK=>?_);(cbv;refine acW hob hK ?_ ?_ ?_;(all_goals (first|with_reducible exact aN.2 trivial|with_reducible exact kN.2 trivial|((with_reducible rw [aC]);(focus ((try simp only [aC,aN,and_true,nc]);(repeat' (with_reducible apply And.intro));(all_goals (try first|exact pT|exact pF|exact fun _ h=>h|exact fun h=>h|trivial|omega|(simp;done)|(simp;omega)|grind)))))|(with_reducible rw [kC];(simp only [kC,kN,and_true,nc]))|(try dsimp only [nc]))));all_goals clear hob hK K' ob)|(with_reducible refine AWp.seq ?_)|focus (refine AWp.region tF mF [] (fun ob K' hob hK=>?_);(cbv;refine aby hob hK ?_ ?_ ?_;(all_goals (first|with_reducible exact aN.2 trivial|with_reducible exact kN.2 trivial|((with_reducible rw [aC]);(focus ((try simp only [aC,aN,and_true,nc]);(repeat' (with_reducible apply And.intro));(all_goals (try first|exact pT|exact pF|exact fun _ h=>h|exact fun h=>h|trivial|omega|(simp;done)|(simp;omega)|grind)))))|(with_reducible rw [kC];(simp only [kC,kN,and_true,nc]))|(try dsimp only [nc]))));all_goals clear hob hK K' ob))))
    refine AWp.loopE (fun i:Nat=>mkS 28 [(1,.int .i64 fun _=>l),(2,.val (.func (.yield p.l) #[] #[])),(6,.bool fun _=>false),(15,slcV d .any fun _=>kz v),(16,.int .i64 fun _=>(kz v).length),(17,.int .i64 fun _=>i)] [])
     (fun i E'=>i≤(kz v).length∧p.J (g++[[.int .i64 (fun _=>l),encV (d+1) .any fun _=>v]]++(((kz v).take i).map (pre d (l+1))).flatten) E'.w0) (fun i=>(kz v).length - i) ⟨0,⟨by simp,by simpa using hJ1⟩,aeA ?_⟩ (fun i E2 hE2 hi=>?_)
    ·(focus (cbv;(try simp only [aN,aC,and_true,nc]);(try (repeat' (with_reducible apply And.intro)));(all_goals (try first|rfl|exact fun _ _=>LeL.of_eq rfl|exact LeL.of_eq rfl|trivial|omega))))
    have hp2:=hp1.ext hE2
    (repeat (first|(with_reducible first|refine AWp.block ?_|refine AWp.skip ?_|refine AWp.exit ?_|refine AWp.ret ?_|refine tN ?_|refine aah ?_|refine aas ?_|refine bH ?_|refine bM rfl ?_|refine bN ?_|refine aai ?_|refine aaD ?_|refine rN ?_)|(first|focus (refine AWp.aaf tF mF 9 [15,16,17] [] (fun ob K' hob hK=>?_);(cbv;refine acW hob hK ?_ ?_ ?_;(all_goals (first|with_reducible exact aN.2 trivial|with_reducible exact kN.2 trivial|((with_reducible rw [aC]);(focus ((try simp only [aC,aN,and_true,nc]);(repeat' (with_reducible apply And.intro));(all_goals (try first|exact pT|exact pF|exact fun _ h=>h|exact fun h=>h|trivial|omega|(simp;done)|(simp;omega)|grind)))))|(with_reducible rw [kC];(simp only [kC,kN,and_true,nc]))|(try dsimp only [nc]))));all_goals clear hob hK K' ob)|(with_reducible refine AWp.seq ?_)|focus (refine AWp.region tF mF [] (fun ob K' hob hK=>?_);(cbv;refine aby hob hK ?_ ?_ ?_;(all_goals (first|with_reducible exact aN.2 trivial|with_reducible exact kN.2 trivial|((with_reducible rw [aC]);(focus ((try simp only [aC,aN,and_true,nc]);(repeat' (with_reducible apply And.intro));(all_goals (try first|exact pT|exact pF|exact fun _ h=>h|exact fun h=>h|trivial|omega|(simp;done)|(simp;omega)|grind)))))|(with_reducible rw [kC];(simp only [kC,kN,and_true,nc]))|(try dsimp only [nc]))));all_goals clear hob hK K' ob))))
    (focus (refine AWp.cond rfl (fun h3=>?_) (fun h3=>?_);all_goals (try simp only [nc,aaW] at h3)))
    ·simp at h3
     have hx:V.le d ((kz v).getD i default):=by
      have:(kz v).getD i default=(kz v)[i]:=by simp [List.getD,h3]
      rw [this];exact amT hv (List.getElem_mem h3)
     obtain ⟨d,rfl⟩:=V.lP hx
     (repeat (first|(with_reducible first|refine AWp.block ?_|refine AWp.skip ?_|refine AWp.exit ?_|refine AWp.ret ?_|refine tN ?_|refine aah ?_|refine aas ?_|refine bH ?_|refine bM rfl ?_|refine bN ?_|refine aai ?_|refine aaD ?_|refine rN ?_)|(first|focus (refine AWp.aaf tF mF 9 [15,16,17] [] (fun ob K' hob hK=>?_);(cbv;refine acW hob hK ?_ ?_ ?_;(all_goals (first|with_reducible exact aN.2 trivial|with_reducible exact kN.2 trivial|((with_reducible rw [aC]);(focus ((try simp only [aC,aN,and_true,nc]);(repeat' (with_reducible apply And.intro));(all_goals (try first|exact pT|exact pF|exact fun _ h=>h|exact fun h=>h|trivial|omega|(simp;done)|(simp;omega)|grind)))))|(with_reducible rw [kC];(simp only [kC,kN,and_true,nc]))|(try dsimp only [nc]))));all_goals clear hob hK K' ob)|(with_reducible refine AWp.seq ?_)|focus (refine AWp.region tF mF [] (fun ob K' hob hK=>?_);(cbv;refine aby hob hK ?_ ?_ ?_;(all_goals (first|with_reducible exact aN.2 trivial|with_reducible exact kN.2 trivial|((with_reducible rw [aC]);(focus ((try simp only [aC,aN,and_true,nc]);(repeat' (with_reducible apply And.intro));(all_goals (try first|exact pT|exact pF|exact fun _ h=>h|exact fun h=>h|trivial|omega|(simp;done)|(simp;omega)|grind)))))|(with_reducible rw [kC];(simp only [kC,kN,and_true,nc]))|(try dsimp only [nc]))));all_goals clear hob hK K' ob))))
     ·refine AWp.amr ?_
      (focus (refine aaG.op tF [] (fun ob K' hob hK=>?_);(cbv;refine abR hob hK ?_ ?_ ?_;(all_goals (first|with_reducible exact aN.2 trivial|with_reducible exact kN.2 trivial|((with_reducible rw [aC]);(focus ((try simp only [aC,aN,and_true,nc]);(repeat' (with_reducible apply And.intro));(all_goals (try first|exact pT|exact pF|exact fun _ h=>h|exact fun h=>h|trivial|omega|(simp;done)|(simp;omega)|grind)))))|(with_reducible rw [kC];(simp only [kC,kN,and_true,nc]))|(try dsimp only [nc]))));all_goals clear hob hK K' ob))
      (focus (refine aaG.op tF [] (fun ob K' hob hK=>?_);(cbv;refine abR hob hK ?_ ?_ ?_;(all_goals (first|with_reducible exact aN.2 trivial|with_reducible exact kN.2 trivial|((with_reducible rw [aC]);(focus ((try simp only [aC,aN,and_true,nc]);(repeat' (with_reducible apply And.intro));(all_goals (try first|exact pT|exact pF|exact fun _ h=>h|exact fun h=>h|trivial|omega|(simp;done)|(simp;omega)|grind)))))|(with_reducible rw [kC];(simp only [kC,kN,and_true,nc]))|(try dsimp only [nc]))));all_goals clear hob hK K' ob))
      (focus (refine aaG.op tF [] (fun ob K' hob hK=>?_);(cbv;refine abR hob hK ?_ ?_ ?_;(all_goals (first|with_reducible exact aN.2 trivial|with_reducible exact kN.2 trivial|((with_reducible rw [aC]);(focus ((try simp only [aC,aN,and_true,nc]);(repeat' (with_reducible apply And.intro));(all_goals (try first|exact pT|exact pF|exact fun _ h=>h|exact fun h=>h|trivial|omega|(simp;done)|(simp;omega)|grind)))))|(with_reducible rw [kC];(simp only [kC,kN,and_true,nc]))|(try dsimp only [nc]))));all_goals clear hob hK K' ob))
      (focus (refine aaG.op tF [] (fun ob K' hob hK=>?_);(cbv;refine abR hob hK ?_ ?_ ?_;(all_goals (first|with_reducible exact aN.2 trivial|with_reducible exact kN.2 trivial|((with_reducible rw [aC]);(focus ((try simp only [aC,aN,and_true,nc]);(repeat' (with_reducible apply And.intro));(all_goals (try first|exact pT|exact pF|exact fun _ h=>h|exact fun h=>h|trivial|omega|(simp;done)|(simp;omega)|grind)))))|(with_reducible rw [kC];(simp only [kC,kN,and_true,nc]))|(try dsimp only [nc]))));all_goals clear hob hK K' ob))
      have hl2:l+(d:Int)+2≤4611686018427387904:=by simpa [Int.add_assoc] using hl
      have hl3:l+1+((d+1:Nat):Int)≤4611686018427387904:=by simp only [Int.natCast_add,Int.natCast_one];omega
      have hw:IntKind.i64.wrap (l+1)=l+1:=w64 (by omega) (by omega)
      have hft:=an8 (pre (d+1) (l+1)) (kz v) i h3 default
      have hall2:(g++[[.int .i64 (fun _=>l),encV (d+1+1) .any fun _=>v]]++(((kz v).take i).map (pre (d+1) (l+1))).flatten)++pre (d+1) (l+1) ((kz v).getD i default) <+: p.all:=by
       refine List.IsPrefix.trans ?_ hall
       rw [hpre,List.append_assoc,List.append_assoc,← hft]
       exact (List.prefix_append_right_inj g).2 ((List.prefix_append_right_inj [_]).2 (aeV _ _ _))
      refine aaG.into (args':=[encV (d+1) .any fun _=>(kz v).getD i default,.int .i64 (fun _=>IntKind.i64.wrap (l+1)),.val (.func (.yield p.l) #[] #[])]) hp2 hi.2 rfl rfl rfl (ih _ (l+1) hx (by omega) hl3) hall2 (LeL.of_eq (by rw [hw])) (by cbv) (fun E3 hE3 hJ3=>?_) (fun E3 hE3 hJ3=>?_)
      ·(focus (refine aaG.op tF [] (fun ob K' hob hK=>?_);(cbv;refine abR hob hK ?_ ?_ ?_;(all_goals (first|with_reducible exact aN.2 trivial|with_reducible exact kN.2 trivial|((with_reducible rw [aC]);(focus ((try simp only [aC,aN,and_true,nc]);(repeat' (with_reducible apply And.intro));(all_goals (try first|exact pT|exact pF|exact fun _ h=>h|exact fun h=>h|trivial|omega|(simp;done)|(simp;omega)|grind)))))|(with_reducible rw [kC];(simp only [kC,kN,and_true,nc]))|(try dsimp only [nc]))));all_goals clear hob hK K' ob))
       refine aaG.done ?_
       (repeat (first|(with_reducible first|refine AWp.block ?_|refine AWp.skip ?_|refine AWp.exit ?_|refine AWp.ret ?_|refine tN ?_|refine aah ?_|refine aas ?_|refine bH ?_|refine bM rfl ?_|refine bN ?_|refine aai ?_|refine aaD ?_|refine rN ?_)|(first|focus (refine AWp.aaf tF mF 9 [15,16,17] [] (fun ob K' hob hK=>?_);(cbv;refine acW hob hK ?_ ?_ ?_;(all_goals (first|with_reducible exact aN.2 trivial|with_reducible exact kN.2 trivial|((with_reducible rw [aC]);(focus ((try simp only [aC,aN,and_true,nc]);(repeat' (with_reducible apply And.intro));(all_goals (try first|exact pT|exact pF|exact fun _ h=>h|exact fun h=>h|trivial|omega|(simp;done)|(simp;omega)|grind)))))|(with_reducible rw [kC];(simp only [kC,kN,and_true,nc]))|(try dsimp only [nc]))));all_goals clear hob hK K' ob)|(with_reducible refine AWp.seq ?_)|focus (refine AWp.region tF mF [] (fun ob K' hob hK=>?_);(cbv;refine aby hob hK ?_ ?_ ?_;(all_goals (first|with_reducible exact aN.2 trivial|with_reducible exact kN.2 trivial|((with_reducible rw [aC]);(focus ((try simp only [aC,aN,and_true,nc]);(repeat' (with_reducible apply And.intro));(all_goals (try first|exact pT|exact pF|exact fun _ h=>h|exact fun h=>h|trivial|omega|(simp;done)|(simp;omega)|grind)))))|(with_reducible rw [kC];(simp only [kC,kN,and_true,nc]))|(try dsimp only [nc]))));all_goals clear hob hK K' ob))))
       (focus (refine AWp.cond rfl (fun h4=>?_) (fun h4=>?_);all_goals (try simp only [nc,aaW] at h4)))
       ·simp at h4
       (repeat (first|(with_reducible first|refine AWp.block ?_|refine AWp.skip ?_|refine AWp.exit ?_|refine AWp.ret ?_|refine tN ?_|refine aah ?_|refine aas ?_|refine bH ?_|refine bM rfl ?_|refine bN ?_|refine aai ?_|refine aaD ?_|refine rN ?_)|(first|focus (refine AWp.aaf tF mF 9 [15,16,17] [] (fun ob K' hob hK=>?_);(cbv;refine acW hob hK ?_ ?_ ?_;(all_goals (first|with_reducible exact aN.2 trivial|with_reducible exact kN.2 trivial|((with_reducible rw [aC]);(focus ((try simp only [aC,aN,and_true,nc]);(repeat' (with_reducible apply And.intro));(all_goals (try first|exact pT|exact pF|exact fun _ h=>h|exact fun h=>h|trivial|omega|(simp;done)|(simp;omega)|grind)))))|(with_reducible rw [kC];(simp only [kC,kN,and_true,nc]))|(try dsimp only [nc]))));all_goals clear hob hK K' ob)|(with_reducible refine AWp.seq ?_)|focus (refine AWp.region tF mF [] (fun ob K' hob hK=>?_);(cbv;refine aby hob hK ?_ ?_ ?_;(all_goals (first|with_reducible exact aN.2 trivial|with_reducible exact kN.2 trivial|((with_reducible rw [aC]);(focus ((try simp only [aC,aN,and_true,nc]);(repeat' (with_reducible apply And.intro));(all_goals (try first|exact pT|exact pF|exact fun _ h=>h|exact fun h=>h|trivial|omega|(simp;done)|(simp;omega)|grind)))))|(with_reducible rw [kC];(simp only [kC,kN,and_true,nc]))|(try dsimp only [nc]))));all_goals clear hob hK K' ob))))
       refine ⟨i+1,⟨⟨by omega,?_⟩,by omega⟩,aeA ?_⟩
       ·rw [hft,← List.append_assoc];exact hJ3
       (focus (cbv;(try simp only [aN,aC,and_true,nc]);(try (repeat' (with_reducible apply And.intro)));(all_goals (try first|rfl|exact fun _ _=>LeL.of_eq rfl|exact LeL.of_eq rfl|trivial|omega))))
       exact w64n (by have:=kids_len hv;omega)
      ·(focus (refine aaG.op tF [] (fun ob K' hob hK=>?_);(cbv;refine abR hob hK ?_ ?_ ?_;(all_goals (first|with_reducible exact aN.2 trivial|with_reducible exact kN.2 trivial|((with_reducible rw [aC]);(focus ((try simp only [aC,aN,and_true,nc]);(repeat' (with_reducible apply And.intro));(all_goals (try first|exact pT|exact pF|exact fun _ h=>h|exact fun h=>h|trivial|omega|(simp;done)|(simp;omega)|grind)))))|(with_reducible rw [kC];(simp only [kC,kN,and_true,nc]))|(try dsimp only [nc]))));all_goals clear hob hK K' ob))
       refine aaG.done ?_
       (repeat (first|(with_reducible first|refine AWp.block ?_|refine AWp.skip ?_|refine AWp.exit ?_|refine AWp.ret ?_|refine tN ?_|refine aah ?_|refine aas ?_|refine bH ?_|refine bM rfl ?_|refine bN ?_|refine aai ?_|refine aaD ?_|refine rN ?_)|(first|focus (refine AWp.aaf tF mF 9 [15,16,17] [] (fun ob K' hob hK=>?_);(cbv;refine acW hob hK ?_ ?_ ?_;(all_goals (first|with_reducible exact aN.2 trivial|with_reducible exact kN.2 trivial|((with_reducible rw [aC]);(focus ((try simp only [aC,aN,and_true,nc]);(repeat' (with_reducible apply And.intro));(all_goals (try first|exact pT|exact pF|exact fun _ h=>h|exact fun h=>h|trivial|omega|(simp;done)|(simp;omega)|grind)))))|(with_reducible rw [kC];(simp only [kC,kN,and_true,nc]))|(try dsimp only [nc]))));all_goals clear hob hK K' ob)|(with_reducible refine AWp.seq ?_)|focus (refine AWp.region tF mF [] (fun ob K' hob hK=>?_);(cbv;refine aby hob hK ?_ ?_ ?_;(all_goals (first|with_reducible exact aN.2 trivial|with_reducible exact kN.2 trivial|((with_reducible rw [aC]);(focus ((try simp only [aC,aN,and_true,nc]);(repeat' (with_reducible apply And.intro));(all_goals (try first|exact pT|exact pF|exact fun _ h=>h|exact fun h=>h|trivial|omega|(simp;done)|(simp;omega)|grind)))))|(with_reducible rw [kC];(simp only [kC,kN,and_true,nc]))|(try dsimp only [nc]))));all_goals clear hob hK K' ob))))
       (focus (refine AWp.cond rfl (fun h4=>?_) (fun h4=>?_);all_goals (try simp only [nc,aaW] at h4)))
       ·(repeat (first|(with_reducible first|refine AWp.block ?_|refine AWp.skip ?_|refine AWp.exit ?_|refine AWp.ret ?_|refine tN ?_|refine aah ?_|refine aas ?_|refine bH ?_|refine bM rfl ?_|refine bN ?_|refine aai ?_|refine aaD ?_|refine rN ?_)|(first|focus (refine AWp.aaf tF mF 9 [15,16,17] [] (fun ob K' hob hK=>?_);(cbv;refine acW hob hK ?_ ?_ ?_;(all_goals (first|with_reducible exact aN.2 trivial|with_reducible exact kN.2 trivial|((with_reducible rw [aC]);(focus ((try simp only [aC,aN,and_true,nc]);(repeat' (with_reducible apply And.intro));(all_goals (try first|exact pT|exact pF|exact fun _ h=>h|exact fun h=>h|trivial|omega|(simp;done)|(simp;omega)|grind)))))|(with_reducible rw [kC];(simp only [kC,kN,and_true,nc]))|(try dsimp only [nc]))));all_goals clear hob hK K' ob)|(with_reducible refine AWp.seq ?_)|focus (refine AWp.region tF mF [] (fun ob K' hob hK=>?_);(cbv;refine aby hob hK ?_ ?_ ?_;(all_goals (first|with_reducible exact aN.2 trivial|with_reducible exact kN.2 trivial|((with_reducible rw [aC]);(focus ((try simp only [aC,aN,and_true,nc]);(repeat' (with_reducible apply And.intro));(all_goals (try first|exact pT|exact pF|exact fun _ h=>h|exact fun h=>h|trivial|omega|(simp;done)|(simp;omega)|grind)))))|(with_reducible rw [kC];(simp only [kC,kN,and_true,nc]))|(try dsimp only [nc]))));all_goals clear hob hK K' ob))))
        refine aeS rfl (.inr ⟨rfl,?_⟩)
        obtain ⟨q,hq,hqj⟩:=hJ3
        refine ⟨[[.int .i64 (fun _=>l),encV (d+1+1) .any fun _=>v]]++(((kz v).take i).map (pre (d+1) (l+1))).flatten++q,?_,by simpa [List.append_assoc] using hqj⟩
        rw [hpre,List.append_assoc]
        refine (List.prefix_append_right_inj [_]).2 (List.IsPrefix.trans ?_ (aeV _ _ (i+1)))
        rw [hft]
        exact (List.prefix_append_right_inj _).2 hq
       ·simp at h4
    ·simp at h3
     (repeat (first|(with_reducible first|refine AWp.block ?_|refine AWp.skip ?_|refine AWp.exit ?_|refine AWp.ret ?_|refine tN ?_|refine aah ?_|refine aas ?_|refine bH ?_|refine bM rfl ?_|refine bN ?_|refine aai ?_|refine aaD ?_|refine rN ?_)|(first|focus (refine AWp.aaf tF mF 9 [15,16,17] [] (fun ob K' hob hK=>?_);(cbv;refine acW hob hK ?_ ?_ ?_;(all_goals (first|with_reducible exact aN.2 trivial|with_reducible exact kN.2 trivial|((with_reducible rw [aC]);(focus ((try simp only [aC,aN,and_true,nc]);(repeat' (with_reducible apply And.intro));(all_goals (try first|exact pT|exact pF|exact fun _ h=>h|exact fun h=>h|trivial|omega|(simp;done)|(simp;omega)|grind)))))|(with_reducible rw [kC];(simp only [kC,kN,and_true,nc]))|(try dsimp only [nc]))));all_goals clear hob hK K' ob)|(with_reducible refine AWp.seq ?_)|focus (refine AWp.region tF mF [] (fun ob K' hob hK=>?_);(cbv;refine aby hob hK ?_ ?_ ?_;(all_goals (first|with_reducible exact aN.2 trivial|with_reducible exact kN.2 trivial|((with_reducible rw [aC]);(focus ((try simp only [aC,aN,and_true,nc]);(repeat' (with_reducible apply And.intro));(all_goals (try first|exact pT|exact pF|exact fun _ h=>h|exact fun h=>h|trivial|omega|(simp;done)|(simp;omega)|grind)))))|(with_reducible rw [kC];(simp only [kC,kN,and_true,nc]))|(try dsimp only [nc]))));all_goals clear hob hK K' ob))))
     refine aeS rfl (.inl ⟨rfl,?_⟩)
     have:i=(kz v).length:=by omega
     subst this
     have:=hi.2
     rw [List.take_length] at this
     rw [hpre]
     simpa [List.append_assoc] using this
   ·exact ai7 (parts_ok d v hv)
  ·(focus (refine aaG.op tF [] (fun ob K' hob hK=>?_);(cbv;refine abR hob hK ?_ ?_ ?_;(all_goals (first|with_reducible exact aN.2 trivial|with_reducible exact kN.2 trivial|((with_reducible rw [aC]);(focus ((try simp only [aC,aN,and_true,nc]);(repeat' (with_reducible apply And.intro));(all_goals (try first|exact pT|exact pF|exact fun _ h=>h|exact fun h=>h|trivial|omega|(simp;done)|(simp;omega)|grind)))))|(with_reducible rw [kC];(simp only [kC,kN,and_true,nc]))|(try dsimp only [nc]))));all_goals clear hob hK K' ob))
   refine aaG.done ?_
   (repeat (first|(with_reducible first|refine AWp.block ?_|refine AWp.skip ?_|refine AWp.exit ?_|refine AWp.ret ?_|refine tN ?_|refine aah ?_|refine aas ?_|refine bH ?_|refine bM rfl ?_|refine bN ?_|refine aai ?_|refine aaD ?_|refine rN ?_)|(first|focus (refine AWp.aaf tF mF 7 [] [] (fun ob K' hob hK=>?_);(cbv;refine acW hob hK ?_ ?_ ?_;(all_goals (first|with_reducible exact aN.2 trivial|with_reducible exact kN.2 trivial|((with_reducible rw [aC]);(focus ((try simp only [aC,aN,and_true,nc]);(repeat' (with_reducible apply And.intro));(all_goals (try first|exact pT|exact pF|exact fun _ h=>h|exact fun h=>h|trivial|omega|(simp;done)|(simp;omega)|grind)))))|(with_reducible rw [kC];(simp only [kC,kN,and_true,nc]))|(try dsimp only [nc]))));all_goals clear hob hK K' ob)|(with_reducible refine AWp.seq ?_)|focus (refine AWp.region tF mF [] (fun ob K' hob hK=>?_);(cbv;refine aby hob hK ?_ ?_ ?_;(all_goals (first|with_reducible exact aN.2 trivial|with_reducible exact kN.2 trivial|((with_reducible rw [aC]);(focus ((try simp only [aC,aN,and_true,nc]);(repeat' (with_reducible apply And.intro));(all_goals (try first|exact pT|exact pF|exact fun _ h=>h|exact fun h=>h|trivial|omega|(simp;done)|(simp;omega)|grind)))))|(with_reducible rw [kC];(simp only [kC,kN,and_true,nc]))|(try dsimp only [nc]))));all_goals clear hob hK K' ob))))
   (focus (refine AWp.cond rfl (fun h=>?_) (fun h=>?_);all_goals (try simp only [nc,aaW] at h)))
   ·(repeat (first|(with_reducible first|refine AWp.block ?_|refine AWp.skip ?_|refine AWp.exit ?_|refine AWp.ret ?_|refine tN ?_|refine aah ?_|refine aas ?_|refine bH ?_|refine bM rfl ?_|refine bN ?_|refine aai ?_|refine aaD ?_|refine rN ?_)|(first|focus (refine AWp.aaf tF mF 7 [] [] (fun ob K' hob hK=>?_);(cbv;refine acW hob hK ?_ ?_ ?_;(all_goals (first|with_reducible exact aN.2 trivial|with_reducible exact kN.2 trivial|((with_reducible rw [aC]);(focus ((try simp only [aC,aN,and_true,nc]);(repeat' (with_reducible apply And.intro));(all_goals (try first|exact pT|exact pF|exact fun _ h=>h|exact fun h=>h|trivial|omega|(simp;done)|(simp;omega)|grind)))))|(with_reducible rw [kC];(simp only [kC,kN,and_true,nc]))|(try dsimp only [nc]))));all_goals clear hob hK K' ob)|(with_reducible refine AWp.seq ?_)|focus (refine AWp.region tF mF [] (fun ob K' hob hK=>?_);(cbv;refine aby hob hK ?_ ?_ ?_;(all_goals (first|with_reducible exact aN.2 trivial|with_reducible exact kN.2 trivial|((with_reducible rw [aC]);(focus ((try simp only [aC,aN,and_true,nc]);(repeat' (with_reducible apply And.intro));(all_goals (try first|exact pT|exact pF|exact fun _ h=>h|exact fun h=>h|trivial|omega|(simp;done)|(simp;omega)|grind)))))|(with_reducible rw [kC];(simp only [kC,kN,and_true,nc]))|(try dsimp only [nc]))));all_goals clear hob hK K' ob))))
    exact aeS rfl (.inr ⟨rfl,_,⟨_,by rw [hpre];rfl⟩,hJ1⟩)
   ·simp at h
def boxV (d:Nat) (v:Unit→V):AV:=.eptr .any 6 (fun _=>1) (fun _=>cells d .any v) (fun _=>0) 0
set_option maxRecDepth 100000 in
theorem ahk (d:Nat) (v:V) (hv:V.le d v) (hd:d≤1073741824):ISpec Tryz.prog 214 (fun y=>[.val (.func (.yield y) #[] #[]),boxV d fun _=>v]) (fun _ _=>True) (pre d 1 v):=by
 obtain ⟨d,rfl⟩:=V.lP hv
 refine amX Tryz.func214 (by rfl) rfl (by rfl) (fun p g E hp hJ hall=>?_)
 refine AWp.amr ?_
 (focus (refine aaG.op tF [] (fun ob K' hob hK=>?_);(cbv;refine abR hob hK ?_ ?_ ?_;(all_goals (first|with_reducible exact aN.2 trivial|with_reducible exact kN.2 trivial|((with_reducible rw [aC]);(focus ((try simp only [aC,aN,and_true,nc]);(repeat' (with_reducible apply And.intro));(all_goals (try first|exact pT|exact pF|exact fun _ h=>h|exact fun h=>h|trivial|omega|(simp;done)|(simp;omega)|grind)))))|(with_reducible rw [kC];(simp only [kC,kN,and_true,nc]))|(try dsimp only [nc]))));all_goals clear hob hK K' ob))
 (focus (refine aaG.op tF [] (fun ob K' hob hK=>?_);(cbv;refine abR hob hK ?_ ?_ ?_;(all_goals (first|with_reducible exact aN.2 trivial|with_reducible exact kN.2 trivial|((with_reducible rw [aC]);(focus ((try simp only [aC,aN,and_true,nc]);(repeat' (with_reducible apply And.intro));(all_goals (try first|exact pT|exact pF|exact fun _ h=>h|exact fun h=>h|trivial|omega|(simp;done)|(simp;omega)|grind)))))|(with_reducible rw [kC];(simp only [kC,kN,and_true,nc]))|(try dsimp only [nc]))));all_goals clear hob hK K' ob))
 have hone:(1:Int)+((d+1:Nat):Int)≤4611686018427387904:=by omega
 refine aaG.into (args':=[encV (d+1) .any fun _=>v,.int .i64 (fun _=>1),.val (.func (.yield p.l) #[] #[])]) hp hJ rfl rfl rfl (visit_ok (d+1) v 1 hv (by omega) hone) hall (LeL.of_eq rfl) (by cbv) (fun E3 hE3 hJ3=>?_) (fun E3 hE3 hJ3=>?_)
 ·refine aaG.done ?_
  exact ⟨true,.inl ⟨rfl,hJ3⟩⟩
 ·refine aaG.done ?_
  exact ⟨false,.inr ⟨rfl,hJ3⟩⟩
set_option maxRecDepth 100000 in
theorem aeG (d:Nat) (v:V):Af Tryz.prog 148 [encV (d+1) .any fun _=>v] [] (.func 214 [.ptr 1 0]) [(1,.box (cells (d+1) .any fun _=>v))]:=by
 refine anM (rs:=[.tmp 2]) tF Tryz.func148 (by rfl) rfl (by rfl) (by rfl) (fun E=>?_)
 (repeat (first|(with_reducible first|refine AWp.block ?_|refine AWp.skip ?_|refine AWp.exit ?_|refine AWp.ret ?_|refine tN ?_|refine aah ?_|refine aas ?_|refine bH ?_|refine bM rfl ?_|refine bN ?_|refine aai ?_|refine aaD ?_|refine rN ?_)|(first|focus (refine AWp.aaf tF mF 3 [] [] (fun ob K' hob hK=>?_);(cbv;refine acW hob hK ?_ ?_ ?_;(all_goals (first|with_reducible exact aN.2 trivial|with_reducible exact kN.2 trivial|((with_reducible rw [aC]);(focus ((try simp only [aC,aN,and_true,nc]);(repeat' (with_reducible apply And.intro));(all_goals (try first|exact pT|exact pF|exact fun _ h=>h|exact fun h=>h|trivial|omega|(simp;done)|(simp;omega)|grind)))))|(with_reducible rw [kC];(simp only [kC,kN,and_true,nc]))|(try dsimp only [nc]))));all_goals clear hob hK K' ob)|(with_reducible refine AWp.seq ?_)|focus (refine AWp.region tF mF [] (fun ob K' hob hK=>?_);(cbv;refine aby hob hK ?_ ?_ ?_;(all_goals (first|with_reducible exact aN.2 trivial|with_reducible exact kN.2 trivial|((with_reducible rw [aC]);(focus ((try simp only [aC,aN,and_true,nc]);(repeat' (with_reducible apply And.intro));(all_goals (try first|exact pT|exact pF|exact fun _ h=>h|exact fun h=>h|trivial|omega|(simp;done)|(simp;omega)|grind)))))|(with_reducible rw [kC];(simp only [kC,kN,and_true,nc]))|(try dsimp only [nc]))));all_goals clear hob hK K' ob))))
 (focus (cbv;(try simp only [aN,aC,and_true,nc]);(try (repeat' (with_reducible apply And.intro)));(all_goals (try first|rfl|exact fun _ _=>LeL.of_eq rfl|exact LeL.of_eq rfl|trivial|omega))))
end Go.Ai
