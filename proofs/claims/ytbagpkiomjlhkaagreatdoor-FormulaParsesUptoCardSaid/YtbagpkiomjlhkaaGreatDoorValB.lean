/- utf8.ValidString: a contract of the abstract machine's. -/
import Derived.Test.YtbagpkiomjlhkaaGreatDoorFnD
import Derived.Test.YtbagpkiomjlhkaaGreatDoorTabs
import Derived.Test.YtbagpkiomjlhkaaGreatDoorValA
set_option linter.all false
namespace Go.Ai
open Go Go.Proofs Go.RowKit
def Af.pureT{P:Program}{f:FuncId}{args:List AV}{vals:Array Value}{res:AV}{v:Value}{fn:Func}{c:Code}(hf:P.funcs[f]? = some fn)(ha:args.map scal=vals.toList.map some)(hr:scal res=some v)
 (h : ∀ w, Lib.Utf8Tabs tabA tabB w → Calls P f vals w fun e w' => e = .returned v ∧ Below w.heap.size w w') (hname : (fn.name == "runtime.NumGoroutine") = false := by rfl) (hb : fn.body = some c := by rfl) : Af P f args [] res [] := by
 refine⟨aco hf hname hb,fun E β vs hpin hdf hY h0=>?_⟩;have hlen:args.length=vals.size:=by simpa using congrArg List.length ha
 have hvs:vs=vals:=by
  refine Array.ext ?_ fun i h1 h2=>?_
  ·have:=h0.size;simp only at this;omega
  ·have hi:i<args.length:=by omega
   have h3:=h0.tmps i args[i] (List.getElem?_eq_getElem hi);have h4:=congrArg (fun l=>l[i]?) ha;simp only[List.getElem?_map,List.getElem?_eq_getElem hi,Option.map_some]at h4;have h5:vals.toList[i]? = some vals[i]:=by simp[h2]
   rw[h5]at h4;simp only[Option.map_some,Option.some.injEq]at h4;have:=agf h4 h3;simpa[Array.getD,h1]using this
 subst hvs;refine(h E.w0 E.hT.u).mono fun e w' ⟨he,hw⟩=>⟨v,β,he,?_,fun o hi=>hi.elim⟩
 obtain⟨b1,b2,b3,b4,b5⟩:=hw;refine⟨hdf.symm,rfl,fun t av ht=>?_,fun o=>trivial,fun o o' b _ hi=>hi.elim,⟨b1,b2,b3,b4,fun b hb _=>b5 b hb⟩,fun o u n0 hp=>by rw[hpin o]at hp;cases hp⟩;cases t with
 | zero=>simp at ht;subst ht;exact .d (alQ hr)
 | succ t=>simp at ht
def valid_ok(s:ByteArray)(hs:s.size<=9223372036854775807):Af Tryz.prog 207 [.str fun _=>s] [] (.bool fun _=>Lib.validD s.data.toList) []:=
 Af.pureT (vals:=#[.string s]) Tryz.func207 rfl rfl fun w hT=>Tryz.utf8_ValidString s w hs hT
end Go.Ai

namespace Go.Ai
open Go Go.Proofs
set_option maxRecDepth 100000
set_option maxHeartbeats 4000000
def preV:Nat->Int->V->List (Int×Nat×V)
 | 0,_,_=>[]
 | d+1,l,v=>(l,d,v)::((kz v).map (preV d (l+1))).flatten
def elE(p:Int×Nat×V):List AV:=[.int .i64 fun _=>p.1,encV (p.2.1+1) .any fun _=>p.2.2]
theorem pre_eq:∀(d:Nat) (l:Int) (v:V),pre d l v=(preV d l v).map elE
 | 0,_,_=>rfl
 | d+1,l,v=>by
  simp only[pre,preV,List.map_cons,List.map_flatten,List.map_map];congr 3;funext x;exact pre_eq d (l+1) x
theorem aiH:∀(d:Nat) (l:Int) (v:V),V.le d v->∀p∈preV d l v,V.le (p.2.1+1) p.2.2
 | 0,_,_,h=>h.elim
 | d+1,l,v,h=>fun p hp=>by
  simp only[preV,List.mem_cons,List.mem_flatten,List.mem_map]at hp;rcases hp with rfl|⟨q,⟨y,hy,rfl⟩,hq⟩
  ·exact h
  ·exact aiH d (l+1) y (amT h hy) p hq
def pre_at{d:Nat}{l:Int}{v:V}{g:List (List AV)}{el:List AV}(h:g++[el] <+: pre d l v):∃p,(preV d l v)[g.length]? = some p∧el=elE p:=by
 rw[pre_eq]at h;obtain⟨t,ht⟩:=h;have:((preV d l v).map elE)[g.length]? = some el:=by rw[<- ht];simp
 rw[List.getElem?_map]at this;cases hq:(preV d l v)[g.length]? with
 | none=>rw[hq]at this;cases this
 | some p=>rw[hq]at this;exact⟨p,rfl,by simpa using this.symm⟩
def ahP{f:Nat->Int}{n k:Nat}(hk:k<n)(h:fI f n=0):f k=0:=by
 have h1:=ad7 (i:=k+1) hk h;have h2:=ad7 (i:=k) (Nat.le_of_lt hk) h;simpa[fI,h2]using h1
def ad9(vs:ByteArray->Bool)(l:List (Int×Nat×V))(k:Nat):Int:=
 match l[k]? with
 | none=>0
 | some p=>if 4096<=k then 9 else if 8<p.1 then 23 else ownE vs p.2.2
def ag1(vs:ByteArray->Bool)(l:List (Int×Nat×V)):Int:=fI (ad9 vs l) l.length
def ajx:Af Tryz.prog 147 [] [] (.agg [.nilf,.func 200 [],.func 202 [],.func 203 [],.func 205 [],.func 208 [],.func 209 [],.func 210 [],.func 211 [],.func 212 [],.func 213 []]) []:=by
 (refine fA [.cell 0 163] kp147 [] Tryz.func147 fun _=>?_;repeat' with_reducible first|exact⟨⟩|refine mA ?_ ?_|refine mC (fun _=>?_) fun _=>?_)
 all_goals exact eZ
def rule4_ok(vs:ByteArray->Bool)(d:Nat)(v:V)(hV:Af Tryz.prog 207 [.str fun _=>v.text] [] (.bool fun _=>vs v.text) []):Af Tryz.prog 205 [encV d .any fun _=>v] [] (.int .i64 fun _=>if abT v.text.size 1024 5=0∧vs v.text=false then 16 else abT v.text.size 1024 5) []:=by
 (apply Af.of tF mF [.tmp 2] kp205 [(1,[(3,.int .i64 (fun _=>?r1),[])]),(2,[(5,.bool (fun _=>?r2),[])])] Tryz.func205 (fun _=>?_);(repeat' with_reducible first|exact nY|refine oC ?_ ?_|refine vQ ?_ ?_ ?_|refine cV (fun _=>?_) fun _=>?_|refine wQ ?_|fail))
 (any_goals((with_reducible refine bZ ?_)<;>exact(adi _ _ _)))
 (any_goals((with_reducible refine bZ ?_)<;>exact hV))
 (all_goals try first|exact eZ|with_reducible (refine rQ ?_;repeat' first|apply And.intro|exact wZ)|(refine sQ ?_;repeat' first|with_reducible apply And.intro|exact cZ))
 all_goals rename_i h
 ·split at h
  ·rename_i h2;simp only[Bool.not_eq_true']at h;rw[if_pos ⟨h2,h⟩]
  ·cases h
 ·split at h
  ·rename_i h2;simp only[Bool.not_eq_false']at h;rw[if_neg (fun q=>by rw[h]at q;exact absurd q.2 (by simp))]
  ·rename_i h2;rw[if_neg (fun q=>h2 q.1)]
def chkO(r n:Unit->Int):List (Nat×AO):=[(2,.box [.int .i64 r]),(3,.box [.nilf,.func 200 [],.func 202 [],.func 203 [],.func 205 [],.func 208 [],.func 209 [],.func 210 [],.func 211 [],.func 212 [],.func 213 []]),(4,.box [.int .i64 n])]
def ak7(r n r' n':Unit->Int)(o:Nat):(oL (chkO r n) o).is↔(oL (chkO r' n') o).is:=by
 simp only[chkO,oL];split
 ·exact Iff.rfl
 ·split
  ·exact Iff.rfl
  ·split<;>exact Iff.rfl
def agY(vs:ByteArray->Bool)(d:Nat)(v:V)(hv:V.le (d+1) v)(hd:d+1<=1073741824)(hkd:kz v=[])(hk7:v.kind<=7)(hV:∀p∈preV (d+1) 1 v,p.2.2.kind=4->Af Tryz.prog 207 [.str fun _=>p.2.2.text] [] (.bool fun _=>vs p.2.2.text) []):
 Af Tryz.prog 99 [encV (d+1) .any fun _=>v] [] (.int .i64 fun _=>ag1 vs (preV (d+1) 1 v)) []:=by
 (apply Af.of tF mF [.cell 2 28] kp99 [(1,[(0,ajx.out)]),(3,[(1,(aeG d v).out)])] Tryz.func99 (fun _=>?_);(repeat' with_reducible first|exact nY|refine oC ?_ ?_|refine vQ ?_ ?_ ?_|refine cV (fun _=>?_) fun _=>?_|refine wQ ?_|fail))
 (any_goals((with_reducible refine bZ ?_)<;>exact ajx))
 (any_goals((with_reducible refine bZ ?_)<;>exact(aeG d v)))
 (all_goals try first|exact eZ|with_reducible (refine rQ ?_;repeat' first|apply And.intro|exact wZ)|(refine sQ ?_;repeat' first|with_reducible apply And.intro|exact cZ))
 have hlen:∀g el,g++[el] <+: pre (d+1) 1 v->fI (ad9 vs (preV (d+1) 1 v)) g.length=0->g.length<=4096:=fun g el hp h0=>Nat.le_of_not_lt fun hlt=>by
  have hl:4096<(preV (d+1) 1 v).length:=by
   have:=hp.length_le;rw[pre_eq]at this;simp only[List.length_append,List.length_cons,List.length_nil,List.length_map]at this;omega
  have h2:=ahP hlt h0;simp only[ad9,List.getElem?_eq_getElem hl]at h2;rw[if_pos (Nat.le_refl _)]at h2;exact absurd h2 (by decide)
 refine LpVC.range 46 [(10,.func 214 [boxV (d+1) fun _=>v]),(4,.ptr 4 0),(3,.ptr 3 0),(2,.ptr 2 0)] (fun g=>chkO (fun _=>0) (fun _=>g.length)) (fun _ g=>chkO (fun _=>ag1 vs (preV (d+1) 1 v)) (fun _=>g.length))
  (fun g=>fI (ad9 vs (preV (d+1) 1 v)) g.length=0) (fun e _=>e=.ret) ?_ rfl rfl (LeL.of_eq rfl) (by cbv) (ahk (d+1) v hv hkd hd) (fun _=>rfl) (fun _ _=>rfl) (fun g o=>ak7 _ _ _ _ o) (fun e g o=>ak7 _ _ _ _ o) (fun el hel=>?_) (fun g el hpre hI E' l=>?_) (fun E' hE' hI=>?_) (fun E' e pre hE' he hpre=>?_)
 ·exact aZ
 ·rw[pre_eq]at hel;obtain⟨p,_,rfl⟩:=List.mem_map.1 hel;rfl
 ·obtain⟨p,hp,rfl⟩:=pre_at hpre;obtain⟨lvl,e,x⟩:=p;have hx7:x.kind<=7:=by
   have e0:preV (d+1) 1 v=[(1,d,v)]:=by
    show(1,d,v)::((kz v).map (preV d (1+1))).flatten=_;rw[hkd];rfl
   have hm:=List.mem_of_getElem? hp;rw[e0]at hm;cases List.mem_singleton.1 hm;exact hk7
  have hC:ad9 vs (preV (d+1) 1 v) g.length=if 4096<=g.length then 9 else if 8<lvl then 23 else ownE vs x:=by simp only[ad9,hp]
  have hlt:g.length<(preV (d+1) 1 v).length:=(List.getElem?_eq_some_iff.1 hp).1;have hfin:∀c,(if 4096<=g.length then 9 else if 8<lvl then 23 else ownE vs x)=c->c≠0->c=ag1 vs (preV (d+1) 1 v):=fun c h1 h2=>by
   rw[<- hC]at h1;subst h1;exact(aeX hlt hI h2).symm
  have hnext:(if 4096<=g.length then 9 else if 8<lvl then 23 else ownE vs x)=0->fI (ad9 vs (preV (d+1) 1 v)) (g++[elE (lvl,e,x)]).length=0:=fun h1=>by
   rw[<- hC]at h1;simp only[List.length_append,List.length_cons,List.length_nil,Nat.zero_add,fI,hI,h1];simp
  have hgl:=hlen g _ hpre hI;have hglen:(g++[elE (lvl,e,x)]).length=g.length+1:=by simp
  generalize hg':g++[elE (lvl,e,x)]=g' at hnext hglen ⊢;apply AWp.wk tF mF [] kp99 ?_
  (repeat' with_reducible first|exact nY|refine oC ?_ ?_|refine vQ ?_ ?_ ?_|refine cV (fun _=>?_) fun _=>?_|refine wQ ?_|fail)
  refine al5 fun _ E''=>?_;by_cases hk:1<=x.kind∧x.kind<=10
  ·obtain⟨k,i,sc,t,ll,f⟩:=x;simp only[V.kind]at hk;have hk2:k=1∨k=2∨k=3∨k=4∨k=5∨k=6∨k=7:=by
    have:k<=7:=hx7;omega
   have hk3:¬(k<1∨10<k):=by omega
   have hkk:(V.mk k i sc t ll f).kind=k:=rfl;have hVt:k=4->Af Tryz.prog 207 [.str fun _=>t] [] (.bool fun _=>vs t) []:=hV _ (List.mem_of_getElem? hp);clear hk hp hpre hx7 hC hlt hI hlen hg';rcases hk2 with rfl|rfl|rfl|rfl|rfl|rfl|rfl
   all_goals
    first
     | have hr:=ruleE1 (vs:=vs) hkk
     | have hr:=ruleE2 (vs:=vs) hkk
     | have hr:=ruleE3 (vs:=vs) hkk
     | have hr:=ruleE4 (vs:=vs) hkk
     | have hr:=ruleE5 (vs:=vs) hkk
     | have hr:=ruleE6 (vs:=vs) hkk
     | have hr:=ruleE7 (vs:=vs) hkk
    clear hkk;apply AWp.wk tF mF [(11,[(1,.bool (fun _=>?_),[])]),(15,[(1,.bool (fun _=>?_),[])]),(17,[(5,.int .i64 (fun _=>?_),[])])] kp99 ?_
    (repeat' with_reducible first|exact nY|refine oC ?_ ?_|refine vQ ?_ ?_ ?_|refine cV (fun _=>?_) fun _=>?_|refine wQ ?_|fail)
    (any_goals((with_reducible refine bZ ?_)<;>exact(ain (e+1) (V.mk _ i sc t ll f))))
    (any_goals((with_reducible refine bZ ?_)<;>exact(uses_ok (e+1) (V.mk _ i sc t ll f))))
    first
     | (any_goals((with_reducible refine bZ ?_)<;>exact(rule1_ok (e+1) (V.mk _ i sc t ll f))))
     | (any_goals((with_reducible refine bZ ?_)<;>exact(rule2_ok (e+1) (V.mk _ i sc t ll f))))
     | (any_goals((with_reducible refine bZ ?_)<;>exact(rule3_ok (e+1) (V.mk _ i sc t ll f))))
     | (any_goals((with_reducible refine bZ ?_)<;>exact(rule4_ok vs (e+1) (V.mk _ i sc t ll f) (hVt rfl))))
     | (any_goals((with_reducible refine bZ ?_)<;>exact(rule5_ok (e+1) (V.mk _ i sc t ll f))))
     | (any_goals((with_reducible refine bZ ?_)<;>exact(rule6_ok (e+1) (V.mk _ i sc t ll f))))
     | (any_goals((with_reducible refine bZ ?_)<;>exact(rule7_ok (e+1) (V.mk _ i sc t ll f))))
     | skip
    (all_goals try first|exact eZ|with_reducible (refine rQ ?_;repeat' first|apply And.intro|exact wZ)|(refine sQ ?_;repeat' first|with_reducible apply And.intro|exact cZ))
    all_goals(try(simp(disch:=omega) only[w64]at*))
    all_goals(first
     | (refine ak4 rfl ?_
        (focus(refine aQ ?_;repeat' first|with_reducible apply And.intro|exact wZ|fail))<;>first
          | (rw[hglen,w64 (by omega) (by omega)];rfl)
          | (with_reducible refine hfin 9 ?_ (by decide));exact if_pos (by omega)
          | (with_reducible refine hfin 23 ?_ (by decide));exact(if_neg (by omega)).trans (if_pos (by omega))
          | (with_reducible refine hfin 19 ?_ (by decide));exact(if_neg (by omega)).trans ((if_neg (by omega)).trans (ajO ‹_›))
          | (with_reducible refine hfin 3 ?_ (by decide));exact(if_neg (by omega)).trans ((if_neg (by omega)).trans (own_uses ‹_› (by simp only[V.kind];omega) ‹_›))
          | (with_reducible refine hfin _ ?_ ‹_›);exact(if_neg (by omega)).trans ((if_neg (by omega)).trans ((ajN ‹_› (by simp only[V.kind];omega) ‹_›).trans hr)))
     | (refine end_next (hnext ((if_neg (by omega)).trans ((if_neg (by omega)).trans ((ajN ‹_› (by simp only[V.kind];omega) ‹_›).trans (hr.trans ‹_›))))) ?_
        (focus(refine aQ ?_;repeat' first|with_reducible apply And.intro|exact wZ|fail))<;>(rw[hglen,w64 (by omega) (by omega)];rfl))
     | skip)
  ·have hk3:x.kind<1∨10<x.kind:=by omega
   apply AWp.wk tF mF [(11,[(1,.bool (fun _=>?_),[])]),(15,[(1,.bool (fun _=>?_),[])]),(17,[(5,.int .i64 (fun _=>?_),[])])] kp99 ?_
   (repeat' with_reducible first|exact nY|refine oC ?_ ?_|refine vQ ?_ ?_ ?_|refine cV (fun _=>?_) fun _=>?_|refine wQ ?_|fail)
   all_goals(try exact absurd ‹1<=x.kind∧x.kind<=10› hk)
   (any_goals((with_reducible refine bZ ?_)<;>exact(ain (e+1) x)))
   (all_goals try first|exact eZ|with_reducible (refine rQ ?_;repeat' first|apply And.intro|exact wZ)|(refine sQ ?_;repeat' first|with_reducible apply And.intro|exact cZ))
   all_goals(try(simp(disch:=omega) only[w64]at*))
   all_goals(first
    | (refine ak4 rfl ?_
       (focus(refine aQ ?_;repeat' first|with_reducible apply And.intro|exact wZ|fail))<;>first
         | (rw[hglen,w64 (by omega) (by omega)];rfl)
         | (with_reducible refine hfin 9 ?_ (by decide));exact if_pos (by omega)
         | (with_reducible refine hfin 23 ?_ (by decide));exact(if_neg (by omega)).trans (if_pos (by omega))
         | (with_reducible refine hfin 19 ?_ (by decide));exact(if_neg (by omega)).trans ((if_neg (by omega)).trans (ajO ‹_›))
         | (with_reducible refine hfin 11 ?_ (by decide));exact(if_neg (by omega)).trans ((if_neg (by omega)).trans (own_kind ‹_› hk3)))
    | exact false
    | exact(0:Int))
 ·have hseq:(pre (d+1) 1 v).length=(preV (d+1) 1 v).length:=by rw[pre_eq];simp
  rw[hseq]at hI
  (repeat' with_reducible first|exact nY|refine oC ?_ ?_|refine vQ ?_ ?_ ?_|refine cV (fun _=>?_) fun _=>?_|refine wQ ?_|fail)
  (all_goals try first|exact eZ|with_reducible (refine rQ ?_;repeat' first|apply And.intro|exact wZ)|(refine sQ ?_;repeat' first|with_reducible apply And.intro|exact cZ))
  exact hI.symm
 ·cases he;cbv;refine rE ?_
  exact aZ
end Go.Ai
