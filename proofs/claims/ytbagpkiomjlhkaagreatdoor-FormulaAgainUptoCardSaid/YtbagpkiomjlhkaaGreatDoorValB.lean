/- utf8.ValidString: a contract of the abstract machine's. -/
import Derived.Test.YtbagpkiomjlhkaaGreatDoorFnD
import Derived.Test.YtbagpkiomjlhkaaGreatDoorTabs
import Derived.Test.YtbagpkiomjlhkaaGreatDoorValA
set_option linter.all false
namespace Go.Ai
open Go Go.Proofs Go.RowKit Tryz
def Af.YP{P:Program}{f:FuncId}{args:List AV}{vals:Array Value}{res:AV}{v:Value}{fn:Func}{c:Code}(hf:P.funcs[f]? = some fn)(ha:args.map mq=vals.toList.map some)(hr:mq res=some v)
 (h : ∀ w, Lib.Utf8Tabs BL BM w → Calls P f vals w fun e w' => e = .returned v ∧ Below w.heap.size w w') (hname : (fn.name == "runtime.NumGoroutine") = false := by rfl) (hb : fn.body = some c := by rfl) : Af P f args [] res [] := by
 refine⟨lm hf hname hb,fun E β vs cC hdf hY h0=>?_⟩;have hlen:args.length=vals.size:=by simpa using ak List.length ha
 have hvs:vs=vals:=by
  refine sB ?_ fun i h1 h2=>?_
  ·have:=h0.size;simp only at this;omega
  ·have hi:i<args.length:=by omega
   have h3:=h0.tmps i args[i] (bf hi);have h4:=ak (fun l=>l[i]?) ha;simp only[gC,bf hi,eM]at h4;have h5:vals.toList[i]? = some vals[i]:=by simp[h2]
   rw[h5]at h4;simp only[eM,cB]at h4;have:=Dw h4 h3;simpa[Array.getD,h1]using this
 subst hvs;refine(h E.w0 E.hT.u).mono fun e w' ⟨he,hw⟩=>⟨v,β,he,?_,fun o hi=>hi.elim⟩
 obtain⟨b1,b2,b3,b4,b5⟩:=hw;refine⟨hdf.symm,rfl,fun t av ht=>?_,fun o=>trivial,fun o o' b _ hi=>hi.elim,⟨b1,b2,b3,b4,fun b hb _=>b5 b hb⟩,fun o u n0 hp=>by rw[cC o]at hp;cases hp⟩;cases t with
 | zero=>simp at ht;subst ht;exact .d (IY hr)
 | succ t=>simp at ht
def Je(s:ByteArray)(hs:s.size<=9223372036854775807):Af prog 207 [.str fun _=>s] [] (.bool fun _=>Lib.validD s.data.toList) []:=
 Af.YP (vals:=#[.string s]) func207 rfl rfl fun w hT=>utf8_ValidString s w hs hT
end Go.Ai

namespace Go.Ai
open Go Go.Proofs Tryz
set_option maxRecDepth 100000
set_option maxHeartbeats 4000000
def fa:Nat->Int->V->List (Int×Nat×V)
 | 0,_,_=>[]
 | d+1,l,v=>(l,d,v)::((kz v).map (fa d (l+1))).flatten
def uH(p:Int×Nat×V):List AV:=[.int .i64 fun _=>p.1,aK (p.2.1+1) .any fun _=>p.2.2]
theorem pre_eq:∀(d:Nat) (l:Int) (v:V),pre d l v=(fa d l v).map uH
 | 0,_,_=>rfl
 | d+1,l,v=>by
  simp only[pre,fa,fZ,List.map_flatten,xR];congr 3;funext x;exact pre_eq d (l+1) x
theorem zJ:∀(d:Nat) (l:Int) (v:V),V.le d v->∀p∈fa d l v,V.le (p.2.1+1) p.2.2
 | 0,_,_,h=>h.elim
 | d+1,l,v,h=>fun p hp=>by
  simp only[fa,bW,List.mem_flatten,gG]at hp;rcases hp with rfl|⟨q,⟨y,hy,rfl⟩,hq⟩
  ·exact h
  ·exact zJ d (l+1) y (My h hy) p hq
def YQ{d:Nat}{l:Int}{v:V}{g:List (List AV)}{el:List AV}(h:g++[el] <+: pre d l v):∃p,(fa d l v)[g.length]? = some p∧el=uH p:=by
 rw[pre_eq]at h;obtain⟨t,ht⟩:=h;have:((fa d l v).map uH)[g.length]? = some el:=by rw[<- ht];simp
 rw[gC]at this;cases hq:(fa d l v)[g.length]? with
 | none=>rw[hq]at this;cases this
 | some p=>rw[hq]at this;exact⟨p,rfl,by simpa using this.symm⟩
def Lq{f:Nat->Int}{n k:Nat}(hk:k<n)(h:fI f n=0):f k=0:=by
 have h1:=Dv (i:=k+1) hk h;have h2:=Dv (i:=k) (Nat.le_of_lt hk) h;simpa[fI,h2]using h1
def sA(vs:ByteArray->Bool)(l:List (Int×Nat×V))(k:Nat):Int:=
 match l[k]? with
 | none=>0
 | some p=>if 4096<=k then 9 else if 8<p.1 then 23 else iz vs p.2.2
def ru(vs:ByteArray->Bool)(l:List (Int×Nat×V)):Int:=fI (sA vs l) l.length
def MC:Af prog 147 [] [] (.agg [.bt,.func 200 [],.func 202 [],.func 203 [],.func 205 [],.func 208 [],.func 209 [],.func 210 [],.func 211 [],.func 212 [],.func 213 []]) []:=by
 (refine fA [.cell 0 163] Yt [] func147 fun _=>?_;repeat' first|exact⟨⟩|apply mA|apply mC<;>intro)
 all_goals exact eZ
def YR(vs:ByteArray->Bool)(d:Nat)(v:V)(hV:Af prog 207 [.str fun _=>v.text] [] (.bool fun _=>vs v.text) []):Af prog 205 [aK d .any fun _=>v] [] (.int .i64 fun _=>if fQ v.text.size 1024 5=0∧vs v.text=false then 16 else fQ v.text.size 1024 5) []:=by
 (apply Af.of tF mF [.tmp 2] Yu [(1,[(3,.int .i64 (fun _=>?r1),[])]),(2,[(5,.bool (fun _=>?r2),[])])] func205 (fun _=>?_);(repeat' with_reducible first|exact nY|refine oC ?_ ?_|refine vQ ?_ ?_ ?_|refine cV (fun _=>?_) fun _=>?_|refine wQ ?_|fail))
 (any_goals((with_reducible refine bZ ?_)<;>exact(wF _ _ _)))
 (any_goals((with_reducible refine bZ ?_)<;>exact hV))
 (all_goals try first|exact eZ|with_reducible (refine rQ ?_;repeat' first|apply ai|exact wZ)|(refine sQ ?_;repeat' first|with_reducible apply ai|exact cZ))
 all_goals rename_i h
 ·split at h
  ·rename_i h2;simp only[ij]at h;rw[ae ⟨h2,h⟩]
  ·cases h
 ·split at h
  ·rename_i h2;simp only[Bool.not_eq_false']at h;rw[aa (fun q=>by rw[h]at q;exact absurd q.2 zsi)]
  ·rename_i h2;rw[aa (fun q=>h2 q.1)]
def xJ(r n:Unit->Int):List (Nat×AO):=[(2,.box [.int .i64 r]),(3,.box [.bt,.func 200 [],.func 202 [],.func 203 [],.func 205 [],.func 208 [],.func 209 [],.func 210 [],.func 211 [],.func 212 [],.func 213 []]),(4,.box [.int .i64 n])]
def MD(r n r' n':Unit->Int)(o:Nat):(oL (xJ r n) o).is↔(oL (xJ r' n') o).is:=by
 simp only[xJ,oL];split
 ·exact Iff.rfl
 ·split
  ·exact Iff.rfl
  ·split<;>exact Iff.rfl
def JY(vs:ByteArray->Bool)(d:Nat)(v:V)(hv:V.le (d+1) v)(hd:d+1<=1073741824)(hV:∀p∈fa (d+1) 1 v,p.2.2.kind=4->Af prog 207 [.str fun _=>p.2.2.text] [] (.bool fun _=>vs p.2.2.text) []):
 Af prog 99 [aK (d+1) .any fun _=>v] [] (.int .i64 fun _=>ru vs (fa (d+1) 1 v)) []:=by
 (apply Af.of tF mF [.cell 2 28] AT [(1,[(0,MC.out)]),(3,[(1,(MB d v).out)])] func99 (fun _=>?_);(repeat' with_reducible first|exact nY|refine oC ?_ ?_|refine vQ ?_ ?_ ?_|refine cV (fun _=>?_) fun _=>?_|refine wQ ?_|fail))
 (any_goals((with_reducible refine bZ ?_)<;>exact MC))
 (any_goals((with_reducible refine bZ ?_)<;>exact(MB d v)))
 (all_goals try first|exact eZ|with_reducible (refine rQ ?_;repeat' first|apply ai|exact wZ)|(refine sQ ?_;repeat' first|with_reducible apply ai|exact cZ))
 have hlen:∀g el,g++[el] <+: pre (d+1) 1 v->fI (sA vs (fa (d+1) 1 v)) g.length=0->g.length<=4096:=fun g el hp h0=>Bd fun hlt=>by
  have hl:4096<(fa (d+1) 1 v).length:=by
   have:=hp.length_le;rw[pre_eq]at this;simp only[du,bp,bV,kr]at this;omega
  have h2:=Lq hlt h0;simp only[sA,bf hl]at h2;rw[ae (ao _)]at h2;exact absurd h2 zd
 refine iJ.range 46 [(10,.func 214 [MA (d+1) fun _=>v]),(4,.ptr 4 0),(3,.ptr 3 0),(2,.ptr 2 0)] (fun g=>xJ (fun _=>0) (fun _=>g.length)) (fun _ g=>xJ (fun _=>ru vs (fa (d+1) 1 v)) (fun _=>g.length))
  (fun g=>fI (sA vs (fa (d+1) 1 v)) g.length=0) (fun e _=>e=.ret) ?_ rfl rfl (aD.of_eq rfl) (by cbv) (YO (d+1) v hv hd) (fun _=>rfl) (fun _ _=>rfl) (fun g o=>MD _ _ _ _ o) (fun e g o=>MD _ _ _ _ o) (fun el hel=>?_) (fun g el hpre hI E' l=>?_) (fun E' hE' hI=>?_) (fun E' e pre hE' he hpre=>?_)
 ·exact aZ
 ·rw[pre_eq]at hel;obtain⟨p,_,rfl⟩:=gG.1 hel;rfl
 ·obtain⟨p,hp,rfl⟩:=YQ hpre;obtain⟨lvl,e,x⟩:=p;have hx:=zJ (d+1) 1 v hv _ (je hp);have hC:sA vs (fa (d+1) 1 v) g.length=if 4096<=g.length then 9 else if 8<lvl then 23 else iz vs x:=by simp only[sA,hp]
  have hlt:g.length<(fa (d+1) 1 v).length:=(bX.1 hp).1;have hfin:∀c,(if 4096<=g.length then 9 else if 8<lvl then 23 else iz vs x)=c->c≠0->c=ru vs (fa (d+1) 1 v):=fun c h1 h2=>by
   rw[<- hC]at h1;subst h1;exact(zA hlt hI h2).symm
  have hnext:(if 4096<=g.length then 9 else if 8<lvl then 23 else iz vs x)=0->fI (sA vs (fa (d+1) 1 v)) (g++[uH (lvl,e,x)]).length=0:=fun h1=>by
   rw[<- hC]at h1;simp only[du,bp,bV,eC,fI,hI,h1];simp
  have hgl:=hlen g _ hpre hI;have AW:(g++[uH (lvl,e,x)]).length=g.length+1:=zsi
  generalize hg':g++[uH (lvl,e,x)]=g' at hnext AW ⊢;apply af.wk tF mF [] AT ?_
  (repeat' with_reducible first|exact nY|refine oC ?_ ?_|refine vQ ?_ ?_ ?_|refine cV (fun _=>?_) fun _=>?_|refine wQ ?_|fail)
  refine QD fun _ fq=>?_;by_cases hk:1<=x.kind∧x.kind<=10
  ·obtain⟨k,i,sc,t,ll,f⟩:=x;simp only[V.kind]at hk;have hk2:k=1∨k=2∨k=3∨k=4∨k=5∨k=6∨k=7∨k=8∨k=9∨k=10:=by omega
   have hts:t.size<=1073741824:=hx.2.2.1;have hns:∀y∈f,y.1.size<=35184372088832:=fun y hy=>aG (hx.2.2.2.2 y hy).1 zd;have hk3:¬(k<1∨10<k):=zo
   have hkk:(V.mk k i sc t ll f).kind=k:=rfl;have YS:k=4->Af prog 207 [.str fun _=>t] [] (.bool fun _=>vs t) []:=hV _ (je hp);clear hk hp hpre hx hC hlt hI hlen hg';rcases hk2 with rfl|rfl|rfl|rfl|rfl|rfl|rfl|rfl|rfl|rfl
   all_goals
    first
     | have hr:=JZ (vs:=vs) hkk
     | have hr:=J0 (vs:=vs) hkk
     | have hr:=J2 (vs:=vs) hkk
     | have hr:=YD (vs:=vs) hkk
     | have hr:=YE (vs:=vs) hkk
     | have hr:=YF (vs:=vs) hkk
     | have hr:=YG (vs:=vs) hkk
     | have hr:=YH (vs:=vs) hkk
     | have hr:=YI (vs:=vs) hkk
     | have hr:=YJ (vs:=vs) hkk
    clear hkk;apply af.wk tF mF [(11,[(1,.bool (fun _=>?_),[])]),(15,[(1,.bool (fun _=>?_),[])]),(17,[(5,.int .i64 (fun _=>?_),[])])] AT ?_
    (repeat' with_reducible first|exact nY|refine oC ?_ ?_|refine vQ ?_ ?_ ?_|refine cV (fun _=>?_) fun _=>?_|refine wQ ?_|fail)
    (any_goals((with_reducible refine bZ ?_)<;>exact(IS (e+1) (V.mk _ i sc t ll f))))
    (any_goals((with_reducible refine bZ ?_)<;>exact(Q7 (e+1) (V.mk _ i sc t ll f))))
    first
     | (any_goals((with_reducible refine bZ ?_)<;>exact(Rc (e+1) (V.mk _ i sc t ll f))))
     | (any_goals((with_reducible refine bZ ?_)<;>exact(Rf (e+1) (V.mk _ i sc t ll f))))
     | (any_goals((with_reducible refine bZ ?_)<;>exact(Ra (e+1) (V.mk _ i sc t ll f))))
     | (any_goals((with_reducible refine bZ ?_)<;>exact(YR vs (e+1) (V.mk _ i sc t ll f) (YS rfl))))
     | (any_goals((with_reducible refine bZ ?_)<;>exact(Rl (e+1) (V.mk _ i sc t ll f))))
     | (any_goals((with_reducible refine bZ ?_)<;>exact(Rh (e+1) (V.mk _ i sc t ll f))))
     | (any_goals((with_reducible refine bZ ?_)<;>exact(Rj (e+1) (V.mk _ i sc t ll f))))
     | (any_goals((with_reducible refine bZ ?_)<;>exact(Rn (e+1) (V.mk _ i sc t ll f))))
     | (any_goals((with_reducible refine bZ ?_)<;>exact(Rp (e+1) (V.mk _ i sc t ll f) (aG hts zd))))
     | (any_goals((with_reducible refine bZ ?_)<;>exact(YA e (V.mk _ i sc t ll f) hns)))
     | skip
    (all_goals try first|exact eZ|with_reducible (refine rQ ?_;repeat' first|apply ai|exact wZ)|(refine sQ ?_;repeat' first|with_reducible apply ai|exact cZ))
    all_goals try simp(disch:=omega) only[ax]at*
    all_goals(first
     | (refine Iy rfl ?_
        (focus(refine aQ ?_;repeat' first|with_reducible apply ai|exact wZ|fail))<;>first
          | (rw[AW,ax zo zo];rfl)
          | (with_reducible refine hfin 9 ?_ zd);exact ae zo
          | (with_reducible refine hfin 23 ?_ zd);exact(aa zo).trans (ae zo)
          | (with_reducible refine hfin 19 ?_ zd);exact(aa zo).trans ((aa zo).trans (Mv ‹_›))
          | (with_reducible refine hfin 3 ?_ zd);exact(aa zo).trans ((aa zo).trans (YC ‹_› (by simp only[V.kind];omega) ‹_›))
          | (with_reducible refine hfin _ ?_ ‹_›);exact(aa zo).trans ((aa zo).trans ((Mw ‹_› (by simp only[V.kind];omega) ‹_›).trans hr)))
     | (refine QE (hnext ((aa zo).trans ((aa zo).trans ((Mw ‹_› (by simp only[V.kind];omega) ‹_›).trans (hr.trans ‹_›))))) ?_
        (focus(refine aQ ?_;repeat' first|with_reducible apply ai|exact wZ|fail))<;>(rw[AW,ax zo zo];rfl))
     | skip)
  ·have hk3:x.kind<1∨10<x.kind:=by omega
   apply af.wk tF mF [(11,[(1,.bool (fun _=>?_),[])]),(15,[(1,.bool (fun _=>?_),[])]),(17,[(5,.int .i64 (fun _=>?_),[])])] AT ?_
   (repeat' with_reducible first|exact nY|refine oC ?_ ?_|refine vQ ?_ ?_ ?_|refine cV (fun _=>?_) fun _=>?_|refine wQ ?_|fail)
   all_goals(try exact absurd ‹1<=x.kind∧x.kind<=10› hk)
   (any_goals((with_reducible refine bZ ?_)<;>exact(IS (e+1) x)))
   (all_goals try first|exact eZ|with_reducible (refine rQ ?_;repeat' first|apply ai|exact wZ)|(refine sQ ?_;repeat' first|with_reducible apply ai|exact cZ))
   all_goals try simp(disch:=omega) only[ax]at*
   all_goals(first
    | (refine Iy rfl ?_
       (focus(refine aQ ?_;repeat' first|with_reducible apply ai|exact wZ|fail))<;>first
         | (rw[AW,ax zo zo];rfl)
         | (with_reducible refine hfin 9 ?_ zd);exact ae zo
         | (with_reducible refine hfin 23 ?_ zd);exact(aa zo).trans (ae zo)
         | (with_reducible refine hfin 19 ?_ zd);exact(aa zo).trans ((aa zo).trans (Mv ‹_›))
         | (with_reducible refine hfin 11 ?_ zd);exact(aa zo).trans ((aa zo).trans (YB ‹_› hk3)))
    | exact false
    | exact(0:Int))
 ·have hseq:(pre (d+1) 1 v).length=(fa (d+1) 1 v).length:=by rw[pre_eq];simp
  rw[hseq]at hI
  (repeat' with_reducible first|exact nY|refine oC ?_ ?_|refine vQ ?_ ?_ ?_|refine cV (fun _=>?_) fun _=>?_|refine wQ ?_|fail)
  (all_goals try first|exact eZ|with_reducible (refine rQ ?_;repeat' first|apply ai|exact wZ)|(refine sQ ?_;repeat' first|with_reducible apply ai|exact cZ))
  exact hI.symm
 ·cases he;cbv;refine rE ?_
  exact aZ
def RP(vs:ByteArray->Bool)(d:Nat)(v:V)(hv:V.le (d+1) v)(hd:d+1<=1073741824)(_:kz v=[])(_:v.kind<=7)(hV:∀p∈fa (d+1) 1 v,p.2.2.kind=4->Af prog 207 [.str fun _=>p.2.2.text] [] (.bool fun _=>vs p.2.2.text) []):
 Af prog 99 [aK (d+1) .any fun _=>v] [] (.int .i64 fun _=>ru vs (fa (d+1) 1 v)) []:=JY vs d v hv hd hV
end Go.Ai
