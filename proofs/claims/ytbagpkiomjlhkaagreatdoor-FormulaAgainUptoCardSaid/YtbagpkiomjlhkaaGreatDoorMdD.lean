/- Chapter 17: what expr.Check tells of an expression. -/
import Derived.Test.YtbagpkiomjlhkaaGreatDoorMdC
import Derived.Test.YtbagpkiomjlhkaaGreatDoorKnA
import Derived.Test.YtbagpkiomjlhkaaGreatDoorLit
import Derived.Test.YtbagpkiomjlhkaaGreatDoorValB
set_option linter.all false
namespace Go.Ai
open Go Go.Proofs
set_option maxRecDepth 100000
set_option maxHeartbeats 4000000
structure wS(eg:V->Int)(pv:ByteArray->List dL×Int)(x:X):Prop where
 op:1<=x.op∧x.op<=28
 text:dP x.op=false->x.text.size=0
 int:gc x.op=false->x.int=0
 high:eW x.op=0->x.args.length=0
 low:fH x.op<=x.args.length
 val:x.op=1->nS eg x.value=0
 path:x.op≠1->dP x.op=true->(pv x.text).2=0
 mq:x.op≠1->gc x.op=true->0<=x.int∧x.int<=12
def Jo{eg:V->Int}{pv:ByteArray->List dL×Int}{x:X}(h:iL eg pv x=0):wS eg pv x:=by
 unfold iL at h;by_cases c1:x.op<1∨28<x.op
 ·rw[ae c1]at h;exact absurd h zd
 rw[aa c1]at h;by_cases c2:(x.op≠1∧0<x.value.length)∨(dP x.op=false∧x.text.size≠0)∨(gc x.op=false∧x.int≠0)
 ·rw[ae c2]at h;exact absurd h zd
 rw[aa c2]at h;by_cases c3:eW x.op=0∧0<x.args.length
 ·rw[ae c3]at h;exact absurd h zd
 rw[aa c3]at h;by_cases c4:(x.args.length:Int)<fH x.op
 ·rw[ae c4]at h;exact absurd h zd
 rw[aa c4]at h;by_cases c5:eW x.op<x.args.length∧x.op≠25
 ·rw[ae c5]at h;exact absurd h zd
 rw[aa c5]at h;have t1:dP x.op=false->x.text.size=0:=fun q=>sI fun k=>c2 (.inr (.inl ⟨q,k⟩));have t2:gc x.op=false->x.int=0:=fun q=>sI fun k=>c2 (.inr (.inr ⟨q,k⟩));by_cases c6:x.op=1
 ·rw[ae c6]at h;exact⟨zo,t1,t2,zo,zo,fun _=>h,fun q=>absurd c6 q,fun q=>absurd c6 q⟩
 rw[aa c6]at h;by_cases c7:dP x.op=true∧(pv x.text).2≠0
 ·rw[ae c7]at h;exact absurd h c7.2
 rw[aa c7]at h;by_cases c8:dP x.op=true∧(pv x.text).1.any kA≠(x.op==26)
 ·rw[ae c8]at h;exact absurd h zd
 rw[aa c8]at h;by_cases c9:gc x.op=true∧(x.int<0∨12<x.int)
 ·rw[ae c9]at h;exact absurd h zd
 exact⟨zo,t1,t2,zo,zo,fun q=>absurd q c6,fun _ q=>sI fun k=>c7 ⟨q,k⟩,fun _ q=>by
  have:¬(x.int<0∨12<x.int):=fun k=>c9 ⟨q,k⟩;omega⟩
def TT{op:Int}(h:0<eE op):fH op=2:=by
 unfold eE at h
 repeat' split at h
 all_goals first|(subst op;rfl)|(rename_i q;rw[q];rfl)|omega
def TU{op:Int}(h1:¬op=1)(h2:¬op=2)(h3:¬op=22)(h4:¬op=26):1<=fH op:=by
 unfold fH;rw[aa zo];split
 ·omega
 split<;>omega
def Jp{eg:V->Int}{l:List V}(h:nS eg l=0):l.length=1∧eg (l.getD 0 default)=0∧l8 (l.getD 0 default).kind=true:=by
 unfold nS at h;by_cases c1:l.length=0
 ·rw[ae c1]at h;exact absurd h zd
 rw[aa c1]at h;by_cases c2:l.length=1
 ·rw[ae c2]at h;by_cases c3:eg (l.getD 0 default)≠0
  ·rw[ae c3]at h;exact absurd h c3
  rw[aa c3]at h;by_cases c4:l8 (l.getD 0 default).kind=true
  ·exact⟨c2,sI c3,c4⟩
  ·rw[aa c4]at h;exact absurd h zd
 ·rw[aa c2]at h;exact absurd h zd
def Sd{eg:V->Int}{pv:ByteArray->List dL×Int}{x:X}(f:wS eg pv x):lH x∧zM x:=by
 have hl:=f.low;have hi:0<=x.int∧x.int<=12:=by
  cases hs:gc x.op with
  | true=>exact f.mq (fun q=>by rw[q]at hs;exact absurd hs zd) hs
  | false=>have:=f.int hs;omega
 refine⟨⟨fun q=>?_,fun o3 o16 ct hb=>?_,hi.1,zo,fun q=>?_⟩,f.op,hi,fun q=>f.high ?_,fun _ h1 h2 h3 h4=>?_⟩
 ·have:1<=fH x.op:=by rcases q with q|q|q<;>rw[q]<;>decide
  omega
 ·have hp:0<eE x.op:=by
   rcases qi x.op with q|⟨_,q⟩
   ·exact q.1
   ·rw[aa o3,aa ct,aa o16]at q;omega
  rw[TT hp]at hl;omega
 ·have:=(Jp (f.val q)).1;omega
 ·rcases q with q|q<;>rw[q]<;>decide
 ·have:=TU h1 h2 h3 h4;omega
def oF:Nat->X->Int
 | 0,_=>0
 | k+1,x=>1+(x.args.map (oF k)).sum
theorem JW{f:X->Int->Int×Int}{c:X->Int}:∀{l:List X} {n:Int},(∀y∈l,∀m,(f y m).1=0->(f y m).2=m+c y)->(lu f l n).1=0->(lu f l n).2=n+(l.map c).sum∧∀y∈l,∃m,(f y m).1=0
 | [],n,_,_=>⟨by simp[lu],fun y hy=>by cases hy⟩
 | y::r,n,hc,h=>by
  unfold lu at h ⊢;by_cases q:(f y n).1≠0
  ·rw[ae q]at h;exact absurd h q
  rw[aa q]at h ⊢;have q:=sI q;have h1:=hc y dJ n q;obtain⟨h2,h3⟩:=JW (fun z hz=>hc z (cH _ hz)) h;refine⟨by rw[h2,h1,fZ,sH];omega,fun z hz=>?_⟩;rcases bW.1 hz with rfl|hz
  ·exact⟨n,q⟩
  ·exact h3 z hz
theorem JX(one:X->Int)(e:Nat):∀(k D:Nat) (x:X) (lvl n:Int),lvl+k=10->X.le (e+1) D x->(ge one k x lvl n).1=0->(ge one k x lvl n).2=n+oF k x∧(1<=k->X.all (fun x=>one x=0) k x∧X.le (e+1) k x)
 | 0,_,x,lvl,n,_,_,_=>⟨by simp[ge,oF],fun h=>absurd h zd⟩
 | k+1,D,x,lvl,n,hl,hx,h=>by
  unfold ge at h ⊢;by_cases c1:n=256
  ·rw[ae c1]at h;exact absurd h (by dsimp only;decide)
  rw[aa c1]at h ⊢;by_cases c2:8<lvl
  ·rw[ae c2]at h;exact absurd h (by dsimp only;decide)
  rw[aa c2]at h ⊢;by_cases c3:one x≠0
  ·rw[ae c3]at h;exact absurd h c3
  rw[aa c3]at h ⊢;obtain⟨D,rfl⟩:=X.lP hx;obtain⟨h1,h2,h3,h4,h5⟩:=hx;have ih:∀y∈x.args,∀m,(ge one k y (lvl+1) m).1=0->_:=fun y hy m q=>JX one e k D y (lvl+1) m zo (h5 y hy) q;obtain⟨g1,g2⟩:=JW (f:=fun y m=>ge one k y (lvl+1) m) (c:=oF k) (fun y hy m q=>(ih y hy m q).1) h;refine⟨by rw[g1];unfold oF;omega,fun _=>⟨⟨sI c3,fun y hy=>?_⟩,h1,h2,h3,h4,fun y hy=>?_⟩⟩
  ·obtain⟨m,q⟩:=g2 y hy;exact((ih y hy m q).2 zo).1
  ·obtain⟨m,q⟩:=g2 y hy;exact((ih y hy m q).2 zo).2
def Sb{one:X->Int}{e D:Nat}{x:X}(hx:X.le (e+1) D x)(h:kB one x=0):oF 9 x<=256∧X.all (fun x=>one x=0) 9 x∧X.le (e+1) 9 x:=by
 obtain⟨h1,h2⟩:=JX one e 9 D x 1 0 zo hx h;have h3:=BH one 9 x 1 0 zo zo;exact⟨zo,h2 zd⟩
theorem Jr{lit:V->ByteArray}(hl:∀v,(lit v).size<=65536){e:Nat}:∀{k:Nat} {x:X},X.le e k x->X.all (fun x=>x.text.size<=200) k x->(wX lit k x:Int)+6<=65842*oF k x
 | 0,_,h,_=>h.elim
 | k+1,x,hx,h=>by
  have h1:=h.1;have h2:=hl (x.value.getD 0 default);have h3:∀(l:List X),(∀y∈l,X.le e k y∧X.all (fun x=>x.text.size<=200) k y)->((l.map fun y=>wX lit k y+6).sum:Int)<=65842*(l.map (oF k)).sum:=by
   intro l
   induction l with
   | nil=>intro _;simp
   | cons y r ih=>
    intro q;have a:=Jr hl (q y dJ).1 (q y dJ).2;have b:=ih fun z hz=>q z (cH _ hz);simp only[fZ,sH];omega
  have h4:=h3 x.args fun y hy=>⟨hx.2.2.2.2 y hy,h.2 y hy⟩
  show((100+x.text.size+(lit (x.value.getD 0 default)).size+(x.args.map fun y=>wX lit k y+6).sum:Nat):Int)+6<=65842*(1+(x.args.map (oF k)).sum);omega
def TV(n:Int×Int):(ej n).1.size<=200:=by
 unfold ej;split
 ·exact aB _
 rename_i q;have q:=sI q;unfold gI at q;split at q
 ·rename_i h;have h1:ei n.1<=999999999999999∧0<=ei n.1:=by unfold ei;split<;>omega
  have h2:=qL (ei n.1) zo zo;have h3:(mc n).size<=60:=by
   unfold mc;rw[aj,Bv];show _*1+_<=_;omega
  have h4:(eN n).size<=130:=by
   unfold eN;split
   ·rw[aj,aj,dh,dh];show _+1+_<=_;omega
   ·omega
  dsimp only;split
  ·rw[aj];show 1+_<=_;omega
  ·omega
 ·exact absurd q zd
def iW(e:Nat)(v:V):Int:=ru vsB (fa (e+1) 1 v)
def Ju(e:Nat)(he:e+1<=1073741824)(v:V)(hv:V.le (e+1) v):Af Tryz.prog 99 [aK (e+1) .any fun _=>v] [] (.int .i64 fun _=>iW e v) []:=
 JY vsB e v hv he fun p hp _=>Je _ (by
  have:=zJ (e+1) 1 v hv p hp;unfold V.le at this;omega)
def TW{vs:ByteArray->Bool}{v:V}(h:iz vs v=0)(hk:v.kind<=7):(1<=v.kind)∧(-9223372036854775808<v.int∧v.int<=9223372036854775807)∧v.text.size<=1024:=by
 unfold iz at h;by_cases c1:isNull v=true
 ·rw[ae c1]at h;exact absurd h zd
 rw[aa c1]at h;by_cases c2:v.kind<1∨10<v.kind
 ·rw[ae c2]at h;exact absurd h zd
 rw[aa c2]at h;by_cases c3:ou v=false
 ·rw[ae c3]at h;exact absurd h zd
 rw[aa c3]at h;simp only[Bool.not_eq_false,ou,az,eU,dv]at c3;obtain⟨⟨⟨⟨u1,u2⟩,u3⟩,u4⟩,u5⟩:=c3;have hb:∀n lo hi:Int,between n lo hi=0->lo<=n∧n<=hi:=fun n lo hi q=>by
  unfold between at q;split at q
  ·exact absurd q zd
  ·omega
 have hs:∀n m:Int,fQ n m 5=0->n<=m:=fun n m q=>by
  unfold fQ at q;split at q
  ·exact absurd q zd
  ·omega
 refine⟨zo,?_⟩;rcases(zo:v.kind=1∨v.kind=2∨v.kind=3∨v.kind=4∨v.kind=5∨v.kind=6∨v.kind=7)with k|k|k|k|k|k|k
 ·rw[JZ k]at h;have:=hb _ _ _ h;omega
 ·rw[J0 k]at h;have:=hb _ _ _ h;omega
 ·rw[J2 k]at h;split at h
  ·rename_i q;exact absurd h q
  ·rename_i q;have:=hb _ _ _ (sI q);omega
 ·unfold eA at h;rw[aa zo,aa zo,aa zo,ae k]at h;split at h
  ·exact absurd h zd
  ·have:=hs _ _ h;omega
 ·unfold eA at h;rw[aa zo,aa zo,aa zo,aa zo,ae k]at h;have:=hs _ _ h;omega
 ·unfold eA at h;rw[aa zo,aa zo,aa zo,aa zo,aa zo,ae k]at h;have:=hb _ _ _ h;omega
 ·unfold eA at h;rw[aa zo,aa zo,aa zo,aa zo,aa zo,aa zo,ae k]at h;have:=hb _ _ _ h;omega
def J3(s:ByteArray)(j:Nat):(⟨#[46]⟩++s:ByteArray).extract 1 (1+j)=s.extract 0 j:=by
 apply gp;apply mR;rw[jh,jh,iF,xZ,xZ,ph];simp[List.extract]
def xb(s:ByteArray):s.extract 0 s.size=s:=by
 apply gp;rw[jh];exact Array.extract_size
theorem J4:∀(n:Nat) (l:List dL) (r:ByteArray) (L:List dL),kX n l r=some L->∃m,L=l++m
 | 0,l,r,L,h=>by rw[kX]at h;cases h;exact⟨[],zsi⟩
 | n+1,l,r,L,h=>by
  rw[kX]at h;split at h
  ·cases h;exact⟨[],zsi⟩
  split at h
  ·cases h
  ·obtain⟨m,rfl⟩:=J4 n _ _ L h;exact⟨_,gF ..⟩
def TX{s:ByteArray}(h:(cr s).2=0):0<(cr s).1.length∧((cr s).1.getD 0 (0,0,⟨#[]⟩)).2.2=iV s:=by
 unfold cr at h ⊢;by_cases c1:s=⟨#[]⟩
 ·rw[ae c1]at h;exact absurd h (by dsimp only;decide)
 rw[aa c1]at h ⊢;by_cases c2:200<s.size
 ·rw[ae c2]at h;exact absurd h (by dsimp only;decide)
 rw[aa c2]at h ⊢;cases hp:kX 202 [] (⟨#[46]⟩++s)with
 | none=>rw[hp]at h;exact absurd h (by dsimp only;decide)
 | some l=>
  rw[hp]at h;dsimp only at h ⊢;by_cases c3:16<l.length
  ·rw[ae c3]at h;exact absurd h (by dsimp only;decide)
  rw[aa c3];dsimp only;rw[kX]at hp;have hd:(⟨#[46]⟩++s:ByteArray).size=s.size+1:=by rw[aj];show 1+s.size=_;omega
  have h0:ad (⟨#[46]⟩++s) 0=46:=by
   unfold ad;rw[iF,mO zd];rfl
  have h1:dp (⟨#[46]⟩++s) allT=false:=by
   rw[Bool.eq_false_iff];intro q;unfold dp at q;have q1:=FM.1 q;obtain⟨t,ht⟩:=q1;rw[iF,ph]at ht;simp[allT]at ht
  have hne:¬(⟨#[46]⟩++s:ByteArray)=⟨#[]⟩:=fun q=>by rw[q]at hd;exact absurd hd (by show¬0=_;omega)
  rw[aa hne]at hp;have ht:fe (⟨#[46]⟩++s)=((1,0,(⟨#[46]⟩++s:ByteArray).extract 1 (endP (⟨#[46]⟩++s) 1).toNat),(⟨#[46]⟩++s:ByteArray).extract (endP (⟨#[46]⟩++s) 1).toNat (⟨#[46]⟩++s:ByteArray).size,true):=by
   unfold fe;rw[aa (by rw[h1];exact AX),ae h0]
  rw[ht]at hp;dsimp only at hp;split at hp
  ·cases hp
  obtain⟨m,rfl⟩:=J4 _ _ _ _ hp;refine⟨zsi,?_⟩;show(⟨#[46]⟩++s:ByteArray).extract 1 (endP (⟨#[46]⟩++s) 1).toNat=_;have e1:(⟨#[46]⟩++s:ByteArray).extract 1 (⟨#[46]⟩++s:ByteArray).size=s:=by
   rw[hd,show s.size+1=1+s.size by omega,J3,xb]
  unfold endP iV;rw[e1];by_cases c4:iw s<0
  ·rw[ae c4,aa zo];exact e1
  ·rw[aa c4,ae zo];rw[show(((1:Nat):Int)+iw s).toNat=1+(iw s).toNat by omega,J3]
theorem Js{eg:V->Int}{e:Nat}:∀{k:Nat} {x:X},X.le e k x->X.all (fun x=>wS eg cr x) k x->gL k x=jr k x
 | 0,_,h,_=>h.elim
 | k+1,x,hx,h=>by
  unfold gL jr;have f:=h.1;by_cases c:dP x.op=true
  ·rw[ae c];have o1:x.op≠1:=fun q=>by rw[q]at c;exact absurd c zd
   have hh:eW x.op=0:=by
    simp only[dP,eU,dv]at c;rcases c with(c|c)|c<;>rw[c]<;>decide
   have ha:x.args=[]:=sJ.1 (f.high hh);obtain⟨g1,g2⟩:=TX (f.path o1 c);rw[ha,g2,gq g1];simp
  ·rw [aa c];have ht:x.text=⟨#[]⟩:=gp (sC (f.text (by simpa using c)));rw[ht];have e0:dQ (iV ⟨#[]⟩)=false:=by rfl
   rw[e0,Bc];have hy:∀y∈x.args,gL k y=jr k y:=fun y hy=>Js (hx.2.2.2.2 y hy) (h.2 y hy);have:∀l:List X,(∀y∈l,gL k y=jr k y)->l.any (gL k)=l.any (jr k):=by
    intro l
    induction l with
    | nil=>intro _;rfl
    | cons y r ih=>
     intro q;rw[FK,FK,q y dJ,ih fun z hz=>q z (cH _ hz)]
   exact this _ hy
end Go.Ai
