/- Chapter 17's model: its paths. -/
import Derived.Test.YtbagpkiomjlhkaaGreatDoorMdR
import Derived.Test.YtbagpkiomjlhkaaGreatDoorMdA
import Derived.Test.YtbagpkiomjlhkaaGreatDoorRdG
import Derived.Test.YtbagpkiomjlhkaaGreatDoorPthA
set_option linter.all false
namespace Go.Ai
open Go Go.Proofs
set_option maxRecDepth 100000
set_option maxHeartbeats 4000000
def Mr.lN{r:Mr}{t:ByteArray}(h:r.aH t=true):r.peek.kind≠0∧r.peek.text=t:=by
 unfold Mr.aH at h;simp only[az,eU,cX]at h;exact⟨zo,h.2⟩
def Mr.J5{r:Mr}(h:r.peek.kind≠0):r.next.i=r.i+1∧r.i<r.l.length:=by
 refine⟨by unfold Mr.next;rw[ae h];rfl,?_⟩;unfold Mr.peek at h;split at h
 ·exact absurd rfl h
 ·omega
def Ends(l:List Tok):Prop:=∃L t,l=L++[t]∧(∀u∈L,u.kind≠0)∧t.kind=0
def gA(s:St)(m:Mr):Prop:=(s.e≠0∧m.e=s.e∧m.line=s.line∧m.col=s.col) ∨
 (s.e=0∧m.e=0∧s.line=0∧s.col=0∧s.l=m.l.drop m.i∧m.i<m.l.length∧Ends m.l)
def Ends.last{l:List Tok}(h:Ends l){i:Nat}(hi:i+1=l.length):(l.getD i default).kind=0:=by
 obtain⟨L,t,rfl,_,h2⟩:=h;rw[du]at hi;have:i=L.length:=by simpa using hi
 subst this;rw[cz,jd (ao _),ku];exact h2
def Ends.in{l:List Tok}(h:Ends l){i:Nat}(hi:i+1<l.length):(l.getD i default).kind≠0:=by
 obtain⟨L,t,rfl,h1,_⟩:=h;rw[du]at hi;have hl:i<L.length:=by simpa using hi
 rw[cz,gS hl,bf hl];exact h1 _ (d9 hl)
def gA.bad{s:St}{m:Mr}(h:gA s m)(he:s.e≠0):s.ok=false∧s.peek=default∧m.peek=default∧s.next=s∧m.next=m∧m.e=s.e∧m.line=s.line∧m.col=s.col:=by
 have hs:s.ok=false:=by unfold St.ok;simp[he]
 obtain⟨_,h2,h3,h4⟩|⟨h1,_⟩:=h
 ·have hm:m.peek=default:=by unfold Mr.peek;rw[ae (.inl (by rw[h2];exact he))]
  refine⟨hs,by unfold St.peek;rw[aa (by rw[hs];decide)],hm,by unfold St.next;rw[aa (by rw[hs];simp)],?_,h2,h3,h4⟩;unfold Mr.next;rw[aa];rw[hm];exact fun g=>g rfl
 ·exact absurd h1 he
def gA.good{s:St}{m:Mr}(h:gA s m)(he:s.e=0):s.ok=true∧m.e=0∧s.line=0∧s.col=0∧s.l=m.l.drop m.i∧m.i<m.l.length∧Ends m.l:=by
 obtain⟨h1,_⟩|⟨_,h2,h3,h4,h5,h6,h7⟩:=h
 ·exact absurd he h1
 ·refine⟨?_,h2,h3,h4,h5,h6,h7⟩;unfold St.ok;have:0<s.l.length:=by rw[h5,gu];omega
  simp[he,this]
def gA.peek{s:St}{m:Mr}(h:gA s m):s.peek=m.peek:=by
 by_cases he:s.e=0
 ·obtain⟨a,b,_,_,c,d,_⟩:=h.good he;unfold St.peek Mr.peek;rw[ae a,aa (by intro g;rcases g with g|g;exact g b;omega),c];simp[List.getD]
 ·obtain⟨_,b,c,_⟩:=h.bad he;rw[b,c]
def gA.fail{s:St}{m:Mr}(h:gA s m)(e:Int):gA (s.fail e) (m.fail e):=by
 have hp:=h.peek;by_cases he:s.e=0
 ·obtain⟨a,b,c1,c2,c,d,f⟩:=h.good he;unfold St.fail Mr.fail;by_cases q:e≠0
  ·rw[ae ⟨a,q⟩,ae ⟨b,q⟩,hp];exact .inl ⟨q,rfl,rfl,rfl⟩
  ·rw[aa (fun g=>q g.2),aa (fun g=>q g.2)];exact h
 ·obtain⟨a,_,_,_,_,b,_⟩:=h.bad he;unfold St.fail Mr.fail;rw[aa (fun g=>by rw[a]at g;exact Bool.noConfusion g.1),aa (fun g=>he (b▸g.1))];exact h
def gA.fail_bad{s:St}{m:Mr}(h:gA s m){e:Int}(q:e≠0):(s.fail e).e≠0:=by
 by_cases he:s.e=0
 ·unfold St.fail;rw[ae ⟨(h.good he).1,q⟩];exact q
 ·unfold St.fail;rw[aa (fun g=>by rw[(h.bad he).1]at g;exact Bool.noConfusion g.1)];exact he
def gA.next{s:St}{m:Mr}(h:gA s m):gA s.next m.next:=by
 have hp:=h.peek;by_cases he:s.e=0
 ·obtain⟨a,b,c1,c2,c,d,f⟩:=h.good he;have hl:s.l.length=m.l.length-m.i:=by rw[c,gu]
  have hpk:m.peek=m.l.getD m.i default:=by
   unfold Mr.peek;rw[aa (by intro g;rcases g with g|g;exact g b;omega)]
  unfold St.next Mr.next;by_cases q:1<s.l.length
  ·rw[ae ⟨a,q⟩,ae (by rw[hpk];exact f.in zo)];refine .inr ⟨he,b,c1,c2,?_,?_,f⟩
   ·show s.l.drop 1=m.l.drop (m.i+1);rw[c,uR]
   ·show m.i+1<m.l.length;omega
  ·rw[aa (fun g=>q g.2),aa (by rw[hpk];exact fun g=>g (f.last zo))];exact h
 ·obtain⟨_,_,_,a,b,_⟩:=h.bad he;rw[a,b];exact h
def gA.aH{s:St}{m:Mr}(h:gA s m)(t:ByteArray):s.aH t=m.aH t:=by
 have hp:=h.peek;unfold St.aH Mr.aH;by_cases he:s.e=0
 ·rw[(h.good he).1,hp];rfl
 ·obtain⟨a,b,c,_⟩:=h.bad he;rw[a,c];rfl
def gA.behind{s:St}{m:Mr}(h:gA s m)(hk:s.peek.kind≠0):s.next.peek=m.behind:=by
 by_cases he:s.e=0
 ·obtain⟨a,b,c1,c2,c,d,f⟩:=h.good he;have hpk:m.peek=m.l.getD m.i default:=by
   unfold Mr.peek;rw[aa (by intro g;rcases g with g|g;exact g b;omega)]
  have hi:m.i+1<m.l.length:=by
   rcases iG (m.i+1) m.l.length with g|g
   ·exact g
   ·refine absurd (f.last (i:=m.i) zo) ?_;rw[<- hpk,<- h.peek];exact hk
  rw[h.next.peek];have hn:m.next=.mk m.l (m.i+1) m.o m.e m.line m.col:=by
   unfold Mr.next;rw[ae (by rw[<- h.peek];exact hk)]
  rw[hn];unfold Mr.peek Mr.behind;rfl
 ·obtain⟨_,b,_⟩:=h.bad he;rw[b]at hk;exact absurd rfl hk
def gA.neg{s:St}{m:Mr}(h:gA s m):s.neg=m.neg:=by
 unfold St.neg Mr.neg;show(s.aH bP&&_)=(m.aH bP&&_)
 rw[h.aH];cases q:m.aH bP
 ·rfl
 ·rw[<- h.aH]at q;have hk:s.peek.kind≠0:=(lN q).2;rw[h.behind hk]
def gA.place{s:St}{m:Mr}(h:gA s m):m.place=(s.line,s.col,s.e):=by
 unfold Mr.place;by_cases he:s.e=0
 ·obtain⟨_,a,b,c,_⟩:=h.good he;rw[ae a,b,c,he]
 ·obtain⟨_,_,_,_,_,a,b,c⟩:=h.bad he;rw[aa (by rw[a];exact he),a,b,c]
def Sh(s:ByteArray):eu de (newS s):=by
 unfold newS;rcases T6 s with⟨a,b⟩|⟨a,L,t,b,c,d,e,f⟩
 ·refine⟨fun u hu=>?_,?_,fun z=>absurd z a,fun u hu=>?_⟩
  ·have hu:(eY s).1.getLast? = some u:=hu;rw[b]at hu;cases hu
  ·show(eY s).1.length<=_;rw[b];exact aB _
  ·have hu:u∈(eY s).1:=hu;rw[b]at hu;cases hu
 ·refine⟨fun u hu=>?_,?_,fun _=>?_,fun u hu=>?_⟩
  ·have hu:(eY s).1.getLast? = some u:=hu;rw[b,List.getLast?_append]at hu;simp only[List.getLast?_singleton,Option.some_or,cB]at hu;rw[<- hu];exact e
  ·show(eY s).1.length<=_;rw[b,du];show L.length+1<=_;omega
  ·show(eY s).1≠[];rw[b];simp
  ·have hu:u∈(eY s).1:=hu;rw[b]at hu;rcases gB.1 hu with g|g
   ·exact(c u g).1
   ·rw[dD.1 g];exact d
def Si(t:ByteArray)(hs:t.size<=100000000000):Af Tryz.prog 43 [.str fun _=>t] [] (.ag [.any,.int .i64 fun _=>mr t]) []:=by
 have h:=wL t hs;unfold l9 at h;refine Af.IB h ?_;unfold mr
 exact aZ
end Go.Ai
