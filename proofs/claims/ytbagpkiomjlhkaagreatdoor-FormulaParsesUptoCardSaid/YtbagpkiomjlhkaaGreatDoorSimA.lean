/- Chapter 17: program and model read alike: values and paths. -/
import Derived.Test.YtbagpkiomjlhkaaGreatDoorMdP
import Derived.Test.YtbagpkiomjlhkaaGreatDoorRdG
import Derived.Test.YtbagpkiomjlhkaaGreatDoorPthA
set_option linter.all false
namespace Go.Ai
open Go Go.Proofs
set_option maxRecDepth 100000
set_option maxHeartbeats 4000000
def Ends(l:List Tok):Prop:=∃L t,l=L++[t]∧(∀u∈L,u.kind≠0)∧t.kind=0
def Sim(s:St)(m:Mr):Prop:=(s.e≠0∧m.e=s.e∧m.line=s.line∧m.col=s.col) ∨
 (s.e=0∧m.e=0∧s.line=0∧s.col=0∧s.l=m.l.drop m.i∧m.i<m.l.length∧Ends m.l)
def Ends.last{l:List Tok}(h:Ends l){i:Nat}(hi:i+1=l.length):(l.getD i default).kind=0:=by
 obtain⟨L,t,rfl,_,h2⟩:=h;rw[List.length_append]at hi;have:i=L.length:=by simpa using hi
 subst this;rw[List.getD_eq_getElem?_getD,List.getElem?_append_right (Nat.le_refl _),Nat.sub_self];exact h2
def Ends.in{l:List Tok}(h:Ends l){i:Nat}(hi:i+1<l.length):(l.getD i default).kind≠0:=by
 obtain⟨L,t,rfl,h1,_⟩:=h;rw[List.length_append]at hi;have hl:i<L.length:=by simpa using hi
 rw[List.getD_eq_getElem?_getD,List.getElem?_append_left hl,List.getElem?_eq_getElem hl];exact h1 _ (List.getElem_mem hl)
def Sim.bad{s:St}{m:Mr}(h:Sim s m)(he:s.e≠0):s.ok=false∧s.peek=default∧m.peek=default∧s.next=s∧m.next=m∧m.e=s.e∧m.line=s.line∧m.col=s.col:=by
 have hs:s.ok=false:=by unfold St.ok;simp[he]
 obtain⟨_,h2,h3,h4⟩|⟨h1,_⟩:=h
 ·have hm:m.peek=default:=by unfold Mr.peek;rw[if_pos (.inl (by rw[h2];exact he))]
  refine⟨hs,by unfold St.peek;rw[if_neg (by rw[hs];decide)],hm,by unfold St.next;rw[if_neg (by rw[hs];simp)],?_,h2,h3,h4⟩;unfold Mr.next;rw[if_neg];rw[hm];exact fun g=>g rfl
 ·exact absurd h1 he
def Sim.good{s:St}{m:Mr}(h:Sim s m)(he:s.e=0):s.ok=true∧m.e=0∧s.line=0∧s.col=0∧s.l=m.l.drop m.i∧m.i<m.l.length∧Ends m.l:=by
 obtain⟨h1,_⟩|⟨_,h2,h3,h4,h5,h6,h7⟩:=h
 ·exact absurd he h1
 ·refine⟨?_,h2,h3,h4,h5,h6,h7⟩;unfold St.ok;have:0<s.l.length:=by rw[h5,List.length_drop];omega
  simp[he,this]
def Sim.peek{s:St}{m:Mr}(h:Sim s m):s.peek=m.peek:=by
 by_cases he:s.e=0
 ·obtain⟨a,b,_,_,c,d,_⟩:=h.good he;unfold St.peek Mr.peek;rw[if_pos a,if_neg (by intro g;rcases g with g|g;exact g b;omega),c];simp[List.getD]
 ·obtain⟨_,b,c,_⟩:=h.bad he;rw[b,c]
def Sim.fail{s:St}{m:Mr}(h:Sim s m)(e:Int):Sim (s.fail e) (m.fail e):=by
 have hp:=h.peek;by_cases he:s.e=0
 ·obtain⟨a,b,c1,c2,c,d,f⟩:=h.good he;unfold St.fail Mr.fail;by_cases q:e≠0
  ·rw[if_pos ⟨a,q⟩,if_pos ⟨b,q⟩,hp];exact .inl ⟨q,rfl,rfl,rfl⟩
  ·rw[if_neg (fun g=>q g.2),if_neg (fun g=>q g.2)];exact h
 ·obtain⟨a,_,_,_,_,b,_⟩:=h.bad he;unfold St.fail Mr.fail;rw[if_neg (fun g=>by rw[a]at g;exact Bool.noConfusion g.1),if_neg (fun g=>he (b▸g.1))];exact h
def Sim.aor{s:St}{m:Mr}(h:Sim s m){e:Int}(q:e≠0):(s.fail e).e≠0:=by
 by_cases he:s.e=0
 ·unfold St.fail;rw[if_pos ⟨(h.good he).1,q⟩];exact q
 ·unfold St.fail;rw[if_neg (fun g=>by rw[(h.bad he).1]at g;exact Bool.noConfusion g.1)];exact he
def Sim.next{s:St}{m:Mr}(h:Sim s m):Sim s.next m.next:=by
 have hp:=h.peek;by_cases he:s.e=0
 ·obtain⟨a,b,c1,c2,c,d,f⟩:=h.good he;have hl:s.l.length=m.l.length-m.i:=by rw[c,List.length_drop]
  have hpk:m.peek=m.l.getD m.i default:=by
   unfold Mr.peek;rw[if_neg (by intro g;rcases g with g|g;exact g b;omega)]
  unfold St.next Mr.next;by_cases q:1<s.l.length
  ·rw[if_pos ⟨a,q⟩,if_pos (by rw[hpk];exact f.in (by omega))];refine .inr ⟨he,b,c1,c2,?_,?_,f⟩
   ·show s.l.drop 1=m.l.drop (m.i+1);rw[c,List.drop_drop]
   ·show m.i+1<m.l.length;omega
  ·rw[if_neg (fun g=>q g.2),if_neg (by rw[hpk];exact fun g=>g (f.last (by omega)))];exact h
 ·obtain⟨_,_,_,a,b,_⟩:=h.bad he;rw[a,b];exact h
def Sim.aoD{s:St}:s.next.e=s.e:=by unfold St.next;split<;>rfl
def Sim.isT{s:St}{m:Mr}(h:Sim s m)(t:ByteArray):s.isT t=m.isT t:=by
 have hp:=h.peek;unfold St.isT Mr.isT;by_cases he:s.e=0
 ·rw[(h.good he).1,hp];rfl
 ·obtain⟨a,b,c,_⟩:=h.bad he;rw[a,c];rfl
def Sim.behind{s:St}{m:Mr}(h:Sim s m)(hk:s.peek.kind≠0):s.next.peek=m.behind:=by
 by_cases he:s.e=0
 ·obtain⟨a,b,c1,c2,c,d,f⟩:=h.good he;have hpk:m.peek=m.l.getD m.i default:=by
   unfold Mr.peek;rw[if_neg (by intro g;rcases g with g|g;exact g b;omega)]
  have hi:m.i+1<m.l.length:=by
   rcases Nat.lt_or_ge (m.i+1) m.l.length with g|g
   ·exact g
   ·refine absurd (f.last (i:=m.i) (by omega)) ?_;rw[<- hpk,<- h.peek];exact hk
  rw[h.next.peek];have hn:m.next=.mk m.l (m.i+1) m.o m.e m.line m.col:=by
   unfold Mr.next;rw[if_pos (by rw[<- h.peek];exact hk)]
  rw[hn];unfold Mr.peek Mr.behind;rfl
 ·obtain⟨_,b,_⟩:=h.bad he;rw[b]at hk;exact absurd rfl hk
def Sim.neg{s:St}{m:Mr}(h:Sim s m):s.neg=m.neg:=by
 unfold St.neg Mr.neg;show(s.isT hyT&&_)=(m.isT hyT&&_)
 rw[h.isT];cases q:m.isT hyT
 ·rfl
 ·rw[<- h.isT]at q;have hk:s.peek.kind≠0:=(ab7 q).2;rw[h.behind hk]
def apX{t:ByteArray}(h:0<t.size):sufD t=true↔byt t (t.size-1)=100:=by
 have hl:t.data.toList.length=t.size:=by rw[Array.length_toList];rfl
 obtain⟨b,hb,hb2⟩:=adW (s:=t) (i:=t.size-1) (by omega);rw[hb2];have hd:t.data.toList.drop (t.size-1)=[b]:=by
  rw[hb,show t.size-1+1=t.size by omega,List.drop_eq_nil_of_le (by omega)]
 have hA:t.data.toList=t.data.toList.take (t.size-1)++[b]:=by
  rw[<- hd,List.take_append_drop]
 unfold sufD Lib.hasSuffix;rw[hA,List.isSuffixOf_iff_suffix];constructor
 ·rintro⟨u,hu⟩;have:=(List.append_inj' hu rfl).2;simp only[List.cons.injEq,and_true]at this;rw[<- this];rfl
 ·intro h2;have:b=100:=UInt8.toNat_inj.1 (by show b.toNat=100;omega);rw[this];exact⟨_,rfl⟩
def num_eq{m:Bool}{x:Tok}(hx:PlTok x)(hk:x.kind=2):numV m x=apD m x:=by
 unfold numV apD;have h1:=apX (hx.k2 hk).1;have h2:=hx.sc;by_cases c:x.scale≠0∨sufD x.text=true
 ·have c':0<x.scale∨byt x.text (x.text.size-1)=100:=c.elim (fun g=>.inl (by omega)) (fun g=>.inr (h1.1 g));rw[if_pos c,if_pos c']
 ·have c':¬(0<x.scale∨byt x.text (x.text.size-1)=100):=fun g=>c (g.elim (fun k=>.inl (by omega)) (fun k=>.inr (h1.2 k)));rw[if_neg c,if_neg c']
def sym_ne{x:Tok}(hx:PlTok x)(hk:x.kind=5){c:UInt8}{l:List UInt8}(hc:letB c.toNat=true):x.text≠⟨⟨c::l⟩⟩:=fun g=>by
 have:=hx.k5 hk;rw[g]at this;rw[show byt ⟨⟨c::l⟩⟩ 0=(c.toNat:Int)from rfl,hc]at this;exact Bool.noConfusion this
def apO{x:Tok}(hx:PlTok x)(hk:x.kind=1){c:UInt8}{l:List UInt8}(hc:letB c.toNat=false):x.text≠⟨⟨c::l⟩⟩:=fun g=>by
 have:=hx.k1 hk;rw[g]at this;rw[show byt ⟨⟨c::l⟩⟩ 0=(c.toNat:Int)from rfl,hc]at this;exact Bool.noConfusion this
def arO{s:St}{m:Mr}(h:Sim s m)(hP:∀t∈m.l,PlTok t):Sim (valF s).2 (mval m).2∧((valF s).2.e=0->(valF s).1=(mval m).1):=by
 have hp:=h.peek;have hx:=Mr.anY PlTok.default hP;have tT:=h.isT;have hn:=h.neg;have F:¬(false=true):=by decide
 have F2:¬(false=true∨false=true):=by decide
 have mNum:m.peek.kind≠3->m.peek.kind≠4->m.isT alz=false->m.isT aon=false->m.isT ao4=false->m.isT ao9=false->mval m=mnum m.neg (if m.neg=true then m.next else m):=fun a b c d e f=>by
  unfold mval;rw[if_neg a,if_neg b,c,if_neg F,d,if_neg F,e,f,if_neg F2]
 have mBad:m.peek.kind≠2->mnum false m=(default,m.fail 13):=fun a=>by unfold mnum;rw[if_pos a]
 by_cases he:s.e≠0
 ·obtain⟨b1,b2,b3,b4,b5,b6,_⟩:=h.bad he;have bT:∀t,m.isT t=false:=fun t=>by rw[<- tT];unfold St.isT;rw[b1];rfl
  have k0:m.peek.kind=0:=by rw[b3];rfl
  have hneg:m.neg=false:=by unfold Mr.neg;rw[bT];rfl
  have hf:m.fail 13=m:=by
   unfold Mr.fail;rw[if_neg (fun g=>he (b6▸g.1))]
  have hL:valF s=(default,s):=by unfold valF;rw[if_pos he]
  rw[hL,mNum (by omega) (by omega) (bT _) (bT _) (bT _) (bT _),hneg,if_neg F,mBad (by omega),hf];exact⟨h,fun g=>absurd g he⟩
 have he:s.e=0:=Decidable.not_not.1 he;have hok:=(h.good he).1;have isT_of:∀t,m.isT t=true->(m.peek.kind=1∨m.peek.kind=5)∧m.peek.text=t:=fun t g=>by
  unfold Mr.isT at g;simpa using g
 have noT:∀t,¬((m.peek.kind=1∨m.peek.kind=5)∧m.peek.text=t)->m.isT t=false:=fun t g=>by
  cases q:m.isT t
  ·rfl
  ·exact absurd (isT_of _ q) g
 have sn:=h.next;have ne:s.next.e=0:=by rw[Sim.aoD];exact he
 have hPn:∀t∈m.next.l,PlTok t:=by rw[Mr.anR];exact hP
 have vT:∀v st,s.val=true->aoa (s.isT hyT) (s.accept hyT).peek (s.accept hyT).next=(v,st)->valF s=(if st.e≠0 then default else v,st):=fun v st h1 h2=>by
  unfold valF;rw[if_neg (fun g=>g he),if_neg (by rw[h1];decide),h2]
 have vE:s.val=false->valF s=(default,s.fail 13):=fun h1=>by
  unfold valF;rw[if_neg (fun g=>g he),if_pos h1]
 have aF:s.isT hyT=false->s.accept hyT=s:=fun g=>by unfold St.accept;rw[g,if_neg F]
 have fine:∀v w,valF s=(if s.next.e≠0 then default else v,s.next)->mval m=(w,m.next)->v=w->Sim (valF s).2 (mval m).2∧((valF s).2.e=0->(valF s).1=(mval m).1):=fun v w a b c=>by
  rw[a,b,if_neg (fun g=>g ne),c];exact⟨sn,fun _=>rfl⟩
 have bad:valF s=(default,s.fail 13)->mval m=(default,m.fail 13)->Sim (valF s).2 (mval m).2∧((valF s).2.e=0->(valF s).1=(mval m).1):=fun a b=>by
  rw[a,b];exact⟨h.fail 13,fun _=>rfl⟩
 by_cases c3:m.peek.kind=3
 ·have hh:s.isT hyT=false:=by rw[tT];exact noT _ (fun g=>by omega)
  refine fine _ _ (vT (sc 4 0 0 s.peek.value) s.next (by unfold St.val;rw[hp,if_pos (by omega)]) ?_) (by unfold mval;rw[if_pos c3]) (by rw[hp]);rw[hh,aF hh];unfold aoa;rw[hp,if_neg (by omega),if_pos c3]
 by_cases c4:m.peek.kind=4
 ·have hh:s.isT hyT=false:=by rw[tT];exact noT _ (fun g=>by omega)
  refine fine _ _ (vT (sc 5 0 0 s.peek.value) s.next (by unfold St.val;rw[hp,if_pos (by omega)]) ?_) (by unfold mval;rw[if_neg c3,if_pos c4]) (by rw[hp]);rw[hh,aF hh];unfold aoa;rw[hp,if_neg (by omega),if_neg c3,if_pos c4]
 by_cases c2:m.peek.kind=2
 ·have hm:∀t,m.isT t=false:=fun t=>noT t (fun g=>by omega);have hh:s.isT hyT=false:=by rw[tT];exact hm _
  have hneg:m.neg=false:=by unfold Mr.neg;rw[hm];rfl
  refine fine _ (apD false m.peek) (vT (numV false s.peek) s.next (by unfold St.val;rw[hp,if_pos (by omega)]) ?_) ?_ (by rw[hp];exact num_eq hx c2)
  ·rw[hh,aF hh];unfold aoa;rw[hp,if_pos c2]
  ·rw[mNum c3 c4 (hm _) (hm _) (hm _) (hm _),hneg,if_neg F];unfold mnum;rw[if_neg (fun g=>g c2)]
 by_cases c1:m.peek.kind=1
 ·have hh:s.isT hyT=false:=by rw[tT];exact noT _ (fun g=>absurd g.2 (apO hx c1 (by decide)))
  have hneg:m.neg=false:=by rw[<- hn];unfold St.neg;show(s.isT hyT&&_)=false;rw[hh];rfl
  have isW:∀t,m.isT t=decide (m.peek.text=t):=fun t=>by unfold Mr.isT;rw[c1];simp
  have hval:s.val=kHas valL m.peek.text:=by unfold St.val;rw[hp,if_neg (by omega),if_pos c1]
  have hat:aoa (s.isT hyT) (s.accept hyT).peek (s.accept hyT).next=aob m.peek.text s.next:=by
   rw[hh,aF hh];unfold aoa;rw[hp,if_neg c2,if_neg c3,if_neg c4]
  have kv:kHas valL m.peek.text=(decide (m.peek.text=alz)||(decide (m.peek.text=aon)||(decide (m.peek.text=ao4)||decide (m.peek.text=ao9)))):=by
   unfold valL;simp[kHas,alz,aon,ao4,ao9,eq_comm]
  by_cases w1:m.peek.text=alz
  ·refine fine _ (sc 1 1 0 ⟨#[]⟩) (vT (sc 1 1 0 ⟨#[]⟩) s.next (by rw[hval,kv,w1];rfl) ?_) ?_ rfl
   ·rw[hat,w1];rfl
   ·unfold mval;rw[if_neg c3,if_neg c4,isW,if_pos (by simp[w1])]
  by_cases w2:m.peek.text=aon
  ·refine fine _ (sc 1 0 0 ⟨#[]⟩) (vT (sc 1 0 0 ⟨#[]⟩) s.next (by rw[hval,kv,w2];rfl) ?_) ?_ rfl
   ·rw[hat,w2];rfl
   ·unfold mval;rw[if_neg c3,if_neg c4,isW,isW,if_neg (by simp[w1]),if_pos (by simp[w2])]
  have dt:∀(G:ByteArray->Int×Int),Sim ((s.next.take 3).fail (G (s.next.anV 3).value).2) (if m.next.peek.kind≠3 then m.next.fail 13 else m.next.next.fail (G m.next.peek.value).2) ∧
   (((s.next.take 3).fail (G (s.next.anV 3).value).2).e=0->m.next.peek.kind=3∧(s.next.anV 3).value=m.next.peek.value):=fun G=>by
   have okn:s.next.ok=true:=(sn.good ne).1;have e1:s.next.takes 3=decide (m.next.peek.kind=3):=by
    unfold St.takes;rw[okn,sn.peek];rfl
   unfold St.take St.anV;by_cases g:m.next.peek.kind=3
   ·rw[e1,decide_eq_true g,if_pos rfl,if_pos rfl,if_neg (fun z=>z g),sn.peek];exact⟨sn.next.fail _,fun _=>⟨g,rfl⟩⟩
   ·rw[e1,decide_eq_false g,if_neg F,if_neg F,if_pos g];have sb:=sn.fail 13;have be:=sn.aor (e:=13) (by decide);have same:∀e,(s.next.fail 13).fail e=s.next.fail 13:=fun e=>by
     have:(s.next.fail 13).ok=false:=by unfold St.ok;simp[be]
     rw[St.fail,if_neg];intro z;rw[this]at z;exact Bool.noConfusion z.1
    rw[same];exact⟨sb,fun z=>absurd z be⟩
  by_cases w34:m.peek.text=ao4∨m.peek.text=ao9
  ·have hm:mval m=if m.next.peek.kind≠3 then(default,m.next.fail 13)else if m.peek.text=ao4 then(sc 6 (ao8 m.next.peek.value).1 0 ⟨#[]⟩,m.next.next.fail (ao8 m.next.peek.value).2)else(sc 7 (ao7 m.next.peek.value).1 0 ⟨#[]⟩,m.next.next.fail (ao7 m.next.peek.value).2):=by
    unfold mval;rw[if_neg c3,if_neg c4,isW,isW,isW,isW,if_neg (by simp[w1]),if_neg (by simp[w2]),if_pos (by simpa using w34)]
   have hv:s.val=true:=by rw[hval,kv];rcases w34 with g|g<;>simp[g]
   by_cases w3:m.peek.text=ao4
   ·obtain⟨a1,a2⟩:=dt ao8;have hw:aob m.peek.text s.next=(sc 6 (ao8 (s.next.anV 3).value).1 0 ⟨#[]⟩,(s.next.take 3).fail (ao8 (s.next.anV 3).value).2):=by unfold aob;rw[if_pos w3]
    rw[vT _ _ hv (hat.trans hw),hm];by_cases g:m.next.peek.kind≠3
    ·rw[if_pos g]at a1 ⊢;exact⟨a1,fun z=>absurd (a2 z).1 g⟩
    ·rw[if_neg g]at a1 ⊢;rw[if_pos w3];refine⟨a1,fun z=>?_⟩;dsimp only at z ⊢;rw[if_neg (fun y=>y z),(a2 z).2]
   ·have w4:=w34.resolve_left w3;obtain⟨a1,a2⟩:=dt ao7;have hw:aob m.peek.text s.next=(sc 7 (ao7 (s.next.anV 3).value).1 0 ⟨#[]⟩,(s.next.take 3).fail (ao7 (s.next.anV 3).value).2):=by unfold aob;rw[if_neg w3,if_pos w4]
    rw[vT _ _ hv (hat.trans hw),hm];by_cases g:m.next.peek.kind≠3
    ·rw[if_pos g]at a1 ⊢;exact⟨a1,fun z=>absurd (a2 z).1 g⟩
    ·rw[if_neg g]at a1 ⊢;rw[if_neg w3];refine⟨a1,fun z=>?_⟩;dsimp only at z ⊢;rw[if_neg (fun y=>y z),(a2 z).2]
  ·have w3:¬m.peek.text=ao4:=fun g=>w34 (.inl g);have w4:¬m.peek.text=ao9:=fun g=>w34 (.inr g);refine bad (vE (by rw[hval,kv];simp[w1,w2,w3,w4])) ?_;rw[mNum c3 c4 (by rw[isW];simp[w1]) (by rw[isW];simp[w2]) (by rw[isW];simp[w3]) (by rw[isW];simp[w4]),hneg,if_neg F,mBad c2]
 ·have hm:∀(c:UInt8) (l:List UInt8),letB c.toNat=true->m.isT ⟨⟨c::l⟩⟩=false:=fun c l hc=>noT _ (fun g=>absurd g.2 (sym_ne hx (by omega) hc));have hM:=mNum c3 c4 (hm _ _ (by decide)) (hm _ _ (by decide)) (hm _ _ (by decide)) (hm _ _ (by decide));have hval:s.val=s.neg:=by unfold St.val;rw[hp,if_neg (by omega),if_neg c1]
  by_cases g:s.neg=true
  ·have g2:s.isT hyT=true∧s.next.peek.kind=2:=by
    have g:=g;unfold St.neg at g;simp only[Bool.and_eq_true,decide_eq_true_eq]at g;exact⟨g.1,g.2.1⟩
   obtain⟨hy,k2⟩:=g2;have ha:s.accept hyT=s.next:=by unfold St.accept;rw[if_pos hy]
   have hx2:=Mr.anY PlTok.default hPn;have k2':m.next.peek.kind=2:=by rw[<- sn.peek];exact k2
   have e1:valF s=(if s.next.next.e≠0 then default else numV true m.next.peek,s.next.next):=by
    refine vT _ _ (hval.trans g) ?_;rw[hy,ha];unfold aoa;rw[sn.peek,if_pos k2']
   rw[hM,<- hn,g,if_pos rfl,e1];unfold mnum;rw[if_neg (show¬(s.next.next.e≠0)from fun z=>z (by rw[Sim.aoD];exact ne)),if_neg (show¬(m.next.peek.kind≠2)from fun z=>z k2')];exact⟨sn.next,fun _=>num_eq hx2 k2'⟩
  ·have g:s.neg=false:=by simpa using g
   exact bad (vE (hval.trans g)) (by rw[hM,<- hn,g,if_neg F,mBad c2])
def aps{s:St}(p:Tok->Bool)(h:s.peek.joined=false∨p s.peek=false):jF p s=(⟨#[]⟩,s.fail 13):=by unfold jF;rw[if_pos h]
def ap8{s:St}(p:Tok->Bool)(h:¬(s.peek.joined=false∨p s.peek=false)):jF p s=(s.peek.text,s.next):=by unfold jF;rw[if_neg h]
def step_sim{s:St}{m:Mr}(h:Sim s m)(hP:∀t∈m.l,PlTok t)(acc:ByteArray):
 (ahs acc s=none∧aoc acc m=none)∨(∃a s' m',ahs acc s=some (a,s')∧aoc acc m=some (none,m')∧Sim s' m'∧s'.e≠0)∨(∃a s' m',ahs acc s=some (a,s')∧aoc acc m=some (some a,m')∧Sim s' m'∧s'.e=0):=by
 have hp:=h.peek;have tT:=h.isT;by_cases he:s.e≠0
 ·refine .inl ⟨by unfold ahs;rw[if_pos (.inl he)],?_⟩;unfold aoc;rw[if_pos (.inl (by rw[(h.bad he).2.2.2.2.2.1];exact he))]
 have he:s.e=0:=Decidable.not_not.1 he;have hme:=(h.good he).2.1;by_cases cj:m.peek.joined=false
 ·exact .inl ⟨by unfold ahs;rw[hp,if_pos (.inr cj)],by unfold aoc;rw[if_pos (.inr (.inl cj))]⟩
 have n1:¬(s.e≠0∨s.peek.joined=false):=by rw[hp];exact fun g=>g.elim (fun k=>k he) cj
 have sn:=h.next;have ne:s.next.e=0:=by rw[Sim.aoD];exact he
 have sn2:=sn.next;have ne2:s.next.next.e=0:=by rw[Sim.aoD];exact ne
 have hPn:∀t∈m.next.l,PlTok t:=by rw[Mr.anR];exact hP
 have hPn2:∀t∈m.next.next.l,PlTok t:=by rw[Mr.anR];exact hPn
 have ktxt:∀t,m.isT t=true->m.peek.text=t:=fun t g=>(Mr.ab7 g).2;by_cases cd:m.isT dotT=true∨m.isT qmT=true
 ·have n2:¬(m.e≠0∨m.peek.joined=false∨(m.isT dotT=false∧m.isT qmT=false∧m.isT lbT=false)):=fun g=>g.elim (fun k=>k hme) (fun k=>k.elim cj (fun z=>cd.elim (fun y=>Bool.noConfusion (z.1.symm.trans y)) (fun y=>Bool.noConfusion (z.2.1.symm.trans y))));have n3:¬m.peek.text=lbT:=cd.elim (fun g=>by rw[ktxt _ g];decide) (fun g=>by rw[ktxt _ g];decide);have e1:ahs acc s=some (acc++(m.peek.text++(jF isW s.next).1),(jF isW s.next).2):=by
   unfold ahs;rw[if_neg n1,if_pos (by rw[tT,tT];exact cd),hp]
  have e2:aoc acc m=if m.next.peek.joined=false∨isW m.next.peek=false then some (none,m.next.fail 13)else some (some (acc++m.peek.text++m.next.peek.text),m.next.next):=by
   unfold aoc;rw[if_neg n2,if_neg n3]
  by_cases g:m.next.peek.joined=false∨isW m.next.peek=false
  ·rw[aps isW (by rw[sn.peek];exact g)]at e1;rw[if_pos g]at e2;exact .inr (.inl ⟨_,_,_,e1,e2,sn.fail 13,sn.aor (by decide)⟩)
  ·rw[ap8 isW (by rw[sn.peek];exact g)]at e1;rw[if_neg g]at e2;dsimp only at e1;rw[sn.peek,<- ByteArray.append_assoc]at e1;exact .inr (.inr ⟨_,_,_,e1,e2,sn2,ne2⟩)
 have cd1:m.isT dotT=false:=by simpa using fun g=>cd (.inl g)
 have cd2:m.isT qmT=false:=by simpa using fun g=>cd (.inr g)
 have m2:¬(s.isT dotT=true∨s.isT qmT=true):=by rw[tT,tT];exact cd
 by_cases cl:m.isT lbT=true
 ·have n2:¬(m.e≠0∨m.peek.joined=false∨(m.isT dotT=false∧m.isT qmT=false∧m.isT lbT=false)):=fun g=>g.elim (fun k=>k hme) (fun k=>k.elim cj (fun z=>Bool.noConfusion (z.2.2.symm.trans cl)));have e1:ahs acc s=some (acc++m.peek.text++(jF isI s.next).1++(jF isC (jF isI s.next).2).1,(jF isC (jF isI s.next).2).2):=by
   unfold ahs;rw[if_neg n1,if_neg m2,if_pos (by rw[tT];exact cl),hp]
  have e2:aoc acc m=if m.next.peek.joined=false∨isI m.next.peek=false then some (none,m.next.fail 13)
   else if m.next.next.peek.joined=false∨m.next.next.isT rbT=false then some (none,m.next.next.fail 13)
   else some (some (acc++m.peek.text++m.next.peek.text++m.next.next.peek.text),m.next.next.next):=by
   unfold aoc;rw[if_neg n2,if_pos (ktxt _ cl)]
  by_cases g:m.next.peek.joined=false∨isI m.next.peek=false
  ·rw[aps isI (by rw[sn.peek];exact g)]at e1;rw[if_pos g]at e2;dsimp only at e1;have be:=sn.aor (e:=13) (by decide);have sf:=sn.fail 13;have hb:=sf.bad be;rw[aps isC (by rw[hb.2.1];exact .inl rfl)]at e1;have hs:(s.next.fail 13).fail 13=s.next.fail 13:=by
    rw[St.fail,if_neg];intro z;rw[hb.1]at z;exact Bool.noConfusion z.1
   rw[hs]at e1;exact .inr (.inl ⟨_,_,_,e1,e2,sf,be⟩)
  ·rw [ap8 isI (by rw[sn.peek];exact g)]at e1;rw[if_neg g]at e2;dsimp only at e1;have hx2:=Mr.anY PlTok.default hPn2;have hC:isC m.next.next.peek=m.next.next.isT rbT:=by
    rw[Bool.eq_iff_iff];unfold isC Mr.isT;simp only[Bool.and_eq_true,Bool.or_eq_true,beq_iff_eq,decide_eq_true_eq];constructor
    ·exact fun g=>⟨.inr g.1,g.2⟩
    ·intro g;rcases g.1 with k1|k5
     ·exact absurd g.2 (apO hx2 k1 (by decide))
     ·exact⟨k5,g.2⟩
   by_cases g2:m.next.next.peek.joined=false∨m.next.next.isT rbT=false
   ·rw[aps isC (by rw[sn2.peek,hC];exact g2)]at e1;rw[if_pos g2]at e2;exact .inr (.inl ⟨_,_,_,e1,e2,sn2.fail 13,sn2.aor (by decide)⟩)
   ·rw[ap8 isC (by rw[sn2.peek,hC];exact g2)]at e1;rw[if_neg g2]at e2;dsimp only at e1;rw[sn.peek,sn2.peek]at e1;exact .inr (.inr ⟨_,_,_,e1,e2,sn2.next,by rw[Sim.aoD];exact ne2⟩)
 ·have cl:m.isT lbT=false:=by simpa using cl
  refine .inl ⟨?_,?_⟩
  ·unfold ahs;rw[if_neg n1,if_neg m2,if_neg (by rw[tT,cl];decide)]
  ·unfold aoc;rw[if_pos (.inr (.inr ⟨cd1,cd2,cl⟩))]
theorem aoV:∀(n N:Nat) (acc:ByteArray) (s:St) (m:Mr),Sim s m->(∀t∈m.l,PlTok t)->m.i<=m.l.length->s.e=0->s.l.length<=n->m.l.length-m.i<=N ->
 Sim (acf n acc s).2 (anZ N acc m).2∧((acf n acc s).2.e=0->(anZ N acc m).1=some (acf n acc s).1)∧((acf n acc s).2.e≠0->(anZ N acc m).1=none)
 | 0,N,acc,s,m,h,hP,hi,he,hn,hN=>by
  obtain⟨_,_,_,_,c,d,_⟩:=h.good he;rw[c,List.length_drop]at hn;omega
 | n+1,0,acc,s,m,h,hP,hi,he,hn,hN=>by
  obtain⟨_,_,_,_,c,d,_⟩:=h.good he;omega
 | n+1,N+1,acc,s,m,h,hP,hi,he,hn,hN=>by
  obtain⟨_,_,_,_,c,d,_⟩:=h.good he;simp only[acf,anZ];rcases step_sim h hP acc with⟨a,b⟩|⟨x,s',m',a,b,hs,hb⟩|⟨x,s',m',a,b,hs,hb⟩
  ·rw[a,b];exact⟨h,fun _=>rfl,fun g=>absurd he g⟩
  ·rw [a,b];dsimp only;have hp:acf n x s'=(x,s'):=by
    cases n with
    | zero=>rfl
    | succ n=>
     have:ahs x s'=none:=by unfold ahs;rw[if_pos (.inl hb)]
     simp only[acf];rw[this]
   rw[hp];exact⟨hs,fun g=>absurd g hb,fun _=>rfl⟩
  ·rw[a,b];dsimp only;obtain⟨l1,l2,l3,l4,_⟩:=aoK hP hi b;obtain⟨_,_,_,_,c',d',_⟩:=hs.good hb;have hl:s'.l.length=m'.l.length-m'.i:=by rw[c',List.length_drop]
   have hl0:s.l.length=m.l.length-m.i:=by rw[c,List.length_drop]
   rw[l1]at hl d';exact aoV n N x s' m' hs (by rw[l1];exact hP) (by rw[l1];omega) hb (by omega) (by rw[l1];omega)
def aqT{pe:ByteArray->Int}{s:St}{m:Mr}(h:Sim s m)(hP:∀t∈m.l,PlTok t)(hi:m.i<=m.l.length):Sim (abf pe s).2 (aoA pe m).2∧((abf pe s).2.e=0->(abf pe s).1=(aoA pe m).1):=by
 have hp:=h.peek;unfold abf aoA;by_cases he:s.e≠0
 ·obtain⟨b1,b2,b3,b4,b5,b6,_⟩:=h.bad he;have hf:m.fail 13=m:=by
   unfold Mr.fail;rw[if_neg (fun g=>he (b6▸g.1))]
  rw[if_pos he,if_pos (.inl (by rw[b3];decide)),hf];exact⟨h,fun g=>absurd g he⟩
 rw[if_neg he];have he:s.e=0:=Decidable.not_not.1 he;by_cases c:m.peek.kind≠1∨resB m.peek.text=true
 ·rw[if_pos c,hp,if_pos c];exact⟨h.fail 13,fun _=>rfl⟩
 rw[if_neg c,hp,if_neg c];have hk:m.peek.kind=1:=Decidable.not_not.1 fun g=>c (.inl g);have sn:=h.next;have ne:s.next.e=0:=by rw[Sim.aoD];exact he
 have hPn:∀t∈m.next.l,PlTok t:=by rw[Mr.anR];exact hP
 have hl:s.next.l.length<=s.l.length:=(Steps.next s).len;have hin:=Mr.aop hi;obtain⟨a,b1,b2⟩:=aoV s.l.length (m.l.length+1) m.peek.text s.next m.next sn hPn (by rw[Mr.anR];exact hin) ne hl (by rw[Mr.anR];omega);generalize acf s.l.length m.peek.text s.next=q at*;generalize anZ (m.l.length+1) m.peek.text m.next=Q at*;obtain⟨Q1,Q2⟩:=Q;dsimp only at a b1 b2;by_cases g:q.2.e≠0
 ·rw[if_pos g];obtain rfl:=b2 g;exact⟨a,fun _=>rfl⟩
 ·rw[if_neg g];obtain rfl:=b1 (Decidable.not_not.1 g);dsimp only;have sf:=a.fail (pe q.1);by_cases g2:(q.2.fail (pe q.1)).e≠0
  ·rw[if_pos g2];exact⟨sf,fun z=>absurd z g2⟩
  ·rw[if_neg g2];exact⟨sf,fun _=>rfl⟩
def Sim.place{s:St}{m:Mr}(h:Sim s m):m.place=(s.line,s.col,s.e):=by
 unfold Mr.place;by_cases he:s.e=0
 ·obtain⟨_,a,b,c,_⟩:=h.good he;rw[if_pos a,b,c,he]
 ·obtain⟨_,_,_,_,_,a,b,c⟩:=h.bad he;rw[if_neg (by rw[a];exact he),a,b,c]
def as0(s:ByteArray):Sim (newS s) (newM s)∧(∀t∈(newM s).l,PlTok t)∧(newM s).l.length<=65537∧(newM s).i<=(newM s).l.length:=by
 unfold newS newM;rcases aoC s with⟨a,b⟩|⟨a,L,t,b,c,d,e,f⟩
 ·generalize ao0 s=R at*;obtain⟨l,x,y,z⟩:=R;dsimp only at a b;subst b;exact⟨.inl ⟨a,rfl,rfl,rfl⟩,fun t (ht:t∈[])=>absurd ht List.not_mem_nil,by show 0<=65537;decide,Nat.le_refl _⟩
 ·generalize ao0 s=R at*;obtain⟨l,x,y,z⟩:=R;dsimp only at a b;subst b;simp only[Prod.mk.injEq]at a;obtain⟨rfl,rfl,rfl⟩:=a;refine⟨.inr ⟨rfl,rfl,rfl,rfl,rfl,?_,L,t,rfl,fun u hu=>(c u hu).2,e⟩,fun u hu=>?_,?_,Nat.zero_le _⟩
  ·show 0<(L++[t]).length;simp
  ·rcases List.mem_append.1 hu with g|g
   ·exact(c u g).1
   ·rw[List.mem_singleton.1 g];exact d
  ·show(L++[t]).length<=65537;rw[List.length_append];show L.length+1<=_;omega
def aoJ(s:ByteArray):OkS PlTok (newS s):=by
 unfold newS;rcases aoC s with⟨a,b⟩|⟨a,L,t,b,c,d,e,f⟩
 ·refine⟨fun u hu=>?_,?_,fun z=>absurd z a,fun u hu=>?_⟩
  ·have hu:(ao0 s).1.getLast? = some u:=hu;rw[b]at hu;cases hu
  ·show(ao0 s).1.length<=_;rw[b];exact Nat.zero_le _
  ·have hu:u∈(ao0 s).1:=hu;rw[b]at hu;cases hu
 ·refine⟨fun u hu=>?_,?_,fun _=>?_,fun u hu=>?_⟩
  ·have hu:(ao0 s).1.getLast? = some u:=hu;rw[b,List.getLast?_append]at hu;simp only[List.getLast?_singleton,Option.some_or,Option.some.injEq]at hu;rw[<- hu];exact e
  ·show(ao0 s).1.length<=_;rw[b,List.length_append];show L.length+1<=_;omega
  ·show(ao0 s).1≠[];rw[b];simp
  ·have hu:u∈(ao0 s).1:=hu;rw[b]at hu;rcases List.mem_append.1 hu with g|g
   ·exact(c u g).1
   ·rw[List.mem_singleton.1 g];exact d
def apS(e:Nat)(s:ByteArray):Af Tryz.prog 30 [.ptr 1000 0] [(1000,boxS fun _=>newS s)] (encV (e+1) .any fun _=>(valF (newS s)).1) [(1000,boxS fun _=>(valF (newS s)).2)]:=apj e (newS s) (aoJ s)
def path_new{pe:ByteArray->Int}(hpc:∀t,t.size<=100000000000->Asc t->Af Tryz.prog 43 [.str fun _=>t] [] (.tup [.any,.int .i64 fun _=>pe t]) [])(s:ByteArray):
 Af Tryz.prog 21 [.ptr 1000 0] [(1000,boxS fun _=>newS s)] (.str fun _=>(abf pe (newS s)).1) [(1000,boxS fun _=>(abf pe (newS s)).2)]:=
 amc (P:=PlTok) (fun t ht=>ht.size) (fun t ht=>ht.asc) hpc (newS s) (aoJ s)
def apB(t:ByteArray)(hs:t.size<=100000000000):Af Tryz.prog 43 [.str fun _=>t] [] (.tup [.any,.int .i64 fun _=>peV t]) []:=by
 have h:=adL t hs;unfold slcP at h;refine Af.apg h ?_;unfold peV
 exact aZ
def value_le(s:ByteArray):V.le 1 (valF (newS s)).1:=apT 0 (newS s) (aoJ s)
end Go.Ai
