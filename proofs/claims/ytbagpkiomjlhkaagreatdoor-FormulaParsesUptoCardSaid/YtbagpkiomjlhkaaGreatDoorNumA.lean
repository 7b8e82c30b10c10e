/- The library's contracts at this dump, in plain words, as the kit's tool writes them. -/
import Derived.Shelf.Unicode.DecodeAny
import Derived.Ground.NamesProg
import Derived.Test.YtbagpkiomjlhkaaGreatDoorProg
import Derived.Test.YtbagpkiomjlhkaaGreatDoorLexE
import Derived.Test.YtbagpkiomjlhkaaGreatDoorDec
import Derived.Lib.AtoiTie
import Derived.Lib.AtoiBound
import Derived.Laws.Runes
set_option linter.all false
namespace Go.Proofs
open Go.Shelf
def Tryz.ap4:Go.Shelf.Ren:=⟨fun|197=>224|260=>253|n=>n,fun|9=>9|21=>21|3=>3|4=>4|5=>5|105=>215|119=>233|0=>0|46=>181|139=>236|138=>235|n=>n,fun|3=>2|4=>3|n=>n⟩
def Tryz.lays197:Go.Proofs.Lays.n197 Tryz.prog Tryz.ap4:={
 mixed:=by kernel_rfl
 f197:=Tryz.func224.trans (congrArg some (by kernel_rfl))
 f260:=Tryz.func253.trans (congrArg some (by kernel_rfl))
 t0:=Tryz.underlying0
 a0:=Tryz.isAgg0
 z0:=Tryz.sizeOf0
 v0:=Tryz.zeroValue0
 t3:=Tryz.underlying3
 a3:=Tryz.isAgg3
 z3:=Tryz.sizeOf3
 v3:=Tryz.zeroValue3
 t4:=Tryz.underlying4
 a4:=Tryz.isAgg4
 z4:=Tryz.sizeOf4
 v4:=Tryz.zeroValue4
 t5:=Tryz.underlying5
 a5:=Tryz.isAgg5
 z5:=Tryz.sizeOf5
 v5:=Tryz.zeroValue5
 t9:=Tryz.underlying9
 a9:=Tryz.isAgg9
 z9:=Tryz.sizeOf9
 v9:=Tryz.zeroValue9
 t21:=Tryz.underlying21
 a21:=Tryz.isAgg21
 z21:=Tryz.sizeOf21
 v21:=Tryz.zeroValue21
 t46:=Tryz.underlying181
 a46:=Tryz.isAgg181
 z46:=Tryz.sizeOf181
 v46:=Tryz.zeroValue181
 t105:=Tryz.underlying215
 a105:=Tryz.isAgg215
 z105:=Tryz.sizeOf215
 v105:=Tryz.zeroValue215
 t119:=Tryz.underlying233
 a119:=Tryz.isAgg233
 z119:=Tryz.sizeOf233
 t138:=Tryz.underlying235
 a138:=Tryz.isAgg235
 z138:=Tryz.sizeOf235
 v138:=Tryz.zeroValue235
 t139:=Tryz.underlying236
 a139:=Tryz.isAgg236
 z139:=Tryz.sizeOf236
 v139:=Tryz.zeroValue236
 g3:=by kernel_rfl
 g4:=by kernel_rfl }
end Go.Proofs

namespace Go.Ai
open Go Go.Proofs
set_option maxRecDepth 100000
set_option maxHeartbeats 4000000
def bsz1(l:List UInt8):(ByteArray.mk (Array.mk l)).size=l.length:=rfl
def numJ(s:ByteArray)(i:Nat):Nat:=aag s digB i
def numK(s:ByteArray)(i:Nat):Nat:=if byt s (numJ s i)=46∧digB (byt s (numJ s i+1))=true then aag s digB (numJ s i+1)else numJ s i
def numQ(s:ByteArray)(i:Nat):Nat:=if numK s i=numJ s i∧byt s (numJ s i)=100∧adM (byt s (numJ s i+1))=false then numJ s i+1 else numK s i
def nR(dec:ByteArray->Int×Int×Int)(s:ByteArray)(i:Nat)(w:Int)(t:Tok):Nat×Int×Int×Tok:=
 if 1<numJ s i-i∧byt s i=48 then(numQ s i,i,3,t.setN (s.extract i (numQ s i)) t.num t.scale)
 else(numQ s i,if(dec (s.extract i (numK s i))).2.2=0 then w else i,(dec (s.extract i (numK s i))).2.2,t.setN (s.extract i (numQ s i)) (dec (s.extract i (numK s i))).1 (dec (s.extract i (numK s i))).2.1)
def aql{s:ByteArray}{i:Nat}{c:UInt8}(hi:i<s.size)(h:byt s i=c.toNat):s.extract i (i+1)=⟨#[c]⟩:=by
 apply ByteArray.ext;apply Array.ext';rw[ByteArray.data_extract,Array.toList_extract];obtain⟨b,h1,h2⟩:=adW hi;have e:b=c:=by
  rw[h]at h2;have:b.toNat=c.toNat:=by omega
  exact UInt8.toNat_inj.1 this
 simp only[List.extract];rw[h1,show i+1-i=1 by omega,e];rfl
def aoN{s:ByteArray}{i j k:Nat}(h1:i<=j)(h2:j<=k)(h3:k<=s.size):s.extract i j++s.extract j k=s.extract i k:=by
 apply ByteArray.ext;rw[ByteArray.data_append,ByteArray.data_extract,ByteArray.data_extract,ByteArray.data_extract];simp[h1,h2]
def apn{s:ByteArray}{i:Nat}(hi:i<s.size)(hl:digB (byt s i)=true):i<numJ s i∧numJ s i<=numK s i∧numK s i<=numQ s i∧numQ s i<=s.size∧numQ s i<=numK s i+1:=by
 have hj:i<numJ s i∧numJ s i<=s.size:=by
  unfold numJ;rw[abw ⟨hi,hl⟩];have:=abb (s:=s) (p:=digB) (i:=i+1) (by omega);omega
 have hk:numJ s i<=numK s i∧numK s i<=s.size:=by
  unfold numK;split
  ·rename_i c;have:=anw (s:=s) (i:=numJ s i) (by rw[c.1];decide);have:=abb (s:=s) (p:=digB) (i:=numJ s i+1) (by omega);omega
  ·omega
 refine⟨hj.1,hk.1,?_⟩;unfold numQ;split
 ·rename_i c;have:=anw (s:=s) (i:=numJ s i) (by rw[c.2.1];decide);omega
 ·omega
def apC(dec:ByteArray->Int×Int×Int)(s:ByteArray)(i:Nat)(w:Int)(t:Tok)(hs:s.size<=1073741824)(hi:i<s.size)(hl:digB (byt s i)=true)
 (hp:Af Tryz.prog 167 [.str fun _=>s.extract i (numK s i)] [] (.tup [.agg [.int .i64 fun _=>(dec (s.extract i (numK s i))).1,.int .i64 fun _=>(dec (s.extract i (numK s i))).2.1],.int .i64 fun _=>(dec (s.extract i (numK s i))).2.2]) []):
 Meth 105 s i w 0 t true (nR dec s i w t).1 (nR dec s i w t).2.1 (nR dec s i w t).2.2.1 (nR dec s i w t).2.2.2:=by
 obtain⟨l1,l2,l3,l4,l5⟩:=apn hi hl;have h0:=aaH s i 0 w 0 (by omega) (by omega);have h2:=adx (byt s i);rw[hl]at h2;have h3:=ajp s i w 0 hs (by omega) 166 digB adx;have h5:=aaH s (numJ s i) 0 w 0 (by omega) (by omega);have h6:=aaH s (numJ s i) 1 w 0 (by omega) (by omega);have hf:∀(q:Nat) (c:Int),Af Tryz.prog 109 [.ptr 1000 0,.int .i64 fun _=>(i:Int),.int .i64 fun _=>c] [(1000,boxC s q w 0)] (.tup []) [(1000,boxC s q i c)]:=fun q c=>by
  have:=anT s q w 0 i c
  rwa [if_pos rfl,if_pos rfl]at this
 have b0:byt (s.extract i (numJ s i)) 0=byt s i:=by
  have:=aok (s:=s) (i:=i) (j:=numJ s i) (k:=0) (by omega) (by omega);simpa using this
 have z0:(s.extract i (numJ s i)).size=numJ s i-i:=by rw[ByteArray.size_extract];omega
 unfold Meth;obtain⟨R,hR⟩:∃R,R=nR dec s i w t:=⟨_,rfl⟩
 rw[<- hR];unfold nR at hR;have hJ:aag s digB i=numJ s i:=rfl;rw[hJ]at h3;by_cases cA:byt s (numJ s i)=46∧digB (byt s (numJ s i+1))=true
 ·have hK:numK s i=aag s digB (numJ s i+1):=by unfold numK;rw[if_pos cA]
  have hJs:numJ s i<s.size:=anw (by rw[cA.1];decide);have hlt:numJ s i+1<=numK s i:=by rw[hK];exact(abb (by omega)).1
  have hQ:numQ s i=numK s i:=by unfold numQ;rw[if_neg (by omega)]
  have h4:=ajp s (numJ s i+1) w 0 hs (by omega) 166 digB adx;rw[<- hK]at h4;have h7:=aaH s (numK s i) 0 w 0 (by omega) (by omega);have h8:=aaH s (numK s i) 1 w 0 (by omega) (by omega);have hx:s.extract i (numJ s i)++⟨#[46]⟩++s.extract (numJ s i+1) (numK s i)=s.extract i (numK s i):=by
   rw[<- aql (c:=46) hJs (by rw[cA.1];rfl),aoN (by omega) (by omega) (by omega),aoN (by omega) (by omega) (by omega)]
  have h9:=amg (byt s (numK s i+1));have h10:=adx (byt s (numJ s i+1));rw[cA.2]at h10;have hj46:=cA.1;rw[hQ]at hR;have z1:(s.extract i (numK s i)).size=numK s i-i:=by rw[ByteArray.size_extract];omega
  have hne:¬s.extract i (numK s i)=s.extract i (numJ s i):=fun q=>by
   have:=congrArg ByteArray.size q;rw[z0,z1]at this;omega
  generalize byt s (numK s i+1)=cd at*;generalize byt s (numJ s i+1)=ce at*;generalize adM cd=pb at*;obtain⟨cK,hcK⟩:∃c,c=byt s (numK s i+0):=⟨_,rfl⟩
  rw[<- hcK]at h7;clear hK hQ cA;rw[show numJ s i+0=numJ s i from rfl,hj46]at h5;generalize numK s i=K at*;generalize numJ s i=J at*;obtain⟨x,hxx⟩:∃x,x=s.extract i J:=⟨_,rfl⟩
  obtain⟨y,hy⟩:∃y,y=s.extract (J+1) K:=⟨_,rfl⟩
  obtain⟨z,hz⟩:∃z,z=s.extract i K:=⟨_,rfl⟩
  rw[<- hxx,<- hy,<- hz]at hx;rw[<- hxx]at h3 b0 z0;rw[<- hy]at h4;rw[<- hz]at hp hR z1;rw[<- hz,<- hxx]at hne;generalize dec z=r at*;obtain⟨n,sc,er⟩:=r;dsimp only at hp hR;have zy:y.size=K-(J+1):=by rw[hy,ByteArray.size_extract];omega
  clear hxx hy hz hcK;obtain⟨J1,hJ1⟩:∃J1,J1=J+1:=⟨_,rfl⟩
  have hw:IntKind.i64.wrap ((J:Int)+1)=(J1:Int):=(w64 (by omega) (by omega)).trans (by omega);rw[<- hJ1]at h4;have hc:(1<J-i∧byt s i=48)↔(1<(x.size:Int)∧((x.data[Int.toNat 0]?.getD 0).toNat:Int)=48):=by
   have:byt x 0=((x.data[Int.toNat 0]?.getD 0).toNat:Int):=rfl;rw[b0]at this;omega
  by_cases cz0:1<J-i∧byt s i=48
  ·rw[if_pos cz0]at hR;subst hR;replace hc:=hc.1 cz0
   (refine fA [.tmp 4] ap0 [(1,[(1,.int .u8 fun _=>byt s i,[(1000,boxC s i w 0)]),(2,zO true,[])]),
     (4,[(1,zR x,[(1000,boxC s J w 0)])]),(6,[(1,.int .u8 fun _=>46,[(1000,boxC s J w 0)]),(5,.int .u8 fun _=>ce,[(1000,boxC s J w 0)]),(6,zO true,[])]),
     (8,[(3,zR y,[(1000,boxC s K w 0)])]),
     (10,[(5,.int .u8 fun _=>cK,[(1000,boxC s K w 0)]),(10,.int .u8 fun _=>cd,[(1000,boxC s K w 0)]),(11,zO pb,[])]),
     (14,[(2,zT,[(1000,boxC s K i 3)])]),(16,[(1,.tup [.agg [zI n,zI sc],zI er],[])]),(18,[(3,zT,[(1000,boxC s K i er)])])] Tryz.func105 fun _=>?_;repeat' with_reducible first|exact⟨⟩|refine mA ?_ ?_|refine mC (fun _=>?_) fun _=>?_)
   all_goals(try simp only[ite_self,hx,hw])
   all_goals(try(exact absurd trivial (‹¬True∨False›.resolve_right id)))
   all_goals(try(exact absurd ‹(z=x∧_)∧_›.1.1 hne))
   all_goals(try(exact absurd (hx.symm.trans ‹((x++⟨#[46]⟩++y=x)∧_)∧_›.1.1) hne))
   all_goals(try(exfalso;omega))
   any_goals((with_reducible first|refine nO ?_|refine sO (fun _=>?_));first|exact h0|exact h2|exact h3|exact h4|exact h5|exact h6|exact h7|exact h8|exact h9|exact h10|exact hp|exact hf _ _)
   (all_goals try first|exact eZ|(refine qC ?_;repeat' with_reducible first|exact⟨⟩|refine mA ?_ ?_))
   all_goals(try rfl)
   all_goals(try(exact(if_neg ‹¬er=0›).symm))
   all_goals(try(simp only[ByteArray.size_append,bsz1,List.length_cons,List.length_nil];omega))
  ·rw[if_neg cz0]at hR;subst hR;replace hc:=fun q=>cz0 (hc.2 q)
   (refine fA [.tmp 4] ap0 [(1,[(1,.int .u8 fun _=>byt s i,[(1000,boxC s i w 0)]),(2,zO true,[])]),
     (4,[(1,zR x,[(1000,boxC s J w 0)])]),(6,[(1,.int .u8 fun _=>46,[(1000,boxC s J w 0)]),(5,.int .u8 fun _=>ce,[(1000,boxC s J w 0)]),(6,zO true,[])]),
     (8,[(3,zR y,[(1000,boxC s K w 0)])]),
     (10,[(5,.int .u8 fun _=>cK,[(1000,boxC s K w 0)]),(10,.int .u8 fun _=>cd,[(1000,boxC s K w 0)]),(11,zO pb,[])]),
     (14,[(2,zT,[(1000,boxC s K i 3)])]),(16,[(1,.tup [.agg [zI n,zI sc],zI er],[])]),(18,[(3,zT,[(1000,boxC s K i er)])])] Tryz.func105 fun _=>?_;repeat' with_reducible first|exact⟨⟩|refine mA ?_ ?_|refine mC (fun _=>?_) fun _=>?_)
   all_goals(try simp only[ite_self,hx,hw])
   all_goals(try(exact absurd trivial (‹¬True∨False›.resolve_right id)))
   all_goals(try(exact absurd (hx.symm.trans ‹((x++⟨#[46]⟩++y=x)∧_)∧_›.1.1) hne))
   all_goals(try(exact absurd ‹1<(x.size:Int)∧_› hc))
   any_goals((with_reducible first|refine nO ?_|refine sO (fun _=>?_));first|exact h0|exact h2|exact h3|exact h4|exact h5|exact h6|exact h7|exact h8|exact h9|exact h10|exact hp|exact hf _ _)
   (all_goals try first|exact eZ|(refine qC ?_;repeat' with_reducible first|exact⟨⟩|refine mA ?_ ?_))
   all_goals(try rfl)
   all_goals(try(exact(if_neg ‹¬er=0›).symm))
   all_goals(try(simp only[ByteArray.size_append,bsz1,List.length_cons,List.length_nil];omega))
 ·have hK:numK s i=numJ s i:=by unfold numK;rw[if_neg cA]
  have h7:=amg (byt s (numJ s i+1));have h10:=adx (byt s (numJ s i+1));rw[hK]at hp hR l5;by_cases cD:byt s (numJ s i)=100∧adM (byt s (numJ s i+1))=false
  ·have hQ:numQ s i=numJ s i+1:=by unfold numQ;rw[if_pos ⟨hK,cD⟩]
   have hJs:numJ s i<s.size:=anw (by rw[cD.1];decide);rw[hQ]at hR;have hx:s.extract i (numJ s i)++⟨#[100]⟩=s.extract i (numJ s i+1):=by
    rw[<- aql (c:=100) hJs (by rw[cD.1];rfl),aoN (by omega) (by omega) (by omega)]
   obtain⟨ce,hce⟩:∃c,c=byt s (numJ s i+1):=⟨_,rfl⟩
   rw[show numJ s i+0=numJ s i from rfl]at h5;rw[<- hce]at h6 h7 h10 cA cD;rw[cD.1]at h5 cA;rw[cD.2]at h7;generalize digB ce=pe at*;clear hK hQ cD hce;generalize numK s i=K at*;generalize numJ s i=J at*;generalize s.extract i J=x at*;obtain⟨Q,hQ⟩:∃Q,Q=J+1:=⟨_,rfl⟩
   have hw:IntKind.i64.wrap ((J:Int)+1)=(Q:Int):=(w64 (by omega) (by omega)).trans (by omega);rw[<- hQ]at hR hx;generalize s.extract i Q=z at*;generalize dec x=r at*;obtain⟨n,sc,er⟩:=r;dsimp only at hp hR;have hc:(1<J-i∧byt s i=48)↔(1<(x.size:Int)∧((x.data[Int.toNat 0]?.getD 0).toNat:Int)=48):=by
    have:byt x 0=((x.data[Int.toNat 0]?.getD 0).toNat:Int):=rfl;rw[b0]at this;omega
   by_cases cz0:1<J-i∧byt s i=48
   ·rw[if_pos cz0]at hR;subst hR;replace hc:=hc.1 cz0
    (refine fA [.tmp 4] ap0 [(1,[(1,.int .u8 fun _=>byt s i,[(1000,boxC s i w 0)]),(2,zO true,[])]),
    (4,[(1,zR x,[(1000,boxC s J w 0)])]),(6,[(1,.int .u8 fun _=>100,[(1000,boxC s J w 0)]),(5,.int .u8 fun _=>ce,[(1000,boxC s J w 0)]),(6,zO pe,[])]),
    (8,[(3,.any,[])]),
    (10,[(5,.int .u8 fun _=>100,[(1000,boxC s J w 0)]),(10,.int .u8 fun _=>ce,[(1000,boxC s J w 0)]),(11,zO false,[])]),
    (14,[(2,zT,[(1000,boxC s Q i 3)])]),(16,[(1,.tup [.agg [zI n,zI sc],zI er],[])]),(18,[(3,zT,[(1000,boxC s Q i er)])])] Tryz.func105 fun _=>?_;repeat' with_reducible first|exact⟨⟩|refine mA ?_ ?_|refine mC (fun _=>?_) fun _=>?_)
    all_goals(try simp only[ite_self,hx,hw])
    all_goals(try(exact absurd ‹(100:Int)=46∧pe=true› cA))
    all_goals(try(exact absurd trivial (‹¬True∨False›.resolve_right id)))
    all_goals(try(exact absurd trivial ((‹(¬True∨¬True)∨False›.resolve_right id).elim id id)))
    all_goals(try(exfalso;omega))
    any_goals((with_reducible first|refine nO ?_|refine sO (fun _=>?_));first|exact h0|exact h2|exact h3|exact h5|exact h6|exact h7|exact h10|exact hp|exact hf _ _)
    (all_goals try first|exact eZ|(refine qC ?_;repeat' with_reducible first|exact⟨⟩|refine mA ?_ ?_))
    all_goals(try rfl)
    all_goals(try(simp only[ByteArray.size_append,bsz1,List.length_cons,List.length_nil];omega))
   ·rw[if_neg cz0]at hR;subst hR;replace hc:=fun q=>cz0 (hc.2 q)
    (refine fA [.tmp 4] ap0 [(1,[(1,.int .u8 fun _=>byt s i,[(1000,boxC s i w 0)]),(2,zO true,[])]),
    (4,[(1,zR x,[(1000,boxC s J w 0)])]),(6,[(1,.int .u8 fun _=>100,[(1000,boxC s J w 0)]),(5,.int .u8 fun _=>ce,[(1000,boxC s J w 0)]),(6,zO pe,[])]),
    (8,[(3,.any,[])]),
    (10,[(5,.int .u8 fun _=>100,[(1000,boxC s J w 0)]),(10,.int .u8 fun _=>ce,[(1000,boxC s J w 0)]),(11,zO false,[])]),
    (14,[(2,zT,[(1000,boxC s Q i 3)])]),(16,[(1,.tup [.agg [zI n,zI sc],zI er],[])]),(18,[(3,zT,[(1000,boxC s Q i er)])])] Tryz.func105 fun _=>?_;repeat' with_reducible first|exact⟨⟩|refine mA ?_ ?_|refine mC (fun _=>?_) fun _=>?_)
    all_goals(try simp only[ite_self,hx,hw])
    all_goals(try(exact absurd ‹(100:Int)=46∧pe=true› cA))
    all_goals(try(exact absurd trivial (‹¬True∨False›.resolve_right id)))
    all_goals(try(exact absurd trivial ((‹(¬True∨¬True)∨False›.resolve_right id).elim id id)))
    all_goals(try(exact absurd ‹1<(x.size:Int)∧_› hc))
    any_goals((with_reducible first|refine nO ?_|refine sO (fun _=>?_));first|exact h0|exact h2|exact h3|exact h5|exact h6|exact h7|exact h10|exact hp|exact hf _ _)
    (all_goals try first|exact eZ|(refine qC ?_;repeat' with_reducible first|exact⟨⟩|refine mA ?_ ?_))
    all_goals(try rfl)
    all_goals(try(exact(if_neg ‹¬er=0›).symm))
    all_goals(try(simp only[ByteArray.size_append,bsz1,List.length_cons,List.length_nil];omega))
  ·have hQ:numQ s i=numJ s i:=by unfold numQ;rw[if_neg (fun q=>cD q.2),hK]
   rw[hQ]at hR;obtain⟨ce,hce⟩:∃c,c=byt s (numJ s i+1):=⟨_,rfl⟩
   rw[show numJ s i+0=numJ s i from rfl]at h5;rw[<- hce]at h6 h7 h10 cA cD;generalize digB ce=pe at*;generalize adM ce=pb at*;obtain⟨c0,hc0⟩:∃c,c=byt s (numJ s i):=⟨_,rfl⟩
   rw[<- hc0]at h5 cA cD;clear hK hQ hce hc0;generalize numK s i=K at*;generalize numJ s i=J at*;generalize s.extract i J=x at*;generalize dec x=r at*;obtain⟨n,sc,er⟩:=r;dsimp only at hp hR;have hc:(1<J-i∧byt s i=48)↔(1<(x.size:Int)∧((x.data[Int.toNat 0]?.getD 0).toNat:Int)=48):=by
    have:byt x 0=((x.data[Int.toNat 0]?.getD 0).toNat:Int):=rfl;rw[b0]at this;omega
   by_cases cz0:1<J-i∧byt s i=48
   ·rw[if_pos cz0]at hR;subst hR;replace hc:=hc.1 cz0
    (refine fA [.tmp 4] ap0 [(1,[(1,.int .u8 fun _=>byt s i,[(1000,boxC s i w 0)]),(2,zO true,[])]),
    (4,[(1,zR x,[(1000,boxC s J w 0)])]),(6,[(1,.int .u8 fun _=>c0,[(1000,boxC s J w 0)]),(5,.int .u8 fun _=>ce,[(1000,boxC s J w 0)]),(6,zO pe,[])]),
    (8,[(3,.any,[])]),
    (10,[(5,.int .u8 fun _=>c0,[(1000,boxC s J w 0)]),(10,.int .u8 fun _=>ce,[(1000,boxC s J w 0)]),(11,zO pb,[])]),
    (14,[(2,zT,[(1000,boxC s J i 3)])]),(16,[(1,.tup [.agg [zI n,zI sc],zI er],[])]),(18,[(3,zT,[(1000,boxC s J i er)])])] Tryz.func105 fun _=>?_;repeat' with_reducible first|exact⟨⟩|refine mA ?_ ?_|refine mC (fun _=>?_) fun _=>?_)
    all_goals(try simp only[ite_self])
    all_goals(try(exact absurd ‹c0=46∧pe=true› cA))
    all_goals(try(exact absurd trivial (‹¬True∨False›.resolve_right id)))
    all_goals(try(exact absurd ⟨‹(True∧c0=100)∧pb=false›.1.2,‹(True∧c0=100)∧pb=false›.2⟩ cD))
    all_goals(try(exfalso;omega))
    any_goals((with_reducible first|refine nO ?_|refine sO (fun _=>?_));first|exact h0|exact h2|exact h3|exact h5|exact h6|exact h7|exact h10|exact hp|exact hf _ _)
    (all_goals try first|exact eZ|(refine qC ?_;repeat' with_reducible first|exact⟨⟩|refine mA ?_ ?_))
    all_goals(try rfl)
    all_goals(try(simp only[ByteArray.size_append,bsz1,List.length_cons,List.length_nil];omega))
   ·rw[if_neg cz0]at hR;subst hR;replace hc:=fun q=>cz0 (hc.2 q)
    (refine fA [.tmp 4] ap0 [(1,[(1,.int .u8 fun _=>byt s i,[(1000,boxC s i w 0)]),(2,zO true,[])]),
    (4,[(1,zR x,[(1000,boxC s J w 0)])]),(6,[(1,.int .u8 fun _=>c0,[(1000,boxC s J w 0)]),(5,.int .u8 fun _=>ce,[(1000,boxC s J w 0)]),(6,zO pe,[])]),
    (8,[(3,.any,[])]),
    (10,[(5,.int .u8 fun _=>c0,[(1000,boxC s J w 0)]),(10,.int .u8 fun _=>ce,[(1000,boxC s J w 0)]),(11,zO pb,[])]),
    (14,[(2,zT,[(1000,boxC s J i 3)])]),(16,[(1,.tup [.agg [zI n,zI sc],zI er],[])]),(18,[(3,zT,[(1000,boxC s J i er)])])] Tryz.func105 fun _=>?_;repeat' with_reducible first|exact⟨⟩|refine mA ?_ ?_|refine mC (fun _=>?_) fun _=>?_)
    all_goals(try simp only[ite_self])
    all_goals(try(exact absurd ‹c0=46∧pe=true› cA))
    all_goals(try(exact absurd trivial (‹¬True∨False›.resolve_right id)))
    all_goals(try(exact absurd ⟨‹(True∧c0=100)∧pb=false›.1.2,‹(True∧c0=100)∧pb=false›.2⟩ cD))
    all_goals(try(exact absurd ‹1<(x.size:Int)∧_› hc))
    any_goals((with_reducible first|refine nO ?_|refine sO (fun _=>?_));first|exact h0|exact h2|exact h3|exact h5|exact h6|exact h7|exact h10|exact hp|exact hf _ _)
    (all_goals try first|exact eZ|(refine qC ?_;repeat' with_reducible first|exact⟨⟩|refine mA ?_ ?_))
    all_goals(try rfl)
    all_goals(try(exact(if_neg ‹¬er=0›).symm))
    all_goals(try(simp only[ByteArray.size_append,bsz1,List.length_cons,List.length_nil];omega))
end Go.Ai

namespace Go.Ai
open Go Go.Proofs Go.RowKit
set_option maxRecDepth 100000
set_option maxHeartbeats 4000000
def cut_sum(s p:ByteArray)(hp:1<=p.size):(cutL s p).1.size+(cutL s p).2.1.size<=s.size:=by
 have hl:s.data.toList.length=s.size:=by rw[Array.length_toList];rfl
 unfold cutL Lib.cut;dsimp only;split
 ·rw[aiR,aiR];dsimp only;rw[List.length_take,List.length_drop];omega
 ·rw[aiR,aiR];dsimp only;simp only[List.length_nil];omega
def apK{s:ByteArray}(hs:s.size<=18): -9223372036854775808<(ab6 s).1∧(ab6 s).1<=9223372036854775807:=by
 have hl:s.data.toList.length=s.size:=by rw[Array.length_toList];rfl
 have h:=Lib.atoiAll_short s.data.toList (by omega);unfold ab6;rw[h];cases q:Lib.atoi s.data.toList with
 | none=>simp only[Lib.NumEnd.ofOption];omega
 | some n=>
  have:=Lib.atoi_bound q (by omega);simp only[Lib.NumEnd.ofOption];omega
def aqf(s:ByteArray)(hs:s.size<=1073741824):Af Tryz.prog 167 [.str fun _=>s] [] (.tup [encN fun _=>(decP s).1,.int .i64 fun _=>(decP s).2]) []:=
 aqe s (fun h=>by
  have h1:=cut_sum s ⟨#[46]⟩ (by decide);exact⟨by omega,apK (by unfold acQ;rw[ByteArray.size_append];omega)⟩) hs
def hxdB:ByteArray:=⟨#[48,49,50,51,52,53,54,55,56,57,97,98,99,100,101,102]⟩
def hexV(c:Int):Int:=idxB hxdB (if 65<=c∧c<=70 then c+32 else c)
def ao2(c:Int)(h0:0<=c)(h1:c<256):Af Tryz.prog 160 [.int .u8 fun _=>c] [] (.int .i64 fun _=>hexV c) []:=by
 have h:=aeb hxdB (if 65<=c∧c<=70 then c+32 else c);unfold hexV;generalize idxB hxdB (if 65<=c∧c<=70 then c+32 else c)=n at*;by_cases q:65<=c∧c<=70
 ·rw[if_pos q]at h;have hw:IntKind.u8.wrap (c+32)=c+32:=by
   unfold IntKind.wrap;simp[IntKind.bits,IntKind.signed];omega
  (refine fA [.tmp 2] kp160 [(3,[(1,zI n,[])])] Tryz.func160 fun _=>?_;repeat' with_reducible first|exact⟨⟩|refine mA ?_ ?_|refine mC (fun _=>?_) fun _=>?_)
  all_goals(try simp only[hw])
  all_goals(try(exfalso;omega))
  all_goals(try exact zB)
  all_goals exact eZ
 ·rw[if_neg q]at h
  (refine fA [.tmp 2] kp160 [(3,[(1,zI n,[])])] Tryz.func160 fun _=>?_;repeat' with_reducible first|exact⟨⟩|refine mA ?_ ?_|refine mC (fun _=>?_) fun _=>?_)
  all_goals(try(exfalso;omega))
  all_goals(try exact zB)
  all_goals exact eZ
def ptB(p:Int):Bool:=decide (0<=p∧p<=1114111)&&decide (p<55296∨57343<p)
def apH(p:Int):Af Tryz.prog 252 [.int .i64 fun _=>p] [] (.bool fun _=>ptB p) []:=by
 (refine fB [.tmp 2] kp252 [] Tryz.func252 fun _=>?_;repeat' with_reducible first|exact⟨⟩|refine mA ?_ ?_|refine mC (fun _=>?_) fun _=>?_)
 unfold ptB;by_cases a:0<=p<;>by_cases b:p<=1114111<;>by_cases c:p<55296<;>by_cases d:57343<p<;>simp[a,b,c,d]
def apG(p:Int)(h:ptB p=true)(w:World):Calls Tryz.prog 252 #[.int .i64 p] w fun e w'=>e=.returned (.bool true)∧w'=w:=by
 simp only[ptB,Bool.and_eq_true,decide_eq_true_eq]at h;have mixed:Tryz.prog.follows .mixedOrders=true:=by kernel_rfl
 go_enter Tryz.func252,Tryz.ntmps252
 go_wp2
 all_goals(go_ret;refine⟨?_,rfl⟩;first|rfl|(exfalso;omega)|(rw[decide_eq_true (show(57343:Int)<p by omega),Bool.or_true];rfl))
def aqb(p:Int)(h:ptB p=true)(w:World):Calls Tryz.prog 223 #[.int .i64 p] w fun e w'=>e=.returned (.tuple #[.string (Utf8.encode p),.int .i64 0])∧w'=w:=by
 have h2:=h;simp only[ptB,Bool.and_eq_true,decide_eq_true_eq]at h2;have e252:∀args w,(callFunc 252 args).run Tryz.prog w=.ok (.enter 252 args) w:=enters_of Tryz.func252 (by kernel_rfl) rfl;have hw:IntKind.i32.wrap p=p:=by
  unfold IntKind.wrap;simp[IntKind.bits,IntKind.signed];omega
 have hconv:∀W,(convert 21 9 (.int .i32 p)).run Tryz.prog W=.ok (.string (Utf8.encode p)) W:=fun W=>run_convert_int_string W 21 9 .i32 p (by kernel_rfl) (by kernel_rfl)
 go_enter Tryz.func223,Tryz.ntmps223
 go_wp2_with (go_at_fn 252;refine(apG p h _).mono ?_;rintro e w' ⟨rfl,hw⟩;rw[hw])
 go_ret2
 exact⟨rfl,rfl⟩
def ap1(p:Int):Af Tryz.prog 223 [.int .i64 fun _=>p] [] (.tup [.str fun _=>if ptB p=true then Utf8.encode p else⟨#[]⟩,.int .i64 fun _=>if ptB p=true then 0 else 2]) []:=by
 by_cases h:ptB p=true
 ·rw[if_pos h,if_pos h];refine Af.akI (vals:=#[.int .i64 p]) Tryz.func223 rfl fun w hT=>?_;refine(aqb p h w).mono fun e w' ⟨he,hw⟩=>⟨_,he,fun w2 D B=>?_,by rw[hw];exact Below.refl _ _⟩
  refine .tup _ _ rfl fun i av u h1 h2=>?_
  match i with
  | 0=>simp at h1 h2;subst h1;subst h2;exact .str _
  | 1=>simp at h1 h2;subst h1;subst h2;exact .int _ _
  | i+2=>simp at h1
 ·have h1:=apH p;rw[if_neg h,if_neg h];simp only[Bool.not_eq_true]at h;rw[h]at h1
  (refine fA [.tmp 2,.tmp 3] kp223 [(1,[(1,zO false,[])])] Tryz.func223 fun _=>?_;repeat' with_reducible first|exact⟨⟩|refine mA ?_ ?_|refine mC (fun _=>?_) fun _=>?_)
  all_goals(try exact zB)
  all_goals exact eZ
def decR_ok(s:ByteArray):Af Tryz.prog 224 [.str fun _=>s] [] (.tup [.int .i32 fun _=>((Lib.decodeGo s).1:Int),.int .i64 fun _=>((Lib.decodeGo s).2:Int)]) []:=by
 refine Af.akI (vals:=#[.string s]) Tryz.func224 rfl fun w hT=>?_;refine(Any.utf8_DecodeRuneInString Tryz.lays197 s w hT.u).mono fun e w' ⟨he,hw⟩=>⟨_,he,fun w2 D B=>?_,hw⟩
 refine .tup _ _ rfl fun i av u h1 h2=>?_
 match i with
 | 0=>simp at h1 h2;subst h1;subst h2;exact .int _ _
 | 1=>simp at h1 h2;subst h1;subst h2;exact .int _ _
 | i+2=>simp at h1
def dcE(s:ByteArray)(i:Nat):Bool:=(Utf8.decode s i).1==65533&&decide ((Utf8.decode s i).2<=1)
def apJ(s:ByteArray)(i:Nat)(h:i<s.size):Lib.decodeGo (s.extract i s.size)=Utf8.decode s i:=by
 have hx:(s.extract i s.size).size=s.size-i:=by rw[ByteArray.size_extract];omega
 have hg:∀j,(s.extract i s.size).get! j=s.get! (i+j):=fun j=>by
  show(s.extract i s.size).data[j]! = s.data[i+j]!;rw[ByteArray.data_extract,getElem!_def,getElem!_def,Array.getElem?_extract];have e:min s.size s.data.size=s.size:=Nat.min_self _;rw[e];by_cases q:j<s.size-i
  ·rw[if_pos q]
  ·rw[if_neg q,Array.getElem?_eq_none (by show s.size<=_;omega)]
 unfold Lib.decodeGo;rw[if_neg (by omega),Lib.decode_at,Lib.decode_at,hx,hg,hg,hg,hg];rfl
def aqm(s:ByteArray)(i:Nat)(h:i<s.size)(hs:s.size<=1073741824):Af Tryz.prog 169 [.str fun _=>s,.int .i64 fun _=>(i:Int)] [] (.tup [.int .i64 fun _=>if dcE s i=true then 0 else((Utf8.decode s i).1:Int),.int .i64 fun _=>if dcE s i=true then 0 else((Utf8.decode s i).2:Int),.int .i64 fun _=>if dcE s i=true then 16 else 0]) []:=by
 have h1:=decR_ok (s.extract i s.size);rw[apJ s i h]at h1;have hr:=decode_le s i;unfold dcE;generalize Utf8.decode s i=d at*;obtain⟨r,k⟩:=d;dsimp only at h1 hr ⊢
 (refine fA [.tmp 4,.tmp 5,.tmp 6] kp169 [(3,[(3,.tup [.int .i32 fun _=>(r:Int),.int .i64 fun _=>(k:Int)],[])])] Tryz.func169 fun _=>?_;repeat' with_reducible first|exact⟨⟩|refine mA ?_ ?_|refine mC (fun _=>?_) fun _=>?_)
 all_goals(try exact zB)
 all_goals(try(exfalso;omega))
 (all_goals try first|exact eZ|(refine qC ?_;repeat' with_reducible first|exact⟨⟩|refine mA ?_ ?_))
 all_goals first
  | (rw[if_pos (by simp only[Bool.and_eq_true,beq_iff_eq,decide_eq_true_eq];omega)];done)
  | (rw[if_neg (by simp only[Bool.and_eq_true,beq_iff_eq,decide_eq_true_eq];omega)];done)
  | (rw[if_neg (by simp only[Bool.and_eq_true,beq_iff_eq,decide_eq_true_eq];omega)];exact w64 (by omega) (by omega))
def aq2(s v:ByteArray)(i:Nat)(w e p:Int):Af Tryz.prog 163 [.ptr 1000 0,.int .i64 fun _=>p,.str fun _=>v] [(1000,boxC s i w e)] (.tup []) [(1000,boxC s i (if 1024<v.size∧e=0 then p else w) (if 1024<v.size∧e=0 then 5 else e))]:=by
 have h:=anT s i w e p 5;by_cases c:1024<v.size
 ·have e1:(if 1024<v.size∧e=0 then p else w)=if e=0 then p else w:=by
   by_cases q:e=0
   ·rw[if_pos ⟨c,q⟩,if_pos q]
   ·rw[if_neg (fun k=>q k.2),if_neg q]
  have e2:(if 1024<v.size∧e=0 then 5 else e)=if e=0 then 5 else e:=by
   by_cases q:e=0
   ·rw[if_pos ⟨c,q⟩,if_pos q]
   ·rw[if_neg (fun k=>q k.2),if_neg q]
  rw[e1,e2]
  (refine fA [] kp163 [(1,[(2,zT,[(1000,boxC s i (if e=0 then p else w) (if e=0 then 5 else e))])])] Tryz.func163 fun _=>?_;repeat' with_reducible first|exact⟨⟩|refine mA ?_ ?_|refine mC (fun _=>?_) fun _=>?_)
  all_goals(try exact zB)
  all_goals(try(exact absurd ‹(v.size:Int)<=1024› (by omega)))
  all_goals exact eZ
 ·rw[if_neg (fun k=>c k.1),if_neg (fun k=>c k.1)]
  (refine fA [] kp163 [(1,[(2,.any,[])])] Tryz.func163 fun _=>?_;repeat' with_reducible first|exact⟨⟩|refine mA ?_ ?_|refine mC (fun _=>?_) fun _=>?_)
  all_goals(try(exact absurd ‹1024<(v.size:Int)› (by omega)))
  all_goals exact eZ
def plcV(s:ByteArray)(i:Nat):Int×Int:=(1+(Lib.countByte (s.extract 0 i).data.toList 10:Int),(i:Int)-Lib.lastIndexByte (s.extract 0 i) 10)
def apl(s:ByteArray)(i:Nat)(hi:i<=s.size)(hs:s.size<=1073741824):Af Tryz.prog 112 [.str fun _=>s,.int .i64 fun _=>(i:Int)] [] (.tup [.int .i64 fun _=>(plcV s i).1,.int .i64 fun _=>(plcV s i).2]) []:=by
 have h1:Af Tryz.prog 173 [.str fun _=>s.extract 0 i,.str fun _=>⟨#[10]⟩] [] (.int .i64 fun _=>(Lib.countByte (s.extract 0 i).data.toList 10:Int)) []:=
  Af.pure (vals:=#[.string (s.extract 0 i),.string ⟨#[10]⟩]) Tryz.func173 rfl rfl fun w=>Any.strings_Count_one Tryz.lays138 (s.extract 0 i) 10 w
 have h2:Af Tryz.prog 174 [.str fun _=>s.extract 0 i,.int .u8 fun _=>10] [] (.int .i64 fun _=>Lib.lastIndexByte (s.extract 0 i) 10) []:=
  Af.pure (vals:=#[.string (s.extract 0 i),.int .u8 10]) Tryz.func174 rfl rfl fun w=>Any.strings_LastIndexByte Tryz.lays149 (s.extract 0 i) 10 (by rw[ByteArray.size_extract];omega) w
 have b1:Lib.countByte (s.extract 0 i).data.toList 10<=i:=by
  have:=List.count_le_length (a:=(10:UInt8)) (l:=(s.extract 0 i).data.toList);have hl:(s.extract 0 i).data.toList.length=(s.extract 0 i).size:=Array.length_toList;rw[hl,ByteArray.size_extract]at this;unfold Lib.countByte;omega
 have b2 : -1<=Lib.lastIndexByte (s.extract 0 i) 10∧Lib.lastIndexByte (s.extract 0 i) 10<=i:=by
  have hl:(s.extract 0 i).size=i:=by rw[ByteArray.size_extract];omega
  rcases Lib.lastIdx_spec (s.extract 0 i) 10 (s.extract 0 i).size with⟨q,_⟩|⟨j,q1,q2,_⟩
  ·unfold Lib.lastIndexByte;rw[q];omega
  ·unfold Lib.lastIndexByte;rw[q2];omega
 unfold plcV;generalize Lib.lastIndexByte (s.extract 0 i) 10=l at*;generalize Lib.countByte (s.extract 0 i).data.toList 10=c at*
 (refine fB [.tmp 4,.tmp 5] kp112 [(2,[(1,.int .i64 fun _=>(c:Int),[]),(5,zI l,[])])] Tryz.func112 fun _=>?_;repeat' with_reducible first|exact⟨⟩|refine mA ?_ ?_|refine mC (fun _=>?_) fun _=>?_)
 ·exact w64 (by omega) (by omega)
 ·exact w64 (by omega) (by omega)
end Go.Ai
