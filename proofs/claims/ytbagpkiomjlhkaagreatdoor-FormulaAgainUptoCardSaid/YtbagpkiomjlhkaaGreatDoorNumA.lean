/- The library's contracts at this dump, in plain words, as the kit's tool writes them. -/
import Derived.Shelf.Unicode.DecodeAny
import Derived.Ground.NamesProg
import Derived.Test.YtbagpkiomjlhkaaGreatDoorProg
import Derived.Test.YtbagpkiomjlhkaaGreatDoorLexE
import Derived.Test.YtbagpkiomjlhkaaGreatDoorDec
import Derived.Lib.AtoiTie
import Derived.Lib.AtoiBound
import Derived.Laws.Runes
set_option linter.all false
namespace Go.Proofs
open Go.Shelf
def Tryz.T9:Go.Shelf.Ren:=⟨fun|197=>224|260=>253|n=>n,fun|9=>9|21=>21|3=>3|4=>4|5=>5|105=>215|119=>233|0=>0|46=>181|139=>236|138=>235|n=>n,fun|3=>2|4=>3|n=>n⟩
def Tryz.lays197:Go.Proofs.Lays.n197 Tryz.prog Tryz.T9:={
 mixed:=by kernel_rfl
 f197:=Tryz.func224.trans (congrArg some (by kernel_rfl))
 f260:=Tryz.func253.trans (congrArg some (by kernel_rfl))
 t0:=Tryz.underlying0
 a0:=Tryz.isAgg0
 z0:=Tryz.sizeOf0
 v0:=Tryz.zeroValue0
 t3:=Tryz.underlying3
 a3:=Tryz.isAgg3
 z3:=Tryz.sizeOf3
 v3:=Tryz.zeroValue3
 t4:=Tryz.underlying4
 a4:=Tryz.isAgg4
 z4:=Tryz.sizeOf4
 v4:=Tryz.zeroValue4
 t5:=Tryz.underlying5
 a5:=Tryz.isAgg5
 z5:=Tryz.sizeOf5
 v5:=Tryz.zeroValue5
 t9:=Tryz.underlying9
 a9:=Tryz.isAgg9
 z9:=Tryz.sizeOf9
 v9:=Tryz.zeroValue9
 t21:=Tryz.underlying21
 a21:=Tryz.isAgg21
 z21:=Tryz.sizeOf21
 v21:=Tryz.zeroValue21
 t46:=Tryz.underlying181
 a46:=Tryz.isAgg181
 z46:=Tryz.sizeOf181
 v46:=Tryz.zeroValue181
 t105:=Tryz.underlying215
 a105:=Tryz.isAgg215
 z105:=Tryz.sizeOf215
 v105:=Tryz.zeroValue215
 t119:=Tryz.underlying233
 a119:=Tryz.isAgg233
 z119:=Tryz.sizeOf233
 t138:=Tryz.underlying235
 a138:=Tryz.isAgg235
 z138:=Tryz.sizeOf235
 v138:=Tryz.zeroValue235
 t139:=Tryz.underlying236
 a139:=Tryz.isAgg236
 z139:=Tryz.sizeOf236
 v139:=Tryz.zeroValue236
 g3:=by kernel_rfl
 g4:=by kernel_rfl }
end Go.Proofs

namespace Go.Ai
open Go Go.Proofs Tryz
set_option maxRecDepth 100000
set_option maxHeartbeats 4000000
def ul(l:List UInt8):(ByteArray.mk (Array.mk l)).size=l.length:=rfl
def aY(s:ByteArray)(i:Nat):Nat:=bn s bD i
def cy(s:ByteArray)(i:Nat):Nat:=if ad s (aY s i)=46∧bD (ad s (aY s i+1))=true then bn s bD (aY s i+1)else aY s i
def gN(s:ByteArray)(i:Nat):Nat:=if cy s i=aY s i∧ad s (aY s i)=100∧cx (ad s (aY s i+1))=false then aY s i+1 else cy s i
def nR(dec:ByteArray->Int×Int×Int)(s:ByteArray)(i:Nat)(w:Int)(t:Tok):Nat×Int×Int×Tok:=
 if 1<aY s i-i∧ad s i=48 then(gN s i,i,3,t.DZ (s.extract i (gN s i)) t.num t.scale)
 else(gN s i,if(dec (s.extract i (cy s i))).2.2=0 then w else i,(dec (s.extract i (cy s i))).2.2,t.DZ (s.extract i (gN s i)) (dec (s.extract i (cy s i))).1 (dec (s.extract i (cy s i))).2.1)
def Aj{s:ByteArray}{i:Nat}{c:UInt8}(hi:i<s.size)(h:ad s i=c.toNat):s.extract i (i+1)=⟨#[c]⟩:=by
 apply gp;apply mR;rw[jh,xZ];obtain⟨b,h1,h2⟩:=qg hi;have e:b=c:=by
  rw[h]at h2;have:b.toNat=c.toNat:=zo
  exact ji.1 this
 simp only[List.extract];rw[h1,show i+1-i=1 by omega,e];rfl
def qn{s:ByteArray}{i j k:Nat}(h1:i<=j)(h2:j<=k)(h3:k<=s.size):s.extract i j++s.extract j k=s.extract i k:=by
 apply gp;rw[iF,jh,jh,jh];simp[h1,h2]
def Ae{s:ByteArray}{i:Nat}(hi:i<s.size)(hl:bD (ad s i)=true):i<aY s i∧aY s i<=cy s i∧cy s i<=gN s i∧gN s i<=s.size∧gN s i<=cy s i+1:=by
 have hj:i<aY s i∧aY s i<=s.size:=by
  unfold aY;rw[qf ⟨hi,hl⟩];have:=jv (s:=s) (p:=bD) (i:=i+1) zo;omega
 have hk:aY s i<=cy s i∧cy s i<=s.size:=by
  unfold cy;split
  ·rename_i c;have:=iu (s:=s) (i:=aY s i) (by rw[c.1];decide);have:=jv (s:=s) (p:=bD) (i:=aY s i+1) zo;omega
  ·omega
 refine⟨hj.1,hk.1,?_⟩;unfold gN;split
 ·rename_i c;have:=iu (s:=s) (i:=aY s i) (by rw[c.2.1];decide);omega
 ·omega
def Ua(dec:ByteArray->Int×Int×Int)(s:ByteArray)(i:Nat)(w:Int)(t:Tok)(hs:s.size<=1073741824)(hi:i<s.size)(hl:bD (ad s i)=true)
 (hp:Af prog 167 [.str fun _=>s.extract i (cy s i)] [] (.ag [.agg [.int .i64 fun _=>(dec (s.extract i (cy s i))).1,.int .i64 fun _=>(dec (s.extract i (cy s i))).2.1],.int .i64 fun _=>(dec (s.extract i (cy s i))).2.2]) []):
 iy 105 s i w 0 t true (nR dec s i w t).1 (nR dec s i w t).2.1 (nR dec s i w t).2.2.1 (nR dec s i w t).2.2.2:=by
 obtain⟨l1,l2,l3,l4,l5⟩:=Ae hi hl;have h0:=d7 s i 0 w 0 zo zo;have h2:=rD (ad s i);rw[hl]at h2;have h3:=zX s i w 0 hs zo 166 bD rD;have h5:=d7 s (aY s i) 0 w 0 zo zo;have h6:=d7 s (aY s i) 1 w 0 zo zo;have hf:∀(q:Nat) (c:Int),Af prog 109 [.ptr 1000 0,.int .i64 fun _=>(i:Int),.int .i64 fun _=>c] [(1000,ah s q w 0)] (.ag []) [(1000,ah s q i c)]:=fun q c=>by
  have:=mm s q w 0 i c
  rwa [ae rfl,ae rfl]at this
 have b0:ad (s.extract i (aY s i)) 0=ad s i:=by
  have:=qh (s:=s) (i:=i) (j:=aY s i) (k:=0) zo zo;simpa using this
 have z0:(s.extract i (aY s i)).size=aY s i-i:=by rw[dh];omega
 unfold iy;obtain⟨R,hR⟩:∃R,R=nR dec s i w t:=⟨_,rfl⟩
 rw[<- hR];unfold nR at hR;have hJ:bn s bD i=aY s i:=rfl;rw[hJ]at h3;by_cases cA:ad s (aY s i)=46∧bD (ad s (aY s i+1))=true
 ·have hK:cy s i=bn s bD (aY s i+1):=by unfold cy;rw[ae cA]
  have hJs:aY s i<s.size:=iu (by rw[cA.1];decide);have hlt:aY s i+1<=cy s i:=by rw[hK];exact(jv zo).1
  have hQ:gN s i=cy s i:=by unfold gN;rw[aa zo]
  have h4:=zX s (aY s i+1) w 0 hs zo 166 bD rD;rw[<- hK]at h4;have h7:=d7 s (cy s i) 0 w 0 zo zo;have h8:=d7 s (cy s i) 1 w 0 zo zo;have hx:s.extract i (aY s i)++⟨#[46]⟩++s.extract (aY s i+1) (cy s i)=s.extract i (cy s i):=by
   rw[<- Aj (c:=46) hJs (by rw[cA.1];rfl),qn zo zo zo,qn zo zo zo]
  have h9:=DT (ad s (cy s i+1));have h10:=rD (ad s (aY s i+1));rw[cA.2]at h10;have Ub:=cA.1;rw[hQ]at hR;have z1:(s.extract i (cy s i)).size=cy s i-i:=by rw[dh];omega
  have hne:¬s.extract i (cy s i)=s.extract i (aY s i):=fun q=>by
   have:=ak ByteArray.size q;rw[z0,z1]at this;omega
  generalize ad s (cy s i+1)=cd at*;generalize ad s (aY s i+1)=ce at*;generalize cx cd=pb at*;obtain⟨cK,hcK⟩:∃c,c=ad s (cy s i+0):=⟨_,rfl⟩
  rw[<- hcK]at h7;clear hK hQ cA;rw[show aY s i+0=aY s i from rfl,Ub]at h5;generalize cy s i=K at*;generalize aY s i=J at*;obtain⟨x,Ak⟩:∃x,x=s.extract i J:=⟨_,rfl⟩
  obtain⟨y,hy⟩:∃y,y=s.extract (J+1) K:=⟨_,rfl⟩
  obtain⟨z,hz⟩:∃z,z=s.extract i K:=⟨_,rfl⟩
  rw[<- Ak,<- hy,<- hz]at hx;rw[<- Ak]at h3 b0 z0;rw[<- hy]at h4;rw[<- hz]at hp hR z1;rw[<- hz,<- Ak]at hne;generalize dec z=r at*;obtain⟨n,sc,er⟩:=r;dsimp only at hp hR;have zy:y.size=K-(J+1):=by rw[hy,dh];omega
  clear Ak hy hz hcK;obtain⟨J1,xd⟩:∃J1,J1=J+1:=⟨_,rfl⟩
  have hw:IntKind.i64.wrap ((J:Int)+1)=(J1:Int):=(ax zo zo).trans zo;rw[<- xd]at h4;have hc:(1<J-i∧ad s i=48)↔(1<(x.size:Int)∧((x.data[Int.toNat 0]?.getD 0).toNat:Int)=48):=by
   have:ad x 0=((x.data[Int.toNat 0]?.getD 0).toNat:Int):=rfl;rw[b0]at this;omega
  by_cases ka:1<J-i∧ad s i=48
  ·rw[ae ka]at hR;subst hR;replace hc:=hc.1 ka
   (refine fA [.tmp 4] rF [(1,[(1,.int .u8 fun _=>ad s i,[(1000,ah s i w 0)]),(2,zO true,[])]),
     (4,[(1,zR x,[(1000,ah s J w 0)])]),(6,[(1,.int .u8 fun _=>46,[(1000,ah s J w 0)]),(5,.int .u8 fun _=>ce,[(1000,ah s J w 0)]),(6,zO true,[])]),
     (8,[(3,zR y,[(1000,ah s K w 0)])]),
     (10,[(5,.int .u8 fun _=>cK,[(1000,ah s K w 0)]),(10,.int .u8 fun _=>cd,[(1000,ah s K w 0)]),(11,zO pb,[])]),
     (14,[(2,zT,[(1000,ah s K i 3)])]),(16,[(1,.ag [.agg [zI n,zI sc],zI er],[])]),(18,[(3,zT,[(1000,ah s K i er)])])] func105 fun _=>?_;repeat' first|exact⟨⟩|apply mA|apply mC<;>intro)
   all_goals(try simp only[aF,hx,hw])
   all_goals try exact absurd trivial (‹¬True∨False›.resolve_right id)
   all_goals try exact absurd ‹(z=x∧_)∧_›.1.1 hne
   all_goals try exact absurd (hx.symm.trans ‹((x++⟨#[46]⟩++y=x)∧_)∧_›.1.1) hne
   all_goals(try(exfalso;omega))
   any_goals((with_reducible first|refine nO ?_|refine sO (fun _=>?_));first|exact h0|exact h2|exact h3|exact h4|exact h5|exact h6|exact h7|exact h8|exact h9|exact h10|exact hp|exact hf _ _)
   (all_goals try first|exact eZ|(refine qC ?_;repeat' first|exact⟨⟩|apply mA))
   all_goals(try rfl)
   all_goals try exact(aa ‹¬er=0›).symm
   all_goals(try(simp only[aj,ul,bp,bV];omega))
  ·rw[aa ka]at hR;subst hR;replace hc:=fun q=>ka (hc.2 q)
   (refine fA [.tmp 4] rF [(1,[(1,.int .u8 fun _=>ad s i,[(1000,ah s i w 0)]),(2,zO true,[])]),
     (4,[(1,zR x,[(1000,ah s J w 0)])]),(6,[(1,.int .u8 fun _=>46,[(1000,ah s J w 0)]),(5,.int .u8 fun _=>ce,[(1000,ah s J w 0)]),(6,zO true,[])]),
     (8,[(3,zR y,[(1000,ah s K w 0)])]),
     (10,[(5,.int .u8 fun _=>cK,[(1000,ah s K w 0)]),(10,.int .u8 fun _=>cd,[(1000,ah s K w 0)]),(11,zO pb,[])]),
     (14,[(2,zT,[(1000,ah s K i 3)])]),(16,[(1,.ag [.agg [zI n,zI sc],zI er],[])]),(18,[(3,zT,[(1000,ah s K i er)])])] func105 fun _=>?_;repeat' first|exact⟨⟩|apply mA|apply mC<;>intro)
   all_goals(try simp only[aF,hx,hw])
   all_goals try exact absurd trivial (‹¬True∨False›.resolve_right id)
   all_goals try exact absurd (hx.symm.trans ‹((x++⟨#[46]⟩++y=x)∧_)∧_›.1.1) hne
   all_goals try exact absurd ‹1<(x.size:Int)∧_› hc
   any_goals((with_reducible first|refine nO ?_|refine sO (fun _=>?_));first|exact h0|exact h2|exact h3|exact h4|exact h5|exact h6|exact h7|exact h8|exact h9|exact h10|exact hp|exact hf _ _)
   (all_goals try first|exact eZ|(refine qC ?_;repeat' first|exact⟨⟩|apply mA))
   all_goals(try rfl)
   all_goals try exact(aa ‹¬er=0›).symm
   all_goals(try(simp only[aj,ul,bp,bV];omega))
 ·have hK:cy s i=aY s i:=by unfold cy;rw[aa cA]
  have h7:=DT (ad s (aY s i+1));have h10:=rD (ad s (aY s i+1));rw[hK]at hp hR l5;by_cases cD:ad s (aY s i)=100∧cx (ad s (aY s i+1))=false
  ·have hQ:gN s i=aY s i+1:=by unfold gN;rw[ae ⟨hK,cD⟩]
   have hJs:aY s i<s.size:=iu (by rw[cD.1];decide);rw[hQ]at hR;have hx:s.extract i (aY s i)++⟨#[100]⟩=s.extract i (aY s i+1):=by
    rw[<- Aj (c:=100) hJs (by rw[cD.1];rfl),qn zo zo zo]
   obtain⟨ce,hce⟩:∃c,c=ad s (aY s i+1):=⟨_,rfl⟩
   rw[show aY s i+0=aY s i from rfl]at h5;rw[<- hce]at h6 h7 h10 cA cD;rw[cD.1]at h5 cA;rw[cD.2]at h7;generalize bD ce=pe at*;clear hK hQ cD hce;generalize cy s i=K at*;generalize aY s i=J at*;generalize s.extract i J=x at*;obtain⟨Q,hQ⟩:∃Q,Q=J+1:=⟨_,rfl⟩
   have hw:IntKind.i64.wrap ((J:Int)+1)=(Q:Int):=(ax zo zo).trans zo;rw[<- hQ]at hR hx;generalize s.extract i Q=z at*;generalize dec x=r at*;obtain⟨n,sc,er⟩:=r;dsimp only at hp hR;have hc:(1<J-i∧ad s i=48)↔(1<(x.size:Int)∧((x.data[Int.toNat 0]?.getD 0).toNat:Int)=48):=by
    have:ad x 0=((x.data[Int.toNat 0]?.getD 0).toNat:Int):=rfl;rw[b0]at this;omega
   by_cases ka:1<J-i∧ad s i=48
   ·rw[ae ka]at hR;subst hR;replace hc:=hc.1 ka
    (refine fA [.tmp 4] rF [(1,[(1,.int .u8 fun _=>ad s i,[(1000,ah s i w 0)]),(2,zO true,[])]),
    (4,[(1,zR x,[(1000,ah s J w 0)])]),(6,[(1,.int .u8 fun _=>100,[(1000,ah s J w 0)]),(5,.int .u8 fun _=>ce,[(1000,ah s J w 0)]),(6,zO pe,[])]),
    (8,[(3,.any,[])]),
    (10,[(5,.int .u8 fun _=>100,[(1000,ah s J w 0)]),(10,.int .u8 fun _=>ce,[(1000,ah s J w 0)]),(11,zO false,[])]),
    (14,[(2,zT,[(1000,ah s Q i 3)])]),(16,[(1,.ag [.agg [zI n,zI sc],zI er],[])]),(18,[(3,zT,[(1000,ah s Q i er)])])] func105 fun _=>?_;repeat' first|exact⟨⟩|apply mA|apply mC<;>intro)
    all_goals(try simp only[aF,hx,hw])
    all_goals try exact absurd ‹(100:Int)=46∧pe=true› cA
    all_goals try exact absurd trivial (‹¬True∨False›.resolve_right id)
    all_goals try exact absurd trivial ((‹(¬True∨¬True)∨False›.resolve_right id).elim id id)
    all_goals(try(exfalso;omega))
    any_goals((with_reducible first|refine nO ?_|refine sO (fun _=>?_));first|exact h0|exact h2|exact h3|exact h5|exact h6|exact h7|exact h10|exact hp|exact hf _ _)
    (all_goals try first|exact eZ|(refine qC ?_;repeat' first|exact⟨⟩|apply mA))
    all_goals(try rfl)
    all_goals(try(simp only[aj,ul,bp,bV];omega))
   ·rw[aa ka]at hR;subst hR;replace hc:=fun q=>ka (hc.2 q)
    (refine fA [.tmp 4] rF [(1,[(1,.int .u8 fun _=>ad s i,[(1000,ah s i w 0)]),(2,zO true,[])]),
    (4,[(1,zR x,[(1000,ah s J w 0)])]),(6,[(1,.int .u8 fun _=>100,[(1000,ah s J w 0)]),(5,.int .u8 fun _=>ce,[(1000,ah s J w 0)]),(6,zO pe,[])]),
    (8,[(3,.any,[])]),
    (10,[(5,.int .u8 fun _=>100,[(1000,ah s J w 0)]),(10,.int .u8 fun _=>ce,[(1000,ah s J w 0)]),(11,zO false,[])]),
    (14,[(2,zT,[(1000,ah s Q i 3)])]),(16,[(1,.ag [.agg [zI n,zI sc],zI er],[])]),(18,[(3,zT,[(1000,ah s Q i er)])])] func105 fun _=>?_;repeat' first|exact⟨⟩|apply mA|apply mC<;>intro)
    all_goals(try simp only[aF,hx,hw])
    all_goals try exact absurd ‹(100:Int)=46∧pe=true› cA
    all_goals try exact absurd trivial (‹¬True∨False›.resolve_right id)
    all_goals try exact absurd trivial ((‹(¬True∨¬True)∨False›.resolve_right id).elim id id)
    all_goals try exact absurd ‹1<(x.size:Int)∧_› hc
    any_goals((with_reducible first|refine nO ?_|refine sO (fun _=>?_));first|exact h0|exact h2|exact h3|exact h5|exact h6|exact h7|exact h10|exact hp|exact hf _ _)
    (all_goals try first|exact eZ|(refine qC ?_;repeat' first|exact⟨⟩|apply mA))
    all_goals(try rfl)
    all_goals try exact(aa ‹¬er=0›).symm
    all_goals(try(simp only[aj,ul,bp,bV];omega))
  ·have hQ:gN s i=aY s i:=by unfold gN;rw[aa (fun q=>cD q.2),hK]
   rw[hQ]at hR;obtain⟨ce,hce⟩:∃c,c=ad s (aY s i+1):=⟨_,rfl⟩
   rw[show aY s i+0=aY s i from rfl]at h5;rw[<- hce]at h6 h7 h10 cA cD;generalize bD ce=pe at*;generalize cx ce=pb at*;obtain⟨c0,hc0⟩:∃c,c=ad s (aY s i):=⟨_,rfl⟩
   rw[<- hc0]at h5 cA cD;clear hK hQ hce hc0;generalize cy s i=K at*;generalize aY s i=J at*;generalize s.extract i J=x at*;generalize dec x=r at*;obtain⟨n,sc,er⟩:=r;dsimp only at hp hR;have hc:(1<J-i∧ad s i=48)↔(1<(x.size:Int)∧((x.data[Int.toNat 0]?.getD 0).toNat:Int)=48):=by
    have:ad x 0=((x.data[Int.toNat 0]?.getD 0).toNat:Int):=rfl;rw[b0]at this;omega
   by_cases ka:1<J-i∧ad s i=48
   ·rw[ae ka]at hR;subst hR;replace hc:=hc.1 ka
    (refine fA [.tmp 4] rF [(1,[(1,.int .u8 fun _=>ad s i,[(1000,ah s i w 0)]),(2,zO true,[])]),
    (4,[(1,zR x,[(1000,ah s J w 0)])]),(6,[(1,.int .u8 fun _=>c0,[(1000,ah s J w 0)]),(5,.int .u8 fun _=>ce,[(1000,ah s J w 0)]),(6,zO pe,[])]),
    (8,[(3,.any,[])]),
    (10,[(5,.int .u8 fun _=>c0,[(1000,ah s J w 0)]),(10,.int .u8 fun _=>ce,[(1000,ah s J w 0)]),(11,zO pb,[])]),
    (14,[(2,zT,[(1000,ah s J i 3)])]),(16,[(1,.ag [.agg [zI n,zI sc],zI er],[])]),(18,[(3,zT,[(1000,ah s J i er)])])] func105 fun _=>?_;repeat' first|exact⟨⟩|apply mA|apply mC<;>intro)
    all_goals(try simp only[aF])
    all_goals try exact absurd ‹c0=46∧pe=true› cA
    all_goals try exact absurd trivial (‹¬True∨False›.resolve_right id)
    all_goals try exact absurd ⟨‹(True∧c0=100)∧pb=false›.1.2,‹(True∧c0=100)∧pb=false›.2⟩ cD
    all_goals(try(exfalso;omega))
    any_goals((with_reducible first|refine nO ?_|refine sO (fun _=>?_));first|exact h0|exact h2|exact h3|exact h5|exact h6|exact h7|exact h10|exact hp|exact hf _ _)
    (all_goals try first|exact eZ|(refine qC ?_;repeat' first|exact⟨⟩|apply mA))
    all_goals(try rfl)
    all_goals(try(simp only[aj,ul,bp,bV];omega))
   ·rw[aa ka]at hR;subst hR;replace hc:=fun q=>ka (hc.2 q)
    (refine fA [.tmp 4] rF [(1,[(1,.int .u8 fun _=>ad s i,[(1000,ah s i w 0)]),(2,zO true,[])]),
    (4,[(1,zR x,[(1000,ah s J w 0)])]),(6,[(1,.int .u8 fun _=>c0,[(1000,ah s J w 0)]),(5,.int .u8 fun _=>ce,[(1000,ah s J w 0)]),(6,zO pe,[])]),
    (8,[(3,.any,[])]),
    (10,[(5,.int .u8 fun _=>c0,[(1000,ah s J w 0)]),(10,.int .u8 fun _=>ce,[(1000,ah s J w 0)]),(11,zO pb,[])]),
    (14,[(2,zT,[(1000,ah s J i 3)])]),(16,[(1,.ag [.agg [zI n,zI sc],zI er],[])]),(18,[(3,zT,[(1000,ah s J i er)])])] func105 fun _=>?_;repeat' first|exact⟨⟩|apply mA|apply mC<;>intro)
    all_goals(try simp only[aF])
    all_goals try exact absurd ‹c0=46∧pe=true› cA
    all_goals try exact absurd trivial (‹¬True∨False›.resolve_right id)
    all_goals try exact absurd ⟨‹(True∧c0=100)∧pb=false›.1.2,‹(True∧c0=100)∧pb=false›.2⟩ cD
    all_goals try exact absurd ‹1<(x.size:Int)∧_› hc
    any_goals((with_reducible first|refine nO ?_|refine sO (fun _=>?_));first|exact h0|exact h2|exact h3|exact h5|exact h6|exact h7|exact h10|exact hp|exact hf _ _)
    (all_goals try first|exact eZ|(refine qC ?_;repeat' first|exact⟨⟩|apply mA))
    all_goals(try rfl)
    all_goals try exact(aa ‹¬er=0›).symm
    all_goals(try(simp only[aj,ul,bp,bV];omega))
end Go.Ai

namespace Go.Ai
open Go Go.Proofs Go.RowKit Tryz
set_option maxRecDepth 100000
set_option maxHeartbeats 4000000
def Uc(s p:ByteArray)(hp:1<=p.size):(cY s p).1.size+(cY s p).2.1.size<=s.size:=by
 have hl:s.data.toList.length=s.size:=by rw[fY];rfl
 unfold cY Lib.cut;dsimp only;split
 ·rw[rM,rM];dsimp only;rw[u6,gu];omega
 ·rw[rM,rM];dsimp only;simp only[bV];omega
def Ud{s:ByteArray}(hs:s.size<=18): -9223372036854775808<(dy s).1∧(dy s).1<=9223372036854775807:=by
 have hl:s.data.toList.length=s.size:=by rw[fY];rfl
 have h:=Lib.atoiAll_short s.data.toList zo;unfold dy;rw[h];cases q:Lib.atoi s.data.toList with
 | none=>simp only[Lib.NumEnd.ofOption];omega
 | some n=>
  have:=Lib.atoi_bound q zo;simp only[Lib.NumEnd.ofOption];omega
def Ue(s:ByteArray)(hs:s.size<=1073741824):Af prog 167 [.str fun _=>s] [] (.ag [yf fun _=>(decP s).1,.int .i64 fun _=>(decP s).2]) []:=
 Ny s (fun h=>by
  have h1:=Uc s ⟨#[46]⟩ zd;exact⟨zo,Ud (by unfold kD;rw[aj];omega)⟩) hs
def rj:ByteArray:=⟨#[48,49,50,51,52,53,54,55,56,57,97,98,99,100,101,102]⟩
def aW(c:Int):Int:=ek rj (if 65<=c∧c<=70 then c+32 else c)
def t8(c:Int)(h0:0<=c)(h1:c<256):Af prog 160 [.int .u8 fun _=>c] [] (.int .i64 fun _=>aW c) []:=by
 have h:=ot rj (if 65<=c∧c<=70 then c+32 else c);unfold aW;generalize ek rj (if 65<=c∧c<=70 then c+32 else c)=n at*;by_cases q:65<=c∧c<=70
 ·rw[ae q]at h;have hw:IntKind.u8.wrap (c+32)=c+32:=by
   unfold IntKind.wrap;simp[IntKind.bits,IntKind.signed];omega
  (refine fA [.tmp 2] Al [(3,[(1,zI n,[])])] func160 fun _=>?_;repeat' first|exact⟨⟩|apply mA|apply mC<;>intro)
  all_goals(try simp only[hw])
  all_goals(try(exfalso;omega))
  all_goals try exact zB
  all_goals exact eZ
 ·rw[aa q]at h
  (refine fA [.tmp 2] Al [(3,[(1,zI n,[])])] func160 fun _=>?_;repeat' first|exact⟨⟩|apply mA|apply mC<;>intro)
  all_goals(try(exfalso;omega))
  all_goals try exact zB
  all_goals exact eZ
def kU(p:Int):Bool:=decide (0<=p∧p<=1114111)&&decide (p<55296∨57343<p)
def Uf(p:Int):Af prog 252 [.int .i64 fun _=>p] [] (.bool fun _=>kU p) []:=by
 (refine fB [.tmp 2] Ug [] func252 fun _=>?_;repeat' first|exact⟨⟩|apply mA|apply mC<;>intro)
 unfold kU;by_cases a:0<=p<;>by_cases b:p<=1114111<;>by_cases c:p<55296<;>by_cases d:57343<p<;>simp[a,b,c,d]
def Uh(p:Int)(h:kU p=true)(w:World):Calls prog 252 #[.int .i64 p] w fun e w'=>e=.returned (.bool true)∧w'=w:=by
 simp only[kU,az,cX]at h;have mixed:prog.follows .mixedOrders=true:=zk
 go_enter func252,ntmps252
 go_wp2
 all_goals(go_ret;refine⟨?_,rfl⟩;first|rfl|(exfalso;omega)|(rw[gq (show(57343:Int)<p by omega),Bool.or_true];rfl))
def Ui(p:Int)(h:kU p=true)(w:World):Calls prog 223 #[.int .i64 p] w fun e w'=>e=.returned (.tuple #[.string (Utf8.encode p),.int .i64 0])∧w'=w:=by
 have h2:=h;simp only[kU,az,cX]at h2;have e252:∀args w,(callFunc 252 args).run prog w=.ok (.enter 252 args) w:=enters_of func252 zk rfl;have hw:IntKind.i32.wrap p=p:=by
  unfold IntKind.wrap;simp[IntKind.bits,IntKind.signed];omega
 have rP:∀W,(convert 21 9 (.int .i32 p)).run prog W=.ok (.string (Utf8.encode p)) W:=fun W=>run_convert_int_string W 21 9 .i32 p zk zk
 go_enter func223,ntmps223
 go_wp2_with (go_at_fn 252;refine(Uh p h _).mono ?_;rintro e w' ⟨rfl,hw⟩;rw[hw])
 go_ret2
 exact⟨rfl,rfl⟩
def IP(p:Int):Af prog 223 [.int .i64 fun _=>p] [] (.ag [.str fun _=>if kU p=true then Utf8.encode p else⟨#[]⟩,.int .i64 fun _=>if kU p=true then 0 else 2]) []:=by
 by_cases h:kU p=true
 ·rw[ae h,ae h];refine Af.pp (vals:=#[.int .i64 p]) func223 rfl fun w hT=>?_;refine(Ui p h w).mono fun e w' ⟨he,hw⟩=>⟨_,he,fun w2 D B=>?_,by rw[hw];exact Below.refl _ _⟩
  refine .ag _ _ rfl fun i av u h1 h2=>?_
  match i with
  | 0=>simp at h1 h2;subst h1;subst h2;exact .str _
  | 1=>simp at h1 h2;subst h1;subst h2;exact .int _ _
  | i+2=>simp at h1
 ·have h1:=Uf p;rw[aa h,aa h];simp only[FF]at h;rw[h]at h1
  (refine fA [.tmp 2,.tmp 3] Uj [(1,[(1,zO false,[])])] func223 fun _=>?_;repeat' first|exact⟨⟩|apply mA|apply mC<;>intro)
  all_goals try exact zB
  all_goals exact eZ
def Uk(s:ByteArray):Af prog 224 [.str fun _=>s] [] (.ag [.int .i32 fun _=>((Lib.decodeGo s).1:Int),.int .i64 fun _=>((Lib.decodeGo s).2:Int)]) []:=by
 refine Af.pp (vals:=#[.string s]) func224 rfl fun w hT=>?_;refine(Any.utf8_DecodeRuneInString lays197 s w hT.u).mono fun e w' ⟨he,hw⟩=>⟨_,he,fun w2 D B=>?_,hw⟩
 refine .ag _ _ rfl fun i av u h1 h2=>?_
 match i with
 | 0=>simp at h1 h2;subst h1;subst h2;exact .int _ _
 | 1=>simp at h1 h2;subst h1;subst h2;exact .int _ _
 | i+2=>simp at h1
def oG(s:ByteArray)(i:Nat):Bool:=(Utf8.decode s i).1==65533&&decide ((Utf8.decode s i).2<=1)
def Ul(s:ByteArray)(i:Nat)(h:i<s.size):Lib.decodeGo (s.extract i s.size)=Utf8.decode s i:=by
 have hx:(s.extract i s.size).size=s.size-i:=by rw[dh];omega
 have hg:∀j,(s.extract i s.size).get! j=s.get! (i+j):=fun j=>by
  show(s.extract i s.size).data[j]! = s.data[i+j]!;rw[jh,getElem!_def,getElem!_def,Array.getElem?_extract];have e:min s.size s.data.size=s.size:=Nat.min_self _;rw[e];by_cases q:j<s.size-i
  ·rw[ae q]
  ·rw[aa q,Array.getElem?_eq_none (by show s.size<=_;omega)]
 unfold Lib.decodeGo;rw[aa zo,x6,x6,hx,hg,hg,hg,hg];rfl
def Um(s:ByteArray)(i:Nat)(h:i<s.size)(hs:s.size<=1073741824):Af prog 169 [.str fun _=>s,.int .i64 fun _=>(i:Int)] [] (.ag [.int .i64 fun _=>if oG s i=true then 0 else((Utf8.decode s i).1:Int),.int .i64 fun _=>if oG s i=true then 0 else((Utf8.decode s i).2:Int),.int .i64 fun _=>if oG s i=true then 16 else 0]) []:=by
 have h1:=Uk (s.extract i s.size);rw[Ul s i h]at h1;have hr:=decode_le s i;unfold oG;generalize Utf8.decode s i=d at*;obtain⟨r,k⟩:=d;dsimp only at h1 hr ⊢
 (refine fA [.tmp 4,.tmp 5,.tmp 6] Un [(3,[(3,.ag [.int .i32 fun _=>(r:Int),.int .i64 fun _=>(k:Int)],[])])] func169 fun _=>?_;repeat' first|exact⟨⟩|apply mA|apply mC<;>intro)
 all_goals try exact zB
 all_goals(try(exfalso;omega))
 (all_goals try first|exact eZ|(refine qC ?_;repeat' first|exact⟨⟩|apply mA))
 all_goals first
  | (rw[ae (by simp only[az,dv,cX];omega)];done)
  | (rw[aa (by simp only[az,dv,cX];omega)];done)
  | (rw[aa (by simp only[az,dv,cX];omega)];exact ax zo zo)
def Ka(s v:ByteArray)(i:Nat)(w e p:Int):Af prog 163 [.ptr 1000 0,.int .i64 fun _=>p,.str fun _=>v] [(1000,ah s i w e)] (.ag []) [(1000,ah s i (if 1024<v.size∧e=0 then p else w) (if 1024<v.size∧e=0 then 5 else e))]:=by
 have h:=mm s i w e p 5;by_cases c:1024<v.size
 ·have e1:(if 1024<v.size∧e=0 then p else w)=if e=0 then p else w:=by
   by_cases q:e=0
   ·rw[ae ⟨c,q⟩,ae q]
   ·rw[aa (fun k=>q k.2),aa q]
  have e2:(if 1024<v.size∧e=0 then 5 else e)=if e=0 then 5 else e:=by
   by_cases q:e=0
   ·rw[ae ⟨c,q⟩,ae q]
   ·rw[aa (fun k=>q k.2),aa q]
  rw[e1,e2]
  (refine fA [] Kb [(1,[(2,zT,[(1000,ah s i (if e=0 then p else w) (if e=0 then 5 else e))])])] func163 fun _=>?_;repeat' first|exact⟨⟩|apply mA|apply mC<;>intro)
  all_goals try exact zB
  all_goals try exact absurd ‹(v.size:Int)<=1024› zo
  all_goals exact eZ
 ·rw[aa (fun k=>c k.1),aa (fun k=>c k.1)]
  (refine fA [] Kb [(1,[(2,.any,[])])] func163 fun _=>?_;repeat' first|exact⟨⟩|apply mA|apply mC<;>intro)
  all_goals try exact absurd ‹1024<(v.size:Int)› zo
  all_goals exact eZ
def lO(s:ByteArray)(i:Nat):Int×Int:=(1+(Lib.countByte (s.extract 0 i).data.toList 10:Int),(i:Int)-Lib.lastIndexByte (s.extract 0 i) 10)
def Kc(s:ByteArray)(i:Nat)(hi:i<=s.size)(hs:s.size<=1073741824):Af prog 112 [.str fun _=>s,.int .i64 fun _=>(i:Int)] [] (.ag [.int .i64 fun _=>(lO s i).1,.int .i64 fun _=>(lO s i).2]) []:=by
 have h1:Af prog 173 [.str fun _=>s.extract 0 i,.str fun _=>⟨#[10]⟩] [] (.int .i64 fun _=>(Lib.countByte (s.extract 0 i).data.toList 10:Int)) []:=
  Af.pure (vals:=#[.string (s.extract 0 i),.string ⟨#[10]⟩]) func173 rfl rfl fun w=>Any.strings_Count_one lays138 (s.extract 0 i) 10 w
 have h2:Af prog 174 [.str fun _=>s.extract 0 i,.int .u8 fun _=>10] [] (.int .i64 fun _=>Lib.lastIndexByte (s.extract 0 i) 10) []:=
  Af.pure (vals:=#[.string (s.extract 0 i),.int .u8 10]) func174 rfl rfl fun w=>Any.strings_LastIndexByte lays149 (s.extract 0 i) 10 (by rw[dh];omega) w
 have b1:Lib.countByte (s.extract 0 i).data.toList 10<=i:=by
  have:=List.count_le_length (a:=(10:UInt8)) (l:=(s.extract 0 i).data.toList);have hl:(s.extract 0 i).data.toList.length=(s.extract 0 i).size:=fY;rw[hl,dh]at this;unfold Lib.countByte;omega
 have b2 : -1<=Lib.lastIndexByte (s.extract 0 i) 10∧Lib.lastIndexByte (s.extract 0 i) 10<=i:=by
  have hl:(s.extract 0 i).size=i:=by rw[dh];omega
  rcases Lib.lastIdx_spec (s.extract 0 i) 10 (s.extract 0 i).size with⟨q,_⟩|⟨j,q1,q2,_⟩
  ·unfold Lib.lastIndexByte;rw[q];omega
  ·unfold Lib.lastIndexByte;rw[q2];omega
 unfold lO;generalize Lib.lastIndexByte (s.extract 0 i) 10=l at*;generalize Lib.countByte (s.extract 0 i).data.toList 10=c at*
 (refine fB [.tmp 4,.tmp 5] Uo [(2,[(1,.int .i64 fun _=>(c:Int),[]),(5,zI l,[])])] func112 fun _=>?_;repeat' first|exact⟨⟩|apply mA|apply mC<;>intro)
 ·exact ax zo zo
 ·exact ax zo zo
end Go.Ai
