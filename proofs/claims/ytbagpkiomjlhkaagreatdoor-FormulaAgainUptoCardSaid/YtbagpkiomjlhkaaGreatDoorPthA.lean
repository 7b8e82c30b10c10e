/- Chapter 5: paths: the parts of a text, in plain words. -/
import Derived.Test.YtbagpkiomjlhkaaGreatDoorWide
import Derived.Test.YtbagpkiomjlhkaaGreatDoorRdE
import Derived.Test.YtbagpkiomjlhkaaGreatDoorFnA
import Derived.Test.YtbagpkiomjlhkaaGreatDoorLexB
set_option linter.all false
namespace Go.Ai
open Go Go.Proofs Tryz
set_option maxRecDepth 100000
set_option maxHeartbeats 4000000
abbrev dL:=Int×Int×ByteArray
def sj(p:Unit->dL):List AV:=[.int .i64 fun _=>(p ()).1,.int .i64 fun _=>(p ()).2.1,.str fun _=>(p ()).2.2]
def vk(p:Unit->dL):AV:=.agg (sj p)
def vm(l:Unit->List dL):(Unit->Nat)->List AV:=fun i=>sj fun _=>(l ()).getD (i ()) (0,0,⟨#[]⟩)
def l9(l:Unit->List dL):AV:=.slc .any 3 (fun _=>(l ()).length) (vm l)
def fR:ByteArray:=⟨#[46,91,63]⟩
def iw(t:ByteArray):Int:=Lib.indexAny t.data.toList fR.data.toList
def endP(s:ByteArray)(i:Nat):Int:=if iw (s.extract i s.size)<0 then s.size else i+iw (s.extract i s.size)
def I5(t:ByteArray)(ht:t.size<=1073741824):Af prog 84 [.str fun _=>t,.str fun _=>fR] [] (.int .i64 fun _=>iw t) []:=by
 refine Af.pp (vals:=#[.string t,.string fR]) func84 rfl fun w hT=>?_;by_cases h8:t.size<=8
 ·exact(Wd t w h8).mono fun e w' ⟨he,hw⟩=>⟨_,he,fun w2 D B=>.int .i64 fun _=>iw t,hw⟩
 have h116:(prog.info? (xy.t 116)).map (fun i=>(i.zero,i.size))=some (some (.agg (Array.replicate 256 (.bool false))),256):=zk
 refine(Any.strings_IndexAny_long lays153 (zero_of_info h116).1 (zero_of_info h116).2 t fR w zd zo zo zd (fun j b hb=>?_)).mono fun e w' ⟨he,hw⟩=>⟨_,he,fun w2 D B=>.int .i64 fun _=>iw t,?_⟩
 ·have hm:=je hb;have key:∀x∈fR.data.toList,x.toNat<128:=by decide
  exact key b hm
 ·rw[hw];exact((Go.RowKit.Below.refl _ _).alloc (ao _) _).alloc zsi _
theorem wA(cs:List UInt8):∀l:List UInt8,Lib.indexAny l cs = -1∨(0<=Lib.indexAny l cs∧Lib.indexAny l cs<l.length)
 | []=>.inl rfl
 | b::l=>by
  simp only[Lib.indexAny];have ih:=wA cs l;split
  ·exact .inr ⟨zo,zsi⟩
  ·rcases ih with h|⟨h1,h2⟩
   ·rw[h];exact .inl rfl
   ·refine .inr ?_;rw[aa (by simp;omega)];simp only[bp];omega
def AF{s:ByteArray}{i:Nat}(hi:i<=s.size):(i:Int)<=endP s i∧endP s i<=s.size:=by
 unfold endP iw;have h:=wA fR.data.toList (s.extract i s.size).data.toList;have hl:(s.extract i s.size).data.toList.length=s.size-i:=by
  rw[fY];show(s.extract i s.size).size=_;rw[dh];omega
 rw[hl]at h;split
 ·omega
 ·omega
def Asc.ext{s:ByteArray}(h:Asc s)(i j:Nat):Asc (s.extract i j):=by
 intro b hb;rw[jh,xZ]at hb;simp only[List.extract]at hb;exact h b (uQ (AY hb))
def We(s:ByteArray)(i:Nat)(hi:i<=s.size)(hs:s.size<=1073741824):Af prog 142 [.int .i64 fun _=>(i:Int),.ptr 1001 0] [(1001,.box [.str fun _=>s])] (.int .i64 fun _=>endP s i) [(1001,.box [.str fun _=>s])]:=by
 have h1:=I5 (s.extract i s.size) (by rw[dh];omega);have hb:=AF hi;obtain⟨n,hn⟩:∃n,n=endP s i:=⟨_,rfl⟩
 rw[<- hn]at hb ⊢;unfold endP at hn;generalize iw (s.extract i s.size)=k at*
 (refine fB [.tmp 3] Wf [(1,[(3,zI k,[])])] func142 fun _=>?_;repeat' first|exact⟨⟩|apply mA|apply mC<;>intro)
 rw[aa zo]at hn;rw[ax zo zo,hn]
def allT:ByteArray:=⟨#[91,42,93]⟩
def ja:ByteArray:=⟨#[93]⟩
def fe(s:ByteArray):dL×ByteArray×Bool:=
 if dp s allT=true then((3,0,⟨#[]⟩),s.extract 3 s.size,true)
 else if ad s 0=46 then((1,0,s.extract 1 (endP s 1).toNat),s.extract (endP s 1).toNat s.size,true)
 else if ad s 0=63 then((4,0,s.extract 1 (endP s 1).toNat),s.extract (endP s 1).toNat s.size,true)
 else((2,(dy (cY (s.extract 1 s.size) ja).1).1,⟨#[]⟩),(cY (s.extract 1 s.size) ja).2.1,
  decide (ad s 0=91)&&((cY (s.extract 1 s.size) ja).2.2&&((dy (cY (s.extract 1 s.size) ja).1).2&&decide (cE (dy (cY (s.extract 1 s.size) ja).1).1=(cY (s.extract 1 s.size) ja).1))))
def Wg{s p:ByteArray}(h:dp s p=true):p.size<=s.size:=by
 have h1:p.data.toList <+: s.data.toList:=FM.1 h;have h2:=h1.length_le;rw[fY,fY]at h2;exact h2
def Wi(s:ByteArray): -9223372036854775808<=(dy s).1∧(dy s).1<=9223372036854775807:=by
 unfold dy;split
 ·rename_i v hv;have:=Lib.atoiAll_bounds hv;exact⟨zo,zo⟩
 ·have:=Lib.atoiSat_bounds s.data.toList;exact⟨zo,zo⟩
 ·exact⟨zd,zd⟩
def rM(l:List UInt8):(⟨l.toArray⟩:ByteArray).size=l.length:=by show l.toArray.size=_;simp
def Ls(s p:ByteArray):(cY s p).1.size<=s.size∧(cY s p).2.1.size<=s.size:=by
 have hl:s.data.toList.length=s.size:=by rw[fY];rfl
 unfold cY Lib.cut;dsimp only;split
 ·refine⟨aG (uK (rM _)) ?_,aG (uK (rM _)) ?_⟩
  ·dsimp only;rw[u6];omega
  ·dsimp only;rw[gu];omega
 ·exact⟨aG (uK (rM _)) (by dsimp only;omega),aB _⟩
def Ld{s:ByteArray}(h0:0<s.size):(fe s).2.1.size<s.size:=by
 have hb:=AF (s:=s) (i:=1) h0;unfold fe;split
 ·dsimp only;rw[dh];omega
 split
 ·dsimp only;rw[dh];omega
 split
 ·dsimp only;rw[dh];omega
 ·have:=(Ls (s.extract 1 s.size) ja).2;have hx:(s.extract 1 s.size).size=s.size-1:=by rw[dh];omega
  dsimp only;omega
def Wj{s:ByteArray}:(fe s).1.2.2.size<=s.size:=by
 unfold fe;split
 ·exact aB _
 split
 ·dsimp only;rw[dh];omega
 split
 ·dsimp only;rw[dh];omega
 ·exact aB _
def Wk(s:ByteArray)(h0:0<s.size)(hs:s.size<=1000):Af prog 97 [.str fun _=>s] [] (.ag [vk fun _=>(fe s).1,.str fun _=>(fe s).2.1,.bool fun _=>(fe s).2.2]) []:=by
 have h1:=We s 1 h0 zo;have hb:=AF (s:=s) (i:=1) h0;have h2:=DX s allT;have hpl:dp s allT=true->3<=s.size:=fun h=>Wg h;unfold fe;obtain⟨n,hn⟩:∃n,n=endP s 1:=⟨_,rfl⟩
 rw[<- hn]at h1 hb ⊢;clear hn;have hby:ad s 0=ad s 0:=rfl;cases c1:dp s allT with
 | true=>
  rw[c1]at h2;have hpl:=hpl c1;rw[ae rfl];dsimp only
  (refine fB [.cell 2 71,.tmp 3,.tmp 4] AH [(2,[(1,zI n,[(1001,.box [zR s])])]),(3,[(1,zO true,[])])] func97 fun _=>?_;repeat' first|exact⟨⟩|apply mA|apply mC<;>intro)
  all_goals rfl
 | false=>
  rw[c1]at h2;rw[aa zsi];by_cases c2:ad s 0=46
  ·rw[ae c2];dsimp only
   (refine fA [.cell 2 71,.tmp 3,.tmp 4] AH [(2,[(1,zI n,[(1001,.box [zR s])])]),(3,[(1,zO false,[])])] func97 fun _=>?_;repeat' first|exact⟨⟩|apply mA|apply mC<;>intro)
   all_goals(try simp only[aF])
   all_goals try exact zB
   all_goals try exact absurd c2 ‹¬(((s.data[Int.toNat 0]?).getD 0).toNat:Int)=46›
   (all_goals try first|exact eZ|(refine qC ?_;repeat' first|exact⟨⟩|apply mA))
   all_goals first
    | rfl
    | trace_state
  ·rw [aa c2];by_cases c3:ad s 0=63
   ·rw[ae c3];dsimp only
    (refine fA [.cell 2 71,.tmp 3,.tmp 4] AH [(2,[(1,zI n,[(1001,.box [zR s])])]),(3,[(1,zO false,[])])] func97 fun _=>?_;repeat' first|exact⟨⟩|apply mA|apply mC<;>intro)
    all_goals(try simp only[aF])
    all_goals try exact zB
    all_goals try exact absurd ‹(((s.data[Int.toNat 0]?).getD 0).toNat:Int)=46› c2
    all_goals try exact absurd c3 ‹¬(((s.data[Int.toNat 0]?).getD 0).toNat:Int)=63›
    (all_goals try first|exact eZ|(refine qC ?_;repeat' first|exact⟨⟩|apply mA))
    all_goals first
     | rfl
     | trace_state
   ·rw[aa c3];have h3:=Gq (s.extract 1 s.size) ja (by rw[dh];omega);have hcl:=Ls (s.extract 1 s.size) ja;have hxs:(s.extract 1 s.size).size<=1000:=by rw[dh];omega
    generalize cY (s.extract 1 s.size) ja=q at*;have h4:=Gr q.1 zo;have Lt:=Wi q.1;generalize dy q.1=a at*;have h5:=ve a.1 Lt.1 Lt.2;generalize cE a.1=z at*;obtain⟨q1,q2,q3⟩:=q;obtain⟨a1,a2⟩:=a;dsimp only at h3 h4 h5 hcl ⊢;obtain⟨R,hR⟩:∃R,R=(decide (ad s 0=91)&&(q3&&(a2&&decide (z=q1)))):=⟨_,rfl⟩
    rw[<- hR]
    (refine fA [.cell 2 71,.tmp 3,.tmp 4] AH [(2,[(1,zI n,[(1001,.box [zR s])])]),(3,[(1,zO false,[])]),(9,[(2,.ag [zR q1,zR q2,zO q3],[])]),(10,[(1,.ag [zI a1,.bz fun _=>a2],[])]),(11,[(15,zR z,[])])] func97 fun _=>?_;repeat' first|exact⟨⟩|apply mA|apply mC<;>intro)
    all_goals(try simp only[aF])
    all_goals try exact zB
    all_goals try exact absurd ‹(((s.data[Int.toNat 0]?).getD 0).toNat:Int)=46› c2
    all_goals try exact absurd ‹(((s.data[Int.toNat 0]?).getD 0).toNat:Int)=63› c3
    (all_goals try first|exact eZ|(refine qC ?_;repeat' first|exact⟨⟩|apply mA))
    rw[hR];show(if(if(if(ad s 0==91)=true then q3 else false)=true then a2 else false)=true then decide (z=q1)else false)=_;by_cases h:ad s 0=91<;>cases q3<;>cases a2<;>simp[h]
def mI(p:dL):Bool:=
 if p.1=1∨p.1=4 then decide (p.2.1=0)&&isName p.2.2
 else if p.1=2 then decide (p.2.2=⟨#[]⟩)&&(decide (0<=p.2.1)&&decide (p.2.1<256))
 else if p.1=3 then decide (p.2.2=⟨#[]⟩)&&decide (p.2.1=0)else false
def Wl(p:dL)(hs:p.2.2.size<=1073741824):Af prog 98 [vk fun _=>p] [] (.bool fun _=>mI p) []:=by
 have h1:=Du p.2.2 zo;obtain⟨v,hv⟩:∃v,v=mI p:=⟨_,rfl⟩
 rw[<- hv];unfold mI at hv;generalize isName p.2.2=b at*;obtain⟨k,i,n⟩:=p;dsimp only at h1 hv
 (refine fA [.tmp 2] Wm [(4,[(6,zO b,[])])] func98 fun _=>?_;repeat' first|exact⟨⟩|apply mA|apply mC<;>intro)
 all_goals(try simp only[aF])
 all_goals try exact zB
 all_goals try exact absurd ‹k=1› ‹¬k=1›
 all_goals try exact absurd ‹k=4› ‹¬k=4›
 (all_goals try first|exact eZ|(refine qC ?_;repeat' first|exact⟨⟩|apply mA))
 all_goals(rw[hv];clear hv h1;by_cases hi:i=0<;>by_cases hn:n=⟨#[]⟩<;>by_cases h5:(0:Int)<=i<;>simp[*])
def kX:Nat->List dL->ByteArray->Option (List dL)
 | 0,l,_=>some l
 | n+1,l,rest=>if rest=⟨#[]⟩then some l else if(fe rest).2.2=false∨mI (fe rest).1=false then none else kX n (l++[(fe rest).1]) (fe rest).2.1
def cr(s:ByteArray):List dL×Int:=
 if s=⟨#[]⟩then([],4)else if 200<s.size then([],5)else
 match kX 202 [] (⟨#[46]⟩++s)with
 | none=>([],13)
 | some l=>if 16<l.length then([],9)else(l,0)
def Wn(l:List dL)(t:dL)(i:Nat)(hi:i<l.length+1):aD (dO (fun _=>l.length) (vm fun _=>l) (dY [sj fun _=>t]) fun _=>i) (vm (fun _=>l++[t]) fun _=>i):=by
 refine aD.of_eq ?_;have e:∀a b:dL,a=b->(sj fun _=>a)=sj fun _=>b:=fun a b h=>by rw[h]
 unfold dO;by_cases q:i<l.length
 ·rw[ae q];refine e _ _ ?_;show l.getD i _=(l++[t]).getD i _;rw[cz,cz,gS q]
 ·rw[aa q];obtain rfl:i=l.length:=by omega
  have h1:(dY [sj fun _=>t] fun _=>l.length-l.length)=sj fun _=>t:=by rw[ku];rfl
  refine h1.trans (e _ _ ?_);show t=(l++[t]).getD l.length _;rw[cz,jd (ao _),ku];rfl
def EG{s:ByteArray}(h:s≠⟨#[]⟩):0<s.size:=by
 rcases sF s.size with q|q
 ·exact absurd (gp (sC q)) h
 ·exact q
def wL(s:ByteArray)(hs:s.size<=100000000000):Af prog 43 [.str fun _=>s] [] (.ag [l9 fun _=>(cr s).1,.int .i64 fun _=>(cr s).2]) []:=by
 unfold cr;by_cases c1:s=⟨#[]⟩
 ·rw[ae c1];have c1':s.size=0:=by rw[c1];rfl
  clear c1
  (refine fA [.tmp 2,.tmp 3] sk [] func43 fun _=>?_;repeat' first|exact⟨⟩|apply mA|apply mC<;>intro)
  all_goals try exact absurd c1' ‹¬s.size=0›
  all_goals exact eZ
 rw[aa c1];have c1':¬s.size=0:=fun h=>by have:=EG c1;omega
 by_cases c2:200<s.size
 ·rw[ae c2]
  (refine fA [.tmp 2,.tmp 3] sk [] func43 fun _=>?_;repeat' first|exact⟨⟩|apply mA|apply mC<;>intro)
  all_goals try exact absurd ‹s.size=0› c1'
  all_goals try exact absurd ‹(s.size:Int)<=200› zo
  all_goals exact eZ
 rw[aa c2];obtain⟨Z,hZ⟩:∃Z,Z=kX 202 [] (⟨#[46]⟩++s):=⟨_,rfl⟩
 rw[<- hZ]
 (refine fA [.tmp 2,.tmp 3] sk [] func43 fun _=>?_;repeat' first|exact⟨⟩|apply mA|apply mC<;>intro)
 all_goals try exact absurd ‹s.size=0› c1'
 all_goals try exact absurd ‹200<(s.size:Int)› zo
 ·intro c hc;obtain rfl:=dD.1 hc;show 1+s.size<=_;omega
 have hds:(⟨#[46]⟩++s:ByteArray).size=s.size+1:=by rw[aj];show 1+s.size=_;omega
 generalize (⟨#[46]⟩++s:ByteArray)=s0 at*;refine .loop (fun q:Nat×List dL×ByteArray=>⟨42,[(5,.str fun _=>q.2.2),(4,.aJ 36 1 fun _=>q.2.1.length)],[(36,.arr false 71 3 1 (fun _=>q.2.1.length) (vm fun _=>q.2.1))]⟩)
  (fun q=>kX q.1 q.2.1 q.2.2=Z∧q.2.2.size+1<=q.1∧q.2.2.size<=201∧q.2.1.length+q.1<=300) (fun q=>q.1) (202,[],s0) ⟨hZ.symm,by dsimp only;omega,by dsimp only;omega,by dsimp only[List.length_nil];omega⟩ ?_ fun q E hq=>?_
 ·exact aZ
 obtain⟨n,l,rest⟩:=q;obtain⟨q1,q2,q4,q5⟩:=hq;dsimp only at q1 q2 q4 q5;obtain⟨n,rfl⟩:∃m,n=m+1:=⟨n-1,zo⟩
 simp only[kX]at q1;by_cases c3:rest=⟨#[]⟩
 ·rw[ae c3]at q1;have c3':rest.size=0:=by rw[c3];rfl
  subst q1;dsimp only;by_cases c4:16<l.length
  ·rw[ae c4];apply af.wk tF mF [] sk ?_
   (refine oA ?_;repeat' first|exact⟨⟩|apply mA|apply mC<;>intro)
   all_goals try exact absurd c3' ‹¬rest.size=0›
   all_goals try exact absurd ‹(l.length:Int)<=16› zo
   all_goals exact eZ
  ·rw[aa c4];apply af.wk tF mF [] sk ?_
   (refine oA ?_;repeat' first|exact⟨⟩|apply mA|apply mC<;>intro)
   all_goals try exact absurd c3' ‹¬rest.size=0›
   all_goals try exact absurd ‹16<(l.length:Int)› zo
   all_goals exact eZ
 ·rw [aa c3]at q1;have c3':¬rest.size=0:=fun h=>by have:=EG c3;omega
  have h1:=Wk rest zo zo;have h2:=Wl (fe rest).1 (by have:=Wj (s:=rest);omega);have hless:=Ld (s:=rest) zo;generalize fe rest=t at*;obtain⟨p,r2,b⟩:=t;dsimp only at h1 h2 hless q1;generalize mI p=vb at*;by_cases c4:b=false∨vb=false
  ·rw[ae c4]at q1;subst q1;dsimp only;apply af.wk tF mF [(8,[(1,.ag [vk fun _=>p,zR r2,zO b],[])]),(9,[(4,zO vb,[])])] sk ?_
   (refine oA ?_;repeat' first|exact⟨⟩|apply mA|apply mC<;>intro)
   all_goals(try simp only[aF])
   all_goals try exact zB
   all_goals try exact absurd ‹rest.size=0› c3'
   all_goals try exact absurd ‹b=true∧vb=true› (fun g=>c4.elim (fun k=>by rw[g.1]at k;cases k) (fun k=>by rw[g.2]at k;cases k))
   all_goals exact eZ
  ·rw[aa c4]at q1;apply af.wk tF mF [(8,[(1,.ag [vk fun _=>p,zR r2,zO b],[])]),(9,[(4,zO vb,[])])] sk ?_
   (refine oA ?_;repeat' first|exact⟨⟩|apply mA|apply mC<;>intro)
   all_goals(try simp only[aF])
   all_goals try exact zB
   all_goals try exact absurd ‹rest.size=0› c3'
   all_goals try exact absurd ‹b=false∨vb=false› c4
   all_goals try exact eZ
   refine dE (ι:=Nat×List dL×ByteArray) (μ:=fun q=>q.1) (i:=(n+1,l,rest)) (n,l++[p],r2) ?_ ?_
   ·refine⟨⟨q1,?_,?_,?_⟩,?_⟩
    ·dsimp only;omega
    ·dsimp only;omega
    ·dsimp only;rw[du];show l.length+1+n<=_;omega
    ·dsimp only;omega
   (focus(refine aQ ?_;repeat' first|with_reducible apply ai|exact wZ|fail))
   ·rw[du];rfl
   ·rw[du];rfl
   ·rw[du];rfl
   ·exact Wn l p
def Wo(s:ByteArray)(hs:s.size<=100000000000)(_:Asc s):Af prog 43 [.str fun _=>s] [] (.ag [l9 fun _=>(cr s).1,.int .i64 fun _=>(cr s).2]) []:=wL s hs
end Go.Ai

namespace Go.Ai
open Go Go.Proofs Tryz
set_option maxRecDepth 100000
def mr(s:ByteArray):Int:=(cr s).2
def Jg(t:ByteArray)(h:mr t=0):t.size<=200:=by
 unfold mr cr at h;by_cases c1:t=⟨#[]⟩
 ·rw[c1];decide
 rw[aa c1]at h;by_cases c2:200<t.size
 ·rw[ae c2]at h;exact absurd h zd
 ·omega
def RY(t:ByteArray)(hs:t.size<=100000000000)(ha:Asc t):Af prog 43 [.str fun _=>t] [] (.ag [.any,.int .i64 fun _=>mr t]) []:=by
 have h:=Wo t hs ha;unfold l9 at h;refine Af.IB h ?_;unfold mr
 exact aZ
end Go.Ai
