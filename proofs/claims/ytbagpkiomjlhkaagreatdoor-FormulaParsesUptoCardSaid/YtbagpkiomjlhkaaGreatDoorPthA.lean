/- Chapter 5: paths: the parts of a text, in plain words. -/
import Derived.Test.YtbagpkiomjlhkaaGreatDoorWide
import Derived.Test.YtbagpkiomjlhkaaGreatDoorRdE
import Derived.Test.YtbagpkiomjlhkaaGreatDoorFnA
import Derived.Test.YtbagpkiomjlhkaaGreatDoorLexB
set_option linter.all false
namespace Go.Ai
open Go Go.Proofs
set_option maxRecDepth 100000
set_option maxHeartbeats 4000000
abbrev Prt:=Int×Int×ByteArray
def af8(p:Unit->Prt):List AV:=[.int .i64 fun _=>(p ()).1,.int .i64 fun _=>(p ()).2.1,.str fun _=>(p ()).2.2]
def encP(p:Unit->Prt):AV:=.agg (af8 p)
def alT(l:Unit->List Prt):(Unit->Nat)->List AV:=fun i=>af8 fun _=>(l ()).getD (i ()) (0,0,⟨#[]⟩)
def slcP(l:Unit->List Prt):AV:=.slc .any 3 (fun _=>(l ()).length) (alT l)
def sepT:ByteArray:=⟨#[46,91,63]⟩
def idxA(t:ByteArray):Int:=Lib.indexAny t.data.toList sepT.data.toList
def endP(s:ByteArray)(i:Nat):Int:=if idxA (s.extract i s.size)<0 then s.size else i+idxA (s.extract i s.size)
def afn(t:ByteArray)(ht:t.size<=1073741824):Af Tryz.prog 84 [.str fun _=>t,.str fun _=>sepT] [] (.int .i64 fun _=>idxA t) []:=by
 refine Af.akI (vals:=#[.string t,.string sepT]) Tryz.func84 rfl fun w hT=>?_;by_cases h8:t.size<=8
 ·exact(ajl t w h8).mono fun e w' ⟨he,hw⟩=>⟨_,he,fun w2 D B=>.int .i64 fun _=>idxA t,hw⟩
 have h116:(Tryz.prog.info? (Tryz.abC.t 116)).map (fun i=>(i.zero,i.size))=some (some (.agg (Array.replicate 256 (.bool false))),256):=by kernel_rfl
 refine(Any.strings_IndexAny_long Tryz.agz (zero_of_info h116).1 (zero_of_info h116).2 t sepT w (by decide) (by omega) (by omega) (by decide) (fun j b hb=>?_)).mono fun e w' ⟨he,hw⟩=>⟨_,he,fun w2 D B=>.int .i64 fun _=>idxA t,?_⟩
 ·have hm:=List.mem_of_getElem? hb;have key:∀x∈sepT.data.toList,x.toNat<128:=by decide
  exact key b hm
 ·rw[hw];exact((Go.RowKit.Below.refl _ _).alloc (Nat.le_refl _) _).alloc (by simp) _
theorem ad5(cs:List UInt8):∀l:List UInt8,Lib.indexAny l cs = -1∨(0<=Lib.indexAny l cs∧Lib.indexAny l cs<l.length)
 | []=>.inl rfl
 | b::l=>by
  simp only[Lib.indexAny];have ih:=ad5 cs l;split
  ·exact .inr ⟨by omega,by simp⟩
  ·rcases ih with h|⟨h1,h2⟩
   ·rw[h];exact .inl rfl
   ·refine .inr ?_;rw[if_neg (by simp;omega)];simp only[List.length_cons];omega
def aj8{s:ByteArray}{i:Nat}(hi:i<=s.size):(i:Int)<=endP s i∧endP s i<=s.size:=by
 unfold endP idxA;have h:=ad5 sepT.data.toList (s.extract i s.size).data.toList;have hl:(s.extract i s.size).data.toList.length=s.size-i:=by
  rw[Array.length_toList];show(s.extract i s.size).size=_;rw[ByteArray.size_extract];omega
 rw[hl]at h;split
 ·omega
 ·omega
def Asc.ext{s:ByteArray}(h:Asc s)(i j:Nat):Asc (s.extract i j):=by
 intro b hb;rw[ByteArray.data_extract,Array.toList_extract]at hb;simp only[List.extract]at hb;exact h b (List.mem_of_mem_drop (List.mem_of_mem_take hb))
def end_ok(s:ByteArray)(i:Nat)(hi:i<=s.size)(hs:s.size<=1073741824):Af Tryz.prog 142 [.int .i64 fun _=>(i:Int),.ptr 1001 0] [(1001,.box [.str fun _=>s])] (.int .i64 fun _=>endP s i) [(1001,.box [.str fun _=>s])]:=by
 have h1:=afn (s.extract i s.size) (by rw[ByteArray.size_extract];omega);have hb:=aj8 hi;obtain⟨n,hn⟩:∃n,n=endP s i:=⟨_,rfl⟩
 rw[<- hn]at hb ⊢;unfold endP at hn;generalize idxA (s.extract i s.size)=k at*
 (refine fB [.tmp 3] kp142 [(1,[(3,zI k,[])])] Tryz.func142 fun _=>?_;repeat' with_reducible first|exact⟨⟩|refine mA ?_ ?_|refine mC (fun _=>?_) fun _=>?_)
 rw[if_neg (by omega)]at hn;rw[w64 (by omega) (by omega),hn]
def allT:ByteArray:=⟨#[91,42,93]⟩
def rbT:ByteArray:=⟨#[93]⟩
def acP(s:ByteArray):Prt×ByteArray×Bool:=
 if aaK s allT=true then((3,0,⟨#[]⟩),s.extract 3 s.size,true)
 else if byt s 0=46 then((1,0,s.extract 1 (endP s 1).toNat),s.extract (endP s 1).toNat s.size,true)
 else if byt s 0=63 then((4,0,s.extract 1 (endP s 1).toNat),s.extract (endP s 1).toNat s.size,true)
 else((2,(ab6 (cutL (s.extract 1 s.size) rbT).1).1,⟨#[]⟩),(cutL (s.extract 1 s.size) rbT).2.1,
  decide (byt s 0=91)&&((cutL (s.extract 1 s.size) rbT).2.2&&((ab6 (cutL (s.extract 1 s.size) rbT).1).2&&decide (abD (ab6 (cutL (s.extract 1 s.size) rbT).1).1=(cutL (s.extract 1 s.size) rbT).1))))
def prefB_le{s p:ByteArray}(h:aaK s p=true):p.size<=s.size:=by
 have h1:p.data.toList <+: s.data.toList:=List.isPrefixOf_iff_prefix.1 h;have h2:=h1.length_le;rw[Array.length_toList,Array.length_toList]at h2;exact h2
def atoiV_le(s:ByteArray): -9223372036854775808<=(ab6 s).1∧(ab6 s).1<=9223372036854775807:=by
 unfold ab6;split
 ·rename_i v hv;have:=Lib.atoiAll_bounds hv;exact⟨by omega,by omega⟩
 ·have:=Lib.atoiSat_bounds s.data.toList;exact⟨by omega,by omega⟩
 ·exact⟨by decide,by decide⟩
def aiR(l:List UInt8):(⟨l.toArray⟩:ByteArray).size=l.length:=by show l.toArray.size=_;simp
def cut_le(s p:ByteArray):(cutL s p).1.size<=s.size∧(cutL s p).2.1.size<=s.size:=by
 have hl:s.data.toList.length=s.size:=by rw[Array.length_toList];rfl
 unfold cutL Lib.cut;dsimp only;split
 ·refine⟨Nat.le_trans (Nat.le_of_eq (aiR _)) ?_,Nat.le_trans (Nat.le_of_eq (aiR _)) ?_⟩
  ·dsimp only;rw[List.length_take];omega
  ·dsimp only;rw[List.length_drop];omega
 ·exact⟨Nat.le_trans (Nat.le_of_eq (aiR _)) (by dsimp only;omega),Nat.zero_le _⟩
def akp{s:ByteArray}(h0:0<s.size):(acP s).2.1.size<s.size:=by
 have hb:=aj8 (s:=s) (i:=1) h0;unfold acP;split
 ·dsimp only;rw[ByteArray.size_extract];omega
 split
 ·dsimp only;rw[ByteArray.size_extract];omega
 split
 ·dsimp only;rw[ByteArray.size_extract];omega
 ·have:=(cut_le (s.extract 1 s.size) rbT).2;have hx:(s.extract 1 s.size).size=s.size-1:=by rw[ByteArray.size_extract];omega
  dsimp only;omega
def ako{s:ByteArray}:(acP s).1.2.2.size<=s.size:=by
 unfold acP;split
 ·exact Nat.zero_le _
 split
 ·dsimp only;rw[ByteArray.size_extract];omega
 split
 ·dsimp only;rw[ByteArray.size_extract];omega
 ·exact Nat.zero_le _
def alI(s:ByteArray)(h0:0<s.size)(hs:s.size<=1000):Af Tryz.prog 97 [.str fun _=>s] [] (.tup [encP fun _=>(acP s).1,.str fun _=>(acP s).2.1,.bool fun _=>(acP s).2.2]) []:=by
 have h1:=end_ok s 1 h0 (by omega);have hb:=aj8 (s:=s) (i:=1) h0;have h2:=acB s allT;have hpl:aaK s allT=true->3<=s.size:=fun h=>prefB_le h;unfold acP;obtain⟨n,hn⟩:∃n,n=endP s 1:=⟨_,rfl⟩
 rw[<- hn]at h1 hb ⊢;clear hn;have hby:byt s 0=byt s 0:=rfl;cases c1:aaK s allT with
 | true=>
  rw[c1]at h2;have hpl:=hpl c1;rw[if_pos rfl];dsimp only
  (refine fB [.cell 2 71,.tmp 3,.tmp 4] kp97 [(2,[(1,zI n,[(1001,.box [zR s])])]),(3,[(1,zO true,[])])] Tryz.func97 fun _=>?_;repeat' with_reducible first|exact⟨⟩|refine mA ?_ ?_|refine mC (fun _=>?_) fun _=>?_)
  all_goals rfl
 | false=>
  rw[c1]at h2;rw[if_neg (by simp)];by_cases c2:byt s 0=46
  ·rw[if_pos c2];dsimp only
   (refine fA [.cell 2 71,.tmp 3,.tmp 4] kp97 [(2,[(1,zI n,[(1001,.box [zR s])])]),(3,[(1,zO false,[])])] Tryz.func97 fun _=>?_;repeat' with_reducible first|exact⟨⟩|refine mA ?_ ?_|refine mC (fun _=>?_) fun _=>?_)
   all_goals(try simp only[ite_self])
   all_goals(try exact zB)
   all_goals(try(exact absurd c2 ‹¬(((s.data[Int.toNat 0]?).getD 0).toNat:Int)=46›))
   (all_goals try first|exact eZ|(refine qC ?_;repeat' with_reducible first|exact⟨⟩|refine mA ?_ ?_))
   all_goals first
    | rfl
    | trace_state
  ·rw [if_neg c2];by_cases c3:byt s 0=63
   ·rw[if_pos c3];dsimp only
    (refine fA [.cell 2 71,.tmp 3,.tmp 4] kp97 [(2,[(1,zI n,[(1001,.box [zR s])])]),(3,[(1,zO false,[])])] Tryz.func97 fun _=>?_;repeat' with_reducible first|exact⟨⟩|refine mA ?_ ?_|refine mC (fun _=>?_) fun _=>?_)
    all_goals(try simp only[ite_self])
    all_goals(try exact zB)
    all_goals(try(exact absurd ‹(((s.data[Int.toNat 0]?).getD 0).toNat:Int)=46› c2))
    all_goals(try(exact absurd c3 ‹¬(((s.data[Int.toNat 0]?).getD 0).toNat:Int)=63›))
    (all_goals try first|exact eZ|(refine qC ?_;repeat' with_reducible first|exact⟨⟩|refine mA ?_ ?_))
    all_goals first
     | rfl
     | trace_state
   ·rw[if_neg c3];have h3:=Cut_ok (s.extract 1 s.size) rbT (by rw[ByteArray.size_extract];omega);have hcl:=cut_le (s.extract 1 s.size) rbT;have hxs:(s.extract 1 s.size).size<=1000:=by rw[ByteArray.size_extract];omega
    generalize cutL (s.extract 1 s.size) rbT=q at*;have h4:=anQ q.1 (by omega);have h4b:=atoiV_le q.1;generalize ab6 q.1=a at*;have h5:=afl a.1 h4b.1 h4b.2;generalize abD a.1=z at*;obtain⟨q1,q2,q3⟩:=q;obtain⟨a1,a2⟩:=a;dsimp only at h3 h4 h5 hcl ⊢;obtain⟨R,hR⟩:∃R,R=(decide (byt s 0=91)&&(q3&&(a2&&decide (z=q1)))):=⟨_,rfl⟩
    rw[<- hR]
    (refine fA [.cell 2 71,.tmp 3,.tmp 4] kp97 [(2,[(1,zI n,[(1001,.box [zR s])])]),(3,[(1,zO false,[])]),(9,[(2,.tup [zR q1,zR q2,zO q3],[])]),(10,[(1,.tup [zI a1,.ifc fun _=>a2],[])]),(11,[(15,zR z,[])])] Tryz.func97 fun _=>?_;repeat' with_reducible first|exact⟨⟩|refine mA ?_ ?_|refine mC (fun _=>?_) fun _=>?_)
    all_goals(try simp only[ite_self])
    all_goals(try exact zB)
    all_goals(try(exact absurd ‹(((s.data[Int.toNat 0]?).getD 0).toNat:Int)=46› c2))
    all_goals(try(exact absurd ‹(((s.data[Int.toNat 0]?).getD 0).toNat:Int)=63› c3))
    (all_goals try first|exact eZ|(refine qC ?_;repeat' with_reducible first|exact⟨⟩|refine mA ?_ ?_))
    rw[hR];show(if(if(if(byt s 0==91)=true then q3 else false)=true then a2 else false)=true then decide (z=q1)else false)=_;by_cases h:byt s 0=91<;>cases q3<;>cases a2<;>simp[h]
def ah4(p:Prt):Bool:=
 if p.1=1∨p.1=4 then decide (p.2.1=0)&&isName p.2.2
 else if p.1=2 then decide (p.2.2=⟨#[]⟩)&&(decide (0<=p.2.1)&&decide (p.2.1<256))
 else if p.1=3 then decide (p.2.2=⟨#[]⟩)&&decide (p.2.1=0)else false
def akm(p:Prt)(hs:p.2.2.size<=1073741824):Af Tryz.prog 98 [encP fun _=>p] [] (.bool fun _=>ah4 p) []:=by
 have h1:=afm p.2.2 (by omega);obtain⟨v,hv⟩:∃v,v=ah4 p:=⟨_,rfl⟩
 rw[<- hv];unfold ah4 at hv;generalize isName p.2.2=b at*;obtain⟨k,i,n⟩:=p;dsimp only at h1 hv
 (refine fA [.tmp 2] kp98 [(4,[(6,zO b,[])])] Tryz.func98 fun _=>?_;repeat' with_reducible first|exact⟨⟩|refine mA ?_ ?_|refine mC (fun _=>?_) fun _=>?_)
 all_goals(try simp only[ite_self])
 all_goals(try exact zB)
 all_goals(try(exact absurd ‹k=1› ‹¬k=1›))
 all_goals(try(exact absurd ‹k=4› ‹¬k=4›))
 (all_goals try first|exact eZ|(refine qC ?_;repeat' with_reducible first|exact⟨⟩|refine mA ?_ ?_))
 all_goals(rw[hv];clear hv h1;by_cases hi:i=0<;>by_cases hn:n=⟨#[]⟩<;>by_cases h5:(0:Int)<=i<;>simp[*])
def acR:Nat->List Prt->ByteArray->Option (List Prt)
 | 0,l,_=>some l
 | n+1,l,rest=>if rest=⟨#[]⟩then some l else if(acP rest).2.2=false∨ah4 (acP rest).1=false then none else acR n (l++[(acP rest).1]) (acP rest).2.1
def abo(s:ByteArray):List Prt×Int:=
 if s=⟨#[]⟩then([],4)else if 200<s.size then([],5)else
 match acR 202 [] (⟨#[46]⟩++s)with
 | none=>([],13)
 | some l=>if 16<l.length then([],9)else(l,0)
def akD(l:List Prt)(t:Prt)(i:Nat)(hi:i<l.length+1):LeL (catF (fun _=>l.length) (alT fun _=>l) (aaL [af8 fun _=>t]) fun _=>i) (alT (fun _=>l++[t]) fun _=>i):=by
 refine LeL.of_eq ?_;have e:∀a b:Prt,a=b->(af8 fun _=>a)=af8 fun _=>b:=fun a b h=>by rw[h]
 unfold catF;by_cases q:i<l.length
 ·rw[if_pos q];refine e _ _ ?_;show l.getD i _=(l++[t]).getD i _;rw[List.getD_eq_getElem?_getD,List.getD_eq_getElem?_getD,List.getElem?_append_left q]
 ·rw[if_neg q];obtain rfl:i=l.length:=by omega
  have h1:(aaL [af8 fun _=>t] fun _=>l.length-l.length)=af8 fun _=>t:=by rw[Nat.sub_self];rfl
  refine h1.trans (e _ _ ?_);show t=(l++[t]).getD l.length _;rw[List.getD_eq_getElem?_getD,List.getElem?_append_right (Nat.le_refl _),Nat.sub_self];rfl
def ai9{s:ByteArray}(h:s≠⟨#[]⟩):0<s.size:=by
 rcases Nat.eq_zero_or_pos s.size with q|q
 ·exact absurd (ByteArray.ext (Array.eq_empty_of_size_eq_zero q)) h
 ·exact q
def adL(s:ByteArray)(hs:s.size<=100000000000):Af Tryz.prog 43 [.str fun _=>s] [] (.tup [slcP fun _=>(abo s).1,.int .i64 fun _=>(abo s).2]) []:=by
 unfold abo;by_cases c1:s=⟨#[]⟩
 ·rw[if_pos c1];have c1':s.size=0:=by rw[c1];rfl
  clear c1
  (refine fA [.tmp 2,.tmp 3] kp43 [] Tryz.func43 fun _=>?_;repeat' with_reducible first|exact⟨⟩|refine mA ?_ ?_|refine mC (fun _=>?_) fun _=>?_)
  all_goals(try(exact absurd c1' ‹¬s.size=0›))
  all_goals exact eZ
 rw[if_neg c1];have c1':¬s.size=0:=fun h=>by have:=ai9 c1;omega
 by_cases c2:200<s.size
 ·rw[if_pos c2]
  (refine fA [.tmp 2,.tmp 3] kp43 [] Tryz.func43 fun _=>?_;repeat' with_reducible first|exact⟨⟩|refine mA ?_ ?_|refine mC (fun _=>?_) fun _=>?_)
  all_goals(try(exact absurd ‹s.size=0› c1'))
  all_goals(try(exact absurd ‹(s.size:Int)<=200› (by omega)))
  all_goals exact eZ
 rw[if_neg c2];obtain⟨Z,hZ⟩:∃Z,Z=acR 202 [] (⟨#[46]⟩++s):=⟨_,rfl⟩
 rw[<- hZ]
 (refine fA [.tmp 2,.tmp 3] kp43 [] Tryz.func43 fun _=>?_;repeat' with_reducible first|exact⟨⟩|refine mA ?_ ?_|refine mC (fun _=>?_) fun _=>?_)
 all_goals(try(exact absurd ‹s.size=0› c1'))
 all_goals(try(exact absurd ‹200<(s.size:Int)› (by omega)))
 ·intro c hc;obtain rfl:=List.mem_singleton.1 hc;show 1+s.size<=_;omega
 have hds:(⟨#[46]⟩++s:ByteArray).size=s.size+1:=by rw[ByteArray.size_append];show 1+s.size=_;omega
 generalize (⟨#[46]⟩++s:ByteArray)=s0 at*;refine .loop (fun q:Nat×List Prt×ByteArray=>⟨42,[(5,.str fun _=>q.2.2),(4,.aref 36 1 fun _=>q.2.1.length)],[(36,.arr false 71 3 1 (fun _=>q.2.1.length) (alT fun _=>q.2.1))]⟩)
  (fun q=>acR q.1 q.2.1 q.2.2=Z∧q.2.2.size+1<=q.1∧q.2.2.size<=201∧q.2.1.length+q.1<=300) (fun q=>q.1) (202,[],s0) ⟨hZ.symm,by dsimp only;omega,by dsimp only;omega,by dsimp only[List.length_nil];omega⟩ ?_ fun q E hq=>?_
 ·exact aZ
 obtain⟨n,l,rest⟩:=q;obtain⟨q1,q2,q4,q5⟩:=hq;dsimp only at q1 q2 q4 q5;obtain⟨n,rfl⟩:∃m,n=m+1:=⟨n-1,by omega⟩
 simp only[acR]at q1;by_cases c3:rest=⟨#[]⟩
 ·rw[if_pos c3]at q1;have c3':rest.size=0:=by rw[c3];rfl
  subst q1;dsimp only;by_cases c4:16<l.length
  ·rw[if_pos c4];apply AWp.wk tF mF [] kp43 ?_
   (refine oA ?_;repeat' with_reducible first|exact⟨⟩|refine mA ?_ ?_|refine mC (fun _=>?_) fun _=>?_)
   all_goals(try(exact absurd c3' ‹¬rest.size=0›))
   all_goals(try(exact absurd ‹(l.length:Int)<=16› (by omega)))
   all_goals exact eZ
  ·rw[if_neg c4];apply AWp.wk tF mF [] kp43 ?_
   (refine oA ?_;repeat' with_reducible first|exact⟨⟩|refine mA ?_ ?_|refine mC (fun _=>?_) fun _=>?_)
   all_goals(try(exact absurd c3' ‹¬rest.size=0›))
   all_goals(try(exact absurd ‹16<(l.length:Int)› (by omega)))
   all_goals exact eZ
 ·rw [if_neg c3]at q1;have c3':¬rest.size=0:=fun h=>by have:=ai9 c3;omega
  have h1:=alI rest (by omega) (by omega);have h2:=akm (acP rest).1 (by have:=ako (s:=rest);omega);have hless:=akp (s:=rest) (by omega);generalize acP rest=t at*;obtain⟨p,r2,b⟩:=t;dsimp only at h1 h2 hless q1;generalize ah4 p=vb at*;by_cases c4:b=false∨vb=false
  ·rw[if_pos c4]at q1;subst q1;dsimp only;apply AWp.wk tF mF [(8,[(1,.tup [encP fun _=>p,zR r2,zO b],[])]),(9,[(4,zO vb,[])])] kp43 ?_
   (refine oA ?_;repeat' with_reducible first|exact⟨⟩|refine mA ?_ ?_|refine mC (fun _=>?_) fun _=>?_)
   all_goals(try simp only[ite_self])
   all_goals(try exact zB)
   all_goals(try(exact absurd ‹rest.size=0› c3'))
   all_goals(try(exact absurd ‹b=true∧vb=true› (fun g=>c4.elim (fun k=>by rw[g.1]at k;cases k) (fun k=>by rw[g.2]at k;cases k))))
   all_goals exact eZ
  ·rw[if_neg c4]at q1;apply AWp.wk tF mF [(8,[(1,.tup [encP fun _=>p,zR r2,zO b],[])]),(9,[(4,zO vb,[])])] kp43 ?_
   (refine oA ?_;repeat' with_reducible first|exact⟨⟩|refine mA ?_ ?_|refine mC (fun _=>?_) fun _=>?_)
   all_goals(try simp only[ite_self])
   all_goals(try exact zB)
   all_goals(try(exact absurd ‹rest.size=0› c3'))
   all_goals(try(exact absurd ‹b=false∨vb=false› c4))
   (all_goals(try exact eZ))
   refine dE (ι:=Nat×List Prt×ByteArray) (μ:=fun q=>q.1) (i:=(n+1,l,rest)) (n,l++[p],r2) ?_ ?_
   ·refine⟨⟨q1,?_,?_,?_⟩,?_⟩
    ·dsimp only;omega
    ·dsimp only;omega
    ·dsimp only;rw[List.length_append];show l.length+1+n<=_;omega
    ·dsimp only;omega
   (focus(refine aQ ?_;repeat' first|with_reducible apply And.intro|exact wZ|fail))
   ·rw[List.length_append];rfl
   ·rw[List.length_append];rfl
   ·rw[List.length_append];rfl
   ·exact akD l p
def ae3(s:ByteArray)(hs:s.size<=100000000000)(_:Asc s):Af Tryz.prog 43 [.str fun _=>s] [] (.tup [slcP fun _=>(abo s).1,.int .i64 fun _=>(abo s).2]) []:=adL s hs
end Go.Ai

namespace Go.Ai
open Go Go.Proofs
set_option maxRecDepth 100000
def peV(s:ByteArray):Int:=(abo s).2
def ajK(t:ByteArray)(h:peV t=0):t.size<=200:=by
 unfold peV abo at h;by_cases c1:t=⟨#[]⟩
 ·rw[c1];decide
 rw[if_neg c1]at h;by_cases c2:200<t.size
 ·rw[if_pos c2]at h;exact absurd h (by decide)
 ·omega
def amd(t:ByteArray)(hs:t.size<=100000000000)(ha:Asc t):Af Tryz.prog 43 [.str fun _=>t] [] (.tup [.any,.int .i64 fun _=>peV t]) []:=by
 have h:=ae3 t hs ha;unfold slcP at h;refine Af.apg h ?_;unfold peV
 exact aZ
end Go.Ai
