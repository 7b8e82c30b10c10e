/- Chapter 17: the reader: values. -/
import Derived.Test.YtbagpkiomjlhkaaGreatDoorRdF
import Derived.Test.YtbagpkiomjlhkaaGreatDoorWide
import Derived.Test.YtbagpkiomjlhkaaGreatDoorCalR
set_option linter.all false
namespace Go.Ai
open Go Go.Proofs
set_option maxRecDepth 100000
set_option maxHeartbeats 4000000
def sc(k n sc:Int)(t:ByteArray):V:=.mk k n sc t [] []
def arS{e:Nat}{k n s:Int}{t:ByteArray}(ht:t.size<=1073741824):V.le (e+1) (sc k n s t):=
 ⟨Nat.zero_le _,Nat.zero_le _,ht,fun x hx=>(by cases hx),fun x hx=>(by cases hx)⟩
def als(e:Nat)(n:Int):Af Tryz.prog 72 [.int .i64 fun _=>n] [] (encV (e+1) .any fun _=>sc 2 n 0 ⟨#[]⟩) []:=by
 (refine fB [.cell 2 56] kp72 [] Tryz.func72 fun _=>?_;repeat' with_reducible first|exact⟨⟩|refine mA ?_ ?_|refine mC (fun _=>?_) fun _=>?_)
 all_goals rfl
def alu(e:Nat)(n s:Int):Af Tryz.prog 74 [.int .i64 fun _=>n,.int .i64 fun _=>s] [] (encV (e+1) .any fun _=>sc 3 n s ⟨#[]⟩) []:=by
 (refine fB [.cell 4 56] kp74 [] Tryz.func74 fun _=>?_;repeat' with_reducible first|exact⟨⟩|refine mA ?_ ?_|refine mC (fun _=>?_) fun _=>?_)
 all_goals rfl
def vText_ok(e:Nat)(s:ByteArray):Af Tryz.prog 75 [.str fun _=>s] [] (encV (e+1) .any fun _=>sc 4 0 0 s) []:=by
 (refine fB [.cell 2 56] kp75 [] Tryz.func75 fun _=>?_;repeat' with_reducible first|exact⟨⟩|refine mA ?_ ?_|refine mC (fun _=>?_) fun _=>?_)
 all_goals rfl
def apU(e:Nat)(s:ByteArray):Af Tryz.prog 76 [.str fun _=>s] [] (encV (e+1) .any fun _=>sc 5 0 0 s) []:=by
 (refine fB [.cell 2 56] kp76 [] Tryz.func76 fun _=>?_;repeat' with_reducible first|exact⟨⟩|refine mA ?_ ?_|refine mC (fun _=>?_) fun _=>?_)
 all_goals rfl
def vDate_ok(e:Nat)(n:Int):Af Tryz.prog 124 [.int .i64 fun _=>n] [] (encV (e+1) .any fun _=>sc 6 n 0 ⟨#[]⟩) []:=by
 (refine fB [.cell 2 56] kp124 [] Tryz.func124 fun _=>?_;repeat' with_reducible first|exact⟨⟩|refine mA ?_ ?_|refine mC (fun _=>?_) fun _=>?_)
 all_goals rfl
def vTime_ok(e:Nat)(n:Int):Af Tryz.prog 125 [.int .i64 fun _=>n] [] (encV (e+1) .any fun _=>sc 7 n 0 ⟨#[]⟩) []:=by
 (refine fB [.cell 2 56] kp125 [] Tryz.func125 fun _=>?_;repeat' with_reducible first|exact⟨⟩|refine mA ?_ ?_|refine mC (fun _=>?_) fun _=>?_)
 all_goals rfl
def ald(b:Bool):V:=sc 1 (if b=true then 1 else 0) 0 ⟨#[]⟩
def vBool_ok(e:Nat)(b:Bool):Af Tryz.prog 126 [.bool fun _=>b] [] (encV (e+1) .any fun _=>ald b) []:=by
 cases b <;>
 ·(refine fB [.cell 2 56] kp126 [] Tryz.func126 fun _=>?_;repeat' with_reducible first|exact⟨⟩|refine mA ?_ ?_|refine mC (fun _=>?_) fun _=>?_)
  all_goals rfl
def ao4:ByteArray:=⟨#[100,97,116,101]⟩
def ao9:ByteArray:=⟨#[116,105,109,101]⟩
def alz:ByteArray:=⟨#[116,114,117,101]⟩
def wordB_ok(e:Nat)(s:St)(t:ByteArray)(h1:t≠ao4)(h2:t≠ao9):Af Tryz.prog 77 [.ptr 1000 0,.str fun _=>t] [(1000,boxS fun _=>s)] (encV (e+1) .any fun _=>ald (decide (t=alz))) [(1000,boxS fun _=>s)]:=by
 have h3:=vBool_ok e (decide (t=alz));obtain⟨b,hb⟩:∃b,b=decide (t=alz):=⟨_,rfl⟩
 rw[<- hb]at h3 ⊢;generalize ald b=v at*
 (refine fA [.cell 4 56] kp77 [(10,[(2,encV (e+1) .any fun _=>v,[])])] Tryz.func77 fun _=>?_;repeat' with_reducible first|exact⟨⟩|refine mA ?_ ?_|refine mC (fun _=>?_) fun _=>?_)
 all_goals(try(exact absurd ‹t=(⟨#[100,97,116,101]⟩:ByteArray)› h1))
 all_goals(try(exact absurd ‹t=(⟨#[116,105,109,101]⟩:ByteArray)› h2))
 any_goals((with_reducible refine nO ?_);rw[hb]at h3;exact h3)
 all_goals exact eZ
def aob(t:ByteArray)(s:St):V×St:=
 if t=ao4 then(sc 6 (ao8 (s.anV 3).value).1 0 ⟨#[]⟩,(s.take 3).fail (ao8 (s.anV 3).value).2)
 else if t=ao9 then(sc 7 (ao7 (s.anV 3).value).1 0 ⟨#[]⟩,(s.take 3).fail (ao7 (s.anV 3).value).2)
 else(ald (decide (t=alz)),s)
def apP(e:Nat)(s:St)(t:ByteArray)(hl:s.l.length<=1073741824)(hv:(s.anV 3).value.size<=1073741824):Af Tryz.prog 77 [.ptr 1000 0,.str fun _=>t] [(1000,boxS fun _=>s)] (encV (e+1) .any fun _=>(aob t s).1) [(1000,boxS fun _=>(aob t s).2)]:=by
 have h1:=take_ok s 3 hl;unfold aob;by_cases c1:t=ao4
 ·subst c1;rw[if_pos rfl];dsimp only;have h2:=aqh (s.anV 3).value hv;have h3:=abE (s.take 3) (ao8 (s.anV 3).value).2;have h4:=vDate_ok e (ao8 (s.anV 3).value).1;generalize ao8 (s.anV 3).value=q at*;generalize (s.take 3).fail q.2=u at*;generalize s.take 3=w at*;generalize s.anV 3=k at*;generalize sc 6 q.1 0 ⟨#[]⟩=v at*
  (refine fA [.cell 4 56] kp77 [(3,[(1,zK k,zS w),(3,.tup [.int .i64 fun _=>q.1,.int .i64 fun _=>q.2],[])]),(4,[(2,zT,zS u)]),(5,[(1,encV (e+1) .any fun _=>v,[])])] Tryz.func77 fun _=>?_;repeat' with_reducible first|exact⟨⟩|refine mA ?_ ?_|refine mC (fun _=>?_) fun _=>?_)
  all_goals(try exact zB)
  all_goals(try(exact absurd rfl ‹¬ao4=_›))
  (all_goals(try exact eZ))
  all_goals(try exact fun _=>rfl)
 rw[if_neg c1];by_cases c2:t=ao9
 ·subst c2;rw[if_pos rfl];dsimp only;have h2:=apV (s.anV 3).value hv;have h3:=abE (s.take 3) (ao7 (s.anV 3).value).2;have h4:=vTime_ok e (ao7 (s.anV 3).value).1;generalize ao7 (s.anV 3).value=q at*;generalize (s.take 3).fail q.2=u at*;generalize s.take 3=w at*;generalize s.anV 3=k at*;generalize sc 7 q.1 0 ⟨#[]⟩=v at*
  (refine fA [.cell 4 56] kp77 [(7,[(1,zK k,zS w),(3,.tup [.int .i64 fun _=>q.1,.int .i64 fun _=>q.2],[])]),(8,[(2,zT,zS u)]),(9,[(1,encV (e+1) .any fun _=>v,[])])] Tryz.func77 fun _=>?_;repeat' with_reducible first|exact⟨⟩|refine mA ?_ ?_|refine mC (fun _=>?_) fun _=>?_)
  all_goals(try exact zB)
  all_goals(try(exact absurd rfl ‹¬ao9=_›))
  all_goals(try(exact absurd ‹ao9=(⟨#[100,97,116,101]⟩:ByteArray)› c1))
  (all_goals(try exact eZ))
  all_goals(try exact fun _=>rfl)
 ·rw[if_neg c2];exact wordB_ok e s t c1 c2
def sufD(t:ByteArray):Bool:=Lib.hasSuffix t.data.toList [100]
def suf_ok(t:ByteArray)(ht:t.size<=1073741824):Af Tryz.prog 73 [.str fun _=>t,.str fun _=>⟨#[100]⟩] [] (.bool fun _=>sufD t) []:=
 Af.pure (vals:=#[.string t,.string ⟨#[100]⟩]) Tryz.func73 rfl rfl fun w=>Any.strings_HasSuffix Tryz.lays100 t ⟨#[100]⟩ w (by omega)
structure PlTok(t:Tok):Prop where
 size:t.text.size<=65536
 vsize:t.value.size<=65536
 num : -1000000000000000<=t.num∧t.num<=1000000000000000
 sc:0<=t.scale
 k1:t.kind=1->letB (byt t.text 0)=true
 k2:t.kind=2->0<t.text.size∧0<=t.num
 k5:t.kind=5->letB (byt t.text 0)=false
 asc:Asc t.text
def PlTok.default:PlTok default:=⟨Nat.zero_le _,Nat.zero_le _,⟨by decide,by decide⟩,by decide,fun h=>absurd h (by decide),fun h=>absurd h (by decide),fun h=>absurd h (by decide),Asc.nil⟩
def OkS.peek{P:Tok->Prop}(hd:P default){s:St}(h:OkS P s):P s.peek:=by
 unfold St.peek;split
 ·rename_i q;obtain⟨_,hl⟩:=abk q;rw[show s.l.getD 0 default=s.l[0] by simp[List.getD,hl]];exact h.tk _ (List.getElem_mem hl)
 ·exact hd
def hyT:ByteArray:=⟨#[45]⟩
def numV(m:Bool)(x:Tok):V:=if x.scale≠0∨sufD x.text=true then sc 3 (if m=true then -x.num else x.num) x.scale ⟨#[]⟩else sc 2 (if m=true then -x.num else x.num) 0 ⟨#[]⟩
def aoa(m:Bool)(x:Tok)(s:St):V×St:=if x.kind=2 then(numV m x,s)else if x.kind=3 then(sc 4 0 0 x.value,s)else if x.kind=4 then(sc 5 0 0 x.value,s)else aob x.text s
def valF(s:St):V×St:=
 if s.e≠0 then(default,s)else if s.val=false then(default,s.fail 13)else
 (if(aoa (s.isT hyT) (s.accept hyT).peek (s.accept hyT).next).2.e≠0 then default else(aoa (s.isT hyT) (s.accept hyT).peek (s.accept hyT).next).1,(aoa (s.isT hyT) (s.accept hyT).peek (s.accept hyT).next).2)
def wordF_le{e:Nat}(t:ByteArray)(s:St):V.le (e+1) (aob t s).1:=by
 unfold aob ald
 (repeat' split)<;>exact arS (Nat.zero_le _)
def atomF_le{e:Nat}(m:Bool)(x:Tok)(s:St)(hx:x.value.size<=65536):V.le (e+1) (aoa m x s).1:=by
 unfold aoa numV;split
 ·split<;>exact arS (Nat.zero_le _)
 split
 ·exact arS (Nat.le_trans hx (by decide))
 split
 ·exact arS (Nat.le_trans hx (by decide))
 ·exact wordF_le _ _
def Steps.take(s:St)(k:Int):Steps s (s.take k):=by
 unfold St.take;split
 ·exact .next _
 ·exact .fail _ _
def wordF_go(t:ByteArray)(s:St):Steps s (aob t s).2:=by
 unfold aob;split
 ·exact(Steps.take s 3).trans (.fail _ _)
 split
 ·exact(Steps.take s 3).trans (.fail _ _)
 ·exact .refl _
def atomF_go(m:Bool)(x:Tok)(s:St):Steps s (aoa m x s).2:=by
 unfold aoa;split
 ·exact .refl _
 split
 ·exact .refl _
 split
 ·exact .refl _
 ·exact wordF_go _ _
def apj(e:Nat)(s:St)(h:OkS PlTok s):Af Tryz.prog 30 [.ptr 1000 0] [(1000,boxS fun _=>s)] (encV (e+1) .any fun _=>(valF s).1) [(1000,boxS fun _=>(valF s).2)]:=by
 have hl:=Nat.le_trans h.len (by decide:65537<=1073741824);have h1:=abp s;have h2:=aic s hl;have h3:=abE s 13;have h4:=adG s hyT hl;have ha:Steps s (s.accept hyT):=.accept s hyT;have hga:=h.go ha;have h5:=aap (s.accept hyT) (Nat.le_trans hga.len (by decide));have hx:=hga.peek PlTok.default;have hgn:=hga.go (Steps.next _);have htk:((s.accept hyT).next.anV 3).value.size<=65536:=by
  unfold St.anV;split
  ·exact(hgn.peek PlTok.default).vsize
  ·exact Nat.zero_le _
 have hgl:=hgn.len;unfold valF;by_cases c1:s.e≠0
 ·rw[if_pos c1];dsimp only
  (refine fA [.cell 2 56] kp30 [(1,[(4,.bool fun _=>s.e != 0,zS s)])] Tryz.func30 fun _=>?_;repeat' with_reducible first|exact⟨⟩|refine mA ?_ ?_|refine mC (fun _=>?_) fun _=>?_)
  all_goals(try simp only[ite_self])
  all_goals(try exact zB)
  all_goals(try(exact absurd ‹True∧s.e=0› (fun g=>c1 g.2)))
  (all_goals try first|exact eZ|(refine qC ?_;repeat' with_reducible first|exact⟨⟩|refine mA ?_ ?_))
  exact fun _=>rfl
 rw[if_neg c1];have c1:s.e=0:=Classical.byContradiction c1;rw[show(s.e != 0)=false by simp[c1]]at h1;cases c2:s.val with
 | false=>
  rw[c2]at h2;rw[if_pos rfl];dsimp only;generalize s.fail 13=u at*
  (refine fA [.cell 2 56] kp30 [(1,[(4,zO false,zS s)]),(3,[(1,zO false,zS s)]),(4,[(1,zT,zS u)])] Tryz.func30 fun _=>?_;repeat' with_reducible first|exact⟨⟩|refine mA ?_ ?_|refine mC (fun _=>?_) fun _=>?_)
  all_goals(try simp only[ite_self])
  all_goals(try exact zB)
  all_goals(try(exact absurd ‹False∧True› (fun g=>g.1)))
  (all_goals try first|exact eZ|(refine qC ?_;repeat' with_reducible first|exact⟨⟩|refine mA ?_ ?_))
  exact fun _=>rfl
 | true=>
  rw[c2]at h2;rw[if_neg (by simp)];dsimp only;have hn0:(s.accept hyT).next.e=0:=by
   have e1:∀t:St,t.e=0->t.next.e=0:=fun t ht=>by unfold St.next;split<;>exact ht
   unfold St.accept;split
   ·exact e1 _ (e1 _ c1)
   ·exact e1 _ c1
  have h6:=abp (s.accept hyT).next;rw[hn0]at h6;have h6:Af Tryz.prog 52 [.ptr 1000 0] [(1000,boxS fun _=>(s.accept hyT).next)] (.bool fun _=>false) [(1000,boxS fun _=>(s.accept hyT).next)]:=h6;generalize s.isT hyT=m at*;generalize (s.accept hyT).peek=x at*;generalize (s.accept hyT).next=t at*;generalize s.accept hyT=u at*;by_cases c3:x.kind=2
  ·unfold aoa;rw[if_pos c3];dsimp only;rw[if_neg (fun g=>g hn0)];have h7:=suf_ok x.text (Nat.le_trans hx.size (by decide));have hnum:=hx.num;have hw:IntKind.i64.wrap (0-x.num) = -x.num:=by rw[w64 (by omega) (by omega)];omega
   unfold numV;generalize sufD x.text=f at*;cases m with
   | true=>
    rw[show(if true=true then -x.num else x.num) = -x.num from rfl];have h8:=als e (-x.num);have h9:=alu e (-x.num) x.scale;by_cases c4:x.scale≠0∨f=true
    ·rw[if_pos c4];generalize sc 2 (-x.num) 0 ⟨#[]⟩=v1 at*;generalize sc 3 (-x.num) x.scale ⟨#[]⟩=v2 at*
     (refine fA [.cell 2 56] kp30 [(1,[(4,zO false,zS s)]),(3,[(1,zO true,zS s)]),(6,[(1,zO true,zS u)]),(7,[(1,zK x,zS t)]),
       (15,[(2,encV (e+1) .any fun _=>v1,[])]),(16,[(6,zO f,[])]),(17,[(4,encV (e+1) .any fun _=>v2,[])]),(22,[(1,zO false,zS t)])] Tryz.func30 fun _=>?_;repeat' with_reducible first|exact⟨⟩|refine mA ?_ ?_|refine mC (fun _=>?_) fun _=>?_)
     all_goals(try simp only[ite_self])
     any_goals((with_reducible first|refine nO ?_|refine sO (fun _=>?_));first|exact h1|exact h2|exact h4|exact h5|exact h6|exact h7|(simp only[hw];exact h8)|(simp only[hw];exact h9)|exact h8|exact h9)
     all_goals(try(exact absurd ‹False∧True› (fun g=>g.1)))
     all_goals(try(exact absurd ‹¬x.kind=2› (fun g=>g c3)))
     all_goals(try(exact absurd ‹x.scale=0∧f=false› (fun g=>c4.elim (fun k=>k g.1) (fun k=>by rw[g.2]at k;cases k))))
     (all_goals try first|exact eZ|(refine qC ?_;repeat' with_reducible first|exact⟨⟩|refine mA ?_ ?_))
     exact fun _=>rfl
    ·rw[if_neg c4];generalize sc 2 (-x.num) 0 ⟨#[]⟩=v1 at*;generalize sc 3 (-x.num) x.scale ⟨#[]⟩=v2 at*
     (refine fA [.cell 2 56] kp30 [(1,[(4,zO false,zS s)]),(3,[(1,zO true,zS s)]),(6,[(1,zO true,zS u)]),(7,[(1,zK x,zS t)]),
       (15,[(2,encV (e+1) .any fun _=>v1,[])]),(16,[(6,zO f,[])]),(17,[(4,encV (e+1) .any fun _=>v2,[])]),(22,[(1,zO false,zS t)])] Tryz.func30 fun _=>?_;repeat' with_reducible first|exact⟨⟩|refine mA ?_ ?_|refine mC (fun _=>?_) fun _=>?_)
     all_goals(try simp only[ite_self])
     any_goals((with_reducible first|refine nO ?_|refine sO (fun _=>?_));first|exact h1|exact h2|exact h4|exact h5|exact h6|exact h7|(simp only[hw];exact h8)|(simp only[hw];exact h9)|exact h8|exact h9)
     all_goals(try(exact absurd ‹False∧True› (fun g=>g.1)))
     all_goals(try(exact absurd ‹¬x.kind=2› (fun g=>g c3)))
     all_goals(try(exact absurd ‹¬x.scale=0∨f=true› c4))
     (all_goals try first|exact eZ|(refine qC ?_;repeat' with_reducible first|exact⟨⟩|refine mA ?_ ?_))
     exact fun _=>rfl
   | false=>
    rw[show(if false=true then -x.num else x.num)=x.num from rfl];have h8:=als e x.num;have h9:=alu e x.num x.scale;by_cases c4:x.scale≠0∨f=true
    ·rw[if_pos c4];generalize sc 2 x.num 0 ⟨#[]⟩=v1 at*;generalize sc 3 x.num x.scale ⟨#[]⟩=v2 at*
     (refine fA [.cell 2 56] kp30 [(1,[(4,zO false,zS s)]),(3,[(1,zO true,zS s)]),(6,[(1,zO false,zS u)]),(7,[(1,zK x,zS t)]),
       (15,[(2,encV (e+1) .any fun _=>v1,[])]),(16,[(6,zO f,[])]),(17,[(4,encV (e+1) .any fun _=>v2,[])]),(22,[(1,zO false,zS t)])] Tryz.func30 fun _=>?_;repeat' with_reducible first|exact⟨⟩|refine mA ?_ ?_|refine mC (fun _=>?_) fun _=>?_)
     all_goals(try simp only[ite_self])
     any_goals((with_reducible first|refine nO ?_|refine sO (fun _=>?_));first|exact h1|exact h2|exact h4|exact h5|exact h6|exact h7|(simp only[hw];exact h8)|(simp only[hw];exact h9)|exact h8|exact h9)
     all_goals(try(exact absurd ‹False∧True› (fun g=>g.1)))
     all_goals(try(exact absurd ‹¬x.kind=2› (fun g=>g c3)))
     all_goals(try(exact absurd ‹x.scale=0∧f=false› (fun g=>c4.elim (fun k=>k g.1) (fun k=>by rw[g.2]at k;cases k))))
     (all_goals try first|exact eZ|(refine qC ?_;repeat' with_reducible first|exact⟨⟩|refine mA ?_ ?_))
     exact fun _=>rfl
    ·rw[if_neg c4];generalize sc 2 x.num 0 ⟨#[]⟩=v1 at*;generalize sc 3 x.num x.scale ⟨#[]⟩=v2 at*
     (refine fA [.cell 2 56] kp30 [(1,[(4,zO false,zS s)]),(3,[(1,zO true,zS s)]),(6,[(1,zO false,zS u)]),(7,[(1,zK x,zS t)]),
       (15,[(2,encV (e+1) .any fun _=>v1,[])]),(16,[(6,zO f,[])]),(17,[(4,encV (e+1) .any fun _=>v2,[])]),(22,[(1,zO false,zS t)])] Tryz.func30 fun _=>?_;repeat' with_reducible first|exact⟨⟩|refine mA ?_ ?_|refine mC (fun _=>?_) fun _=>?_)
     all_goals(try simp only[ite_self])
     any_goals((with_reducible first|refine nO ?_|refine sO (fun _=>?_));first|exact h1|exact h2|exact h4|exact h5|exact h6|exact h7|(simp only[hw];exact h8)|(simp only[hw];exact h9)|exact h8|exact h9)
     all_goals(try(exact absurd ‹False∧True› (fun g=>g.1)))
     all_goals(try(exact absurd ‹¬x.kind=2› (fun g=>g c3)))
     all_goals(try(exact absurd ‹¬x.scale=0∨f=true› c4))
     (all_goals try first|exact eZ|(refine qC ?_;repeat' with_reducible first|exact⟨⟩|refine mA ?_ ?_))
     exact fun _=>rfl
  ·unfold aoa;rw[if_neg c3];by_cases c4:x.kind=3
   ·rw[if_pos c4];dsimp only;rw[if_neg (fun g=>g hn0)];have h7:=vText_ok e x.value;generalize sc 4 0 0 x.value=v at*
    (refine fA [.cell 2 56] kp30 [(1,[(4,zO false,zS s)]),(3,[(1,zO true,zS s)]),(6,[(1,zO m,zS u)]),(7,[(1,zK x,zS t)]),
    (19,[(2,encV (e+1) .any fun _=>v,[])]),(22,[(1,zO false,zS t)])] Tryz.func30 fun _=>?_;repeat' with_reducible first|exact⟨⟩|refine mA ?_ ?_|refine mC (fun _=>?_) fun _=>?_)
    all_goals(try simp only[ite_self])
    all_goals(try exact zB)
    all_goals(try(exact absurd ‹False∧True› (fun g=>g.1)))
    all_goals(try(exact absurd ‹x.kind=2› c3))
    all_goals(try(exact absurd c4 ‹¬x.kind=3›))
    (all_goals try first|exact eZ|(refine qC ?_;repeat' with_reducible first|exact⟨⟩|refine mA ?_ ?_))
    all_goals(try exact fun _=>rfl)
   rw[if_neg c4];by_cases c5:x.kind=4
   ·rw[if_pos c5];dsimp only;rw[if_neg (fun g=>g hn0)];have h7:=apU e x.value;generalize sc 5 0 0 x.value=v at*
    (refine fA [.cell 2 56] kp30 [(1,[(4,zO false,zS s)]),(3,[(1,zO true,zS s)]),(6,[(1,zO m,zS u)]),(7,[(1,zK x,zS t)]),
    (21,[(2,encV (e+1) .any fun _=>v,[])]),(22,[(1,zO false,zS t)])] Tryz.func30 fun _=>?_;repeat' with_reducible first|exact⟨⟩|refine mA ?_ ?_|refine mC (fun _=>?_) fun _=>?_)
    all_goals(try simp only[ite_self])
    all_goals(try exact zB)
    all_goals(try(exact absurd ‹False∧True› (fun g=>g.1)))
    all_goals(try(exact absurd ‹x.kind=2› c3))
    all_goals(try(exact absurd ‹x.kind=3› c4))
    all_goals(try(exact absurd c5 ‹¬x.kind=4›))
    (all_goals try first|exact eZ|(refine qC ?_;repeat' with_reducible first|exact⟨⟩|refine mA ?_ ?_))
    all_goals(try exact fun _=>rfl)
   rw[if_neg c5];have h7:=apP e t x.text (Nat.le_trans hgl (by decide)) (Nat.le_trans htk (by decide));have h6:=abp (aob x.text t).2;generalize aob x.text t=q at*;obtain⟨v,z⟩:=q;dsimp only at*;by_cases c6:z.e≠0
   ·rw[if_pos c6];rw[show(z.e != 0)=true by simp[c6]]at h6
    (refine fA [.cell 2 56] kp30 [(1,[(4,zO false,zS s)]),(3,[(1,zO true,zS s)]),(6,[(1,zO m,zS u)]),(7,[(1,zK x,zS t)]),
    (10,[(3,encV (e+1) .any fun _=>v,zS z)]),(22,[(1,zO true,zS z)])] Tryz.func30 fun _=>?_;repeat' with_reducible first|exact⟨⟩|refine mA ?_ ?_|refine mC (fun _=>?_) fun _=>?_)
    all_goals(try simp only[ite_self])
    all_goals(try exact zB)
    all_goals(try(exact absurd ‹False∧True› (fun g=>g.1)))
    all_goals(try(exact absurd ‹x.kind=2› c3))
    all_goals(try(exact absurd ‹x.kind=3› c4))
    all_goals(try(exact absurd ‹x.kind=4› c5))
    (all_goals try first|exact eZ|(refine qC ?_;repeat' with_reducible first|exact⟨⟩|refine mA ?_ ?_))
    all_goals(try exact fun _=>rfl)
   ·rw[if_neg c6];rw[show(z.e != 0)=false by simp[Decidable.not_not.1 c6]]at h6
    (refine fA [.cell 2 56] kp30 [(1,[(4,zO false,zS s)]),(3,[(1,zO true,zS s)]),(6,[(1,zO m,zS u)]),(7,[(1,zK x,zS t)]),
    (10,[(3,encV (e+1) .any fun _=>v,zS z)]),(22,[(1,zO false,zS z)])] Tryz.func30 fun _=>?_;repeat' with_reducible first|exact⟨⟩|refine mA ?_ ?_|refine mC (fun _=>?_) fun _=>?_)
    all_goals(try simp only[ite_self])
    all_goals(try exact zB)
    all_goals(try(exact absurd ‹False∧True› (fun g=>g.1)))
    all_goals(try(exact absurd ‹x.kind=2› c3))
    all_goals(try(exact absurd ‹x.kind=3› c4))
    all_goals(try(exact absurd ‹x.kind=4› c5))
    (all_goals try first|exact eZ|(refine qC ?_;repeat' with_reducible first|exact⟨⟩|refine mA ?_ ?_))
    all_goals(try exact fun _=>rfl)
def call_ok{pe:ByteArray->Int}(hpe:∀t,pe t=0->t.size<=200)(hpc:∀t,t.size<=100000000000->Asc t->Af Tryz.prog 43 [.str fun _=>t] [] (.tup [.any,.int .i64 fun _=>pe t]) [])
 {e D k:Nat} (hD:65600<=D) {E:Rd->X×Rd} (hE:∀j,k=j+1->Fun PlTok e D j 67 E) (op n:Int) (hn:op=22∨op=26∨op=15∨(1<=n∧n<=3)) (r:Rd) (h:Okr PlTok k r) (hz:r.s.e=0):
 Af Tryz.prog 284 [.ptr 1000 0,.int .i64 fun _=>op,.int .i64 fun _=>n] [(1000,boxR r),(1001000000,boxS fun _=>r.s)] (encX e D .any fun _=>(aeg E pe op n r).1) [(1000,boxR (aeg E pe op n r).2),(1001000000,boxS fun _=>(aeg E pe op n r).2.s)]:=by
 unfold aeg;by_cases c1:op=22∨op=26
 ·rw[if_pos c1];exact has_ok (fun t ht=>ht.size) (fun t ht=>ht.asc) hpe hpc hD op n c1 r h hz
 ·rw [if_neg c1];by_cases c2:op=15
  ·rw[if_pos c2];subst c2;exact div_ok hD hE n r h hz
  ·rw[if_neg c2];have hn2:1<=n∧n<=3:=by
    rcases hn with h|h|h|h
    ·exact absurd (.inl h) c1
    ·exact absurd (.inr h) c1
    ·exact absurd h c2
    ·exact h
   exact def_ok hD hE op n c1 c2 hn2.1 hn2.2 r h hz
def lpT:ByteArray:=⟨#[40]⟩
def ahj(E:Rd->X×Rd)(pe:ByteArray->Int)(r:Rd):X×Rd:=
 if r.bad=true then(default,r)
 else if r.s.val=true then(.mk 1 0 ⟨#[]⟩ [(valF r.s).1] [],r.to (valF r.s).2)
 else if r.s.peek.kind=1∧(ab5 r.s.peek.text aa2).isSome=true then aeg E pe ((ab5 r.s.peek.text aa2).getD (0,0)).1 ((ab5 r.s.peek.text aa2).getD (0,0)).2 (r.to r.s.next)
 else if r.s.peek.kind=1∧resB r.s.peek.text=false then(.mk 2 0 (abf pe r.s).1 [] [],r.to (abf pe r.s).2)
 else if r.s.isT lpT=true then((E r.paren).1,(E r.paren).2.close)
 else(default,r.to (r.s.fail 13))
theorem ahQ{α:Type}{t:ByteArray}:∀{l:List (ByteArray×α)} {v:α},ab5 t l=some v->∃k,(k,v)∈l
 | [],v,h=>by cases h
 | (k,u)::r,v,h=>by
  unfold ab5 at h;split at h
  ·cases h;exact⟨k,List.mem_cons_self ..⟩
  ·obtain⟨k2,h2⟩:=ahQ h;exact⟨k2,List.mem_cons_of_mem _ h2⟩
def calls_n{t:ByteArray}{q:Int×Int}(h:ab5 t aa2=some q):q.1=22∨q.1=26∨q.1=15∨(1<=q.2∧q.2<=3):=by
 obtain⟨k,hk⟩:=ahQ h;have key:∀p∈aa2,p.2.1=22∨p.2.1=26∨p.2.1=15∨(1<=p.2.2∧p.2.2<=3):=by decide
 exact key _ hk
def valF_go(s:St):Steps s (valF s).2:=by
 unfold valF;split
 ·exact .refl _
 split
 ·exact .fail _ _
 ·exact((Steps.accept s hyT).trans (.next _)).trans (atomF_go _ _ _)
def apT(e:Nat)(s:St)(h:OkS PlTok s):V.le (e+1) (valF s).1:=by
 have hd:V.le (e+1) (default:V):=⟨Nat.zero_le _,Nat.zero_le _,Nat.zero_le _,fun x hx=>(by cases hx),fun x hx=>(by cases hx)⟩
 unfold valF;split
 ·exact hd
 split
 ·exact hd
 ·dsimp only;split
  ·exact hd
  ·exact atomF_le _ _ _ ((h.go (Steps.accept s hyT)).peek PlTok.default).vsize
def val_le{e c:Nat}{v:V}(hv:V.le e v):X.le e (c+1) (.mk 1 0 ⟨#[]⟩ [v] []):=
 ⟨Nat.zero_le _,(by decide:1<=1073741824),Nat.zero_le _,fun u hu=>by
  (rcases List.mem_cons.1 hu with rfl|hu
   ·exact hv
   ·cases hu),fun z hz=>(by cases hz)⟩
def am4{pe:ByteArray->Int}(hpe:∀t,pe t=0->t.size<=200){e k:Nat}{E:Rd->X×Rd}(hE:∀j,k=j+1->∀r,Okr PlTok j r->Post (e+1) r (E r))(r:Rd)(h:Okr PlTok k r):Post (e+1) r (ahj E pe r):=by
 unfold ahj;have hd:∀c,X.le (e+1) (1+c) (default:X):=fun c=>X.aa4 (no_le (c:=c) _ _) (by omega);split
 ·exact⟨.of (.refl _) rfl,hd _⟩
 rename_i hb;have hz:r.s.e=0:=by
  unfold Rd.bad at hb;simpa using hb
 split
 ·refine⟨Go.of (r:=r) (r':=r.to (valF r.s).2) (valF_go _) rfl,?_⟩;exact X.aa4 (val_le (c:=r.s.l.length-(valF r.s).2.l.length) (apT e _ h.st)) (Nat.le_of_eq (Nat.add_comm _ _))
 split
 ·rename_i hc;have gn:Go r (r.to r.s.next):=Go.of (r:=r) (r':=r.to r.s.next) (Steps.next _) rfl;have hl:=abg h (by rw[hc.1];decide);have hz2:(r.to r.s.next).s.e=0:=by
   show r.s.next.e=0;unfold St.next;split<;>exact hz
  obtain⟨a,b⟩:=call_go (P:=PlTok) (fun t ht=>ht.size) hpe hE ((ab5 r.s.peek.text aa2).getD (0,0)).1 ((ab5 r.s.peek.text aa2).getD (0,0)).2 (h.go gn) hz2;have al:=a.s.len;have e1:(r.to r.s.next).s=r.s.next:=rfl;rw[e1]at b al;exact⟨gn.trans a,X.aa4 b (by omega)⟩
 split
 ·obtain⟨a,b,_⟩:=agr (P:=PlTok) (fun t ht=>ht.size) hpe h.st;refine⟨Go.of (r:=r) (r':=r.to (abf pe r.s).2) a rfl,?_⟩;exact X.aa4 (aiV (c:=r.s.l.length-(abf pe r.s).2.l.length) _ _ b) (Nat.le_of_eq (Nat.add_comm _ _))
 split
 ·rename_i hp;obtain⟨g1,g2,g3,g4,j,rfl,g5⟩:=acg h hz;have p:=hE j rfl _ g5;have cl:(E r.paren).2.close.s.l.length<=(E r.paren).2.s.l.length:=(Steps.expect (E r.paren).2.s ⟨#[41]⟩).len;refine⟨agN hz g1 g2 g3 (fun z=>(g4 z).1) p.g,X.aa4 p.x ?_⟩;have:=g1.len;have:=p.g.s.len;dsimp only;omega
 ·exact⟨Go.of (r:=r) (r':=r.to (r.s.fail 13)) (.fail _ _) rfl,hd _⟩
end Go.Ai
