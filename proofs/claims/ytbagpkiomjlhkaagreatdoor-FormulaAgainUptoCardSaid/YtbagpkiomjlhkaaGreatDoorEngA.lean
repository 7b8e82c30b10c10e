/- An abstract interpreter over the model's code: values as pure trees, boxes and own arrays as named objects. Definitions only. -/
import Derived.WalkKit
import Derived.Orders
import Derived.Shelf.Unicode.DecodeSlow
import Derived.Laws.CopyRow
import Derived.Laws.AppendOwn
import Derived.WalkLawsBesides
import Derived.WalkSpells
import Derived.Laws.StructEq
import Derived.MapKept
import Derived.Laws.IdiomStrings
import Derived.Laws.MakeOwn
set_option linter.all false
namespace Go.Ai
open Go
def zo{p:Prop}(h:p:=by omega):p:=h
def zd{p:Prop}(h:p:=by decide):p:=h
def zsi{p:Prop}(h:p:=by simp):p:=h
def zk{p:Prop}(h:p:=by kernel_rfl):p:=h
def aa:=@if_neg
def ae:=@if_pos
def ai:=@And.intro
def aj:=@ByteArray.size_append
def ak:=@congrArg
def ao:=@Nat.le_refl
def ay:=@and_true
def az:=@Bool.and_eq_true
def aB:=@Nat.zero_le
def aF:=@ite_self
def aG:=@Nat.le_trans
def bf:=@List.getElem?_eq_getElem
def bp:=@List.length_cons
def bu:=@Int.toNat_natCast
def bC:=@if_true
def bF:=@run_underlying
def bV:=@List.length_nil
def bW:=@List.mem_cons
def bX:=@List.getElem?_eq_some_iff
def cf:=@Nat.lt_of_lt_of_le
def cm:=@Result.andThen_ok
def cz:=@List.getD_eq_getElem?_getD
def cB:=@Option.some.injEq
def cH:=@List.mem_cons_of_mem
def cI:=@List.all_eq_true
def cJ:=@List.headD_cons
def cX:=@decide_eq_true_eq
def dg:=@if_false
def dh:=@ByteArray.size_extract
def du:=@List.length_append
def dv:=@beq_iff_eq
def dC:=@Array.getElem?_eq_getElem
def dD:=@List.mem_singleton
def dJ:=@List.mem_cons_self
def d8:=@Array.getElem?_eq_some_iff
def d9:=@List.getElem_mem
def ec:=@Sem.run_bind
def ee:=@ByteArray.append_assoc
def eC:=@Nat.zero_add
def eM:=@Option.map_some
def eU:=@Bool.or_eq_true
def fc:=@Nat.add_mul
def fp:=@Classical.byContradiction
def fC:=@Int.le_refl
def fD:=@decide_eq_false
def fE:=@Nat.add_zero
def fY:=@Array.length_toList
def fZ:=@List.map_cons
def gp:=@ByteArray.ext
def gq:=@decide_eq_true
def gr:=@Decidable.not_not
def gt:=@Int.toNat_zero
def gu:=@List.length_drop
def gB:=@List.mem_append
def gC:=@List.getElem?_map
def gE:=@Nat.mul_le_mul_right
def gF:=@List.append_assoc
def gG:=@List.mem_map
def gS:=@List.getElem?_append_left
def ii:=@or_false
def ij:=@Bool.not_eq_true'
def ik:=@Nat.add_assoc
def il:=@of_decide_eq_true
def im:=@Nat.zero_lt_one
def io:=@Nat.le_add_right
def iF:=@ByteArray.data_append
def iG:=@Nat.lt_or_ge
def iH:=@List.drop_eq_getElem_cons
def jc:=@Bool.false_eq_true
def jd:=@List.getElem?_append_right
def je:=@List.mem_of_getElem?
def jf:=@Array.getD_eq_getD_getElem?
def jg:=@Option.some.inj
def jh:=@ByteArray.data_extract
def ji:=@UInt8.toNat_inj
def kr:=@List.length_map
def ku:=@Nat.sub_self
def li:=@Addr.add_lit
def lj:=@Oper.upon_skip
def lT:=@not_true_eq_false
def lU:=@Nat.not_lt
def mO:=@Array.getElem?_append_left
def mP:=@Int.tmod_eq_emod_of_nonneg
def mQ:=@Bool.eq_iff_iff
def mR:=@Array.ext'
def mS:=@Nat.lt_of_not_le
def mT:=@ne_eq
def mU:=@List.length_pos_iff
def nJ:=@Prod.mk.injEq
def nK:=@Go.wpIn_mono
def nM:=@Eq.trans
def o9:=@List.any_eq_true
def pc:=@Int.not_lt
def pd:=@List.getElem?_cons_zero
def pf:=@List.getElem?_of_mem
def pg:=@List.cons_append
def ph:=@Array.toList_append
def qw:=@Array.getElem?_toList
def qx:=@Int.tdiv_eq_ediv_of_nonneg
def qy:=@Int.zero_lt_one
def qz:=@Nat.pow_succ
def qA:=@true_and
def qB:=@List.drop_eq_nil_of_le
def qD:=@List.all_cons
def qE:=@Nat.eq_of_beq_eq_true
def qF:=@Option.getD_some
def qG:=@List.getElem?_drop
def qH:=@List.eq_nil_of_length_eq_zero
def qI:=@Ne.symm
def qJ:=@List.nodup_cons
def qK:=@List.mem_range
def sB:=@Array.ext
def sC:=@Array.eq_empty_of_size_eq_zero
def sD:=@List.getElem_of_mem
def sE:=@Nat.pow_le_pow_right
def sF:=@Nat.eq_zero_or_pos
def sG:=@List.getElem?_eq_none
def sH:=@List.sum_cons
def sI:=@Decidable.byContradiction
def sJ:=@List.length_eq_zero_iff
def sK:=@List.not_mem_nil
def uJ:=@Nat.mul_one
def uK:=@Nat.le_of_eq
def uL:=@List.size_toArray
def uM:=@eq_of_beq
def uN:=@List.getElem?_toArray
def uO:=@Nat.not_lt_zero
def uP:=@heap_alloc_new
def uQ:=@List.mem_of_mem_drop
def uR:=@List.drop_drop
def uS:=@List.append_nil
def uT:=@beq_eq_false_iff_ne
def uU:=@false_iff
def uV:=@true_iff
def uW:=@iff_true
def uX:=@iff_false
def uY:=@Nat.add_comm
def uZ:=@Oper.upon_value
def u6:=@List.length_take
def xL:=@Int.lt_or_le
def xM:=@List.getElem?_set
def xN:=@List.getElem?_take
def xO:=@List.drop_zero
def xP:=@List.getElem?_cons_succ
def xQ:=@Nat.mod_lt
def xR:=@List.map_map
def xS:=@List.mem_append_left
def xT:=@List.mem_filter
def xU:=@Bool.true_and
def xV:=@List.drop_eq_nil_iff
def xW:=@Nat.sub_lt_sub_left
def xX:=@Nat.lt_succ_self
def xY:=@List.isEmpty_iff
def xZ:=@Array.toList_extract
def x6:=@Lib.decode_at
def x7:=@ByteArray.empty_append
def AX:=@Bool.false_ne_true
def AY:=@List.mem_of_mem_take
def AZ:=@List.nil_append
def Ba:=@List.mem_append_right
def Bb:=@List.length_eq_one_iff
def Bc:=@Bool.false_or
def Bd:=@Nat.le_of_not_lt
def Be:=@RowKit.Below.heap_alloc
def Bf:=@Nat.lt_succ_iff_lt_or_eq
def Bg:=@DataW.trod_int
def Bh:=@List.map_append
def Bi:=@UInt8.toNat_lt
def Bj:=@List.prefix_append_right_inj
def Bk:=@wp_scope_straight
def Bl:=@Exit.noGoto_ret
def Fr:=@Array.getElem?_append_right
def Fs:=@Lib.run_unsafeString_none
def Ft:=@List.find?_eq_none
def Fu:=@Array.toList_inj
def Fv:=@List.findIdx_cons
def Fx:=@Array.empty_append
def Fy:=@grownCap_le_maxLen
def Fz:=@Array.size_append
def FA:=@List.ext_getElem
def FC:=@List.getElem?_range
def FD:=@List.range'_succ
def FE:=@List.mem_zipIdx_iff_getElem?
def FF:=@Bool.not_eq_true
def FG:=@Bool.and_false
def FH:=@List.take_succ_eq_append_getElem
def FI:=@DataW.trod_string
def FJ:=@List.take_of_length_le
def FK:=@List.any_cons
def FL:=@List.take_append_drop
def FM:=@List.isPrefixOf_iff_prefix
def FN:=@ByteArray.append_empty
abbrev BL:Nat:=2
abbrev BM:Nat:=3
abbrev s7:Nat:=0
abbrev Nz:Nat:=1
abbrev NA:Nat:=5
abbrev NB:Nat:=6
abbrev vn:Nat:=4
abbrev NC:Nat:=179
def vo:List ByteArray:=[⟨#[45,62]⟩,⟨#[33,61]⟩,⟨#[60,61]⟩,⟨#[62,61]⟩,⟨#[46,46]⟩]
inductive FB where
 | any
 | new
 | sat (p:Nat->Prop)
 | own (p:Nat->Prop)
inductive AV where
 | any
 | int (k:IntKind) (n:Unit->Int)
 | bool (b:Unit->Bool)
 | str (s:Unit->ByteArray)
 | slc (fr:FB) (sz:Nat) (n:Unit->Nat) (f:(Unit->Nat)->List AV)
 | nil
 | bt
 | cN
 | bj (t:Nat)
 | dz
 | fd (t f:Unit->Prop)
 | bz (b:Unit->Bool)
 | agg (cs:List AV)
 | ag (vs:List AV)
 | func (fn:FuncId) (caps:List AV)
 | may (g:Unit->Bool) (v:AV)
 | ptr (o off:Nat)
 | dm (fr:FB) (sz:Nat) (n:Unit->Nat) (f:(Unit->Nat)->List AV) (i:Unit->Nat) (off:Nat)
 | ci (o sz ver:Nat) (n i:Unit->Nat) (off:Nat)
 | aJ (o ver:Nat) (n:Unit->Nat)
 | bG (o n:Nat)
 | a8 (fn:FuncId) (o:Nat)
 | fmap (es:List (Nat×AV))
 | di (ks:Unit->List ByteArray) (f:(Unit->Nat)->AV)
 | gJ (n:Nat) (ks:(Unit->Nat)->List ByteArray) (f:(Unit->Nat)->(Unit->Nat)->AV)
 | gw (t f:Unit->Prop)
 | val (v:Value)
 deriving Inhabited
inductive AO where
 | none
 | box (cs:List AV)
 | arr (x:Bool) (t sz ver:Nat) (n:Unit->Nat) (f:(Unit->Nat)->List AV)
 | it (ks:Unit->List ByteArray) (f:(Unit->Nat)->AV) (seen:Unit->List Nat) (pend:Bool)
 deriving Inhabited
structure AS where
 tmps:List AV
 objs:List (Nat×AO)
def oL:List (Nat×AO)->Nat->AO
 | [],_=>.none
 | (i,o)::r,j=>if i=j then o else oL r j
def oset:List (Nat×AO)->Nat->AO->List (Nat×AO)
 | [],j,v=>[(j,v)]
 | (i,o)::r,j,v=>if i=j then(i,v)::r else(i,o)::oset r j v
def AS.tmp(S:AS)(t:Nat):AV:=S.tmps.getD t .any
def AS.obj(S:AS)(o:Nat):AO:=oL S.objs o
inductive TK where
 | int (k:IntKind)|bool|str|iface|slice (e:Nat)|struct (fs:List (Nat×Nat))|array (n e:Nat)|ptr (e:Nat)|func|map (k e:Nat)|other
structure TI where
 k:TK
 size:Nat
 bytes:Nat
 zero:List AV
def TI.agg(t:TI):Bool:=match t.k with|.struct _=>true|.array _ _=>true|_=>false
def TI.real(t:TI):Bool:=match t.k with|.other=>false|_=>true
def aO:List (Nat×TI)->Nat->TI
 | [],_=>⟨.other,0,0,[]⟩
 | (i,o)::r,j=>if i=j then o else aO r j
inductive M(α:Type) where
 | ret (a:α)
 | fail
 | cond (c:Unit->Prop) [d:DecidablePred c] (k:M α)
 | tmp (t:Nat) (k:AV->M α)
 | obj (o:Nat) (k:AO->M α)
def M.bind{α β:Type}:M α->(α->M β)->M β
 | .ret a,f=>f a
 | .fail,_=>.fail
 | @M.cond _ c d k,f=>@M.cond _ c d (k.bind f)
 | .tmp t k,f=>.tmp t fun v=>(k v).bind f
 | .obj o k,f=>.obj o fun v=>(k v).bind f
structure bk where
 f:FuncId
 args:List AV
 objs:List (Nat×AO)
 res:AV
 au:List (Nat×AO)
structure Eff where
 dst:AV
 wo:List (Nat×AO)
 new:List Nat
 call:Option bk
def val(v:AV):M Eff:=.ret ⟨v,[],[],none⟩
def qP:Value->AV
 | .int k n=>.int k (fun _=>n)
 | .bool b=>.bool (fun _=>b)
 | .string s=>.str (fun _=>s)
 | .slice none n c=>match n,c with|0,0=>.nil|_,_=>.any
 | .nilFunc=>.bt
 | .pointer none=>.cN
 | .map none=>.dz
 | .nilIface=>.bz (fun _=>true)
 | _=>.any
def vp:Value->AV
 | .agg cs=>.agg (cs.toList.map qP)
 | v=>qP v
def Gs:AV:=.dm .any 5 (fun _=>1) (fun _=>[.str fun _=>⟨#[45,62]⟩,.str fun _=>⟨#[33,61]⟩,.str fun _=>⟨#[60,61]⟩,.str fun _=>⟨#[62,61]⟩,.str fun _=>⟨#[46,46]⟩]) (fun _=>0) 0
def dj(g:Option (Unit->Bool)):Operand->M AV
 | .tmp t=>.tmp t fun v=>match v with
  | .may g' v'=>match g with
   | some g=>.cond (fun _=>g ()=true->g' ()=true) (.ret v')
   | none=>.ret (.may g' v')
  | v=>.ret v
 | .const v=>.ret (vp v)
 | .func f=>.ret (.func f [])
 | .global gl=>match Nat.beq gl s7 with|true=>.ret Gs|false=>.ret .any
def nU(g:Option (Unit->Bool)):List Operand->M (List AV)
 | []=>.ret []
 | o::r=>(dj g o).bind fun v=>(nU g r).bind fun vs=>.ret (v::vs)
def BN(g:Option (Unit->Bool)):Option Operand->M (Option AV)
 | none=>.ret none
 | some o=>(dj g o).bind fun v=>.ret (some v)
def AV.cell:AV->Bool
 | .int ..|.bool _|.str _|.slc ..|.nil|.bt|.cN|.dz|.fd ..|.bz _|.func ..|.ptr ..|.dm ..|.ci ..|.aJ ..|.a8 ..|.fmap _|.di ..=>true
 | _=>false
def AV.cells:AV->List AV
 | .agg cs=>cs
 | v=>[v]
def nV(ti:TI)(cs:List AV)(off:Nat):AV:=
 if ti.agg then .agg ((cs.drop off).take ti.size)else(cs.drop off).headD .any
def splice(cs:List AV)(off:Nat)(new:List AV):List AV:=cs.take off++new++cs.drop (off+new.length)
def BO(sz:Nat)(f:Unit->List AV)(off:Nat)(new:List AV):List AV:=match off==0&&new.length==sz with|true=>new|false=>splice (f ()) off new
def s8(f:(Unit->Nat)->List AV)(i:Unit->Nat)(c:List AV):(Unit->Nat)->List AV:=
 fun j=>if j ()=i ()then c else f j
def pt(t:Nat)(cs:List AV):List AV:=match Nat.beq t NC with|true=>(match cs with|.cN::r=>.bj t::r|cs=>cs)|false=>cs
def AV.bx:List AV->Bool
 | []=>true
 | .ptr _ _::_=>false
 | .ci _ _ _ _ _ _::_=>false
 | .aJ _ _ _::_=>false
 | .bG _ _::_=>false
 | .a8 _ _::_=>false
 | .agg cs::r=>AV.bx cs&&AV.bx r
 | .ag cs::r=>AV.bx cs&&AV.bx r
 | .func _ cs::r=>AV.bx cs&&AV.bx r
 | .may _ v::r=>AV.bx [v]&&AV.bx r
 | _::r=>AV.bx r
def AV.pure(v:AV):Bool:=AV.bx [v]
def AV.nL(d:Nat):List AV->Bool
 | []=>true
 | .ptr o _::r=>o != d&&AV.nL d r
 | .ci o _ _ _ _ _::r=>o != d&&AV.nL d r
 | .aJ o _ _::r=>o != d&&AV.nL d r
 | .bG o _::r=>o != d&&AV.nL d r
 | .a8 _ o::r=>o != d&&AV.nL d r
 | .agg cs::r=>AV.nL d cs&&AV.nL d r
 | .ag cs::r=>AV.nL d cs&&AV.nL d r
 | .func _ cs::r=>AV.nL d cs&&AV.nL d r
 | .may _ v::r=>AV.nL d [v]&&AV.nL d r
 | _::r=>AV.nL d r
def tl(T:List (Nat×TI))(t:Nat)(k:TI->M Eff):M Eff:=if(aO T t).real then k (aO T t)else .fail
def vq(ti:TI):AV->M Eff
 | .ptr o off=>.obj o fun
  | .box cs=>if off+ti.size<=cs.length then val (nV ti cs off)else .fail
  | _=>.fail
 | .dm _ sz _ f i off=>if off+ti.size<=sz then val (nV ti (f i) off)else .fail
 | .ci o sz ver _ i off=>.obj o fun
  | .arr _ _ sz' aM _ f=>if sz==sz'&&ver==aM&&off+ti.size<=sz then val (nV ti (f i) off)else .fail
  | _=>.fail
 | _=>.fail
def BP(ti:TI)(p v:AV):M Eff:=
 let cs:=v.cells
 if cs.length=ti.size&&cs.all AV.cell then
  match p with
  | .ptr o off=>.obj o fun
   | .box old=>if off+cs.length<=old.length then .ret ⟨.any,[(o,.box (splice old off cs))],[],none⟩else .fail
   | _=>.fail
  | .ci o sz ver _ i off=>.obj o fun
   | .arr x t sz' aM n f=>if sz==sz'&&ver==aM&&off+cs.length<=sz&&cs.all AV.pure then
    .ret ⟨.any,[(o,.arr x t sz ver n (s8 f i (BO sz (fun _=>f i) off cs)))],[],none⟩else .fail
   | _=>.fail
  | _=>.fail
 else .fail
def vr(ti:TI)(i:Nat):Option (Nat×Nat):=match ti.k with|.struct fs=>fs[i]? | _=>none
def BQ(ti:TI)(p:AV)(i:Nat):M Eff:=
 match vr ti i with
 | some (o,_)=>match p with
  | .ptr b off=>val (.ptr b (off+o))
  | .dm fr sz n f ix off=>val (.dm fr sz n f ix (off+o))
  | .ci b sz ver n ix off=>val (.ci b sz ver n ix (off+o))
  | _=>.fail
 | none=>.fail
def BR(T:List (Nat×TI))(ti:TI)(x i:AV):M Eff:=
 match i with
 | .int _ i=>match ti.k,x with
  | .slice e,.slc fr sz n f=>.cond (fun _=>0<=i ()∧i ()<(n ():Int)) (tl T e fun te=>if te.size==sz then val (.dm fr sz n f (fun _=>(i ()).toNat) 0)else .fail)
  | .slice e,.aJ o ver n=>.cond (fun _=>0<=i ()∧i ()<(n ():Int)) (tl T e fun te=>val (.ci o te.size ver n (fun _=>(i ()).toNat) 0))
  | .slice e,.bG o n=>match i ()with
   | .ofNat j=>if j<n then tl T e fun te=>val (.ptr o (j*te.size))else .fail
   | _=>.fail
  | .array n e,.ptr o off=>match i ()with
   | .ofNat j=>if j<n then tl T e fun te=>val (.ptr o (off+j*te.size))else .fail
   | _=>.fail
  | _,_=>.fail
 | _=>.fail
def yg(cs:List AV)(n:Nat):Int:=match cs.getD n .any with|.int _ f=>f ()|_=>0
def yh(cs:List AV)(n:Nat):Bool:=match cs.getD n .any with|.bool f=>f ()|_=>false
def vu(cs:List AV)(n:Nat):ByteArray:=match cs.getD n .any with|.str f=>f ()|_=>⟨#[]⟩
def yi(k:IntKind):List AV->Bool
 | []=>true
 | .int k' _::r=>k==k'&&yi k r
 | _=>false
def yj:List AV->Bool
 | []=>true
 | .bool _::r=>yj r
 | _=>false
def yk:List AV->Bool
 | []=>true
 | .str _::r=>yk r
 | _=>false
def iM(cs:List AV)(i:Unit->Int):AV:=
 match cs with
 | .int k _::_=>if yi k cs then .int k (fun _=>yg cs (i ()).toNat)else .any
 | .bool _::_=>if yj cs then .bool (fun _=>yh cs (i ()).toNat)else .any
 | .str _::_=>if yk cs then .str (fun _=>vu cs (i ()).toNat)else .any
 | _=>.any
def column(cs:List AV)(sz j:Nat):Nat->List AV
 | 0=>[]
 | n+1=>column cs sz j n++[cs.getD (n*sz+j) .any]
def pu(cs:List AV)(sz n:Nat)(i:Unit->Int)(js:List Nat):List AV:=js.map fun j=>iM (column cs sz j n) i
def BS(T:List (Nat×TI))(ti:TI)(x i:AV):M Eff:=
 match i with
 | .int _ i=>match ti.k,x with
  | .str,.str s=>.cond (fun _=>0<=i ()∧i ()<((s ()).size:Int)) (val (.int .u8 (fun _=>(((s ()).data[(i ()).toNat]?).getD 0).toNat)))
  | .array n e,.agg cs=>tl T e fun te=>match te.k with
   | .func=>match i ()with
    | .ofNat j=>if j<n then(if j*te.size+te.size<=cs.length then val (nV te cs (j*te.size))else .fail)else .fail
    | _=>.fail
   | .map _ _=>match i ()with
    | .ofNat j=>if j<n then(if j*te.size+te.size<=cs.length then val (nV te cs (j*te.size))else .fail)else .fail
    | _=>.fail
   | _=>if n*te.size<=cs.length then .cond (fun _=>0<=i ()∧i ()<(n:Int)) (val (if te.agg then .agg (pu cs te.size n i (List.range te.size))else iM (column cs te.size 0 n) i))else .fail
  | .array n e,.gJ m ks f=>if n=m then tl T e fun te=>match te.k with
   | .map _ _=>.cond (fun _=>0<=i ()∧i ()<(n:Int)) (val (.di (fun _=>ks fun _=>(i ()).toNat) (f fun _=>(i ()).toNat)))
   | _=>.fail
   else .fail
  | _,_=>.fail
 | _=>.fail
def BT(ti:TI)(v:AV):M Eff:=
 match ti.k,v with
 | .str,.str s=>val (.int .i64 (fun _=>(s ()).size))
 | .slice _,.slc _ _ n _=>val (.int .i64 (fun _=>n ()))
 | .slice _,.aJ _ _ n=>val (.int .i64 (fun _=>n ()))
 | .slice _,.nil=>val (.int .i64 (fun _=>0))
 | .slice _,.bG _ n=>val (.int .i64 (fun _=>n))
 | _,_=>.fail
def Gt:AV->Option (Unit->Nat)
 | .slc _ _ n _=>some n
 | .aJ _ _ n=>some n
 | .nil=>some fun _=>0
 | _=>none
def BU(ti:TI)(op:BinOp):AV->AV->M Eff
 | .int k a,.int k' b=>
  match op with
  | .shl=>.cond (fun _=>0<=b ()) (val (.int k (fun _=>k.wrap (a ()*2^(min (b ()).toNat k.bits)))))
  | .shr=>.cond (fun _=>0<=b ()) (val (.int k (fun _=>(a ()).fdiv (2^(min (b ()).toNat k.bits)))))
  | _=>
  if k=k' then
   match op with
   | .add=>val (.int k (fun _=>k.wrap (a ()+b ())))
   | .sub=>val (.int k (fun _=>k.wrap (a ()-b ())))
   | .mul=>val (.int k (fun _=>k.wrap (a ()*b ())))
   | .quo=>.cond (fun _=>b ()≠0) (val (.int k (fun _=>k.wrap ((a ()).tdiv (b ())))))
   | .rem=>.cond (fun _=>b ()≠0) (val (.int k (fun _=>(a ()).tmod (b ()))))
   | .and=>val (.int k (fun _=>k.wrap (BitVec.ofInt k.bits (a ()) &&& BitVec.ofInt k.bits (b ())).toNat))
   | .or=>val (.int k (fun _=>k.wrap (BitVec.ofInt k.bits (a ()) ||| BitVec.ofInt k.bits (b ())).toNat))
   | .xor=>val (.int k (fun _=>k.wrap (BitVec.ofInt k.bits (a ()) ^^^ BitVec.ofInt k.bits (b ())).toNat))
   | .eql=>val (.bool (fun _=>a ()==b ()))
   | .neq=>val (.bool (fun _=>a () != b ()))
   | .lss=>val (.bool (fun _=>decide (a ()<b ())))
   | .leq=>val (.bool (fun _=>decide (a ()<=b ())))
   | .gtr=>val (.bool (fun _=>decide (b ()<a ())))
   | .geq=>val (.bool (fun _=>decide (b ()<=a ())))
   | _=>.fail
  else .fail
 | .str a,.str b=>
  match op with
  | .eql=>val (.bool (fun _=>decide (a ()=b ())))
  | .neq=>val (.bool (fun _=>!decide (a ()=b ())))
  | .lss=>val (.bool (fun _=>Op.bytesLess (a ()).toList (b ()).toList))
  | .gtr=>val (.bool (fun _=>!(Op.bytesLess (a ()).toList (b ()).toList||(a ()).toList==(b ()).toList)))
  | .leq=>val (.bool (fun _=>Op.bytesLess (a ()).toList (b ()).toList||(a ()).toList==(b ()).toList))
  | .geq=>val (.bool (fun _=>!Op.bytesLess (a ()).toList (b ()).toList))
  | .add=>.cond (fun _=>(a ()).size+(b ()).size<=9223372036854775807) (val (.str (fun _=>a ()++b ())))
  | _=>.fail
 | .bool a,.bool b=>
  match ti.k,op with
  | .bool,.eql=>val (.bool (fun _=>a ()==b ()))
  | .bool,.neq=>val (.bool (fun _=>a () != b ()))
  | _,_=>.fail
 | .ptr _ _,.cN=>
  match ti.k,op with
  | .ptr _,.eql=>val (.bool (fun _=>false))
  | .ptr _,.neq=>val (.bool (fun _=>true))
  | _,_=>.fail
 | x,.nil=>match Gt x with
  | some n=>match ti.k,op with
   | .slice _,.eql=>val (.fd (fun _=>n ()=0) (fun _=>True))
   | .slice _,.neq=>val (.fd (fun _=>True) (fun _=>n ()=0))
   | _,_=>.fail
  | none=>.fail
 | _,_=>.fail
def BV(tu tv:TI)(op:BinOp):List AV->List AV->M Eff
 | [.int k a,.str s],[.int k' b,.str s']=>
  match tu.k,tv.k with
  | .int _,.str=>
   if k=k' then
    match op with
    | .eql=>val (.bool (fun _=>a ()==b ()&&decide (s ()=s' ())))
    | .neq=>val (.bool (fun _=>!(a ()==b ()&&decide (s ()=s' ()))))
    | _=>.fail
   else .fail
  | _,_=>.fail
 | _,_=>.fail
def BW(T:List (Nat×TI))(ti:TI)(op:BinOp):AV->AV->M Eff
 | .agg xs,.agg ys=>match ti.k with
  | .struct [(0,u),(1,v)]=>tl T u fun tu=>tl T v fun tv=>BV tu tv op xs ys
  | _=>.fail
 | x,y=>BU ti op x y
def s9:Operand->Bool
 | .const .nilIface=>true
 | _=>false
def BX(T:List (Nat×TI))(ti:TI)(op:BinOp):Bool->AV->AV->M Eff
 | true,.bz n,_=>match ti.k,op with
  | .iface,.eql=>val (.bool n)
  | .iface,.neq=>val (.bool fun _=>!n ())
  | _,_=>.fail
 | _,x,y=>BW T ti op x y
def BY(op:UnOp):AV->M Eff
 | .bool a=>match op with|.not=>val (.bool (fun _=>!a ()))|_=>.fail
 | .int k a=>match op with|.neg=>val (.int k (fun _=>k.wrap (0-a ())))|_=>.fail
 | _=>.fail
def BZ:AV->AV->AV->M Eff
 | .bool c,a,b=>
  (match a with|.may g v=>M.cond (fun _=>c ()=true->g ()=true) (.ret v)|v=>.ret v).bind fun a=>
  (match b with|.may g v=>M.cond (fun _=>c ()=false->g ()=true) (.ret v)|v=>.ret v).bind fun b=>
  match a,b with
  | .bool x,.bool y=>val (.bool (fun _=>if c ()=true then x ()else y ()))
  | _,_=>.fail
 | _,_,_=>.fail
def m6(fs:List (Nat×Nat))(T:List (Nat×TI)):List AV->List (Nat×AV)->Option (List AV)
 | cs,[]=>some cs
 | cs,(i,v)::r=>match fs[i]? with
  | some (off,t)=>if(aO T t).real&&v.cells.length==(aO T t).size&&off+v.cells.length<=cs.length then m6 fs T (splice cs off v.cells) r else none
  | none=>none
def py:List (Nat×Operand)->List AV->List (Nat×AV)
 | (i,_)::r,v::vs=>(i,v)::py r vs
 | _,_=>[]
def Gu(ps:List (Nat×AV)):Bool:=ps.all fun p=>p.2.cells.all AV.cell
def B0(T:List (Nat×TI))(ti:TI)(parts:List (Nat×AV)):M Eff:=
 if Gu parts then
  match ti.k with
  | .struct fs=>match m6 fs T ti.zero parts with
   | some cs=>val (.agg cs)
   | none=>.fail
  | .array n e=>match m6 ((List.range n).map fun i=>(i*(aO T e).size,e)) T ti.zero parts with
   | some cs=>if(aO T e).real then val (.agg cs)else .fail
   | none=>.fail
  | _=>.fail
 else .fail
def chunks(sz:Nat):Nat->List AV->List (List AV)
 | 0,_=>[]
 | n+1,cs=>cs.take sz::chunks sz n (cs.drop sz)
def dY(l:List (List AV)):(Unit->Nat)->List AV:=fun i=>l.getD (i ()) []
def pz(n:Nat)(z:List AV):List AV:=match n with|0=>[]|n+1=>z++pz n z
def pA(cs:List AV)(sz len:Nat):(Unit->Nat)->List AV:=fun i=>pu cs sz len (fun _=>(i ():Int)) (List.range sz)
def B3(T:List (Nat×TI))(ti:TI)(len:Nat)(parts:List (Nat×AV))(d:Nat)(dat:Option Bool):M Eff:=
 match ti.k with
 | .slice e=>
  let te:=aO T e
  match m6 ((List.range len).map fun i=>(i*te.size,e)) T (pz len te.zero) parts with
  | some cs=>if Gu parts&&cs.all AV.cell&&te.real&&0<te.size&&len*te.size<=16777216 then
   (if AV.bx cs then(match dat with
     | some false=>val (.slc .any te.size (fun _=>len) (dY (chunks te.size len cs)))
     | some true=>if(pA cs te.size len fun _=>0).all AV.cell then val (.slc .any te.size (fun _=>len) (pA cs te.size len))else .fail
     | none=>.ret ⟨.aJ d 0 (fun _=>len),[(d,.arr false e te.size 0 (fun _=>len) (dY (chunks te.size len cs)))],[d],none⟩)
    else if AV.nL d cs then .ret ⟨.bG d len,[(d,.box cs)],[d],none⟩else .fail)else .fail
  | none=>.fail
 | _=>.fail
def dO(n:Unit->Nat)(f g:(Unit->Nat)->List AV):(Unit->Nat)->List AV:=
 fun j=>if j ()<n ()then f j else g (fun _=>j ()-n ())
def ta(sz:Nat)(v:AV)(k:(Unit->Nat)->((Unit->Nat)->List AV)->M Eff):M Eff:=
 match v with
 | .nil=>k (fun _=>0) (fun _=>[])
 | .slc _ sz' n f=>if sz=sz' then k n f else .fail
 | .aJ o ver n=>.obj o fun
  | .arr _ _ sz' aM _ f=>if sz==sz'&&ver==aM then k n f else .fail
  | _=>.fail
 | .str s=>if sz=1 then k (fun _=>(s ()).size) (fun i=>[.int .u8 (fun _=>(((s ()).data[i ()]?).getD 0).toNat)])else .fail
 | _=>.fail
def       yl (T:List (Nat×TI)) (ti:TI) (d:Nat) (base src:AV):M Eff:=
 match ti.k with
 | .slice e=>
  let te:=aO T e
  if te.real&&0<te.size then
   ta te.size src fun m g=>
    match base with
    | .nil=>.cond (fun _=>m ()*te.bytes<=35184372088832∧m ()<=35184372088832) (.ret ⟨.aJ d 0 m,[(d,.arr false e te.size 0 m g)],[d],none⟩)
    | .aJ o ver n=>.obj o fun
     | .arr x t sz aM _ f=>if sz==te.size&&t==e&&ver==aM then
      .cond (fun _=>(n ()+m ())*te.bytes<=35184372088832∧n ()+m ()<=35184372088832)
       (.ret ⟨.aJ o (ver+1) (fun _=>n ()+m ()),[(o,.arr x t sz (ver+1) (fun _=>n ()+m ()) (dO n f g))],[],none⟩)else .fail
     | _=>.fail
    | _=>.fail
  else .fail
 | _=>.fail
def pB(d:Unit->Int):Option AV->Option (Unit->Int)
 | none=>some d
 | some (.int _ i)=>some i
 | some _=>none
def B4(T:List (Nat×TI))(ti:TI)(x:AV)(lo hi:Option AV):M Eff:=
 match ti.k,x with
 | .str,.str s=>match pB (fun _=>0) lo,pB (fun _=>((s ()).size:Int)) hi with
  | some l,some h=>.cond (fun _=>0<=l ()∧l ()<=h ()∧h ()<=((s ()).size:Int)) (val (.str (fun _=>(s ()).extract (l ()).toNat (h ()).toNat)))
  | _,_=>.fail
 | .slice e,.slc fr sz n f=>match pB (fun _=>0) lo,pB (fun _=>(n ():Int)) hi with
  | some l,some h=>.cond (fun _=>0<=l ()∧l ()<=h ()∧h ()<=(n ():Int)) (tl T e fun te=>if te.size==sz then val (.slc fr sz (fun _=>(h ()).toNat-(l ()).toNat) (fun j=>f (fun _=>(l ()).toNat+j ())))else .fail)
  | _,_=>.fail
 | .slice e,.aJ o ver n=>match lo with
  | some _=>.fail
  | none=>.obj o fun ob=>match ob with
   | .arr x t sz aM _ f=>match pB (fun _=>(n ():Int)) hi with
    | some h=>if ver==aM then .cond (fun _=>0<=h ()∧h ()<=(n ():Int))
     (tl T e fun te=>if !(te.size==sz)then .fail else .ret ⟨.aJ o (ver+1) (fun _=>(h ()).toNat),[(o,.arr x t sz (ver+1) (fun _=>(h ()).toNat) f)],[],none⟩)else .fail
    | none=>.fail
   | _=>.fail
 | _,_=>.fail
def B5:List AV->UInt8
 | [.int .u8 x]=>UInt8.ofNat (x ()).toNat
 | _=>0
def isByte:List AV->Bool
 | [.int .u8 _]=>true
 | _=>false
def tc(n:Unit->Nat)(f:(Unit->Nat)->List AV):ByteArray:=⟨((List.range (n ())).map fun i=>B5 (f (fun _=>i))).toArray⟩
def B6(T:List (Nat×TI))(si ti:TI)(x:AV):M Eff:=
 match si.k,ti.k,x with
 | .int _,.int k,.int _ n=>val (.int k (fun _=>k.wrap (n ())))
 | .str,.str,.str s=>val (.str s)
 | .str,.slice e,.str s=>if !((aO T e).real)then .fail else match(aO T e).k with
  | .int .u8=>.cond (fun _=>(s ()).size<=35184372088832) (val (.slc .any 1 (fun _=>(s ()).size) (fun i=>[.int .u8 (fun _=>(((s ()).data[i ()]?).getD 0).toNat)])))
  | _=>.fail
 | .slice e,.str,x=>if !((aO T e).real)then .fail else match(aO T e).k with
  | .int .u8=>match x with
   | .str _=>.fail
   | x=>ta 1 x fun n f=>.cond (fun _=>∀i,i<n ()->isByte (f fun _=>i)=true) (val (.str (fun _=>tc n f)))
  | _=>.fail
 | _,_,_=>.fail
def ym:List (Nat×AV)->Nat->Option AV
 | [],_=>none
 | (j,v)::r,i=>match Nat.beq i j with|true=>some v|false=>ym r i
def yn(T:List (Nat×TI))(ti:TI)(x i:AV):M Eff:=
 match ti.k,x,i with
 | .map k _,.fmap es,.int .i64 i=>match i ()with
  | .ofNat j=>tl T k fun tk=>match tk.k with
   | .int .i64=>match ym es j with
    | some v=>val v
    | none=>.fail
   | _=>.fail
  | _=>.fail
 | _,_,_=>.fail
def eO(ks:List ByteArray)(s:ByteArray):Nat:=ks.findIdx fun k=>decide (k=s)
def bI(ks:List ByteArray)(s:ByteArray):Bool:=ks.any fun k=>decide (k=s)
def vv(g:Unit->Bool):AV->AV->AV
 | .int k a,.int k' z=>if k=k' then .int k (fun _=>if g ()=true then a ()else z ())else .any
 | .bool a,.bool z=>.bool (fun _=>if g ()=true then a ()else z ())
 | .str a,.str z=>.str (fun _=>if g ()=true then a ()else z ())
 | _,_=>.any
def nW(g:Unit->Bool):List AV->List AV->List AV
 | a::r,z::s=>vv g a z::nW g r s
 | _,_=>[]
def B7(agg:Bool)(g:Unit->Bool)(a:AV)(zs:List AV):AV:=
 match agg,a with
 | true,.agg xs=>if xs.length=zs.length then .agg (nW g xs zs)else .any
 | false,.agg _=>.any
 | false,a=>match zs with
  | [z]=>vv g a z
  | _=>.any
 | _,_=>.any
def B8(T:List (Nat×TI))(ti:TI)(x i:AV)(ok:Bool):M Eff:=
 match ti.k,x,i with
 | .map k e,.di ks f,.str s=>tl T k fun tk=>match tk.k with
  | .str=>tl T e fun te=>
   let g:=fun _=>bI (ks ()) (s ())
   let v:=B7 te.agg g (f (fun _=>eO (ks ()) (s ()))) te.zero
   val (if ok then .ag [v,.bool g]else v)
  | _=>.fail
 | _,_,_=>.fail
def Gv(T:List (Nat×TI))(ti:TI)(x i:AV)(ok:Bool):M Eff:=
 match x with
 | .di ks f=>B8 T ti (.di ks f) i ok
 | x=>if ok then .fail else yn T ti x i
def B9(T:List (Nat×TI))(ti:TI)(d:Nat)(l c:AV):M Eff:=
 match ti.k,l,c with
 | .slice e,.int _ l,.int _ c=>
  let te:=aO T e
  if te.real&&0<te.size then
   .cond (fun _=>l ()=0∧0<=c ()∧c ()*te.bytes<=35184372088832∧c ()<=35184372088832) (.ret ⟨.aJ d 0 (fun _=>0),[(d,.arr false e te.size 0 (fun _=>0) (fun _=>[]))],[d],none⟩)
  else .fail
 | _,_,_=>.fail
def yp(mx:Bool):List AV->M Eff
 | [.int k a,.int k' b]=>if k=k' then val (.int k (fun _=>if mx then(if a ()<b ()then b ()else a ())else(if b ()<a ()then b ()else a ())))else .fail
 | _=>.fail
def kE(d:Nat):Bool:=(decide (1000<=d)&&decide (d<10000))||decide (1000000000<=d)
def jK(a:Nat):Nat:=1000000000+1000*a
def aU(base:Nat):Nat->List AV->List AV×List (Nat×Nat×Nat)
 | _,[]=>([],[])
 | j,.ptr o off::r=>
  let (vs,ids):=aU base (j+1) r
  if off=0 then(.ptr (base+j) 0::vs,(base+j,o,0)::ids)else(.any::vs,ids)
 | j,.aJ o ver n::r=>
  let (vs,ids):=aU base (j+1) r
  (.aJ (base+j) 0 n::vs,(base+j,o,ver)::ids)
 | j,.bG o n::r=>
  let (vs,ids):=aU base (j+1) r
  (.bG (base+j) n::vs,(base+j,o,0)::ids)
 | j,.a8 fn o::r=>
  let (vs,ids):=aU base (j+1) r
  (.a8 fn (base+j)::vs,(base+j,o,0)::ids)
 | j,.func fn caps::r=>
  let (vs,ids):=aU base (j+1) r
  let (cs,Cb):=aU (jK (base+j)) 0 caps
  (.func fn cs::vs,Cb++ids)
 | j,.ci .. :: r=>
  let (vs,ids):=aU base (j+1) r
  (.any::vs,ids)
 | j,.agg cs::r=>
  let (vs,ids):=aU base (j+1) r
  let (cs',Cb):=aU (jK (base+j)) 0 cs
  (.agg cs'::vs,Cb++ids)
 | j,v::r=>
  let (vs,ids):=aU base (j+1) r
  ((if v.pure then v else .any)::vs,ids)
def lw(ids:List (Nat×Nat×Nat))(d k:Nat):Nat×Nat:=
 match ids with
 | []=>(10000*(d+1)+k,0)
 | (a,b)::r=>if a=k then b else lw r d k
def bb(r:Nat->Nat×Nat):List AV->List AV
 | []=>[]
 | .ptr o off::l=>.ptr (r o).1 off::bb r l
 | .ci o sz ver n i off::l=>.ci (r o).1 sz ((r o).2+ver) n i off::bb r l
 | .aJ o ver n::l=>.aJ (r o).1 ((r o).2+ver) n::bb r l
 | .bG o n::l=>.bG (r o).1 n::bb r l
 | .a8 fn o::l=>.a8 fn (r o).1::bb r l
 | .agg cs::l=>.agg (bb r cs)::bb r l
 | .ag cs::l=>.ag (bb r cs)::bb r l
 | .func fn cs::l=>.func fn (bb r cs)::bb r l
 | .may g v::l=>.may g ((bb r [v]).headD .any)::bb r l
 | v::l=>v::bb r l
def tg(r:Nat->Nat×Nat)(k:Nat):AO->AO
 | .none=>.none
 | .box cs=>.box (bb r cs)
 | .arr x t sz ver n f=>.arr x t sz ((r k).2+ver) n f
 | .it ks f seen pend=>.it ks f seen pend
abbrev cL:=List (Nat×AV×List (Nat×AO))
def yq:cL->Nat->Option (AV×List (Nat×AO))
 | [],_=>none
 | (i,r)::l,j=>if i=j then some r else yq l j
def qQ:List (Nat×Nat×Nat)->Nat->Nat->Option Nat
 | [],_,_=>none
 | (a,b,v)::r,o,ver=>if b=o∧v=ver then some a else qQ r o ver
def sameAs(kn:List (Nat×Nat×Nat)):List (Nat×Nat×Nat)->List (Nat×Nat)
 | []=>[]
 | (k,o,ver)::r=>match qQ kn o ver with
  | some a=>(k,a)::sameAs kn r
  | none=>sameAs ((k,o,ver)::kn) r
def tj(kn:List (Nat×Nat×Nat)):List (Nat×Nat×Nat)->List (Nat×Nat×Nat)
 | []=>[]
 | (k,o,ver)::r=>match qQ kn o ver with
  | some _=>tj kn r
  | none=>(k,o,ver)::tj ((k,o,ver)::kn) r
def nameOf:List (Nat×Nat)->Nat->Nat
 | [],k=>k
 | (i,a)::r,k=>if i=k then a else nameOf r k
def pC(kn:List (Nat×Nat×Nat))(m:List (Nat×Nat)):List (Nat×Nat×Nat)->Bool
 | []=>true
 | (k,o,ver)::r=>match qQ kn o ver with|some a=>(nameOf m k==a)&&pC kn m r|none=>(nameOf m k==k)&&pC ((k,o,ver)::kn) m r
def pD(m:List (Nat×Nat))(cs:List AV):List AV:=match m with
 | []=>cs
 | m=>bb (fun k=>(nameOf m k,0)) cs
def yr:Nat->List (Nat×Nat×Nat)->List (Nat×Nat×Nat)->(List (Nat×Nat×Nat)->List (Nat×AO)->M Eff)->M Eff
 | _,_,[],k=>k [] []
 | 0,_,_,_=>.fail
 | n+1,dn,(a,b,ver)::r,k=>.obj b fun o=>match o with
  | .none=>.fail
  | .it ..=>.fail
  | .box cs=>
   let p:=aU (jK a) 0 cs
   let kn:=(a,b,0)::(dn++r)
   if !(pC kn (sameAs kn p.2) p.2)then .fail else
   yr n ((a,b,0)::dn) (r++tj kn p.2) fun l objs=>k ((a,b,0)::l) ((a,.box (pD (sameAs kn p.2) p.1))::objs)
  | .arr x t sz aM n' f=>if ver==aM then yr n ((a,b,ver)::dn) r fun l objs=>k ((a,b,ver)::l) ((a,.arr x t sz 0 n' f)::objs)else .fail
def nodupB:List Nat->Bool
 | []=>true
 | a::r=>!r.contains a&&nodupB r
def AV.rI(ks:List Nat):List AV->Bool
 | []=>true
 | .ptr o _::r=>ks.contains o&&AV.rI ks r
 | .ci o _ _ _ _ _::r=>ks.contains o&&AV.rI ks r
 | .aJ o _ _::r=>ks.contains o&&AV.rI ks r
 | .bG o _::r=>ks.contains o&&AV.rI ks r
 | .a8 _ o::r=>ks.contains o&&AV.rI ks r
 | .agg cs::r=>AV.rI ks cs&&AV.rI ks r
 | .ag cs::r=>AV.rI ks cs&&AV.rI ks r
 | .func _ cs::r=>AV.rI ks cs&&AV.rI ks r
 | .may _ v::r=>AV.rI ks [v]&&AV.rI ks r
 | _::r=>AV.rI ks r
def AO.rI(ks:List Nat):AO->Bool
 | .box cs=>AV.rI ks cs
 | _=>true
def Gw(ids:List (Nat×Nat×Nat))(au:List (Nat×AO))(res:AV)(d:Nat):Bool:=
 let ks:=au.map (·.1)
 nodupB (ids.map (·.2.1))&&nodupB (ids.map (·.1))&&nodupB ks&&nodupB (ks.map fun k=>(lw ids d k).1)&&(ids.all fun p=>ks.contains p.1) &&
  AV.rI ks [res]&&au.all fun p=>p.2.rI ks
def yt(ids:List (Nat×Nat×Nat))(ks:List Nat):List Nat:=ks.filter fun k=>!(ids.any fun p=>p.1==k)
def vx(aw:cL)(i d:Nat)(fv:AV)(args:List AV):M Eff:=
 match fv,yq aw i with
 | .func f caps,some (res,au)=>
  let p:=aU 1000 0 (args++caps)
  if !(pC [] (sameAs [] p.2) p.2)then .fail else
  yr 20 [] (tj [] p.2) fun ids objs=>
   if Gw ids au res d then
    .ret ⟨(bb (lw ids d) [res]).headD .any,au.map fun p=>((lw ids d p.1).1,tg (lw ids d) p.1 p.2),(yt ids (au.map (·.1))).map fun k=>(lw ids d k).1,some ⟨f,pD (sameAs [] p.2) p.1,objs,res,au⟩⟩
   else .fail
 | _,_=>.fail
def Gx(aw:cL)(i d:Nat)(fv:AV)(args:List AV):M Eff:=
 match fv with
 | .a8 f o=>vx aw i d (.func f []) (.ptr o 0::args)
 | fv=>vx aw i d fv args
def Cc(ti:TI)(v:AV)(dst:Option Nat):M Eff:=
 match dst with
 | some d=>match ti.k with
  | .map _ _=>match v with
   | .di ks f=>.ret ⟨.ptr d 0,[(d,.it ks f (fun _=>[]) false)],[d],none⟩
   | .dz=>.ret ⟨.ptr d 0,[(d,.it (fun _=>[]) (fun _=>.any) (fun _=>[]) false)],[d],none⟩
   | _=>.fail
  | _=>.fail
 | none=>.fail
def Cd(p:AV)(isString:Bool):M Eff:=
 match isString with
 | true=>.fail
 | false=>match p with
  | .ptr ob 0=>.obj ob fun x=>match x with
   | .it ks f seen false=>.ret ⟨.gw (fun _=>∃i,i<(ks ()).length∧i∉seen ()) (fun _=>∀i,i<(ks ()).length->i∈seen ()),[(ob,.it ks f seen true)],[],none⟩
   | _=>.fail
  | _=>.fail
def Ce(p:AV):M Eff:=
 match p with
 | .ptr ob 0=>.obj ob fun x=>match x with
  | .it ks f seen false=>.cond (fun _=>(seen ()).getLastD (ks ()).length<(ks ()).length) (val (.ag [.str fun _=>(ks ()).getD ((seen ()).getLastD 0) ⟨#[]⟩,f fun _=>(seen ()).getLastD 0]))
  | _=>.fail
 | _=>.fail
def pE(T:List (Nat×TI))(aw:cL)(i:Nat)(g:Option (Unit->Bool))(o:Oper):M Eff:=
 let d:=o.dst.getD 0
 match o.op with
 | .move x|.assign x=>(dj g x).bind val
 | .pick c a b=>(dj g c).bind fun c=>(dj none a).bind fun a=>(dj none b).bind fun b=>BZ c a b
 | .alloc t=>tl T t fun ti=>match o.dst with|some _=>.ret ⟨.ptr d 0,[(d,.box (pt t ti.zero))],[d],none⟩|none=>.fail
 | .box t x=>tl T t fun _=>(dj g x).bind fun v=>match o.dst with
  | some _=>if v.cells.all AV.cell then(match yq aw i with
   | some _=>if AV.bx v.cells&&decide (0<v.cells.length)then val (.dm .any v.cells.length (fun _=>1) (fun _=>v.cells) (fun _=>0) 0)else .fail
   | none=>.ret ⟨.ptr d 0,[(d,.box v.cells)],[d],none⟩)else .fail
  | none=>.fail
 | .build t ps=>tl T t fun ti=>(nU g (ps.toList.map (·.2))).bind fun vs=>B0 T ti (py ps.toList vs)
 | .buildSlice t n ps=>tl T t fun ti=>(nU g (ps.toList.map (·.2))).bind fun vs=>B3 T ti n (py ps.toList vs) d (match yq aw i with|some (.bt,_)=>some true|some _=>some false|none=>none)
 | .load t a=>tl T t fun ti=>(dj g a).bind (vq ti)
 | .store t a x=>tl T t fun ti=>(dj g a).bind fun p=>(dj g x).bind fun v=>BP ti p v
 | .nilCheck x=>(dj g x).bind fun v=>match v with|.ptr ..|.dm ..|.func ..=>val v|_=>.fail
 | .binOp op t x y _=>(dj g x).bind fun a=>(dj g y).bind fun b=>tl T t fun ti=>BX T ti op (s9 y) a b
 | .unOp op _ x=>(dj g x).bind (BY op)
 | .convert s t x=>tl T s fun si=>tl T t fun ti=>(dj g x).bind (B6 T si ti)
 | .makeFunc fn first caps=>match fn,first with
  | .func f,⟨[]⟩=>(nU g caps.toList).bind fun cs=>if cs.all AV.cell then val (.func f cs)else .fail
  | .func f,⟨[x]⟩=>match caps with
   | ⟨[]⟩=>(dj g x).bind fun v=>match v with|.ptr o 0=>val (.a8 f o)|_=>.fail
   | _=>.fail
  | _,_=>.fail
 | .slice t x lo hi mx=>tl T t fun ti=>(dj g x).bind fun v=>
  (BN g lo).bind fun l=>(BN g hi).bind fun h=>match mx with|none=>B4 T ti v l h|some _=>.fail
 | .makeSlice t l c=>tl T t fun ti=>(dj g l).bind fun l=>(dj g c).bind fun c=>B9 T ti d l c
 | .lookup t x ix ok=>tl T t fun ti=>(dj g x).bind fun v=>(dj g ix).bind fun j=>Gv T ti v j ok
 | .fieldAddr t x i=>tl T t fun ti=>(dj g x).bind fun p=>BQ ti p i
 | .indexAddr t x ix=>tl T t fun ti=>(dj g x).bind fun v=>(dj g ix).bind fun j=>BR T ti v j
 | .index t x ix=>tl T t fun ti=>(dj g x).bind fun v=>(dj g ix).bind fun j=>BS T ti v j
 | .field t x i=>tl T t fun ti=>(dj g x).bind fun v=>match v,vr ti i with
  | .agg cs,some (off,ft)=>tl T ft fun fi=>if off+fi.size<=cs.length then val (nV fi cs off)else .fail
  | _,_=>.fail
 | .extract x k=>(dj g x).bind fun v=>match v with
  | .ag vs=>match vs[k]? with|some v=>val v|none=>.fail
  | .gw t f=>match k with|0=>val (.fd t f)|_=>.fail
  | _=>.fail
 | .range t x=>tl T t fun ti=>(dj g x).bind fun v=>Cc ti v o.dst
 | .next x isString=>(dj g x).bind fun p=>Cd p isString
 | .entry x=>(dj g x).bind Ce
 | .call c=>(nU g c.args.toList).bind fun vs=>match c.callee with
  | .value f=>(dj g f).bind fun fv=>Gx aw i d fv vs
  | .builtin .len=>match vs,c.argTypes.toList with|[v],t::_=>tl T t fun ti=>BT ti v|_,_=>.fail
  | .builtin .append=>match vs,c.argTypes.toList with|[b,x],[st,xt]=>if xt==st||(match(aO T xt).k with|.str=>true|_=>false)then tl T st fun ti=>yl T ti d b x else .fail|_,_=>.fail
  | .builtin .min=>yp false vs
  | .builtin .max=>yp true vs
  | _=>.fail
 | _=>.fail
def vy(g:Unit->Bool):AV->AV->Option AV
 | .int k a,.int k' z=>if k=k' then some (.int k (fun _=>if g ()=true then a ()else z ()))else none
 | .bool a,.bool z=>some (.bool (fun _=>if g ()=true then a ()else z ()))
 | .bz a,.bz z=>some (.bz (fun _=>if g ()=true then a ()else z ()))
 | .str a,.str z=>some (.str (fun _=>if g ()=true then a ()else z ()))
 | .ptr o k,.ptr o' k'=>match Nat.beq o o',Nat.beq k k' with|true,true=>some (.ptr o k)|_,_=>none
 | .slc .any sz n f,.slc .any sz' n' f'=>match Nat.beq sz sz' with|true=>some (.slc .any sz (fun _=>if g ()=true then n ()else n' ()) (fun i=>if g ()=true then f i else f' i))|false=>none
 | .nil,.nil=>some .nil
 | .bt,.bt=>some .bt
 | .cN,.cN=>some .cN
 | _,_=>none
def qR(g:Unit->Bool):List AV->List AV->Option (List AV)
 | [],[]=>some []
 | a::r,z::s=>match vy g a z,qR g r s with|some m,some l=>some (m::l)|_,_=>none
 | _,_=>none
def pG(g:Unit->Bool)(e:Eff):List (Nat×AO)->List (Nat×AO)->M Eff
 | [],acc=>.ret { e with dst:=.may g e.dst,wo:=acc }
 | (o,.box cs)::r,acc=>.obj o fun ob=>match ob with
  | .box zs=>match qR g cs zs with
   | some m=>pG g e r (acc++[(o,.box m)])
   | none=>.cond (fun _=>g ()=true) (.ret e)
  | _=>.cond (fun _=>g ()=true) (.ret e)
 | _,_=>.cond (fun _=>g ()=true) (.ret e)
def M.under(g:Unit->Bool):M Eff->M Eff
 | .ret e=>match e.wo,e.new with
  | [],_=>.ret { e with dst:=.may g e.dst }
  | wo,[]=>pG g e wo []
  | _,_=>.cond (fun _=>g ()=true) (.ret e)
 | .fail=>.fail
 | @M.cond _ c d k=>@M.cond _ (fun _=>g ()=true->c ()) (fun _=>haveI:=d ();inferInstanceAs (Decidable (g ()=true->c ()))) (k.under g)
 | .tmp t k=>.tmp t fun v=>(k v).under g
 | .obj o k=>.obj o fun v=>(k v).under g
def tn(T:List (Nat×TI))(aw:cL)(ops:Array Oper)(i:Nat)(o:Oper):M (Option (Unit->Bool)×Eff):=
 match o.guard with
 | none=>(pE T aw i none o).bind fun e=>.ret (none,e)
 | some (j,want)=>match(ops.toList[j]?).bind (·.dst)with
  | none=>.fail
  | some d=>.tmp d fun v=>match v with
   | .bool b=>((pE T aw i (some fun _=>b ()==want) o).under (fun _=>b ()==want)).bind fun e=>.ret (some (fun _=>b ()==want),e)
   | .may g' (.bool b)=>((pE T aw i (some fun _=>g' ()&&b ()==want) o).under (fun _=>g' ()&&b ()==want)).bind fun e=>.ret (some (fun _=>g' ()&&b ()==want),e)
   | _=>.fail
structure Log where
 rt:List Nat
 ro:List Nat
 wt:List (Nat×AV)
 wo:List (Nat×AO)
 new:List Nat
structure Run(α:Type) where
 a:α
 conds:List (Unit->Prop)
 rt:List Nat
 ro:List Nat
def M.run{α:Type}(S:AS):M α->Option (Run α)
 | .ret a=>some ⟨a,[],[],[]⟩
 | .fail=>none
 | @M.cond _ c _ k=>match k.run S with|some r=>some { r with conds:=c::r.conds }|none=>none
 | .tmp t k=>match(k (S.tmp t)).run S with|some r=>some { r with rt:=t::r.rt }|none=>none
 | .obj o k=>match(k (S.obj o)).run S with|some r=>some { r with ro:=o::r.ro }|none=>none
def gK(objs:List (Nat×AO)):List (Nat×AO)->List (Nat×AO)
 | []=>objs
 | (o,v)::r=>gK (oset objs o v) r
def AS.put(S:AS)(wt:List (Nat×AV))(wo:List (Nat×AO)):AS:=
 ⟨match wt with|[]=>S.tmps|(t,v)::_=>S.tmps.set t v,gK S.objs wo⟩
structure Out where
 S:AS
 conds:List (Unit->Prop)
 calls:List (Option (Unit->Bool)×bk)
 logs:List Log
def jL(o:Oper)(v:AV):List (Nat×AV):=match o.dst with|some d=>[(d,v)]|none=>[]
def lx(T:List (Nat×TI))(aw:cL)(ops:Array Oper):Nat->List Oper->AS->Option Out
 | _,[],S=>some ⟨S,[],[],[]⟩
 | i,o::rest,S=>
  match(tn T aw ops i o).run S with
  | none=>none
  | some ⟨(g,e),conds,rt,ro⟩=>
   match lx T aw ops (i+1) rest (S.put (jL o e.dst) e.wo)with
   | none=>none
   | some out=>some ⟨out.S,conds++out.conds,(match e.call with|some c=>[(g,c)]|none=>[])++out.calls,⟨rt,ro,jL o e.dst,e.wo,e.new⟩::out.logs⟩
def AO.bK(d:Nat):AO->Bool
 | .box cs=>AV.nL d cs
 | _=>true
def AS.bK(S:AS)(d:Nat):Bool:=(AV.nL d S.tmps&&S.objs.all fun(_,o)=>o.bK d)&&!kE d
def hits(a b:List Nat):Bool:=a.any fun x=>b.contains x
def Log.clash(a b:Log):Bool:=
 hits (a.wt.map (·.1)) (b.rt++b.wt.map (·.1))||hits a.rt (b.wt.map (·.1)) ||
 hits (a.wo.map (·.1)) (b.ro++b.wo.map (·.1))||hits a.ro (b.wo.map (·.1))
def Log.refers(l:Log)(d:Nat):Bool:=!(AV.nL d (l.wt.map (·.2))&&l.wo.all fun(_,o)=>o.bK d)
def bits(acc:List Nat):List Edge->Nat
 | []=>0
 | e::r=>if Region.binds .any e then bits acc r ||| (2^e.on ||| acc.getD e.on 0)else bits acc r
def gh:List Oper->List Nat->List Nat
 | [],acc=>acc
 | o::r,acc=>gh r (acc++[bits acc o.after.toList])
def m7:Nat->List Oper->Bool
 | _,[]=>true
 | i,o::r=>(o.after.toList.all fun e=>!Region.binds .any e||decide (e.on<i))&&m7 (i+1) r
def m8(S:AS)(kF:Nat->Nat->Bool)(logs:List Log):Bool:=
 logs.zipIdx.all fun(l,i)=>
  l.new.all (fun d=>S.bK d) &&
  logs.zipIdx.all fun(m,j)=>
   (!(kF i j)||decide (i<j)) &&
   (i==j||!(l.clash m)||kF i j||kF j i) &&
   (i==j||l.new.all fun d=>!(m.refers d)||kF i j)
def nX(S:AS):List Log->List Log->Bool
 | _,[]=>true
 | seen,l::r=>(l.new.all fun d=>S.bK d&&seen.all fun m=>!(m.refers d))&&nX S (l::seen) r
structure VC(ok:Bool)(conds:List (Unit->Prop))(calls:List (Option (Unit->Bool)×bk))(ob:Option (Unit->Bool)×bk->Prop)(K:Prop):Prop where
 ok:ok=true
 conds:∀c∈conds,c ()
 calls:∀c∈calls,ob c
 next:K
def pH(draw:Bool)(ops:List Oper):Nat->Nat->Bool:=
 if draw then let b:=gh ops [];fun i j=>(b.getD j 0).testBit i else fun i j=>decide (i<j)
def vA(ob:Option (Unit->Bool)×bk->Prop)(T:List (Nat×TI))(aw:cL)(draw:Bool)(ops:Array Oper)(S:AS)(K:AS->Prop):Prop:=
 match lx T aw ops 0 ops.toList S with
 | none=>False
 | some ⟨S',conds,calls,logs⟩=>VC (if draw then m8 S (pH true ops.toList) logs&&m7 0 ops.toList else nX S [] logs) conds calls ob (K S')
def Plain(w:World)(b:Nat):Prop:=∃vs ty,w.heap[b]? = some (.cells vs ty (0,0))
def FB.ok(w:World)(B b:Nat):FB->Prop
 | .any=>True
 | .new=>B<=b∧Plain w b
 | .sat p=>p b
 | .own p=>p b∧Plain w b
def FB.ok.mono{w w':World}{B B' b:Nat}{fr:FB}(h:fr.ok w B b)(hw:∀vs ty,w.heap[b]? = some (.cells vs ty (0,0))->w'.heap[b]? = some (.cells vs ty (0,0)))(hB:B'<=B):fr.ok w' B' b:=by
 cases fr with
 | any=>trivial
 | new=>obtain⟨h1,vs,ty,h2⟩:=h;exact⟨aG hB h1,vs,ty,hw _ _ h2⟩
 | sat p=>exact h
 | own p=>obtain⟨h1,vs,ty,h2⟩:=h;exact⟨h1,vs,ty,hw _ _ h2⟩
inductive RD(w:World)(D:Nat->Prop)(B:Nat):AV->Value->Prop
 | any (v:Value):RD w D B .any v
 | val (v:Value):RD w D B (.val v) v
 | int (k:IntKind) (n:Unit->Int):RD w D B (.int k n) (.int k (n ()))
 | bool (b:Unit->Bool):RD w D B (.bool b) (.bool (b ()))
 | str (s:Unit->ByteArray):RD w D B (.str s) (.string (s ()))
 | nil:RD w D B .nil (.slice none 0 0)
 | bt:RD w D B .bt .nilFunc
 | cN:RD w D B .cN (.pointer none)
 | bj (t:Nat):RD w D B (.bj t) (.pointer none)
 | dz:RD w D B .dz (.map none)
 | fd (t f:Unit->Prop) (b:Bool) (ht:b=true->t ()) (hf:b=false->f ()):RD w D B (.fd t f) (.bool b)
 | bz (n:Unit->Bool) (v:Value) (h:(n ()=true∧v=.nilIface)∨(n ()=false∧∃t p,v=.iface t p)):RD w D B (.bz n) v
 | empty (fr:FB) (sz:Nat) (n:Unit->Nat) (f:(Unit->Nat)->List AV) (p:Option Addr) (cap:Nat) (hn:n ()=0) (hc:cap<=maxLen):RD w D B (.slc fr sz n f) (.slice p 0 cap)
 | slc (fr:FB) (sz:Nat) (n:Unit->Nat) (f:(Unit->Nat)->List AV) (b o cap:Nat) (c:Nat->Value) (hn:n ()<=cap) (hc:cap<=maxLen) (hD:D b) (hB:fr.ok w B b)
  (hcell:∀k,k<n ()*sz->w.cell? ⟨b,o+k,none⟩=some (c k)) (hlen:∀i,i<n ()->(f fun _=>i).length=sz) (hone:∀i,i<n ()->(f fun _=>i).all AV.cell=true)
  (hel:∀(i j:Nat) (av:AV),i<n ()->(f fun _=>i)[j]? = some av->RD w D B av (c (i*sz+j))):RD w D B (.slc fr sz n f) (.slice (some ⟨b,o,none⟩) (n ()) cap)
 | agg (cs:List AV) (vs:Array Value) (hl:cs.length=vs.size) (h:∀(i:Nat) (av:AV) (v:Value),cs[i]? = some av->vs[i]? = some v->RD w D B av v):RD w D B (.agg cs) (.agg vs)
 | ag (cs:List AV) (vs:Array Value) (hl:cs.length=vs.size) (h:∀(i:Nat) (av:AV) (v:Value),cs[i]? = some av->vs[i]? = some v->RD w D B av v):RD w D B (.ag cs) (.tuple vs)
 | func (fn:FuncId) (cs:List AV) (vs:Array Value) (hl:cs.length=vs.size) (h:∀(i:Nat) (av:AV) (v:Value),cs[i]? = some av->vs[i]? = some v->RD w D B av v):RD w D B (.func fn cs) (.func (.func fn) #[] vs)
 | may (g:Unit->Bool) (av:AV) (v:Value) (h:g ()=true->RD w D B av v) (hu:g ()=false->v=undef):RD w D B (.may g av) v
 | dm (fr:FB) (sz:Nat) (n:Unit->Nat) (f:(Unit->Nat)->List AV) (i:Unit->Nat) (off b o cap:Nat) (hi:i ()<n ()) (h:RD w D B (.slc fr sz n f) (.slice (some ⟨b,o,none⟩) (n ()) cap)):
  RD w D B (.dm fr sz n f i off) (.pointer (some ⟨b,o+i ()*sz+off,none⟩))
 | fmap (es:List (Nat×AV)) (b clock:Nat) (ents:Array MapEntry) (hD:D b) (hb:w.heap[b]? = some (.map ents clock)) (hl:es.length=ents.size) (hk:∀(i k:Nat) (av:AV) (e:MapEntry),es[i]? = some (k,av)->ents[i]? = some e->e.key=.int .i64 k)
  (h:∀(i k:Nat) (av:AV) (e:MapEntry),es[i]? = some (k,av)->ents[i]? = some e->RD w D B av e.val):RD w D B (.fmap es) (.map (some b))
 | di (ks:Unit->List ByteArray) (f:(Unit->Nat)->AV) (b clock:Nat) (ents:Array MapEntry) (hD:D b) (hb:w.heap[b]? = some (.map ents clock)) (hl:(ks ()).length=ents.size) (hk:∀(i:Nat) (k:ByteArray) (e:MapEntry),(ks ())[i]? = some k->ents[i]? = some e->e.key=.string k)
  (hc:clock=ents.size∧∀(i:Nat) (e:MapEntry),ents[i]? = some e->e.born=i) (h:∀(i:Nat) (e:MapEntry),ents[i]? = some e->RD w D B (f fun _=>i) e.val):RD w D B (.di ks f) (.map (some b))
 | jM (ks:Unit->List ByteArray) (f:(Unit->Nat)->AV) (hz:ks ()=[]):RD w D B (.di ks f) (.map none)
 | gJ (n:Nat) (ks:(Unit->Nat)->List ByteArray) (f:(Unit->Nat)->(Unit->Nat)->AV) (vs:Array Value) (hl:vs.size=n) (h:∀(i:Nat) (v:Value),vs[i]? = some v->RD w D B (.di (fun _=>ks fun _=>i) (f fun _=>i)) v):RD w D B (.gJ n ks f) (.agg vs)
 | gw (t f:Unit->Prop) (b:Bool) (vs:Array Value) (hb:vs[0]? = some (.bool b)) (ht:b=true->t ()) (hf:b=false->f ()):RD w D B (.gw t f) (.tuple vs)
def RD.mono{w w':World}{D D':Nat->Prop}{B B':Nat}(hw:∀b,D b->w'.heap[b]? = w.heap[b]?)(hD:∀b,D b->D' b)(hB:B'<=B){av:AV}{v:Value}(h:RD w D B av v):RD w' D' B' av v:=by
 induction h with
 | any v=>exact .any v
 | val v=>exact .val v
 | int k n=>exact .int k n
 | bool b=>exact .bool b
 | str s=>exact .str s
 | nil=>exact .nil
 | bt=>exact .bt
 | cN=>exact .cN
 | bj t=>exact .bj t
 | dz=>exact .dz
 | fd t f b ht hf=>exact .fd t f b ht hf
 | bz n v h=>exact .bz n v h
 | empty fr sz n f p cap hn hc=>exact .empty fr sz n f p cap hn hc
 | slc fr sz n f b o cap c hn hc eD hBb hcell hlen hone _ ih=>
  exact .slc fr sz n f b o cap c hn hc (hD _ eD) (hBb.mono (fun _ _ q=>(hw b eD).trans q) hB) (fun k hk=>by rw[World.cell?_of_block (w:=w) (hw b eD)];exact hcell k hk) hlen hone ih
 | agg cs vs hl _ ih=>exact .agg cs vs hl ih
 | ag cs vs hl _ ih=>exact .ag cs vs hl ih
 | func fn cs vs hl _ ih=>exact .func fn cs vs hl ih
 | may g av v _ hu ih=>exact .may g av v ih hu
 | dm fr sz n f i off b o cap hi _ ih=>exact .dm fr sz n f i off b o cap hi ih
 | fmap es b clock ents eD hb hl hk _ ih=>exact .fmap es b clock ents (hD _ eD) ((hw b eD).trans hb) hl hk ih
 | di ks f b clock ents eD hb hl hk hc _ ih=>exact .di ks f b clock ents (hD _ eD) ((hw b eD).trans hb) hl hk hc ih
 | jM ks f hz=>exact .jM ks f hz
 | gJ n ks f vs hl _ ih=>exact .gJ n ks f vs hl ih
 | gw t f b vs hb ht hf=>exact .gw t f b vs hb ht hf
def Gy(n:Nat)(v:Value):Prop:=(v=.slice none 0 0∧n=0)∨∃g cap,v=.slice (some ⟨g,0,none⟩) n cap∧n<=cap∧cap<=maxLen
inductive RX(w:World)(D:Nat->Prop)(B:Nat)(β:Nat->Value)(H:Nat->AO):AV->Value->Prop
 | d {av:AV} {v:Value} (h:RD w D B av v):RX w D B β H av v
 | ptr (o off b:Nat) (h:β o=.pointer (some ⟨b,0,none⟩)):RX w D B β H (.ptr o off) (.pointer (some ⟨b,off,none⟩))
 | ci (o sz ver:Nat) (n i:Unit->Nat) (off:Nat) (v:Value) (hs:∃g p,v=.pointer (some ⟨g,p,none⟩)) (hi:i ()<n ())
  (h:∀x t sz' aM n' f,H o=.arr x t sz' aM n' f->ver<=aM∧(ver=aM->n ()=n' ()∧(sz=sz'->∃g cap,β o=.slice (some ⟨g,0,none⟩) (n ()) cap∧v=.pointer (some ⟨g,i ()*sz+off,none⟩)))):
  RX w D B β H (.ci o sz ver n i off) v
 | aJ (o ver:Nat) (n:Unit->Nat) (v:Value) (hs:Gy (n ()) v) (h:∀x t sz' aM n' f,H o=.arr x t sz' aM n' f->ver<=aM∧(ver=aM->n ()=n' ()∧v=β o)):RX w D B β H (.aJ o ver n) v
 | bG (o n b:Nat) (h:RX w D B β H (.ptr o 0) (.pointer (some ⟨b,0,none⟩))):RX w D B β H (.bG o n) (.slice (some ⟨b,0,none⟩) n n)
 | a8 (fn:FuncId) (o b:Nat) (h:RX w D B β H (.ptr o 0) (.pointer (some ⟨b,0,none⟩))):RX w D B β H (.a8 fn o) (.func (.func fn) #[.pointer (some ⟨b,0,none⟩)] #[])
 | agg (cs:List AV) (vs:Array Value) (hl:cs.length=vs.size) (h:∀(i:Nat) (av:AV) (v:Value),cs[i]? = some av->vs[i]? = some v->RX w D B β H av v):RX w D B β H (.agg cs) (.agg vs)
 | ag (cs:List AV) (vs:Array Value) (hl:cs.length=vs.size) (h:∀(i:Nat) (av:AV) (v:Value),cs[i]? = some av->vs[i]? = some v->RX w D B β H av v):RX w D B β H (.ag cs) (.tuple vs)
 | func (fn:FuncId) (cs:List AV) (vs:Array Value) (hl:cs.length=vs.size) (h:∀(i:Nat) (av:AV) (v:Value),cs[i]? = some av->vs[i]? = some v->RX w D B β H av v):RX w D B β H (.func fn cs) (.func (.func fn) #[] vs)
 | may (g:Unit->Bool) (av:AV) (v:Value) (h:g ()=true->RX w D B β H av v) (hu:g ()=false->v=undef):RX w D B β H (.may g av) v
def RX.dm{w:World}{D:Nat->Prop}{B:Nat}{β:Nat->Value}{H:Nat->AO}(fr:FB)(sz:Nat)(n:Unit->Nat)(f:(Unit->Nat)->List AV)(i:Unit->Nat)(off b o cap:Nat)(hi:i ()<n ())(h:RD w D B (.slc fr sz n f) (.slice (some ⟨b,o,none⟩) (n ()) cap)):
 RX w D B β H (.dm fr sz n f i off) (.pointer (some ⟨b,o+i ()*sz+off,none⟩)):=.d (.dm fr sz n f i off b o cap hi h)
section inv
variable {w:World}{D:Nat->Prop}{B:Nat}{β:Nat->Value}{H:Nat->AO}
def RX.fG{k:IntKind}{n:Unit->Int}{v:Value}(h:RX w D B β H (.int k n) v):v=.int k (n ()):=by cases h with|d h=>cases h;rfl
def RX.gW{b:Unit->Bool}{v:Value}(h:RX w D B β H (.bool b) v):v=.bool (b ()):=by cases h with|d h=>cases h;rfl
def RX.yu{n:Unit->Bool}{v:Value}(h:RX w D B β H (.bz n) v):(n ()=true∧v=.nilIface)∨(n ()=false∧∃t p,v=.iface t p):=by cases h with|d h=>cases h with|bz _ _ h=>exact h
def RX.Cf{t f:Unit->Prop}{v:Value}(h:RX w D B β H (.fd t f) v):∃b:Bool,v=.bool b∧(b=true->t ())∧(b=false->f ()):=by cases h with|d h=>cases h with|fd _ _ b ht hf=>exact⟨b,rfl,ht,hf⟩
def RX.gX{s:Unit->ByteArray}{v:Value}(h:RX w D B β H (.str s) v):v=.string (s ()):=by cases h with|d h=>cases h;rfl
def RX.vI{u v:Value}(h:RX w D B β H (.val u) v):v=u:=by cases h with|d h=>cases h;rfl
def RX.kG{v:Value}(h:RX w D B β H .nil v):v=.slice none 0 0:=by cases h with|d h=>cases h;rfl
def RX.yw{v:Value}(h:RX w D B β H .bt v):v=.nilFunc:=by cases h with|d h=>cases h;rfl
def RX.gY{fr:FB}{sz:Nat}{n:Unit->Nat}{f:(Unit->Nat)->List AV}{v:Value}(h:RX w D B β H (.slc fr sz n f) v):RD w D B (.slc fr sz n f) v:=by cases h with|d h=>exact h
def RX.dF{o off:Nat}{v:Value}(h:RX w D B β H (.ptr o off) v):∃b,β o=.pointer (some ⟨b,0,none⟩)∧v=.pointer (some ⟨b,off,none⟩):=by
 cases h with
 | d h=>cases h
 | ptr _ _ b h=>exact⟨b,h,rfl⟩
def RX.tp{fr:FB}{sz:Nat}{n:Unit->Nat}{f:(Unit->Nat)->List AV}{i:Unit->Nat}{off:Nat}{v:Value}(h:RX w D B β H (.dm fr sz n f i off) v):
 ∃b o cap,i ()<n ()∧RD w D B (.slc fr sz n f) (.slice (some ⟨b,o,none⟩) (n ()) cap)∧v=.pointer (some ⟨b,o+i ()*sz+off,none⟩):=by
 cases h with
 | d h=>cases h with|dm _ _ _ _ _ _ b o cap hi h=>exact⟨b,o,cap,hi,h,rfl⟩
def RX.Cg{es:List (Nat×AV)}{v:Value}(h:RX w D B β H (.fmap es) v):∃b clock ents,v=.map (some b)∧w.heap[b]? = some (.map ents clock)∧es.length=ents.size∧(∀(i k:Nat) (av:AV) (e:MapEntry),es[i]? = some (k,av)->ents[i]? = some e->e.key=.int .i64 k) ∧
 ∀(i k:Nat) (av:AV) (e:MapEntry),es[i]? = some (k,av)->ents[i]? = some e->RD w D B av e.val:=by
 cases h with
 | d h=>cases h with|fmap _ b clock ents _ hb hl hk h=>exact⟨b,clock,ents,rfl,hb,hl,hk,h⟩
def RX.Ci{ks:Unit->List ByteArray}{f:(Unit->Nat)->AV}{v:Value}(h:RX w D B β H (.di ks f) v):(v=.map none∧ks ()=[])∨∃b clock ents,v=.map (some b)∧w.heap[b]? = some (.map ents clock)∧(ks ()).length=ents.size∧(∀(i:Nat) (k:ByteArray) (e:MapEntry),(ks ())[i]? = some k->ents[i]? = some e->e.key=.string k) ∧
 ∀(i:Nat) (e:MapEntry),ents[i]? = some e->RD w D B (f fun _=>i) e.val:=by
 cases h with
 | d h=>cases h with
  | jM _ _ hz=>exact .inl ⟨rfl,hz⟩
  | di _ _ b clock ents _ hb hl hk _ h=>exact .inr ⟨b,clock,ents,rfl,hb,hl,hk,h⟩
def RX.ND{n:Nat}{ks:(Unit->Nat)->List ByteArray}{f:(Unit->Nat)->(Unit->Nat)->AV}{v:Value}(h:RX w D B β H (.gJ n ks f) v):∃vs,v=.agg vs∧vs.size=n∧∀(i:Nat) (v:Value),vs[i]? = some v->RD w D B (.di (fun _=>ks fun _=>i) (f fun _=>i)) v:=by
 cases h with
 | d h=>cases h with|gJ _ _ _ vs hl h=>exact⟨vs,rfl,hl,h⟩
def RX.NE{ks:Unit->List ByteArray}{f:(Unit->Nat)->AV}{v:Value}(h:RX w D B β H (.di ks f) v):RD w D B (.di ks f) v:=by cases h with|d h=>exact h
def RX.NG{v:Value}(h:RX w D B β H .dz v):v=.map none:=by cases h with|d h=>cases h;rfl
def RX.NH{t f:Unit->Prop}{v:Value}(h:RX w D B β H (.gw t f) v):∃(b:Bool) (vs:Array Value),v=.tuple vs∧vs[0]? = some (.bool b)∧(b=true->t ())∧(b=false->f ()):=by
 cases h with|d h=>cases h with|gw _ _ b vs hb ht hf=>exact⟨b,vs,rfl,hb,ht,hf⟩
def RX.Cj{o n:Nat}{v:Value}(h:RX w D B β H (.bG o n) v):∃b,β o=.pointer (some ⟨b,0,none⟩)∧v=.slice (some ⟨b,0,none⟩) n n:=by
 cases h with
 | d h=>cases h
 | bG _ _ b h=>
  obtain⟨b',h1,h2⟩:=h.dF;cases h2;exact⟨b,h1,rfl⟩
def RX.yx{fn:FuncId}{o:Nat}{v:Value}(h:RX w D B β H (.a8 fn o) v):∃b,β o=.pointer (some ⟨b,0,none⟩)∧v=.func (.func fn) #[.pointer (some ⟨b,0,none⟩)] #[]:=by
 cases h with
 | d h=>cases h
 | a8 _ _ b h=>
  obtain⟨b',h1,h2⟩:=h.dF;cases h2;exact⟨b,h1,rfl⟩
def RX.jk{o sz ver:Nat}{n i:Unit->Nat}{off:Nat}{v:Value}(h:RX w D B β H (.ci o sz ver n i off) v):(∃g p,v=.pointer (some ⟨g,p,none⟩))∧i ()<n () ∧
 ∀x t sz' aM n' f,H o=.arr x t sz' aM n' f->ver<=aM∧(ver=aM->n ()=n' ()∧(sz=sz'->∃g cap,β o=.slice (some ⟨g,0,none⟩) (n ()) cap∧v=.pointer (some ⟨g,i ()*sz+off,none⟩))):=by
 cases h with
 | d h=>cases h
 | ci _ _ _ _ _ _ _ hs hi h=>exact⟨hs,hi,h⟩
def RX.aI{o ver:Nat}{n:Unit->Nat}{v:Value}(h:RX w D B β H (.aJ o ver n) v):Gy (n ()) v ∧
 ∀x t sz' aM n' f,H o=.arr x t sz' aM n' f->ver<=aM∧(ver=aM->n ()=n' ()∧v=β o):=by
 cases h with
 | d h=>cases h
 | aJ _ _ _ _ hs h=>exact⟨hs,h⟩
def RX.vB{cs:List AV}{v:Value}(h:RX w D B β H (.agg cs) v):∃vs,v=.agg vs∧cs.length=vs.size∧∀(i:Nat) (av:AV) (v:Value),cs[i]? = some av->vs[i]? = some v->RX w D B β H av v:=by
 cases h with
 | d h=>cases h with|agg _ vs hl h=>exact⟨vs,rfl,hl,fun i av v a b=>.d (h i av v a b)⟩
 | agg _ vs hl h=>exact⟨vs,rfl,hl,h⟩
def RX.Gz{cs:List AV}{v:Value}(h:RX w D B β H (.ag cs) v):∃vs,v=.tuple vs∧cs.length=vs.size∧∀(i:Nat) (av:AV) (v:Value),cs[i]? = some av->vs[i]? = some v->RX w D B β H av v:=by
 cases h with
 | d h=>cases h with|ag _ vs hl h=>exact⟨vs,rfl,hl,fun i av v a b=>.d (h i av v a b)⟩
 | ag _ vs hl h=>exact⟨vs,rfl,hl,h⟩
def RX.pI{fn:FuncId}{cs:List AV}{v:Value}(h:RX w D B β H (.func fn cs) v):∃vs,v=.func (.func fn) #[] vs∧cs.length=vs.size∧∀(i:Nat) (av:AV) (v:Value),cs[i]? = some av->vs[i]? = some v->RX w D B β H av v:=by
 cases h with
 | d h=>cases h with|func _ _ vs hl h=>exact⟨vs,rfl,hl,fun i av v a b=>.d (h i av v a b)⟩
 | func _ _ vs hl h=>exact⟨vs,rfl,hl,h⟩
def RX.vC{g:Unit->Bool}{av:AV}{v:Value}(h:RX w D B β H (.may g av) v):g ()=true->RX w D B β H av v:=by
 cases h with
 | d h=>cases h with|may _ _ _ h _=>exact fun e=>.d (h e)
 | may _ _ _ h _=>exact h
def RX.NI{g:Unit->Bool}{av:AV}{v:Value}(h:RX w D B β H (.may g av) v):g ()=false->v=undef:=by
 cases h with
 | d h=>cases h with|may _ _ _ _ hu=>exact hu
 | may _ _ _ _ hu=>exact hu
end inv
def bi:Value->Option Nat
 | .pointer (some a)=>some a.block
 | .slice (some a) _ _=>some a.block
 | _=>none
def tr(b:Nat):Prop:=b<9
structure m9(w:World):Prop where
 u:Lib.Utf8Tabs BL BM w
 p:∀i s,vo[i]? = some s->w.cell? ⟨s7,i,none⟩=some (.string s)
 m:∃n,w.cell? ⟨Nz,0,none⟩=some (.int .i64 n)
 e5:∃v,w.cell? ⟨NA,0,none⟩=some v∧(v=.nilIface∨∃te pe,v=.iface te pe)
 e6:∃v,w.cell? ⟨NB,0,none⟩=some v∧(v=.nilIface∨∃te pe,v=.iface te pe)
 pw:∃ty fr,w.heap[vn]? = some (.cells ((List.range 20).map fun i=>Value.int .u64 ((10^i:Nat):Int)).toArray ty fr)
 db:w.cell? ⟨8,15,none⟩=some (.int .u8 4)
 sz:9<=w.heap.size
structure Env where
 w0:World
 B:Nat
 D0:Nat->Prop
 X:Nat->Prop
 pin:Nat->Option (Value×Nat)
 cC:∀o p,pin o=some p->kE o=true
 Y:Nat->Prop
 df:List Deferred
 hB:B<=w0.heap.size
 hD:∀b,D0 b->b<w0.heap.size∧¬X b
 hX:∀b,X b->b<w0.heap.size
 hY:∀b,Y b->b<w0.heap.size∧¬D0 b∧¬X b
 hdf:∀d∈df,∃b,d={ target:=.collected b,args:=#[] }∧¬X b∧¬Y b∧w0.heap[b]? = some (.deferred (some []))
 jN:df.Nodup
 hT:m9 w0
 dW:∀b,tr b->D0 b
def Env.N(E:Env):Nat:=E.w0.heap.size
def AO.is:AO->Prop
 | .none=>False
 | _=>True
def Env.D(E:Env)(w:World)(β:Nat->Value)(H:Nat->AO)(b:Nat):Prop:=
 (E.D0 b∨E.X b∨E.N<=b)∧b<w.heap.size∧∀o,(H o).is->bi (β o)≠some b
structure Env.Frame(E:Env)(w:World):Prop where
 os:w.os=E.w0.os
 tape:w.tape=E.w0.tape
 output:w.output=E.w0.output
 size:E.N<=w.heap.size
 block:∀b,b<E.N->¬E.X b->w.heap[b]? = E.w0.heap[b]?
def Env.own(E:Env)(b:Nat):Prop:=E.X b∨E.N<=b
def Env.Frame.base{E:Env}{w:World}(h:E.Frame w):E.B<=w.heap.size:=aG E.hB h.size
def kH(cs:List AV)(ty:Nat):Prop:=∀t,cs[0]? = some (.bj t)->ty=t
def kH.cells{cs:List AV}{ty:Nat}(h:cs.all AV.cell=true):kH cs ty:=fun t ht=>by
 have:=cI.1 h _ (je ht);cases this
def OR (E:Env) (w:World) (β:Nat->Value) (H:Nat->AO) (o:Nat):AO->Prop
 | .none=>True
 | .box cs=>∃b vs ty,β o=.pointer (some ⟨b,0,none⟩)∧w.heap[b]? = some (.cells vs ty (0,0))∧E.own b∧cs.length=vs.size ∧
  (∀(i:Nat) (av:AV) (v:Value),cs[i]? = some av->vs[i]? = some v->RX w (E.D w β H) E.B β H av v)∧kH cs ty
 | .arr x t sz _ n f=>(β o=.slice none 0 0∧n ()=0)∨∃g cap cur,β o=.slice (some ⟨g,0,none⟩) (n ()) cap∧w.heap[g]? = some (.cells cur t (0,0))∧n ()<=cap∧cap<=maxLen ∧
  cur.size=cap*sz∧(x=false->E.B<=g)∧E.own g∧∀i,i<n ()->(f fun _=>i).length=sz∧(f fun _=>i).all AV.cell=true ∧
   ∀(j:Nat) (av:AV) (v:Value),(f fun _=>i)[j]? = some av->cur[i*sz+j]? = some v->RD w (E.D w β H) E.B av v
 | .it ks f seen pend=>∃b mb sa,β o=.pointer (some ⟨b,0,none⟩)∧w.heap[b]? = some (.mapIter mb (ks ()).length sa (ks ()).length)∧E.own b ∧
  ((mb=none∧(ks ()).length=0)∨∃m,mb=some m∧RD w (E.D w β H) E.B (.di ks f) (.map (some m))) ∧
  (match pend with
    | false=>sa.toList=seen ()
    | true=>(sa.toList=seen ()∧∀i,i<(ks ()).length->i∈seen ())∨∃i,i<(ks ()).length∧i∉seen ()∧sa.toList=seen ()++[i])
structure RelB(E:Env)(tmps:List AV)(H:Nat->AO)(a:Act)(w:World)(β:Nat->Value):Prop where
 defers:a.defers=E.df
 size:a.tmps.size=tmps.length
 tmps:∀(t:Nat) (av:AV),tmps[t]? = some av->RX w (E.D w β H) E.B β H av (a.tmps.getD t undef)
 objs:∀o,OR E w β H o (H o)
 apart:∀o o' b,o≠o'->(H o).is->(H o').is->bi (β o)=some b->bi (β o')=some b->False
 frame:E.Frame w
 pin:∀o v n0,E.pin o=some (v,n0)->(∀cs,H o=.box cs->β o=v)∧∀x t sz ver n f,H o=.arr x t sz ver n f->ver=0->β o=v∧n ()=n0
def tt{w w':World}(h:m9 w)(e:∀b,tr b->w'.heap[b]? = w.heap[b]?):m9 w':=by
 have c0:∀b,tr b->∀c,w'.cell? ⟨b,c,none⟩=w.cell? ⟨b,c,none⟩:=fun b hb c=>by simp only[World.cell?,e b hb]
 have d0:∀b,b<9->tr b:=fun b hb=>hb;obtain⟨n,hm⟩:=h.m;obtain⟨v5,h5,g5⟩:=h.e5;obtain⟨v6,h6,g6⟩:=h.e6;refine⟨⟨fun c hc=>(c0 _ (d0 _ zd) c).trans (h.u.1 c hc),fun i hi=>⟨(c0 _ (d0 _ zd) _).trans (h.u.2 i hi).1,(c0 _ (d0 _ zd) _).trans (h.u.2 i hi).2⟩⟩,fun i s hs=>(c0 _ (d0 _ zd) _).trans (h.p i s hs),⟨n,(c0 _ (d0 _ zd) _).trans hm⟩,⟨v5,(c0 _ (d0 _ zd) _).trans h5,g5⟩,⟨v6,(c0 _ (d0 _ zd) _).trans h6,g6⟩,h.pw.imp fun ty hy=>hy.imp fun fr hf=>(e vn (d0 _ zd)).trans hf,(c0 _ (d0 _ zd) _).trans h.db,?_⟩;have hs:=h.sz;have e8:=e 8 (zd:(8:Nat)<9);rw[dC (show 8<w.heap.size from hs)]at e8;obtain⟨h8,_⟩:=d8.1 e8;exact h8
def GA{w:World}(h:m9 w):∀b,tr b->b<w.heap.size:=fun b hb=>cf hb h.sz
def Rel(E:Env)(S:AS)(a:Act)(w:World):Prop:=∃β,RelB E S.tmps S.obj a w β
def RX.map{w w':World}{D D':Nat->Prop}{B B':Nat}{β β':Nat->Value}{H H':Nat->AO}(hd:∀av v,RD w D B av v->RD w' D' B' av v)
 (hp:∀o off v,RX w D B β H (.ptr o off) v->RX w' D' B' β' H' (.ptr o off) v)
 (ha:∀o ver n v,RX w D B β H (.aJ o ver n) v->RX w' D' B' β' H' (.aJ o ver n) v)
 (hq:∀o sz ver n i off v,RX w D B β H (.ci o sz ver n i off) v->RX w' D' B' β' H' (.ci o sz ver n i off) v)
 {av:AV} {v:Value} (h:RX w D B β H av v):RX w' D' B' β' H' av v:=by
 induction h with
 | d h=>exact .d (hd _ _ h)
 | ptr o off b h=>exact hp _ _ _ (.ptr o off b h)
 | ci o sz ver n i off v hs hi h=>exact hq _ _ _ _ _ _ _ (.ci o sz ver n i off v hs hi h)
 | aJ o ver n v hs h=>exact ha _ _ _ _ (.aJ o ver n v hs h)
 | bG o n b _ ih=>exact .bG o n b ih
 | a8 fn o b _ ih=>exact .a8 fn o b ih
 | agg cs vs hl _ ih=>exact .agg cs vs hl ih
 | ag cs vs hl _ ih=>exact .ag cs vs hl ih
 | func fn cs vs hl _ ih=>exact .func fn cs vs hl ih
 | may g av v _ hu ih=>exact .may g av v ih hu
def RX.NJ{w w':World}{D D':Nat->Prop}{B:Nat}{β β':Nat->Value}{H H':Nat->AO}{d:Nat}(hd:∀av v,RD w D B av v->RD w' D' B av v)
 (hβ:∀o,o≠d->β' o=β o) (hH:∀o,o≠d->H' o=H o)
 {av:AV} {v:Value} (h:RX w D B β H av v):AV.nL d [av]=true->RX w' D' B β' H' av v:=by
 have hlist:∀(cs:List AV),AV.nL d cs=true->∀(i:Nat) (av:AV),cs[i]? = some av->AV.nL d [av]=true:=by
  intro cs
  induction cs with
  | nil=>intro _ i av h;simp at h
  | cons c r ih=>
   intro hn i av hi;have hsplit:AV.nL d [c]=true∧AV.nL d r=true:=by
    cases c<;>simp_all[AV.nL]
   cases i with
   | zero=>simp at hi;subst hi;exact hsplit.1
   | succ i=>exact ih hsplit.2 i av (by simpa using hi)
 induction h with
 | d h=>exact fun _=>.d (hd _ _ h)
 | ptr o off b h=>
  intro hn;have:o≠d:=by simpa[AV.nL]using hn
  exact .ptr o off b (by rw[hβ o this];exact h)
 | ci o sz ver n i off v hs hi h=>
  intro hn;have:o≠d:=by simpa[AV.nL]using hn
  exact .ci o sz ver n i off v hs hi (by rw[hβ o this,hH o this];exact h)
 | aJ o ver n v hs h=>
  intro hn;have:o≠d:=by simpa[AV.nL]using hn
  exact .aJ o ver n v hs (by rw[hβ o this,hH o this];exact h)
 | bG o n b _ ih=>exact fun hn=>.bG o n b (ih (by simpa[AV.nL]using hn))
 | a8 fn o b _ ih=>exact fun hn=>.a8 fn o b (ih (by simpa[AV.nL]using hn))
 | agg cs vs hl _ ih=>exact fun hn=>.agg cs vs hl fun i av v h1 h2=>ih i av v h1 h2 (hlist cs (by simpa[AV.nL]using hn) i av h1)
 | ag cs vs hl _ ih=>exact fun hn=>.ag cs vs hl fun i av v h1 h2=>ih i av v h1 h2 (hlist cs (by simpa[AV.nL]using hn) i av h1)
 | func fn cs vs hl _ ih=>exact fun hn=>.func fn cs vs hl fun i av v h1 h2=>ih i av v h1 h2 (hlist cs (by simpa[AV.nL]using hn) i av h1)
 | may g av v _ hu ih=>exact fun hn=>.may g av v (fun e=>ih e (by simpa[AV.nL]using hn)) hu
def M.run_bind{α β:Type}(S:AS)(m:M α)(f:α->M β)(r:Run β)(h:(m.bind f).run S=some r):
 ∃r1 r2,m.run S=some r1∧(f r1.a).run S=some r2∧r=⟨r2.a,r1.conds++r2.conds,r1.rt++r2.rt,r1.ro++r2.ro⟩:=by
 induction m generalizing r with
 | ret a=>exact⟨⟨a,[],[],[]⟩,r,rfl,h,zsi⟩
 | fail=>simp[M.bind,M.run]at h
 | cond c k ih=>
  simp only[M.bind,M.run]at h;split at h
  ·rename_i r' hr;obtain⟨r1,r2,h1,h2,h3⟩:=ih r' hr;refine⟨{ r1 with conds:=c::r1.conds },r2,by simp[M.run,h1],h2,?_⟩;simp at h;rw[<- h,h3];simp
  ·cases h
 | tmp t k ih=>
  simp only[M.bind,M.run]at h;split at h
  ·rename_i r' hr;obtain⟨r1,r2,h1,h2,h3⟩:=ih _ r' hr;refine⟨{ r1 with rt:=t::r1.rt },r2,by simp[M.run,h1],h2,?_⟩;simp at h;rw[<- h,h3];simp
  ·cases h
 | obj t k ih=>
  simp only[M.bind,M.run]at h;split at h
  ·rename_i r' hr;obtain⟨r1,r2,h1,h2,h3⟩:=ih _ r' hr;refine⟨{ r1 with ro:=t::r1.ro },r2,by simp[M.run,h1],h2,?_⟩;simp at h;rw[<- h,h3];simp
  ·cases h
def aV{α:Type}(S:AS)(m:M α)(a:α):Prop:=∃r,m.run S=some r∧(∀c∈r.conds,c ())∧r.a=a
def aV.bind{α β:Type}{S:AS}{m:M α}{f:α->M β}{b:β}(h:aV S (m.bind f) b):∃a,aV S m a∧aV S (f a) b:=by
 obtain⟨r,h,hc,rfl⟩:=h;obtain⟨r1,r2,h1,h2,rfl⟩:=M.run_bind S m f r h;exact⟨r1.a,⟨r1,h1,fun c hm=>hc c (by simp[hm]),rfl⟩,⟨r2,h2,fun c hm=>hc c (by simp[hm]),rfl⟩⟩
def aV.ret{α:Type}{S:AS}{a b:α}(h:aV S (.ret a) b):a=b:=by
 obtain⟨r,h,_,rfl⟩:=h;simp[M.run]at h;rw[<- h]
def aV.fail{α:Type}{S:AS}{b:α}(h:aV S .fail b):False:=by
 obtain⟨r,h,_,rfl⟩:=h;simp[M.run]at h
def aV.cond{α:Type}{S:AS}{c:Unit->Prop}[d:DecidablePred c]{m:M α}{b:α}(h:aV S (.cond c m) b):c ()∧aV S m b:=by
 obtain⟨r,h,hc,rfl⟩:=h;simp only[M.run]at h;split at h
 ·rename_i r' hr;simp at h;subst h;exact⟨hc c zsi,r',hr,fun x hx=>hc x (by simp[hx]),rfl⟩
 ·cases h
def aV.tmp{α:Type}{S:AS}{t:Nat}{m:AV->M α}{b:α}(h:aV S (.tmp t m) b):aV S (m (S.tmp t)) b:=by
 obtain⟨r,h,hc,rfl⟩:=h;simp only[M.run]at h;split at h
 ·rename_i r' hr;simp at h;subst h;exact⟨r',hr,hc,rfl⟩
 ·cases h
def aV.obj{α:Type}{S:AS}{t:Nat}{m:AO->M α}{b:α}(h:aV S (.obj t m) b):aV S (m (S.obj t)) b:=by
 obtain⟨r,h,hc,rfl⟩:=h;simp only[M.run]at h;split at h
 ·rename_i r' hr;simp at h;subst h;exact⟨r',hr,hc,rfl⟩
 ·cases h
def vD:AV->Value->Bool
 | .int k n,.int k' m=>k==k'&&n ()==m
 | .bool b,.bool c=>b ()==c
 | .str s,.string t=>decide (s ()=t)
 | .nil,.slice none n c=>n==0&&c==0
 | .bt,.nilFunc=>true
 | .cN,.pointer none=>true
 | .dz,.map none=>true
 | .bz b,.nilIface=>b ()
 | _,_=>false
def jP:List AV->List Value->Bool
 | [],[]=>true
 | a::r,v::s=>vD a v&&a.cell&&jP r s
 | _,_=>false
def NK{w:World}{D:Nat->Prop}{B:Nat}{a:AV}{v:Value}(h:vD a v=true):RD w D B a v:=by
 unfold vD at h;split at h
 ·simp at h;obtain⟨rfl,rfl⟩:=h;exact .int _ _
 ·simp at h;subst h;exact .bool _
 ·simp at h;subst h;exact .str _
 ·simp at h;obtain⟨rfl,rfl⟩:=h;exact .nil
 ·exact .bt
 ·exact .cN
 ·exact .dz
 ·exact .bz _ _ (.inl ⟨h,rfl⟩)
 ·cases h
theorem vE{w:World}{D:Nat->Prop}{B:Nat}:∀{xs1:List AV} {vs:List Value},jP xs1 vs=true->xs1.length=vs.length∧xs1.all AV.cell=true∧∀(i:Nat) (av:AV) (v:Value),xs1[i]? = some av->vs[i]? = some v->RD w D B av v
 | [],[],_=>⟨rfl,rfl,fun i av v h=>by simp at h⟩
 | a::r,v::s,h=>by
  simp[jP]at h;obtain⟨⟨h1,h2⟩,h3⟩:=h;obtain⟨i1,i2,i3⟩:=vE (w:=w) (D:=D) (B:=B) h3;refine⟨by simp[i1],by simp[h2];simpa using i2,fun i av v' ha hv=>?_⟩;cases i with
  | zero=>simp at ha hv;subst ha;subst hv;exact NK h1
  | succ i=>exact i3 i av v' (by simpa using ha) (by simpa using hv)
 | [],_::_,h=>by simp[jP]at h
 | _::_,[],h=>by simp[jP]at h
def GB (P : Program) (t : Nat) (gs : List Go.Field) : Bool := !P.stoodInHeld t && !P.eqGuardType P.depth t && gs.all fun f => f.name != "_"
def kI(P:Program)(t:Nat):TK->Bool
 | .int k=>match P.underlying t with|some (.int k')=>k==k'|_=>false
 | .bool=>match P.underlying t with|some .bool=>true|_=>false
 | .str=>match P.underlying t with|some .string=>true|_=>false
 | .slice e=>match P.underlying t with|some (.slice e')=>e==e'|_=>false
 | .struct fs=>match P.underlying t with|some (.struct gs)=>(gs.toList.map fun f=>(f.offset,f.type))==fs&&(gs.toList.all fun f=>((P.info? f.type).any fun i=>i.size != 0))&&GB P t gs.toList|_=>false
 | .array n e=>match P.underlying t with|some (.array n' e')=>n==n'&&e==e'|_=>false
 | .ptr e=>match P.underlying t with|some (.pointer e')=>e==e'|_=>false
 | .func=>match P.underlying t with|some (.func _ _ _)=>true|_=>false
 | .map k e=>match P.underlying t with|some (.map k' e')=>k==k'&&e==e'|_=>false
 | .iface=>match P.underlying t with|some (.interface _)=>true|_=>false
 | .other=>true
def Ck:Value->Bool
 | .agg _=>true
 | _=>false
def GC(P:Program)(t:Nat)(ti:TI):Bool:=
 match P.info? t with
 | none=>false
 | some i=>i.size==ti.size&&i.bytes==ti.bytes&&(match i.zero with|some z=>jP ti.zero z.cells.toList&&Ck z==ti.agg|none=>false)&&kI P t ti.k&&(ti.agg||ti.size==1)&&ti.zero.length==ti.size
structure bg(P:Program)(t:Nat)(ti:TI):Prop where
 ex:∃i z,P.info? t=some i∧i.size=ti.size∧i.bytes=ti.bytes∧i.zero=some z∧jP ti.zero z.cells.toList=true∧Ck z=ti.agg
 k:kI P t ti.k=true
 one:ti.agg=false->ti.size=1
 GD:ti.zero.length=ti.size
def cn(P:Program)(T:List (Nat×TI)):Prop:=T.all (fun p=>GC P p.1 p.2)=true
theorem cn.at{P:Program}:∀{T:List (Nat×TI)},cn P T->∀t,(aO T t).real=true->bg P t (aO T t)
 | [],_,t,h=>by simp[aO,TI.real]at h
 | (i,ti)::r,hT,t,h=>by
  simp only[cn,qD,az]at hT;by_cases e:i=t
  ·subst e;have h1:=hT.1;simp only[aO,bC]at h ⊢;unfold GC at h1;split at h1
   ·cases h1
   ·rename_i i' hi;simp at h1;obtain⟨⟨⟨⟨⟨a,b⟩,c⟩,d⟩,o⟩,zl⟩:=h1;split at c
    ·rename_i z hz;simp only[az,dv]at c;exact⟨⟨i',z,hi,a,b,hz,c.1,c.2⟩,d,fun hn=>by simpa[hn]using o,zl⟩
    ·cases c
  ·simp only[aO,aa e]at h ⊢;exact cn.at (T:=r) hT.2 t h
section ty
variable {P:Program}{t:Nat}{ti:TI}{w:World}
def bg.GE(h:bg P t ti)(hk:ti.real=true):(isAgg t).run P w=.ok ti.agg w:=by
 have hk':=h.k;unfold Go.isAgg;unfold kI at hk';unfold TI.agg;unfold TI.real at hk;cases hq:ti.k<;>rw[hq]at hk' hk<;>(first|exact absurd hk AX|skip)<;>simp only at hk' ⊢ <;>
  (split at hk'<;>first|(rename_i hu;simp[bF hu];done)|exact absurd hk' AX)
def bg.sizeOf(h:bg P t ti):(sizeOf t).run P w=.ok ti.size w:=by
 obtain⟨i,z,hi,hs,_⟩:=h.ex;simp[Go.sizeOf,typeInfo,hi,hs]
def bg.zeroValue(h:bg P t ti):∃z,(zeroValue t).run P w=.ok z w∧jP ti.zero z.cells.toList=true:=by
 obtain⟨i,z,hi,_,_,hz,ha,_⟩:=h.ex;exact⟨z,by simp[Go.zeroValue,typeInfo,hi,hz],ha⟩
def bg.NL(h:bg P t ti):∃z,(Go.zeroValue t).run P w=.ok z w∧jP ti.zero z.cells.toList=true∧Ck z=ti.agg:=by
 obtain⟨i,z,hi,_,_,hz,ha,hg⟩:=h.ex;exact⟨z,by simp[Go.zeroValue,typeInfo,hi,hz],ha,hg⟩
def bg.slice{e:Nat}(h:bg P t ti)(hk:ti.k=.slice e):P.underlying t=some (.slice e):=by
 have:=h.k;rw[hk]at this;simp only[kI]at this;split at this
 ·rename_i hu;simp at this;subst this;exact hu
 ·cases this
def bg.array{n e:Nat}(h:bg P t ti)(hk:ti.k=.array n e):P.underlying t=some (.array n e):=by
 have:=h.k;rw[hk]at this;simp only[kI]at this;split at this
 ·rename_i hu;simp at this;obtain⟨rfl,rfl⟩:=this;exact hu
 ·cases this
def bg.map{k e:Nat}(h:bg P t ti)(hk:ti.k=.map k e):P.underlying t=some (.map k e):=by
 have:=h.k;rw[hk]at this;simp only[kI]at this;split at this
 ·rename_i hu;simp at this;obtain⟨rfl,rfl⟩:=this;exact hu
 ·cases this
def bg.pointer{e:Nat}(h:bg P t ti)(hk:ti.k=.ptr e):P.underlying t=some (.pointer e):=by
 have:=h.k;rw[hk]at this;simp only[kI]at this;split at this
 ·rename_i hu;simp at this;subst this;exact hu
 ·cases this
def bg.str(h:bg P t ti)(hk:ti.k=.str):P.underlying t=some .string:=by
 have:=h.k;rw[hk]at this;simp only[kI]at this;split at this
 ·rename_i hu;exact hu
 ·cases this
def bg.int{k:IntKind}(h:bg P t ti)(hk:ti.k=.int k):P.underlying t=some (.int k):=by
 have:=h.k;rw[hk]at this;simp only[kI]at this;split at this
 ·rename_i hu;simp at this;subst this;exact hu
 ·cases this
def bg.bool(h:bg P t ti)(hk:ti.k=.bool):P.underlying t=some .bool:=by
 have:=h.k;rw[hk]at this;simp only[kI]at this;split at this
 ·rename_i hu;exact hu
 ·cases this
def bg.struct{fs:List (Nat×Nat)}(h:bg P t ti)(hk:ti.k=.struct fs):∃gs,P.underlying t=some (.struct gs)∧gs.toList.map (fun f=>(f.offset,f.type))=fs∧∀f∈gs.toList,∃i,P.info? f.type=some i∧i.size≠0:=by
 have:=h.k;rw[hk]at this;simp only[kI]at this;split at this
 ·rename_i gs hu;rw[az,az]at this;refine⟨gs,hu,uM this.1.1,fun f hf=>?_⟩;have:=cI.1 this.1.2 f hf;cases hi:P.info? f.type with
  | none=>rw[hi]at this;simp at this
  | some i=>rw[hi]at this;exact⟨i,rfl,by simpa using this⟩
 ·cases this
def bg.plain {fs : List (Nat × Nat)} (h : bg P t ti) (hk : ti.k = .struct fs) : ∃ gs, P.underlying t = some (.struct gs) ∧ gs.toList.map (fun f => (f.offset, f.type)) = fs ∧ P.stoodInHeld t = false ∧ P.eqGuardType P.depth t = false ∧ ∀ f ∈ gs.toList, f.name ≠ "_" := by
 have:=h.k;rw[hk]at this;simp only[kI]at this;split at this
 ·rename_i gs hu;simp only[az,GB,ij]at this;refine⟨gs,hu,uM this.1.1,this.2.1.1,this.2.1.2,fun f hf=>?_⟩;have:=cI.1 this.2.2 f hf;simpa using this
 ·cases this
end ty
def GF{w:World}{D:Nat->Prop}{B:Nat}(v:Value):RD w D B (qP v) v:=by
 unfold qP;split
 ·exact .int _ _
 ·exact .bool _
 ·exact .str _
 ·split
  ·exact .nil
  ·exact .any _
 ·exact .bt
 ·exact .cN
 ·exact .dz
 ·exact .bz _ _ (.inl ⟨rfl,rfl⟩)
 ·exact .any _
def NM{w:World}{D:Nat->Prop}{B:Nat}(v:Value):RD w D B (vp v) v:=by
 unfold vp;split
 ·rename_i cs;refine .agg _ _ zsi fun i av v h1 h2=>?_;rw[gC]at h1;rw[qw,h2]at h1;simp at h1;subst h1;exact GF v
 ·exact GF v
section rel
variable {E:Env}{S:AS}{a:Act}{w:World}{β:Nat->Value}
def OR.lt{H:Nat->AO}{o:Nat}{ob:AO}(h:OR E w β H o ob){b:Nat}(hb:bi (β o)=some b)(hi:ob.is):b<w.heap.size∧E.own b:=by
 cases ob with
 | none=>exact hi.elim
 | box cs=>
  obtain⟨b',vs,ty,h1,h2,h3,_⟩:=h;rw[h1]at hb;simp[bi]at hb;subst hb;exact⟨(d8.1 h2).1,h3⟩
 | it ks f seen pend=>
  obtain⟨b',mb,sa,h1,h2,h3,_⟩:=h;rw[h1]at hb;simp[bi]at hb;subst hb;exact⟨(d8.1 h2).1,h3⟩
 | arr x t sz ver n f=>
  rcases h with⟨h1,_⟩|⟨g,cap,cur,h1,h2,_,_,_,_,h3,_⟩
  ·rw[h1]at hb;simp[bi]at hb
  ·rw[h1]at hb;simp[bi]at hb;subst hb;exact⟨(d8.1 h2).1,h3⟩
def RelB.ip{tmps:List AV}{H:Nat->AO}{a:Act}(h:RelB E tmps H a w β){b:Nat}(hb:E.D0 b):E.D w β H b:=
 ⟨.inl hb,cf (E.hD b hb).1 h.frame.size,fun o hi hq=>((h.objs o).lt hq hi).2.elim (E.hD b hb).2 fun hn=>absurd (E.hD b hb).1 (lU.2 hn)⟩
def RelB.tab{tmps:List AV}{H:Nat->AO}{a:Act}(h:RelB E tmps H a w β):m9 w:=
 tt E.hT fun b hb=>h.frame.block b (E.hD b (E.dW b hb)).1 (E.hD b (E.dW b hb)).2
def RelB.at(h:RelB E S.tmps S.obj a w β)(t:Nat):RX w (E.D w β S.obj) E.B β S.obj (S.tmp t) (a.tmps.getD t undef):=by
 unfold AS.tmp;rw[cz];cases hq:S.tmps[t]? with
 | none=>exact .d (.any _)
 | some av=>exact h.tmps t av hq
def oS(h:RelB E S.tmps S.obj a w β){g:Option (Unit->Bool)}(hg:∀b,g=some b->b ()=true){x:Operand}{av:AV}(hy:aV S (dj g x) av):
 RX w (E.D w β S.obj) E.B β S.obj av (a.eval x):=by
 cases x with
 | tmp t=>
  have h1:=h.at t;simp only[dj]at hy;replace hy:=hy.tmp;simp only[Act.eval];split at hy
  ·rename_i g' v' he;rw[he]at h1;split at hy
   ·rename_i gb;obtain⟨hc,hr⟩:=hy.cond;have:=hr.ret;subst this;exact h1.vC (hc (hg gb rfl))
   ·have:=hy.ret;subst this;exact h1
  ·have:=hy.ret;subst this;exact h1
 | const v=>have:=hy.ret;subst this;exact .d (NM v)
 | global gl=>
  simp only[dj]at hy;split at hy
  ·rename_i e;cases qE e;have:=hy.ret;subst this;have hd:=h.ip (E.dW s7 (show(0:Nat)<9 by decide));have hp:=h.tab.p;refine .d (.dm .any 5 (fun _=>1) _ (fun _=>0) 0 s7 0 1 zd (.slc .any 5 (fun _=>1) _ s7 0 1 (fun k=>.string (vo.getD k default)) (ao _) zd hd trivial (fun k hk=>?_) (fun i hi=>rfl) (fun i hi=>rfl) (fun i j av hi hj=>?_)))
   ·have hk5:k<vo.length:=hk;rw[eC];refine hp k _ ?_;rw[cz,bf hk5];rfl
   ·have:i=0:=by have:i<1:=hi;omega
    subst this
    match j,hj with
    | 0,hj=>cases hj;exact .str _
    | 1,hj=>cases hj;exact .str _
    | 2,hj=>cases hj;exact .str _
    | 3,hj=>cases hj;exact .str _
    | 4,hj=>cases hj;exact .str _
    | _+5,hj=>cases hj
  ·have:=hy.ret;subst this;exact .d (.any _)
 | func f=>have:=hy.ret;subst this;exact .d (.func f [] #[] rfl (fun i av v h=>by simp at h))
theorem tw(h:RelB E S.tmps S.obj a w β){g:Option (Unit->Bool)}(hg:∀b,g=some b->b ()=true):∀{xs:List Operand} {dA:List AV} (_:aV S (nU g xs) dA),
 dA.length=xs.length∧∀(i:Nat) (av:AV) (x:Operand),dA[i]? = some av->xs[i]? = some x->RX w (E.D w β S.obj) E.B β S.obj av (a.eval x)
 | [],dA,hy=>by
  have:=hy.ret;subst this;exact⟨rfl,fun i av x h=>by simp at h⟩
 | x::xs,dA,hy=>by
  simp only[nU]at hy;obtain⟨v,h1,h2⟩:=hy.bind;obtain⟨vs,h3,h4⟩:=h2.bind;have:=h4.ret;subst this;obtain⟨i1,i2⟩:=tw h hg h3;refine⟨by simp[i1],fun i av y ha hb=>?_⟩;cases i with
  | zero=>simp at ha hb;subst ha;subst hb;exact oS h hg h1
  | succ i=>exact i2 i av y (by simpa using ha) (by simpa using hb)
def RelB.put(h:RelB E S.tmps S.obj a w β){av:AV}{v:Value}(hv:RX w (E.D w β S.obj) E.B β S.obj av v)(d:Option Tmp):
 RelB E (match d with|some d=>S.tmps.set d av|none=>S.tmps) S.obj (a.put d v) w β:=by
 cases d with
 | none=>exact h
 | some d=>
  refine⟨h.defers,by simp[Act.put,h.size],fun t bw ht=>?_,h.objs,h.apart,h.frame,h.pin⟩;simp only[xM]at ht;simp only[Act.put];split at ht
  ·rename_i e;subst e;split at ht
   ·rename_i hlt;simp at ht;subst ht;have:d<a.tmps.size:=by rw[h.size];exact hlt
    simpa[Array.getD,this]using hv
   ·cases ht
  ·rename_i e;have h1:=h.tmps t bw ht;have h2:(a.tmps.setIfInBounds d v).getD t undef=a.tmps.getD t undef:=by
    simp only[jf,Array.getElem?_setIfInBounds_ne e]
   rw[h2];exact h1
end rel
def fJ(S:AS)(wo:List (Nat×AO)):Nat->AO:=oL (gK S.objs wo)
def After(E:Env)(S:AS)(a:Act)(e:Eff)(v:Value)(w:World):Prop:=
 ∃β,RelB E S.tmps (fJ S e.wo) a w β∧RX w (E.D w β (fJ S e.wo)) E.B β (fJ S e.wo) e.dst v
def Goes(P:Program)(E:Env)(S:AS)(a:Act)(w:World)(o:Oper)(e:Eff):Prop:=
 match(execOp a.eval o).run P w with
 | .ok (.value v) w'=>After E S a e v w'
 | .ok .skip w'=>After E S a e undef w'
 | .ok (.enter f args) w'=>Calls P f args w' (fun en w''=>∃v,en=.returned v∧After E S a e v w'')
 | _=>False
section
variable {P:Program}{E:Env}{S:AS}{a:Act}{w:World}{β:Nat->Value}{o:Oper}{e:Eff}
def Goes.value{v:Value}(hr:(execOp a.eval o).run P w=.ok (.value v) w)(h:RelB E S.tmps S.obj a w β)(hw:e.wo=[])(hx:RX w (E.D w β S.obj) E.B β S.obj e.dst v):Goes P E S a w o e:=by
 unfold Goes;rw[hr];have:fJ S e.wo=S.obj:=by rw[hw];rfl
 exact⟨β,by rw[this];exact h,by rw[this];exact hx⟩
def vI{v:AV}{e:Eff}(h:aV S (val v) e):e=⟨v,[],[],none⟩:=h.ret.symm
def fK{T:List (Nat×TI)}{t:Nat}{k:TI->M Eff}{e:Eff}(hT:cn P T)(h:aV S (tl T t k) e):bg P t (aO T t)∧(aO T t).real=true∧aV S (k (aO T t)) e:=by
 unfold tl at h;split at h
 ·rename_i hr;exact⟨hT.at t hr,hr,h⟩
 ·exact h.fail.elim
def yI{α:Type}{c:Prop}[Decidable c]{m:M α}{e:α}(h:aV S (if c then m else .fail) e):c∧aV S m e:=by
 split at h
 ·rename_i hc;exact⟨hc,h⟩
 ·exact h.fail.elim
variable {ti:TI}{t:Nat}
def GG{cs:List AV}{off n j:Nat}{av:AV}(h:((cs.drop off).take n)[j]? = some av):j<n∧cs[off+j]? = some av:=by
 rw[xN]at h;split at h
 ·rename_i hj;exact⟨hj,by simpa using h⟩
 ·cases h
def Cl(h:bg P t ti)(hr:ti.real=true){b off:Nat}(c:Nat->Value)(hc:∀j,j<ti.size->w.cell? ⟨b,off+j,none⟩=some (c j)):
 (loadVar t ⟨b,off,none⟩).run P w=.ok (if ti.agg then .agg ((List.range ti.size).map c).toArray else c 0) w:=by
 have ha:=h.GE (w:=w) hr;have hs:=h.sizeOf (w:=w);unfold loadVar;by_cases hg:ti.agg=true
 ·rw[hg]at ha;have hl:=run_loadCells (P:=P) w ⟨b,off,none⟩ ti.size c (fun j hj=>by rw[li];exact hc j hj);simp[ha,hs,hl,hg]
 ·have hg':ti.agg=false:=by simpa using hg
  rw[hg']at ha;have h0:=hc 0 (by rw[h.one hg'];omega);simp only[fE]at h0;have h2:(Sem.load Mode.plain ⟨b,off,none⟩ Sem.pure).run P w=.ok (c 0) w:=by simp only[Sem.run,h0]
  simp[ha,hg',load,h2]
def tz{D:Nat->Prop}{H:Nat->AO}{B:Nat}{cs:List AV}{off:Nat}{c:Nat->Value}(h1:ti.agg=false->ti.size=1)(hl:off+ti.size<=cs.length)
 (hc:∀(j:Nat) (av:AV),j<ti.size->cs[off+j]? = some av->RX w D B β H av (c j)):
 RX w D B β H (nV ti cs off) (if ti.agg then .agg ((List.range ti.size).map c).toArray else c 0):=by
 unfold nV;by_cases hg:ti.agg=true
 ·simp only[hg,bC];refine .agg _ _ (by simp;omega) (fun i av v hi hv=>?_);obtain⟨hj,ha⟩:=GG hi;simp[hj]at hv;subst hv;exact hc i av hj ha
 ·have hg':ti.agg=false:=by simpa using hg
  have hs:=h1 hg';have hlt:off<cs.length:=zo
  have:(cs.drop off).headD .any=cs[off]:=by
   rw[iH hlt];rfl
  simp only[hg',jc,dg,this];exact hc 0 _ zo (by simp[hlt])
def GH(ht:bg P t ti)(hr:ti.real=true)(h:RelB E S.tmps S.obj a w β){p:AV}{v:Value}(hp:RX w (E.D w β S.obj) E.B β S.obj p v)(hy:aV S (vq ti p) e):
 ∃u,(Instr.loadAt t v).run P w=.ok u w∧RX w (E.D w β S.obj) E.B β S.obj e.dst u∧e.wo=[]∧e.new=[]∧e.call=none:=by
 unfold vq at hy;split at hy
 ·-- a box
  rename_i o off;have hy:=hy.obj;have ho:=h.objs o;split at hy
  ·rename_i cs hcs;rw[hcs]at ho;obtain⟨hl,hy⟩:=yI hy;obtain rfl:=vI hy;obtain⟨b,vs,ty,hβ,hh,_,hsz,hcells,_⟩:=ho;obtain⟨b',gi,rfl⟩:=hp.dF;rw[hβ]at gi;simp at gi;subst gi;have hcell:∀j,j<ti.size->w.cell? ⟨b,off+j,none⟩=some (vs.getD (off+j) undef):=fun j hj=>by
    have hj':off+j<vs.size:=zo
    simp[World.cell?,hh,Array.getD,hj']
   refine⟨_,by exact Cl ht hr (fun j=>vs.getD (off+j) undef) hcell,tz ht.one hl (fun j av hj fL=>?_),rfl,rfl,rfl⟩;have hj':off+j<vs.size:=zo
   exact hcells _ av _ fL (by simp[Array.getD,hj'])
  ·exact hy.fail.elim
 ·-- an element of data
  rename_i fr sz n f i off;obtain⟨hl,hy⟩:=yI hy;obtain rfl:=vI hy;obtain⟨b,o,cap,hi,hd,rfl⟩:=hp.tp;generalize hq:Value.slice (some ⟨b,o,none⟩) (n ()) cap=q at hd;cases hd with
  | empty _ _ _ _ _ _ hn _=>omega
  | slc _ _ _ _ b' o' cap' c hn hc hD hB hcell hlen hone hel=>
   simp at hq;obtain⟨⟨rfl,rfl⟩,rfl⟩:=hq;have hbound:∀j,j<ti.size->i ()*sz+off+j<n ()*sz:=fun j hj=>by
    have:(i ()+1)*sz<=n ()*sz:=gE _ hi;rw[fc]at this;omega
   have hcell':∀j,j<ti.size->w.cell? ⟨b,o+i ()*sz+off+j,none⟩=some (c (i ()*sz+(off+j))):=fun j hj=>by
    have:=hcell (i ()*sz+off+j) (hbound j hj);rw[show o+i ()*sz+off+j=o+(i ()*sz+off+j)from zo,this,ik]
   have hf:(f i)=f fun _=>i ():=rfl;refine⟨_,by exact Cl ht hr (fun j=>c (i ()*sz+(off+j))) hcell',tz ht.one ?_ (fun j av hj fL=>?_),rfl,rfl,rfl⟩
   ·have:=hlen (i ()) hi;rw[hf];omega
   ·exact .d (hel (i ()) (off+j) av hi (by rw[hf]at fL;exact fL))
 ·-- an element of an own array
  rename_i o sz ver n i off;have hy:=hy.obj;have ho:=h.objs o;split at hy
  ·rename_i x ty sz' aM n' f hcs;rw[hcs]at ho;obtain⟨hl,hy⟩:=yI hy;obtain rfl:=vI hy;simp at hl;obtain⟨⟨hsz,iN⟩,hl⟩:=hl;obtain⟨_,hi,hp⟩:=hp.jk;obtain⟨_,hp⟩:=hp _ _ _ _ _ _ hcs;obtain⟨hn,hp⟩:=hp iN;obtain⟨g,cap,hβ,rfl⟩:=hp hsz;subst hsz;rcases ho with⟨gi,_⟩|⟨g',cap',cur,gi,hh,hc1,hc2,hc3,hx,hown,hel⟩
   ·rw[hβ]at gi;simp at gi
   ·rw[hβ]at gi;simp at gi;obtain⟨rfl,hnn,rfl⟩:=gi;have hbound:∀j,j<ti.size->i ()*sz+off+j<cur.size:=fun j hj=>by
     have:(i ()+1)*sz<=n ()*sz:=gE _ hi;rw[fc]at this;have h2:n ()*sz<=cap*sz:=gE _ zo;omega
    have hcell':∀j,j<ti.size->w.cell? ⟨g,i ()*sz+off+j,none⟩=some (cur.getD (i ()*sz+(off+j)) undef):=fun j hj=>by
     have h1:=hbound j hj;rw[ik]at h1;simp[World.cell?,hh,Array.getD,ik,h1]
    obtain⟨hlen,_,Cm⟩:=hel (i ()) zo;have hf:(f i)=f fun _=>i ():=rfl;refine⟨_,by exact Cl ht hr (fun j=>cur.getD (i ()*sz+(off+j)) undef) hcell',tz ht.one ?_ (fun j av hj fL=>?_),rfl,rfl,rfl⟩
    ·rw[hf];omega
    ·refine .d (Cm (off+j) av _ (by rw[hf]at fL;exact fL) ?_);have h1:=hbound j hj;rw[ik]at h1;simp[Array.getD,h1]
  ·exact hy.fail.elim
 ·exact hy.fail.elim
end
section
variable {P:Program}{E:Env}{S:AS}{a:Act}{w:World}{β:Nat->Value}{o:Oper}{e:Eff}{ti:TI}{t:Nat}{T:List (Nat×TI)}
def dZ(E:Env)(S:AS)(w:World)(β:Nat->Value)(e:Eff)(r:Result Value):Prop:=
 ∃u,r=.ok u w∧RX w (E.D w β S.obj) E.B β S.obj e.dst u∧e.wo=[]∧e.new=[]∧e.call=none
def NN(ht:bg P t ti){p:AV}{v:Value}{i:Nat}(hp:RX w (E.D w β S.obj) E.B β S.obj p v)(hy:aV S (BQ ti p i) e):
 dZ E S w β e ((Instr.fieldAt t v i).run P w):=by
 unfold BQ vr at hy;split at hy
 ·rename_i off ft hfo;split at hfo
  ·rename_i fs hk;obtain⟨gs,hu,hfs,hpos⟩:=ht.struct hk;have hg:∃f,gs[i]? = some f∧f.offset=off:=by
    rw[<- hfs]at hfo;simp at hfo;obtain⟨f,h1,h2⟩:=hfo;exact⟨f,h1,h2.1⟩
   obtain⟨f,hf,hoff⟩:=hg;have hrun:∀(A:Addr),A.spot=none->(Instr.fieldAt t (.pointer (some A)) i).run P w=.ok (.pointer (some ⟨A.block,A.off+off,none⟩)) w:=by
    rintro⟨b,o,s⟩ hs;simp at hs;subst hs;obtain⟨fi,hfi,hfs⟩:=hpos f (Array.mem_toList_iff.2 (Array.mem_of_getElem? hf));simp[Instr.fieldAt,bF hu,hf,Instr.sureAddr,fieldPlace,hoff,li,sizeOf,typeInfo,hfi,hfs]
   split at hy
   ·rename_i b o;obtain rfl:=vI hy;obtain⟨b',hβ,rfl⟩:=hp.dF;exact⟨_,hrun _ rfl,.ptr _ _ _ hβ,rfl,rfl,rfl⟩
   ·obtain rfl:=vI hy;obtain⟨b,o,cap,hi,hd,rfl⟩:=hp.tp;exact⟨_,hrun _ rfl,by simpa[ik]using RX.dm _ _ _ _ _ _ _ _ _ hi hd,rfl,rfl,rfl⟩
   ·rename_i o sz ver n ix of;obtain rfl:=vI hy;obtain⟨⟨g,p,rfl⟩,hi,hd⟩:=hp.jk;refine⟨_,hrun _ rfl,.ci _ _ _ _ _ _ _ ⟨_,_,rfl⟩ hi (fun x t sz' aM n' f hH=>?_),rfl,rfl,rfl⟩;obtain⟨h1,h2⟩:=hd x t sz' aM n' f hH;refine⟨h1,fun e=>⟨(h2 e).1,fun e'=>?_⟩⟩;obtain⟨g',cap,h3,h4⟩:=(h2 e).2 e';simp at h4;obtain⟨rfl,rfl⟩:=h4;exact⟨g,cap,h3,by simp[ik]⟩
   ·exact hy.fail.elim
  ·cases hfo
 ·exact hy.fail.elim
def ly{k:TI->M Eff}(hT:cn P T)(h:aV S (tl T t k) e):∃te,bg P t te∧te.real=true∧aO T t=te∧aV S (k te) e:=
 let ⟨a,b,c⟩:=fK hT h;⟨_,a,b,rfl,c⟩
def RD.gY{D:Nat->Prop}{B:Nat}{fr:FB}{sz:Nat}{n:Unit->Nat}{f:(Unit->Nat)->List AV}{v:Value}(h:RD w D B (.slc fr sz n f) v):∃p cap,v=.slice p (n ()) cap∧cap<=maxLen∧n ()<=cap∧(0<n ()->∃b o,p=some ⟨b,o,none⟩):=by
 cases h with
 | empty _ _ _ _ p cap hn hc=>exact⟨p,cap,by rw[hn],hc,zo,fun h=>zo⟩
 | slc _ _ _ _ b o cap c hn hc _ _ _ _ _ _=>exact⟨_,cap,rfl,hc,hn,fun _=>⟨b,o,rfl⟩⟩
def NO(hT:cn P T)(ht:bg P t ti){x i:AV}{v iv:Value}(hx:RX w (E.D w β S.obj) E.B β S.obj x v)(hi:RX w (E.D w β S.obj) E.B β S.obj i iv)
 (hy:aV S (BR T ti x i) e):dZ E S w β e ((Instr.indexAt t v iv).run P w):=by
 unfold BR at hy;split at hy
 ·rename_i k i;obtain rfl:=hi.fG;split at hy
  ·rename_i el fr sz n f hk;have hu:=ht.slice hk;obtain⟨hc,hy⟩:=hy.cond;obtain⟨te,hte,_,_,hy⟩:=ly hT hy;obtain⟨hsz,hy⟩:=yI hy;obtain rfl:=vI hy;simp at hsz;have hd:=hx.gY;obtain⟨p,cap,rfl,_,_,hp⟩:=hd.gY;obtain⟨b,o,rfl⟩:=hp zo;have hs:=hte.sizeOf (w:=w);refine⟨.pointer (some ⟨b,o+(i ()).toNat*sz+0,none⟩),?_,.dm _ _ _ _ _ _ _ _ _ zo hd,rfl,rfl,rfl⟩;simp[Instr.indexAt,asIntOf,bF hu,hc.1,hc.2,hs,hsz,li]
  ·rename_i el ob ver n hk;have hu:=ht.slice hk;obtain⟨hc,hy⟩:=hy.cond;obtain⟨te,hte,_,_,hy⟩:=ly hT hy;obtain rfl:=vI hy;obtain⟨hv,hr⟩:=hx.aI;have hs:=hte.sizeOf (w:=w);rcases hv with⟨_,h0⟩|⟨b,cap,rfl,hc1,hc2⟩
   ·omega
   ·refine⟨.pointer (some ⟨b,0+(i ()).toNat*te.size,none⟩),?_,.ci _ _ _ _ _ _ _ ⟨_,_,rfl⟩ zo (fun x t sz' aM n' f hH=>?_),rfl,rfl,rfl⟩
    ·simp[Instr.indexAt,asIntOf,bF hu,hc.1,hc.2,hs,li]
    ·obtain⟨h1,h2⟩:=hr x t sz' aM n' f hH;refine⟨h1,fun e=>⟨(h2 e).1,fun _=>⟨b,cap,(h2 e).2.symm,zsi⟩⟩⟩
  ·rename_i el ob n hk;have hu:=ht.slice hk;split at hy
   ·rename_i j hj;obtain⟨hlt,hy⟩:=yI hy;obtain⟨te,hte,_,_,hy⟩:=ly hT hy;obtain rfl:=vI hy;obtain⟨b,hβ,rfl⟩:=hx.Cj;have hs:=hte.sizeOf (w:=w);refine⟨.pointer (some ⟨b,j*te.size,none⟩),?_,.ptr _ _ _ hβ,rfl,rfl,rfl⟩;have h0:(0:Int)<=Int.ofNat j:=Int.natCast_nonneg j;have h1:Int.ofNat j<(n:Int):=by simpa using hlt
    simp[Instr.indexAt,asIntOf,bF hu,hj,hs,li,hlt]
   ·exact hy.fail.elim
  ·rename_i n el ob off hk;have hu:=ht.array hk;split at hy
   ·rename_i j hj;obtain⟨hlt,hy⟩:=yI hy;obtain⟨te,hte,_,_,hy⟩:=ly hT hy;obtain rfl:=vI hy;obtain⟨b,hβ,rfl⟩:=hx.dF;have hs:=hte.sizeOf (w:=w);refine⟨.pointer (some ⟨b,off+j*te.size,none⟩),?_,.ptr _ _ _ hβ,rfl,rfl,rfl⟩;have h0:(0:Int)<=Int.ofNat j:=Int.natCast_nonneg j;have h1:Int.ofNat j<(n:Int):=by simpa using hlt
    simp[Instr.indexAt,asIntOf,bF hu,hj,Instr.sureAddr,hs,li,hlt]
   ·exact hy.fail.elim
  ·exact hy.fail.elim
 ·exact hy.fail.elim
def NP(ht:bg P t ti){x:AV}{v:Value}{ty:TypeId}{rest:List TypeId}(hx:RX w (E.D w β S.obj) E.B β S.obj x v)(hy:aV S (BT ti x) e):
 dZ E S w β e ((Builtin.len_ (t::rest).toArray ty #[v]).run P w):=by
 unfold BT at hy;split at hy
 ·rename_i s hk;obtain rfl:=vI hy;obtain rfl:=hx.gX;exact⟨_,by simp[Builtin.len_,bF (ht.str hk),goInt],.d (.int _ _),rfl,rfl,rfl⟩
 ·rename_i el fr sz n f hk;obtain rfl:=vI hy;obtain⟨p,cap,rfl,_⟩:=hx.gY.gY;exact⟨_,by simp[Builtin.len_,bF (ht.slice hk),goInt],.d (.int .i64 (fun _=>(n ():Int))),rfl,rfl,rfl⟩
 ·rename_i el ob ver n hk;obtain rfl:=vI hy;obtain⟨hv,_⟩:=hx.aI;rcases hv with⟨rfl,h0⟩|⟨g,cap,rfl,_⟩
  ·exact⟨.int .i64 (n ()),by simp[Builtin.len_,bF (ht.slice hk),goInt,h0],.d (.int .i64 (fun _=>(n ():Int))),rfl,rfl,rfl⟩
  ·exact⟨_,by simp[Builtin.len_,bF (ht.slice hk),goInt],.d (.int .i64 (fun _=>(n ():Int))),rfl,rfl,rfl⟩
 ·rename_i el hk;obtain rfl:=vI hy;obtain rfl:=hx.kG;exact⟨_,by simp[Builtin.len_,bF (ht.slice hk),goInt],.d (.int .i64 (fun _=>(0:Int))),rfl,rfl,rfl⟩
 ·rename_i el ob n hk;obtain rfl:=vI hy;obtain⟨b,_,rfl⟩:=hx.Cj;exact⟨_,by simp[Builtin.len_,bF (ht.slice hk),goInt],.d (.int .i64 (fun _=>(n:Int))),rfl,rfl,rfl⟩
 ·exact hy.fail.elim
def NQ{op:UnOp}{x:AV}{v:Value}(hx:RX w (E.D w β S.obj) E.B β S.obj x v)(hy:aV S (BY op x) e):dZ E S w β e ((Op.unary op v).run P w):=by
 unfold BY at hy;split at hy
 ·rename_i b;obtain rfl:=hx.gW;split at hy
  ·obtain rfl:=vI hy;exact⟨_,by simp[Op.unary],.d (.bool (fun _=>!b ())),rfl,rfl,rfl⟩
  ·exact hy.fail.elim
 ·rename_i k n;obtain rfl:=hx.fG;split at hy
  ·obtain rfl:=vI hy;exact⟨.int k (k.wrap (0-n ())),by simp[Op.unary,Op.intArith],.d (.int k (fun _=>k.wrap (0-n ()))),rfl,rfl,rfl⟩
  ·exact hy.fail.elim
 ·exact hy.fail.elim
def NS{c x y:AV}{cv xv yv:Value}(hc:RX w (E.D w β S.obj) E.B β S.obj c cv)(hx:RX w (E.D w β S.obj) E.B β S.obj x xv)(hyv:RX w (E.D w β S.obj) E.B β S.obj y yv)(hy:aV S (BZ c x y) e):
 dZ E S w β e ((do pure (if <- asBool cv then xv else yv):Sem Value).run P w):=by
 unfold BZ at hy;split at hy
 ·rename_i c;obtain rfl:=hc.gW;obtain⟨x',h1,hy⟩:=hy.bind;obtain⟨y',h2,hy⟩:=hy.bind;have hx':c ()=true->RX w (E.D w β S.obj) E.B β S.obj x' xv:=by
   intro hcc;split at h1
   ·obtain⟨hi,h1⟩:=h1.cond;have:=h1.ret;subst this;exact hx.vC (hi hcc)
   ·have:=h1.ret;subst this;exact hx
  have hy':c ()=false->RX w (E.D w β S.obj) E.B β S.obj y' yv:=by
   intro hcc;split at h2
   ·obtain⟨hi,h2⟩:=h2.cond;have:=h2.ret;subst this;exact hyv.vC (hi hcc)
   ·have:=h2.ret;subst this;exact hyv
  split at hy
  ·rename_i _ _ b1 b2 _;obtain rfl:=vI hy;cases hcc:c ()with
   | true=>
    have:=(hx' hcc).gW;subst this;exact⟨.bool (b1 ()),by simp[asBool,hcc],by simpa[hcc]using RX.d (RD.bool (fun _=>if c ()=true then b1 ()else b2 ())),rfl,rfl,rfl⟩
   | false=>
    have:=(hy' hcc).gW;subst this;exact⟨.bool (b2 ()),by simp[asBool,hcc],by simpa[hcc]using RX.d (RD.bool (fun _=>if c ()=true then b1 ()else b2 ())),rfl,rfl,rfl⟩
  ·exact hy.fail.elim
 ·exact hy.fail.elim
def GI(k:IntKind)(x y:Int)(ts:Array TypeId)(ty:TypeId):(Builtin.min_ ts ty #[.int k x,.int k y]).run P w=.ok (.int k (if y<x then y else x)) w ∧
 (Builtin.max_ ts ty #[.int k x,.int k y]).run P w=.ok (.int k (if x<y then y else x)) w:=by
 constructor
 ·simp[Builtin.min_,Builtin.min2]
 ·simp[Builtin.max_,Builtin.max2]
end
def Cn(a b:ByteArray):(a.toList==b.toList)=decide (a=b):=by
 rw[ByteArray.toList_eq,ByteArray.toList_eq,mQ];simp only[dv,cX];refine⟨fun h=>?_,fun h=>by rw[h]⟩;cases a;cases b;exact ak ByteArray.mk (Fu.1 h)
section
variable {P:Program}{E:Env}{S:AS}{a:Act}{w:World}{β:Nat->Value}{o:Oper}{e:Eff}{ti:TI}{t:Nat}{T:List (Nat×TI)}
def NT(op:BinOp)(x y:Operand)(k k':IntKind)(m n:Int):(eqGuard op t x y (.int k m) (.int k' n)).run P w=.ok () w:=by
 cases op<;>simp[eqGuard]
def NU(op:BinOp)(x y:Operand)(m n:ByteArray):(eqGuard op t x y (.string m) (.string n)).run P w=.ok () w:=by
 cases op<;>simp[eqGuard]
def NV(op:BinOp)(x y:Operand)(m n:Bool):(eqGuard op t x y (.bool m) (.bool n)).run P w=.ok () w:=by
 cases op<;>simp[eqGuard]
def GJ(hu:P.underlying t=some .bool)(x y:Bool):(Op.equal t (.bool x) (.bool y)).run P w=.ok (x==y) w:=run_equal_bool w t x y hu
def NW{el:TypeId}(hu:P.underlying t=some (.slice el))(p:Option Addr)(n c d:Nat):(Op.equalIn (d+1) t (.slice p n c) (.slice none 0 0)).run P w=.ok p.isNone w:=by
 simp only[Op.equalIn,ec,bF hu,cm];cases p<;>simp
def GK{el:TypeId}(hu:P.underlying t=some (.slice el))(p:Option Addr)(n c:Nat):(Op.equal t (.slice p n c) (.slice none 0 0)).run P w=.ok p.isNone w:=
 NW hu p n c 9999
def NX{el:TypeId}(hu:P.underlying t=some (.pointer el))(p:Addr)(d:Nat):(Op.equalIn (d+1) t (.pointer (some p)) (.pointer none)).run P w=.ok false w:=by
 simp only[Op.equalIn,ec,bF hu,cm];simp
def GL{el:TypeId}(hu:P.underlying t=some (.pointer el))(p:Addr):(Op.equal t (.pointer (some p)) (.pointer none)).run P w=.ok false w:=
 NX hu p 9999
def NY(ht:bg P t ti){op:BinOp}{x y:AV}{xv yv:Value}(xo yo:Operand)(hx:RX w (E.D w β S.obj) E.B β S.obj x xv)(hyv:RX w (E.D w β S.obj) E.B β S.obj y yv)(hy:aV S (BU ti op x y) e):
 dZ E S w β e ((do eqGuard op t xo yo xv yv;binOp op t xv yv:Sem Value).run P w):=by
 unfold BU at hy;split at hy
 ·rename_i k m k' n;obtain rfl:=hx.fG;obtain rfl:=hyv.fG;simp only[ec,NT,cm];cases op<;>simp only[]at hy
  ·replace hy:=yI hy;obtain⟨hkk,hy⟩:=hy;subst hkk;obtain rfl:=vI hy;exact⟨_,by simp[binOp,Op.intArith],.d (.int k (fun _=>k.wrap (m ()+n ()))),rfl,rfl,rfl⟩
  ·replace hy:=yI hy;obtain⟨hkk,hy⟩:=hy;subst hkk;obtain rfl:=vI hy;exact⟨_,by simp[binOp,Op.intArith],.d (.int k (fun _=>k.wrap (m ()-n ()))),rfl,rfl,rfl⟩
  ·replace hy:=yI hy;obtain⟨hkk,hy⟩:=hy;subst hkk;obtain rfl:=vI hy;exact⟨_,by simp[binOp,Op.intArith],.d (.int k (fun _=>k.wrap (m ()*n ()))),rfl,rfl,rfl⟩
  ·replace hy:=yI hy;obtain⟨hkk,hy⟩:=hy;subst hkk;obtain⟨hc,hy⟩:=hy.cond;obtain rfl:=vI hy;exact⟨_,by simp[binOp,Op.intDiv,hc],.d (.int k (fun _=>k.wrap ((m ()).tdiv (n ())))),rfl,rfl,rfl⟩
  ·replace hy:=yI hy;obtain⟨hkk,hy⟩:=hy;subst hkk;obtain⟨hc,hy⟩:=hy.cond;obtain rfl:=vI hy;exact⟨_,by simp[binOp,Op.intDiv,hc],.d (.int k (fun _=>(m ()).tmod (n ()))),rfl,rfl,rfl⟩
  ·replace hy:=yI hy;obtain⟨hkk,hy⟩:=hy;subst hkk;obtain rfl:=vI hy;exact⟨_,by simp[binOp,Op.intBits],.d (.int k (fun _=>k.wrap (BitVec.ofInt k.bits (m ()) &&& BitVec.ofInt k.bits (n ())).toNat)),rfl,rfl,rfl⟩
  ·replace hy:=yI hy;obtain⟨hkk,hy⟩:=hy;subst hkk;obtain rfl:=vI hy;exact⟨_,by simp[binOp,Op.intBits],.d (.int k (fun _=>k.wrap (BitVec.ofInt k.bits (m ()) ||| BitVec.ofInt k.bits (n ())).toNat)),rfl,rfl,rfl⟩
  ·replace hy:=yI hy;obtain⟨hkk,hy⟩:=hy;subst hkk;obtain rfl:=vI hy;exact⟨_,by simp[binOp,Op.intBits],.d (.int k (fun _=>k.wrap (BitVec.ofInt k.bits (m ()) ^^^ BitVec.ofInt k.bits (n ())).toNat)),rfl,rfl,rfl⟩
  ·obtain⟨hc,hy⟩:=hy.cond;obtain rfl:=vI hy;refine⟨.int k (k.wrap (m ()*2^(min (n ()).toNat k.bits))),?_,.d (.int k (fun _=>k.wrap (m ()*2^(min (n ()).toNat k.bits)))),rfl,rfl,rfl⟩;have:¬n ()<0:=by omega
   simp[binOp,Op.shift,this]
  ·obtain⟨hc,hy⟩:=hy.cond;obtain rfl:=vI hy;refine⟨.int k ((m ()).fdiv (2^(min (n ()).toNat k.bits))),?_,.d (.int k (fun _=>(m ()).fdiv (2^(min (n ()).toNat k.bits)))),rfl,rfl,rfl⟩;have:¬n ()<0:=by omega
   simp[binOp,Op.shift,this]
  ·replace hy:=yI hy;obtain⟨hkk,hy⟩:=hy;subst hkk;exact hy.fail.elim
  ·replace hy:=yI hy;obtain⟨hkk,hy⟩:=hy;subst hkk;obtain rfl:=vI hy;exact⟨.bool (m ()==n ()),by simp[binOp,Op.intCmp],.d (.bool (fun _=>m ()==n ())),rfl,rfl,rfl⟩
  ·replace hy:=yI hy;obtain⟨hkk,hy⟩:=hy;subst hkk;obtain rfl:=vI hy;exact⟨.bool (m () != n ()),by simp[binOp,Op.intCmp],.d (.bool (fun _=>m () != n ())),rfl,rfl,rfl⟩
  ·replace hy:=yI hy;obtain⟨hkk,hy⟩:=hy;subst hkk;obtain rfl:=vI hy;exact⟨.bool (decide (m ()<n ())),by simp[binOp,Op.intCmp],.d (.bool (fun _=>decide (m ()<n ()))),rfl,rfl,rfl⟩
  ·replace hy:=yI hy;obtain⟨hkk,hy⟩:=hy;subst hkk;obtain rfl:=vI hy;exact⟨.bool (decide (m ()<=n ())),by simp[binOp,Op.intCmp],.d (.bool (fun _=>decide (m ()<=n ()))),rfl,rfl,rfl⟩
  ·replace hy:=yI hy;obtain⟨hkk,hy⟩:=hy;subst hkk;obtain rfl:=vI hy;exact⟨.bool (decide (n ()<m ())),by simp[binOp,Op.intCmp],.d (.bool (fun _=>decide (n ()<m ()))),rfl,rfl,rfl⟩
  ·replace hy:=yI hy;obtain⟨hkk,hy⟩:=hy;subst hkk;obtain rfl:=vI hy;exact⟨.bool (decide (n ()<=m ())),by simp[binOp,Op.intCmp],.d (.bool (fun _=>decide (n ()<=m ()))),rfl,rfl,rfl⟩
 ·rename_i m n;obtain rfl:=hx.gX;obtain rfl:=hyv.gX;simp only[ec,NU,cm];split at hy
  ·obtain rfl:=vI hy;exact⟨_,by simp only[binOp,Op.stringOp];rfl,.d (by simp only[Cn];exact .bool (fun _=>decide (m ()=n ()))),rfl,rfl,rfl⟩
  ·obtain rfl:=vI hy;exact⟨_,by simp only[binOp,Op.stringOp];rfl,.d (by simp only[Cn];exact .bool (fun _=>!decide (m ()=n ()))),rfl,rfl,rfl⟩
  ·obtain rfl:=vI hy;exact⟨_,by simp only[binOp,Op.stringOp];rfl,.d (.bool (fun _=>Op.bytesLess (m ()).toList (n ()).toList)),rfl,rfl,rfl⟩
  ·obtain rfl:=vI hy;exact⟨_,by simp only[binOp,Op.stringOp];rfl,.d (.bool (fun _=>!(Op.bytesLess (m ()).toList (n ()).toList||(m ()).toList==(n ()).toList))),rfl,rfl,rfl⟩
  ·obtain rfl:=vI hy;exact⟨_,by simp only[binOp,Op.stringOp];rfl,.d (.bool (fun _=>Op.bytesLess (m ()).toList (n ()).toList||(m ()).toList==(n ()).toList)),rfl,rfl,rfl⟩
  ·obtain rfl:=vI hy;exact⟨_,by simp only[binOp,Op.stringOp];rfl,.d (.bool (fun _=>!Op.bytesLess (m ()).toList (n ()).toList)),rfl,rfl,rfl⟩
  ·obtain⟨hc,hy⟩:=hy.cond;obtain rfl:=vI hy;have hm:¬((((m ()).size+(n ()).size:Nat):Int)>IntKind.i64.max):=by
    have:IntKind.i64.max=9223372036854775807:=zd
    rw[this];omega
   exact⟨_,by simp only[binOp,Op.stringOp,aa hm];rfl,.d (.str (fun _=>m ()++n ())),rfl,rfl,rfl⟩
  ·exact hy.fail.elim
 ·rename_i m n;obtain rfl:=hx.gW;obtain rfl:=hyv.gW;simp only[ec,NV,cm];split at hy
  ·rename_i hk;obtain rfl:=vI hy;exact⟨.bool (m ()==n ()),by simp[binOp,GJ (ht.bool hk)],.d (.bool (fun _=>m ()==n ())),rfl,rfl,rfl⟩
  ·rename_i hk;obtain rfl:=vI hy;exact⟨.bool (m () != n ()),by simp[binOp,GJ (ht.bool hk),bne],.d (.bool (fun _=>m () != n ())),rfl,rfl,rfl⟩
  ·exact hy.fail.elim
 ·rename_i o off;obtain⟨b,_,rfl⟩:=hx.dF;obtain rfl:yv=.pointer none:=by cases hyv with|d h=>cases h;rfl
  have hg:(eqGuard op t xo yo (.pointer (some ⟨b,off,none⟩)) (.pointer none)).run P w=.ok () w:=by cases op<;>simp[eqGuard]
  simp only[ec,hg,cm];split at hy
  ·rename_i hk;obtain rfl:=vI hy;exact⟨.bool false,by simp[binOp,GL (ht.pointer hk)],.d (.bool (fun _=>false)),rfl,rfl,rfl⟩
  ·rename_i hk;obtain rfl:=vI hy;exact⟨.bool true,by simp[binOp,GL (ht.pointer hk)],.d (.bool (fun _=>true)),rfl,rfl,rfl⟩
  ·exact hy.fail.elim
 ·split at hy
  ·rename_i n hs;obtain rfl:=hyv.kG;have hv:∃p c,xv=.slice p (n ()) c∧(p=none->n ()=0):=by
    unfold Gt at hs;split at hs
    ·simp only[cB]at hs;subst hs;rename_i m _;obtain⟨p,cap,rfl,_,_,hp⟩:=hx.gY.gY;refine⟨_,_,rfl,fun h=>?_⟩;rcases sF (m ())with h0|h0
     ·exact h0
     ·obtain⟨b,o,h1⟩:=hp h0;rw[h]at h1;cases h1
    ·simp only[cB]at hs;subst hs;rcases hx.aI.1 with⟨rfl,h0⟩|⟨g,cap,rfl,_⟩
     ·exact⟨none,0,by rw[h0],fun _=>h0⟩
     ·exact⟨_,_,rfl,fun h=>by cases h⟩
    ·simp only[cB]at hs;subst hs;exact⟨_,_,hx.kG,fun _=>rfl⟩
    ·cases hs
   obtain⟨p,c,rfl,hp⟩:=hv;have hg:(eqGuard op t xo yo (.slice p (n ()) c) (.slice none 0 0)).run P w=.ok () w:=by cases op<;>simp[eqGuard]
   simp only[ec,hg,cm];split at hy
   ·rename_i hk;obtain rfl:=vI hy;exact⟨.bool p.isNone,by simp[binOp,GK (ht.slice hk)],.d (.fd _ _ _ (fun h=>hp (by simpa using h)) (fun _=>trivial)),rfl,rfl,rfl⟩
   ·rename_i hk;obtain rfl:=vI hy;exact⟨.bool (!p.isNone),by simp[binOp,GK (ht.slice hk)],.d (.fd _ _ _ (fun _=>trivial) (fun h=>hp (by simpa using h))),rfl,rfl,rfl⟩
   ·exact hy.fail.elim
  ·exact hy.fail.elim
 ·exact hy.fail.elim
def yy{cs new:List AV}{off:Nat}(h:off+new.length<=cs.length):(splice cs off new).length=cs.length:=by
 simp[splice];omega
def NZ{sz off:Nat}{f:Unit->List AV}{new:List AV}(h:(f ()).length=sz):BO sz f off new=splice (f ()) off new:=by
 unfold BO;split
 ·rename_i q;simp only[az,dv]at q;obtain⟨rfl,q⟩:=q;unfold splice;rw[qB zo];simp
 ·rfl
def yz{D:Nat->Prop}{B:Nat}{H:Nat->AO}{x:AV}{v:Value}(hx:RX w D B β H x v)(hc:x.cells.all AV.cell=true):
 x.cells.length=v.cells.size∧∀(i:Nat) (av:AV) (u:Value),x.cells[i]? = some av->v.cells[i]? = some u->RX w D B β H av u:=by
 have one:∀(x:AV) (v:Value),RX w D B β H x v->x.cells=[x]->v.cells=#[v]->x.cells.length=v.cells.size∧∀(i:Nat) (av:AV) (u:Value),x.cells[i]? = some av->v.cells[i]? = some u->RX w D B β H av u:=by
  intro x v hx h1 h2;rw[h1,h2];refine⟨rfl,fun i av u hi hu=>?_⟩;cases i with
  | zero=>simp at hi hu;subst hi;subst hu;exact hx
  | succ i=>simp at hi
 cases x with
 | agg cs=>
  obtain⟨vs,rfl,hl,hel⟩:=hx.vB;exact⟨hl,hel⟩
 | int k n=>have:=hx.fG;subst this;exact one _ _ hx rfl rfl
 | bool b=>have:=hx.gW;subst this;exact one _ _ hx rfl rfl
 | str s=>have:=hx.gX;subst this;exact one _ _ hx rfl rfl
 | nil=>have:=hx.kG;subst this;exact one _ _ hx rfl rfl
 | bt=>have:=hx.yw;subst this;exact one _ _ hx rfl rfl
 | cN=>cases hx with|d h=>cases h;exact one _ _ (.d .cN) rfl rfl
 | bj t=>cases hx with|d h=>cases h;exact one _ _ (.d (.bj t)) rfl rfl
 | dz=>cases hx with|d h=>cases h;exact one _ _ (.d .dz) rfl rfl
 | fd t f=>obtain⟨b,rfl,_⟩:=hx.Cf;exact one _ _ hx rfl rfl
 | bz n=>rcases hx.yu with⟨_,rfl⟩|⟨_,_,_,rfl⟩<;>exact one _ _ hx rfl rfl
 | slc fr sz n f=>obtain⟨p,cap,rfl,_⟩:=hx.gY.gY;exact one _ _ hx rfl rfl
 | func fn cs=>obtain⟨vs,rfl,_⟩:=hx.pI;exact one _ _ hx rfl rfl
 | ptr o off=>obtain⟨b,_,rfl⟩:=hx.dF;exact one _ _ hx rfl rfl
 | dm fr sz n f i off=>obtain⟨b,o,cap,_,_,rfl⟩:=hx.tp;exact one _ _ hx rfl rfl
 | fmap es=>obtain⟨b,_,_,rfl,_⟩:=hx.Cg;exact one _ _ hx rfl rfl
 | di ks f=>rcases hx.Ci with⟨rfl,_⟩|⟨b,_,_,rfl,_⟩<;>exact one _ _ hx rfl rfl
 | gJ n ks f=>simp[AV.cells,AV.cell]at hc
 | ci o sz ver n i off=>obtain⟨⟨g,p,rfl⟩,_⟩:=hx.jk;exact one _ _ hx rfl rfl
 | aJ o ver n=>
  obtain⟨hv,_⟩:=hx.aI;rcases hv with⟨rfl,_⟩|⟨g,cap,rfl,_⟩
  ·exact one _ _ hx rfl rfl
  ·exact one _ _ hx rfl rfl
 | any=>simp[AV.cells,AV.cell]at hc
 | val v=>simp[AV.cells,AV.cell]at hc
 | ag vs=>simp[AV.cells,AV.cell]at hc
 | gw t f=>simp[AV.cells,AV.cell]at hc
 | may g v=>simp[AV.cells,AV.cell]at hc
 | bG o n=>simp[AV.cells,AV.cell]at hc
 | a8 fn o=>obtain⟨b,_,rfl⟩:=hx.yx;exact one _ _ hx rfl rfl
def GM{D:Nat->Prop}{B:Nat}{H:Nat->AO}{x:AV}{v:Value}(hx:RX w D B β H x v)(hc:x.cell=true):v.oneCell'=true:=by
 cases x with
 | int k n=>have:=hx.fG;subst this;rfl
 | bool b=>have:=hx.gW;subst this;rfl
 | str s=>have:=hx.gX;subst this;rfl
 | nil=>have:=hx.kG;subst this;rfl
 | bt=>have:=hx.yw;subst this;rfl
 | cN=>cases hx with|d h=>cases h;rfl
 | bj t=>cases hx with|d h=>cases h;rfl
 | dz=>cases hx with|d h=>cases h;rfl
 | fd t f=>obtain⟨b,rfl,_⟩:=hx.Cf;rfl
 | bz n=>rcases hx.yu with⟨_,rfl⟩|⟨_,_,_,rfl⟩<;>rfl
 | slc fr sz n f=>obtain⟨p,cap,rfl,_⟩:=hx.gY.gY;rfl
 | func fn cs=>obtain⟨vs,rfl,_⟩:=hx.pI;rfl
 | ptr o off=>obtain⟨b,_,rfl⟩:=hx.dF;rfl
 | dm fr sz n f i off=>obtain⟨b,o,cap,_,_,rfl⟩:=hx.tp;rfl
 | fmap es=>obtain⟨b,_,_,rfl,_⟩:=hx.Cg;rfl
 | di ks f=>rcases hx.Ci with⟨rfl,_⟩|⟨b,_,_,rfl,_⟩<;>rfl
 | gJ n ks f=>simp[AV.cell]at hc
 | ci o sz ver n i off=>obtain⟨⟨g,p,rfl⟩,_⟩:=hx.jk;rfl
 | aJ o ver n=>
  obtain⟨hv,_⟩:=hx.aI;rcases hv with⟨rfl,_⟩|⟨g,cap,rfl,_⟩<;>rfl
 | agg cs=>simp[AV.cell]at hc
 | val v=>simp[AV.cell]at hc
 | any=>simp[AV.cell]at hc
 | ag vs=>simp[AV.cell]at hc
 | gw t f=>simp[AV.cell]at hc
 | may g v=>simp[AV.cell]at hc
 | bG o n=>simp[AV.cell]at hc
 | a8 fn o=>obtain⟨b,_,rfl⟩:=hx.yx;rfl
def vF{vs:Array Value}{i:Nat}(h:i<vs.size):vs[i]? = some (vs.getD i undef):=by simp[Array.getD,h]
def N0{x:AV}{v:Value}{k:Nat}{e:Eff}(hx:RX w (E.D w β S.obj) E.B β S.obj x v)
 (hy:aV S (match x with|.ag vs=>(match vs[k]? with|some v=>val v|none=>.fail)|.gw t f=>(match k with|0=>val (.fd t f)|_=>.fail)|_=>.fail) e):dZ E S w β e ((Instr.extract v k).run P w):=by
 split at hy
 ·rename_i vs;obtain⟨us,rfl,hl,hel⟩:=hx.Gz;split at hy
  ·rename_i av fL;obtain rfl:=vI hy;have hlt:k<us.size:=by
    have:=(bX.1 fL).1;omega
   exact⟨us[k],by simp[Instr.extract,hlt],hel k av _ fL (by simp[hlt]),rfl,rfl,rfl⟩
  ·exact hy.fail.elim
 ·obtain⟨b,us,rfl,hb,ht,hf⟩:=hx.NH;split at hy
  ·obtain rfl:=vI hy;exact⟨.bool b,by simp[Instr.extract,hb],.d (.fd _ _ b ht hf),rfl,rfl,rfl⟩
  ·exact hy.fail.elim
 ·exact hy.fail.elim
def qS(hte:bg P t ti)(hr:ti.real=true){cs:Array Value}{off:Nat}(hl:off+ti.size<=cs.size):
 (part t cs off).run P w=.ok (if ti.agg then .agg ((List.range ti.size).map fun j=>cs.getD (off+j) undef).toArray else cs.getD off undef) w:=by
 have ha:=hte.GE (w:=w) hr;have hs:=hte.sizeOf (w:=w);unfold part;by_cases hg:ti.agg=true
 ·rw [hg]at ha;have he:cs.extract off (off+ti.size)=((List.range ti.size).map fun j=>cs.getD (off+j) undef).toArray:=by
   apply sB
   ·simp;omega
   ·intro i h1 h2;simp at h1 h2;have:off+i<cs.size:=by omega
    simp[Array.getD,this]
  simp only[ec,ha,cm,bC,hs,hg,he];simp
 ·have hg':ti.agg=false:=by simpa using hg
  rw[hg']at ha;have hone:=hte.one hg';have hlt:off<cs.size:=zo
  simp[ha,hlt,Array.getD,hg']
def N1(hT:cn P T)(ht:bg P t ti){x:AV}{v:Value}{i:Nat}(hx:RX w (E.D w β S.obj) E.B β S.obj x v)
 (hy:aV S (match x,vr ti i with|.agg cs,some (off,ft)=>tl T ft fun fi=>if off+fi.size<=cs.length then val (nV fi cs off)else .fail|_,_=>.fail) e):
 dZ E S w β e ((Instr.field t v i).run P w):=by
 split at hy
 ·rename_i cs off ft hfo;unfold vr at hfo;split at hfo
  ·rename_i fs hk;obtain⟨gs,hu,hfs,hpos⟩:=ht.struct hk;obtain⟨te,hte,dB,hq,hy⟩:=ly hT hy;obtain⟨hl,hy⟩:=yI hy;obtain rfl:=vI hy;obtain⟨vs,rfl,hsz,hel⟩:=hx.vB;have hg:∃f,gs[i]? = some f∧f.offset=off∧f.type=ft:=by
    rw[<- hfs]at hfo;simp at hfo;obtain⟨f,h1,h2,h3⟩:=hfo;exact⟨f,h1,h2,h3⟩
   obtain⟨f,hf,rfl,rfl⟩:=hg;have hp:=qS (w:=w) hte dB (cs:=vs) (off:=f.offset) zo;refine⟨_,by simp[Instr.field,bF hu,hf,asAgg];exact hp,?_,rfl,rfl,rfl⟩;refine tz (c:=fun j=>vs.getD (f.offset+j) undef) hte.one hl (fun j av hj fL=>hel _ av _ fL (vF zo))
  ·cases hfo
 ·exact hy.fail.elim
theorem yA(cs:List AV)(sz j:Nat):∀n,(column cs sz j n).length=n
 | 0=>rfl
 | n+1=>by simp[column,yA cs sz j n]
theorem Co(cs:List AV)(sz j:Nat):∀(n q:Nat),q<n->(column cs sz j n).getD q .any=cs.getD (q*sz+j) .any
 | 0,q,h=>zo
 | n+1,q,h=>by
  have hl:=yA cs sz j n;simp only[column];by_cases hq:q<n
  ·rw[<- Co cs sz j n q hq,cz,gS zo,<- cz]
  ·have:q=n:=by omega
   subst this;rw[cz,jd zo,hl];simp
theorem GN{k:IntKind}:∀{cs:List AV} {q:Nat},yi k cs=true->q<cs.length->∃f,cs.getD q .any=.int k f
 | [],_,_,h=>by simp at h
 | c::r,q,h,hq=>by
  cases c<;>simp[yi]at h;obtain⟨h1,h2⟩:=h;subst h1;cases q with
  | zero=>exact⟨_,rfl⟩
  | succ q=>exact GN (cs:=r) h2 (by simpa using hq)
theorem GO:∀{cs:List AV} {q:Nat},yj cs=true->q<cs.length->∃f,cs.getD q .any=.bool f
 | [],_,_,h=>by simp at h
 | c::r,q,h,hq=>by
  cases c<;>simp[yj]at h;cases q with
  | zero=>exact⟨_,rfl⟩
  | succ q=>exact GO (cs:=r) h (by simpa using hq)
theorem GP:∀{cs:List AV} {q:Nat},yk cs=true->q<cs.length->∃f,cs.getD q .any=.str f
 | [],_,_,h=>by simp at h
 | c::r,q,h,hq=>by
  cases c<;>simp[yk]at h;cases q with
  | zero=>exact⟨_,rfl⟩
  | succ q=>exact GP (cs:=r) h (by simpa using hq)
def GQ{D:Nat->Prop}{B:Nat}{H:Nat->AO}{cs:List AV}{i:Unit->Int}{v:Value}(hi:(i ()).toNat<cs.length)(h:RX w D B β H (cs.getD (i ()).toNat .any) v):RX w D B β H (iM cs i) v:=by
 match cs,hi,h with
 | [],hi,_=>simp at hi
 | c::r,hi,h=>
  generalize hcs:c::r=cs at hi h;have e:iM cs i=iM (c::r) i:=by rw[hcs]
  rw[e];cases c with
  | int k f0=>
   simp only[iM,hcs];split
   ·rename_i hall;obtain⟨f,hf⟩:=GN hall hi;rw[hf]at h;rw[h.fG];have e2:f ()=(fun _:Unit=>yg cs (i ()).toNat) ():=by simp only[yg,hf]
    rw[e2];exact .d (.int k (fun _=>yg cs (i ()).toNat))
   ·exact .d (.any _)
  | bool f0=>
   simp only[iM,hcs];split
   ·rename_i hall;obtain⟨f,hf⟩:=GO hall hi;rw[hf]at h;rw[h.gW];have e2:f ()=(fun _:Unit=>yh cs (i ()).toNat) ():=by simp only[yh,hf]
    rw[e2];exact .d (.bool (fun _=>yh cs (i ()).toNat))
   ·exact .d (.any _)
  | str f0=>
   simp only[iM,hcs];split
   ·rename_i hall;obtain⟨f,hf⟩:=GP hall hi;rw[hf]at h;rw[h.gX];have e2:f ()=(fun _:Unit=>vu cs (i ()).toNat) ():=by simp only[vu,hf]
    rw[e2];exact .d (.str (fun _=>vu cs (i ()).toNat))
   ·exact .d (.any _)
  | _=>exact .d (.any _)
def N2(hT:cn P T)(ht:bg P t ti){x i:AV}{v iv:Value}(hx:RX w (E.D w β S.obj) E.B β S.obj x v)(hi:RX w (E.D w β S.obj) E.B β S.obj i iv)
 (hy:aV S (BS T ti x i) e):dZ E S w β e ((Instr.index t v iv).run P w):=by
 unfold BS at hy;split at hy
 ·rename_i k i;obtain rfl:=hi.fG;split at hy
  ·rename_i s hk;have hu:=ht.str hk;obtain⟨hc,hy⟩:=hy.cond;obtain rfl:=vI hy;obtain rfl:=hx.gX;have hlt:(i ()).toNat<(s ()).data.size:=by have h2:i ()<((s ()).data.size:Int):=hc.2;omega
   refine⟨.int .u8 ((((s ()).data[(i ()).toNat]?).getD 0).toNat),?_,.d (.int _ _),rfl,rfl,rfl⟩;have hget:(s ())[(i ()).toNat]? = some ((s ()).data[(i ()).toNat]):=by
    rw[getElem?_pos (s ()) (i ()).toNat (by exact hlt)];rfl
   have hg2:(s ()).data[(i ()).toNat]? = some ((s ()).data[(i ()).toNat]):=dC hlt;simp only[hg2,qF];simp[Instr.index,asIntOf,bF hu,hc.1,hget]
  ·rename_i n el cs hk;have hu:=ht.array hk;obtain⟨te,hte,dB,_,hy⟩:=ly hT hy;have hs:=hte.sizeOf (w:=w);obtain⟨vs,rfl,hl,hel⟩:=hx.vB;split at hy
   ·split at hy
    ·rename_i j hj;replace hy:=yI hy;obtain⟨hlt,hy⟩:=hy;replace hy:=yI hy;obtain⟨hle,hy⟩:=hy;obtain rfl:=vI hy;have hp:=qS (w:=w) hte dB (cs:=vs) (off:=j*te.size) zo;refine⟨_,?_,tz (c:=fun i=>vs.getD (j*te.size+i) undef) hte.one hle (fun i av hi fL=>hel _ av _ fL (vF zo)),rfl,rfl,rfl⟩;simpa[Instr.index,asIntOf,bF hu,hj,hs,hlt]using hp
    ·exact hy.fail.elim
   ·split at hy
    ·rename_i j hj;replace hy:=yI hy;obtain⟨hlt,hy⟩:=hy;replace hy:=yI hy;obtain⟨hle,hy⟩:=hy;obtain rfl:=vI hy;have hp:=qS (w:=w) hte dB (cs:=vs) (off:=j*te.size) zo;refine⟨_,?_,tz (c:=fun i=>vs.getD (j*te.size+i) undef) hte.one hle (fun i av hi fL=>hel _ av _ fL (vF zo)),rfl,rfl,rfl⟩;simpa[Instr.index,asIntOf,bF hu,hj,hs,hlt]using hp
    ·exact hy.fail.elim
   ·replace hy:=yI hy;obtain⟨hle,hy⟩:=hy;obtain⟨hc,hy⟩:=hy.cond;obtain rfl:=vI hy;obtain⟨q,hq⟩:∃q:Nat,i ()=q:=⟨(i ()).toNat,zo⟩
    have qT:q<n:=zo
    have hbound:q*te.size+te.size<=n*te.size:=by
     have:(q+1)*te.size<=n*te.size:=gE _ qT;rw[fc]at this;omega
    have hp:=qS (w:=w) hte dB (cs:=vs) (off:=q*te.size) zo;have hcell:∀j,j<te.size->RX w (E.D w β S.obj) E.B β S.obj (iM (column cs te.size j n) i) (vs.getD (q*te.size+j) undef):=fun j hj=>by
     have hcl:=yA cs te.size j n;refine GQ (by rw[hq,hcl];simpa using qT) ?_;rw[hq,bu,Co _ _ _ _ _ qT];have hlt:q*te.size+j<cs.length:=zo
     rw[cz,bf hlt];exact hel _ _ _ (bf hlt) (vF zo)
    refine⟨_,by simpa[Instr.index,asIntOf,bF hu,hq,hs,qT]using hp,?_,rfl,rfl,rfl⟩;by_cases hg:te.agg=true
    ·simp only[hg,bC];refine .agg _ _ (by simp[pu]) (fun j av u hj hu=>?_);simp only[pu,gC]at hj;cases hr:(List.range te.size)[j]? with
     | none=>rw[hr]at hj;simp at hj
     | some j'=>
      rw[hr]at hj;obtain⟨hjl,hjj⟩:=bX.1 hr;simp at hjl hjj hj;subst hjj;subst hj;simp[hjl]at hu;subst hu;have:=hcell j hjl
      rwa [jf]at this
    ·have hg':te.agg=false:=by simpa using hg
     simp only[hg',jc,dg];have:=hcell 0 (by rw[hte.one hg'];omega);simpa using this
  ·rename_i n el m ks f hk;have hu:=ht.array hk;replace hy:=yI hy;obtain⟨rfl,hy⟩:=hy;obtain⟨te,hte,dB,_,hy⟩:=ly hT hy;have hs:=hte.sizeOf (w:=w);split at hy
   ·rename_i kk ke hmk;obtain⟨hc,hy⟩:=hy.cond;obtain rfl:=vI hy;obtain⟨vs,rfl,hl,hel⟩:=hx.ND;have hag:te.agg=false:=by unfold TI.agg;rw[hmk]
    have h1:=hte.one hag;obtain⟨q,hq⟩:∃q:Nat,i ()=q:=⟨(i ()).toNat,zo⟩
    have qT:q<n:=zo
    have hp:=qS (w:=w) hte dB (cs:=vs) (off:=q*te.size) (by rw[h1,hl];omega);refine⟨_,by simpa[Instr.index,asIntOf,bF hu,hq,hs,qT]using hp,?_,rfl,rfl,rfl⟩;have e:(fun(_:Unit)=>(i ()).toNat)=fun _=>q:=by funext _;rw[hq];rfl
    rw[e];simp only[hag,jc,dg,h1,uJ];have hg:vs[q]? = some (vs.getD q undef):=vF (by rw[hl];exact qT);rw[jf]at hg;exact .d (hel q _ (by simpa using hg))
   ·exact hy.fail.elim
  ·exact hy.fail.elim
 ·exact hy.fail.elim
theorem GR{ents:Array MapEntry}{n:Nat}{v:AV}:∀{es:List (Nat×AV)} {k:Nat},es.length+k=ents.size->(∀(i k':Nat) (av:AV) (e:MapEntry),es[i]? = some (k',av)->ents[k+i]? = some e->e.key=.int .i64 k') ->
 ym es n=some v->∃i e,ents[k+i]? = some e∧es[i]? = some (n,v)∧Instr.findNow (.int .i64) (.int .i64 n) (ents.toList.drop k) k=some (some (k+i,e.val))
 | [],k,hl,hk,h=>by cases h
 | (j,u)::r,k,hl,hk,h=>by
  have hlt:k<ents.size:=by simp at hl;omega
  have hg:ents[k]? = some ents[k]:=dC hlt;have hk0:=hk 0 j u ents[k] rfl (by simpa using hg);have hd:ents.toList.drop k=ents[k]::ents.toList.drop (k+1):=by rw[iH (by simpa using hlt)];simp
  simp only[ym]at h;split at h
  ·rename_i hb;have hb:=qE hb;subst hb;simp only[cB]at h;subst h;refine⟨0,ents[k],by simpa using hg,rfl,?_⟩;rw[hd];simp[Instr.findNow,hk0,Instr.sameNow]
  ·rename_i hb;have hne:n≠j:=fun e=>by subst e;simp at hb
   obtain⟨i,e,h1,h2,h3⟩:=GR (ents:=ents) (es:=r) (k:=k+1) (by simp only[bp]at hl;omega) (fun i k' av e g1 g2=>hk (i+1) k' av e (by simpa using g1) (by rw[show k+(i+1)=k+1+i by omega];exact g2)) h;refine⟨i+1,e,by rw[show k+(i+1)=k+1+i by omega];exact h1,by simpa using h2,?_⟩;rw[hd];have:¬((n:Int)==(j:Int))=true:=by simp;omega
   simp only[Instr.findNow,hk0,Instr.sameNow,bC,this];rw[h3];congr 3;omega
def N3{k:TypeId}{kd:IntKind}{b:Bool}{i:Int}(hu:P.underlying k=some (.int kd))(n:Nat):(Instr.checkKey b (n+1) k (.int .i64 i)).run P w=.ok () w:=by
 simp only[Instr.checkKey,ec,bF hu,cm];rfl
def N4(hT:cn P T)(ht:bg P t ti){x i:AV}{v iv:Value}(hx:RX w (E.D w β S.obj) E.B β S.obj x v)(hi:RX w (E.D w β S.obj) E.B β S.obj i iv)
 (hy:aV S (yn T ti x i) e):dZ E S w β e ((Instr.lookup t v iv false).run P w):=by
 unfold yn at hy;split at hy
 ·rename_i k el es i hk;have hu:=ht.map hk;obtain rfl:=hi.fG;obtain⟨b,clock,ents,rfl,hb,hl,hkeys,vG⟩:=hx.Cg;split at hy
  ·rename_i j hj;obtain⟨tk,htk,dB,_,hy⟩:=ly hT hy;split at hy
   ·rename_i hki;have vH:=htk.int hki;split at hy
    ·rename_i u N5;obtain rfl:=vI hy;obtain⟨q,e,h1,h2,h3⟩:=GR (ents:=ents) (k:=0) (by simpa using hl) (fun i k' av e g1 g2=>hkeys i k' av e g1 (by simpa using g2)) N5;simp only[eC,xO]at h1 h3;refine⟨e.val,?_,.d (vG q j u e h2 h1),rfl,rfl,rfl⟩;have hg:(getObj b).run P w=.ok (.map ents clock) w:=by simp[getObj,Sem.run,hb]
     have hc:(Instr.checkKey ents.isEmpty 10000 k (.int .i64 (i ()))).run P w=.ok () w:=by
      exact N3 vH 9999
     have hf:(Instr.findKey k (.int .i64 (i ())) ents.toList).run P w=.ok (some (q,e.val)) w:=by
      rw[hj];simp only[Instr.findKey,ec,bF vH,cm];rw[show Int.ofNat j=(j:Int)from rfl,h3];rfl
     simp[Instr.lookup,bF hu,hg,hc,hf]
    ·exact hy.fail.elim
   ·exact hy.fail.elim
  ·exact hy.fail.elim
 ·exact hy.fail.elim
def N6{f:FuncId}{caps:Array Operand}{g:Option (Unit->Bool)}(h:RelB E S.tmps S.obj a w β)(hg:∀b,g=some b->b ()=true)
 (hy:aV S ((nU g caps.toList).bind fun cs=>if cs.all AV.cell then val (.func f cs)else .fail) e):
 dZ E S w β e ((Instr.makeFunc (.func f) #[] (caps.map a.eval)).run P w):=by
 obtain⟨cs,h1,hy⟩:=hy.bind;obtain⟨hc,hy⟩:=yI hy;obtain rfl:=vI hy;obtain⟨hl,hel⟩:=tw h hg h1;refine⟨_,by simp[Instr.makeFunc];rfl,.func f cs _ (by simp[hl]) (fun i av v hi hv=>?_),rfl,rfl,rfl⟩;simp at hv;obtain⟨x,hx,rfl⟩:=hv;exact hel i av x hi (by simpa using hx)
def GS{k:IntKind}{n:Unit->Int}{s:Unit->ByteArray}{D:Nat->Prop}{B:Nat}{H:Nat->AO}{v:Value}(h:RX w D B β H (.agg [.int k n,.str s]) v):v=.agg #[.int k (n ()),.string (s ())]:=by
 obtain⟨⟨vs⟩,rfl,hl,hel⟩:=h.vB
 match vs,hl,hel with
 | [x,y],_,hel=>
  have h0:=(hel 0 _ x rfl rfl).fG;have h1:=(hel 1 _ y rfl rfl).gX;rw[h0,h1]
def N7(ht:bg P t ti){u v:Nat}{tu tv:TI}(hk:ti.k=.struct [(0,u),(1,v)])(hu:bg P u tu)(hv:bg P v tv){k k':IntKind}(tA:tu.k=.int k')(hkv:tv.k=.str)(m n:Int)(x y:ByteArray):
 P.eqGuardType P.depth t=false∧(Op.equalIn 10000 t (.agg #[.int k m,.string x]) (.agg #[.int k n,.string y])).run P w=.ok (m==n&&decide (x=y)) w:=by
 obtain⟨gs,hg,hm,hp,he,hb⟩:=ht.plain hk;refine⟨he,?_⟩;have hf:P.fieldsOf t=gs:=by simp[Program.fieldsOf,hg]
 rw[run_equalIn_struct w 9999 t _ _ (by rw[hf];exact hg) hp,hf];obtain⟨gs⟩:=gs;obtain⟨f,g,rfl⟩:∃f g,gs=[f,g]:=by
  rcases gs with _|⟨f,_|⟨g,_|⟨_,_⟩⟩⟩
  ·simp at hm
  ·simp at hm
  ·exact⟨f,g,rfl⟩
  ·simp at hm
 simp only[fZ,List.map_nil,List.cons.injEq,nJ,ay]at hm;obtain⟨⟨a1,a2⟩,a3,a4⟩:=hm;have b1:=hb f zsi;have b2:=hb g zsi;have N8:∀(p q:Value),(part u #[p,q] 0).run P w=.ok p w:=fun p q=>by
  have hs:=hu.one (by simp[TI.agg,tA]);have:=qS (w:=w) hu (by simp[TI.real,tA]) (cs:=#[p,q]) (off:=0) (by rw[hs];show 0+1<=2;decide)
  rwa [aa (by simp[TI.agg,tA])]at this
 have hpv:∀(p q:Value),(part v #[p,q] 1).run P w=.ok q w:=fun p q=>by
  have hs:=hv.one (by simp[TI.agg,hkv]);have:=qS (w:=w) hv (by simp[TI.real,hkv]) (cs:=#[p,q]) (off:=1) (by rw[hs];show 1+1<=2;decide)
  rwa [aa (by simp[TI.agg,hkv])]at this
 simp only[Op.eqFields,ae b1,ae b2,a1,a2,a3,a4,ec,N8,hpv,cm,run_equalIn_int w 9998 u k k' _ _ (hu.int tA),run_equalIn_string w 9998 v _ _ (hv.str hkv),Cn,Sem.run_ite];by_cases h1:m=n
 ·by_cases h2:x=y<;>simp[h1,h2]
 ·simp[h1]
def N9(ht:bg P t ti){u v:Nat}{tu tv:TI}(hk:ti.k=.struct [(0,u),(1,v)])(hu:bg P u tu)(hv:bg P v tv){op:BinOp}{xs ys:List AV}{xv yv:Value}(xo yo:Operand)
 (hx:RX w (E.D w β S.obj) E.B β S.obj (.agg xs) xv) (hyv:RX w (E.D w β S.obj) E.B β S.obj (.agg ys) yv) (hy:aV S (BV tu tv op xs ys) e):
 dZ E S w β e ((do eqGuard op t xo yo xv yv;binOp op t xv yv:Sem Value).run P w):=by
 unfold BV at hy;split at hy
 ·rename_i k m x k' n y;obtain rfl:=GS hx;obtain rfl:=GS hyv;split at hy
  ·rename_i k2 tA hkv;replace hy:=yI hy;obtain⟨hkk,hy⟩:=hy;subst hkk;obtain⟨hg,hq⟩:=N7 (w:=w) ht hk hu hv tA hkv (k:=k) (m ()) (n ()) (x ()) (y ());simp only[ec,run_eqGuard_agg w op t xo yo _ _ hg,cm];split at hy
   ·obtain rfl:=vI hy;exact⟨_,by rw[run_eql_struct,hq];rfl,.d (.bool (fun _=>m ()==n ()&&decide (x ()=y ()))),rfl,rfl,rfl⟩
   ·obtain rfl:=vI hy;exact⟨_,by rw[run_neq_struct,hq];rfl,.d (.bool (fun _=>!(m ()==n ()&&decide (x ()=y ())))),rfl,rfl,rfl⟩
   ·exact hy.fail.elim
  ·exact hy.fail.elim
 ·exact hy.fail.elim
def Oa(hT:cn P T)(ht:bg P t ti){op:BinOp}{x y:AV}{xv yv:Value}(xo yo:Operand)(hx:RX w (E.D w β S.obj) E.B β S.obj x xv)(hyv:RX w (E.D w β S.obj) E.B β S.obj y yv)(hy:aV S (BW T ti op x y) e):
 dZ E S w β e ((do eqGuard op t xo yo xv yv;binOp op t xv yv:Sem Value).run P w):=by
 unfold BW at hy;split at hy
 ·split at hy
  ·rename_i hk;obtain⟨hu,_,hy⟩:=fK hT hy;obtain⟨hv,_,hy⟩:=fK hT hy;exact N9 ht hk hu hv xo yo hx hyv hy
  ·exact hy.fail.elim
 ·exact NY ht xo yo hx hyv hy
def bg.iface(h:bg P t ti)(hk:ti.k=.iface):∃ms,P.underlying t=some (.interface ms):=by
 have:=h.k;rw[hk]at this;simp only[kI]at this;split at this
 ·rename_i ms hu;exact⟨ms,hu⟩
 ·cases this
def GT{ms:Array (String×TypeId)}(hu:P.underlying t=some (.interface ms))(v:Value)(b:Bool)(h:(b=true∧v=.nilIface)∨(b=false∧∃x p,v=.iface x p)):(Op.equal t v .nilIface).run P w=.ok b w:=by
 have key:∀d,(Op.equalIn (d+1) t v .nilIface).run P w=.ok b w:=fun d=>by
  rcases h with⟨rfl,rfl⟩|⟨rfl,x,p,rfl⟩ <;>
  ·simp only[Op.equalIn,ec,bF hu,cm];simp
 exact key 9999
def Ob(hT:cn P T)(ht:bg P t ti){op:BinOp}{x y:AV}{xv yv:Value}(xo yo:Operand)(hc:s9 yo=true->yv=.nilIface)(hx:RX w (E.D w β S.obj) E.B β S.obj x xv)(hyv:RX w (E.D w β S.obj) E.B β S.obj y yv)(hy:aV S (BX T ti op (s9 yo) x y) e):
 dZ E S w β e ((do eqGuard op t xo yo xv yv;binOp op t xv yv:Sem Value).run P w):=by
 generalize hn:s9 yo=c at hy hc;unfold BX at hy;split at hy
 ·rename_i n;obtain rfl:=hc rfl;have hxi:=hx.yu;have hg:(eqGuard op t xo yo xv .nilIface).run P w=.ok () w:=by
   have:∃k,yo=.const k:=by
    unfold s9 at hn;split at hn
    ·exact⟨_,rfl⟩
    ·cases hn
   obtain⟨k,rfl⟩:=this;rcases hxi with⟨_,rfl⟩|⟨_,x,p,rfl⟩<;>cases op<;>simp[eqGuard]
  simp only[ec,hg,cm];split at hy
  ·rename_i hk;obtain⟨ms,hu⟩:=ht.iface hk;have he:=GT (w:=w) hu xv (n ()) hxi;obtain rfl:=vI hy;exact⟨.bool (n ()),by rcases hxi with⟨_,rfl⟩|⟨_,x,p,rfl⟩<;>simp[binOp,he],.d (.bool n),rfl,rfl,rfl⟩
  ·rename_i hk;obtain⟨ms,hu⟩:=ht.iface hk;have he:=GT (w:=w) hu xv (n ()) hxi;obtain rfl:=vI hy;exact⟨.bool (!n ()),by rcases hxi with⟨_,rfl⟩|⟨_,x,p,rfl⟩<;>simp[binOp,he],.d (.bool fun _=>!n ()),rfl,rfl,rfl⟩
  ·exact hy.fail.elim
 ·exact Oa hT ht xo yo hx hyv hy
end
def jQ(w:World)(D:Nat->Prop)(B:Nat)(β:Nat->Value)(H:Nat->AO)(cs:List AV)(vs:Array Value):Prop:=
 cs.length=vs.size∧∀(i:Nat) (av:AV) (v:Value),cs[i]? = some av->vs[i]? = some v->RX w D B β H av v
def Oc(off:Nat):∀(l:List Value) (k:Nat) (cs:Array Value),off+k+l.length<=cs.size ->
 ((l.zipIdx k).foldl (fun(cs:Array Value) (p:Value×Nat)=>cs.setIfInBounds (off+p.2) p.1) cs).size=cs.size ∧
 ∀i,((l.zipIdx k).foldl (fun(cs:Array Value) (p:Value×Nat)=>cs.setIfInBounds (off+p.2) p.1) cs)[i]? = if off+k<=i∧i<off+k+l.length then l[i-(off+k)]? else cs[i]? := by
 intro l
 induction l with
 | nil=>intro k cs h;refine⟨rfl,fun i=>?_⟩;rw[aa zsi];rfl
 | cons v r ih=>
  intro k cs h;simp only[List.zipIdx_cons,List.foldl_cons,bp]at h ⊢;obtain⟨h1,h2⟩:=ih (k+1) (cs.setIfInBounds (off+k) v) (by simp;omega);refine⟨by rw[h1];simp,fun i=>?_⟩;rw[h2];by_cases hi:i=off+k
  ·subst hi;rw[aa zo,ae zo];have:off+k<cs.size:=by omega
   simp[this]
  ·by_cases hj:off+(k+1)<=i∧i<off+(k+1)+r.length
   ·rw[ae hj,ae zo];have:i-(off+k)=(i-(off+(k+1)))+1:=by omega
    rw[this];rfl
   ·rw[aa hj,aa zo,Array.getElem?_setIfInBounds_ne zo]
def yB{cs new:List AV}{off:Nat}(h:off+new.length<=cs.length)(i:Nat):(splice cs off new)[i]? = if off<=i∧i<off+new.length then new[i-off]? else cs[i]? := by
 unfold splice;have ht:(cs.take off).length=off:=by simp;omega
 by_cases h1:i<off
 ·rw[gF,gS zo,aa zo,xN,ae h1]
 ·by_cases h2:i<off+new.length
  ·rw[gF,jd zo,gS zo,ae zo,ht]
  ·rw[jd (by simp;omega),aa zo,qG];congr 1;simp;omega
section
variable {P:Program}{E:Env}{S:AS}{w:World}{β:Nat->Value}{e:Eff}{ti:TI}{t:Nat}{T:List (Nat×TI)}
variable {D:Nat->Prop}{B:Nat}{H:Nat->AO}
def jQ.splice{cs new:List AV}{vs us:Array Value}{off:Nat}(h:jQ w D B β H cs vs)(hn:jQ w D B β H new us)(hl:off+new.length<=cs.length):
 jQ w D B β H (splice cs off new) (us.zipIdx.foldl (fun cs (p:Value×Nat)=>cs.setIfInBounds (off+p.2) p.1) vs):=by
 rw[<- Array.foldl_toList,Array.toList_zipIdx];have hf:=Oc off us.toList 0 vs (by have:=h.1;have:=hn.1;simp;omega);refine⟨by rw[yy hl,hf.1,h.1],fun i av v hi hv=>?_⟩;rw[hf.2]at hv;rw[yB hl]at hi;have hlen:us.toList.length=new.length:=by simp[hn.1]
 simp only[fE,hlen]at hv;by_cases hc:off<=i∧i<off+new.length
 ·rw[ae hc]at hi hv;exact hn.2 _ _ _ hi (by simpa using hv)
 ·rw[aa hc]at hi hv;exact h.2 _ _ _ hi hv
def vJ(w:World)(D:Nat->Prop)(B:Nat)(β:Nat->Value)(H:Nat->AO)(ps:List (Nat×AV))(qs:List (Nat×Value)):Prop:=
 ps.length=qs.length∧∀(k i j:Nat) (av:AV) (v:Value),ps[k]? = some (i,av)->qs[k]? = some (j,v)->i=j∧RX w D B β H av v
theorem yC(hT:cn P T){fs:List (Nat×Nat)}{place:Nat->Option (Nat×Nat)}(hp:∀i off t,fs[i]? = some (off,t)->(aO T t).real=true->place i=some (off,(aO T t).size)):
 ∀{ps:List (Nat×AV)} {qs:List (Nat×Value)} {cs out:List AV} {vs:Array Value} (_:jQ w D B β H cs vs) (_:vJ w D B β H ps qs) (_:∀p∈ps,p.2.cells.all AV.cell=true) (_:m6 fs T cs ps=some out),
 ∃us,Instr.fill place vs qs=some us∧jQ w D B β H out us
 | [],qs,cs,out,vs,hc,hq,_,hf=>by
  have:qs=[]:=qH (by simpa using hq.1.symm);subst this;simp[m6]at hf;subst hf;exact⟨vs,rfl,hc⟩
 | (i,av)::r,[],cs,out,vs,hc,hq,_,hf=>by simp[vJ]at hq
 | (i,av)::r,(j,v)::s,cs,out,vs,hc,hq,hall,hf=>by
  obtain⟨rfl,hx⟩:=hq.2 0 i j av v rfl rfl;simp only[m6]at hf;split at hf
  ·rename_i off t hft;split at hf
   ·rename_i hcond;simp at hcond;obtain⟨⟨dB,hsz⟩,hle⟩:=hcond;have hcx:=yz hx (hall (i,av) zsi);obtain⟨us,h1,h2⟩:=yC hT hp (jQ.splice hc hcx hle) (ps:=r) (qs:=s) ⟨by simpa using hq.1,fun k i j a b hk hl=>hq.2 (k+1) i j a b (by simpa using hk) (by simpa using hl)⟩ (fun p hpm=>hall p (by simp[hpm])) hf;refine⟨us,?_,h2⟩;simp only[Instr.fill,hp i off t hft dB];have e1:(v.cells.size≠(aO T t).size||decide (off+v.cells.size>vs.size))=false:=by
     rw[<- hcx.1,hsz,<- hc.1];simp;omega
    rw[aa (by rw[e1];simp)];exact h1
   ·cases hf
  ·cases hf
def GU{ps:List (Nat×Operand)}{dA:List AV}{ev:Operand->Value}(hl:dA.length=(ps.map (·.2)).length)
 (h:∀(i:Nat) (av:AV) (x:Operand),dA[i]? = some av->(ps.map (·.2))[i]? = some x->RX w D B β H av (ev x)):vJ w D B β H (py ps dA) (ps.map fun p=>(p.1,ev p.2)):=by
 induction ps generalizing dA with
 | nil=>cases dA with
  | nil=>exact⟨rfl,fun k i j av v h=>by simp[py]at h⟩
  | cons a r=>simp at hl
 | cons p r ih=>cases dA with
  | nil=>simp at hl
  | cons a s=>
   obtain⟨i1,i2⟩:=ih (dA:=s) (by simpa using hl) (fun i av x h1 h2=>h (i+1) av x (by simpa using h1) (by simpa using h2));obtain⟨pi,px⟩:=p;refine⟨by simp[py,i1],fun k i j av v h1 h2=>?_⟩;cases k with
   | zero=>simp[py]at h1 h2;obtain⟨rfl,rfl⟩:=h1;obtain⟨rfl,rfl⟩:=h2;exact⟨rfl,h 0 _ _ rfl rfl⟩
   | succ k=>exact i2 k i j av v (by simpa[py]using h1) (by simpa using h2)
def Cp{z:Value}(h:jP ti.zero z.cells.toList=true):jQ w D B β H ti.zero z.cells:=by
 obtain⟨h1,_,h3⟩:=vE (w:=w) (D:=D) (B:=B) h;exact⟨by simpa using h1,fun i av v hi hv=>.d (h3 i av v hi (by simpa using hv))⟩
def Od(hT:cn P T)(ht:bg P t ti){ps:List (Nat×AV)}{qs:List (Nat×Value)}(hq:vJ w (E.D w β S.obj) E.B β S.obj ps qs)(hy:aV S (B0 T ti ps) e):
 dZ E S w β e ((Instr.build t qs.toArray).run P w):=by
 unfold B0 at hy;obtain⟨hok,hy⟩:=yI hy;have hall:∀p∈ps,p.2.cells.all AV.cell=true:=fun p hp=>cI.1 hok p hp;obtain⟨z,hz,hzb⟩:=ht.zeroValue (w:=w);have qU:=Cp (w:=w) (D:=E.D w β S.obj) (B:=E.B) (β:=β) (H:=S.obj) hzb;split at hy
 ·rename_i fs hk;obtain⟨gs,hu,hfs,hpos⟩:=ht.struct hk;split at hy
  ·rename_i cs hcs;obtain rfl:=vI hy;have hpl:∀(l:List Field),(∀f∈l,∃i,P.info? f.type=some i∧i.size≠0)->l.mapM (fun f=>(P.info? f.type).map fun i=>(f.offset,i.size))=some (l.map fun f=>(f.offset,P.cellsOf f.type)):=by
    intro l hl
    induction l with
    | nil=>rfl
    | cons f r ih=>
     obtain⟨i,hi,_⟩:=hl f zsi;rw[List.mapM_cons,ih (fun f hf=>hl f (by simp[hf])),hi];simp[Program.cellsOf,hi]
   have hrun:=run_places (P:=P) w gs.toList _ (hpl gs.toList hpos)
   obtain⟨us,h1,h2⟩:=yC hT (place:=fun i=>(gs.toList.map fun f=>(f.offset,P.cellsOf f.type)).toArray[i]?) (fun i off t hi hr=>by
    rw[<- hfs]at hi;simp at hi;obtain⟨f,h1,h2,h3⟩:=hi;obtain⟨j,_,hj1,hj2,_⟩:=(hT.at t hr).ex;simp[h1,h2,h3,Program.cellsOf,hj1,hj2]) qU hq hall hcs
   refine⟨.agg us,?_,.agg _ _ h2.1 h2.2,rfl,rfl,rfl⟩;simp only[uN]at h1;simp[Instr.build,hz,bF hu,Array.mapM_eq_mapM_toList,hrun]at h1 ⊢;simp[h1]
  ·exact hy.fail.elim
 ·rename_i n el hk;have hu:=ht.array hk;split at hy
  ·rename_i cs hcs;obtain⟨dB,hy⟩:=yI hy;obtain rfl:=vI hy;have hte:=hT.at el dB;have hs:=hte.sizeOf (w:=w)
   obtain⟨us,h1,h2⟩:=yC hT (place:=fun i=>some (i*(aO T el).size,(aO T el).size)) (fun i off t hi hr=>by
    rw[gC]at hi;cases hq:(List.range n)[i]? with
    | none=>rw[hq]at hi;simp at hi
    | some k=>
     rw[hq]at hi;obtain⟨hlt,hk⟩:=bX.1 hq;simp at hi hk;obtain⟨rfl,rfl⟩:=hi;simp[hk]) qU hq hall hcs
   refine⟨.agg us,?_,.agg _ _ h2.1 h2.2,rfl,rfl,rfl⟩;simp[Instr.build,hz,bF hu,hs,h1]
  ·exact hy.fail.elim
 ·exact hy.fail.elim
end
section
variable {P:Program}{E:Env}{S:AS}{w:World}{β:Nat->Value}{e:Eff}{ti:TI}{t:Nat}{T:List (Nat×TI)}
variable {D:Nat->Prop}{B:Nat}{H:Nat->AO}
theorem GV:∀{ks:List ByteArray} {ents:List MapEntry} (_:ks.length=ents.length) (_:∀(i:Nat) (k:ByteArray) (e:MapEntry),ks[i]? = some k->ents[i]? = some e->e.key=.string k) (s:ByteArray) (m:Nat),
 Instr.findNow .string (.string s) ents m=some (if bI ks s=true then(ents[eO ks s]?).map fun e=>(m+eO ks s,e.val)else none)
 | [],[],_,_,s,m=>rfl
 | [],_::_,h,_,_,_=>by simp at h
 | _::_,[],h,_,_,_=>by simp at h
 | k::r,e::es,hl,hk,s,m=>by
  have h0:=hk 0 k e rfl rfl;have ih:=GV (ks:=r) (ents:=es) (by simpa using hl) (fun i k' e' h1 h2=>hk (i+1) k' e' (by simpa using h1) (by simpa using h2)) s (m+1);have hb:(s==k)=decide (s=k):=by
   by_cases h:s=k
   ·subst h;simp only[decide_true];exact(MapKept.bytes_beq s s).2 rfl
   ·rw[fD h];cases q:(s==k)with
    | false=>rfl
    | true=>exact absurd ((MapKept.bytes_beq s k).1 q) h
  by_cases h:s=k
  ·subst h;have hh:bI (s::r) s=true:=by simp[bI]
   have hi:eO (s::r) s=0:=by simp[eO,Fv]
   rw[ae hh,hi];simp only[Instr.findNow,h0,Instr.sameNow,hb,decide_true];simp
  ·have h':¬k=s:=fun q=>h q.symm;have hh:bI (k::r) s=bI r s:=by simp[bI,h']
   have hi:eO (k::r) s=eO r s+1:=by simp[eO,Fv,h']
   rw[hh,hi];simp only[Instr.findNow,h0,Instr.sameNow,hb,fD h];rw[ih];split
   ·simp only[xP];congr 2;funext e';rw[show m+1+eO r s=m+(eO r s+1) by omega]
   ·rfl
def GW{ks:List ByteArray}{s:ByteArray}(h:bI ks s=true):eO ks s<ks.length:=by
 unfold eO;rw[List.findIdx_lt_length];obtain⟨x,hx,hp⟩:=o9.1 h;exact⟨x,hx,hp⟩
def GX{g:Unit->Bool}{a z:AV}{va vz:Value}(ha:g ()=true->RD w D B a va)(hz:RD w D B z vz):RD w D B (vv g a z) (if g ()=true then va else vz):=by
 have hint:∀(k:IntKind) (n:Unit->Int) (v:Value),v=.int k (n ())->RD w D B (.int k n) v:=fun k n v h=>h▸.int k n;have Oe:∀(n:Unit->Bool) (v:Value),v=.bool (n ())->RD w D B (.bool n) v:=fun n v h=>h▸.bool n;have hstr:∀(n:Unit->ByteArray) (v:Value),v=.string (n ())->RD w D B (.str n) v:=fun n v h=>h▸.str n;unfold vv;split
 ·rename_i k a k' z;split
  ·rename_i hk;subst hk;cases hz;refine hint _ _ _ ?_;cases q:g ()with
   | true=>have h1:=ha q;cases h1;simp
   | false=>simp
  ·exact .any _
 ·cases hz;refine Oe _ _ ?_;cases q:g ()with
  | true=>have h1:=ha q;cases h1;simp
  | false=>simp
 ·cases hz;refine hstr _ _ ?_;cases q:g ()with
  | true=>have h1:=ha q;cases h1;simp
  | false=>simp
 ·exact .any _
theorem GY{g:Unit->Bool}:∀{xs zs:List AV} {i:Nat} {x:AV},(nW g xs zs)[i]? = some x->∃a z,xs[i]? = some a∧zs[i]? = some z∧x=vv g a z
 | [],_,_,_,h=>by simp[nW]at h
 | _::_,[],_,_,h=>by simp[nW]at h
 | a::r,z::s,0,x,h=>by simp only[nW,pd,cB]at h;exact⟨a,z,rfl,rfl,h.symm⟩
 | a::r,z::s,i+1,x,h=>by
  simp only[nW,xP]at h;simpa using GY h
theorem GZ{g:Unit->Bool}:∀{xs zs:List AV},xs.length=zs.length->(nW g xs zs).length=zs.length
 | [],[],_=>rfl
 | [],_::_,h=>by simp at h
 | _::_,[],h=>by simp at h
 | a::r,z::s,h=>by simp only[nW,bp];rw[GZ (xs:=r) (zs:=s) (by simpa using h)]
def Of(hT:cn P T)(ht:bg P t ti){x i:AV}{v iv:Value}{ok:Bool}(hx:RX w (E.D w β S.obj) E.B β S.obj x v)(hi:RX w (E.D w β S.obj) E.B β S.obj i iv)
 (hy:aV S (B8 T ti x i ok) e):dZ E S w β e ((Instr.lookup t v iv ok).run P w):=by
 unfold B8 at hy;split at hy
 ·rename_i k el ks f s hk;have hu:=ht.map hk;obtain rfl:=hi.gX;obtain⟨ents,hv,hl,hkeys,vG⟩:∃ents:Array MapEntry,((v=.map none∧ents=#[])∨∃b clock,v=.map (some b)∧w.heap[b]? = some (.map ents clock))∧(ks ()).length=ents.size∧(∀(i:Nat) (k:ByteArray) (e:MapEntry),(ks ())[i]? = some k->ents[i]? = some e->e.key=.string k) ∧
   ∀(i:Nat) (e:MapEntry),ents[i]? = some e->RD w (E.D w β S.obj) E.B (f fun _=>i) e.val:=by
   rcases hx.Ci with⟨h1,h2⟩|⟨b,clock,ents,h1,hb,hl,hkeys,vG⟩
   ·exact⟨#[],.inl ⟨h1,rfl⟩,by rw[h2];rfl,fun i k e _ h=>(by simp at h),fun i e h=>(by simp at h)⟩
   ·exact⟨ents,.inr ⟨b,clock,h1,hb⟩,hl,hkeys,vG⟩
  obtain⟨tk,htk,dB,_,hy⟩:=ly hT hy;split at hy
  ·rename_i hks;have vH:=htk.str hks;obtain⟨te,hte,hre,_,hy⟩:=ly hT hy;obtain rfl:=vI hy;obtain⟨z,hz,hzb,hzg⟩:=hte.NL (w:=w);obtain⟨hz1,_,hz3⟩:=vE (w:=w) (D:=E.D w β S.obj) (B:=E.B) hzb;have hf:=GV (ks:=ks ()) (ents:=ents.toList) (by simpa using hl) (fun i k e h1 h2=>hkeys i k e h1 (by simpa using h2)) (s ()) 0;obtain⟨u,hu1⟩:∃u,u=if bI (ks ()) (s ())=true then((ents[eO (ks ()) (s ())]?).map (·.val)).getD undef else z:=⟨_,rfl⟩
   have hrun:(Instr.lookup t v (.string (s ())) ok).run P w=.ok (if ok=true then .tuple #[u,.bool (bI (ks ()) (s ()))]else u) w:=by
    have hc:(Instr.checkKey ents.isEmpty 10000 k (.string (s ()))).run P w=.ok () w:=MapKept.run_checkKey (d:=.string) (k:=.string (s ())) vH trivial _ 9999;have kJ:=MapKept.run_findKey (w:=w) (k:=.string (s ())) vH hf;cases q:bI (ks ()) (s ())with
    | true=>
     have hlt:=GW q;rw[hl]at hlt;rw[q]at kJ hu1;simp only[bC,uN]at kJ;rw[show ents.toList[eO (ks ()) (s ())]? = some (ents[eO (ks ()) (s ())]) by simp[hlt]]at kJ;simp only[bC,dC hlt,eM,qF]at hu1;simp only[eM]at kJ;subst hu1;rcases hv with⟨_,rfl⟩|⟨b,clock,rfl,hb⟩
     ·exact absurd hlt (uO _)
     ·have hg:(getObj b).run P w=.ok (.map ents clock) w:=MapKept.run_getObj_map hb;cases ok<;>simp[Instr.lookup,bF hu,hg,hc,kJ]
    | false=>
     rw[q]at kJ hu1;simp only[jc,dg]at kJ hu1;subst hu1;rcases hv with⟨rfl,rfl⟩|⟨b,clock,rfl,hb⟩
     ·have hc:(Instr.checkKey true 10000 k (.string (s ()))).run P w=.ok () w:=hc;have kJ:(Instr.findKey k (.string (s ())) []).run P w=.ok none w:=kJ;cases ok<;>simp[Instr.lookup,bF hu,hc,kJ,hz]
     ·have hg:(getObj b).run P w=.ok (.map ents clock) w:=MapKept.run_getObj_map hb;cases ok<;>simp[Instr.lookup,bF hu,hg,hc,kJ,hz]
   have hval:bI (ks ()) (s ())=true->∃ev,ev=((ents[eO (ks ()) (s ())]?).map (·.val)).getD undef∧RD w (E.D w β S.obj) E.B (f fun _=>eO (ks ()) (s ())) ev:=fun q=>by
    have hlt:=GW q;rw[hl]at hlt;exact⟨_,rfl,by simpa[dC hlt]using vG _ _ (dC hlt)⟩
   have hrd:RD w (E.D w β S.obj) E.B (B7 te.agg (fun _=>bI (ks ()) (s ())) (f fun _=>eO (ks ()) (s ())) te.zero) u:=by
    generalize f (fun _=>eO (ks ()) (s ()))=av at hval;unfold B7;split
    ·rename_i xs hag;split
     ·rename_i hlen;rw[hag]at hzg;cases z with
      | agg zs=>
       simp only[Value.cells]at hz1 hz3;have hq:∃us:Array Value,u=.agg us∧us.size=zs.size∧∀(i:Nat) (a:AV),xs[i]? = some a->∀zv:Value,zs[i]? = some zv->∃uv:Value,us[i]? = some uv∧∃va:Value,(bI (ks ()) (s ())=true->RD w (E.D w β S.obj) E.B a va)∧uv=if bI (ks ()) (s ())=true then va else zv:=by
        cases q:bI (ks ()) (s ())with
        | true=>
         rw[q]at hu1;simp only[bC]at hu1;obtain⟨ev,he,hr⟩:=hval q;rw[<- he]at hu1;cases hr with
         | agg _ vs hl2 hel=>
          refine⟨vs,hu1,?_,fun i a h1 zv h2=>?_⟩
          ·have:te.zero.length=zs.size:=by simpa using hz1
           omega
          ·have hi:i<vs.size:=by rw[<- hl2];exact(bX.1 h1).1
           exact⟨vs[i],dC hi,vs[i],fun _=>hel i a _ h1 (dC hi),zsi⟩
        | false=>
         rw[q]at hu1;simp only[jc,dg]at hu1;exact⟨zs,hu1,rfl,fun i a h1 zv h2=>⟨zv,h2,undef,fun h=>(by cases h),zsi⟩⟩
       obtain⟨us,hue,jE,hel⟩:=hq;subst hue;refine .agg _ _ (by rw[GZ hlen,jE];simpa using hz1) fun i av v h1 h2=>?_;obtain⟨a,zc,g1,g2,rfl⟩:=GY h1;have hi:i<zs.size:=by rw[<- jE];exact(d8.1 h2).1
       obtain⟨uv,k1,va,k2,k3⟩:=hel i a g1 _ (dC hi);rw[h2]at k1;cases k1;rw[k3];exact GX (g:=fun _=>bI (ks ()) (s ())) k2 (hz3 i zc _ g2 (by simp[hi]))
      | _=>cases hzg
     ·exact .any _
    ·exact .any _
    ·have hag:te.agg=false:=‹_›
     split
     ·rename_i zc hzc;rw[hzc]at hz3;have hzz:RD w (E.D w β S.obj) E.B zc z:=by
       refine hz3 0 zc z rfl ?_;rw[hag]at hzg;cases z<;>first|rfl|cases hzg
      rw[hu1];refine GX (g:=fun _=>bI (ks ()) (s ())) (fun q=>?_) hzz;obtain⟨ev,he,hr⟩:=hval q;rw[<- he];exact hr
     ·exact .any _
    ·exact .any _
   refine⟨_,hrun,?_,rfl,rfl,rfl⟩;cases ok with
   | true=>
    simp only[bC];refine .d (.ag _ _ rfl fun i av v h1 h2=>?_)
    match i with
    | 0=>simp at h1 h2;subst h1;subst h2;exact hrd
    | 1=>simp at h1 h2;subst h1;subst h2;exact .bool _
    | i+2=>simp at h1
   | false=>exact .d (by simpa using hrd)
  ·exact hy.fail.elim
 ·exact hy.fail.elim
end
def upd{α:Type}(f:Nat->α)(d:Nat)(v:α):Nat->α:=fun o=>if o=d then v else f o
def n8(l:List (Nat×AO))(d:Nat)(v:AO):oL (oset l d v)=upd (oL l) d v:=by
 funext o;unfold upd
 induction l with
 | nil=>simp[oset,oL,eq_comm]
 | cons p r ih=>
  obtain⟨i,x⟩:=p;simp only[oset];split
  ·rename_i e;subst e;simp only[oL];by_cases ho:o=i
   ·subst ho;simp
   ·simp[ho,qI ho]
  ·rename_i e;simp only[oL,ih];by_cases ho:i=o
   ·subst ho;simp[e]
   ·simp[ho]
def na{d:Nat}{c:AV}{r:List AV}:AV.nL d (c::r)=true↔AV.nL d [c]=true∧AV.nL d r=true:=by
 cases c<;>simp[AV.nL,and_assoc]
theorem n9{d:Nat}:∀{cs:List AV},AV.nL d cs=true->∀(i:Nat) (av:AV),cs[i]? = some av->AV.nL d [av]=true
 | [],_,i,av,h=>by simp at h
 | c::r,hn,i,av,hi=>by
  obtain⟨h1,h2⟩:=na.1 hn;cases i with
  | zero=>simp at hi;subst hi;exact h1
  | succ i=>exact n9 h2 i av (by simpa using hi)
def G0{S:AS}{d:Nat}(h:S.bK d=true)(o:Nat):(S.obj o).bK d=true:=by
 simp only[AS.bK,az]at h;have h2:=h.1.2;unfold AS.obj;generalize S.objs=l at h2
 induction l with
 | nil=>rfl
 | cons p r ih=>
  simp only[qD,az]at h2;simp only[oL];split
  ·exact h2.1
  ·exact ih h2.2
def G1(S:AS):fJ S []=S.obj:=rfl
def pO(S:AS)(d:Nat)(v:AO):fJ S [(d,v)]=upd S.obj d v:=by
 unfold fJ;simp only[gK];exact n8 _ _ _
section
variable {P:Program}{E:Env}{S:AS}{a:Act}{w:World}{β:Nat->Value}
def Env.D.lt{H:Nat->AO}{b:Nat}(h:E.D w β H b):b<w.heap.size:=h.2.1
structure Grow(w w':World):Prop where
 os:w'.os=w.os
 tape:w'.tape=w.tape
 output:w'.output=w.output
 size:w.heap.size<=w'.heap.size
 old:∀b,b<w.heap.size->w'.heap[b]? = w.heap[b]?
def Grow.alloc(w:World)(ob:Obj):Grow w (w.alloc ob):=⟨rfl,rfl,rfl,zsi,fun b hb=>Go.RowKit.Below.heap_alloc w ob b hb⟩
def Grow.yD(w:World)(ob:Obj):Grow w (w.drew.alloc ob):=⟨rfl,rfl,rfl,zsi,fun b hb=>Go.RowKit.Below.heap_alloc w.drew ob b hb⟩
def Env.Frame.grow(h:E.Frame w){w':World}(hg:Grow w w'):E.Frame w':=
 ⟨hg.os.trans h.os,hg.tape.trans h.tape,hg.output.trans h.output,aG h.size hg.size,fun b hb hx=>(hg.old b (cf hb h.size)).trans (h.block b hb hx)⟩
def OR.mono{w':World}{β':Nat->Value}{H H':Nat->AO}{o:Nat}{ob:AO}(h:OR E w β H o ob)(hβ:β' o=β o)(hh:∀b,bi (β o)=some b->w'.heap[b]? = w.heap[b]?)
 (hx:∀cs,ob=.box cs->∀(i:Nat) (av:AV) (v:Value),cs[i]? = some av->RX w (E.D w β H) E.B β H av v->RX w' (E.D w' β' H') E.B β' H' av v)
 (hd:∀av v,RD w (E.D w β H) E.B av v->RD w' (E.D w' β' H') E.B av v):OR E w' β' H' o ob:=by
 cases ob with
 | none=>trivial
 | box cs=>
  obtain⟨b,vs,ty,h1,h2,h3,h4,h5,h6⟩:=h;exact⟨b,vs,ty,by rw[hβ,h1],by rw[hh b (by rw[h1];rfl),h2],h3,h4,fun i av v hi hv=>hx cs rfl i av v hi (h5 i av v hi hv),h6⟩
 | it ks f seen pend=>
  obtain⟨b,mb,sa,h1,h2,h3,h4,h5⟩:=h;exact⟨b,mb,sa,by rw[hβ,h1],by rw[hh b (by rw[h1];rfl),h2],h3,h4.imp id fun⟨m,q1,q2⟩=>⟨m,q1,hd _ _ q2⟩,h5⟩
 | arr x t sz ver n f=>
  rcases h with⟨h1,h2⟩|⟨g,cap,cur,h1,h2,h3,h4,h5,h6,h7,h8⟩
  ·exact .inl ⟨by rw[hβ,h1],h2⟩
  ·exact .inr ⟨g,cap,cur,by rw[hβ,h1],by rw[hh g (by rw[h1];rfl),h2],h3,h4,h5,h6,h7,fun i hi=>let ⟨a,b,c⟩:=h8 i hi;⟨a,b,fun j av v hj hv=>hd av v (c j av v hj hv)⟩⟩
def RelB.new(h:RelB E S.tmps S.obj a w β){d:Nat}(hn:S.bK d=true){w':World}(hg:Grow w w'){ob:AO}{v:Value}(hb:∀b,bi v=some b->w.heap.size<=b)
 (ho:(∀av u,RX w (E.D w β S.obj) E.B β S.obj av u->AV.nL d [av]=true->RX w' (E.D w' (upd β d v) (upd S.obj d ob)) E.B (upd β d v) (upd S.obj d ob) av u) ->
   (∀av u,RD w (E.D w β S.obj) E.B av u->RD w' (E.D w' (upd β d v) (upd S.obj d ob)) E.B av u)->OR E w' (upd β d v) (upd S.obj d ob) d ob):
 RelB E S.tmps (upd S.obj d ob) a w' (upd β d v) ∧
  (∀av u,RX w (E.D w β S.obj) E.B β S.obj av u->AV.nL d [av]=true->RX w' (E.D w' (upd β d v) (upd S.obj d ob)) E.B (upd β d v) (upd S.obj d ob) av u):=by
 have md:∀b,E.D w β S.obj b->E.D w' (upd β d v) (upd S.obj d ob) b:=by
  intro b hb1;refine⟨hb1.1,cf hb1.2.1 hg.size,fun o ho'=>?_⟩;unfold upd at ho' ⊢;by_cases e:o=d
  ·simp only[e,bC];intro hq;have:=hb b hq;have:=hb1.2.1;omega
  ·simp only[e,dg]at ho' ⊢;exact hb1.2.2 o ho'
 have hrd:∀av u,RD w (E.D w β S.obj) E.B av u->RD w' (E.D w' (upd β d v) (upd S.obj d ob)) E.B av u:=
  fun av u hr=>hr.mono (fun b hb=>hg.old b hb.lt) md (ao _)
 have hrx:∀av u,RX w (E.D w β S.obj) E.B β S.obj av u->AV.nL d [av]=true->RX w' (E.D w' (upd β d v) (upd S.obj d ob)) E.B (upd β d v) (upd S.obj d ob) av u:=
  fun av u hr hnr=>hr.NJ hrd (fun o e=>by simp[upd,e]) (fun o e=>by simp[upd,e]) hnr
 refine⟨⟨h.defers,h.size,fun t av ht=>hrx _ _ (h.tmps t av ht) ?_,fun o=>?_,fun o o' b hne h1 h2 h3 h4=>?_,h.frame.grow hg,fun o u n0 hp=>?_⟩,hrx⟩
 ·simp only[AS.bK,az]at hn;exact n9 hn.1.1 t av ht
 ·by_cases e:o=d
  ·subst e;have:=ho hrx hrd;simpa[upd]using this
  ·have nb:=h.objs o;have:upd S.obj d ob o=S.obj o:=by simp[upd,e]
   rw[this];by_cases hi:(S.obj o).is
   ·refine nb.mono (by simp[upd,e]) (fun b hb=>hg.old b (nb.lt hb hi).1) (fun cs hcs i av u hc hr=>hrx av u hr ?_) hrd;have hno:=G0 hn o;rw[hcs]at hno;exact n9 hno i av hc
   ·cases hq:S.obj o with
    | none=>trivial
    | box cs=>rw[hq]at hi;exact(hi trivial).elim
    | arr x t sz ver n f=>rw[hq]at hi;exact(hi trivial).elim
    | it ks f seen pend=>rw[hq]at hi;exact(hi trivial).elim
 ·unfold upd at h1 h2 h3 h4;by_cases e:o=d
  ·subst e;have e':o'≠o:=qI hne;simp only[e',bC,dg]at h1 h2 h3 h4;have:=hb b h3;have:=((h.objs o').lt h4 h2).1;omega
  ·by_cases e':o'=d
   ·subst e';simp only[e,bC,dg]at h1 h2 h3 h4;have:=hb b h4;have:=((h.objs o).lt h3 h1).1;omega
   ·simp only[e,e',dg]at h1 h2 h3 h4;exact h.apart o o' b hne h1 h2 h3 h4
 ·have hne:o≠d:=by
   rintro rfl;simp only[AS.bK,az]at hn;have:=E.cC o _ hp;rw[this]at hn;simp at hn
  simp only[upd,aa hne];exact h.pin o u n0 hp
def RelB.turn(h:RelB E S.tmps S.obj a w β){o:Nat}(hi:(S.obj o).is){w':World}(hos:w'.os=w.os)(Bn:w'.tape=w.tape)(hout:w'.output=w.output)(hsize:w.heap.size<=w'.heap.size)
 (hheap:∀b,b<w.heap.size->bi (β o)≠some b->w'.heap[b]? = w.heap[b]?) {ob:AO} (hoi:ob.is) {v:Value}
 (hb:∀b,bi v=some b->bi (β o)=some b∨w.heap.size<=b)
 (G2:∀b,β o=.pointer (some ⟨b,0,none⟩)->v=β o)
 (iN:∀x t sz ver n f,S.obj o=.arr x t sz ver n f->∃nd n2 f2,ob=.arr x t sz nd n2 f2∧((nd=ver∧n2 ()=n ()∧v=β o)∨ver<nd))
 (Cq:∀cs,S.obj o=.box cs->∃cs2,ob=.box cs2)
 (ho:(∀av u,RX w (E.D w β S.obj) E.B β S.obj av u->RX w' (E.D w' (upd β o v) (upd S.obj o ob)) E.B (upd β o v) (upd S.obj o ob) av u) ->
   (∀av u,RD w (E.D w β S.obj) E.B av u->RD w' (E.D w' (upd β o v) (upd S.obj o ob)) E.B av u)->OR E w' (upd β o v) (upd S.obj o ob) o ob)
 (hit:∀ks f s p,S.obj o=.it ks f s p->∃Og f2 s2 p2,ob=.it Og f2 s2 p2:=by intro _ _ _ _ q;simp_all):
 RelB E S.tmps (upd S.obj o ob) a w' (upd β o v)∧(∀av u,RX w (E.D w β S.obj) E.B β S.obj av u->RX w' (E.D w' (upd β o v) (upd S.obj o ob)) E.B (upd β o v) (upd S.obj o ob) av u):=by
 have md:∀b,E.D w β S.obj b->E.D w' (upd β o v) (upd S.obj o ob) b:=by
  intro b hb1;refine⟨hb1.1,cf hb1.2.1 hsize,fun o' ho'=>?_⟩;unfold upd at ho' ⊢;by_cases e:o'=o
  ·simp only[e,bC];intro hq;rcases hb b hq with h1|h1
   ·exact hb1.2.2 o hi h1
   ·have:=hb1.2.1;omega
  ·simp only[e,dg]at ho' ⊢;exact hb1.2.2 o' ho'
 have hrd:∀av u,RD w (E.D w β S.obj) E.B av u->RD w' (E.D w' (upd β o v) (upd S.obj o ob)) E.B av u:=
  fun av u hr=>hr.mono (fun b hb=>hheap b hb.lt (hb.2.2 o hi)) md (ao _)
 have hrx:∀av u,RX w (E.D w β S.obj) E.B β S.obj av u->RX w' (E.D w' (upd β o v) (upd S.obj o ob)) E.B (upd β o v) (upd S.obj o ob) av u:=by
  intro av u hr;refine hr.map hrd (fun o' off u hp=>?_) (fun o' ver n u hp=>?_) (fun o' sz ver n i off u hp=>?_)
  ·obtain⟨b,h1,rfl⟩:=hp.dF;refine .ptr o' off b ?_;unfold upd;by_cases e:o'=o
   ·subst e;simp only[bC];rw[G2 b h1];exact h1
   ·simp only[e,dg];exact h1
  ·obtain⟨hs,hq⟩:=hp.aI;refine .aJ o' ver n u hs (fun x t sz aM n' f hH=>?_);unfold upd at hH ⊢;by_cases e:o'=o
   ·subst e;simp only[bC]at hH ⊢;cases hso:S.obj o' with
    | none=>rw[hso]at hi;exact hi.elim
    | box cs=>obtain⟨cs2,rfl⟩:=Cq cs hso;cases hH
    | it ks f seen pend=>obtain⟨_,_,_,_,rfl⟩:=hit _ _ _ _ hso;cases hH
    | arr x1 t1 oa yE n1 f1=>
     obtain⟨nd,n2,f2,rfl,hcase⟩:=iN _ _ _ _ _ _ hso;cases hH;obtain⟨q1,q2⟩:=hq _ _ _ _ _ _ hso;rcases hcase with⟨rfl,hn,hv⟩|hlt
     ·exact⟨q1,fun e=>⟨by rw[hn];exact(q2 e).1,by rw[hv];exact(q2 e).2⟩⟩
     ·exact⟨zo,fun e=>zo⟩
   ·simp only[e,dg]at hH ⊢;exact hq _ _ _ _ _ _ hH
  ·obtain⟨hs,hlt,hq⟩:=hp.jk;refine .ci o' sz ver n i off u hs hlt (fun x t sz' aM n' f hH=>?_);unfold upd at hH ⊢;by_cases e:o'=o
   ·subst e;simp only[bC]at hH ⊢;cases hso:S.obj o' with
    | none=>rw[hso]at hi;exact hi.elim
    | box cs=>obtain⟨cs2,rfl⟩:=Cq cs hso;cases hH
    | it ks f seen pend=>obtain⟨_,_,_,_,rfl⟩:=hit _ _ _ _ hso;cases hH
    | arr x1 t1 oa yE n1 f1=>
     obtain⟨nd,n2,f2,rfl,hcase⟩:=iN _ _ _ _ _ _ hso;cases hH;obtain⟨q1,q2⟩:=hq _ _ _ _ _ _ hso;rcases hcase with⟨rfl,hn,hv⟩|hlt
     ·exact⟨q1,fun e=>⟨by rw[hn];exact(q2 e).1,fun e'=>by rw[hv];exact(q2 e).2 e'⟩⟩
     ·exact⟨zo,fun e=>zo⟩
   ·simp only[e,dg]at hH ⊢;exact hq _ _ _ _ _ _ hH
 have hself:=(h.objs o)
 refine⟨⟨h.defers,h.size,fun t av ht=>hrx _ _ (h.tmps t av ht),fun o'=>?_,fun o1 o2 b hne h1 h2 h3 h4=>?_,⟨hos.trans h.frame.os,Bn.trans h.frame.tape,hout.trans h.frame.output,aG h.frame.size hsize,fun b hb hx=>?_⟩,fun o' u n0 hp=>?_⟩,hrx⟩
 ·by_cases e:o'=o
  ·subst e;have:=ho hrx hrd;simpa[upd]using this
  ·have nb:=h.objs o';have he:upd S.obj o ob o'=S.obj o':=by simp[upd,e]
   rw[he];by_cases hi':(S.obj o').is
   ·refine nb.mono (by simp[upd,e]) (fun b hb=>hheap b (nb.lt hb hi').1 (fun hq=>h.apart o' o b e hi' hi hb hq)) (fun cs _ i av u _ hr=>hrx av u hr) hrd
   ·cases hq:S.obj o' with
    | none=>trivial
    | box cs=>rw[hq]at hi';exact(hi' trivial).elim
    | arr x t sz ver n f=>rw[hq]at hi';exact(hi' trivial).elim
    | it ks f seen pend=>rw[hq]at hi';exact(hi' trivial).elim
 ·unfold upd at h1 h2 h3 h4;by_cases e:o1=o
  ·subst e;have e':o2≠o1:=qI hne;simp only[e',bC,dg]at h1 h2 h3 h4;rcases hb b h3 with hq|hq
   ·exact h.apart o1 o2 b hne hi h2 hq h4
   ·have:=((h.objs o2).lt h4 h2).1;omega
  ·by_cases e':o2=o
   ·subst e';simp only[e,bC,dg]at h1 h2 h3 h4;rcases hb b h4 with hq|hq
    ·exact h.apart o1 o2 b hne h1 hi h3 hq
    ·have:=((h.objs o1).lt h3 h1).1;omega
   ·simp only[e,e',dg]at h1 h2 h3 h4;exact h.apart o1 o2 b hne h1 h2 h3 h4
 ·rw[hheap b (cf hb h.frame.size) (fun hq=>?_)]
  ·exact h.frame.block b hb hx
  ·rcases(hself.lt hq hi).2 with h1|h1
   ·exact hx h1
   ·exact Nat.lt_irrefl _ (cf hb h1)
 ·by_cases e:o'=o
  ·subst e;simp only[upd,bC];obtain⟨p1,p2⟩:=h.pin o' u n0 hp;cases hso:S.obj o' with
   | none=>rw[hso]at hi;exact hi.elim
   | it ks f seen pend=>
    obtain⟨_,_,_,_,rfl⟩:=hit _ _ _ _ hso;exact⟨(fun cs' hf=>by cases hf),(fun x t sz ver n f hf=>by cases hf)⟩
   | box cs=>
    obtain⟨cs2,hc2⟩:=Cq cs hso;rw[hso]at hself;obtain⟨b,_,_,hb1,_⟩:=hself;refine⟨fun cs' _=>by rw[G2 b hb1];exact p1 cs hso,fun x t sz ver n f hf=>by rw[hc2]at hf;cases hf⟩
   | arr x1 t1 oa yE n1 f1=>
    obtain⟨nd,n2,f2,hc2,hcase⟩:=iN _ _ _ _ _ _ hso;refine⟨(fun cs' hf=>by rw[hc2]at hf;cases hf),fun x t sz ver n f hf hv=>?_⟩;rw[hc2]at hf;cases hf;rcases hcase with⟨hv1,hn1,hv2⟩|hlt
    ·obtain⟨r1,r2⟩:=p2 _ _ _ _ _ _ hso zo;exact⟨by rw[hv2];exact r1,by rw[hn1];exact r2⟩
    ·omega
  ·simp only[upd,aa e];exact h.pin o' u n0 hp
end
section
variable {P:Program}{E:Env}{S:AS}{a:Act}{w:World}{β:Nat->Value}{o:Oper}{e:Eff}{ti:TI}{t:Nat}{T:List (Nat×TI)}
def kK(E:Env)(S:AS)(a:Act)(e:Eff)(r:Result Value):Prop:=∃u w',r=.ok u w'∧After E S a e u w'
def dZ.bL(h:RelB E S.tmps S.obj a w β){r:Result Value}(hp:dZ E S w β e r):kK E S a e r:=by
 obtain⟨u,h1,h2,h3,_⟩:=hp;have:fJ S e.wo=S.obj:=by rw[h3];rfl
 exact⟨u,w,h1,β,by rw[this];exact h,by rw[this];exact h2⟩
def G3(h:RelB E S.tmps S.obj a w β){cs:List AV}{vs:Array Value}{ty:TypeId}{d:Nat}(hn:S.bK d=true)(hx:jQ w (E.D w β S.obj) E.B β S.obj cs vs)(hnr:AV.nL d cs=true)(htag:kH cs ty):
 After E S a ⟨.ptr d 0,[(d,.box cs)],[d],none⟩ (.pointer (some ⟨w.heap.size,0,none⟩)) (w.alloc (.cells vs ty)):=by
 have hh:(w.alloc (.cells vs ty)).heap[w.heap.size]? = some (.cells vs ty (0,0)):=uP w _;obtain⟨h1,h2⟩:=h.new hn (Grow.alloc w (.cells vs ty)) (ob:=.box cs) (v:=.pointer (some ⟨w.heap.size,0,none⟩)) (fun b hb=>by simp[bi]at hb;omega)
  (fun hrx _=>⟨w.heap.size,vs,ty,by simp[upd],hh,.inr h.frame.size,hx.1,fun i av v hi hv=>hrx av v (hx.2 i av v hi hv) (n9 hnr i av hi),htag⟩)
 refine⟨_,by rw[pO];exact h1,by rw[pO];exact .ptr d 0 w.heap.size (by simp[upd])⟩
def Oh{d:Nat}{a:AV}{v:Value}(h:vD a v=true):AV.nL d [a]=true:=by
 unfold vD at h;split at h<;>first|(simp[AV.nL];done)|exact absurd h AX
theorem G4{d:Nat}:∀{xs1:List AV} {vs:List Value},jP xs1 vs=true->AV.nL d xs1=true
 | [],[],_=>by simp[AV.nL]
 | a::r,v::s,h=>by
  simp[jP]at h;exact na.2 ⟨Oh h.1.1,G4 h.2⟩
 | [],_::_,h=>by simp[jP]at h
 | _::_,[],h=>by simp[jP]at h
def Oi{w:World}{D:Nat->Prop}{B:Nat}{H:Nat->AO}{cs:List AV}{vs:Array Value}{t:Nat}(h:jQ w D B β H cs vs):jQ w D B β H (pt t cs) vs:=by
 unfold pt;split
 ·split
  ·refine⟨h.1,fun i av v hi hv=>?_⟩;cases i with
   | zero=>
    simp at hi;subst hi;have:=h.2 0 _ _ rfl hv;cases this with
    | d q=>cases q;exact .d (.bj t)
   | succ i=>exact h.2 (i+1) av v (by simpa using hi) hv
  ·exact h
 ·exact h
def Oj{d t:Nat}{cs:List AV}(h:AV.nL d cs=true):AV.nL d (pt t cs)=true:=by
 unfold pt;split
 ·split
  ·simpa[AV.nL]using h
  ·exact h
 ·exact h
def Ok{t:Nat}{cs:List AV}(h:cs.all AV.cell=true):kH (pt t cs) t:=by
 unfold pt;split
 ·split
  ·intro t' ht;simp at ht;exact ht
  ·exact kH.cells h
 ·exact kH.cells h
def Ol(ht:bg P t ti)(h:RelB E S.tmps S.obj a w β){d:Nat}(hn:S.bK d=true):kK E S a ⟨.ptr d 0,[(d,.box (pt t ti.zero))],[d],none⟩ ((Instr.alloc t true (.tuple #[])).run P w):=by
 obtain⟨z,hz,hzb⟩:=ht.zeroValue (w:=w);have qU:=Cp (w:=w) (D:=E.D w β S.obj) (B:=E.B) (β:=β) (H:=S.obj) hzb;refine⟨.pointer (some ⟨w.heap.size,0,none⟩),w.alloc (.cells z.cells t),?_,G3 h hn (Oi qU) (Oj (G4 hzb)) (Ok (vE (w:=w) (D:=E.D w β S.obj) (B:=E.B) hzb).2.1)⟩;simp only[Instr.alloc,ec,hz,cm];rfl
def G5{d:Nat}(v:Value):AV.nL d [qP v]=true:=by
 unfold qP;split<;>first|(simp[AV.nL];done)|(split<;>simp[AV.nL])
theorem G6{d:Nat}:∀l:List Value,AV.nL d (l.map qP)=true
 | []=>by simp[AV.nL]
 | v::l=>by rw[fZ];exact na.2 ⟨G5 v,G6 l⟩
def Om{d:Nat}(v:Value):AV.nL d [vp v]=true:=by
 unfold vp;split
 ·simp[AV.nL,G6]
 ·exact G5 v
def On{d:Nat}(hn:S.bK d=true){g:Option (Unit->Bool)}{x:Operand}{av:AV}(hy:aV S (dj g x) av):AV.nL d [av]=true:=by
 cases x with
 | tmp t=>
  have hy:=hy.tmp;have h1:AV.nL d [S.tmp t]=true:=by
   unfold AS.tmp;rw[cz];simp only[AS.bK,az]at hn;cases hq:S.tmps[t]? with
   | none=>simp[AV.nL]
   | some av=>exact n9 hn.1.1 t av hq
  split at hy
  ·rename_i g' v' he;rw[he]at h1;have h1':AV.nL d [v']=true:=by simpa[AV.nL]using h1
   split at hy
   ·obtain⟨_,hr⟩:=hy.cond;have:=hr.ret;subst this;exact h1'
   ·have:=hy.ret;subst this;exact h1
  ·have:=hy.ret;subst this;exact h1
 | const v=>
  have:=hy.ret;subst this;exact Om v
 | global g=>
  simp only[dj]at hy;split at hy<;>(have:=hy.ret;subst this;simp[AV.nL,Gs])
 | func f=>have:=hy.ret;subst this;simp[AV.nL]
def Oo{d:Nat}{x:AV}(h:AV.nL d [x]=true):AV.nL d x.cells=true:=by
 cases x<;>first|exact h|(simpa[AV.nL,AV.cells]using h)
def Oq(h:RelB E S.tmps S.obj a w β){d:Nat}(hn:S.bK d=true){x:AV}{v:Value}(hx:RX w (E.D w β S.obj) E.B β S.obj x v)(hc:x.cells.all AV.cell=true)(hnx:AV.nL d [x]=true):
 kK E S a ⟨.ptr d 0,[(d,.box x.cells)],[d],none⟩ ((Instr.box t v).run P w):=
 ⟨.pointer (some ⟨w.heap.size,0,none⟩),w.alloc (.cells v.cells t),rfl,G3 h hn (yz hx hc) (Oo hnx) (.cells hc)⟩
def Cr{cur:Array Value}{off:Nat}{new:List Value}(h:off+new.length<=cur.size):
 (cur.toList.take off++new++cur.toList.drop (off+new.length)).toArray.size=cur.size ∧
 ∀i,(cur.toList.take off++new++cur.toList.drop (off+new.length)).toArray[i]? = if off<=i∧i<off+new.length then new[i-off]? else cur[i]? := by
 refine⟨by simp;omega,fun i=>?_⟩;rw[uN];have ht:(cur.toList.take off).length=off:=by simp;omega
 by_cases h1:i<off
 ·rw[gF,gS zo,aa zo,xN,ae h1];simp
 ·by_cases h2:i<off+new.length
  ·rw[gF,jd zo,gS zo,ae zo,ht]
  ·rw[jd (by simp;omega),aa zo,qG];have:off+new.length+(i-(cur.toList.take off++new).length)=i:=by simp;omega
   rw[this];simp
theorem qV:∀{cs:List AV},AV.bx cs=true->∀(i:Nat) (av:AV),cs[i]? = some av->AV.bx [av]=true
 | [],_,i,av,h=>by simp at h
 | c::r,hn,i,av,hi=>by
  have hs:AV.bx [c]=true∧AV.bx r=true:=by cases c<;>simp_all[AV.bx]
  cases i with
  | zero=>simp at hi;subst hi;exact hs.1
  | succ i=>exact qV hs.2 i av (by simpa using hi)
def RX.pure{D:Nat->Prop}{B:Nat}{H:Nat->AO}{av:AV}{v:Value}(h:RX w D B β H av v):AV.bx [av]=true->RD w D B av v:=by
 induction h with
 | d h=>exact fun _=>h
 | ptr=>intro h;simp[AV.bx]at h
 | ci=>intro h;simp[AV.bx]at h
 | aJ=>intro h;simp[AV.bx]at h
 | bG=>intro h;simp[AV.bx]at h
 | a8=>intro h;simp[AV.bx]at h
 | agg cs vs hl _ ih=>exact fun hp=>.agg cs vs hl fun i av v h1 h2=>ih i av v h1 h2 (qV (by simpa[AV.bx]using hp) i av h1)
 | ag cs vs hl _ ih=>exact fun hp=>.ag cs vs hl fun i av v h1 h2=>ih i av v h1 h2 (qV (by simpa[AV.bx]using hp) i av h1)
 | func fn cs vs hl _ ih=>exact fun hp=>.func fn cs vs hl fun i av v h1 h2=>ih i av v h1 h2 (qV (by simpa[AV.bx]using hp) i av h1)
 | may g av v _ hu ih=>exact fun hp=>.may g av v (fun e=>ih e (by simpa[AV.bx]using hp)) hu
def Ot(ht:bg P t ti)(h:RelB E S.tmps S.obj a w β){p x:AV}{pv xv:Value}(hp:RX w (E.D w β S.obj) E.B β S.obj p pv)(hx:RX w (E.D w β S.obj) E.B β S.obj x xv)
 (hy:aV S (BP ti p x) e):∃w',(Instr.storeAt t pv xv).run P w=.ok () w'∧After E S a e undef w':=by
 unfold BP at hy;simp only at hy;replace hy:=yI hy;obtain⟨hc,hy⟩:=hy;simp only[az,cX]at hc;obtain⟨hsz,hcell⟩:=hc;obtain⟨hcl,hcx⟩:=yz hx hcell;have hs:=ht.sizeOf (w:=w);have hone:∀v∈xv.cells.toList,v.oneCell'=true:=by
  intro v hv;obtain⟨i,hi⟩:=pf hv;have hlt:i<x.cells.length:=by have:=(bX.1 hi).1;simp at this;omega
  have:=hcx i _ v (bf hlt) (by simpa using hi);exact GM this (cI.1 hcell _ (d9 hlt))
 have hlen:xv.cells.toList.length=x.cells.length:=by simp[hcl]
 have hrun:∀(g off:Nat) (cur:Array Value) (ty:TypeId),w.heap[g]? = some (.cells cur ty (0,0))->off+x.cells.length<=cur.size ->
  (Instr.storeAt t (.pointer (some ⟨g,off,none⟩)) xv).run P w=.ok () (w.setRow g (cur.toList.take off++xv.cells.toList++cur.toList.drop (off+xv.cells.toList.length)).toArray):=by
  intro g off cur ty hh hle;have:=run_storeCells_at P g off ty xv.cells.toList 0 cur w hh (by rw[hlen];omega) hone;simp only[fE]at this;simp only[Instr.storeAt,Instr.sureAddr,pure_bind,storeVar,ec,hs,cm];rw[aa (by simp[<- hcl,hsz])];exact this
 split at hy
 ·rename_i ob off;have hy:=hy.obj;split at hy
  ·rename_i old hold;obtain⟨hle,hy⟩:=yI hy;have:=hy.ret;subst this;have ho:=h.objs ob;rw[hold]at ho;obtain⟨b,vs,ty,hβ,hh,hown,hvl,hcells,htag⟩:=ho;obtain⟨b',gi,rfl⟩:=hp.dF;rw[hβ]at gi;simp at gi;subst gi;refine⟨_,hrun b off vs ty hh zo,?_⟩;obtain⟨s1,s2⟩:=Cr (cur:=vs) (off:=off) (new:=xv.cells.toList) (by rw[hlen];omega);generalize hnew:(vs.toList.take off++xv.cells.toList++vs.toList.drop (off+xv.cells.toList.length)).toArray=new at s1 s2 ⊢;have hheap:=setRow_heap w b vs new ty (0,0) hh;obtain ⟨h1,h2⟩:=h.turn (o:=ob) (by rw[hold];trivial) (w':=w.setRow b new) rfl rfl rfl zsi (fun k _ hk=>setRow_other w b k new (fun e=>hk (by rw[hβ];simp[bi,e]))) (ob:=.box (splice old off x.cells)) trivial (v:=β ob)
    (fun b hb=>.inl hb) (fun _ _=>rfl) (fun x t sz ver n f hf=>by rw[hold]at hf;cases hf) (fun cs hcs=>⟨_,rfl⟩)
    (fun hrx _=>⟨b,new,ty,by simp[upd,hβ],hheap,hown,by rw[yy hle,s1,hvl],fun i av v hi hv=>by
      rw[s2]at hv;rw[yB hle]at hi;rw[hlen]at hv;by_cases hcc:off<=i∧i<off+x.cells.length
      ·rw[ae hcc]at hi hv;exact hrx _ _ (hcx _ _ _ hi (by simpa using hv))
      ·rw[aa hcc]at hi hv;exact hrx _ _ (hcells _ _ _ hi hv),fun t ht=>by
      rw[yB hle]at ht;split at ht
      ·exact kH.cells (ty:=ty) hcell t (by
        rename_i q;obtain rfl:off=0:=zo
        exact ht)
      ·exact htag t ht⟩)
   exact⟨_,by rw[pO];exact h1,.d (.any _)⟩
  ·exact hy.fail.elim
 ·rename_i ob sz ver n' i off;have hy:=hy.obj;split at hy
  ·rename_i x1 ty sz' aM n f hold;obtain⟨hcond,hy⟩:=yI hy;have:=hy.ret;subst this;simp only[az,dv,cX]at hcond;obtain⟨⟨⟨hsz',iN⟩,hle⟩,hpure⟩:=hcond;have ho:=h.objs ob;rw[hold]at ho;obtain⟨_,hi,hq⟩:=hp.jk;obtain⟨_,hq⟩:=hq _ _ _ _ _ _ hold;obtain⟨hn,hq⟩:=hq iN;obtain⟨g,cap,hβ,rfl⟩:=hq hsz';subst hsz';rcases ho with⟨gi,_⟩|⟨g',cap',cur,gi,hh,hc1,hc2,hc3,hx1,hown,hel⟩
   ·rw[hβ]at gi;simp at gi
   ·rw [hβ]at gi;simp at gi;obtain⟨rfl,hnn,rfl⟩:=gi;have hb1:(i ()+1)*sz<=cap*sz:=gE _ zo;have hb2:i ()*sz+off+x.cells.length<=cur.size:=by rw[fc]at hb1;omega
    obtain⟨Ct,yF,Ou⟩:=hel (i ()) zo;have hfi:f i=f fun _=>i ():=rfl;rw[NZ (f:=fun _=>f i) (by rw[hfi];exact Ct)];refine⟨_,hrun g (i ()*sz+off) cur ty hh hb2,?_⟩;obtain⟨s1,s2⟩:=Cr (cur:=cur) (off:=i ()*sz+off) (new:=xv.cells.toList) (by rw[hlen];omega);generalize hnew:(cur.toList.take (i ()*sz+off)++xv.cells.toList++cur.toList.drop (i ()*sz+off+xv.cells.toList.length)).toArray=new at s1 s2 ⊢;have hheap:=setRow_heap w g cur new ty (0,0) hh;have hpl:AV.bx x.cells=true:=by
     have:∀(l:List AV),l.all AV.pure=true->AV.bx l=true:=by
      intro l
      induction l with
      | nil=>intro _;simp[AV.bx]
      | cons c r ih=>
       intro hl;simp only[qD,az]at hl;have h2:=ih hl.2;have h1:=hl.1;unfold AV.pure at h1;cases c<;>simp_all[AV.bx]
     exact this _ hpure
    obtain ⟨h1,h2⟩:=h.turn (o:=ob) (by rw[hold];trivial) (w':=w.setRow g new) rfl rfl rfl zsi (fun k _ hk=>setRow_other w g k new (fun e=>hk (by rw[hβ];simp[bi,e])))
     (ob:=.arr x1 ty sz ver n (s8 f i (splice (f i) off x.cells))) trivial (v:=β ob)
     (fun b hb=>.inl hb) (fun _ _=>rfl) (fun x t sz ver n f hf=>by rw[hold]at hf;cases hf;exact⟨_,_,_,by rw[iN],.inl ⟨rfl,rfl,rfl⟩⟩) (fun cs hcs=>by rw[hold]at hcs;cases hcs)
     (fun _ hrd=>.inr ⟨g,cap,new,by simp[upd,hβ,hn],hheap,hc1,hc2,by rw[s1,hc3],hx1,hown,fun k hk=>by
       by_cases hki:k=i ()
       ·subst hki;have hf':s8 f i (splice (f i) off x.cells) (fun _=>i ())=splice (f i) off x.cells:=by simp[s8]
        rw[hf'];have hle':off+x.cells.length<=(f i).length:=by rw[hfi,Ct];exact hle
        refine⟨by rw[yy hle',hfi,Ct],?_,fun j av v hj hv=>?_⟩
        ·unfold splice;simp only[List.all_append,az];refine⟨⟨?_,hcell⟩,?_⟩
         ·rw[cI]at yF ⊢;exact fun q hq=>yF q (AY hq)
         ·rw[cI]at yF ⊢;exact fun q hq=>yF q (uQ hq)
        ·rw[s2,hlen]at hv;rw[yB hle']at hj;by_cases hcc:off<=j∧j<off+x.cells.length
         ·rw[ae hcc]at hj;rw[ae zo]at hv;refine hrd _ _ ((hcx (j-off) av v hj ?_).pure (qV hpl _ _ hj));have:i ()*sz+j-(i ()*sz+off)=j-off:=by omega
          rw[this]at hv;simpa using hv
         ·rw[aa hcc]at hj;rw[aa zo]at hv;exact hrd _ _ (Ou j av v hj hv)
       ·have hf':s8 f i (splice (f i) off x.cells) (fun _=>k)=f fun _=>k:=by simp[s8,hki]
        rw[hf'];obtain⟨q1,q2,q3⟩:=hel k hk;refine⟨q1,q2,fun j av v hj hv=>?_⟩;have hjl:j<sz:=by have:=(bX.1 hj).1;omega
        rw[s2,hlen]at hv;have hout:¬(i ()*sz+off<=k*sz+j∧k*sz+j<i ()*sz+off+x.cells.length):=by
         rintro⟨g1,g2⟩;rcases Nat.lt_or_gt_of_ne hki with hlt|hlt
         ·have:(k+1)*sz<=i ()*sz:=gE _ hlt;rw[fc]at this;omega
         ·have:(i ()+1)*sz<=k*sz:=gE _ hlt;rw[fc]at this;omega
        rw[aa hout]at hv;exact hrd _ _ (q3 j av v hj hv)⟩)
    subst iN;exact⟨_,by rw[pO];exact h1,.d (.any _)⟩
  ·exact hy.fail.elim
 ·exact hy.fail.elim
end
section
variable {P:Program}{E:Env}{S:AS}{a:Act}{w:World}{β:Nat->Value}{o:Oper}{e:Eff}{ti:TI}{t:Nat}{T:List (Nat×TI)}
structure iq(w:World)(D:Nat->Prop)(B:Nat)(sz n:Nat)(f:(Unit->Nat)->List AV)(vs:List Value):Prop where
 len:vs.length=n*sz
 el:∀i,i<n->(f fun _=>i).length=sz∧(f fun _=>i).all AV.cell=true∧∀(j:Nat) (av:AV) (v:Value),(f fun _=>i)[j]? = some av->vs[i*sz+j]? = some v->RD w D B av v
def iq.one{D:Nat->Prop}{B sz n:Nat}{f:(Unit->Nat)->List AV}{vs:List Value}(h:iq w D B sz n f vs):∀v∈vs,v.oneCell'=true:=by
 intro v hv;obtain⟨k,hk⟩:=pf hv;have hlt:k<n*sz:=by have:=(bX.1 hk).1;rw[h.len]at this;exact this
 have hsz:0<sz:=by
  rcases sF sz with h0|h0
  ·subst h0;omega
  ·exact h0
 have hi:k/sz<n:=by rw[Nat.div_lt_iff_lt_mul hsz];exact hlt
 obtain⟨h1,h2,h3⟩:=h.el (k/sz) hi;have hj:k%sz<(f fun _=>k/sz).length:=by rw[h1];exact xQ _ hsz
 have he:k/sz*sz+k%sz=k:=by rw[Nat.mul_comm];exact Nat.div_add_mod k sz
 have:=h3 (k%sz) _ v (bf hj) (by rw[he];exact hk);exact GM (.d (β:=fun _=>.nilFunc) (H:=fun _=>.none) this) (cI.1 h2 _ (d9 hj))
def iq.mono{w':World}{D D':Nat->Prop}{B sz n:Nat}{f:(Unit->Nat)->List AV}{vs:List Value}(h:iq w D B sz n f vs)(hd:∀av v,RD w D B av v->RD w' D' B av v):iq w' D' B sz n f vs:=
 ⟨h.len,fun i hi=>let ⟨a,b,c⟩:=h.el i hi;⟨a,b,fun j av v h1 h2=>hd _ _ (c j av v h1 h2)⟩⟩
def iq.append{D:Nat->Prop}{B sz:Nat}{n m:Unit->Nat}{f g:(Unit->Nat)->List AV}{vs us:List Value}(h:iq w D B sz (n ()) f vs)(k:iq w D B sz (m ()) g us):iq w D B sz (n ()+m ()) (dO n f g) (vs++us):=by
 refine⟨by simp[h.len,k.len,fc],fun i hi=>?_⟩;by_cases hin:i<n ()
 ·have hf:dO n f g (fun _=>i)=f fun _=>i:=by simp[dO,hin]
  rw[hf];obtain⟨a,b,c⟩:=h.el i hin;refine⟨a,b,fun j av v h1 h2=>c j av v h1 ?_⟩;have hj:j<sz:=by have:=(bX.1 h1).1;omega
  have:i*sz+j<vs.length:=by
   rw[h.len];have:(i+1)*sz<=n ()*sz:=gE _ hin;rw[fc]at this;omega
  rw[gS this]at h2;exact h2
 ·have hf:dO n f g (fun _=>i)=g fun _=>i-n ():=by simp[dO,hin]
  rw[hf];obtain⟨a,b,c⟩:=k.el (i-n ()) zo;refine⟨a,b,fun j av v h1 h2=>c j av v h1 ?_⟩;have hsub:i*sz+j=n ()*sz+((i-n ())*sz+j):=by
   have:i=n ()+(i-n ()):=zo
   rw[this,fc];have e2:n ()+(i-n ())-n ()=i-n ():=zo
   rw[e2];omega
  rw[jd (by rw[h.len,hsub];omega),h.len]at h2;have:i*sz+j-n ()*sz=(i-n ())*sz+j:=zo
  rw[this]at h2;exact h2
structure vK(P:Program)(w:World)(D:Nat->Prop)(B:Nat)(sz:Nat)(x:Value)(m:Nat)(g:(Unit->Nat)->List AV)(us:List Value):Prop where
 len:∀w':World,(Builtin.lenOf x).run P w'=.ok m w'
 first:∀w':World,(∀b,b<w.heap.size->w'.heap[b]? = w.heap[b]?)->(Builtin.firstCells sz m x).run P w'=.ok us.toArray w'
 els:iq w D B sz m g us
def tB(p:Option Addr)(n c:Nat):(Builtin.lenOf (.slice p n c)).run P w=.ok n w:=by simp[Builtin.lenOf]
def Ov{D:Nat->Prop}{B:Nat}{fr:FB}{sz:Nat}{n:Unit->Nat}{f:(Unit->Nat)->List AV}{v:Value}(hD:∀b,D b->b<w.heap.size)(h:RD w D B (.slc fr sz n f) v):∃us,vK P w D B sz v (n ()) f us:=by
 cases h with
 | empty _ _ _ _ p cap hn hc=>
  refine⟨[],fun w'=>by rw[hn];exact tB _ _ _,fun w' _=>?_,by simp[hn],fun i hi=>zo⟩;rw[hn];cases p with
  | none=>simp[Builtin.firstCells]
  | some A=>simp[Builtin.firstCells,loadCells,loadCellsFrom]
 | slc _ _ _ _ b o cap c hn hc eD hB hcell hlen hone hel=>
  refine⟨(List.range (n ()*sz)).map c,fun w'=>tB _ _ _,fun w' hw=>?_,zsi,fun i hi=>⟨hlen i hi,hone i hi,fun j av v h1 h2=>?_⟩⟩
  ·have:=run_loadCells (P:=P) w' ⟨b,o,none⟩ (n ()*sz) c (fun j hj=>by
    rw[li,World.cell?_of_block (w:=w) (hw b (hD b eD))];exact hcell j hj)
   simpa[Builtin.firstCells]using this
  ·have hj:j<sz:=by have:=(bX.1 h1).1;rw[hlen i hi]at this;exact this
   have hlt:i*sz+j<n ()*sz:=by
    have:(i+1)*sz<=n ()*sz:=gE _ hi;rw[fc]at this;omega
   have hq:=hel i j av hi h1;simp[hlt]at h2;subst h2;exact hq
def G7{H:Nat->AO}{ob:Nat}{x:Bool}{ty sz ver:Nat}{n:Unit->Nat}{f:(Unit->Nat)->List AV}(h:OR E w β H ob (.arr x ty sz ver n f)):∃us,vK P w (E.D w β H) E.B sz (β ob) (n ()) f us:=by
 rcases h with⟨h1,h2⟩|⟨g,cap,cur,h1,h2,h3,h4,h5,h6,h7,h8⟩
 ·refine⟨[],fun w'=>by rw[h1,h2];exact tB _ _ _,fun w' _=>by rw[h1,h2];simp[Builtin.firstCells],by simp[h2],fun i hi=>zo⟩
 ·have hle:n ()*sz<=cur.size:=by rw[h5];exact gE _ h3
  refine⟨cur.toList.take (n ()*sz),fun w'=>by rw[h1];exact tB _ _ _,fun w' hw=>?_,by simp;omega,fun i hi=>?_⟩
  ·rw[h1];have hg:=hw g (d8.1 h2).1
   have:=run_loadCells_list (P:=P) w' ⟨g,0,none⟩ (cur.toList.take (n ()*sz)) (fun j v hj=>by
    rw[li];simp only[World.cell?,hg,h2];rw[xN]at hj;split at hj
    ·simpa using hj
    ·cases hj)
   rw[show(cur.toList.take (n ()*sz)).length=n ()*sz by simp;omega]at this;simpa[Builtin.firstCells]using this
  ·obtain⟨a,b,c⟩:=h8 i hi;refine⟨a,b,fun j av v hj hv=>c j av v hj ?_⟩;rw[xN]at hv;split at hv
   ·simpa using hv
   ·cases hv
def Ow{D:Nat->Prop}{B sz:Nat}:vK P w D B sz (.slice none 0 0) 0 (fun _=>[]) []:=
 ⟨fun _=>tB _ _ _,fun _ _=>by simp[Builtin.firstCells],zsi,fun i hi=>zo⟩
def Ox{D:Nat->Prop}{B:Nat}(s:ByteArray):vK P w D B 1 (.string s) s.size (fun i=>[.int .u8 (fun _=>((s.data[i ()]?).getD 0).toNat)]) (s.data.toList.map fun b=>.int .u8 b.toNat):=by
 refine⟨fun _=>by simp[Builtin.lenOf],fun w' _=>?_,by rw[kr,fY,uJ];rfl,fun i hi=>⟨rfl,by simp[AV.cell],fun j av v hj hv=>?_⟩⟩
 ·have:s.extract 0 s.size=s:=by simp
  simp only[Builtin.firstCells,this];have e:(s.data.map fun b=>Value.int .u8 b.toNat)=(s.data.toList.map fun b=>Value.int .u8 b.toNat).toArray:=by
   apply mR;simp
  rw[e];rfl
 ·cases j with
  | zero=>
   have hlt:i<s.data.size:=hi;have hg:s.data[i]? = some s.data[i]:=dC hlt;simp[hg]at hj hv;subst hj;subst hv;have:=RD.int (w:=w) (D:=D) (B:=B) .u8 (fun _=>(((s.data[i]?).getD 0).toNat:Int));simpa[hg]using this
  | succ j=>simp at hj
def G8(h:RelB E S.tmps S.obj a w β){sz:Nat}{x:AV}{v:Value}(hx:RX w (E.D w β S.obj) E.B β S.obj x v){k:(Unit->Nat)->((Unit->Nat)->List AV)->M Eff}(hy:aV S (ta sz x k) e):
 ∃m g us,vK P w (E.D w β S.obj) E.B sz v (m ()) g us∧aV S (k m g) e:=by
 unfold ta at hy;split at hy
 ·obtain rfl:=hx.kG;exact⟨_,_,_,Ow,hy⟩
 ·rename_i fr sz' n f;obtain⟨rfl,hy⟩:=yI hy;obtain⟨us,jE⟩:=Ov (P:=P) (fun b hb=>hb.lt) hx.gY;exact⟨n,f,us,jE,by assumption⟩
 ·rename_i ob ver n;have hy:=hy.obj;split at hy
  ·rename_i x1 ty sz' aM n' f hold;replace hy:=yI hy;obtain⟨hc,hy⟩:=hy;simp only[az,dv]at hc;obtain⟨rfl,iN⟩:=hc;have ho:=h.objs ob;rw[hold]at ho;obtain⟨_,hq⟩:=hx.aI;obtain⟨_,hq⟩:=hq _ _ _ _ _ _ hold;obtain⟨hn,rfl⟩:=hq iN;obtain⟨us,jE⟩:=G7 (P:=P) ho;exact⟨n,f,us,by rw[hn];exact jE,hy⟩
  ·exact hy.fail.elim
 ·rename_i s;obtain⟨rfl,hy⟩:=yI hy;obtain rfl:=hx.gX;exact⟨_,_,_,Ox (s ()),by assumption⟩
 ·exact hy.fail.elim
end
section
variable {P:Program}{E:Env}{S:AS}{a:Act}{w:World}{β:Nat->Value}{o:Oper}{e:Eff}{ti:TI}{t:Nat}{T:List (Nat×TI)}
def vL(d:TypeDesc):Prop:=(∃e,d=.slice e)∨d=.string
def Cu{t t2 ty el:TypeId}{i:TypeInfo}{z:Value}{d2:TypeDesc}(ht:P.underlying t=some (.slice el))(ht2:P.underlying t2=some d2)(hd2:vL d2)(hi:P.info? el=some i)(hz:i.zero=some z)
 {base:Option Addr} {n cap m:Nat} {x:Value} {olds news:List Value} (hlen:∀w':World,(Builtin.lenOf x).run P w'=.ok m w')
 (hold:∀w':World,w'.heap=w.heap->(Builtin.firstCells i.size n (.slice base n cap)).run P w'=.ok olds.toArray w')
 (hnew:∀w':World,w'.heap=w.heap->(Builtin.firstCells i.size m x).run P w'=.ok news.toArray w')
 (hg:cap<n+m) (h63:((n+m:Nat):Int)<=9223372036854775807) (hfit:Builtin.nextslicecap (n+m) cap*i.bytes<=281474976710656):
 (Builtin.append_ #[t,t2] ty #[.slice base n cap,x]).run P w =
   .ok (.slice (some ⟨w.heap.size,0,none⟩) (n+m) (grownCap w (n+m) cap el))
    (w.drew.alloc (.cells (olds.toArray++news.toArray++Builtin.zeroCells z.cells (grownCap w (n+m) cap el-(n+m))) el)):=by
 have hn:¬(n+m<=cap):=zo
 have h63':¬(9223372036854775807<((n:Int)+(m:Int))):=zo
 have h48':¬(281474976710656<Builtin.nextslicecap (n+m) cap*i.bytes):=zo
 have h1:=hold w.drew rfl;have h2:=hnew w.drew rfl;rcases hd2 with⟨e2,rfl⟩|rfl
 all_goals
  simp[Builtin.append_,bF ht,bF ht2,sizeOf,typeInfo,zeroValue,hi,hz,hlen,hn,h63',h48',Question.forced,h1,h2,newRow,grownCap];congr 2;apply mR;simp[gF]
def Oy{t t2 ty el:TypeId}{i:TypeInfo}{d2:TypeDesc}(ht:P.underlying t=some (.slice el))(ht2:P.underlying t2=some d2)(hd2:vL d2)(hi:P.info? el=some i)
 {g n cap m:Nat} {x:Value} {cur:Array Value} {news:List Value} (hh:w.heap[g]? = some (.cells cur el (0,0))) (hlen:∀w':World,(Builtin.lenOf x).run P w'=.ok m w')
 (hnew:(Builtin.firstCells i.size m x).run P w=.ok news.toArray w) (h1:∀v∈news,v.oneCell'=true) (hroom:n+m<=cap) (hfit:n*i.size+news.length<=cur.size):
 (Builtin.append_ #[t,t2] ty #[.slice (some ⟨g,0,none⟩) n cap,x]).run P w =
   .ok (.slice (some ⟨g,0,none⟩) (n+m) cap) (w.setRow g (cur.toList.take (n*i.size)++news++cur.toList.drop (n*i.size+news.length)).toArray):=by
 have hst:=run_storeCells_at P g (n*i.size) el news 0 cur w hh (by simpa using hfit) h1;simp only[fE]at hst;rcases hd2 with⟨e2,rfl⟩|rfl<;>simp[Builtin.append_,bF ht,bF ht2,sizeOf,typeInfo,hi,hlen,hroom,hnew,li,hst]
def G9{t t2 ty el:TypeId}{i:TypeInfo}{d2:TypeDesc}(ht:P.underlying t=some (.slice el))(ht2:P.underlying t2=some d2)(hd2:vL d2)(hi:P.info? el=some i)
 {x:Value} {news:List Value} (hlen:∀w':World,(Builtin.lenOf x).run P w'=.ok 0 w') (hnew:(Builtin.firstCells i.size 0 x).run P w=.ok news.toArray w):
 (Builtin.append_ #[t,t2] ty #[.slice none 0 0,x]).run P w=.ok (.slice none 0 0) w:=by
 rcases hd2 with⟨e2,rfl⟩|rfl<;>simp[Builtin.append_,bF ht,bF ht2,sizeOf,typeInfo,hi,hlen,hnew]
def Cw(z:Array Value)(n:Nat):(Builtin.zeroCells z n).size=n*z.size:=by simp[Builtin.zeroCells]
def vM{D:Nat->Prop}{B sz n:Nat}{f:(Unit->Nat)->List AV}{vs:List Value}(h:iq w D B sz n f vs){cur:Array Value}(hc:∀k,k<vs.length->cur[k]? = vs[k]?):
 ∀i,i<n->(f fun _=>i).length=sz∧(f fun _=>i).all AV.cell=true∧∀(j:Nat) (av:AV) (v:Value),(f fun _=>i)[j]? = some av->cur[i*sz+j]? = some v->RD w D B av v:=by
 intro i hi;obtain⟨a,b,c⟩:=h.el i hi;refine⟨a,b,fun j av v hj hv=>c j av v hj ?_⟩;have hjl:j<sz:=by have:=(bX.1 hj).1;omega
 have:i*sz+j<vs.length:=by
  rw[h.len];have:(i+1)*sz<=n*sz:=gE _ hi;rw[fc]at this;omega
 rw[<- hc _ this];exact hv
def tC{n:Nat}(h:n<=35184372088832):n<=maxLen:=by unfold maxLen;omega
def Oz(hT:cn P T)(ht:bg P t ti)(h:RelB E S.tmps S.obj a w β){t2 ty:TypeId}{d2:TypeDesc}(ht2:P.underlying t2=some d2)(hd2:vL d2){b x:AV}{bv xv:Value}{d:Nat}
 (hb:RX w (E.D w β S.obj) E.B β S.obj b bv) (hx:RX w (E.D w β S.obj) E.B β S.obj x xv) (hy:aV S (yl T ti d b x) e) (hn:∀k∈e.new,S.bK k=true):kK E S a e ((Builtin.append_ #[t,t2] ty #[bv,xv]).run P w):=by
 unfold yl at hy;split at hy
 ·rename_i el hk;have hu:=ht.slice hk;simp only at hy;replace hy:=yI hy;obtain⟨hc,hy⟩:=hy;simp only[az,cX]at hc;obtain⟨dB,hpos⟩:=hc;have hte:=hT.at el dB;obtain⟨i,z,hi,hisz,Cx,hiz,OA,_⟩:=hte.ex;have tD:z.cells.size=i.size:=by
   have:=(vE (w:=w) (D:=fun _=>True) (B:=0) OA).1;rw[hte.GD]at this;rw[hisz,this];simp
  replace hy:=G8 (P:=P) h hx hy;obtain⟨m,g,us,hs,hy⟩:=hy;split at hy
  ·-- the nil slice
   obtain⟨hbd,hy⟩:=hy.cond;have:=hy.ret;subst this;obtain rfl:=hb.kG;have hn:=hn d zsi;by_cases hm:m ()=0
   ·have hr:=G9 (P:=P) (ty:=ty) (w:=w) hu ht2 hd2 hi (x:=xv) (news:=us) (fun w'=>by rw[<- hm];exact hs.len w') (by rw[hisz,<- hm];exact hs.first w (fun _ _=>rfl));refine⟨_,_,hr,?_⟩;obtain⟨h1,h2⟩:=h.new hn (w':=w) ⟨rfl,rfl,rfl,ao _,fun _ _=>rfl⟩ (ob:=.arr false el (aO T el).size 0 m g) (v:=.slice none 0 0) (fun b hb=>by simp[bi]at hb)
     (fun _ _=>.inl ⟨by simp[upd],hm⟩)
    exact⟨_,by rw[pO];exact h1,by rw[pO];exact .aJ _ _ _ _ (.inl ⟨rfl,hm⟩) (fun x t sz' aM n' f hH=>by simp[upd]at hH;obtain⟨_,_,_,rfl,rfl,_⟩:=hH;exact⟨ao _,fun _=>⟨rfl,by simp[upd]⟩⟩)⟩
   ·have hr:=Cu (P:=P) (ty:=ty) (w:=w) hu ht2 hd2 hi hiz (base:=none) (n:=0) (cap:=0) (m:=m ()) (x:=xv) (olds:=[]) (news:=us) hs.len
     (fun w' _=>by simp[Builtin.firstCells]) (fun w' hw=>by rw[hisz];exact hs.first w' (fun b _=>by rw[hw])) zo zo (growslice_fits zo (by rw[Cx];simp only[eC];omega))
    refine⟨_,_,hr,?_⟩;simp only[eC,Fx]at hr ⊢;have hge:=grownCap_ge w (m ()) 0 el;have hle:=Fy w (m ()) 0 el (tC hbd.2);generalize grownCap w (m ()) 0 el=c at hge hle ⊢;have hgrow:Grow w (w.drew.alloc (.cells (us.toArray++Builtin.zeroCells z.cells (c-m ())) el)):=Grow.yD w _;have hh:(w.drew.alloc (.cells (us.toArray++Builtin.zeroCells z.cells (c-m ())) el)).heap[w.heap.size]? = some (.cells (us.toArray++Builtin.zeroCells z.cells (c-m ())) el (0,0)):=uP w.drew _;obtain⟨h1,h2⟩:=h.new hn hgrow (ob:=.arr false el (aO T el).size 0 m g) (v:=.slice (some ⟨w.heap.size,0,none⟩) (m ()) c) (fun b hb=>by simp[bi]at hb;omega)
     (fun _ hrd=>.inr ⟨w.heap.size,c,_,by simp[upd],hh,hge,hle,by
       rw[Fz,Cw,uL,hs.els.len,tD,hisz,<- fc];congr 1;omega,fun _=>h.frame.base,.inr h.frame.size,
       vM (hs.els.mono hrd) (fun k hk=>by rw[mO (by simpa using hk)];simp)⟩)
    exact⟨_,by rw[pO];exact h1,by rw[pO];exact .aJ _ _ _ _ (.inr ⟨_,_,rfl,hge,hle⟩) (fun x t sz' aM n' f hH=>by simp[upd]at hH;obtain⟨_,_,_,rfl,rfl,_⟩:=hH;exact⟨ao _,fun _=>⟨rfl,by simp[upd]⟩⟩)⟩
  ·-- an own array
   rename_i ob ver n;replace hy:=hy.obj;split at hy
   ·rename_i x1 gZ sz aM n' f hold;replace hy:=yI hy;obtain⟨hc,hy⟩:=hy;simp only[az,dv]at hc;obtain⟨⟨hsz,hty⟩,iN⟩:=hc;obtain⟨hbd,hy⟩:=hy.cond;have:=hy.ret;subst this;subst hty;obtain⟨_,hq⟩:=hb.aI;obtain⟨_,hq⟩:=hq _ _ _ _ _ _ hold;obtain⟨hnn,rfl⟩:=hq iN;have ho:=h.objs ob;rw[hold]at ho;obtain⟨vs,hvs⟩:=G7 (P:=P) ho;rw[<- hnn]at hvs;have Cy:iq w (E.D w β S.obj) E.B sz (n ()+m ()) (dO n f g) (vs++us):=by
     refine iq.append (n:=n) (m:=m) hvs.els ?_;rw[hsz];exact hs.els
    rw[<- hsz]at hisz;rcases ho with⟨hβ,h0⟩|⟨gb,cap,cur,hβ,hh,hc1,hc2,hc3,hx1,hown,hel⟩
    ·-- still nil
     rw[<- hnn]at h0;by_cases hm:m ()=0
     ·have hr:=G9 (P:=P) (ty:=ty) (w:=w) hu ht2 hd2 hi (x:=xv) (news:=us) (fun w'=>by rw[<- hm];exact hs.len w') (by rw[hisz,hsz,<- hm];exact hs.first w (fun _ _=>rfl));refine⟨_,_,by rw[hβ];exact hr,?_⟩;obtain⟨h1,h2⟩:=h.turn (o:=ob) (by rw[hold];trivial) (w':=w) rfl rfl rfl (ao _) (fun _ _ _=>rfl) (ob:=.arr x1 gZ sz (ver+1) (fun _=>n ()+m ()) (dO n f g)) trivial (v:=.slice none 0 0)
       (fun b hb=>by simp[bi]at hb) (fun b hb=>by rw[hβ]at hb;cases hb) (fun x t sz ver n f hf=>by rw[hold]at hf;cases hf;exact⟨_,_,_,rfl,.inr zo⟩) (fun cs hcs=>by rw[hold]at hcs;cases hcs)
       (fun _ _=>.inl ⟨by simp[upd],by simp[h0,hm]⟩)
      exact⟨_,by rw[pO];exact h1,by rw[pO];exact .aJ _ _ _ _ (.inl ⟨rfl,by simp[h0,hm]⟩) (fun x t sz' aM n' f hH=>by simp[upd]at hH;obtain⟨_,_,_,rfl,rfl,_⟩:=hH;exact⟨ao _,fun _=>⟨rfl,by simp[upd]⟩⟩)⟩
     ·have hr:=Cu (P:=P) (ty:=ty) (w:=w) hu ht2 hd2 hi hiz (base:=none) (n:=0) (cap:=0) (m:=m ()) (x:=xv) (olds:=[]) (news:=us) hs.len
       (fun w' _=>by simp[Builtin.firstCells]) (fun w' hw=>by rw[hisz,hsz];exact hs.first w' (fun b _=>by rw[hw])) zo zo (growslice_fits zo (by rw[Cx];simp only[eC];have:=hbd.1;rw[h0,eC]at this;omega))
      refine⟨_,_,by rw[hβ];exact hr,?_⟩;simp only[eC,Fx]at hr ⊢;have hge:=grownCap_ge w (m ()) 0 gZ;have hle:=Fy w (m ()) 0 gZ (tC zo);generalize grownCap w (m ()) 0 gZ=c at hge hle ⊢;have hgrow:Grow w (w.drew.alloc (.cells (us.toArray++Builtin.zeroCells z.cells (c-m ())) gZ)):=Grow.yD w _;have hh:(w.drew.alloc (.cells (us.toArray++Builtin.zeroCells z.cells (c-m ())) gZ)).heap[w.heap.size]? = some (.cells (us.toArray++Builtin.zeroCells z.cells (c-m ())) gZ (0,0)):=uP w.drew _;have OB:vs=[]:=qH (by rw[hvs.els.len,h0,Nat.zero_mul]);rw[OB,AZ]at Cy;obtain⟨h1,h2⟩:=h.turn (o:=ob) (by rw[hold];trivial) hgrow.os hgrow.tape hgrow.output hgrow.size (fun b hb _=>hgrow.old b hb) (ob:=.arr x1 gZ sz (ver+1) (fun _=>n ()+m ()) (dO n f g)) trivial (v:=.slice (some ⟨w.heap.size,0,none⟩) (m ()) c)
       (fun b hb=>by simp[bi]at hb;omega) (fun b hb=>by rw[hβ]at hb;cases hb) (fun x t sz ver n f hf=>by rw[hold]at hf;cases hf;exact⟨_,_,_,rfl,.inr zo⟩) (fun cs hcs=>by rw[hold]at hcs;cases hcs)
       (fun _ hrd=>.inr ⟨w.heap.size,c,_,by simp[upd,h0],hh,by simp[h0];exact hge,hle,by
         rw[Fz,Cw,uL,hs.els.len,tD,<- hsz,hisz,<- fc];congr 1;omega,fun _=>h.frame.base,.inr h.frame.size,
         vM (Cy.mono hrd) (fun k hk=>by rw[mO (by simpa using hk)];simp)⟩)
      exact⟨_,by rw[pO];exact h1,by rw[pO];exact .aJ _ _ _ _ (.inr ⟨w.heap.size,c,by simp[h0],by simp[h0];exact hge,hle⟩) (fun x t sz' aM n' f hH=>by simp[upd]at hH;obtain⟨_,_,_,rfl,rfl,_⟩:=hH;exact⟨ao _,fun _=>⟨rfl,by simp[upd]⟩⟩)⟩
    ·rw [<- hnn]at hβ hc1;by_cases hroom:n ()+m ()<=cap
     ·have hfit:n ()*i.size+us.length<=cur.size:=by
       rw[hs.els.len,<- hsz,hisz,<- fc,hc3];exact gE _ hroom
      have hr:=Oy (P:=P) (ty:=ty) (w:=w) hu ht2 hd2 hi (g:=gb) (n:=n ()) (cap:=cap) (m:=m ()) (x:=xv) (cur:=cur) (news:=us) hh hs.len (by rw[hisz,hsz];exact hs.first w (fun _ _=>rfl)) hs.els.one hroom hfit;refine⟨_,_,by rw[hβ];exact hr,?_⟩;rw[hisz]at hfit ⊢;obtain⟨s1,s2⟩:=Cr (cur:=cur) (off:=n ()*sz) (new:=us) hfit;generalize hnew:(cur.toList.take (n ()*sz)++us++cur.toList.drop (n ()*sz+us.length)).toArray=new at s1 s2 ⊢;have hheap:=setRow_heap w gb cur new gZ (0,0) hh;obtain⟨h1,h2⟩:=h.turn (o:=ob) (by rw[hold];trivial) (w':=w.setRow gb new) rfl rfl rfl zsi (fun k _ hk=>setRow_other w gb k new (fun e=>hk (by rw[hβ];simp[bi,e])))
       (ob:=.arr x1 gZ sz (ver+1) (fun _=>n ()+m ()) (dO n f g)) trivial (v:=.slice (some ⟨gb,0,none⟩) (n ()+m ()) cap)
       (fun b hb=>.inl (by rw[hβ];exact hb)) (fun b hb=>by rw[hβ]at hb;cases hb) (fun x t sz ver n f hf=>by rw[hold]at hf;cases hf;exact⟨_,_,_,rfl,.inr zo⟩) (fun cs hcs=>by rw[hold]at hcs;cases hcs)
       (fun _ hrd=>.inr ⟨gb,cap,new,by simp[upd],hheap,hroom,hc2,by rw[s1,hc3],hx1,hown,fun k hk=>by
         have hkk:k<n ()+m ():=hk;by_cases hin:k<n ()
         ·have hf:dO n f g (fun _=>k)=f fun _=>k:=by simp[dO,hin]
          rw[hf];obtain⟨q1,q2,q3⟩:=hel k zo;refine⟨q1,q2,fun j av v hj hv=>hrd _ _ (q3 j av v hj ?_)⟩;have hjl:j<sz:=by have:=(bX.1 hj).1;omega
          have:(k+1)*sz<=n ()*sz:=gE _ hin;rw[fc]at this;rw[s2,aa zo]at hv;exact hv
         ·have hf:dO n f g (fun _=>k)=g fun _=>k-n ():=by simp[dO,hin]
          rw[hf];obtain⟨q1,q2,q3⟩:=hs.els.el (k-n ()) zo;refine⟨by rw[q1,hsz],q2,fun j av v hj hv=>hrd _ _ (q3 j av v hj ?_)⟩;have hjl:j<sz:=by have:=(bX.1 hj).1;omega
          have he:k*sz=n ()*sz+(k-n ())*sz:=by rw[<- fc];congr 1;omega
          have h3:(k-n ()+1)*sz<=m ()*sz:=gE _ zo;rw[fc]at h3;have oc:us.length=m ()*sz:=by rw[hs.els.len,hsz]
          rw[s2,ae zo]at hv;have:k*sz+j-n ()*sz=(k-n ())*(aO T gZ).size+j:=by rw[<- hsz];omega
          rw[this]at hv;exact hv⟩)
      exact⟨_,by rw[pO];exact h1,by rw[pO];exact .aJ _ _ _ _ (.inr ⟨_,_,rfl,hroom,hc2⟩) (fun x t sz' aM n' f hH=>by simp[upd]at hH;obtain⟨_,_,_,rfl,rfl,_⟩:=hH;exact⟨ao _,fun _=>⟨rfl,by simp[upd]⟩⟩)⟩
     ·have hr:=Cu (P:=P) (ty:=ty) (w:=w) hu ht2 hd2 hi hiz (base:=some ⟨gb,0,none⟩) (n:=n ()) (cap:=cap) (m:=m ()) (x:=xv) (olds:=vs) (news:=us) hs.len
       (fun w' hw=>by rw[hisz,<- hβ];exact hvs.first w' (fun b _=>by rw[hw])) (fun w' hw=>by rw[hisz,hsz];exact hs.first w' (fun b _=>by rw[hw])) zo zo (growslice_fits zo (by rw[Cx];omega))
      refine⟨_,_,by rw[hβ];exact hr,?_⟩;have hge:=grownCap_ge w (n ()+m ()) cap gZ;have hle:=Fy w (n ()+m ()) cap gZ (tC hbd.2);generalize grownCap w (n ()+m ()) cap gZ=c at hge hle ⊢;have hgrow:Grow w (w.drew.alloc (.cells (vs.toArray++us.toArray++Builtin.zeroCells z.cells (c-(n ()+m ()))) gZ)):=Grow.yD w _;have OC:(w.drew.alloc (.cells (vs.toArray++us.toArray++Builtin.zeroCells z.cells (c-(n ()+m ()))) gZ)).heap[w.heap.size]? = some (.cells (vs.toArray++us.toArray++Builtin.zeroCells z.cells (c-(n ()+m ()))) gZ (0,0)):=uP w.drew _;obtain⟨h1,h2⟩:=h.turn (o:=ob) (by rw[hold];trivial) hgrow.os hgrow.tape hgrow.output hgrow.size (fun b hb _=>hgrow.old b hb) (ob:=.arr x1 gZ sz (ver+1) (fun _=>n ()+m ()) (dO n f g)) trivial (v:=.slice (some ⟨w.heap.size,0,none⟩) (n ()+m ()) c)
       (fun b hb=>by simp[bi]at hb;omega) (fun b hb=>by rw[hβ]at hb;cases hb) (fun x t sz ver n f hf=>by rw[hold]at hf;cases hf;exact⟨_,_,_,rfl,.inr zo⟩) (fun cs hcs=>by rw[hold]at hcs;cases hcs)
       (fun _ hrd=>.inr ⟨w.heap.size,c,_,by simp[upd],OC,hge,hle,by
         rw[Fz,Fz,Cw,uL,uL,hs.els.len,hvs.els.len,tD,<- hsz,hisz,<- fc,<- fc];congr 1;omega,fun _=>h.frame.base,.inr h.frame.size,
         vM (Cy.mono hrd) (fun k hk=>by
          rw[mO (by simp at hk ⊢;omega)];have e:vs.toArray++us.toArray=(vs++us).toArray:=by apply mR;simp
          rw[e,uN])⟩)
      exact⟨_,by rw[pO];exact h1,by rw[pO];exact .aJ _ _ _ _ (.inr ⟨_,_,rfl,hge,hle⟩) (fun x t sz' aM n' f hH=>by simp[upd]at hH;obtain⟨_,_,_,rfl,rfl,_⟩:=hH;exact⟨ao _,fun _=>⟨rfl,by simp[upd]⟩⟩)⟩
   ·exact hy.fail.elim
  ·exact hy.fail.elim
 ·exact hy.fail.elim
end
section
variable {P:Program}{E:Env}{S:AS}{a:Act}{w:World}{β:Nat->Value}{o:Oper}{e:Eff}{ti:TI}{t:Nat}{T:List (Nat×TI)}
def Cz(v:Option Value)(d l:Int):Prop:=(v=none∧l=d)∨∃k,v=some (.int k l)
def yG{b:Bool}{len cap:Nat}{lv hv:Option Value}{l h:Int}(hl:Cz lv 0 l)(hh:Cz hv len h)(h0:0<=l)(h1:l<=h)(h2:h<=cap):
 (Instr.sliceBounds b len cap lv hv none).run P w=.ok (l.toNat,h.toNat,cap) w:=by
 have hs:∀(k:IntKind) (i:Int) (y:Nat) (c:BoundsCode),0<=i->i<=y->(Instr.sliceBound (.int k i) y c).run P w=.ok i.toNat w:=fun k i y c a b=>run_sliceBound (P:=P) w k i y c a b;have hht:(h.toNat:Int)=h:=zo
 rcases hl with⟨rfl,rfl⟩|⟨k,rfl⟩
 ·rcases hh with⟨rfl,rfl⟩|⟨k',rfl⟩
  ·simp[Instr.sliceBounds]
  ·simp[Instr.sliceBounds,hs k' h cap _ zo h2]
 ·rcases hh with⟨rfl,rfl⟩|⟨k',rfl⟩
  ·simp[Instr.sliceBounds,hs k l len _ h0 h1]
  ·simp[Instr.sliceBounds,hs k' h cap _ zo h2,hs k l h.toNat _ h0 zo]
def tE{D:Nat->Prop}{B:Nat}{H:Nat->AO}{d:Unit->Int}{x:Option AV}{v:Option Value}(hx:(x=none∧v=none)∨∃av u,x=some av∧v=some u∧RX w D B β H av u){l:Unit->Int}(h:pB d x=some l):Cz v (d ()) (l ()):=by
 rcases hx with⟨rfl,rfl⟩|⟨av,u,rfl,rfl,hr⟩
 ·simp[pB]at h;subst h;exact .inl ⟨rfl,rfl⟩
 ·unfold pB at h;split at h
  ·rename_i e;cases e
  ·rename_i k i e;simp at h;subst h;simp at e;subst e;exact .inr ⟨k,by rw[hr.fG]⟩
  ·cases h
def OD{D:Nat->Prop}{B:Nat}{fr:FB}{sz:Nat}{n:Unit->Nat}{f:(Unit->Nat)->List AV}{p:Option Addr}{cap:Nat}(h:RD w D B (.slc fr sz n f) (.slice p (n ()) cap)){l k:Nat}(hlk:l<=k)(hk:k<=n ()):
 RD w D B (.slc fr sz (fun _=>k-l) (fun j=>f fun _=>l+j ())) (.slice (if cap=l then p else p.map (·.add (l*sz))) (k-l) (cap-l)):=by
 generalize hv:Value.slice p (n ()) cap=v at h;cases h with
 | empty _ _ _ _ p' cap' hn hc=>
  simp at hv;obtain⟨rfl,_,rfl⟩:=hv;have e1:k-l=0:=zo
  rw[e1];exact .empty _ _ _ _ _ _ zsi zo
 | slc _ _ _ _ b o cap' c hn hc hD hB hcell hlen hone hel=>
  simp at hv;obtain⟨rfl,rfl⟩:=hv;by_cases he:k=l
  ·subst he;rw[ku];exact .empty _ _ _ _ _ _ zsi zo
  ·rw [aa zo,eM,li];refine .slc _ _ (fun _=>k-l) _ b (o+l*sz) (cap-l) (fun i=>c (l*sz+i)) (by simp;omega) zo hD hB (fun i hi=>?_) (fun i hi=>hlen (l+i) (by have hi':i<k-l:=hi;omega)) (fun i hi=>hone (l+i) (by have hi':i<k-l:=hi;omega)) (fun i j av hi hj=>?_)
   ·have:=hcell (l*sz+i) (by
     have h1:l*sz+(k-l)*sz=k*sz:=by rw[<- fc];congr 1;omega
     have h2:k*sz<=n ()*sz:=gE _ hk;have hi':i<(k-l)*sz:=hi;omega)
    rw[ik];exact this
   ·have:=hel (l+i) j av (by have hi':i<k-l:=hi;omega) hj;rw[fc,ik]at this;exact this
def OE{x:Value}{lo hi mx:Option Value}(hu:P.underlying t=some .string):(Instr.sliceAt t x lo hi mx).run P w=(Instr.slice t x lo hi mx).run P w:=by
 simp[Instr.sliceAt,bF hu]
def CA{x:Value}{el:TypeId}{lo hi mx:Option Value}(hu:P.underlying t=some (.slice el)):(Instr.sliceAt t x lo hi mx).run P w=(Instr.slice t x lo hi mx).run P w:=by
 simp[Instr.sliceAt,bF hu]
def OF(hT:cn P T)(ht:bg P t ti)(h:RelB E S.tmps S.obj a w β){x:AV}{v:Value}{lo hi:Option AV}{lv hv:Option Value}(hx:RX w (E.D w β S.obj) E.B β S.obj x v)
 (hl:(lo=none∧lv=none)∨∃av u,lo=some av∧lv=some u∧RX w (E.D w β S.obj) E.B β S.obj av u) (hh:(hi=none∧hv=none)∨∃av u,hi=some av∧hv=some u∧RX w (E.D w β S.obj) E.B β S.obj av u)
 (hy:aV S (B4 T ti x lo hi) e):kK E S a e ((Instr.sliceAt t v lv hv none).run P w):=by
 unfold B4 at hy;split at hy
 ·rename_i s hk;have hu:=ht.str hk;split at hy
  ·rename_i l hh' hl1 tG;obtain⟨hc,hy⟩:=hy.cond;obtain rfl:=vI hy;obtain rfl:=hx.gX;have hb:=yG (P:=P) (w:=w) (b:=false) (cap:=(s ()).size) (tE hl hl1) (tE hh tG) hc.1 hc.2.1 hc.2.2;refine dZ.bL h ⟨.string ((s ()).extract (l ()).toNat (hh' ()).toNat),?_,.d (.str (fun _=>(s ()).extract (l ()).toNat (hh' ()).toNat)),rfl,rfl,rfl⟩;rw[OE hu];simp[Instr.slice,bF hu,hb]
  ·exact hy.fail.elim
 ·rename_i el fr sz n f hk;have hu:=ht.slice hk;split at hy
  ·rename_i l hh' hl1 tG;obtain⟨hc,hy⟩:=hy.cond;obtain⟨te,hte,dB,_,hy⟩:=ly hT hy;obtain⟨hsz,hy⟩:=yI hy;obtain rfl:=vI hy;simp at hsz;have hd:=hx.gY;obtain⟨p,cap,rfl,hcm,hnc,_⟩:=hd.gY;have hb:=yG (P:=P) (w:=w) (b:=true) (cap:=cap) (tE hl hl1) (tE hh tG) hc.1 hc.2.1 zo;have hs:=hte.sizeOf (w:=w);have hp:=OD hd (l:=(l ()).toNat) (k:=(hh' ()).toNat) zo zo;refine dZ.bL h ⟨_,?_,.d hp,rfl,rfl,rfl⟩;rw[CA hu];simp[Instr.slice,bF hu,hb,hs,hsz]
  ·exact hy.fail.elim
 ·rename_i el ob ver n hk;have hu:=ht.slice hk;split at hy
  ·exact hy.fail.elim
  ·replace hy := hy.obj;split at hy
   ·rename_i x1 ty sz aM n' f hold;split at hy
    ·rename_i hh' tG;replace hy:=yI hy;obtain⟨iN,hy⟩:=hy;simp at iN;obtain⟨hc,hy⟩:=hy.cond;obtain⟨te,hte,dB,_,hy⟩:=ly hT hy;split at hy
     ·exact hy.fail.elim
     ·rename_i hsz;simp at hsz;have:=hy.ret;subst this;obtain⟨Zf,hq⟩:=hx.aI;obtain⟨_,hq⟩:=hq _ _ _ _ _ _ hold;obtain⟨hnn,rfl⟩:=hq iN;have ho:=h.objs ob;rw[hold]at ho;have hs:=hte.sizeOf (w:=w);have hl0:lv=none:=by
       rcases hl with⟨_,h2⟩|⟨av,u,h1,_⟩
       ·exact h2
       ·cases h1
      subst hl0;rcases ho with⟨hβ,h0⟩|⟨gb,cap,cur,hβ,hheap,hc1,hc2,hc3,hx1,hown,hel⟩
      ·have hz:hh' ()=0:=by omega
       have hb:=yG (P:=P) (w:=w) (b:=true) (len:=0) (cap:=0) (lv:=none) (hv:=hv) (l:=0) (h:=hh' ()) (.inl ⟨rfl,rfl⟩) (by
        have:=tE (w:=w) (β:=β) hh tG;rw[hnn,h0]at this;exact this) zo zo zo
       refine⟨.slice none 0 0,w,?_,?_⟩
       ·rw[hβ,CA hu];simp[Instr.slice,bF hu,hb,hs,hz]
       ·obtain⟨h1,h2⟩:=h.turn (o:=ob) (by rw[hold];trivial) (w':=w) rfl rfl rfl (ao _) (fun _ _ _=>rfl) (ob:=.arr x1 ty sz (ver+1) (fun _=>(hh' ()).toNat) f) trivial (v:=.slice none 0 0)
         (fun b hb=>by simp[bi]at hb) (fun b hb=>by rw[hβ]at hb;cases hb) (fun x t sz ver n f hf=>by rw[hold]at hf;cases hf;exact⟨_,_,_,rfl,.inr zo⟩) (fun cs hcs=>by rw[hold]at hcs;cases hcs)
         (fun _ _=>.inl ⟨by simp[upd],by simp[hz]⟩)
        exact⟨_,by rw[pO];exact h1,by rw[pO];exact .aJ _ _ _ _ (.inl ⟨rfl,by simp[hz]⟩) (fun x t sz' aM n' f hH=>by simp[upd]at hH;obtain⟨_,_,_,rfl,rfl,_⟩:=hH;exact⟨ao _,fun _=>⟨rfl,by simp[upd]⟩⟩)⟩
      ·have hb:=yG (P:=P) (w:=w) (b:=true) (len:=n' ()) (cap:=cap) (lv:=none) (hv:=hv) (l:=0) (h:=hh' ()) (.inl ⟨rfl,rfl⟩) (by
        have:=tE (w:=w) (β:=β) hh tG;rw[hnn]at this;exact this) zo zo zo
       refine⟨.slice (some ⟨gb,0,none⟩) (hh' ()).toNat cap,w,?_,?_⟩
       ·rw[hβ,CA hu];simp only[Instr.slice,ec,bF hu,cm,hb,hs];by_cases hcap:cap=0
        ·subst hcap;simp
        ·simp[hcap,li]
       ·obtain⟨h1,h2⟩:=h.turn (o:=ob) (by rw[hold];trivial) (w':=w) rfl rfl rfl (ao _) (fun _ _ _=>rfl) (ob:=.arr x1 ty sz (ver+1) (fun _=>(hh' ()).toNat) f) trivial (v:=.slice (some ⟨gb,0,none⟩) (hh' ()).toNat cap)
         (fun b hb=>.inl (by rw[hβ];exact hb)) (fun b hb=>by rw[hβ]at hb;cases hb) (fun x t sz ver n f hf=>by rw[hold]at hf;cases hf;exact⟨_,_,_,rfl,.inr zo⟩) (fun cs hcs=>by rw[hold]at hcs;cases hcs)
         (fun _ hrd=>.inr ⟨gb,cap,cur,by simp[upd],hheap,by show(hh' ()).toNat<=cap;omega,hc2,hc3,hx1,hown,fun i hi=>by
           obtain⟨q1,q2,q3⟩:=hel i (by have:i<(hh' ()).toNat:=hi;omega);exact⟨q1,q2,fun j av v hj hv=>hrd _ _ (q3 j av v hj hv)⟩⟩)
        exact⟨_,by rw[pO];exact h1,by rw[pO];exact .aJ _ _ _ _ (.inr ⟨_,_,rfl,by show(hh' ()).toNat<=cap;omega,hc2⟩) (fun x t sz' aM n' f hH=>by simp[upd]at hH;obtain⟨_,_,_,rfl,rfl,_⟩:=hH;exact⟨ao _,fun _=>⟨rfl,by simp[upd]⟩⟩)⟩
    ·exact hy.fail.elim
   ·exact hy.fail.elim
 ·exact hy.fail.elim
end
section
variable {P:Program}{E:Env}{S:AS}{a:Act}{w:World}{β:Nat->Value}{o:Oper}{e:Eff}{ti:TI}{t:Nat}{T:List (Nat×TI)}
theorem Ha{α:Type}(z:α):∀(sz n:Nat) (cs:List AV) (i:Nat),i<n->(chunks sz n cs).getD i []=(cs.drop (i*sz)).take sz
 | sz,0,cs,i,h=>zo
 | sz,n+1,cs,0,h=>by simp[chunks]
 | sz,n+1,cs,i+1,h=>by
  simp only[chunks,List.getD_cons_succ];rw[Ha z sz n (cs.drop sz) i zo,uR,fc];congr 2;omega
def OG{D:Nat->Prop}{B sz n:Nat}{cs:List AV}{vs:Array Value}(hl:cs.length=n*sz)(hv:vs.size=n*sz)(hc:cs.all AV.cell=true)(h:∀(i:Nat) (av:AV) (v:Value),cs[i]? = some av->vs[i]? = some v->RD w D B av v):
 iq w D B sz n (dY (chunks sz n cs)) vs.toList:=by
 refine⟨by simp[hv],fun i hi=>?_⟩;have hf:dY (chunks sz n cs) (fun _=>i)=(cs.drop (i*sz)).take sz:=by unfold dY;exact Ha () sz n cs i hi
 have hle:(i+1)*sz<=n*sz:=gE _ hi;rw[fc]at hle;rw[hf];refine⟨by simp;omega,?_,fun j av v hj hv=>?_⟩
 ·rw[cI]at hc ⊢;exact fun q hq=>hc q (uQ (AY hq))
 ·obtain⟨_,hj⟩:=GG hj;exact h _ _ _ hj (by simpa using hv)
def RelB.grow(h:RelB E S.tmps S.obj a w β){w':World}(hg:Grow w w'):RelB E S.tmps S.obj a w' β ∧
 (∀b,w.heap.size<=b->b<w'.heap.size->E.D w' β S.obj b)∧(∀av u,RX w (E.D w β S.obj) E.B β S.obj av u->RX w' (E.D w' β S.obj) E.B β S.obj av u):=by
 have md:∀b,E.D w β S.obj b->E.D w' β S.obj b:=fun b hb=>⟨hb.1,cf hb.2.1 hg.size,hb.2.2⟩
 have hrd:∀av u,RD w (E.D w β S.obj) E.B av u->RD w' (E.D w' β S.obj) E.B av u:=fun av u hr=>hr.mono (fun b hb=>hg.old b hb.lt) md (ao _);have hrx:∀av u,RX w (E.D w β S.obj) E.B β S.obj av u->RX w' (E.D w' β S.obj) E.B β S.obj av u:=fun av u hr=>
  hr.map hrd (fun o off v hp=>by obtain⟨b,h1,rfl⟩:=hp.dF;exact .ptr _ _ _ h1) (fun o ver n v hp=>by obtain⟨h1,h2⟩:=hp.aI;exact .aJ _ _ _ _ h1 h2)
   (fun o sz ver n i off v hp=>by obtain⟨h1,h2,h3⟩:=hp.jk;exact .ci _ _ _ _ _ _ _ h1 h2 h3)
 refine⟨⟨h.defers,h.size,fun t av ht=>hrx _ _ (h.tmps t av ht),fun o=>?_,h.apart,h.frame.grow hg,h.pin⟩,fun b h1 h2=>⟨.inr (.inr (aG h.frame.size h1)),h2,fun o hi hq=>?_⟩,hrx⟩
 ·have nb:=h.objs o;by_cases hi:(S.obj o).is
  ·exact nb.mono rfl (fun b hb=>hg.old b (nb.lt hb hi).1) (fun cs _ i av u _ hr=>hrx av u hr) hrd
  ·cases hq:S.obj o with
   | none=>trivial
   | box cs=>rw[hq]at hi;exact(hi trivial).elim
   | arr x t sz ver n f=>rw[hq]at hi;exact(hi trivial).elim
   | it ks f seen pend=>rw[hq]at hi;exact(hi trivial).elim
 ·have:=((h.objs o).lt hq hi).1;omega
def yH:List AV->Int
 | [.int .u8 x]=>x ()
 | _=>0
def OH(l:List AV):B5 l=UInt8.ofNat (yH l).toNat:=by
 unfold B5 yH;split
 ·rfl
 ·rename_i h
  first
   | rfl
   | (split
      ·rename_i x;exact absurd rfl (h x)
      ·rfl)
theorem Hb:∀(ns:List Int) (s:ByteArray),ns.foldl (fun(r:ByteArray) n=>r.push (UInt8.ofNat n.toNat)) s=⟨s.data++(ns.map fun n=>UInt8.ofNat n.toNat).toArray⟩
 | [],s=>zsi
 | n::r,s=>by
  rw[List.foldl_cons,Hb r];congr 1;apply mR;simp[ByteArray.push]
def OI{D:Nat->Prop}{B m:Nat}{g:(Unit->Nat)->List AV}{us:List Value}(h:iq w D B 1 m g us)(hb:∀i,i<m->isByte (g fun _=>i)=true):
 us=((List.range m).map fun i=>yH (g fun _=>i)).map (Value.int .u8):=by
 refine FA (by simp[h.len]) fun i h1 h2=>?_;have hi:i<m:=by have:=h.len;omega
 have hbi:=hb i hi;obtain⟨_,_,q⟩:=h.el i hi;simp only[List.getElem_map,List.getElem_range];unfold isByte at hbi;split at hbi
 ·rename_i x hx;have:=q 0 (.int .u8 x) us[i] (by rw[hx];rfl) (by simpa using bf h1);rw[hx];generalize us[i]=y at this;cases this;rfl
 ·cases hbi
def OJ(hT:cn P T){s:Nat}{si:TI}(hs:bg P s si)(ht:bg P t ti)(h:RelB E S.tmps S.obj a w β){x:AV}{v:Value}(hx:RX w (E.D w β S.obj) E.B β S.obj x v){el:Nat}(hk1:si.k=.slice el)(hk2:ti.k=.str)(dB:(aO T el).real=true)(hke:(aO T el).k=.int .u8)(hstr:∀q,x≠.str q)
 (hy:aV S (ta 1 x fun n f=>.cond (fun _=>∀i,i<n ()->isByte (f fun _=>i)=true) (val (.str (fun _=>tc n f)))) e):dZ E S w β e ((convert s t v).run P w):=by
 have hv:∃p n cap,v=.slice p n cap:=by
  unfold ta at hy;split at hy
  ·exact⟨_,_,_,hx.kG⟩
  ·obtain⟨p,cap,rfl,_⟩:=hx.gY.gY;exact⟨_,_,_,rfl⟩
  ·rcases hx.aI.1 with⟨rfl,_⟩|⟨g,cap,rfl,_⟩<;>exact⟨_,_,_,rfl⟩
  ·exact absurd rfl (hstr _)
  ·exact hy.fail.elim
 obtain⟨p,n,cap,rfl⟩:=hv;obtain⟨m,g,us,hsrc,hy⟩:=G8 (P:=P) h hx hy;obtain⟨hb,hy⟩:=hy.cond;obtain rfl:=vI hy;have hn:n=m ():=by
  have h1:=hsrc.len w;rw[tB]at h1;cases h1;rfl
 subst hn;have jE:=OI hsrc.els hb;have hf:=hsrc.first w (fun _ _=>rfl);have hte:=hT.at el dB;refine⟨.string (tc m g),?_,.d (.str (fun _=>tc m g)),rfl,rfl,rfl⟩;rw[run_convert_bytes_string w s t el p (m ()) cap (hs.slice hk1) (hte.int hke) (ht.str hk2)];have hB:tc m g=⟨(((List.range (m ())).map fun i=>yH (g fun _=>i)).map fun n=>UInt8.ofNat n.toNat).toArray⟩:=by
  unfold tc;congr 2;rw[xR];exact List.map_congr_left fun i _=>OH _
 cases p with
 | none=>
  simp only[Builtin.firstCells,Sem.run_pure,Result.ok.injEq,ay]at hf;have h0:us=[]:=by simpa using hf.symm
  have hm:m ()=0:=by have:=hsrc.els.len;rw[h0]at this;simpa using this.symm
  rw[hB,hm];simp[Conv.bytesToString];rfl
 | some A=>
  simp only[Builtin.firstCells,uJ]at hf;rw[jE]at hf;rw[run_bytesToString w A (m ()) cap _ hf,Hb,hB];have he:ByteArray.empty.data=#[]:=rfl;rw[he,Fx]
def OK(hT:cn P T){s:Nat}{si:TI}(hs:bg P s si)(ht:bg P t ti)(h:RelB E S.tmps S.obj a w β){x:AV}{v:Value}(hx:RX w (E.D w β S.obj) E.B β S.obj x v)
 (hy:aV S (B6 T si ti x) e):kK E S a e ((convert s t v).run P w):=by
 unfold B6 at hy;split at hy
 ·rename_i k0 k k1 n hk1 hk2;obtain rfl:=vI hy;obtain rfl:=hx.fG;exact dZ.bL h ⟨.int k (k.wrap (n ())),by simp[convert,bF (hs.int hk1),bF (ht.int hk2),Conv.intToInt],.d (.int k (fun _=>k.wrap (n ()))),rfl,rfl,rfl⟩
 ·rename_i q hk1 hk2;obtain rfl:=vI hy;obtain rfl:=hx.gX;exact dZ.bL h ⟨.string (q ()),by simp[convert,bF (hs.str hk1),bF (ht.str hk2)],.d (.str q),rfl,rfl,rfl⟩
 ·rename_i el q hk1 hk2;split at hy
  ·exact hy.fail.elim
  ·rename_i dB;simp at dB;have hte:=hT.at el dB;split at hy
   ·rename_i hke;obtain⟨hc,hy⟩:=hy.cond;obtain rfl:=vI hy;obtain rfl:=hx.gX;have hge:=grownCap_ge w (q ()).size 0 el;have hle:=Fy w (q ()).size 0 el (tC hc);generalize hcap:grownCap w (q ()).size 0 el=c at hge hle;have hrun:=run_bytes_of_string (P:=P) w s t el (q ()) (hs.str hk1) (ht.slice hk2) (hte.int hke);rw[hcap]at hrun;have hcell:∀k,k<(q ()).size->(bytesRow (q ()) c)[k]? = some (.int .u8 ((((q ()).data[k]?).getD 0).toNat)):=by
     intro k hk;have hk':k<(q ()).data.size:=hk;unfold bytesRow;rw[mO (by simpa using hk')];have hg:(q ()).data[k]? = some (q ()).data[k]:=dC hk';simp[hg]
    generalize bytesRow (q ()) c=row at hrun hcell;have hg:=h.grow (Grow.yD w (.cells row el (row.size,row.size+1)));refine⟨_,_,hrun,β,hg.1,.d ?_⟩;have hD:=hg.2.1 w.heap.size (ao _) zsi;refine .slc .any 1 (fun _=>(q ()).size) _ w.heap.size 0 c (fun k=>.int .u8 ((((q ()).data[k]?).getD 0).toNat)) hge hle hD trivial (fun k hk=>?_) (fun i hi=>rfl) (fun i hi=>by simp[AV.cell]) (fun i j av hi hj=>?_)
    ·have hh:(w.drew.alloc (.cells row el (row.size,row.size+1))).heap[w.heap.size]? = some (.cells row el (row.size,row.size+1)):=by
      show(w.heap.push _)[w.heap.size]? = _;simp
     have hk':k<(q ()).size:=by simpa using hk
     simp only[World.cell?,hh,eC];simpa using hcell k hk'
    ·cases j with
     | zero=>simp at hj;subst hj;simpa using RD.int (B:=E.B) .u8 (fun _=>((((q ()).data[i]?).getD 0).toNat:Int))
     | succ j=>simp at hj
   ·exact hy.fail.elim
 ·rename_i el hk1 hk2;split at hy
  ·exact hy.fail.elim
  ·rename_i dB;simp at dB;split at hy
   ·rename_i hke;split at hy
    ·exact hy.fail.elim
    ·rename_i hns;exact dZ.bL h (OJ hT hs ht h hx hk1 hk2 dB hke (fun q e=>hns q e) hy)
   ·exact hy.fail.elim
 ·exact hy.fail.elim
def jQ.pure{D:Nat->Prop}{B:Nat}{H:Nat->AO}{cs:List AV}{vs:Array Value}(h:jQ w D B β H cs vs)(hp:AV.bx cs=true)(i:Nat)(av:AV)(v:Value)(hi:cs[i]? = some av)(hv:vs[i]? = some v):RD w D B av v:=
 (h.2 i av v hi hv).pure (qV hp i av hi)
theorem yJ(z:List AV):∀n,(pz n z).length=n*z.length
 | 0=>by simp[pz]
 | n+1=>by simp[pz,yJ z n,fc];omega
theorem Hd{α:Type}(z:List AV)(_x:α):∀(n k:Nat) ,0<z.length->k<n*z.length->(pz n z)[k]? = z[k%z.length]?
 | 0,k,_,h=>by simp at h
 | n+1,k,hz,h=>by
  simp only[pz];by_cases hk:k<z.length
  ·rw[gS hk,Nat.mod_eq_of_lt hk]
  ·rw[jd zo,Hd z _x n _ hz (by rw[fc]at h;omega)];congr 1;rw[Nat.mod_eq_sub_mod zo (a:=k)]
theorem He{fs:List (Nat×Nat)}:∀{ps:List (Nat×AV)} {cs out:List AV},m6 fs T cs ps=some out->out.length=cs.length
 | [],cs,out,h=>by simp[m6]at h;rw[h]
 | (i,av)::r,cs,out,h=>by
  simp only[m6]at h;split at h
  ·split at h
   ·rename_i hc;simp at hc;rw[He h,yy hc.2]
   ·cases h
  ·cases h
def OL(cs:List AV)(i:Unit->Int):AV.bx [iM cs i]=true:=by
 unfold iM;split
 ·split<;>simp[AV.bx]
 ·split<;>simp[AV.bx]
 ·split<;>simp[AV.bx]
 ·simp[AV.bx]
def OM(cs:List AV)(i i':Unit->Int):(iM cs i).cell=(iM cs i').cell:=by
 unfold iM;split
 ·split<;>rfl
 ·split<;>rfl
 ·split<;>rfl
 ·rfl
def ON{cs:List AV}{sz len:Nat}(h:(pA cs sz len fun _=>0).all AV.cell=true)(i:Nat):(pA cs sz len fun _=>i).all AV.cell=true:=by
 simp only[pA,pu,List.all_map,cI,Function.comp]at h ⊢;exact fun j hj=>(OM _ _ _).trans (h j hj)
def OO(hT:cn P T)(ht:bg P t ti)(h:RelB E S.tmps S.obj a w β){ps:List (Nat×AV)}{qs:List (Nat×Value)}{len d:Nat}{dat:Option Bool}(hq:vJ w (E.D w β S.obj) E.B β S.obj ps qs)
 (hy:aV S (B3 T ti len ps d dat) e) (hn:∀k∈e.new,S.bK k=true):kK E S a e ((Instr.buildSlice t len qs.toArray).run P w):=by
 unfold B3 at hy;split at hy
 ·rename_i el hk;have hu:=ht.slice hk;simp only at hy;split at hy
  ·rename_i cs hcs;replace hy:=yI hy;obtain⟨hc,hy⟩:=hy;simp only[az,cX]at hc;obtain⟨⟨⟨⟨hok,hcell⟩,dB⟩,hpos⟩,hlim⟩:=hc;have hte:=hT.at el dB;obtain⟨z,hz,hzb⟩:=hte.zeroValue (w:=w);have qU:=Cp (w:=w) (D:=E.D w β S.obj) (B:=E.B) (β:=β) (H:=S.obj) hzb;have hzl:=hte.GD;have hall:∀p∈ps,p.2.cells.all AV.cell=true:=fun p hp=>cI.1 hok p hp;have hs:=hte.sizeOf (w:=w);have tD:z.cells.size=(aO T el).size:=by rw[<- qU.1,hzl]
   have hrow:jQ w (E.D w β S.obj) E.B β S.obj (pz len (aO T el).zero) ((Array.range (len*(aO T el).size)).map (z.cells[· % z.cells.size]!)):=by
    refine⟨by rw[yJ,hzl];simp,fun i av v hi hv=>?_⟩;have hlt:i<len*(aO T el).size:=by
     have:=(bX.1 hi).1;rw[yJ,hzl]at this;exact this
    rw[Hd _ () len i zo (by rw[hzl];exact hlt),hzl]at hi;have hm:i%(aO T el).size<z.cells.size:=by rw[tD];exact xQ _ hpos
    simp[hlt]at hv;refine qU.2 _ _ _ hi ?_;rw[<- hv,tD,getElem!_pos z.cells _ hm];simp[hm]
   obtain⟨us,h1,h2⟩:=yC hT (place:=fun i=>some (i*(aO T el).size,(aO T el).size)) (fun i off t hi hr=>by
    rw[gC]at hi;cases hq:(List.range len)[i]? with
    | none=>rw[hq]at hi;simp at hi
    | some k=>
     rw[hq]at hi;obtain⟨hlt,hk⟩:=bX.1 hq;simp at hi hk;obtain⟨rfl,rfl⟩:=hi;simp[hk]) hrow hq hall hcs
   have hcl:cs.length=len*(aO T el).size:=by rw[He hcs,yJ,hzl]
   have oc:us.size=len*(aO T el).size:=by rw[<- h2.1,hcl]
   have hrun:(Instr.buildSlice t len qs.toArray).run P w=.ok (.slice (some ⟨w.heap.size,0,none⟩) len len) (w.alloc (.cells us el)):=by
    have Zg:¬(2^24<len*(aO T el).size):=zo
    by_cases h0:len*(aO T el).size=0
    ·have:len=0:=by
      rcases Nat.mul_eq_zero.1 h0 with h|h
      ·exact h
      ·omega
     subst this;have hr0:(Array.range (0*(aO T el).size)).map (z.cells[· % z.cells.size]!)=#[]:=zsi
     rw[hr0]at h1;have hr1:(Array.range 0).map (fun _=>(default:Value))=#[]:=zsi
     simp[Instr.buildSlice,bF hu,hs];rw[hr1,h1];simp[newRow]
    ·simp only[Instr.buildSlice,ec,bF hu,cm,hs];rw[aa zo,aa h0];simp only[ec,hz,cm];simp[h1,newRow]
   have hlm:len<=maxLen:=tC (by
    have:len*1<=len*(aO T el).size:=Nat.mul_le_mul_left _ hpos;omega)
   have vN:(w.alloc (.cells us el)).heap[w.heap.size]? = some (.cells us el (0,0)):=uP w _;by_cases hpure:AV.bx cs=true
   case neg=>
    rw[aa hpure]at hy;obtain⟨hnr,hy⟩:=yI hy;have:=hy.ret;subst this;obtain⟨q1,q2⟩:=h.new (hn d zsi) (Grow.alloc w (.cells us el)) (ob:=.box cs) (v:=.pointer (some ⟨w.heap.size,0,none⟩)) (fun b hb=>by simp[bi]at hb;omega)
     (fun hrx _=>⟨w.heap.size,us,el,by simp[upd],vN,.inr h.frame.size,h2.1,fun i av v hi hv=>hrx av v (h2.2 i av v hi hv) (n9 hnr i av hi),.cells hcell⟩)
    exact⟨_,_,hrun,_,by rw[pO];exact q1,by rw[pO];exact .bG d len w.heap.size (.ptr d 0 w.heap.size (by simp[upd]))⟩
   rw[ae hpure]at hy;have hels:iq w (E.D w β S.obj) E.B (aO T el).size len (dY (chunks (aO T el).size len cs)) us.toList:=OG hcl oc hcell (fun i av v hi hv=>h2.pure hpure i av v hi hv);have key:∀f:(Unit->Nat)->List AV,iq w (E.D w β S.obj) E.B (aO T el).size len f us.toList->kK E S a ⟨.slc .any (aO T el).size (fun _=>len) f,[],[],none⟩ ((Instr.buildSlice t len qs.toArray).run P w):=fun f hels=>by
    have hg:=h.grow (Grow.alloc w (.cells us el));have OP:=hels.mono (w':=w.alloc (.cells us el)) (D':=E.D (w.alloc (.cells us el)) β S.obj) (fun av v hr=>hr.mono (fun b hb=>(Grow.alloc w (.cells us el)).old b hb.lt) (fun b hb=>⟨hb.1,cf hb.2.1 (Grow.alloc w (.cells us el)).size,hb.2.2⟩) (ao _));have hD:=hg.2.1 w.heap.size (ao _) zsi;have hrow:=vM (cur:=us) OP (fun k hk=>zsi);refine⟨_,_,hrun,β,hg.1,?_⟩;rw[G1];refine .d (.slc .any (aO T el).size (fun _=>len) f w.heap.size 0 len (fun k=>us.getD k undef) (ao _) hlm hD trivial (fun k hk=>?_) (fun i hi=>(hrow i hi).1) (fun i hi=>(hrow i hi).2.1) (fun i j av hi hj=>?_))
    ·have hk':k<us.size:=by rw[oc];exact hk
     simp only[World.cell?,vN,eC];rw[jf,dC hk'];rfl
    ·have hj':j<(aO T el).size:=by rw[<- (hrow i hi).1];exact(bX.1 hj).1
     have hk':i*(aO T el).size+j<us.size:=by
      rw[oc];have:(i+1)*(aO T el).size<=len*(aO T el).size:=gE _ hi;rw[Nat.succ_mul]at this;omega
     refine(hrow i hi).2.2 j av _ hj ?_;rw[jf,dC hk'];rfl
   split at hy
   ·obtain rfl:=vI hy;exact key _ hels
   ·replace hy:=yI hy;obtain⟨hsel,hy⟩:=hy;obtain rfl:=vI hy;refine key _ ⟨hels.len,fun i hi=>⟨by simp[pA,pu],ON hsel i,fun j av v hj hv=>?_⟩⟩;have hjs:j<(aO T el).size:=by
     have:=(bX.1 hj).1;simpa[pA,pu]using this
    have hk':i*(aO T el).size+j<us.size:=by
     rw[oc];have:(i+1)*(aO T el).size<=len*(aO T el).size:=gE _ hi;rw[Nat.succ_mul]at this;omega
    have fL:av=iM (column cs (aO T el).size j len) fun _=>(i:Int):=by
     simp only[pA,pu,gC,FC hjs,eM,cB]at hj;exact hj.symm
    subst fL;have hv2:us[i*(aO T el).size+j]? = some v:=by simpa using hv
    have hcx:cs[i*(aO T el).size+j]? = some (cs.getD (i*(aO T el).size+j) .any):=by
     rw[cz,bf (by rw[hcl,<- oc];exact hk')];rfl
    have hrx:=h2.2 _ _ _ hcx hv2;have hr2:RX w (E.D w β S.obj) E.B β S.obj (iM (column cs (aO T el).size j len) fun _=>(i:Int)) v:=
     GQ (by rw[yA];simpa using hi) (by rw[bu,Co _ _ _ _ _ hi];exact hrx)
    exact hr2.pure (OL _ _)
   have:=hy.ret;subst this;obtain⟨q1,q2⟩:=h.new (hn d zsi) (Grow.alloc w (.cells us el)) (ob:=.arr false el (aO T el).size 0 (fun _=>len) (dY (chunks (aO T el).size len cs))) (v:=.slice (some ⟨w.heap.size,0,none⟩) len len) (fun b hb=>by simp[bi]at hb;omega)
    (fun _ hrd=>.inr ⟨w.heap.size,len,us,by simp[upd],vN,ao _,hlm,oc,fun _=>h.frame.base,.inr h.frame.size,
      vM (hels.mono hrd) (fun k hk=>zsi)⟩)
   refine⟨_,_,hrun,_,by rw[pO];exact q1,by rw[pO];exact .aJ _ _ _ _ (.inr ⟨_,_,rfl,ao _,hlm⟩) (fun x t sz' aM n' f hH=>by simp[upd]at hH;obtain⟨_,_,_,rfl,rfl,_⟩:=hH;exact⟨ao _,fun _=>⟨rfl,by simp[upd]⟩⟩)⟩
  ·exact hy.fail.elim
 ·exact hy.fail.elim
def OQ(hT:cn P T)(ht:bg P t ti)(h:RelB E S.tmps S.obj a w β){l c:AV}{lv cv:Value}{d:Nat}(hl:RX w (E.D w β S.obj) E.B β S.obj l lv)(hc:RX w (E.D w β S.obj) E.B β S.obj c cv)
 (hy:aV S (B9 T ti d l c) e) (hn:∀k∈e.new,S.bK k=true):kK E S a e ((Instr.makeSlice t lv cv).run P w):=by
 unfold B9 at hy;split at hy
 ·rename_i el kl l kc c hk;have hu:=ht.slice hk;obtain rfl:=hl.fG;obtain rfl:=hc.fG;simp only at hy;replace hy:=yI hy;obtain⟨hq,hy⟩:=hy;simp only[az,cX]at hq;obtain⟨dB,hpos⟩:=hq;have hte:=hT.at el dB;obtain⟨⟨hl0,h0,h1,h2⟩,hy⟩:=hy.cond;have:=hy.ret;subst this;obtain⟨i,z,hi,hsz,hby,hz,_⟩:=hte.ex;have hrun:=run_make (P:=P) w t el i z hu hi hz kl kc (l ()) (c ()) zo zo (by rw[hby,Int.mul_comm];exact Int.le_trans h1 zd) zo;have hlz:(l ()).toNat=0:=by rw[hl0];rfl
  rw[hlz]at hrun;have hlm:(c ()).toNat<=maxLen:=tC zo;generalize hcur:madeCells z.cells ((c ()).toNat*i.size)=us at hrun;have oc:us.size=(c ()).toNat*(aO T el).size:=by rw[<- hcur,size_madeCells,hsz]
  have vN:(w.alloc (.cells us el)).heap[w.heap.size]? = some (.cells us el (0,0)):=uP w _;obtain⟨q1,q2⟩:=h.new (hn d zsi) (Grow.alloc w (.cells us el)) (ob:=.arr false el (aO T el).size 0 (fun _=>0) (fun _=>[])) (v:=.slice (some ⟨w.heap.size,0,none⟩) 0 (c ()).toNat) (fun b hb=>by simp[bi]at hb;omega)
   (fun _ hrd=>.inr ⟨w.heap.size,(c ()).toNat,us,by simp[upd],vN,aB _,hlm,oc,fun _=>h.frame.base,.inr h.frame.size,fun i hi=>absurd hi (uO _)⟩)
  refine⟨_,_,hrun,_,by rw[pO];exact q1,by rw[pO];exact .aJ _ _ _ _ (.inr ⟨_,_,rfl,aB _,hlm⟩) (fun x t sz' aM n' f hH=>by simp[upd]at hH;obtain⟨_,_,_,rfl,rfl,_⟩:=hH;exact⟨ao _,fun _=>⟨rfl,by simp[upd]⟩⟩)⟩
 ·exact hy.fail.elim
end
end Go.Ai
