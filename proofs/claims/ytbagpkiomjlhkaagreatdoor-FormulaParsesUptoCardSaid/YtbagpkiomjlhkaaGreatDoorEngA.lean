/- An abstract interpreter over the model's code: values as pure trees, boxes and own arrays as named objects. Definitions only. -/
import Derived.WalkKit
import Derived.Orders
import Derived.Shelf.Unicode.DecodeSlow
import Derived.Laws.CopyRow
import Derived.Laws.AppendOwn
import Derived.WalkLawsBesides
import Derived.WalkSpells
import Derived.Laws.StructEq
import Derived.MapKept
import Derived.Laws.IdiomStrings
import Derived.Laws.MakeOwn
set_option linter.all false
namespace Go.Ai
open Go
abbrev tabA:Nat:=2
abbrev tabB:Nat:=3
abbrev tabP:Nat:=0
abbrev tabM:Nat:=1
abbrev tabS:Nat:=5
abbrev tabR:Nat:=6
abbrev tabW:Nat:=4
abbrev tBld:Nat:=179
def ahu:List ByteArray:=[⟨#[45,62]⟩,⟨#[33,61]⟩,⟨#[60,61]⟩,⟨#[62,61]⟩,⟨#[46,46]⟩]
inductive FB where
 | any
 | new
 | sat (p:Nat->Prop)
 | own (p:Nat->Prop)
inductive AV where
 | any
 | int (k:IntKind) (n:Unit->Int)
 | bool (b:Unit->Bool)
 | str (s:Unit->ByteArray)
 | slc (fr:FB) (sz:Nat) (n:Unit->Nat) (f:(Unit->Nat)->List AV)
 | nil
 | nilf
 | nilp
 | tnil (t:Nat)
 | nilm
 | anyb (t f:Unit->Prop)
 | ifc (b:Unit->Bool)
 | agg (cs:List AV)
 | tup (vs:List AV)
 | func (fn:FuncId) (caps:List AV)
 | may (g:Unit->Bool) (v:AV)
 | ptr (o off:Nat)
 | eptr (fr:FB) (sz:Nat) (n:Unit->Nat) (f:(Unit->Nat)->List AV) (i:Unit->Nat) (off:Nat)
 | aptr (o sz ver:Nat) (n i:Unit->Nat) (off:Nat)
 | aref (o ver:Nat) (n:Unit->Nat)
 | bref (o n:Nat)
 | bptr (fn:FuncId) (o:Nat)
 | fmap (es:List (Nat×AV))
 | kmap (ks:Unit->List ByteArray) (f:(Unit->Nat)->AV)
 | kmaps (n:Nat) (ks:(Unit->Nat)->List ByteArray) (f:(Unit->Nat)->(Unit->Nat)->AV)
 | nxt (t f:Unit->Prop)
 | val (v:Value)
 deriving Inhabited
inductive AO where
 | none
 | box (cs:List AV)
 | arr (x:Bool) (t sz ver:Nat) (n:Unit->Nat) (f:(Unit->Nat)->List AV)
 | it (ks:Unit->List ByteArray) (f:(Unit->Nat)->AV) (seen:Unit->List Nat) (pend:Bool)
 deriving Inhabited
structure AS where
 tmps:List AV
 objs:List (Nat×AO)
def oL:List (Nat×AO)->Nat->AO
 | [],_=>.none
 | (i,o)::r,j=>if i=j then o else oL r j
def oset:List (Nat×AO)->Nat->AO->List (Nat×AO)
 | [],j,v=>[(j,v)]
 | (i,o)::r,j,v=>if i=j then(i,v)::r else(i,o)::oset r j v
def AS.tmp(S:AS)(t:Nat):AV:=S.tmps.getD t .any
def AS.obj(S:AS)(o:Nat):AO:=oL S.objs o
inductive TK where
 | int (k:IntKind)|bool|str|iface|slice (e:Nat)|struct (fs:List (Nat×Nat))|array (n e:Nat)|ptr (e:Nat)|func|map (k e:Nat)|other
structure TI where
 k:TK
 size:Nat
 bytes:Nat
 zero:List AV
def TI.agg(t:TI):Bool:=match t.k with|.struct _=>true|.array _ _=>true|_=>false
def TI.real(t:TI):Bool:=match t.k with|.other=>false|_=>true
def aa3:List (Nat×TI)->Nat->TI
 | [],_=>⟨.other,0,0,[]⟩
 | (i,o)::r,j=>if i=j then o else aa3 r j
inductive M(α:Type) where
 | ret (a:α)
 | fail
 | cond (c:Unit->Prop) [d:DecidablePred c] (k:M α)
 | tmp (t:Nat) (k:AV->M α)
 | obj (o:Nat) (k:AO->M α)
def M.bind{α β:Type}:M α->(α->M β)->M β
 | .ret a,f=>f a
 | .fail,_=>.fail
 | @M.cond _ c d k,f=>@M.cond _ c d (k.bind f)
 | .tmp t k,f=>.tmp t fun v=>(k v).bind f
 | .obj o k,f=>.obj o fun v=>(k v).bind f
structure CallOb where
 f:FuncId
 args:List AV
 objs:List (Nat×AO)
 res:AV
 objs':List (Nat×AO)
structure Eff where
 dst:AV
 wo:List (Nat×AO)
 new:List Nat
 call:Option CallOb
def val(v:AV):M Eff:=.ret ⟨v,[],[],none⟩
def ofS:Value->AV
 | .int k n=>.int k (fun _=>n)
 | .bool b=>.bool (fun _=>b)
 | .string s=>.str (fun _=>s)
 | .slice none n c=>match n,c with|0,0=>.nil|_,_=>.any
 | .nilFunc=>.nilf
 | .pointer none=>.nilp
 | .map none=>.nilm
 | .nilIface=>.ifc (fun _=>true)
 | _=>.any
def ofV:Value->AV
 | .agg cs=>.agg (cs.toList.map ofS)
 | v=>ofS v
def pairsA:AV:=.eptr .any 5 (fun _=>1) (fun _=>[.str fun _=>⟨#[45,62]⟩,.str fun _=>⟨#[33,61]⟩,.str fun _=>⟨#[60,61]⟩,.str fun _=>⟨#[62,61]⟩,.str fun _=>⟨#[46,46]⟩]) (fun _=>0) 0
def opd(g:Option (Unit->Bool)):Operand->M AV
 | .tmp t=>.tmp t fun v=>match v with
  | .may g' v'=>match g with
   | some g=>.cond (fun _=>g ()=true->g' ()=true) (.ret v')
   | none=>.ret (.may g' v')
  | v=>.ret v
 | .const v=>.ret (ofV v)
 | .func f=>.ret (.func f [])
 | .global gl=>match Nat.beq gl tabP with|true=>.ret pairsA|false=>.ret .any
def opds(g:Option (Unit->Bool)):List Operand->M (List AV)
 | []=>.ret []
 | o::r=>(opd g o).bind fun v=>(opds g r).bind fun vs=>.ret (v::vs)
def opdO(g:Option (Unit->Bool)):Option Operand->M (Option AV)
 | none=>.ret none
 | some o=>(opd g o).bind fun v=>.ret (some v)
def AV.cell:AV->Bool
 | .int ..|.bool _|.str _|.slc ..|.nil|.nilf|.nilp|.nilm|.anyb ..|.ifc _|.func ..|.ptr ..|.eptr ..|.aptr ..|.aref ..|.bptr ..|.fmap _|.kmap ..=>true
 | _=>false
def AV.cells:AV->List AV
 | .agg cs=>cs
 | v=>[v]
def aaY(ti:TI)(cs:List AV)(off:Nat):AV:=
 if ti.agg then .agg ((cs.drop off).take ti.size)else(cs.drop off).headD .any
def splice(cs:List AV)(off:Nat)(new:List AV):List AV:=cs.take off++new++cs.drop (off+new.length)
def aiu(sz:Nat)(f:Unit->List AV)(off:Nat)(new:List AV):List AV:=match off==0&&new.length==sz with|true=>new|false=>splice (f ()) off new
def fupd(f:(Unit->Nat)->List AV)(i:Unit->Nat)(c:List AV):(Unit->Nat)->List AV:=
 fun j=>if j ()=i ()then c else f j
def tagC(t:Nat)(cs:List AV):List AV:=match Nat.beq t tBld with|true=>(match cs with|.nilp::r=>.tnil t::r|cs=>cs)|false=>cs
def AV.aae:List AV->Bool
 | []=>true
 | .ptr _ _::_=>false
 | .aptr _ _ _ _ _ _::_=>false
 | .aref _ _ _::_=>false
 | .bref _ _::_=>false
 | .bptr _ _::_=>false
 | .agg cs::r=>AV.aae cs&&AV.aae r
 | .tup cs::r=>AV.aae cs&&AV.aae r
 | .func _ cs::r=>AV.aae cs&&AV.aae r
 | .may _ v::r=>AV.aae [v]&&AV.aae r
 | _::r=>AV.aae r
def AV.pure(v:AV):Bool:=AV.aae [v]
def AV.nL(d:Nat):List AV->Bool
 | []=>true
 | .ptr o _::r=>o != d&&AV.nL d r
 | .aptr o _ _ _ _ _::r=>o != d&&AV.nL d r
 | .aref o _ _::r=>o != d&&AV.nL d r
 | .bref o _::r=>o != d&&AV.nL d r
 | .bptr _ o::r=>o != d&&AV.nL d r
 | .agg cs::r=>AV.nL d cs&&AV.nL d r
 | .tup cs::r=>AV.nL d cs&&AV.nL d r
 | .func _ cs::r=>AV.nL d cs&&AV.nL d r
 | .may _ v::r=>AV.nL d [v]&&AV.nL d r
 | _::r=>AV.nL d r
def tl(T:List (Nat×TI))(t:Nat)(k:TI->M Eff):M Eff:=if(aa3 T t).real then k (aa3 T t)else .fail
def ahI(ti:TI):AV->M Eff
 | .ptr o off=>.obj o fun
  | .box cs=>if off+ti.size<=cs.length then val (aaY ti cs off)else .fail
  | _=>.fail
 | .eptr _ sz _ f i off=>if off+ti.size<=sz then val (aaY ti (f i) off)else .fail
 | .aptr o sz ver _ i off=>.obj o fun
  | .arr _ _ sz' ver' _ f=>if sz==sz'&&ver==ver'&&off+ti.size<=sz then val (aaY ti (f i) off)else .fail
  | _=>.fail
 | _=>.fail
def ait(ti:TI)(p v:AV):M Eff:=
 let cs:=v.cells
 if cs.length=ti.size&&cs.all AV.cell then
  match p with
  | .ptr o off=>.obj o fun
   | .box old=>if off+cs.length<=old.length then .ret ⟨.any,[(o,.box (splice old off cs))],[],none⟩else .fail
   | _=>.fail
  | .aptr o sz ver _ i off=>.obj o fun
   | .arr x t sz' ver' n f=>if sz==sz'&&ver==ver'&&off+cs.length<=sz&&cs.all AV.pure then
    .ret ⟨.any,[(o,.arr x t sz ver n (fupd f i (aiu sz (fun _=>f i) off cs)))],[],none⟩else .fail
   | _=>.fail
  | _=>.fail
 else .fail
def adt(ti:TI)(i:Nat):Option (Nat×Nat):=match ti.k with|.struct fs=>fs[i]? | _=>none
def ad8(ti:TI)(p:AV)(i:Nat):M Eff:=
 match adt ti i with
 | some (o,_)=>match p with
  | .ptr b off=>val (.ptr b (off+o))
  | .eptr fr sz n f ix off=>val (.eptr fr sz n f ix (off+o))
  | .aptr b sz ver n ix off=>val (.aptr b sz ver n ix (off+o))
  | _=>.fail
 | none=>.fail
def ad6(T:List (Nat×TI))(ti:TI)(x i:AV):M Eff:=
 match i with
 | .int _ i=>match ti.k,x with
  | .slice e,.slc fr sz n f=>.cond (fun _=>0<=i ()∧i ()<(n ():Int)) (tl T e fun te=>if te.size==sz then val (.eptr fr sz n f (fun _=>(i ()).toNat) 0)else .fail)
  | .slice e,.aref o ver n=>.cond (fun _=>0<=i ()∧i ()<(n ():Int)) (tl T e fun te=>val (.aptr o te.size ver n (fun _=>(i ()).toNat) 0))
  | .slice e,.bref o n=>match i ()with
   | .ofNat j=>if j<n then tl T e fun te=>val (.ptr o (j*te.size))else .fail
   | _=>.fail
  | .array n e,.ptr o off=>match i ()with
   | .ofNat j=>if j<n then tl T e fun te=>val (.ptr o (off+j*te.size))else .fail
   | _=>.fail
  | _,_=>.fail
 | _=>.fail
def pickI(cs:List AV)(n:Nat):Int:=match cs.getD n .any with|.int _ f=>f ()|_=>0
def pickB(cs:List AV)(n:Nat):Bool:=match cs.getD n .any with|.bool f=>f ()|_=>false
def am9(cs:List AV)(n:Nat):ByteArray:=match cs.getD n .any with|.str f=>f ()|_=>⟨#[]⟩
def aki(k:IntKind):List AV->Bool
 | []=>true
 | .int k' _::r=>k==k'&&aki k r
 | _=>false
def agX:List AV->Bool
 | []=>true
 | .bool _::r=>agX r
 | _=>false
def akh:List AV->Bool
 | []=>true
 | .str _::r=>akh r
 | _=>false
def aaP(cs:List AV)(i:Unit->Int):AV:=
 match cs with
 | .int k _::_=>if aki k cs then .int k (fun _=>pickI cs (i ()).toNat)else .any
 | .bool _::_=>if agX cs then .bool (fun _=>pickB cs (i ()).toNat)else .any
 | .str _::_=>if akh cs then .str (fun _=>am9 cs (i ()).toNat)else .any
 | _=>.any
def column(cs:List AV)(sz j:Nat):Nat->List AV
 | 0=>[]
 | n+1=>column cs sz j n++[cs.getD (n*sz+j) .any]
def abK(cs:List AV)(sz n:Nat)(i:Unit->Int)(js:List Nat):List AV:=js.map fun j=>aaP (column cs sz j n) i
def aj2(T:List (Nat×TI))(ti:TI)(x i:AV):M Eff:=
 match i with
 | .int _ i=>match ti.k,x with
  | .str,.str s=>.cond (fun _=>0<=i ()∧i ()<((s ()).size:Int)) (val (.int .u8 (fun _=>(((s ()).data[(i ()).toNat]?).getD 0).toNat)))
  | .array n e,.agg cs=>tl T e fun te=>match te.k with
   | .func=>match i ()with
    | .ofNat j=>if j<n then(if j*te.size+te.size<=cs.length then val (aaY te cs (j*te.size))else .fail)else .fail
    | _=>.fail
   | .map _ _=>match i ()with
    | .ofNat j=>if j<n then(if j*te.size+te.size<=cs.length then val (aaY te cs (j*te.size))else .fail)else .fail
    | _=>.fail
   | _=>if n*te.size<=cs.length then .cond (fun _=>0<=i ()∧i ()<(n:Int)) (val (if te.agg then .agg (abK cs te.size n i (List.range te.size))else aaP (column cs te.size 0 n) i))else .fail
  | .array n e,.kmaps m ks f=>if n=m then tl T e fun te=>match te.k with
   | .map _ _=>.cond (fun _=>0<=i ()∧i ()<(n:Int)) (val (.kmap (fun _=>ks fun _=>(i ()).toNat) (f fun _=>(i ()).toNat)))
   | _=>.fail
   else .fail
  | _,_=>.fail
 | _=>.fail
def lenOp(ti:TI)(v:AV):M Eff:=
 match ti.k,v with
 | .str,.str s=>val (.int .i64 (fun _=>(s ()).size))
 | .slice _,.slc _ _ n _=>val (.int .i64 (fun _=>n ()))
 | .slice _,.aref _ _ n=>val (.int .i64 (fun _=>n ()))
 | .slice _,.nil=>val (.int .i64 (fun _=>0))
 | .slice _,.bref _ n=>val (.int .i64 (fun _=>n))
 | _,_=>.fail
def lenA:AV->Option (Unit->Nat)
 | .slc _ _ n _=>some n
 | .aref _ _ n=>some n
 | .nil=>some fun _=>0
 | _=>none
def ajj(ti:TI)(op:BinOp):AV->AV->M Eff
 | .int k a,.int k' b=>
  match op with
  | .shl=>.cond (fun _=>0<=b ()) (val (.int k (fun _=>k.wrap (a ()*2^(min (b ()).toNat k.bits)))))
  | .shr=>.cond (fun _=>0<=b ()) (val (.int k (fun _=>(a ()).fdiv (2^(min (b ()).toNat k.bits)))))
  | _=>
  if k=k' then
   match op with
   | .add=>val (.int k (fun _=>k.wrap (a ()+b ())))
   | .sub=>val (.int k (fun _=>k.wrap (a ()-b ())))
   | .mul=>val (.int k (fun _=>k.wrap (a ()*b ())))
   | .quo=>.cond (fun _=>b ()≠0) (val (.int k (fun _=>k.wrap ((a ()).tdiv (b ())))))
   | .rem=>.cond (fun _=>b ()≠0) (val (.int k (fun _=>(a ()).tmod (b ()))))
   | .and=>val (.int k (fun _=>k.wrap (BitVec.ofInt k.bits (a ()) &&& BitVec.ofInt k.bits (b ())).toNat))
   | .or=>val (.int k (fun _=>k.wrap (BitVec.ofInt k.bits (a ()) ||| BitVec.ofInt k.bits (b ())).toNat))
   | .xor=>val (.int k (fun _=>k.wrap (BitVec.ofInt k.bits (a ()) ^^^ BitVec.ofInt k.bits (b ())).toNat))
   | .eql=>val (.bool (fun _=>a ()==b ()))
   | .neq=>val (.bool (fun _=>a () != b ()))
   | .lss=>val (.bool (fun _=>decide (a ()<b ())))
   | .leq=>val (.bool (fun _=>decide (a ()<=b ())))
   | .gtr=>val (.bool (fun _=>decide (b ()<a ())))
   | .geq=>val (.bool (fun _=>decide (b ()<=a ())))
   | _=>.fail
  else .fail
 | .str a,.str b=>
  match op with
  | .eql=>val (.bool (fun _=>decide (a ()=b ())))
  | .neq=>val (.bool (fun _=>!decide (a ()=b ())))
  | .lss=>val (.bool (fun _=>Op.bytesLess (a ()).toList (b ()).toList))
  | .gtr=>val (.bool (fun _=>!(Op.bytesLess (a ()).toList (b ()).toList||(a ()).toList==(b ()).toList)))
  | .leq=>val (.bool (fun _=>Op.bytesLess (a ()).toList (b ()).toList||(a ()).toList==(b ()).toList))
  | .geq=>val (.bool (fun _=>!Op.bytesLess (a ()).toList (b ()).toList))
  | .add=>.cond (fun _=>(a ()).size+(b ()).size<=9223372036854775807) (val (.str (fun _=>a ()++b ())))
  | _=>.fail
 | .bool a,.bool b=>
  match ti.k,op with
  | .bool,.eql=>val (.bool (fun _=>a ()==b ()))
  | .bool,.neq=>val (.bool (fun _=>a () != b ()))
  | _,_=>.fail
 | .ptr _ _,.nilp=>
  match ti.k,op with
  | .ptr _,.eql=>val (.bool (fun _=>false))
  | .ptr _,.neq=>val (.bool (fun _=>true))
  | _,_=>.fail
 | x,.nil=>match lenA x with
  | some n=>match ti.k,op with
   | .slice _,.eql=>val (.anyb (fun _=>n ()=0) (fun _=>True))
   | .slice _,.neq=>val (.anyb (fun _=>True) (fun _=>n ()=0))
   | _,_=>.fail
  | none=>.fail
 | _,_=>.fail
def ami(tu tv:TI)(op:BinOp):List AV->List AV->M Eff
 | [.int k a,.str s],[.int k' b,.str s']=>
  match tu.k,tv.k with
  | .int _,.str=>
   if k=k' then
    match op with
    | .eql=>val (.bool (fun _=>a ()==b ()&&decide (s ()=s' ())))
    | .neq=>val (.bool (fun _=>!(a ()==b ()&&decide (s ()=s' ()))))
    | _=>.fail
   else .fail
  | _,_=>.fail
 | _,_=>.fail
def anD(T:List (Nat×TI))(ti:TI)(op:BinOp):AV->AV->M Eff
 | .agg xs,.agg ys=>match ti.k with
  | .struct [(0,u),(1,v)]=>tl T u fun tu=>tl T v fun tv=>ami tu tv op xs ys
  | _=>.fail
 | x,y=>ajj ti op x y
def nilC:Operand->Bool
 | .const .nilIface=>true
 | _=>false
def anE(T:List (Nat×TI))(ti:TI)(op:BinOp):Bool->AV->AV->M Eff
 | true,.ifc n,_=>match ti.k,op with
  | .iface,.eql=>val (.bool n)
  | .iface,.neq=>val (.bool fun _=>!n ())
  | _,_=>.fail
 | _,x,y=>anD T ti op x y
def alx(op:UnOp):AV->M Eff
 | .bool a=>match op with|.not=>val (.bool (fun _=>!a ()))|_=>.fail
 | .int k a=>match op with|.neg=>val (.int k (fun _=>k.wrap (0-a ())))|_=>.fail
 | _=>.fail
def ama:AV->AV->AV->M Eff
 | .bool c,a,b=>
  (match a with|.may g v=>M.cond (fun _=>c ()=true->g ()=true) (.ret v)|v=>.ret v).bind fun a=>
  (match b with|.may g v=>M.cond (fun _=>c ()=false->g ()=true) (.ret v)|v=>.ret v).bind fun b=>
  match a,b with
  | .bool x,.bool y=>val (.bool (fun _=>if c ()=true then x ()else y ()))
  | _,_=>.fail
 | _,_,_=>.fail
def aaS(fs:List (Nat×Nat))(T:List (Nat×TI)):List AV->List (Nat×AV)->Option (List AV)
 | cs,[]=>some cs
 | cs,(i,v)::r=>match fs[i]? with
  | some (off,t)=>if(aa3 T t).real&&v.cells.length==(aa3 T t).size&&off+v.cells.length<=cs.length then aaS fs T (splice cs off v.cells) r else none
  | none=>none
def ae1:List (Nat×Operand)->List AV->List (Nat×AV)
 | (i,_)::r,v::vs=>(i,v)::ae1 r vs
 | _,_=>[]
def amf(ps:List (Nat×AV)):Bool:=ps.all fun p=>p.2.cells.all AV.cell
def ajh(T:List (Nat×TI))(ti:TI)(parts:List (Nat×AV)):M Eff:=
 if amf parts then
  match ti.k with
  | .struct fs=>match aaS fs T ti.zero parts with
   | some cs=>val (.agg cs)
   | none=>.fail
  | .array n e=>match aaS ((List.range n).map fun i=>(i*(aa3 T e).size,e)) T ti.zero parts with
   | some cs=>if(aa3 T e).real then val (.agg cs)else .fail
   | none=>.fail
  | _=>.fail
 else .fail
def chunks(sz:Nat):Nat->List AV->List (List AV)
 | 0,_=>[]
 | n+1,cs=>cs.take sz::chunks sz n (cs.drop sz)
def aaL(l:List (List AV)):(Unit->Nat)->List AV:=fun i=>l.getD (i ()) []
def repl(n:Nat)(z:List AV):List AV:=match n with|0=>[]|n+1=>z++repl n z
def selF(cs:List AV)(sz len:Nat):(Unit->Nat)->List AV:=fun i=>abK cs sz len (fun _=>(i ():Int)) (List.range sz)
def acy(T:List (Nat×TI))(ti:TI)(len:Nat)(parts:List (Nat×AV))(d:Nat)(dat:Option Bool):M Eff:=
 match ti.k with
 | .slice e=>
  let te:=aa3 T e
  match aaS ((List.range len).map fun i=>(i*te.size,e)) T (repl len te.zero) parts with
  | some cs=>if amf parts&&cs.all AV.cell&&te.real&&0<te.size&&len*te.size<=16777216 then
   (if AV.aae cs then(match dat with
     | some false=>val (.slc .any te.size (fun _=>len) (aaL (chunks te.size len cs)))
     | some true=>if(selF cs te.size len fun _=>0).all AV.cell then val (.slc .any te.size (fun _=>len) (selF cs te.size len))else .fail
     | none=>.ret ⟨.aref d 0 (fun _=>len),[(d,.arr false e te.size 0 (fun _=>len) (aaL (chunks te.size len cs)))],[d],none⟩)
    else if AV.nL d cs then .ret ⟨.bref d len,[(d,.box cs)],[d],none⟩else .fail)else .fail
  | none=>.fail
 | _=>.fail
def catF(n:Unit->Nat)(f g:(Unit->Nat)->List AV):(Unit->Nat)->List AV:=
 fun j=>if j ()<n ()then f j else g (fun _=>j ()-n ())
def akw(sz:Nat)(v:AV)(k:(Unit->Nat)->((Unit->Nat)->List AV)->M Eff):M Eff:=
 match v with
 | .nil=>k (fun _=>0) (fun _=>[])
 | .slc _ sz' n f=>if sz=sz' then k n f else .fail
 | .aref o ver n=>.obj o fun
  | .arr _ _ sz' ver' _ f=>if sz==sz'&&ver==ver' then k n f else .fail
  | _=>.fail
 | .str s=>if sz=1 then k (fun _=>(s ()).size) (fun i=>[.int .u8 (fun _=>(((s ()).data[i ()]?).getD 0).toNat)])else .fail
 | _=>.fail
def      aev (T:List (Nat×TI)) (ti:TI) (d:Nat) (base src:AV):M Eff:=
 match ti.k with
 | .slice e=>
  let te:=aa3 T e
  if te.real&&0<te.size then
   akw te.size src fun m g=>
    match base with
    | .nil=>.cond (fun _=>m ()*te.bytes<=35184372088832∧m ()<=35184372088832) (.ret ⟨.aref d 0 m,[(d,.arr false e te.size 0 m g)],[d],none⟩)
    | .aref o ver n=>.obj o fun
     | .arr x t sz ver' _ f=>if sz==te.size&&t==e&&ver==ver' then
      .cond (fun _=>(n ()+m ())*te.bytes<=35184372088832∧n ()+m ()<=35184372088832)
       (.ret ⟨.aref o (ver+1) (fun _=>n ()+m ()),[(o,.arr x t sz (ver+1) (fun _=>n ()+m ()) (catF n f g))],[],none⟩)else .fail
     | _=>.fail
    | _=>.fail
  else .fail
 | _=>.fail
def ae4(d:Unit->Int):Option AV->Option (Unit->Int)
 | none=>some d
 | some (.int _ i)=>some i
 | some _=>none
def aiw(T:List (Nat×TI))(ti:TI)(x:AV)(lo hi:Option AV):M Eff:=
 match ti.k,x with
 | .str,.str s=>match ae4 (fun _=>0) lo,ae4 (fun _=>((s ()).size:Int)) hi with
  | some l,some h=>.cond (fun _=>0<=l ()∧l ()<=h ()∧h ()<=((s ()).size:Int)) (val (.str (fun _=>(s ()).extract (l ()).toNat (h ()).toNat)))
  | _,_=>.fail
 | .slice e,.slc fr sz n f=>match ae4 (fun _=>0) lo,ae4 (fun _=>(n ():Int)) hi with
  | some l,some h=>.cond (fun _=>0<=l ()∧l ()<=h ()∧h ()<=(n ():Int)) (tl T e fun te=>if te.size==sz then val (.slc fr sz (fun _=>(h ()).toNat-(l ()).toNat) (fun j=>f (fun _=>(l ()).toNat+j ())))else .fail)
  | _,_=>.fail
 | .slice e,.aref o ver n=>match lo with
  | some _=>.fail
  | none=>.obj o fun ob=>match ob with
   | .arr x t sz ver' _ f=>match ae4 (fun _=>(n ():Int)) hi with
    | some h=>if ver==ver' then .cond (fun _=>0<=h ()∧h ()<=(n ():Int))
     (tl T e fun te=>if !(te.size==sz)then .fail else .ret ⟨.aref o (ver+1) (fun _=>(h ()).toNat),[(o,.arr x t sz (ver+1) (fun _=>(h ()).toNat) f)],[],none⟩)else .fail
    | none=>.fail
   | _=>.fail
 | _,_=>.fail
def ajf:List AV->UInt8
 | [.int .u8 x]=>UInt8.ofNat (x ()).toNat
 | _=>0
def isByte:List AV->Bool
 | [.int .u8 _]=>true
 | _=>false
def ag4(n:Unit->Nat)(f:(Unit->Nat)->List AV):ByteArray:=⟨((List.range (n ())).map fun i=>ajf (f (fun _=>i))).toArray⟩
def anh(T:List (Nat×TI))(si ti:TI)(x:AV):M Eff:=
 match si.k,ti.k,x with
 | .int _,.int k,.int _ n=>val (.int k (fun _=>k.wrap (n ())))
 | .str,.str,.str s=>val (.str s)
 | .str,.slice e,.str s=>if !((aa3 T e).real)then .fail else match(aa3 T e).k with
  | .int .u8=>.cond (fun _=>(s ()).size<=35184372088832) (val (.slc .any 1 (fun _=>(s ()).size) (fun i=>[.int .u8 (fun _=>(((s ()).data[i ()]?).getD 0).toNat)])))
  | _=>.fail
 | .slice e,.str,x=>if !((aa3 T e).real)then .fail else match(aa3 T e).k with
  | .int .u8=>match x with
   | .str _=>.fail
   | x=>akw 1 x fun n f=>.cond (fun _=>∀i,i<n ()->isByte (f fun _=>i)=true) (val (.str (fun _=>ag4 n f)))
  | _=>.fail
 | _,_,_=>.fail
def ak2:List (Nat×AV)->Nat->Option AV
 | [],_=>none
 | (j,v)::r,i=>match Nat.beq i j with|true=>some v|false=>ak2 r i
def aep(T:List (Nat×TI))(ti:TI)(x i:AV):M Eff:=
 match ti.k,x,i with
 | .map k _,.fmap es,.int .i64 i=>match i ()with
  | .ofNat j=>tl T k fun tk=>match tk.k with
   | .int .i64=>match ak2 es j with
    | some v=>val v
    | none=>.fail
   | _=>.fail
  | _=>.fail
 | _,_,_=>.fail
def kIdx(ks:List ByteArray)(s:ByteArray):Nat:=ks.findIdx fun k=>decide (k=s)
def kHas(ks:List ByteArray)(s:ByteArray):Bool:=ks.any fun k=>decide (k=s)
def selZ(g:Unit->Bool):AV->AV->AV
 | .int k a,.int k' z=>if k=k' then .int k (fun _=>if g ()=true then a ()else z ())else .any
 | .bool a,.bool z=>.bool (fun _=>if g ()=true then a ()else z ())
 | .str a,.str z=>.str (fun _=>if g ()=true then a ()else z ())
 | _,_=>.any
def agd(g:Unit->Bool):List AV->List AV->List AV
 | a::r,z::s=>selZ g a z::agd g r s
 | _,_=>[]
def pickK(agg:Bool)(g:Unit->Bool)(a:AV)(zs:List AV):AV:=
 match agg,a with
 | true,.agg xs=>if xs.length=zs.length then .agg (agd g xs zs)else .any
 | false,.agg _=>.any
 | false,a=>match zs with
  | [z]=>selZ g a z
  | _=>.any
 | _,_=>.any
def aiT(T:List (Nat×TI))(ti:TI)(x i:AV)(ok:Bool):M Eff:=
 match ti.k,x,i with
 | .map k e,.kmap ks f,.str s=>tl T k fun tk=>match tk.k with
  | .str=>tl T e fun te=>
   let g:=fun _=>kHas (ks ()) (s ())
   let v:=pickK te.agg g (f (fun _=>kIdx (ks ()) (s ()))) te.zero
   val (if ok then .tup [v,.bool g]else v)
  | _=>.fail
 | _,_,_=>.fail
def ahH(T:List (Nat×TI))(ti:TI)(x i:AV)(ok:Bool):M Eff:=
 match x with
 | .kmap ks f=>aiT T ti (.kmap ks f) i ok
 | x=>if ok then .fail else aep T ti x i
def acZ(T:List (Nat×TI))(ti:TI)(d:Nat)(l c:AV):M Eff:=
 match ti.k,l,c with
 | .slice e,.int _ l,.int _ c=>
  let te:=aa3 T e
  if te.real&&0<te.size then
   .cond (fun _=>l ()=0∧0<=c ()∧c ()*te.bytes<=35184372088832∧c ()<=35184372088832) (.ret ⟨.aref d 0 (fun _=>0),[(d,.arr false e te.size 0 (fun _=>0) (fun _=>[]))],[d],none⟩)
  else .fail
 | _,_,_=>.fail
def aeo(mx:Bool):List AV->M Eff
 | [.int k a,.int k' b]=>if k=k' then val (.int k (fun _=>if mx then(if a ()<b ()then b ()else a ())else(if b ()<a ()then b ()else a ())))else .fail
 | _=>.fail
def abW(d:Nat):Bool:=(decide (1000<=d)&&decide (d<10000))||decide (1000000000<=d)
def adq(a:Nat):Nat:=1000000000+1000*a
def aa5(base:Nat):Nat->List AV->List AV×List (Nat×Nat×Nat)
 | _,[]=>([],[])
 | j,.ptr o off::r=>
  let (vs,ids):=aa5 base (j+1) r
  if off=0 then(.ptr (base+j) 0::vs,(base+j,o,0)::ids)else(.any::vs,ids)
 | j,.aref o ver n::r=>
  let (vs,ids):=aa5 base (j+1) r
  (.aref (base+j) 0 n::vs,(base+j,o,ver)::ids)
 | j,.bref o n::r=>
  let (vs,ids):=aa5 base (j+1) r
  (.bref (base+j) n::vs,(base+j,o,0)::ids)
 | j,.bptr fn o::r=>
  let (vs,ids):=aa5 base (j+1) r
  (.bptr fn (base+j)::vs,(base+j,o,0)::ids)
 | j,.func fn caps::r=>
  let (vs,ids):=aa5 base (j+1) r
  let (cs,cids):=aa5 (adq (base+j)) 0 caps
  (.func fn cs::vs,cids++ids)
 | j,.aptr .. :: r=>
  let (vs,ids):=aa5 base (j+1) r
  (.any::vs,ids)
 | j,.agg cs::r=>
  let (vs,ids):=aa5 base (j+1) r
  let (cs',cids):=aa5 (adq (base+j)) 0 cs
  (.agg cs'::vs,cids++ids)
 | j,v::r=>
  let (vs,ids):=aa5 base (j+1) r
  ((if v.pure then v else .any)::vs,ids)
def idTo(ids:List (Nat×Nat×Nat))(d k:Nat):Nat×Nat:=
 match ids with
 | []=>(10000*(d+1)+k,0)
 | (a,b)::r=>if a=k then b else idTo r d k
def renL(r:Nat->Nat×Nat):List AV->List AV
 | []=>[]
 | .ptr o off::l=>.ptr (r o).1 off::renL r l
 | .aptr o sz ver n i off::l=>.aptr (r o).1 sz ((r o).2+ver) n i off::renL r l
 | .aref o ver n::l=>.aref (r o).1 ((r o).2+ver) n::renL r l
 | .bref o n::l=>.bref (r o).1 n::renL r l
 | .bptr fn o::l=>.bptr fn (r o).1::renL r l
 | .agg cs::l=>.agg (renL r cs)::renL r l
 | .tup cs::l=>.tup (renL r cs)::renL r l
 | .func fn cs::l=>.func fn (renL r cs)::renL r l
 | .may g v::l=>.may g ((renL r [v]).headD .any)::renL r l
 | v::l=>v::renL r l
def renO(r:Nat->Nat×Nat)(k:Nat):AO->AO
 | .none=>.none
 | .box cs=>.box (renL r cs)
 | .arr x t sz ver n f=>.arr x t sz ((r k).2+ver) n f
 | .it ks f seen pend=>.it ks f seen pend
abbrev Orc:=List (Nat×AV×List (Nat×AO))
def ajP:Orc->Nat->Option (AV×List (Nat×AO))
 | [],_=>none
 | (i,r)::l,j=>if i=j then some r else ajP l j
def ad3:List (Nat×Nat×Nat)->Nat->Nat->Option Nat
 | [],_,_=>none
 | (a,b,v)::r,o,ver=>if b=o∧v=ver then some a else ad3 r o ver
def sameAs(kn:List (Nat×Nat×Nat)):List (Nat×Nat×Nat)->List (Nat×Nat)
 | []=>[]
 | (k,o,ver)::r=>match ad3 kn o ver with
  | some a=>(k,a)::sameAs kn r
  | none=>sameAs ((k,o,ver)::kn) r
def adS(kn:List (Nat×Nat×Nat)):List (Nat×Nat×Nat)->List (Nat×Nat×Nat)
 | []=>[]
 | (k,o,ver)::r=>match ad3 kn o ver with
  | some _=>adS kn r
  | none=>(k,o,ver)::adS ((k,o,ver)::kn) r
def nameOf:List (Nat×Nat)->Nat->Nat
 | [],k=>k
 | (i,a)::r,k=>if i=k then a else nameOf r k
def acs(kn:List (Nat×Nat×Nat))(m:List (Nat×Nat)):List (Nat×Nat×Nat)->Bool
 | []=>true
 | (k,o,ver)::r=>match ad3 kn o ver with|some a=>(nameOf m k==a)&&acs kn m r|none=>(nameOf m k==k)&&acs ((k,o,ver)::kn) m r
def renS(m:List (Nat×Nat))(cs:List AV):List AV:=match m with
 | []=>cs
 | m=>renL (fun k=>(nameOf m k,0)) cs
def agG:Nat->List (Nat×Nat×Nat)->List (Nat×Nat×Nat)->(List (Nat×Nat×Nat)->List (Nat×AO)->M Eff)->M Eff
 | _,_,[],k=>k [] []
 | 0,_,_,_=>.fail
 | n+1,dn,(a,b,ver)::r,k=>.obj b fun o=>match o with
  | .none=>.fail
  | .it ..=>.fail
  | .box cs=>
   let p:=aa5 (adq a) 0 cs
   let kn:=(a,b,0)::(dn++r)
   if !(acs kn (sameAs kn p.2) p.2)then .fail else
   agG n ((a,b,0)::dn) (r++adS kn p.2) fun l objs=>k ((a,b,0)::l) ((a,.box (renS (sameAs kn p.2) p.1))::objs)
  | .arr x t sz ver' n' f=>if ver==ver' then agG n ((a,b,ver)::dn) r fun l objs=>k ((a,b,ver)::l) ((a,.arr x t sz 0 n' f)::objs)else .fail
def nodupB:List Nat->Bool
 | []=>true
 | a::r=>!r.contains a&&nodupB r
def AV.rI(ks:List Nat):List AV->Bool
 | []=>true
 | .ptr o _::r=>ks.contains o&&AV.rI ks r
 | .aptr o _ _ _ _ _::r=>ks.contains o&&AV.rI ks r
 | .aref o _ _::r=>ks.contains o&&AV.rI ks r
 | .bref o _::r=>ks.contains o&&AV.rI ks r
 | .bptr _ o::r=>ks.contains o&&AV.rI ks r
 | .agg cs::r=>AV.rI ks cs&&AV.rI ks r
 | .tup cs::r=>AV.rI ks cs&&AV.rI ks r
 | .func _ cs::r=>AV.rI ks cs&&AV.rI ks r
 | .may _ v::r=>AV.rI ks [v]&&AV.rI ks r
 | _::r=>AV.rI ks r
def AO.rI(ks:List Nat):AO->Bool
 | .box cs=>AV.rI ks cs
 | _=>true
def ant(ids:List (Nat×Nat×Nat))(objs':List (Nat×AO))(res:AV)(d:Nat):Bool:=
 let ks:=objs'.map (·.1)
 nodupB (ids.map (·.2.1))&&nodupB (ids.map (·.1))&&nodupB ks&&nodupB (ks.map fun k=>(idTo ids d k).1)&&(ids.all fun p=>ks.contains p.1) &&
  AV.rI ks [res]&&objs'.all fun p=>p.2.rI ks
def newOf(ids:List (Nat×Nat×Nat))(ks:List Nat):List Nat:=ks.filter fun k=>!(ids.any fun p=>p.1==k)
def ai8(orc:Orc)(i d:Nat)(fv:AV)(args:List AV):M Eff:=
 match fv,ajP orc i with
 | .func f caps,some (res,objs')=>
  let p:=aa5 1000 0 (args++caps)
  if !(acs [] (sameAs [] p.2) p.2)then .fail else
  agG 20 [] (adS [] p.2) fun ids objs=>
   if ant ids objs' res d then
    .ret ⟨(renL (idTo ids d) [res]).headD .any,objs'.map fun p=>((idTo ids d p.1).1,renO (idTo ids d) p.1 p.2),(newOf ids (objs'.map (·.1))).map fun k=>(idTo ids d k).1,some ⟨f,renS (sameAs [] p.2) p.1,objs,res,objs'⟩⟩
   else .fail
 | _,_=>.fail
def callV(orc:Orc)(i d:Nat)(fv:AV)(args:List AV):M Eff:=
 match fv with
 | .bptr f o=>ai8 orc i d (.func f []) (.ptr o 0::args)
 | fv=>ai8 orc i d fv args
def aiG(ti:TI)(v:AV)(dst:Option Nat):M Eff:=
 match dst with
 | some d=>match ti.k with
  | .map _ _=>match v with
   | .kmap ks f=>.ret ⟨.ptr d 0,[(d,.it ks f (fun _=>[]) false)],[d],none⟩
   | .nilm=>.ret ⟨.ptr d 0,[(d,.it (fun _=>[]) (fun _=>.any) (fun _=>[]) false)],[d],none⟩
   | _=>.fail
  | _=>.fail
 | none=>.fail
def amD(p:AV)(isString:Bool):M Eff:=
 match isString with
 | true=>.fail
 | false=>match p with
  | .ptr ob 0=>.obj ob fun x=>match x with
   | .it ks f seen false=>.ret ⟨.nxt (fun _=>∃i,i<(ks ()).length∧i∉seen ()) (fun _=>∀i,i<(ks ()).length->i∈seen ()),[(ob,.it ks f seen true)],[],none⟩
   | _=>.fail
  | _=>.fail
def aj7(p:AV):M Eff:=
 match p with
 | .ptr ob 0=>.obj ob fun x=>match x with
  | .it ks f seen false=>.cond (fun _=>(seen ()).getLastD (ks ()).length<(ks ()).length) (val (.tup [.str fun _=>(ks ()).getD ((seen ()).getLastD 0) ⟨#[]⟩,f fun _=>(seen ()).getLastD 0]))
  | _=>.fail
 | _=>.fail
def exOp(T:List (Nat×TI))(orc:Orc)(i:Nat)(g:Option (Unit->Bool))(o:Oper):M Eff:=
 let d:=o.dst.getD 0
 match o.op with
 | .move x|.assign x=>(opd g x).bind val
 | .pick c a b=>(opd g c).bind fun c=>(opd none a).bind fun a=>(opd none b).bind fun b=>ama c a b
 | .alloc t=>tl T t fun ti=>match o.dst with|some _=>.ret ⟨.ptr d 0,[(d,.box (tagC t ti.zero))],[d],none⟩|none=>.fail
 | .box t x=>tl T t fun _=>(opd g x).bind fun v=>match o.dst with
  | some _=>if v.cells.all AV.cell then(match ajP orc i with
   | some _=>if AV.aae v.cells&&decide (0<v.cells.length)then val (.eptr .any v.cells.length (fun _=>1) (fun _=>v.cells) (fun _=>0) 0)else .fail
   | none=>.ret ⟨.ptr d 0,[(d,.box v.cells)],[d],none⟩)else .fail
  | none=>.fail
 | .build t ps=>tl T t fun ti=>(opds g (ps.toList.map (·.2))).bind fun vs=>ajh T ti (ae1 ps.toList vs)
 | .buildSlice t n ps=>tl T t fun ti=>(opds g (ps.toList.map (·.2))).bind fun vs=>acy T ti n (ae1 ps.toList vs) d (match ajP orc i with|some (.nilf,_)=>some true|some _=>some false|none=>none)
 | .load t a=>tl T t fun ti=>(opd g a).bind (ahI ti)
 | .store t a x=>tl T t fun ti=>(opd g a).bind fun p=>(opd g x).bind fun v=>ait ti p v
 | .nilCheck x=>(opd g x).bind fun v=>match v with|.ptr ..|.eptr ..|.func ..=>val v|_=>.fail
 | .binOp op t x y _=>(opd g x).bind fun a=>(opd g y).bind fun b=>tl T t fun ti=>anE T ti op (nilC y) a b
 | .unOp op _ x=>(opd g x).bind (alx op)
 | .convert s t x=>tl T s fun si=>tl T t fun ti=>(opd g x).bind (anh T si ti)
 | .makeFunc fn first caps=>match fn,first with
  | .func f,⟨[]⟩=>(opds g caps.toList).bind fun cs=>if cs.all AV.cell then val (.func f cs)else .fail
  | .func f,⟨[x]⟩=>match caps with
   | ⟨[]⟩=>(opd g x).bind fun v=>match v with|.ptr o 0=>val (.bptr f o)|_=>.fail
   | _=>.fail
  | _,_=>.fail
 | .slice t x lo hi mx=>tl T t fun ti=>(opd g x).bind fun v=>
  (opdO g lo).bind fun l=>(opdO g hi).bind fun h=>match mx with|none=>aiw T ti v l h|some _=>.fail
 | .makeSlice t l c=>tl T t fun ti=>(opd g l).bind fun l=>(opd g c).bind fun c=>acZ T ti d l c
 | .lookup t x ix ok=>tl T t fun ti=>(opd g x).bind fun v=>(opd g ix).bind fun j=>ahH T ti v j ok
 | .fieldAddr t x i=>tl T t fun ti=>(opd g x).bind fun p=>ad8 ti p i
 | .indexAddr t x ix=>tl T t fun ti=>(opd g x).bind fun v=>(opd g ix).bind fun j=>ad6 T ti v j
 | .index t x ix=>tl T t fun ti=>(opd g x).bind fun v=>(opd g ix).bind fun j=>aj2 T ti v j
 | .field t x i=>tl T t fun ti=>(opd g x).bind fun v=>match v,adt ti i with
  | .agg cs,some (off,ft)=>tl T ft fun fi=>if off+fi.size<=cs.length then val (aaY fi cs off)else .fail
  | _,_=>.fail
 | .extract x k=>(opd g x).bind fun v=>match v with
  | .tup vs=>match vs[k]? with|some v=>val v|none=>.fail
  | .nxt t f=>match k with|0=>val (.anyb t f)|_=>.fail
  | _=>.fail
 | .range t x=>tl T t fun ti=>(opd g x).bind fun v=>aiG ti v o.dst
 | .next x isString=>(opd g x).bind fun p=>amD p isString
 | .entry x=>(opd g x).bind aj7
 | .call c=>(opds g c.args.toList).bind fun vs=>match c.callee with
  | .value f=>(opd g f).bind fun fv=>callV orc i d fv vs
  | .builtin .len=>match vs,c.argTypes.toList with|[v],t::_=>tl T t fun ti=>lenOp ti v|_,_=>.fail
  | .builtin .append=>match vs,c.argTypes.toList with|[b,x],[st,xt]=>if xt==st||(match(aa3 T xt).k with|.str=>true|_=>false)then tl T st fun ti=>aev T ti d b x else .fail|_,_=>.fail
  | .builtin .min=>aeo false vs
  | .builtin .max=>aeo true vs
  | _=>.fail
 | _=>.fail
def mixA(g:Unit->Bool):AV->AV->Option AV
 | .int k a,.int k' z=>if k=k' then some (.int k (fun _=>if g ()=true then a ()else z ()))else none
 | .bool a,.bool z=>some (.bool (fun _=>if g ()=true then a ()else z ()))
 | .ifc a,.ifc z=>some (.ifc (fun _=>if g ()=true then a ()else z ()))
 | .str a,.str z=>some (.str (fun _=>if g ()=true then a ()else z ()))
 | .ptr o k,.ptr o' k'=>match Nat.beq o o',Nat.beq k k' with|true,true=>some (.ptr o k)|_,_=>none
 | .slc .any sz n f,.slc .any sz' n' f'=>match Nat.beq sz sz' with|true=>some (.slc .any sz (fun _=>if g ()=true then n ()else n' ()) (fun i=>if g ()=true then f i else f' i))|false=>none
 | .nil,.nil=>some .nil
 | .nilf,.nilf=>some .nilf
 | .nilp,.nilp=>some .nilp
 | _,_=>none
def mixL(g:Unit->Bool):List AV->List AV->Option (List AV)
 | [],[]=>some []
 | a::r,z::s=>match mixA g a z,mixL g r s with|some m,some l=>some (m::l)|_,_=>none
 | _,_=>none
def mixW(g:Unit->Bool)(e:Eff):List (Nat×AO)->List (Nat×AO)->M Eff
 | [],acc=>.ret { e with dst:=.may g e.dst,wo:=acc }
 | (o,.box cs)::r,acc=>.obj o fun ob=>match ob with
  | .box zs=>match mixL g cs zs with
   | some m=>mixW g e r (acc++[(o,.box m)])
   | none=>.cond (fun _=>g ()=true) (.ret e)
  | _=>.cond (fun _=>g ()=true) (.ret e)
 | _,_=>.cond (fun _=>g ()=true) (.ret e)
def M.under(g:Unit->Bool):M Eff->M Eff
 | .ret e=>match e.wo,e.new with
  | [],_=>.ret { e with dst:=.may g e.dst }
  | wo,[]=>mixW g e wo []
  | _,_=>.cond (fun _=>g ()=true) (.ret e)
 | .fail=>.fail
 | @M.cond _ c d k=>@M.cond _ (fun _=>g ()=true->c ()) (fun _=>haveI:=d ();inferInstanceAs (Decidable (g ()=true->c ()))) (k.under g)
 | .tmp t k=>.tmp t fun v=>(k v).under g
 | .obj o k=>.obj o fun v=>(k v).under g
def opA(T:List (Nat×TI))(orc:Orc)(ops:Array Oper)(i:Nat)(o:Oper):M (Option (Unit->Bool)×Eff):=
 match o.guard with
 | none=>(exOp T orc i none o).bind fun e=>.ret (none,e)
 | some (j,want)=>match(ops.toList[j]?).bind (·.dst)with
  | none=>.fail
  | some d=>.tmp d fun v=>match v with
   | .bool b=>((exOp T orc i (some fun _=>b ()==want) o).under (fun _=>b ()==want)).bind fun e=>.ret (some (fun _=>b ()==want),e)
   | .may g' (.bool b)=>((exOp T orc i (some fun _=>g' ()&&b ()==want) o).under (fun _=>g' ()&&b ()==want)).bind fun e=>.ret (some (fun _=>g' ()&&b ()==want),e)
   | _=>.fail
structure Log where
 rt:List Nat
 ro:List Nat
 wt:List (Nat×AV)
 wo:List (Nat×AO)
 new:List Nat
structure Run(α:Type) where
 a:α
 conds:List (Unit->Prop)
 rt:List Nat
 ro:List Nat
def M.run{α:Type}(S:AS):M α->Option (Run α)
 | .ret a=>some ⟨a,[],[],[]⟩
 | .fail=>none
 | @M.cond _ c _ k=>match k.run S with|some r=>some { r with conds:=c::r.conds }|none=>none
 | .tmp t k=>match(k (S.tmp t)).run S with|some r=>some { r with rt:=t::r.rt }|none=>none
 | .obj o k=>match(k (S.obj o)).run S with|some r=>some { r with ro:=o::r.ro }|none=>none
def aaE(objs:List (Nat×AO)):List (Nat×AO)->List (Nat×AO)
 | []=>objs
 | (o,v)::r=>aaE (oset objs o v) r
def AS.put(S:AS)(wt:List (Nat×AV))(wo:List (Nat×AO)):AS:=
 ⟨match wt with|[]=>S.tmps|(t,v)::_=>S.tmps.set t v,aaE S.objs wo⟩
structure Out where
 S:AS
 conds:List (Unit->Prop)
 calls:List (Option (Unit->Bool)×CallOb)
 logs:List Log
def wtOf(o:Oper)(v:AV):List (Nat×AV):=match o.dst with|some d=>[(d,v)]|none=>[]
def aops(T:List (Nat×TI))(orc:Orc)(ops:Array Oper):Nat->List Oper->AS->Option Out
 | _,[],S=>some ⟨S,[],[],[]⟩
 | i,o::rest,S=>
  match(opA T orc ops i o).run S with
  | none=>none
  | some ⟨(g,e),conds,rt,ro⟩=>
   match aops T orc ops (i+1) rest (S.put (wtOf o e.dst) e.wo)with
   | none=>none
   | some out=>some ⟨out.S,conds++out.conds,(match e.call with|some c=>[(g,c)]|none=>[])++out.calls,⟨rt,ro,wtOf o e.dst,e.wo,e.new⟩::out.logs⟩
def AO.aak(d:Nat):AO->Bool
 | .box cs=>AV.nL d cs
 | _=>true
def AS.aak(S:AS)(d:Nat):Bool:=(AV.nL d S.tmps&&S.objs.all fun(_,o)=>o.aak d)&&!abW d
def hits(a b:List Nat):Bool:=a.any fun x=>b.contains x
def Log.clash(a b:Log):Bool:=
 hits (a.wt.map (·.1)) (b.rt++b.wt.map (·.1))||hits a.rt (b.wt.map (·.1)) ||
 hits (a.wo.map (·.1)) (b.ro++b.wo.map (·.1))||hits a.ro (b.wo.map (·.1))
def Log.refers(l:Log)(d:Nat):Bool:=!(AV.nL d (l.wt.map (·.2))&&l.wo.all fun(_,o)=>o.aak d)
def bits(acc:List Nat):List Edge->Nat
 | []=>0
 | e::r=>if Region.binds .any e then bits acc r ||| (2^e.on ||| acc.getD e.on 0)else bits acc r
def clos:List Oper->List Nat->List Nat
 | [],acc=>acc
 | o::r,acc=>clos r (acc++[bits acc o.after.toList])
def abQ:Nat->List Oper->Bool
 | _,[]=>true
 | i,o::r=>(o.after.toList.all fun e=>!Region.binds .any e||decide (e.on<i))&&abQ (i+1) r
def acS(S:AS)(bef:Nat->Nat->Bool)(logs:List Log):Bool:=
 logs.zipIdx.all fun(l,i)=>
  l.new.all (fun d=>S.aak d) &&
  logs.zipIdx.all fun(m,j)=>
   (!(bef i j)||decide (i<j)) &&
   (i==j||!(l.clash m)||bef i j||bef j i) &&
   (i==j||l.new.all fun d=>!(m.refers d)||bef i j)
def agv(S:AS):List Log->List Log->Bool
 | _,[]=>true
 | seen,l::r=>(l.new.all fun d=>S.aak d&&seen.all fun m=>!(m.refers d))&&agv S (l::seen) r
structure VC(ok:Bool)(conds:List (Unit->Prop))(calls:List (Option (Unit->Bool)×CallOb))(ob:Option (Unit->Bool)×CallOb->Prop)(K:Prop):Prop where
 ok:ok=true
 conds:∀c∈conds,c ()
 calls:∀c∈calls,ob c
 next:K
def aif(draw:Bool)(ops:List Oper):Nat->Nat->Bool:=
 if draw then let b:=clos ops [];fun i j=>(b.getD j 0).testBit i else fun i j=>decide (i<j)
def adl(ob:Option (Unit->Bool)×CallOb->Prop)(T:List (Nat×TI))(orc:Orc)(draw:Bool)(ops:Array Oper)(S:AS)(K:AS->Prop):Prop:=
 match aops T orc ops 0 ops.toList S with
 | none=>False
 | some ⟨S',conds,calls,logs⟩=>VC (if draw then acS S (aif true ops.toList) logs&&abQ 0 ops.toList else agv S [] logs) conds calls ob (K S')
def Plain(w:World)(b:Nat):Prop:=∃vs ty,w.heap[b]? = some (.cells vs ty (0,0))
def FB.ok(w:World)(B b:Nat):FB->Prop
 | .any=>True
 | .new=>B<=b∧Plain w b
 | .sat p=>p b
 | .own p=>p b∧Plain w b
def FB.ok.mono{w w':World}{B B' b:Nat}{fr:FB}(h:fr.ok w B b)(hw:∀vs ty,w.heap[b]? = some (.cells vs ty (0,0))->w'.heap[b]? = some (.cells vs ty (0,0)))(hB:B'<=B):fr.ok w' B' b:=by
 cases fr with
 | any=>trivial
 | new=>obtain⟨h1,vs,ty,h2⟩:=h;exact⟨Nat.le_trans hB h1,vs,ty,hw _ _ h2⟩
 | sat p=>exact h
 | own p=>obtain⟨h1,vs,ty,h2⟩:=h;exact⟨h1,vs,ty,hw _ _ h2⟩
inductive RD(w:World)(D:Nat->Prop)(B:Nat):AV->Value->Prop
 | any (v:Value):RD w D B .any v
 | val (v:Value):RD w D B (.val v) v
 | int (k:IntKind) (n:Unit->Int):RD w D B (.int k n) (.int k (n ()))
 | bool (b:Unit->Bool):RD w D B (.bool b) (.bool (b ()))
 | str (s:Unit->ByteArray):RD w D B (.str s) (.string (s ()))
 | nil:RD w D B .nil (.slice none 0 0)
 | nilf:RD w D B .nilf .nilFunc
 | nilp:RD w D B .nilp (.pointer none)
 | tnil (t:Nat):RD w D B (.tnil t) (.pointer none)
 | nilm:RD w D B .nilm (.map none)
 | anyb (t f:Unit->Prop) (b:Bool) (ht:b=true->t ()) (hf:b=false->f ()):RD w D B (.anyb t f) (.bool b)
 | ifc (n:Unit->Bool) (v:Value) (h:(n ()=true∧v=.nilIface)∨(n ()=false∧∃t p,v=.iface t p)):RD w D B (.ifc n) v
 | empty (fr:FB) (sz:Nat) (n:Unit->Nat) (f:(Unit->Nat)->List AV) (p:Option Addr) (cap:Nat) (hn:n ()=0) (hc:cap<=maxLen):RD w D B (.slc fr sz n f) (.slice p 0 cap)
 | slc (fr:FB) (sz:Nat) (n:Unit->Nat) (f:(Unit->Nat)->List AV) (b o cap:Nat) (c:Nat->Value) (hn:n ()<=cap) (hc:cap<=maxLen) (hD:D b) (hB:fr.ok w B b)
  (hcell:∀k,k<n ()*sz->w.cell? ⟨b,o+k,none⟩=some (c k)) (hlen:∀i,i<n ()->(f fun _=>i).length=sz) (hone:∀i,i<n ()->(f fun _=>i).all AV.cell=true)
  (hel:∀(i j:Nat) (av:AV),i<n ()->(f fun _=>i)[j]? = some av->RD w D B av (c (i*sz+j))):RD w D B (.slc fr sz n f) (.slice (some ⟨b,o,none⟩) (n ()) cap)
 | agg (cs:List AV) (vs:Array Value) (hl:cs.length=vs.size) (h:∀(i:Nat) (av:AV) (v:Value),cs[i]? = some av->vs[i]? = some v->RD w D B av v):RD w D B (.agg cs) (.agg vs)
 | tup (cs:List AV) (vs:Array Value) (hl:cs.length=vs.size) (h:∀(i:Nat) (av:AV) (v:Value),cs[i]? = some av->vs[i]? = some v->RD w D B av v):RD w D B (.tup cs) (.tuple vs)
 | func (fn:FuncId) (cs:List AV) (vs:Array Value) (hl:cs.length=vs.size) (h:∀(i:Nat) (av:AV) (v:Value),cs[i]? = some av->vs[i]? = some v->RD w D B av v):RD w D B (.func fn cs) (.func (.func fn) #[] vs)
 | may (g:Unit->Bool) (av:AV) (v:Value) (h:g ()=true->RD w D B av v) (hu:g ()=false->v=undef):RD w D B (.may g av) v
 | eptr (fr:FB) (sz:Nat) (n:Unit->Nat) (f:(Unit->Nat)->List AV) (i:Unit->Nat) (off b o cap:Nat) (hi:i ()<n ()) (h:RD w D B (.slc fr sz n f) (.slice (some ⟨b,o,none⟩) (n ()) cap)):
  RD w D B (.eptr fr sz n f i off) (.pointer (some ⟨b,o+i ()*sz+off,none⟩))
 | fmap (es:List (Nat×AV)) (b clock:Nat) (ents:Array MapEntry) (hD:D b) (hb:w.heap[b]? = some (.map ents clock)) (hl:es.length=ents.size) (hk:∀(i k:Nat) (av:AV) (e:MapEntry),es[i]? = some (k,av)->ents[i]? = some e->e.key=.int .i64 k)
  (h:∀(i k:Nat) (av:AV) (e:MapEntry),es[i]? = some (k,av)->ents[i]? = some e->RD w D B av e.val):RD w D B (.fmap es) (.map (some b))
 | kmap (ks:Unit->List ByteArray) (f:(Unit->Nat)->AV) (b clock:Nat) (ents:Array MapEntry) (hD:D b) (hb:w.heap[b]? = some (.map ents clock)) (hl:(ks ()).length=ents.size) (hk:∀(i:Nat) (k:ByteArray) (e:MapEntry),(ks ())[i]? = some k->ents[i]? = some e->e.key=.string k)
  (hc:clock=ents.size∧∀(i:Nat) (e:MapEntry),ents[i]? = some e->e.born=i) (h:∀(i:Nat) (e:MapEntry),ents[i]? = some e->RD w D B (f fun _=>i) e.val):RD w D B (.kmap ks f) (.map (some b))
 | kmap0 (ks:Unit->List ByteArray) (f:(Unit->Nat)->AV) (hz:ks ()=[]):RD w D B (.kmap ks f) (.map none)
 | kmaps (n:Nat) (ks:(Unit->Nat)->List ByteArray) (f:(Unit->Nat)->(Unit->Nat)->AV) (vs:Array Value) (hl:vs.size=n) (h:∀(i:Nat) (v:Value),vs[i]? = some v->RD w D B (.kmap (fun _=>ks fun _=>i) (f fun _=>i)) v):RD w D B (.kmaps n ks f) (.agg vs)
 | nxt (t f:Unit->Prop) (b:Bool) (vs:Array Value) (hb:vs[0]? = some (.bool b)) (ht:b=true->t ()) (hf:b=false->f ()):RD w D B (.nxt t f) (.tuple vs)
def RD.mono{w w':World}{D D':Nat->Prop}{B B':Nat}(hw:∀b,D b->w'.heap[b]? = w.heap[b]?)(hD:∀b,D b->D' b)(hB:B'<=B){av:AV}{v:Value}(h:RD w D B av v):RD w' D' B' av v:=by
 induction h with
 | any v=>exact .any v
 | val v=>exact .val v
 | int k n=>exact .int k n
 | bool b=>exact .bool b
 | str s=>exact .str s
 | nil=>exact .nil
 | nilf=>exact .nilf
 | nilp=>exact .nilp
 | tnil t=>exact .tnil t
 | nilm=>exact .nilm
 | anyb t f b ht hf=>exact .anyb t f b ht hf
 | ifc n v h=>exact .ifc n v h
 | empty fr sz n f p cap hn hc=>exact .empty fr sz n f p cap hn hc
 | slc fr sz n f b o cap c hn hc hDb hBb hcell hlen hone _ ih=>
  exact .slc fr sz n f b o cap c hn hc (hD _ hDb) (hBb.mono (fun _ _ q=>(hw b hDb).trans q) hB) (fun k hk=>by rw[World.cell?_of_block (w:=w) (hw b hDb)];exact hcell k hk) hlen hone ih
 | agg cs vs hl _ ih=>exact .agg cs vs hl ih
 | tup cs vs hl _ ih=>exact .tup cs vs hl ih
 | func fn cs vs hl _ ih=>exact .func fn cs vs hl ih
 | may g av v _ hu ih=>exact .may g av v ih hu
 | eptr fr sz n f i off b o cap hi _ ih=>exact .eptr fr sz n f i off b o cap hi ih
 | fmap es b clock ents hDb hb hl hk _ ih=>exact .fmap es b clock ents (hD _ hDb) ((hw b hDb).trans hb) hl hk ih
 | kmap ks f b clock ents hDb hb hl hk hc _ ih=>exact .kmap ks f b clock ents (hD _ hDb) ((hw b hDb).trans hb) hl hk hc ih
 | kmap0 ks f hz=>exact .kmap0 ks f hz
 | kmaps n ks f vs hl _ ih=>exact .kmaps n ks f vs hl ih
 | nxt t f b vs hb ht hf=>exact .nxt t f b vs hb ht hf
def OwnV(n:Nat)(v:Value):Prop:=(v=.slice none 0 0∧n=0)∨∃g cap,v=.slice (some ⟨g,0,none⟩) n cap∧n<=cap∧cap<=maxLen
inductive RX(w:World)(D:Nat->Prop)(B:Nat)(β:Nat->Value)(H:Nat->AO):AV->Value->Prop
 | d {av:AV} {v:Value} (h:RD w D B av v):RX w D B β H av v
 | ptr (o off b:Nat) (h:β o=.pointer (some ⟨b,0,none⟩)):RX w D B β H (.ptr o off) (.pointer (some ⟨b,off,none⟩))
 | aptr (o sz ver:Nat) (n i:Unit->Nat) (off:Nat) (v:Value) (hs:∃g p,v=.pointer (some ⟨g,p,none⟩)) (hi:i ()<n ())
  (h:∀x t sz' ver' n' f,H o=.arr x t sz' ver' n' f->ver<=ver'∧(ver=ver'->n ()=n' ()∧(sz=sz'->∃g cap,β o=.slice (some ⟨g,0,none⟩) (n ()) cap∧v=.pointer (some ⟨g,i ()*sz+off,none⟩)))):
  RX w D B β H (.aptr o sz ver n i off) v
 | aref (o ver:Nat) (n:Unit->Nat) (v:Value) (hs:OwnV (n ()) v) (h:∀x t sz' ver' n' f,H o=.arr x t sz' ver' n' f->ver<=ver'∧(ver=ver'->n ()=n' ()∧v=β o)):RX w D B β H (.aref o ver n) v
 | bref (o n b:Nat) (h:RX w D B β H (.ptr o 0) (.pointer (some ⟨b,0,none⟩))):RX w D B β H (.bref o n) (.slice (some ⟨b,0,none⟩) n n)
 | bptr (fn:FuncId) (o b:Nat) (h:RX w D B β H (.ptr o 0) (.pointer (some ⟨b,0,none⟩))):RX w D B β H (.bptr fn o) (.func (.func fn) #[.pointer (some ⟨b,0,none⟩)] #[])
 | agg (cs:List AV) (vs:Array Value) (hl:cs.length=vs.size) (h:∀(i:Nat) (av:AV) (v:Value),cs[i]? = some av->vs[i]? = some v->RX w D B β H av v):RX w D B β H (.agg cs) (.agg vs)
 | tup (cs:List AV) (vs:Array Value) (hl:cs.length=vs.size) (h:∀(i:Nat) (av:AV) (v:Value),cs[i]? = some av->vs[i]? = some v->RX w D B β H av v):RX w D B β H (.tup cs) (.tuple vs)
 | func (fn:FuncId) (cs:List AV) (vs:Array Value) (hl:cs.length=vs.size) (h:∀(i:Nat) (av:AV) (v:Value),cs[i]? = some av->vs[i]? = some v->RX w D B β H av v):RX w D B β H (.func fn cs) (.func (.func fn) #[] vs)
 | may (g:Unit->Bool) (av:AV) (v:Value) (h:g ()=true->RX w D B β H av v) (hu:g ()=false->v=undef):RX w D B β H (.may g av) v
def RX.eptr{w:World}{D:Nat->Prop}{B:Nat}{β:Nat->Value}{H:Nat->AO}(fr:FB)(sz:Nat)(n:Unit->Nat)(f:(Unit->Nat)->List AV)(i:Unit->Nat)(off b o cap:Nat)(hi:i ()<n ())(h:RD w D B (.slc fr sz n f) (.slice (some ⟨b,o,none⟩) (n ()) cap)):
 RX w D B β H (.eptr fr sz n f i off) (.pointer (some ⟨b,o+i ()*sz+off,none⟩)):=.d (.eptr fr sz n f i off b o cap hi h)
section inv
variable {w:World}{D:Nat->Prop}{B:Nat}{β:Nat->Value}{H:Nat->AO}
def RX.aaq{k:IntKind}{n:Unit->Int}{v:Value}(h:RX w D B β H (.int k n) v):v=.int k (n ()):=by cases h with|d h=>cases h;rfl
def RX.aao{b:Unit->Bool}{v:Value}(h:RX w D B β H (.bool b) v):v=.bool (b ()):=by cases h with|d h=>cases h;rfl
def RX.agD{n:Unit->Bool}{v:Value}(h:RX w D B β H (.ifc n) v):(n ()=true∧v=.nilIface)∨(n ()=false∧∃t p,v=.iface t p):=by cases h with|d h=>cases h with|ifc _ _ h=>exact h
def RX.agW{t f:Unit->Prop}{v:Value}(h:RX w D B β H (.anyb t f) v):∃b:Bool,v=.bool b∧(b=true->t ())∧(b=false->f ()):=by cases h with|d h=>cases h with|anyb _ _ b ht hf=>exact⟨b,rfl,ht,hf⟩
def RX.aaI{s:Unit->ByteArray}{v:Value}(h:RX w D B β H (.str s) v):v=.string (s ()):=by cases h with|d h=>cases h;rfl
def RX.vI{u v:Value}(h:RX w D B β H (.val u) v):v=u:=by cases h with|d h=>cases h;rfl
def RX.ab2{v:Value}(h:RX w D B β H .nil v):v=.slice none 0 0:=by cases h with|d h=>cases h;rfl
def RX.aen{v:Value}(h:RX w D B β H .nilf v):v=.nilFunc:=by cases h with|d h=>cases h;rfl
def RX.aaJ{fr:FB}{sz:Nat}{n:Unit->Nat}{f:(Unit->Nat)->List AV}{v:Value}(h:RX w D B β H (.slc fr sz n f) v):RD w D B (.slc fr sz n f) v:=by cases h with|d h=>exact h
def RX.aa6{o off:Nat}{v:Value}(h:RX w D B β H (.ptr o off) v):∃b,β o=.pointer (some ⟨b,0,none⟩)∧v=.pointer (some ⟨b,off,none⟩):=by
 cases h with
 | d h=>cases h
 | ptr _ _ b h=>exact⟨b,h,rfl⟩
def RX.acJ{fr:FB}{sz:Nat}{n:Unit->Nat}{f:(Unit->Nat)->List AV}{i:Unit->Nat}{off:Nat}{v:Value}(h:RX w D B β H (.eptr fr sz n f i off) v):
 ∃b o cap,i ()<n ()∧RD w D B (.slc fr sz n f) (.slice (some ⟨b,o,none⟩) (n ()) cap)∧v=.pointer (some ⟨b,o+i ()*sz+off,none⟩):=by
 cases h with
 | d h=>cases h with|eptr _ _ _ _ _ _ b o cap hi h=>exact⟨b,o,cap,hi,h,rfl⟩
def RX.agI{es:List (Nat×AV)}{v:Value}(h:RX w D B β H (.fmap es) v):∃b clock ents,v=.map (some b)∧w.heap[b]? = some (.map ents clock)∧es.length=ents.size∧(∀(i k:Nat) (av:AV) (e:MapEntry),es[i]? = some (k,av)->ents[i]? = some e->e.key=.int .i64 k) ∧
 ∀(i k:Nat) (av:AV) (e:MapEntry),es[i]? = some (k,av)->ents[i]? = some e->RD w D B av e.val:=by
 cases h with
 | d h=>cases h with|fmap _ b clock ents _ hb hl hk h=>exact⟨b,clock,ents,rfl,hb,hl,hk,h⟩
def RX.agA{ks:Unit->List ByteArray}{f:(Unit->Nat)->AV}{v:Value}(h:RX w D B β H (.kmap ks f) v):(v=.map none∧ks ()=[])∨∃b clock ents,v=.map (some b)∧w.heap[b]? = some (.map ents clock)∧(ks ()).length=ents.size∧(∀(i:Nat) (k:ByteArray) (e:MapEntry),(ks ())[i]? = some k->ents[i]? = some e->e.key=.string k) ∧
 ∀(i:Nat) (e:MapEntry),ents[i]? = some e->RD w D B (f fun _=>i) e.val:=by
 cases h with
 | d h=>cases h with
  | kmap0 _ _ hz=>exact .inl ⟨rfl,hz⟩
  | kmap _ _ b clock ents _ hb hl hk _ h=>exact .inr ⟨b,clock,ents,rfl,hb,hl,hk,h⟩
def RX.asn{n:Nat}{ks:(Unit->Nat)->List ByteArray}{f:(Unit->Nat)->(Unit->Nat)->AV}{v:Value}(h:RX w D B β H (.kmaps n ks f) v):∃vs,v=.agg vs∧vs.size=n∧∀(i:Nat) (v:Value),vs[i]? = some v->RD w D B (.kmap (fun _=>ks fun _=>i) (f fun _=>i)) v:=by
 cases h with
 | d h=>cases h with|kmaps _ _ _ vs hl h=>exact⟨vs,rfl,hl,h⟩
def RX.kmap_rd{ks:Unit->List ByteArray}{f:(Unit->Nat)->AV}{v:Value}(h:RX w D B β H (.kmap ks f) v):RD w D B (.kmap ks f) v:=by cases h with|d h=>exact h
def RX.nilm_inv{v:Value}(h:RX w D B β H .nilm v):v=.map none:=by cases h with|d h=>cases h;rfl
def RX.nxt_inv{t f:Unit->Prop}{v:Value}(h:RX w D B β H (.nxt t f) v):∃(b:Bool) (vs:Array Value),v=.tuple vs∧vs[0]? = some (.bool b)∧(b=true->t ())∧(b=false->f ()):=by
 cases h with|d h=>cases h with|nxt _ _ b vs hb ht hf=>exact⟨b,vs,rfl,hb,ht,hf⟩
def RX.agQ{o n:Nat}{v:Value}(h:RX w D B β H (.bref o n) v):∃b,β o=.pointer (some ⟨b,0,none⟩)∧v=.slice (some ⟨b,0,none⟩) n n:=by
 cases h with
 | d h=>cases h
 | bref _ _ b h=>
  obtain⟨b',h1,h2⟩:=h.aa6;cases h2;exact⟨b,h1,rfl⟩
def RX.aeu{fn:FuncId}{o:Nat}{v:Value}(h:RX w D B β H (.bptr fn o) v):∃b,β o=.pointer (some ⟨b,0,none⟩)∧v=.func (.func fn) #[.pointer (some ⟨b,0,none⟩)] #[]:=by
 cases h with
 | d h=>cases h
 | bptr _ _ b h=>
  obtain⟨b',h1,h2⟩:=h.aa6;cases h2;exact⟨b,h1,rfl⟩
def RX.aaF{o sz ver:Nat}{n i:Unit->Nat}{off:Nat}{v:Value}(h:RX w D B β H (.aptr o sz ver n i off) v):(∃g p,v=.pointer (some ⟨g,p,none⟩))∧i ()<n () ∧
 ∀x t sz' ver' n' f,H o=.arr x t sz' ver' n' f->ver<=ver'∧(ver=ver'->n ()=n' ()∧(sz=sz'->∃g cap,β o=.slice (some ⟨g,0,none⟩) (n ()) cap∧v=.pointer (some ⟨g,i ()*sz+off,none⟩))):=by
 cases h with
 | d h=>cases h
 | aptr _ _ _ _ _ _ _ hs hi h=>exact⟨hs,hi,h⟩
def RX.aI{o ver:Nat}{n:Unit->Nat}{v:Value}(h:RX w D B β H (.aref o ver n) v):OwnV (n ()) v ∧
 ∀x t sz' ver' n' f,H o=.arr x t sz' ver' n' f->ver<=ver'∧(ver=ver'->n ()=n' ()∧v=β o):=by
 cases h with
 | d h=>cases h
 | aref _ _ _ _ hs h=>exact⟨hs,h⟩
def RX.afk{cs:List AV}{v:Value}(h:RX w D B β H (.agg cs) v):∃vs,v=.agg vs∧cs.length=vs.size∧∀(i:Nat) (av:AV) (v:Value),cs[i]? = some av->vs[i]? = some v->RX w D B β H av v:=by
 cases h with
 | d h=>cases h with|agg _ vs hl h=>exact⟨vs,rfl,hl,fun i av v a b=>.d (h i av v a b)⟩
 | agg _ vs hl h=>exact⟨vs,rfl,hl,h⟩
def RX.aly{cs:List AV}{v:Value}(h:RX w D B β H (.tup cs) v):∃vs,v=.tuple vs∧cs.length=vs.size∧∀(i:Nat) (av:AV) (v:Value),cs[i]? = some av->vs[i]? = some v->RX w D B β H av v:=by
 cases h with
 | d h=>cases h with|tup _ vs hl h=>exact⟨vs,rfl,hl,fun i av v a b=>.d (h i av v a b)⟩
 | tup _ vs hl h=>exact⟨vs,rfl,hl,h⟩
def RX.abL{fn:FuncId}{cs:List AV}{v:Value}(h:RX w D B β H (.func fn cs) v):∃vs,v=.func (.func fn) #[] vs∧cs.length=vs.size∧∀(i:Nat) (av:AV) (v:Value),cs[i]? = some av->vs[i]? = some v->RX w D B β H av v:=by
 cases h with
 | d h=>cases h with|func _ _ vs hl h=>exact⟨vs,rfl,hl,fun i av v a b=>.d (h i av v a b)⟩
 | func _ _ vs hl h=>exact⟨vs,rfl,hl,h⟩
def RX.aeK{g:Unit->Bool}{av:AV}{v:Value}(h:RX w D B β H (.may g av) v):g ()=true->RX w D B β H av v:=by
 cases h with
 | d h=>cases h with|may _ _ _ h _=>exact fun e=>.d (h e)
 | may _ _ _ h _=>exact h
def RX.amG{g:Unit->Bool}{av:AV}{v:Value}(h:RX w D B β H (.may g av) v):g ()=false->v=undef:=by
 cases h with
 | d h=>cases h with|may _ _ _ _ hu=>exact hu
 | may _ _ _ _ hu=>exact hu
end inv
def aa9:Value->Option Nat
 | .pointer (some a)=>some a.block
 | .slice (some a) _ _=>some a.block
 | _=>none
def akY(b:Nat):Prop:=b<9
structure Tabs(w:World):Prop where
 u:Lib.Utf8Tabs tabA tabB w
 p:∀i s,ahu[i]? = some s->w.cell? ⟨tabP,i,none⟩=some (.string s)
 m:∃n,w.cell? ⟨tabM,0,none⟩=some (.int .i64 n)
 e5:∃v,w.cell? ⟨tabS,0,none⟩=some v∧(v=.nilIface∨∃te pe,v=.iface te pe)
 e6:∃v,w.cell? ⟨tabR,0,none⟩=some v∧(v=.nilIface∨∃te pe,v=.iface te pe)
 pw:∃ty fr,w.heap[tabW]? = some (.cells ((List.range 20).map fun i=>Value.int .u64 ((10^i:Nat):Int)).toArray ty fr)
 db:w.cell? ⟨8,15,none⟩=some (.int .u8 4)
 sz:9<=w.heap.size
structure Env where
 w0:World
 B:Nat
 D0:Nat->Prop
 X:Nat->Prop
 pin:Nat->Option (Value×Nat)
 hpin:∀o p,pin o=some p->abW o=true
 Y:Nat->Prop
 df:List Deferred
 hB:B<=w0.heap.size
 hD:∀b,D0 b->b<w0.heap.size∧¬X b
 hX:∀b,X b->b<w0.heap.size
 hY:∀b,Y b->b<w0.heap.size∧¬D0 b∧¬X b
 hdf:∀d∈df,∃b,d={ target:=.collected b,args:=#[] }∧¬X b∧¬Y b∧w0.heap[b]? = some (.deferred (some []))
 ndf:df.Nodup
 hT:Tabs w0
 hTD:∀b,akY b->D0 b
def Env.N(E:Env):Nat:=E.w0.heap.size
def AO.is:AO->Prop
 | .none=>False
 | _=>True
def Env.D(E:Env)(w:World)(β:Nat->Value)(H:Nat->AO)(b:Nat):Prop:=
 (E.D0 b∨E.X b∨E.N<=b)∧b<w.heap.size∧∀o,(H o).is->aa9 (β o)≠some b
structure Env.Frame(E:Env)(w:World):Prop where
 os:w.os=E.w0.os
 tape:w.tape=E.w0.tape
 output:w.output=E.w0.output
 size:E.N<=w.heap.size
 block:∀b,b<E.N->¬E.X b->w.heap[b]? = E.w0.heap[b]?
def Env.own(E:Env)(b:Nat):Prop:=E.X b∨E.N<=b
def Env.Frame.base{E:Env}{w:World}(h:E.Frame w):E.B<=w.heap.size:=Nat.le_trans E.hB h.size
def adZ(cs:List AV)(ty:Nat):Prop:=∀t,cs[0]? = some (.tnil t)->ty=t
def adZ.cells{cs:List AV}{ty:Nat}(h:cs.all AV.cell=true):adZ cs ty:=fun t ht=>by
 have:=List.all_eq_true.1 h _ (List.mem_of_getElem? ht);cases this
def OR (E:Env) (w:World) (β:Nat->Value) (H:Nat->AO) (o:Nat):AO->Prop
 | .none=>True
 | .box cs=>∃b vs ty,β o=.pointer (some ⟨b,0,none⟩)∧w.heap[b]? = some (.cells vs ty (0,0))∧E.own b∧cs.length=vs.size ∧
  (∀(i:Nat) (av:AV) (v:Value),cs[i]? = some av->vs[i]? = some v->RX w (E.D w β H) E.B β H av v)∧adZ cs ty
 | .arr x t sz _ n f=>(β o=.slice none 0 0∧n ()=0)∨∃g cap cur,β o=.slice (some ⟨g,0,none⟩) (n ()) cap∧w.heap[g]? = some (.cells cur t (0,0))∧n ()<=cap∧cap<=maxLen ∧
  cur.size=cap*sz∧(x=false->E.B<=g)∧E.own g∧∀i,i<n ()->(f fun _=>i).length=sz∧(f fun _=>i).all AV.cell=true ∧
   ∀(j:Nat) (av:AV) (v:Value),(f fun _=>i)[j]? = some av->cur[i*sz+j]? = some v->RD w (E.D w β H) E.B av v
 | .it ks f seen pend=>∃b mb sa,β o=.pointer (some ⟨b,0,none⟩)∧w.heap[b]? = some (.mapIter mb (ks ()).length sa (ks ()).length)∧E.own b ∧
  ((mb=none∧(ks ()).length=0)∨∃m,mb=some m∧RD w (E.D w β H) E.B (.kmap ks f) (.map (some m))) ∧
  (match pend with
    | false=>sa.toList=seen ()
    | true=>(sa.toList=seen ()∧∀i,i<(ks ()).length->i∈seen ())∨∃i,i<(ks ()).length∧i∉seen ()∧sa.toList=seen ()++[i])
structure RelB(E:Env)(tmps:List AV)(H:Nat->AO)(a:Act)(w:World)(β:Nat->Value):Prop where
 defers:a.defers=E.df
 size:a.tmps.size=tmps.length
 tmps:∀(t:Nat) (av:AV),tmps[t]? = some av->RX w (E.D w β H) E.B β H av (a.tmps.getD t undef)
 objs:∀o,OR E w β H o (H o)
 apart:∀o o' b,o≠o'->(H o).is->(H o').is->aa9 (β o)=some b->aa9 (β o')=some b->False
 frame:E.Frame w
 pin:∀o v n0,E.pin o=some (v,n0)->(∀cs,H o=.box cs->β o=v)∧∀x t sz ver n f,H o=.arr x t sz ver n f->ver=0->β o=v∧n ()=n0
def afv{w w':World}(h:Tabs w)(e:∀b,akY b->w'.heap[b]? = w.heap[b]?):Tabs w':=by
 have c0:∀b,akY b->∀c,w'.cell? ⟨b,c,none⟩=w.cell? ⟨b,c,none⟩:=fun b hb c=>by simp only[World.cell?,e b hb]
 have d0:∀b,b<9->akY b:=fun b hb=>hb;obtain⟨n,hm⟩:=h.m;obtain⟨v5,h5,g5⟩:=h.e5;obtain⟨v6,h6,g6⟩:=h.e6;refine⟨⟨fun c hc=>(c0 _ (d0 _ (by decide)) c).trans (h.u.1 c hc),fun i hi=>⟨(c0 _ (d0 _ (by decide)) _).trans (h.u.2 i hi).1,(c0 _ (d0 _ (by decide)) _).trans (h.u.2 i hi).2⟩⟩,fun i s hs=>(c0 _ (d0 _ (by decide)) _).trans (h.p i s hs),⟨n,(c0 _ (d0 _ (by decide)) _).trans hm⟩,⟨v5,(c0 _ (d0 _ (by decide)) _).trans h5,g5⟩,⟨v6,(c0 _ (d0 _ (by decide)) _).trans h6,g6⟩,h.pw.imp fun ty hy=>hy.imp fun fr hf=>(e tabW (d0 _ (by decide))).trans hf,(c0 _ (d0 _ (by decide)) _).trans h.db,?_⟩;have hs:=h.sz;have e8:=e 8 (by decide:(8:Nat)<9);rw[Array.getElem?_eq_getElem (show 8<w.heap.size from hs)]at e8;obtain⟨h8,_⟩:=Array.getElem?_eq_some_iff.1 e8;exact h8
def tab_lt{w:World}(h:Tabs w):∀b,akY b->b<w.heap.size:=fun b hb=>Nat.lt_of_lt_of_le hb h.sz
def Rel(E:Env)(S:AS)(a:Act)(w:World):Prop:=∃β,RelB E S.tmps S.obj a w β
def RX.map{w w':World}{D D':Nat->Prop}{B B':Nat}{β β':Nat->Value}{H H':Nat->AO}(hd:∀av v,RD w D B av v->RD w' D' B' av v)
 (hp:∀o off v,RX w D B β H (.ptr o off) v->RX w' D' B' β' H' (.ptr o off) v)
 (ha:∀o ver n v,RX w D B β H (.aref o ver n) v->RX w' D' B' β' H' (.aref o ver n) v)
 (hq:∀o sz ver n i off v,RX w D B β H (.aptr o sz ver n i off) v->RX w' D' B' β' H' (.aptr o sz ver n i off) v)
 {av:AV} {v:Value} (h:RX w D B β H av v):RX w' D' B' β' H' av v:=by
 induction h with
 | d h=>exact .d (hd _ _ h)
 | ptr o off b h=>exact hp _ _ _ (.ptr o off b h)
 | aptr o sz ver n i off v hs hi h=>exact hq _ _ _ _ _ _ _ (.aptr o sz ver n i off v hs hi h)
 | aref o ver n v hs h=>exact ha _ _ _ _ (.aref o ver n v hs h)
 | bref o n b _ ih=>exact .bref o n b ih
 | bptr fn o b _ ih=>exact .bptr fn o b ih
 | agg cs vs hl _ ih=>exact .agg cs vs hl ih
 | tup cs vs hl _ ih=>exact .tup cs vs hl ih
 | func fn cs vs hl _ ih=>exact .func fn cs vs hl ih
 | may g av v _ hu ih=>exact .may g av v ih hu
def RX.amI{w w':World}{D D':Nat->Prop}{B:Nat}{β β':Nat->Value}{H H':Nat->AO}{d:Nat}(hd:∀av v,RD w D B av v->RD w' D' B av v)
 (hβ:∀o,o≠d->β' o=β o) (hH:∀o,o≠d->H' o=H o)
 {av:AV} {v:Value} (h:RX w D B β H av v):AV.nL d [av]=true->RX w' D' B β' H' av v:=by
 have hlist:∀(cs:List AV),AV.nL d cs=true->∀(i:Nat) (av:AV),cs[i]? = some av->AV.nL d [av]=true:=by
  intro cs
  induction cs with
  | nil=>intro _ i av h;simp at h
  | cons c r ih=>
   intro hn i av hi;have hsplit:AV.nL d [c]=true∧AV.nL d r=true:=by
    cases c<;>simp_all[AV.nL]
   cases i with
   | zero=>simp at hi;subst hi;exact hsplit.1
   | succ i=>exact ih hsplit.2 i av (by simpa using hi)
 induction h with
 | d h=>exact fun _=>.d (hd _ _ h)
 | ptr o off b h=>
  intro hn;have:o≠d:=by simpa[AV.nL]using hn
  exact .ptr o off b (by rw[hβ o this];exact h)
 | aptr o sz ver n i off v hs hi h=>
  intro hn;have:o≠d:=by simpa[AV.nL]using hn
  exact .aptr o sz ver n i off v hs hi (by rw[hβ o this,hH o this];exact h)
 | aref o ver n v hs h=>
  intro hn;have:o≠d:=by simpa[AV.nL]using hn
  exact .aref o ver n v hs (by rw[hβ o this,hH o this];exact h)
 | bref o n b _ ih=>exact fun hn=>.bref o n b (ih (by simpa[AV.nL]using hn))
 | bptr fn o b _ ih=>exact fun hn=>.bptr fn o b (ih (by simpa[AV.nL]using hn))
 | agg cs vs hl _ ih=>exact fun hn=>.agg cs vs hl fun i av v h1 h2=>ih i av v h1 h2 (hlist cs (by simpa[AV.nL]using hn) i av h1)
 | tup cs vs hl _ ih=>exact fun hn=>.tup cs vs hl fun i av v h1 h2=>ih i av v h1 h2 (hlist cs (by simpa[AV.nL]using hn) i av h1)
 | func fn cs vs hl _ ih=>exact fun hn=>.func fn cs vs hl fun i av v h1 h2=>ih i av v h1 h2 (hlist cs (by simpa[AV.nL]using hn) i av h1)
 | may g av v _ hu ih=>exact fun hn=>.may g av v (fun e=>ih e (by simpa[AV.nL]using hn)) hu
def M.run_bind{α β:Type}(S:AS)(m:M α)(f:α->M β)(r:Run β)(h:(m.bind f).run S=some r):
 ∃r1 r2,m.run S=some r1∧(f r1.a).run S=some r2∧r=⟨r2.a,r1.conds++r2.conds,r1.rt++r2.rt,r1.ro++r2.ro⟩:=by
 induction m generalizing r with
 | ret a=>exact⟨⟨a,[],[],[]⟩,r,rfl,h,by simp⟩
 | fail=>simp[M.bind,M.run]at h
 | cond c k ih=>
  simp only[M.bind,M.run]at h;split at h
  ·rename_i r' hr;obtain⟨r1,r2,h1,h2,h3⟩:=ih r' hr;refine⟨{ r1 with conds:=c::r1.conds },r2,by simp[M.run,h1],h2,?_⟩;simp at h;rw[<- h,h3];simp
  ·cases h
 | tmp t k ih=>
  simp only[M.bind,M.run]at h;split at h
  ·rename_i r' hr;obtain⟨r1,r2,h1,h2,h3⟩:=ih _ r' hr;refine⟨{ r1 with rt:=t::r1.rt },r2,by simp[M.run,h1],h2,?_⟩;simp at h;rw[<- h,h3];simp
  ·cases h
 | obj t k ih=>
  simp only[M.bind,M.run]at h;split at h
  ·rename_i r' hr;obtain⟨r1,r2,h1,h2,h3⟩:=ih _ r' hr;refine⟨{ r1 with ro:=t::r1.ro },r2,by simp[M.run,h1],h2,?_⟩;simp at h;rw[<- h,h3];simp
  ·cases h
def Yld{α:Type}(S:AS)(m:M α)(a:α):Prop:=∃r,m.run S=some r∧(∀c∈r.conds,c ())∧r.a=a
def Yld.bind{α β:Type}{S:AS}{m:M α}{f:α->M β}{b:β}(h:Yld S (m.bind f) b):∃a,Yld S m a∧Yld S (f a) b:=by
 obtain⟨r,h,hc,rfl⟩:=h;obtain⟨r1,r2,h1,h2,rfl⟩:=M.run_bind S m f r h;exact⟨r1.a,⟨r1,h1,fun c hm=>hc c (by simp[hm]),rfl⟩,⟨r2,h2,fun c hm=>hc c (by simp[hm]),rfl⟩⟩
def Yld.ret{α:Type}{S:AS}{a b:α}(h:Yld S (.ret a) b):a=b:=by
 obtain⟨r,h,_,rfl⟩:=h;simp[M.run]at h;rw[<- h]
def Yld.fail{α:Type}{S:AS}{b:α}(h:Yld S .fail b):False:=by
 obtain⟨r,h,_,rfl⟩:=h;simp[M.run]at h
def Yld.cond{α:Type}{S:AS}{c:Unit->Prop}[d:DecidablePred c]{m:M α}{b:α}(h:Yld S (.cond c m) b):c ()∧Yld S m b:=by
 obtain⟨r,h,hc,rfl⟩:=h;simp only[M.run]at h;split at h
 ·rename_i r' hr;simp at h;subst h;exact⟨hc c (by simp),r',hr,fun x hx=>hc x (by simp[hx]),rfl⟩
 ·cases h
def Yld.tmp{α:Type}{S:AS}{t:Nat}{m:AV->M α}{b:α}(h:Yld S (.tmp t m) b):Yld S (m (S.tmp t)) b:=by
 obtain⟨r,h,hc,rfl⟩:=h;simp only[M.run]at h;split at h
 ·rename_i r' hr;simp at h;subst h;exact⟨r',hr,hc,rfl⟩
 ·cases h
def Yld.obj{α:Type}{S:AS}{t:Nat}{m:AO->M α}{b:α}(h:Yld S (.obj t m) b):Yld S (m (S.obj t)) b:=by
 obtain⟨r,h,hc,rfl⟩:=h;simp only[M.run]at h;split at h
 ·rename_i r' hr;simp at h;subst h;exact⟨r',hr,hc,rfl⟩
 ·cases h
def avB:AV->Value->Bool
 | .int k n,.int k' m=>k==k'&&n ()==m
 | .bool b,.bool c=>b ()==c
 | .str s,.string t=>decide (s ()=t)
 | .nil,.slice none n c=>n==0&&c==0
 | .nilf,.nilFunc=>true
 | .nilp,.pointer none=>true
 | .nilm,.map none=>true
 | .ifc b,.nilIface=>b ()
 | _,_=>false
def avsB:List AV->List Value->Bool
 | [],[]=>true
 | a::r,v::s=>avB a v&&a.cell&&avsB r s
 | _,_=>false
def anG{w:World}{D:Nat->Prop}{B:Nat}{a:AV}{v:Value}(h:avB a v=true):RD w D B a v:=by
 unfold avB at h;split at h
 ·simp at h;obtain⟨rfl,rfl⟩:=h;exact .int _ _
 ·simp at h;subst h;exact .bool _
 ·simp at h;subst h;exact .str _
 ·simp at h;obtain⟨rfl,rfl⟩:=h;exact .nil
 ·exact .nilf
 ·exact .nilp
 ·exact .nilm
 ·exact .ifc _ _ (.inl ⟨h,rfl⟩)
 ·cases h
theorem ac1{w:World}{D:Nat->Prop}{B:Nat}:∀{xs1:List AV} {vs:List Value},avsB xs1 vs=true->xs1.length=vs.length∧xs1.all AV.cell=true∧∀(i:Nat) (av:AV) (v:Value),xs1[i]? = some av->vs[i]? = some v->RD w D B av v
 | [],[],_=>⟨rfl,rfl,fun i av v h=>by simp at h⟩
 | a::r,v::s,h=>by
  simp[avsB]at h;obtain⟨⟨h1,h2⟩,h3⟩:=h;obtain⟨i1,i2,i3⟩:=ac1 (w:=w) (D:=D) (B:=B) h3;refine⟨by simp[i1],by simp[h2];simpa using i2,fun i av v' ha hv=>?_⟩;cases i with
  | zero=>simp at ha hv;subst ha;subst hv;exact anG h1
  | succ i=>exact i3 i av v' (by simpa using ha) (by simpa using hv)
 | [],_::_,h=>by simp[avsB]at h
 | _::_,[],h=>by simp[avsB]at h
def plainB (P : Program) (t : Nat) (gs : List Go.Field) : Bool := !P.stoodInHeld t && !P.eqGuardType P.depth t && gs.all fun f => f.name != "_"
def tkB(P:Program)(t:Nat):TK->Bool
 | .int k=>match P.underlying t with|some (.int k')=>k==k'|_=>false
 | .bool=>match P.underlying t with|some .bool=>true|_=>false
 | .str=>match P.underlying t with|some .string=>true|_=>false
 | .slice e=>match P.underlying t with|some (.slice e')=>e==e'|_=>false
 | .struct fs=>match P.underlying t with|some (.struct gs)=>(gs.toList.map fun f=>(f.offset,f.type))==fs&&(gs.toList.all fun f=>((P.info? f.type).any fun i=>i.size != 0))&&plainB P t gs.toList|_=>false
 | .array n e=>match P.underlying t with|some (.array n' e')=>n==n'&&e==e'|_=>false
 | .ptr e=>match P.underlying t with|some (.pointer e')=>e==e'|_=>false
 | .func=>match P.underlying t with|some (.func _ _ _)=>true|_=>false
 | .map k e=>match P.underlying t with|some (.map k' e')=>k==k'&&e==e'|_=>false
 | .iface=>match P.underlying t with|some (.interface _)=>true|_=>false
 | .other=>true
def aggB:Value->Bool
 | .agg _=>true
 | _=>false
def tiB(P:Program)(t:Nat)(ti:TI):Bool:=
 match P.info? t with
 | none=>false
 | some i=>i.size==ti.size&&i.bytes==ti.bytes&&(match i.zero with|some z=>avsB ti.zero z.cells.toList&&aggB z==ti.agg|none=>false)&&tkB P t ti.k&&(ti.agg||ti.size==1)&&ti.zero.length==ti.size
structure TIOk(P:Program)(t:Nat)(ti:TI):Prop where
 ex:∃i z,P.info? t=some i∧i.size=ti.size∧i.bytes=ti.bytes∧i.zero=some z∧avsB ti.zero z.cells.toList=true∧aggB z=ti.agg
 k:tkB P t ti.k=true
 one:ti.agg=false->ti.size=1
 zlen:ti.zero.length=ti.size
def TOk(P:Program)(T:List (Nat×TI)):Prop:=T.all (fun p=>tiB P p.1 p.2)=true
theorem TOk.at{P:Program}:∀{T:List (Nat×TI)},TOk P T->∀t,(aa3 T t).real=true->TIOk P t (aa3 T t)
 | [],_,t,h=>by simp[aa3,TI.real]at h
 | (i,ti)::r,hT,t,h=>by
  simp only[TOk,List.all_cons,Bool.and_eq_true]at hT;by_cases e:i=t
  ·subst e;have h1:=hT.1;simp only[aa3,if_true]at h ⊢;unfold tiB at h1;split at h1
   ·cases h1
   ·rename_i i' hi;simp at h1;obtain⟨⟨⟨⟨⟨a,b⟩,c⟩,d⟩,o⟩,zl⟩:=h1;split at c
    ·rename_i z hz;simp only[Bool.and_eq_true,beq_iff_eq]at c;exact⟨⟨i',z,hi,a,b,hz,c.1,c.2⟩,d,fun hn=>by simpa[hn]using o,zl⟩
    ·cases c
  ·simp only[aa3,if_neg e]at h ⊢;exact TOk.at (T:=r) hT.2 t h
section ty
variable {P:Program}{t:Nat}{ti:TI}{w:World}
def TIOk.anL(h:TIOk P t ti)(hk:ti.real=true):(isAgg t).run P w=.ok ti.agg w:=by
 have hk':=h.k;unfold Go.isAgg;unfold tkB at hk';unfold TI.agg;unfold TI.real at hk;cases hq:ti.k<;>rw[hq]at hk' hk<;>(first|exact absurd hk Bool.false_ne_true|skip)<;>simp only at hk' ⊢ <;>
  (split at hk'<;>first|(rename_i hu;simp[run_underlying hu];done)|exact absurd hk' Bool.false_ne_true)
def TIOk.sizeOf(h:TIOk P t ti):(sizeOf t).run P w=.ok ti.size w:=by
 obtain⟨i,z,hi,hs,_⟩:=h.ex;simp[Go.sizeOf,typeInfo,hi,hs]
def TIOk.zeroValue(h:TIOk P t ti):∃z,(zeroValue t).run P w=.ok z w∧avsB ti.zero z.cells.toList=true:=by
 obtain⟨i,z,hi,_,_,hz,ha,_⟩:=h.ex;exact⟨z,by simp[Go.zeroValue,typeInfo,hi,hz],ha⟩
def TIOk.akj(h:TIOk P t ti):∃z,(Go.zeroValue t).run P w=.ok z w∧avsB ti.zero z.cells.toList=true∧aggB z=ti.agg:=by
 obtain⟨i,z,hi,_,_,hz,ha,hg⟩:=h.ex;exact⟨z,by simp[Go.zeroValue,typeInfo,hi,hz],ha,hg⟩
def TIOk.slice{e:Nat}(h:TIOk P t ti)(hk:ti.k=.slice e):P.underlying t=some (.slice e):=by
 have:=h.k;rw[hk]at this;simp only[tkB]at this;split at this
 ·rename_i hu;simp at this;subst this;exact hu
 ·cases this
def TIOk.array{n e:Nat}(h:TIOk P t ti)(hk:ti.k=.array n e):P.underlying t=some (.array n e):=by
 have:=h.k;rw[hk]at this;simp only[tkB]at this;split at this
 ·rename_i hu;simp at this;obtain⟨rfl,rfl⟩:=this;exact hu
 ·cases this
def TIOk.map{k e:Nat}(h:TIOk P t ti)(hk:ti.k=.map k e):P.underlying t=some (.map k e):=by
 have:=h.k;rw[hk]at this;simp only[tkB]at this;split at this
 ·rename_i hu;simp at this;obtain⟨rfl,rfl⟩:=this;exact hu
 ·cases this
def TIOk.pointer{e:Nat}(h:TIOk P t ti)(hk:ti.k=.ptr e):P.underlying t=some (.pointer e):=by
 have:=h.k;rw[hk]at this;simp only[tkB]at this;split at this
 ·rename_i hu;simp at this;subst this;exact hu
 ·cases this
def TIOk.str(h:TIOk P t ti)(hk:ti.k=.str):P.underlying t=some .string:=by
 have:=h.k;rw[hk]at this;simp only[tkB]at this;split at this
 ·rename_i hu;exact hu
 ·cases this
def TIOk.int{k:IntKind}(h:TIOk P t ti)(hk:ti.k=.int k):P.underlying t=some (.int k):=by
 have:=h.k;rw[hk]at this;simp only[tkB]at this;split at this
 ·rename_i hu;simp at this;subst this;exact hu
 ·cases this
def TIOk.bool(h:TIOk P t ti)(hk:ti.k=.bool):P.underlying t=some .bool:=by
 have:=h.k;rw[hk]at this;simp only[tkB]at this;split at this
 ·rename_i hu;exact hu
 ·cases this
def TIOk.struct{fs:List (Nat×Nat)}(h:TIOk P t ti)(hk:ti.k=.struct fs):∃gs,P.underlying t=some (.struct gs)∧gs.toList.map (fun f=>(f.offset,f.type))=fs∧∀f∈gs.toList,∃i,P.info? f.type=some i∧i.size≠0:=by
 have:=h.k;rw[hk]at this;simp only[tkB]at this;split at this
 ·rename_i gs hu;rw[Bool.and_eq_true,Bool.and_eq_true]at this;refine⟨gs,hu,eq_of_beq this.1.1,fun f hf=>?_⟩;have:=List.all_eq_true.1 this.1.2 f hf;cases hi:P.info? f.type with
  | none=>rw[hi]at this;simp at this
  | some i=>rw[hi]at this;exact⟨i,rfl,by simpa using this⟩
 ·cases this
def TIOk.plain {fs : List (Nat × Nat)} (h : TIOk P t ti) (hk : ti.k = .struct fs) : ∃ gs, P.underlying t = some (.struct gs) ∧ gs.toList.map (fun f => (f.offset, f.type)) = fs ∧ P.stoodInHeld t = false ∧ P.eqGuardType P.depth t = false ∧ ∀ f ∈ gs.toList, f.name ≠ "_" := by
 have:=h.k;rw[hk]at this;simp only[tkB]at this;split at this
 ·rename_i gs hu;simp only[Bool.and_eq_true,plainB,Bool.not_eq_true']at this;refine⟨gs,hu,eq_of_beq this.1.1,this.2.1.1,this.2.1.2,fun f hf=>?_⟩;have:=List.all_eq_true.1 this.2.2 f hf;simpa using this
 ·cases this
end ty
def ahz{w:World}{D:Nat->Prop}{B:Nat}(v:Value):RD w D B (ofS v) v:=by
 unfold ofS;split
 ·exact .int _ _
 ·exact .bool _
 ·exact .str _
 ·split
  ·exact .nil
  ·exact .any _
 ·exact .nilf
 ·exact .nilp
 ·exact .nilm
 ·exact .ifc _ _ (.inl ⟨rfl,rfl⟩)
 ·exact .any _
def ams{w:World}{D:Nat->Prop}{B:Nat}(v:Value):RD w D B (ofV v) v:=by
 unfold ofV;split
 ·rename_i cs;refine .agg _ _ (by simp) fun i av v h1 h2=>?_;rw[List.getElem?_map]at h1;rw[Array.getElem?_toList,h2]at h1;simp at h1;subst h1;exact ahz v
 ·exact ahz v
section rel
variable {E:Env}{S:AS}{a:Act}{w:World}{β:Nat->Value}
def OR.lt{H:Nat->AO}{o:Nat}{ob:AO}(h:OR E w β H o ob){b:Nat}(hb:aa9 (β o)=some b)(hi:ob.is):b<w.heap.size∧E.own b:=by
 cases ob with
 | none=>exact hi.elim
 | box cs=>
  obtain⟨b',vs,ty,h1,h2,h3,_⟩:=h;rw[h1]at hb;simp[aa9]at hb;subst hb;exact⟨(Array.getElem?_eq_some_iff.1 h2).1,h3⟩
 | it ks f seen pend=>
  obtain⟨b',mb,sa,h1,h2,h3,_⟩:=h;rw[h1]at hb;simp[aa9]at hb;subst hb;exact⟨(Array.getElem?_eq_some_iff.1 h2).1,h3⟩
 | arr x t sz ver n f=>
  rcases h with⟨h1,_⟩|⟨g,cap,cur,h1,h2,_,_,_,_,h3,_⟩
  ·rw[h1]at hb;simp[aa9]at hb
  ·rw[h1]at hb;simp[aa9]at hb;subst hb;exact⟨(Array.getElem?_eq_some_iff.1 h2).1,h3⟩
def RelB.dIn{tmps:List AV}{H:Nat->AO}{a:Act}(h:RelB E tmps H a w β){b:Nat}(hb:E.D0 b):E.D w β H b:=
 ⟨.inl hb,Nat.lt_of_lt_of_le (E.hD b hb).1 h.frame.size,fun o hi hq=>((h.objs o).lt hq hi).2.elim (E.hD b hb).2 fun hn=>absurd (E.hD b hb).1 (Nat.not_lt.2 hn)⟩
def RelB.tab{tmps:List AV}{H:Nat->AO}{a:Act}(h:RelB E tmps H a w β):Tabs w:=
 afv E.hT fun b hb=>h.frame.block b (E.hD b (E.hTD b hb)).1 (E.hD b (E.hTD b hb)).2
def RelB.at(h:RelB E S.tmps S.obj a w β)(t:Nat):RX w (E.D w β S.obj) E.B β S.obj (S.tmp t) (a.tmps.getD t undef):=by
 unfold AS.tmp;rw[List.getD_eq_getElem?_getD];cases hq:S.tmps[t]? with
 | none=>exact .d (.any _)
 | some av=>exact h.tmps t av hq
def oS(h:RelB E S.tmps S.obj a w β){g:Option (Unit->Bool)}(hg:∀b,g=some b->b ()=true){x:Operand}{av:AV}(hy:Yld S (opd g x) av):
 RX w (E.D w β S.obj) E.B β S.obj av (a.eval x):=by
 cases x with
 | tmp t=>
  have h1:=h.at t;simp only[opd]at hy;replace hy:=hy.tmp;simp only[Act.eval];split at hy
  ·rename_i g' v' he;rw[he]at h1;split at hy
   ·rename_i gb;obtain⟨hc,hr⟩:=hy.cond;have:=hr.ret;subst this;exact h1.aeK (hc (hg gb rfl))
   ·have:=hy.ret;subst this;exact h1
  ·have:=hy.ret;subst this;exact h1
 | const v=>have:=hy.ret;subst this;exact .d (ams v)
 | global gl=>
  simp only[opd]at hy;split at hy
  ·rename_i e;cases Nat.eq_of_beq_eq_true e;have:=hy.ret;subst this;have hd:=h.dIn (E.hTD tabP (show(0:Nat)<9 by decide));have hp:=h.tab.p;refine .d (.eptr .any 5 (fun _=>1) _ (fun _=>0) 0 tabP 0 1 (by decide) (.slc .any 5 (fun _=>1) _ tabP 0 1 (fun k=>.string (ahu.getD k default)) (Nat.le_refl _) (by decide) hd trivial (fun k hk=>?_) (fun i hi=>rfl) (fun i hi=>rfl) (fun i j av hi hj=>?_)))
   ·have hk5:k<ahu.length:=hk;rw[Nat.zero_add];refine hp k _ ?_;rw[List.getD_eq_getElem?_getD,List.getElem?_eq_getElem hk5];rfl
   ·have:i=0:=by have:i<1:=hi;omega
    subst this
    match j,hj with
    | 0,hj=>cases hj;exact .str _
    | 1,hj=>cases hj;exact .str _
    | 2,hj=>cases hj;exact .str _
    | 3,hj=>cases hj;exact .str _
    | 4,hj=>cases hj;exact .str _
    | _+5,hj=>cases hj
  ·have:=hy.ret;subst this;exact .d (.any _)
 | func f=>have:=hy.ret;subst this;exact .d (.func f [] #[] rfl (fun i av v h=>by simp at h))
theorem abr(h:RelB E S.tmps S.obj a w β){g:Option (Unit->Bool)}(hg:∀b,g=some b->b ()=true):∀{xs:List Operand} {avs:List AV} (_:Yld S (opds g xs) avs),
 avs.length=xs.length∧∀(i:Nat) (av:AV) (x:Operand),avs[i]? = some av->xs[i]? = some x->RX w (E.D w β S.obj) E.B β S.obj av (a.eval x)
 | [],avs,hy=>by
  have:=hy.ret;subst this;exact⟨rfl,fun i av x h=>by simp at h⟩
 | x::xs,avs,hy=>by
  simp only[opds]at hy;obtain⟨v,h1,h2⟩:=hy.bind;obtain⟨vs,h3,h4⟩:=h2.bind;have:=h4.ret;subst this;obtain⟨i1,i2⟩:=abr h hg h3;refine⟨by simp[i1],fun i av y ha hb=>?_⟩;cases i with
  | zero=>simp at ha hb;subst ha;subst hb;exact oS h hg h1
  | succ i=>exact i2 i av y (by simpa using ha) (by simpa using hb)
def RelB.put(h:RelB E S.tmps S.obj a w β){av:AV}{v:Value}(hv:RX w (E.D w β S.obj) E.B β S.obj av v)(d:Option Tmp):
 RelB E (match d with|some d=>S.tmps.set d av|none=>S.tmps) S.obj (a.put d v) w β:=by
 cases d with
 | none=>exact h
 | some d=>
  refine⟨h.defers,by simp[Act.put,h.size],fun t av' ht=>?_,h.objs,h.apart,h.frame,h.pin⟩;simp only[List.getElem?_set]at ht;simp only[Act.put];split at ht
  ·rename_i e;subst e;split at ht
   ·rename_i hlt;simp at ht;subst ht;have:d<a.tmps.size:=by rw[h.size];exact hlt
    simpa[Array.getD,this]using hv
   ·cases ht
  ·rename_i e;have h1:=h.tmps t av' ht;have h2:(a.tmps.setIfInBounds d v).getD t undef=a.tmps.getD t undef:=by
    simp only[Array.getD_eq_getD_getElem?,Array.getElem?_setIfInBounds_ne e]
   rw[h2];exact h1
end rel
def putH(S:AS)(wo:List (Nat×AO)):Nat->AO:=oL (aaE S.objs wo)
def After(E:Env)(S:AS)(a:Act)(e:Eff)(v:Value)(w:World):Prop:=
 ∃β,RelB E S.tmps (putH S e.wo) a w β∧RX w (E.D w β (putH S e.wo)) E.B β (putH S e.wo) e.dst v
def Goes(P:Program)(E:Env)(S:AS)(a:Act)(w:World)(o:Oper)(e:Eff):Prop:=
 match(execOp a.eval o).run P w with
 | .ok (.value v) w'=>After E S a e v w'
 | .ok .skip w'=>After E S a e undef w'
 | .ok (.enter f args) w'=>Calls P f args w' (fun en w''=>∃v,en=.returned v∧After E S a e v w'')
 | _=>False
section
variable {P:Program}{E:Env}{S:AS}{a:Act}{w:World}{β:Nat->Value}{o:Oper}{e:Eff}
def Goes.value{v:Value}(hr:(execOp a.eval o).run P w=.ok (.value v) w)(h:RelB E S.tmps S.obj a w β)(hw:e.wo=[])(hx:RX w (E.D w β S.obj) E.B β S.obj e.dst v):Goes P E S a w o e:=by
 unfold Goes;rw[hr];have:putH S e.wo=S.obj:=by rw[hw];rfl
 exact⟨β,by rw[this];exact h,by rw[this];exact hx⟩
def vI{v:AV}{e:Eff}(h:Yld S (val v) e):e=⟨v,[],[],none⟩:=h.ret.symm
def aaO{T:List (Nat×TI)}{t:Nat}{k:TI->M Eff}{e:Eff}(hT:TOk P T)(h:Yld S (tl T t k) e):TIOk P t (aa3 T t)∧(aa3 T t).real=true∧Yld S (k (aa3 T t)) e:=by
 unfold tl at h;split at h
 ·rename_i hr;exact⟨hT.at t hr,hr,h⟩
 ·exact h.fail.elim
def yI{α:Type}{c:Prop}[Decidable c]{m:M α}{e:α}(h:Yld S (if c then m else .fail) e):c∧Yld S m e:=by
 split at h
 ·rename_i hc;exact⟨hc,h⟩
 ·exact h.fail.elim
variable {ti:TI}{t:Nat}
def ai6{cs:List AV}{off n j:Nat}{av:AV}(h:((cs.drop off).take n)[j]? = some av):j<n∧cs[off+j]? = some av:=by
 rw[List.getElem?_take]at h;split at h
 ·rename_i hj;exact⟨hj,by simpa using h⟩
 ·cases h
def ad1(h:TIOk P t ti)(hr:ti.real=true){b off:Nat}(c:Nat->Value)(hc:∀j,j<ti.size->w.cell? ⟨b,off+j,none⟩=some (c j)):
 (loadVar t ⟨b,off,none⟩).run P w=.ok (if ti.agg then .agg ((List.range ti.size).map c).toArray else c 0) w:=by
 have ha:=h.anL (w:=w) hr;have hs:=h.sizeOf (w:=w);unfold loadVar;by_cases hg:ti.agg=true
 ·rw[hg]at ha;have hl:=run_loadCells (P:=P) w ⟨b,off,none⟩ ti.size c (fun j hj=>by rw[Addr.add_lit];exact hc j hj);simp[ha,hs,hl,hg]
 ·have hg':ti.agg=false:=by simpa using hg
  rw[hg']at ha;have h0:=hc 0 (by rw[h.one hg'];omega);simp only[Nat.add_zero]at h0;have h2:(Sem.load Mode.plain ⟨b,off,none⟩ Sem.pure).run P w=.ok (c 0) w:=by simp only[Sem.run,h0]
  simp[ha,hg',load,h2]
def adK{D:Nat->Prop}{H:Nat->AO}{B:Nat}{cs:List AV}{off:Nat}{c:Nat->Value}(h1:ti.agg=false->ti.size=1)(hl:off+ti.size<=cs.length)
 (hc:∀(j:Nat) (av:AV),j<ti.size->cs[off+j]? = some av->RX w D B β H av (c j)):
 RX w D B β H (aaY ti cs off) (if ti.agg then .agg ((List.range ti.size).map c).toArray else c 0):=by
 unfold aaY;by_cases hg:ti.agg=true
 ·simp only[hg,if_true];refine .agg _ _ (by simp;omega) (fun i av v hi hv=>?_);obtain⟨hj,ha⟩:=ai6 hi;simp[hj]at hv;subst hv;exact hc i av hj ha
 ·have hg':ti.agg=false:=by simpa using hg
  have hs:=h1 hg';have hlt:off<cs.length:=by omega
  have:(cs.drop off).headD .any=cs[off]:=by
   rw[List.drop_eq_getElem_cons hlt];rfl
  simp only[hg',Bool.false_eq_true,if_false,this];exact hc 0 _ (by omega) (by simp[hlt])
def afO(ht:TIOk P t ti)(hr:ti.real=true)(h:RelB E S.tmps S.obj a w β){p:AV}{v:Value}(hp:RX w (E.D w β S.obj) E.B β S.obj p v)(hy:Yld S (ahI ti p) e):
 ∃u,(Instr.loadAt t v).run P w=.ok u w∧RX w (E.D w β S.obj) E.B β S.obj e.dst u∧e.wo=[]∧e.new=[]∧e.call=none:=by
 unfold ahI at hy;split at hy
 ·-- a box
  rename_i o off;have hy:=hy.obj;have ho:=h.objs o;split at hy
  ·rename_i cs hcs;rw[hcs]at ho;obtain⟨hl,hy⟩:=yI hy;obtain rfl:=vI hy;obtain⟨b,vs,ty,hβ,hh,_,hsz,hcells,_⟩:=ho;obtain⟨b',hβ',rfl⟩:=hp.aa6;rw[hβ]at hβ';simp at hβ';subst hβ';have hcell:∀j,j<ti.size->w.cell? ⟨b,off+j,none⟩=some (vs.getD (off+j) undef):=fun j hj=>by
    have hj':off+j<vs.size:=by omega
    simp[World.cell?,hh,Array.getD,hj']
   refine⟨_,by exact ad1 ht hr (fun j=>vs.getD (off+j) undef) hcell,adK ht.one hl (fun j av hj hav=>?_),rfl,rfl,rfl⟩;have hj':off+j<vs.size:=by omega
   exact hcells _ av _ hav (by simp[Array.getD,hj'])
  ·exact hy.fail.elim
 ·-- an element of data
  rename_i fr sz n f i off;obtain⟨hl,hy⟩:=yI hy;obtain rfl:=vI hy;obtain⟨b,o,cap,hi,hd,rfl⟩:=hp.acJ;generalize hq:Value.slice (some ⟨b,o,none⟩) (n ()) cap=q at hd;cases hd with
  | empty _ _ _ _ _ _ hn _=>omega
  | slc _ _ _ _ b' o' cap' c hn hc hD hB hcell hlen hone hel=>
   simp at hq;obtain⟨⟨rfl,rfl⟩,rfl⟩:=hq;have hbound:∀j,j<ti.size->i ()*sz+off+j<n ()*sz:=fun j hj=>by
    have:(i ()+1)*sz<=n ()*sz:=Nat.mul_le_mul_right _ hi;rw[Nat.add_mul]at this;omega
   have hcell':∀j,j<ti.size->w.cell? ⟨b,o+i ()*sz+off+j,none⟩=some (c (i ()*sz+(off+j))):=fun j hj=>by
    have:=hcell (i ()*sz+off+j) (hbound j hj);rw[show o+i ()*sz+off+j=o+(i ()*sz+off+j)from by omega,this,Nat.add_assoc]
   have hf:(f i)=f fun _=>i ():=rfl;refine⟨_,by exact ad1 ht hr (fun j=>c (i ()*sz+(off+j))) hcell',adK ht.one ?_ (fun j av hj hav=>?_),rfl,rfl,rfl⟩
   ·have:=hlen (i ()) hi;rw[hf];omega
   ·exact .d (hel (i ()) (off+j) av hi (by rw[hf]at hav;exact hav))
 ·-- an element of an own array
  rename_i o sz ver n i off;have hy:=hy.obj;have ho:=h.objs o;split at hy
  ·rename_i x ty sz' ver' n' f hcs;rw[hcs]at ho;obtain⟨hl,hy⟩:=yI hy;obtain rfl:=vI hy;simp at hl;obtain⟨⟨hsz,hver⟩,hl⟩:=hl;obtain⟨_,hi,hp⟩:=hp.aaF;obtain⟨_,hp⟩:=hp _ _ _ _ _ _ hcs;obtain⟨hn,hp⟩:=hp hver;obtain⟨g,cap,hβ,rfl⟩:=hp hsz;subst hsz;rcases ho with⟨hβ',_⟩|⟨g',cap',cur,hβ',hh,hc1,hc2,hc3,hx,hown,hel⟩
   ·rw[hβ]at hβ';simp at hβ'
   ·rw[hβ]at hβ';simp at hβ';obtain⟨rfl,hnn,rfl⟩:=hβ';have hbound:∀j,j<ti.size->i ()*sz+off+j<cur.size:=fun j hj=>by
     have:(i ()+1)*sz<=n ()*sz:=Nat.mul_le_mul_right _ hi;rw[Nat.add_mul]at this;have h2:n ()*sz<=cap*sz:=Nat.mul_le_mul_right _ (by omega);omega
    have hcell':∀j,j<ti.size->w.cell? ⟨g,i ()*sz+off+j,none⟩=some (cur.getD (i ()*sz+(off+j)) undef):=fun j hj=>by
     have h1:=hbound j hj;rw[Nat.add_assoc]at h1;simp[World.cell?,hh,Array.getD,Nat.add_assoc,h1]
    obtain⟨hlen,_,hcel⟩:=hel (i ()) (by omega);have hf:(f i)=f fun _=>i ():=rfl;refine⟨_,by exact ad1 ht hr (fun j=>cur.getD (i ()*sz+(off+j)) undef) hcell',adK ht.one ?_ (fun j av hj hav=>?_),rfl,rfl,rfl⟩
    ·rw[hf];omega
    ·refine .d (hcel (off+j) av _ (by rw[hf]at hav;exact hav) ?_);have h1:=hbound j hj;rw[Nat.add_assoc]at h1;simp[Array.getD,h1]
  ·exact hy.fail.elim
 ·exact hy.fail.elim
end
section
variable {P:Program}{E:Env}{S:AS}{a:Act}{w:World}{β:Nat->Value}{o:Oper}{e:Eff}{ti:TI}{t:Nat}{T:List (Nat×TI)}
def aau(E:Env)(S:AS)(w:World)(β:Nat->Value)(e:Eff)(r:Result Value):Prop:=
 ∃u,r=.ok u w∧RX w (E.D w β S.obj) E.B β S.obj e.dst u∧e.wo=[]∧e.new=[]∧e.call=none
def aeZ(ht:TIOk P t ti){p:AV}{v:Value}{i:Nat}(hp:RX w (E.D w β S.obj) E.B β S.obj p v)(hy:Yld S (ad8 ti p i) e):
 aau E S w β e ((Instr.fieldAt t v i).run P w):=by
 unfold ad8 adt at hy;split at hy
 ·rename_i off ft hfo;split at hfo
  ·rename_i fs hk;obtain⟨gs,hu,hfs,hpos⟩:=ht.struct hk;have hg:∃f,gs[i]? = some f∧f.offset=off:=by
    rw[<- hfs]at hfo;simp at hfo;obtain⟨f,h1,h2⟩:=hfo;exact⟨f,h1,h2.1⟩
   obtain⟨f,hf,hoff⟩:=hg;have hrun:∀(A:Addr),A.spot=none->(Instr.fieldAt t (.pointer (some A)) i).run P w=.ok (.pointer (some ⟨A.block,A.off+off,none⟩)) w:=by
    rintro⟨b,o,s⟩ hs;simp at hs;subst hs;obtain⟨fi,hfi,hfs⟩:=hpos f (Array.mem_toList_iff.2 (Array.mem_of_getElem? hf));simp[Instr.fieldAt,run_underlying hu,hf,Instr.sureAddr,fieldPlace,hoff,Addr.add_lit,sizeOf,typeInfo,hfi,hfs]
   split at hy
   ·rename_i b o;obtain rfl:=vI hy;obtain⟨b',hβ,rfl⟩:=hp.aa6;exact⟨_,hrun _ rfl,.ptr _ _ _ hβ,rfl,rfl,rfl⟩
   ·obtain rfl:=vI hy;obtain⟨b,o,cap,hi,hd,rfl⟩:=hp.acJ;exact⟨_,hrun _ rfl,by simpa[Nat.add_assoc]using RX.eptr _ _ _ _ _ _ _ _ _ hi hd,rfl,rfl,rfl⟩
   ·rename_i o sz ver n ix of;obtain rfl:=vI hy;obtain⟨⟨g,p,rfl⟩,hi,hd⟩:=hp.aaF;refine⟨_,hrun _ rfl,.aptr _ _ _ _ _ _ _ ⟨_,_,rfl⟩ hi (fun x t sz' ver' n' f hH=>?_),rfl,rfl,rfl⟩;obtain⟨h1,h2⟩:=hd x t sz' ver' n' f hH;refine⟨h1,fun e=>⟨(h2 e).1,fun e'=>?_⟩⟩;obtain⟨g',cap,h3,h4⟩:=(h2 e).2 e';simp at h4;obtain⟨rfl,rfl⟩:=h4;exact⟨g,cap,h3,by simp[Nat.add_assoc]⟩
   ·exact hy.fail.elim
  ·cases hfo
 ·exact hy.fail.elim
def abz{k:TI->M Eff}(hT:TOk P T)(h:Yld S (tl T t k) e):∃te,TIOk P t te∧te.real=true∧aa3 T t=te∧Yld S (k te) e:=
 let ⟨a,b,c⟩:=aaO hT h;⟨_,a,b,rfl,c⟩
def RD.aaJ{D:Nat->Prop}{B:Nat}{fr:FB}{sz:Nat}{n:Unit->Nat}{f:(Unit->Nat)->List AV}{v:Value}(h:RD w D B (.slc fr sz n f) v):∃p cap,v=.slice p (n ()) cap∧cap<=maxLen∧n ()<=cap∧(0<n ()->∃b o,p=some ⟨b,o,none⟩):=by
 cases h with
 | empty _ _ _ _ p cap hn hc=>exact⟨p,cap,by rw[hn],hc,by omega,fun h=>by omega⟩
 | slc _ _ _ _ b o cap c hn hc _ _ _ _ _ _=>exact⟨_,cap,rfl,hc,hn,fun _=>⟨b,o,rfl⟩⟩
def aeT(hT:TOk P T)(ht:TIOk P t ti){x i:AV}{v iv:Value}(hx:RX w (E.D w β S.obj) E.B β S.obj x v)(hi:RX w (E.D w β S.obj) E.B β S.obj i iv)
 (hy:Yld S (ad6 T ti x i) e):aau E S w β e ((Instr.indexAt t v iv).run P w):=by
 unfold ad6 at hy;split at hy
 ·rename_i k i;obtain rfl:=hi.aaq;split at hy
  ·rename_i el fr sz n f hk;have hu:=ht.slice hk;obtain⟨hc,hy⟩:=hy.cond;obtain⟨te,hte,_,_,hy⟩:=abz hT hy;obtain⟨hsz,hy⟩:=yI hy;obtain rfl:=vI hy;simp at hsz;have hd:=hx.aaJ;obtain⟨p,cap,rfl,_,_,hp⟩:=hd.aaJ;obtain⟨b,o,rfl⟩:=hp (by omega);have hs:=hte.sizeOf (w:=w);refine⟨.pointer (some ⟨b,o+(i ()).toNat*sz+0,none⟩),?_,.eptr _ _ _ _ _ _ _ _ _ (by omega) hd,rfl,rfl,rfl⟩;simp[Instr.indexAt,asIntOf,run_underlying hu,hc.1,hc.2,hs,hsz,Addr.add_lit]
  ·rename_i el ob ver n hk;have hu:=ht.slice hk;obtain⟨hc,hy⟩:=hy.cond;obtain⟨te,hte,_,_,hy⟩:=abz hT hy;obtain rfl:=vI hy;obtain⟨hv,hr⟩:=hx.aI;have hs:=hte.sizeOf (w:=w);rcases hv with⟨_,h0⟩|⟨b,cap,rfl,hc1,hc2⟩
   ·omega
   ·refine⟨.pointer (some ⟨b,0+(i ()).toNat*te.size,none⟩),?_,.aptr _ _ _ _ _ _ _ ⟨_,_,rfl⟩ (by omega) (fun x t sz' ver' n' f hH=>?_),rfl,rfl,rfl⟩
    ·simp[Instr.indexAt,asIntOf,run_underlying hu,hc.1,hc.2,hs,Addr.add_lit]
    ·obtain⟨h1,h2⟩:=hr x t sz' ver' n' f hH;refine⟨h1,fun e=>⟨(h2 e).1,fun _=>⟨b,cap,(h2 e).2.symm,by simp⟩⟩⟩
  ·rename_i el ob n hk;have hu:=ht.slice hk;split at hy
   ·rename_i j hj;obtain⟨hlt,hy⟩:=yI hy;obtain⟨te,hte,_,_,hy⟩:=abz hT hy;obtain rfl:=vI hy;obtain⟨b,hβ,rfl⟩:=hx.agQ;have hs:=hte.sizeOf (w:=w);refine⟨.pointer (some ⟨b,j*te.size,none⟩),?_,.ptr _ _ _ hβ,rfl,rfl,rfl⟩;have h0:(0:Int)<=Int.ofNat j:=Int.natCast_nonneg j;have h1:Int.ofNat j<(n:Int):=by simpa using hlt
    simp[Instr.indexAt,asIntOf,run_underlying hu,hj,hs,Addr.add_lit,hlt]
   ·exact hy.fail.elim
  ·rename_i n el ob off hk;have hu:=ht.array hk;split at hy
   ·rename_i j hj;obtain⟨hlt,hy⟩:=yI hy;obtain⟨te,hte,_,_,hy⟩:=abz hT hy;obtain rfl:=vI hy;obtain⟨b,hβ,rfl⟩:=hx.aa6;have hs:=hte.sizeOf (w:=w);refine⟨.pointer (some ⟨b,off+j*te.size,none⟩),?_,.ptr _ _ _ hβ,rfl,rfl,rfl⟩;have h0:(0:Int)<=Int.ofNat j:=Int.natCast_nonneg j;have h1:Int.ofNat j<(n:Int):=by simpa using hlt
    simp[Instr.indexAt,asIntOf,run_underlying hu,hj,Instr.sureAddr,hs,Addr.add_lit,hlt]
   ·exact hy.fail.elim
  ·exact hy.fail.elim
 ·exact hy.fail.elim
def amO(ht:TIOk P t ti){x:AV}{v:Value}{ty:TypeId}{rest:List TypeId}(hx:RX w (E.D w β S.obj) E.B β S.obj x v)(hy:Yld S (lenOp ti x) e):
 aau E S w β e ((Builtin.len_ (t::rest).toArray ty #[v]).run P w):=by
 unfold lenOp at hy;split at hy
 ·rename_i s hk;obtain rfl:=vI hy;obtain rfl:=hx.aaI;exact⟨_,by simp[Builtin.len_,run_underlying (ht.str hk),goInt],.d (.int _ _),rfl,rfl,rfl⟩
 ·rename_i el fr sz n f hk;obtain rfl:=vI hy;obtain⟨p,cap,rfl,_⟩:=hx.aaJ.aaJ;exact⟨_,by simp[Builtin.len_,run_underlying (ht.slice hk),goInt],.d (.int .i64 (fun _=>(n ():Int))),rfl,rfl,rfl⟩
 ·rename_i el ob ver n hk;obtain rfl:=vI hy;obtain⟨hv,_⟩:=hx.aI;rcases hv with⟨rfl,h0⟩|⟨g,cap,rfl,_⟩
  ·exact⟨.int .i64 (n ()),by simp[Builtin.len_,run_underlying (ht.slice hk),goInt,h0],.d (.int .i64 (fun _=>(n ():Int))),rfl,rfl,rfl⟩
  ·exact⟨_,by simp[Builtin.len_,run_underlying (ht.slice hk),goInt],.d (.int .i64 (fun _=>(n ():Int))),rfl,rfl,rfl⟩
 ·rename_i el hk;obtain rfl:=vI hy;obtain rfl:=hx.ab2;exact⟨_,by simp[Builtin.len_,run_underlying (ht.slice hk),goInt],.d (.int .i64 (fun _=>(0:Int))),rfl,rfl,rfl⟩
 ·rename_i el ob n hk;obtain rfl:=vI hy;obtain⟨b,_,rfl⟩:=hx.agQ;exact⟨_,by simp[Builtin.len_,run_underlying (ht.slice hk),goInt],.d (.int .i64 (fun _=>(n:Int))),rfl,rfl,rfl⟩
 ·exact hy.fail.elim
def akn{op:UnOp}{x:AV}{v:Value}(hx:RX w (E.D w β S.obj) E.B β S.obj x v)(hy:Yld S (alx op x) e):aau E S w β e ((Op.unary op v).run P w):=by
 unfold alx at hy;split at hy
 ·rename_i b;obtain rfl:=hx.aao;split at hy
  ·obtain rfl:=vI hy;exact⟨_,by simp[Op.unary],.d (.bool (fun _=>!b ())),rfl,rfl,rfl⟩
  ·exact hy.fail.elim
 ·rename_i k n;obtain rfl:=hx.aaq;split at hy
  ·obtain rfl:=vI hy;exact⟨.int k (k.wrap (0-n ())),by simp[Op.unary,Op.intArith],.d (.int k (fun _=>k.wrap (0-n ()))),rfl,rfl,rfl⟩
  ·exact hy.fail.elim
 ·exact hy.fail.elim
def akM{c x y:AV}{cv xv yv:Value}(hc:RX w (E.D w β S.obj) E.B β S.obj c cv)(hx:RX w (E.D w β S.obj) E.B β S.obj x xv)(hyv:RX w (E.D w β S.obj) E.B β S.obj y yv)(hy:Yld S (ama c x y) e):
 aau E S w β e ((do pure (if <- asBool cv then xv else yv):Sem Value).run P w):=by
 unfold ama at hy;split at hy
 ·rename_i c;obtain rfl:=hc.aao;obtain⟨x',h1,hy⟩:=hy.bind;obtain⟨y',h2,hy⟩:=hy.bind;have hx':c ()=true->RX w (E.D w β S.obj) E.B β S.obj x' xv:=by
   intro hcc;split at h1
   ·obtain⟨hi,h1⟩:=h1.cond;have:=h1.ret;subst this;exact hx.aeK (hi hcc)
   ·have:=h1.ret;subst this;exact hx
  have hy':c ()=false->RX w (E.D w β S.obj) E.B β S.obj y' yv:=by
   intro hcc;split at h2
   ·obtain⟨hi,h2⟩:=h2.cond;have:=h2.ret;subst this;exact hyv.aeK (hi hcc)
   ·have:=h2.ret;subst this;exact hyv
  split at hy
  ·rename_i _ _ b1 b2 _;obtain rfl:=vI hy;cases hcc:c ()with
   | true=>
    have:=(hx' hcc).aao;subst this;exact⟨.bool (b1 ()),by simp[asBool,hcc],by simpa[hcc]using RX.d (RD.bool (fun _=>if c ()=true then b1 ()else b2 ())),rfl,rfl,rfl⟩
   | false=>
    have:=(hy' hcc).aao;subst this;exact⟨.bool (b2 ()),by simp[asBool,hcc],by simpa[hcc]using RX.d (RD.bool (fun _=>if c ()=true then b1 ()else b2 ())),rfl,rfl,rfl⟩
  ·exact hy.fail.elim
 ·exact hy.fail.elim
def afN(k:IntKind)(x y:Int)(ts:Array TypeId)(ty:TypeId):(Builtin.min_ ts ty #[.int k x,.int k y]).run P w=.ok (.int k (if y<x then y else x)) w ∧
 (Builtin.max_ ts ty #[.int k x,.int k y]).run P w=.ok (.int k (if x<y then y else x)) w:=by
 constructor
 ·simp[Builtin.min_,Builtin.min2]
 ·simp[Builtin.max_,Builtin.max2]
end
def afh(a b:ByteArray):(a.toList==b.toList)=decide (a=b):=by
 rw[ByteArray.toList_eq,ByteArray.toList_eq,Bool.eq_iff_iff];simp only[beq_iff_eq,decide_eq_true_eq];refine⟨fun h=>?_,fun h=>by rw[h]⟩;cases a;cases b;exact congrArg ByteArray.mk (Array.toList_inj.1 h)
section
variable {P:Program}{E:Env}{S:AS}{a:Act}{w:World}{β:Nat->Value}{o:Oper}{e:Eff}{ti:TI}{t:Nat}{T:List (Nat×TI)}
def aj5(op:BinOp)(x y:Operand)(k k':IntKind)(m n:Int):(eqGuard op t x y (.int k m) (.int k' n)).run P w=.ok () w:=by
 cases op<;>simp[eqGuard]
def aj4(op:BinOp)(x y:Operand)(m n:ByteArray):(eqGuard op t x y (.string m) (.string n)).run P w=.ok () w:=by
 cases op<;>simp[eqGuard]
def ahW(op:BinOp)(x y:Operand)(m n:Bool):(eqGuard op t x y (.bool m) (.bool n)).run P w=.ok () w:=by
 cases op<;>simp[eqGuard]
def afY(hu:P.underlying t=some .bool)(x y:Bool):(Op.equal t (.bool x) (.bool y)).run P w=.ok (x==y) w:=run_equal_bool w t x y hu
def ahT{el:TypeId}(hu:P.underlying t=some (.slice el))(p:Option Addr)(n c d:Nat):(Op.equalIn (d+1) t (.slice p n c) (.slice none 0 0)).run P w=.ok p.isNone w:=by
 simp only[Op.equalIn,Sem.run_bind,run_underlying hu,Result.andThen_ok];cases p<;>simp
def ahU{el:TypeId}(hu:P.underlying t=some (.slice el))(p:Option Addr)(n c:Nat):(Op.equal t (.slice p n c) (.slice none 0 0)).run P w=.ok p.isNone w:=
 ahT hu p n c 9999
def ahR{el:TypeId}(hu:P.underlying t=some (.pointer el))(p:Addr)(d:Nat):(Op.equalIn (d+1) t (.pointer (some p)) (.pointer none)).run P w=.ok false w:=by
 simp only[Op.equalIn,Sem.run_bind,run_underlying hu,Result.andThen_ok];simp
def ahS{el:TypeId}(hu:P.underlying t=some (.pointer el))(p:Addr):(Op.equal t (.pointer (some p)) (.pointer none)).run P w=.ok false w:=
 ahR hu p 9999
def aji(ht:TIOk P t ti){op:BinOp}{x y:AV}{xv yv:Value}(xo yo:Operand)(hx:RX w (E.D w β S.obj) E.B β S.obj x xv)(hyv:RX w (E.D w β S.obj) E.B β S.obj y yv)(hy:Yld S (ajj ti op x y) e):
 aau E S w β e ((do eqGuard op t xo yo xv yv;binOp op t xv yv:Sem Value).run P w):=by
 unfold ajj at hy;split at hy
 ·rename_i k m k' n;obtain rfl:=hx.aaq;obtain rfl:=hyv.aaq;simp only[Sem.run_bind,aj5,Result.andThen_ok];cases op<;>simp only[]at hy
  ·replace hy:=yI hy;obtain⟨hkk,hy⟩:=hy;subst hkk;obtain rfl:=vI hy;exact⟨_,by simp[binOp,Op.intArith],.d (.int k (fun _=>k.wrap (m ()+n ()))),rfl,rfl,rfl⟩
  ·replace hy:=yI hy;obtain⟨hkk,hy⟩:=hy;subst hkk;obtain rfl:=vI hy;exact⟨_,by simp[binOp,Op.intArith],.d (.int k (fun _=>k.wrap (m ()-n ()))),rfl,rfl,rfl⟩
  ·replace hy:=yI hy;obtain⟨hkk,hy⟩:=hy;subst hkk;obtain rfl:=vI hy;exact⟨_,by simp[binOp,Op.intArith],.d (.int k (fun _=>k.wrap (m ()*n ()))),rfl,rfl,rfl⟩
  ·replace hy:=yI hy;obtain⟨hkk,hy⟩:=hy;subst hkk;obtain⟨hc,hy⟩:=hy.cond;obtain rfl:=vI hy;exact⟨_,by simp[binOp,Op.intDiv,hc],.d (.int k (fun _=>k.wrap ((m ()).tdiv (n ())))),rfl,rfl,rfl⟩
  ·replace hy:=yI hy;obtain⟨hkk,hy⟩:=hy;subst hkk;obtain⟨hc,hy⟩:=hy.cond;obtain rfl:=vI hy;exact⟨_,by simp[binOp,Op.intDiv,hc],.d (.int k (fun _=>(m ()).tmod (n ()))),rfl,rfl,rfl⟩
  ·replace hy:=yI hy;obtain⟨hkk,hy⟩:=hy;subst hkk;obtain rfl:=vI hy;exact⟨_,by simp[binOp,Op.intBits],.d (.int k (fun _=>k.wrap (BitVec.ofInt k.bits (m ()) &&& BitVec.ofInt k.bits (n ())).toNat)),rfl,rfl,rfl⟩
  ·replace hy:=yI hy;obtain⟨hkk,hy⟩:=hy;subst hkk;obtain rfl:=vI hy;exact⟨_,by simp[binOp,Op.intBits],.d (.int k (fun _=>k.wrap (BitVec.ofInt k.bits (m ()) ||| BitVec.ofInt k.bits (n ())).toNat)),rfl,rfl,rfl⟩
  ·replace hy:=yI hy;obtain⟨hkk,hy⟩:=hy;subst hkk;obtain rfl:=vI hy;exact⟨_,by simp[binOp,Op.intBits],.d (.int k (fun _=>k.wrap (BitVec.ofInt k.bits (m ()) ^^^ BitVec.ofInt k.bits (n ())).toNat)),rfl,rfl,rfl⟩
  ·obtain⟨hc,hy⟩:=hy.cond;obtain rfl:=vI hy;refine⟨.int k (k.wrap (m ()*2^(min (n ()).toNat k.bits))),?_,.d (.int k (fun _=>k.wrap (m ()*2^(min (n ()).toNat k.bits)))),rfl,rfl,rfl⟩;have:¬n ()<0:=by omega
   simp[binOp,Op.shift,this]
  ·obtain⟨hc,hy⟩:=hy.cond;obtain rfl:=vI hy;refine⟨.int k ((m ()).fdiv (2^(min (n ()).toNat k.bits))),?_,.d (.int k (fun _=>(m ()).fdiv (2^(min (n ()).toNat k.bits)))),rfl,rfl,rfl⟩;have:¬n ()<0:=by omega
   simp[binOp,Op.shift,this]
  ·replace hy:=yI hy;obtain⟨hkk,hy⟩:=hy;subst hkk;exact hy.fail.elim
  ·replace hy:=yI hy;obtain⟨hkk,hy⟩:=hy;subst hkk;obtain rfl:=vI hy;exact⟨.bool (m ()==n ()),by simp[binOp,Op.intCmp],.d (.bool (fun _=>m ()==n ())),rfl,rfl,rfl⟩
  ·replace hy:=yI hy;obtain⟨hkk,hy⟩:=hy;subst hkk;obtain rfl:=vI hy;exact⟨.bool (m () != n ()),by simp[binOp,Op.intCmp],.d (.bool (fun _=>m () != n ())),rfl,rfl,rfl⟩
  ·replace hy:=yI hy;obtain⟨hkk,hy⟩:=hy;subst hkk;obtain rfl:=vI hy;exact⟨.bool (decide (m ()<n ())),by simp[binOp,Op.intCmp],.d (.bool (fun _=>decide (m ()<n ()))),rfl,rfl,rfl⟩
  ·replace hy:=yI hy;obtain⟨hkk,hy⟩:=hy;subst hkk;obtain rfl:=vI hy;exact⟨.bool (decide (m ()<=n ())),by simp[binOp,Op.intCmp],.d (.bool (fun _=>decide (m ()<=n ()))),rfl,rfl,rfl⟩
  ·replace hy:=yI hy;obtain⟨hkk,hy⟩:=hy;subst hkk;obtain rfl:=vI hy;exact⟨.bool (decide (n ()<m ())),by simp[binOp,Op.intCmp],.d (.bool (fun _=>decide (n ()<m ()))),rfl,rfl,rfl⟩
  ·replace hy:=yI hy;obtain⟨hkk,hy⟩:=hy;subst hkk;obtain rfl:=vI hy;exact⟨.bool (decide (n ()<=m ())),by simp[binOp,Op.intCmp],.d (.bool (fun _=>decide (n ()<=m ()))),rfl,rfl,rfl⟩
 ·rename_i m n;obtain rfl:=hx.aaI;obtain rfl:=hyv.aaI;simp only[Sem.run_bind,aj4,Result.andThen_ok];split at hy
  ·obtain rfl:=vI hy;exact⟨_,by simp only[binOp,Op.stringOp];rfl,.d (by simp only[afh];exact .bool (fun _=>decide (m ()=n ()))),rfl,rfl,rfl⟩
  ·obtain rfl:=vI hy;exact⟨_,by simp only[binOp,Op.stringOp];rfl,.d (by simp only[afh];exact .bool (fun _=>!decide (m ()=n ()))),rfl,rfl,rfl⟩
  ·obtain rfl:=vI hy;exact⟨_,by simp only[binOp,Op.stringOp];rfl,.d (.bool (fun _=>Op.bytesLess (m ()).toList (n ()).toList)),rfl,rfl,rfl⟩
  ·obtain rfl:=vI hy;exact⟨_,by simp only[binOp,Op.stringOp];rfl,.d (.bool (fun _=>!(Op.bytesLess (m ()).toList (n ()).toList||(m ()).toList==(n ()).toList))),rfl,rfl,rfl⟩
  ·obtain rfl:=vI hy;exact⟨_,by simp only[binOp,Op.stringOp];rfl,.d (.bool (fun _=>Op.bytesLess (m ()).toList (n ()).toList||(m ()).toList==(n ()).toList)),rfl,rfl,rfl⟩
  ·obtain rfl:=vI hy;exact⟨_,by simp only[binOp,Op.stringOp];rfl,.d (.bool (fun _=>!Op.bytesLess (m ()).toList (n ()).toList)),rfl,rfl,rfl⟩
  ·obtain⟨hc,hy⟩:=hy.cond;obtain rfl:=vI hy;have hm:¬((((m ()).size+(n ()).size:Nat):Int)>IntKind.i64.max):=by
    have:IntKind.i64.max=9223372036854775807:=by decide
    rw[this];omega
   exact⟨_,by simp only[binOp,Op.stringOp,if_neg hm];rfl,.d (.str (fun _=>m ()++n ())),rfl,rfl,rfl⟩
  ·exact hy.fail.elim
 ·rename_i m n;obtain rfl:=hx.aao;obtain rfl:=hyv.aao;simp only[Sem.run_bind,ahW,Result.andThen_ok];split at hy
  ·rename_i hk;obtain rfl:=vI hy;exact⟨.bool (m ()==n ()),by simp[binOp,afY (ht.bool hk)],.d (.bool (fun _=>m ()==n ())),rfl,rfl,rfl⟩
  ·rename_i hk;obtain rfl:=vI hy;exact⟨.bool (m () != n ()),by simp[binOp,afY (ht.bool hk),bne],.d (.bool (fun _=>m () != n ())),rfl,rfl,rfl⟩
  ·exact hy.fail.elim
 ·rename_i o off;obtain⟨b,_,rfl⟩:=hx.aa6;obtain rfl:yv=.pointer none:=by cases hyv with|d h=>cases h;rfl
  have hg:(eqGuard op t xo yo (.pointer (some ⟨b,off,none⟩)) (.pointer none)).run P w=.ok () w:=by cases op<;>simp[eqGuard]
  simp only[Sem.run_bind,hg,Result.andThen_ok];split at hy
  ·rename_i hk;obtain rfl:=vI hy;exact⟨.bool false,by simp[binOp,ahS (ht.pointer hk)],.d (.bool (fun _=>false)),rfl,rfl,rfl⟩
  ·rename_i hk;obtain rfl:=vI hy;exact⟨.bool true,by simp[binOp,ahS (ht.pointer hk)],.d (.bool (fun _=>true)),rfl,rfl,rfl⟩
  ·exact hy.fail.elim
 ·split at hy
  ·rename_i n hs;obtain rfl:=hyv.ab2;have hv:∃p c,xv=.slice p (n ()) c∧(p=none->n ()=0):=by
    unfold lenA at hs;split at hs
    ·simp only[Option.some.injEq]at hs;subst hs;rename_i m _;obtain⟨p,cap,rfl,_,_,hp⟩:=hx.aaJ.aaJ;refine⟨_,_,rfl,fun h=>?_⟩;rcases Nat.eq_zero_or_pos (m ())with h0|h0
     ·exact h0
     ·obtain⟨b,o,h1⟩:=hp h0;rw[h]at h1;cases h1
    ·simp only[Option.some.injEq]at hs;subst hs;rcases hx.aI.1 with⟨rfl,h0⟩|⟨g,cap,rfl,_⟩
     ·exact⟨none,0,by rw[h0],fun _=>h0⟩
     ·exact⟨_,_,rfl,fun h=>by cases h⟩
    ·simp only[Option.some.injEq]at hs;subst hs;exact⟨_,_,hx.ab2,fun _=>rfl⟩
    ·cases hs
   obtain⟨p,c,rfl,hp⟩:=hv;have hg:(eqGuard op t xo yo (.slice p (n ()) c) (.slice none 0 0)).run P w=.ok () w:=by cases op<;>simp[eqGuard]
   simp only[Sem.run_bind,hg,Result.andThen_ok];split at hy
   ·rename_i hk;obtain rfl:=vI hy;exact⟨.bool p.isNone,by simp[binOp,ahU (ht.slice hk)],.d (.anyb _ _ _ (fun h=>hp (by simpa using h)) (fun _=>trivial)),rfl,rfl,rfl⟩
   ·rename_i hk;obtain rfl:=vI hy;exact⟨.bool (!p.isNone),by simp[binOp,ahU (ht.slice hk)],.d (.anyb _ _ _ (fun _=>trivial) (fun h=>hp (by simpa using h))),rfl,rfl,rfl⟩
   ·exact hy.fail.elim
  ·exact hy.fail.elim
 ·exact hy.fail.elim
def acC{cs new:List AV}{off:Nat}(h:off+new.length<=cs.length):(splice cs off new).length=cs.length:=by
 simp[splice];omega
def akx{sz off:Nat}{f:Unit->List AV}{new:List AV}(h:(f ()).length=sz):aiu sz f off new=splice (f ()) off new:=by
 unfold aiu;split
 ·rename_i q;simp only[Bool.and_eq_true,beq_iff_eq]at q;obtain⟨rfl,q⟩:=q;unfold splice;rw[List.drop_eq_nil_of_le (by omega)];simp
 ·rfl
def aer{D:Nat->Prop}{B:Nat}{H:Nat->AO}{x:AV}{v:Value}(hx:RX w D B β H x v)(hc:x.cells.all AV.cell=true):
 x.cells.length=v.cells.size∧∀(i:Nat) (av:AV) (u:Value),x.cells[i]? = some av->v.cells[i]? = some u->RX w D B β H av u:=by
 have one:∀(x:AV) (v:Value),RX w D B β H x v->x.cells=[x]->v.cells=#[v]->x.cells.length=v.cells.size∧∀(i:Nat) (av:AV) (u:Value),x.cells[i]? = some av->v.cells[i]? = some u->RX w D B β H av u:=by
  intro x v hx h1 h2;rw[h1,h2];refine⟨rfl,fun i av u hi hu=>?_⟩;cases i with
  | zero=>simp at hi hu;subst hi;subst hu;exact hx
  | succ i=>simp at hi
 cases x with
 | agg cs=>
  obtain⟨vs,rfl,hl,hel⟩:=hx.afk;exact⟨hl,hel⟩
 | int k n=>have:=hx.aaq;subst this;exact one _ _ hx rfl rfl
 | bool b=>have:=hx.aao;subst this;exact one _ _ hx rfl rfl
 | str s=>have:=hx.aaI;subst this;exact one _ _ hx rfl rfl
 | nil=>have:=hx.ab2;subst this;exact one _ _ hx rfl rfl
 | nilf=>have:=hx.aen;subst this;exact one _ _ hx rfl rfl
 | nilp=>cases hx with|d h=>cases h;exact one _ _ (.d .nilp) rfl rfl
 | tnil t=>cases hx with|d h=>cases h;exact one _ _ (.d (.tnil t)) rfl rfl
 | nilm=>cases hx with|d h=>cases h;exact one _ _ (.d .nilm) rfl rfl
 | anyb t f=>obtain⟨b,rfl,_⟩:=hx.agW;exact one _ _ hx rfl rfl
 | ifc n=>rcases hx.agD with⟨_,rfl⟩|⟨_,_,_,rfl⟩<;>exact one _ _ hx rfl rfl
 | slc fr sz n f=>obtain⟨p,cap,rfl,_⟩:=hx.aaJ.aaJ;exact one _ _ hx rfl rfl
 | func fn cs=>obtain⟨vs,rfl,_⟩:=hx.abL;exact one _ _ hx rfl rfl
 | ptr o off=>obtain⟨b,_,rfl⟩:=hx.aa6;exact one _ _ hx rfl rfl
 | eptr fr sz n f i off=>obtain⟨b,o,cap,_,_,rfl⟩:=hx.acJ;exact one _ _ hx rfl rfl
 | fmap es=>obtain⟨b,_,_,rfl,_⟩:=hx.agI;exact one _ _ hx rfl rfl
 | kmap ks f=>rcases hx.agA with⟨rfl,_⟩|⟨b,_,_,rfl,_⟩<;>exact one _ _ hx rfl rfl
 | kmaps n ks f=>simp[AV.cells,AV.cell]at hc
 | aptr o sz ver n i off=>obtain⟨⟨g,p,rfl⟩,_⟩:=hx.aaF;exact one _ _ hx rfl rfl
 | aref o ver n=>
  obtain⟨hv,_⟩:=hx.aI;rcases hv with⟨rfl,_⟩|⟨g,cap,rfl,_⟩
  ·exact one _ _ hx rfl rfl
  ·exact one _ _ hx rfl rfl
 | any=>simp[AV.cells,AV.cell]at hc
 | val v=>simp[AV.cells,AV.cell]at hc
 | tup vs=>simp[AV.cells,AV.cell]at hc
 | nxt t f=>simp[AV.cells,AV.cell]at hc
 | may g v=>simp[AV.cells,AV.cell]at hc
 | bref o n=>simp[AV.cells,AV.cell]at hc
 | bptr fn o=>obtain⟨b,_,rfl⟩:=hx.aeu;exact one _ _ hx rfl rfl
def ak9{D:Nat->Prop}{B:Nat}{H:Nat->AO}{x:AV}{v:Value}(hx:RX w D B β H x v)(hc:x.cell=true):v.oneCell'=true:=by
 cases x with
 | int k n=>have:=hx.aaq;subst this;rfl
 | bool b=>have:=hx.aao;subst this;rfl
 | str s=>have:=hx.aaI;subst this;rfl
 | nil=>have:=hx.ab2;subst this;rfl
 | nilf=>have:=hx.aen;subst this;rfl
 | nilp=>cases hx with|d h=>cases h;rfl
 | tnil t=>cases hx with|d h=>cases h;rfl
 | nilm=>cases hx with|d h=>cases h;rfl
 | anyb t f=>obtain⟨b,rfl,_⟩:=hx.agW;rfl
 | ifc n=>rcases hx.agD with⟨_,rfl⟩|⟨_,_,_,rfl⟩<;>rfl
 | slc fr sz n f=>obtain⟨p,cap,rfl,_⟩:=hx.aaJ.aaJ;rfl
 | func fn cs=>obtain⟨vs,rfl,_⟩:=hx.abL;rfl
 | ptr o off=>obtain⟨b,_,rfl⟩:=hx.aa6;rfl
 | eptr fr sz n f i off=>obtain⟨b,o,cap,_,_,rfl⟩:=hx.acJ;rfl
 | fmap es=>obtain⟨b,_,_,rfl,_⟩:=hx.agI;rfl
 | kmap ks f=>rcases hx.agA with⟨rfl,_⟩|⟨b,_,_,rfl,_⟩<;>rfl
 | kmaps n ks f=>simp[AV.cell]at hc
 | aptr o sz ver n i off=>obtain⟨⟨g,p,rfl⟩,_⟩:=hx.aaF;rfl
 | aref o ver n=>
  obtain⟨hv,_⟩:=hx.aI;rcases hv with⟨rfl,_⟩|⟨g,cap,rfl,_⟩<;>rfl
 | agg cs=>simp[AV.cell]at hc
 | val v=>simp[AV.cell]at hc
 | any=>simp[AV.cell]at hc
 | tup vs=>simp[AV.cell]at hc
 | nxt t f=>simp[AV.cell]at hc
 | may g v=>simp[AV.cell]at hc
 | bref o n=>simp[AV.cell]at hc
 | bptr fn o=>obtain⟨b,_,rfl⟩:=hx.aeu;rfl
def acH{vs:Array Value}{i:Nat}(h:i<vs.size):vs[i]? = some (vs.getD i undef):=by simp[Array.getD,h]
def agJ{x:AV}{v:Value}{k:Nat}{e:Eff}(hx:RX w (E.D w β S.obj) E.B β S.obj x v)
 (hy:Yld S (match x with|.tup vs=>(match vs[k]? with|some v=>val v|none=>.fail)|.nxt t f=>(match k with|0=>val (.anyb t f)|_=>.fail)|_=>.fail) e):aau E S w β e ((Instr.extract v k).run P w):=by
 split at hy
 ·rename_i vs;obtain⟨us,rfl,hl,hel⟩:=hx.aly;split at hy
  ·rename_i av hav;obtain rfl:=vI hy;have hlt:k<us.size:=by
    have:=(List.getElem?_eq_some_iff.1 hav).1;omega
   exact⟨us[k],by simp[Instr.extract,hlt],hel k av _ hav (by simp[hlt]),rfl,rfl,rfl⟩
  ·exact hy.fail.elim
 ·obtain⟨b,us,rfl,hb,ht,hf⟩:=hx.nxt_inv;split at hy
  ·obtain rfl:=vI hy;exact⟨.bool b,by simp[Instr.extract,hb],.d (.anyb _ _ b ht hf),rfl,rfl,rfl⟩
  ·exact hy.fail.elim
 ·exact hy.fail.elim
def acE(hte:TIOk P t ti)(hr:ti.real=true){cs:Array Value}{off:Nat}(hl:off+ti.size<=cs.size):
 (part t cs off).run P w=.ok (if ti.agg then .agg ((List.range ti.size).map fun j=>cs.getD (off+j) undef).toArray else cs.getD off undef) w:=by
 have ha:=hte.anL (w:=w) hr;have hs:=hte.sizeOf (w:=w);unfold part;by_cases hg:ti.agg=true
 ·rw [hg]at ha;have he:cs.extract off (off+ti.size)=((List.range ti.size).map fun j=>cs.getD (off+j) undef).toArray:=by
   apply Array.ext
   ·simp;omega
   ·intro i h1 h2;simp at h1 h2;have:off+i<cs.size:=by omega
    simp[Array.getD,this]
  simp only[Sem.run_bind,ha,Result.andThen_ok,if_true,hs,hg,he];simp
 ·have hg':ti.agg=false:=by simpa using hg
  rw[hg']at ha;have hone:=hte.one hg';have hlt:off<cs.size:=by omega
  simp[ha,hlt,Array.getD,hg']
def aj3(hT:TOk P T)(ht:TIOk P t ti){x:AV}{v:Value}{i:Nat}(hx:RX w (E.D w β S.obj) E.B β S.obj x v)
 (hy:Yld S (match x,adt ti i with|.agg cs,some (off,ft)=>tl T ft fun fi=>if off+fi.size<=cs.length then val (aaY fi cs off)else .fail|_,_=>.fail) e):
 aau E S w β e ((Instr.field t v i).run P w):=by
 split at hy
 ·rename_i cs off ft hfo;unfold adt at hfo;split at hfo
  ·rename_i fs hk;obtain⟨gs,hu,hfs,hpos⟩:=ht.struct hk;obtain⟨te,hte,hreal,hq,hy⟩:=abz hT hy;obtain⟨hl,hy⟩:=yI hy;obtain rfl:=vI hy;obtain⟨vs,rfl,hsz,hel⟩:=hx.afk;have hg:∃f,gs[i]? = some f∧f.offset=off∧f.type=ft:=by
    rw[<- hfs]at hfo;simp at hfo;obtain⟨f,h1,h2,h3⟩:=hfo;exact⟨f,h1,h2,h3⟩
   obtain⟨f,hf,rfl,rfl⟩:=hg;have hp:=acE (w:=w) hte hreal (cs:=vs) (off:=f.offset) (by omega);refine⟨_,by simp[Instr.field,run_underlying hu,hf,asAgg];exact hp,?_,rfl,rfl,rfl⟩;refine adK (c:=fun j=>vs.getD (f.offset+j) undef) hte.one hl (fun j av hj hav=>hel _ av _ hav (acH (by omega)))
  ·cases hfo
 ·exact hy.fail.elim
theorem acL(cs:List AV)(sz j:Nat):∀n,(column cs sz j n).length=n
 | 0=>rfl
 | n+1=>by simp[column,acL cs sz j n]
theorem adV(cs:List AV)(sz j:Nat):∀(n q:Nat),q<n->(column cs sz j n).getD q .any=cs.getD (q*sz+j) .any
 | 0,q,h=>by omega
 | n+1,q,h=>by
  have hl:=acL cs sz j n;simp only[column];by_cases hq:q<n
  ·rw[<- adV cs sz j n q hq,List.getD_eq_getElem?_getD,List.getElem?_append_left (by omega),<- List.getD_eq_getElem?_getD]
  ·have:q=n:=by omega
   subst this;rw[List.getD_eq_getElem?_getD,List.getElem?_append_right (by omega),hl];simp
theorem ag8{k:IntKind}:∀{cs:List AV} {q:Nat},aki k cs=true->q<cs.length->∃f,cs.getD q .any=.int k f
 | [],_,_,h=>by simp at h
 | c::r,q,h,hq=>by
  cases c<;>simp[aki]at h;obtain⟨h1,h2⟩:=h;subst h1;cases q with
  | zero=>exact⟨_,rfl⟩
  | succ q=>exact ag8 (cs:=r) h2 (by simpa using hq)
theorem afj:∀{cs:List AV} {q:Nat},agX cs=true->q<cs.length->∃f,cs.getD q .any=.bool f
 | [],_,_,h=>by simp at h
 | c::r,q,h,hq=>by
  cases c<;>simp[agX]at h;cases q with
  | zero=>exact⟨_,rfl⟩
  | succ q=>exact afj (cs:=r) h (by simpa using hq)
theorem ag7:∀{cs:List AV} {q:Nat},akh cs=true->q<cs.length->∃f,cs.getD q .any=.str f
 | [],_,_,h=>by simp at h
 | c::r,q,h,hq=>by
  cases c<;>simp[akh]at h;cases q with
  | zero=>exact⟨_,rfl⟩
  | succ q=>exact ag7 (cs:=r) h (by simpa using hq)
def afy{D:Nat->Prop}{B:Nat}{H:Nat->AO}{cs:List AV}{i:Unit->Int}{v:Value}(hi:(i ()).toNat<cs.length)(h:RX w D B β H (cs.getD (i ()).toNat .any) v):RX w D B β H (aaP cs i) v:=by
 match cs,hi,h with
 | [],hi,_=>simp at hi
 | c::r,hi,h=>
  generalize hcs:c::r=cs at hi h;have e:aaP cs i=aaP (c::r) i:=by rw[hcs]
  rw[e];cases c with
  | int k f0=>
   simp only[aaP,hcs];split
   ·rename_i hall;obtain⟨f,hf⟩:=ag8 hall hi;rw[hf]at h;rw[h.aaq];have e2:f ()=(fun _:Unit=>pickI cs (i ()).toNat) ():=by simp only[pickI,hf]
    rw[e2];exact .d (.int k (fun _=>pickI cs (i ()).toNat))
   ·exact .d (.any _)
  | bool f0=>
   simp only[aaP,hcs];split
   ·rename_i hall;obtain⟨f,hf⟩:=afj hall hi;rw[hf]at h;rw[h.aao];have e2:f ()=(fun _:Unit=>pickB cs (i ()).toNat) ():=by simp only[pickB,hf]
    rw[e2];exact .d (.bool (fun _=>pickB cs (i ()).toNat))
   ·exact .d (.any _)
  | str f0=>
   simp only[aaP,hcs];split
   ·rename_i hall;obtain⟨f,hf⟩:=ag7 hall hi;rw[hf]at h;rw[h.aaI];have e2:f ()=(fun _:Unit=>am9 cs (i ()).toNat) ():=by simp only[am9,hf]
    rw[e2];exact .d (.str (fun _=>am9 cs (i ()).toNat))
   ·exact .d (.any _)
  | _=>exact .d (.any _)
def aj1(hT:TOk P T)(ht:TIOk P t ti){x i:AV}{v iv:Value}(hx:RX w (E.D w β S.obj) E.B β S.obj x v)(hi:RX w (E.D w β S.obj) E.B β S.obj i iv)
 (hy:Yld S (aj2 T ti x i) e):aau E S w β e ((Instr.index t v iv).run P w):=by
 unfold aj2 at hy;split at hy
 ·rename_i k i;obtain rfl:=hi.aaq;split at hy
  ·rename_i s hk;have hu:=ht.str hk;obtain⟨hc,hy⟩:=hy.cond;obtain rfl:=vI hy;obtain rfl:=hx.aaI;have hlt:(i ()).toNat<(s ()).data.size:=by have h2:i ()<((s ()).data.size:Int):=hc.2;omega
   refine⟨.int .u8 ((((s ()).data[(i ()).toNat]?).getD 0).toNat),?_,.d (.int _ _),rfl,rfl,rfl⟩;have hget:(s ())[(i ()).toNat]? = some ((s ()).data[(i ()).toNat]):=by
    rw[getElem?_pos (s ()) (i ()).toNat (by exact hlt)];rfl
   have hg2:(s ()).data[(i ()).toNat]? = some ((s ()).data[(i ()).toNat]):=Array.getElem?_eq_getElem hlt;simp only[hg2,Option.getD_some];simp[Instr.index,asIntOf,run_underlying hu,hc.1,hget]
  ·rename_i n el cs hk;have hu:=ht.array hk;obtain⟨te,hte,hreal,_,hy⟩:=abz hT hy;have hs:=hte.sizeOf (w:=w);obtain⟨vs,rfl,hl,hel⟩:=hx.afk;split at hy
   ·split at hy
    ·rename_i j hj;replace hy:=yI hy;obtain⟨hlt,hy⟩:=hy;replace hy:=yI hy;obtain⟨hle,hy⟩:=hy;obtain rfl:=vI hy;have hp:=acE (w:=w) hte hreal (cs:=vs) (off:=j*te.size) (by omega);refine⟨_,?_,adK (c:=fun i=>vs.getD (j*te.size+i) undef) hte.one hle (fun i av hi hav=>hel _ av _ hav (acH (by omega))),rfl,rfl,rfl⟩;simpa[Instr.index,asIntOf,run_underlying hu,hj,hs,hlt]using hp
    ·exact hy.fail.elim
   ·split at hy
    ·rename_i j hj;replace hy:=yI hy;obtain⟨hlt,hy⟩:=hy;replace hy:=yI hy;obtain⟨hle,hy⟩:=hy;obtain rfl:=vI hy;have hp:=acE (w:=w) hte hreal (cs:=vs) (off:=j*te.size) (by omega);refine⟨_,?_,adK (c:=fun i=>vs.getD (j*te.size+i) undef) hte.one hle (fun i av hi hav=>hel _ av _ hav (acH (by omega))),rfl,rfl,rfl⟩;simpa[Instr.index,asIntOf,run_underlying hu,hj,hs,hlt]using hp
    ·exact hy.fail.elim
   ·replace hy:=yI hy;obtain⟨hle,hy⟩:=hy;obtain⟨hc,hy⟩:=hy.cond;obtain rfl:=vI hy;obtain⟨q,hq⟩:∃q:Nat,i ()=q:=⟨(i ()).toNat,by omega⟩
    have hqn:q<n:=by omega
    have hbound:q*te.size+te.size<=n*te.size:=by
     have:(q+1)*te.size<=n*te.size:=Nat.mul_le_mul_right _ hqn;rw[Nat.add_mul]at this;omega
    have hp:=acE (w:=w) hte hreal (cs:=vs) (off:=q*te.size) (by omega);have hcell:∀j,j<te.size->RX w (E.D w β S.obj) E.B β S.obj (aaP (column cs te.size j n) i) (vs.getD (q*te.size+j) undef):=fun j hj=>by
     have hcl:=acL cs te.size j n;refine afy (by rw[hq,hcl];simpa using hqn) ?_;rw[hq,Int.toNat_natCast,adV _ _ _ _ _ hqn];have hlt:q*te.size+j<cs.length:=by omega
     rw[List.getD_eq_getElem?_getD,List.getElem?_eq_getElem hlt];exact hel _ _ _ (List.getElem?_eq_getElem hlt) (acH (by omega))
    refine⟨_,by simpa[Instr.index,asIntOf,run_underlying hu,hq,hs,hqn]using hp,?_,rfl,rfl,rfl⟩;by_cases hg:te.agg=true
    ·simp only[hg,if_true];refine .agg _ _ (by simp[abK]) (fun j av u hj hu=>?_);simp only[abK,List.getElem?_map]at hj;cases hr:(List.range te.size)[j]? with
     | none=>rw[hr]at hj;simp at hj
     | some j'=>
      rw[hr]at hj;obtain⟨hjl,hjj⟩:=List.getElem?_eq_some_iff.1 hr;simp at hjl hjj hj;subst hjj;subst hj;simp[hjl]at hu;subst hu;have:=hcell j hjl
      rwa [Array.getD_eq_getD_getElem?]at this
    ·have hg':te.agg=false:=by simpa using hg
     simp only[hg',Bool.false_eq_true,if_false];have:=hcell 0 (by rw[hte.one hg'];omega);simpa using this
  ·rename_i n el m ks f hk;have hu:=ht.array hk;replace hy:=yI hy;obtain⟨rfl,hy⟩:=hy;obtain⟨te,hte,hreal,_,hy⟩:=abz hT hy;have hs:=hte.sizeOf (w:=w);split at hy
   ·rename_i kk ke hmk;obtain⟨hc,hy⟩:=hy.cond;obtain rfl:=vI hy;obtain⟨vs,rfl,hl,hel⟩:=hx.asn;have hag:te.agg=false:=by unfold TI.agg;rw[hmk]
    have h1:=hte.one hag;obtain⟨q,hq⟩:∃q:Nat,i ()=q:=⟨(i ()).toNat,by omega⟩
    have hqn:q<n:=by omega
    have hp:=acE (w:=w) hte hreal (cs:=vs) (off:=q*te.size) (by rw[h1,hl];omega);refine⟨_,by simpa[Instr.index,asIntOf,run_underlying hu,hq,hs,hqn]using hp,?_,rfl,rfl,rfl⟩;have e:(fun(_:Unit)=>(i ()).toNat)=fun _=>q:=by funext _;rw[hq];rfl
    rw[e];simp only[hag,Bool.false_eq_true,if_false,h1,Nat.mul_one];have hg:vs[q]? = some (vs.getD q undef):=acH (by rw[hl];exact hqn);rw[Array.getD_eq_getD_getElem?]at hg;exact .d (hel q _ (by simpa using hg))
   ·exact hy.fail.elim
  ·exact hy.fail.elim
 ·exact hy.fail.elim
theorem afV{ents:Array MapEntry}{n:Nat}{v:AV}:∀{es:List (Nat×AV)} {k:Nat},es.length+k=ents.size->(∀(i k':Nat) (av:AV) (e:MapEntry),es[i]? = some (k',av)->ents[k+i]? = some e->e.key=.int .i64 k') ->
 ak2 es n=some v->∃i e,ents[k+i]? = some e∧es[i]? = some (n,v)∧Instr.findNow (.int .i64) (.int .i64 n) (ents.toList.drop k) k=some (some (k+i,e.val))
 | [],k,hl,hk,h=>by cases h
 | (j,u)::r,k,hl,hk,h=>by
  have hlt:k<ents.size:=by simp at hl;omega
  have hg:ents[k]? = some ents[k]:=Array.getElem?_eq_getElem hlt;have hk0:=hk 0 j u ents[k] rfl (by simpa using hg);have hd:ents.toList.drop k=ents[k]::ents.toList.drop (k+1):=by rw[List.drop_eq_getElem_cons (by simpa using hlt)];simp
  simp only[ak2]at h;split at h
  ·rename_i hb;have hb:=Nat.eq_of_beq_eq_true hb;subst hb;simp only[Option.some.injEq]at h;subst h;refine⟨0,ents[k],by simpa using hg,rfl,?_⟩;rw[hd];simp[Instr.findNow,hk0,Instr.sameNow]
  ·rename_i hb;have hne:n≠j:=fun e=>by subst e;simp at hb
   obtain⟨i,e,h1,h2,h3⟩:=afV (ents:=ents) (es:=r) (k:=k+1) (by simp only[List.length_cons]at hl;omega) (fun i k' av e g1 g2=>hk (i+1) k' av e (by simpa using g1) (by rw[show k+(i+1)=k+1+i by omega];exact g2)) h;refine⟨i+1,e,by rw[show k+(i+1)=k+1+i by omega];exact h1,by simpa using h2,?_⟩;rw[hd];have:¬((n:Int)==(j:Int))=true:=by simp;omega
   simp only[Instr.findNow,hk0,Instr.sameNow,if_true,this];rw[h3];congr 3;omega
def ai4{k:TypeId}{kd:IntKind}{b:Bool}{i:Int}(hu:P.underlying k=some (.int kd))(n:Nat):(Instr.checkKey b (n+1) k (.int .i64 i)).run P w=.ok () w:=by
 simp only[Instr.checkKey,Sem.run_bind,run_underlying hu,Result.andThen_ok];rfl
def ahG(hT:TOk P T)(ht:TIOk P t ti){x i:AV}{v iv:Value}(hx:RX w (E.D w β S.obj) E.B β S.obj x v)(hi:RX w (E.D w β S.obj) E.B β S.obj i iv)
 (hy:Yld S (aep T ti x i) e):aau E S w β e ((Instr.lookup t v iv false).run P w):=by
 unfold aep at hy;split at hy
 ·rename_i k el es i hk;have hu:=ht.map hk;obtain rfl:=hi.aaq;obtain⟨b,clock,ents,rfl,hb,hl,hkeys,hvals⟩:=hx.agI;split at hy
  ·rename_i j hj;obtain⟨tk,htk,hreal,_,hy⟩:=abz hT hy;split at hy
   ·rename_i hki;have huk:=htk.int hki;split at hy
    ·rename_i u hlook;obtain rfl:=vI hy;obtain⟨q,e,h1,h2,h3⟩:=afV (ents:=ents) (k:=0) (by simpa using hl) (fun i k' av e g1 g2=>hkeys i k' av e g1 (by simpa using g2)) hlook;simp only[Nat.zero_add,List.drop_zero]at h1 h3;refine⟨e.val,?_,.d (hvals q j u e h2 h1),rfl,rfl,rfl⟩;have hg:(getObj b).run P w=.ok (.map ents clock) w:=by simp[getObj,Sem.run,hb]
     have hc:(Instr.checkKey ents.isEmpty 10000 k (.int .i64 (i ()))).run P w=.ok () w:=by
      exact ai4 huk 9999
     have hf:(Instr.findKey k (.int .i64 (i ())) ents.toList).run P w=.ok (some (q,e.val)) w:=by
      rw[hj];simp only[Instr.findKey,Sem.run_bind,run_underlying huk,Result.andThen_ok];rw[show Int.ofNat j=(j:Int)from rfl,h3];rfl
     simp[Instr.lookup,run_underlying hu,hg,hc,hf]
    ·exact hy.fail.elim
   ·exact hy.fail.elim
  ·exact hy.fail.elim
 ·exact hy.fail.elim
def afq{f:FuncId}{caps:Array Operand}{g:Option (Unit->Bool)}(h:RelB E S.tmps S.obj a w β)(hg:∀b,g=some b->b ()=true)
 (hy:Yld S ((opds g caps.toList).bind fun cs=>if cs.all AV.cell then val (.func f cs)else .fail) e):
 aau E S w β e ((Instr.makeFunc (.func f) #[] (caps.map a.eval)).run P w):=by
 obtain⟨cs,h1,hy⟩:=hy.bind;obtain⟨hc,hy⟩:=yI hy;obtain rfl:=vI hy;obtain⟨hl,hel⟩:=abr h hg h1;refine⟨_,by simp[Instr.makeFunc];rfl,.func f cs _ (by simp[hl]) (fun i av v hi hv=>?_),rfl,rfl,rfl⟩;simp at hv;obtain⟨x,hx,rfl⟩:=hv;exact hel i av x hi (by simpa using hx)
def ajM{k:IntKind}{n:Unit->Int}{s:Unit->ByteArray}{D:Nat->Prop}{B:Nat}{H:Nat->AO}{v:Value}(h:RX w D B β H (.agg [.int k n,.str s]) v):v=.agg #[.int k (n ()),.string (s ())]:=by
 obtain⟨⟨vs⟩,rfl,hl,hel⟩:=h.afk
 match vs,hl,hel with
 | [x,y],_,hel=>
  have h0:=(hel 0 _ x rfl rfl).aaq;have h1:=(hel 1 _ y rfl rfl).aaI;rw[h0,h1]
def akP(ht:TIOk P t ti){u v:Nat}{tu tv:TI}(hk:ti.k=.struct [(0,u),(1,v)])(hu:TIOk P u tu)(hv:TIOk P v tv){k k':IntKind}(hku:tu.k=.int k')(hkv:tv.k=.str)(m n:Int)(x y:ByteArray):
 P.eqGuardType P.depth t=false∧(Op.equalIn 10000 t (.agg #[.int k m,.string x]) (.agg #[.int k n,.string y])).run P w=.ok (m==n&&decide (x=y)) w:=by
 obtain⟨gs,hg,hm,hp,he,hb⟩:=ht.plain hk;refine⟨he,?_⟩;have hf:P.fieldsOf t=gs:=by simp[Program.fieldsOf,hg]
 rw[run_equalIn_struct w 9999 t _ _ (by rw[hf];exact hg) hp,hf];obtain⟨gs⟩:=gs;obtain⟨f,g,rfl⟩:∃f g,gs=[f,g]:=by
  rcases gs with _|⟨f,_|⟨g,_|⟨_,_⟩⟩⟩
  ·simp at hm
  ·simp at hm
  ·exact⟨f,g,rfl⟩
  ·simp at hm
 simp only[List.map_cons,List.map_nil,List.cons.injEq,Prod.mk.injEq,and_true]at hm;obtain⟨⟨a1,a2⟩,a3,a4⟩:=hm;have b1:=hb f (by simp);have b2:=hb g (by simp);have hpu:∀(p q:Value),(part u #[p,q] 0).run P w=.ok p w:=fun p q=>by
  have hs:=hu.one (by simp[TI.agg,hku]);have:=acE (w:=w) hu (by simp[TI.real,hku]) (cs:=#[p,q]) (off:=0) (by rw[hs];show 0+1<=2;decide)
  rwa [if_neg (by simp[TI.agg,hku])]at this
 have hpv:∀(p q:Value),(part v #[p,q] 1).run P w=.ok q w:=fun p q=>by
  have hs:=hv.one (by simp[TI.agg,hkv]);have:=acE (w:=w) hv (by simp[TI.real,hkv]) (cs:=#[p,q]) (off:=1) (by rw[hs];show 1+1<=2;decide)
  rwa [if_neg (by simp[TI.agg,hkv])]at this
 simp only[Op.eqFields,if_pos b1,if_pos b2,a1,a2,a3,a4,Sem.run_bind,hpu,hpv,Result.andThen_ok,run_equalIn_int w 9998 u k k' _ _ (hu.int hku),run_equalIn_string w 9998 v _ _ (hv.str hkv),afh,Sem.run_ite];by_cases h1:m=n
 ·by_cases h2:x=y<;>simp[h1,h2]
 ·simp[h1]
def akO(ht:TIOk P t ti){u v:Nat}{tu tv:TI}(hk:ti.k=.struct [(0,u),(1,v)])(hu:TIOk P u tu)(hv:TIOk P v tv){op:BinOp}{xs ys:List AV}{xv yv:Value}(xo yo:Operand)
 (hx:RX w (E.D w β S.obj) E.B β S.obj (.agg xs) xv) (hyv:RX w (E.D w β S.obj) E.B β S.obj (.agg ys) yv) (hy:Yld S (ami tu tv op xs ys) e):
 aau E S w β e ((do eqGuard op t xo yo xv yv;binOp op t xv yv:Sem Value).run P w):=by
 unfold ami at hy;split at hy
 ·rename_i k m x k' n y;obtain rfl:=ajM hx;obtain rfl:=ajM hyv;split at hy
  ·rename_i k2 hku hkv;replace hy:=yI hy;obtain⟨hkk,hy⟩:=hy;subst hkk;obtain⟨hg,hq⟩:=akP (w:=w) ht hk hu hv hku hkv (k:=k) (m ()) (n ()) (x ()) (y ());simp only[Sem.run_bind,run_eqGuard_agg w op t xo yo _ _ hg,Result.andThen_ok];split at hy
   ·obtain rfl:=vI hy;exact⟨_,by rw[run_eql_struct,hq];rfl,.d (.bool (fun _=>m ()==n ()&&decide (x ()=y ()))),rfl,rfl,rfl⟩
   ·obtain rfl:=vI hy;exact⟨_,by rw[run_neq_struct,hq];rfl,.d (.bool (fun _=>!(m ()==n ()&&decide (x ()=y ())))),rfl,rfl,rfl⟩
   ·exact hy.fail.elim
  ·exact hy.fail.elim
 ·exact hy.fail.elim
def aia(hT:TOk P T)(ht:TIOk P t ti){op:BinOp}{x y:AV}{xv yv:Value}(xo yo:Operand)(hx:RX w (E.D w β S.obj) E.B β S.obj x xv)(hyv:RX w (E.D w β S.obj) E.B β S.obj y yv)(hy:Yld S (anD T ti op x y) e):
 aau E S w β e ((do eqGuard op t xo yo xv yv;binOp op t xv yv:Sem Value).run P w):=by
 unfold anD at hy;split at hy
 ·split at hy
  ·rename_i hk;obtain⟨hu,_,hy⟩:=aaO hT hy;obtain⟨hv,_,hy⟩:=aaO hT hy;exact akO ht hk hu hv xo yo hx hyv hy
  ·exact hy.fail.elim
 ·exact aji ht xo yo hx hyv hy
def TIOk.iface(h:TIOk P t ti)(hk:ti.k=.iface):∃ms,P.underlying t=some (.interface ms):=by
 have:=h.k;rw[hk]at this;simp only[tkB]at this;split at this
 ·rename_i ms hu;exact⟨ms,hu⟩
 ·cases this
def ahV{ms:Array (String×TypeId)}(hu:P.underlying t=some (.interface ms))(v:Value)(b:Bool)(h:(b=true∧v=.nilIface)∨(b=false∧∃x p,v=.iface x p)):(Op.equal t v .nilIface).run P w=.ok b w:=by
 have key:∀d,(Op.equalIn (d+1) t v .nilIface).run P w=.ok b w:=fun d=>by
  rcases h with⟨rfl,rfl⟩|⟨rfl,x,p,rfl⟩ <;>
  ·simp only[Op.equalIn,Sem.run_bind,run_underlying hu,Result.andThen_ok];simp
 exact key 9999
def aib(hT:TOk P T)(ht:TIOk P t ti){op:BinOp}{x y:AV}{xv yv:Value}(xo yo:Operand)(hc:nilC yo=true->yv=.nilIface)(hx:RX w (E.D w β S.obj) E.B β S.obj x xv)(hyv:RX w (E.D w β S.obj) E.B β S.obj y yv)(hy:Yld S (anE T ti op (nilC yo) x y) e):
 aau E S w β e ((do eqGuard op t xo yo xv yv;binOp op t xv yv:Sem Value).run P w):=by
 generalize hn:nilC yo=c at hy hc;unfold anE at hy;split at hy
 ·rename_i n;obtain rfl:=hc rfl;have hxi:=hx.agD;have hg:(eqGuard op t xo yo xv .nilIface).run P w=.ok () w:=by
   have:∃k,yo=.const k:=by
    unfold nilC at hn;split at hn
    ·exact⟨_,rfl⟩
    ·cases hn
   obtain⟨k,rfl⟩:=this;rcases hxi with⟨_,rfl⟩|⟨_,x,p,rfl⟩<;>cases op<;>simp[eqGuard]
  simp only[Sem.run_bind,hg,Result.andThen_ok];split at hy
  ·rename_i hk;obtain⟨ms,hu⟩:=ht.iface hk;have he:=ahV (w:=w) hu xv (n ()) hxi;obtain rfl:=vI hy;exact⟨.bool (n ()),by rcases hxi with⟨_,rfl⟩|⟨_,x,p,rfl⟩<;>simp[binOp,he],.d (.bool n),rfl,rfl,rfl⟩
  ·rename_i hk;obtain⟨ms,hu⟩:=ht.iface hk;have he:=ahV (w:=w) hu xv (n ()) hxi;obtain rfl:=vI hy;exact⟨.bool (!n ()),by rcases hxi with⟨_,rfl⟩|⟨_,x,p,rfl⟩<;>simp[binOp,he],.d (.bool fun _=>!n ()),rfl,rfl,rfl⟩
  ·exact hy.fail.elim
 ·exact aia hT ht xo yo hx hyv hy
end
def RXs(w:World)(D:Nat->Prop)(B:Nat)(β:Nat->Value)(H:Nat->AO)(cs:List AV)(vs:Array Value):Prop:=
 cs.length=vs.size∧∀(i:Nat) (av:AV) (v:Value),cs[i]? = some av->vs[i]? = some v->RX w D B β H av v
def al2(off:Nat):∀(l:List Value) (k:Nat) (cs:Array Value),off+k+l.length<=cs.size ->
 ((l.zipIdx k).foldl (fun(cs:Array Value) (p:Value×Nat)=>cs.setIfInBounds (off+p.2) p.1) cs).size=cs.size ∧
 ∀i,((l.zipIdx k).foldl (fun(cs:Array Value) (p:Value×Nat)=>cs.setIfInBounds (off+p.2) p.1) cs)[i]? = if off+k<=i∧i<off+k+l.length then l[i-(off+k)]? else cs[i]? := by
 intro l
 induction l with
 | nil=>intro k cs h;refine⟨rfl,fun i=>?_⟩;rw[if_neg (by simp)];rfl
 | cons v r ih=>
  intro k cs h;simp only[List.zipIdx_cons,List.foldl_cons,List.length_cons]at h ⊢;obtain⟨h1,h2⟩:=ih (k+1) (cs.setIfInBounds (off+k) v) (by simp;omega);refine⟨by rw[h1];simp,fun i=>?_⟩;rw[h2];by_cases hi:i=off+k
  ·subst hi;rw[if_neg (by omega),if_pos (by omega)];have:off+k<cs.size:=by omega
   simp[this]
  ·by_cases hj:off+(k+1)<=i∧i<off+(k+1)+r.length
   ·rw[if_pos hj,if_pos (by omega)];have:i-(off+k)=(i-(off+(k+1)))+1:=by omega
    rw[this];rfl
   ·rw[if_neg hj,if_neg (by omega),Array.getElem?_setIfInBounds_ne (by omega)]
def acD{cs new:List AV}{off:Nat}(h:off+new.length<=cs.length)(i:Nat):(splice cs off new)[i]? = if off<=i∧i<off+new.length then new[i-off]? else cs[i]? := by
 unfold splice;have ht:(cs.take off).length=off:=by simp;omega
 by_cases h1:i<off
 ·rw[List.append_assoc,List.getElem?_append_left (by omega),if_neg (by omega),List.getElem?_take,if_pos h1]
 ·by_cases h2:i<off+new.length
  ·rw[List.append_assoc,List.getElem?_append_right (by omega),List.getElem?_append_left (by omega),if_pos (by omega),ht]
  ·rw[List.getElem?_append_right (by simp;omega),if_neg (by omega),List.getElem?_drop];congr 1;simp;omega
section
variable {P:Program}{E:Env}{S:AS}{w:World}{β:Nat->Value}{e:Eff}{ti:TI}{t:Nat}{T:List (Nat×TI)}
variable {D:Nat->Prop}{B:Nat}{H:Nat->AO}
def RXs.splice{cs new:List AV}{vs us:Array Value}{off:Nat}(h:RXs w D B β H cs vs)(hn:RXs w D B β H new us)(hl:off+new.length<=cs.length):
 RXs w D B β H (splice cs off new) (us.zipIdx.foldl (fun cs (p:Value×Nat)=>cs.setIfInBounds (off+p.2) p.1) vs):=by
 rw[<- Array.foldl_toList,Array.toList_zipIdx];have hf:=al2 off us.toList 0 vs (by have:=h.1;have:=hn.1;simp;omega);refine⟨by rw[acC hl,hf.1,h.1],fun i av v hi hv=>?_⟩;rw[hf.2]at hv;rw[acD hl]at hi;have hlen:us.toList.length=new.length:=by simp[hn.1]
 simp only[Nat.add_zero,hlen]at hv;by_cases hc:off<=i∧i<off+new.length
 ·rw[if_pos hc]at hi hv;exact hn.2 _ _ _ hi (by simpa using hv)
 ·rw[if_neg hc]at hi hv;exact h.2 _ _ _ hi hv
def ail(w:World)(D:Nat->Prop)(B:Nat)(β:Nat->Value)(H:Nat->AO)(ps:List (Nat×AV))(qs:List (Nat×Value)):Prop:=
 ps.length=qs.length∧∀(k i j:Nat) (av:AV) (v:Value),ps[k]? = some (i,av)->qs[k]? = some (j,v)->i=j∧RX w D B β H av v
theorem acI(hT:TOk P T){fs:List (Nat×Nat)}{place:Nat->Option (Nat×Nat)}(hp:∀i off t,fs[i]? = some (off,t)->(aa3 T t).real=true->place i=some (off,(aa3 T t).size)):
 ∀{ps:List (Nat×AV)} {qs:List (Nat×Value)} {cs out:List AV} {vs:Array Value} (_:RXs w D B β H cs vs) (_:ail w D B β H ps qs) (_:∀p∈ps,p.2.cells.all AV.cell=true) (_:aaS fs T cs ps=some out),
 ∃us,Instr.fill place vs qs=some us∧RXs w D B β H out us
 | [],qs,cs,out,vs,hc,hq,_,hf=>by
  have:qs=[]:=List.eq_nil_of_length_eq_zero (by simpa using hq.1.symm);subst this;simp[aaS]at hf;subst hf;exact⟨vs,rfl,hc⟩
 | (i,av)::r,[],cs,out,vs,hc,hq,_,hf=>by simp[ail]at hq
 | (i,av)::r,(j,v)::s,cs,out,vs,hc,hq,hall,hf=>by
  obtain⟨rfl,hx⟩:=hq.2 0 i j av v rfl rfl;simp only[aaS]at hf;split at hf
  ·rename_i off t hft;split at hf
   ·rename_i hcond;simp at hcond;obtain⟨⟨hreal,hsz⟩,hle⟩:=hcond;have hcx:=aer hx (hall (i,av) (by simp));obtain⟨us,h1,h2⟩:=acI hT hp (RXs.splice hc hcx hle) (ps:=r) (qs:=s) ⟨by simpa using hq.1,fun k i j a b hk hl=>hq.2 (k+1) i j a b (by simpa using hk) (by simpa using hl)⟩ (fun p hpm=>hall p (by simp[hpm])) hf;refine⟨us,?_,h2⟩;simp only[Instr.fill,hp i off t hft hreal];have e1:(v.cells.size≠(aa3 T t).size||decide (off+v.cells.size>vs.size))=false:=by
     rw[<- hcx.1,hsz,<- hc.1];simp;omega
    rw[if_neg (by rw[e1];simp)];exact h1
   ·cases hf
  ·cases hf
def agZ{ps:List (Nat×Operand)}{avs:List AV}{ev:Operand->Value}(hl:avs.length=(ps.map (·.2)).length)
 (h:∀(i:Nat) (av:AV) (x:Operand),avs[i]? = some av->(ps.map (·.2))[i]? = some x->RX w D B β H av (ev x)):ail w D B β H (ae1 ps avs) (ps.map fun p=>(p.1,ev p.2)):=by
 induction ps generalizing avs with
 | nil=>cases avs with
  | nil=>exact⟨rfl,fun k i j av v h=>by simp[ae1]at h⟩
  | cons a r=>simp at hl
 | cons p r ih=>cases avs with
  | nil=>simp at hl
  | cons a s=>
   obtain⟨i1,i2⟩:=ih (avs:=s) (by simpa using hl) (fun i av x h1 h2=>h (i+1) av x (by simpa using h1) (by simpa using h2));obtain⟨pi,px⟩:=p;refine⟨by simp[ae1,i1],fun k i j av v h1 h2=>?_⟩;cases k with
   | zero=>simp[ae1]at h1 h2;obtain⟨rfl,rfl⟩:=h1;obtain⟨rfl,rfl⟩:=h2;exact⟨rfl,h 0 _ _ rfl rfl⟩
   | succ k=>exact i2 k i j av v (by simpa[ae1]using h1) (by simpa using h2)
def aio{z:Value}(h:avsB ti.zero z.cells.toList=true):RXs w D B β H ti.zero z.cells:=by
 obtain⟨h1,_,h3⟩:=ac1 (w:=w) (D:=D) (B:=B) h;exact⟨by simpa using h1,fun i av v hi hv=>.d (h3 i av v hi (by simpa using hv))⟩
def ajg(hT:TOk P T)(ht:TIOk P t ti){ps:List (Nat×AV)}{qs:List (Nat×Value)}(hq:ail w (E.D w β S.obj) E.B β S.obj ps qs)(hy:Yld S (ajh T ti ps) e):
 aau E S w β e ((Instr.build t qs.toArray).run P w):=by
 unfold ajh at hy;obtain⟨hok,hy⟩:=yI hy;have hall:∀p∈ps,p.2.cells.all AV.cell=true:=fun p hp=>List.all_eq_true.1 hok p hp;obtain⟨z,hz,hzb⟩:=ht.zeroValue (w:=w);have hzr:=aio (w:=w) (D:=E.D w β S.obj) (B:=E.B) (β:=β) (H:=S.obj) hzb;split at hy
 ·rename_i fs hk;obtain⟨gs,hu,hfs,hpos⟩:=ht.struct hk;split at hy
  ·rename_i cs hcs;obtain rfl:=vI hy;have hpl:∀(l:List Field),(∀f∈l,∃i,P.info? f.type=some i∧i.size≠0)->l.mapM (fun f=>(P.info? f.type).map fun i=>(f.offset,i.size))=some (l.map fun f=>(f.offset,P.cellsOf f.type)):=by
    intro l hl
    induction l with
    | nil=>rfl
    | cons f r ih=>
     obtain⟨i,hi,_⟩:=hl f (by simp);rw[List.mapM_cons,ih (fun f hf=>hl f (by simp[hf])),hi];simp[Program.cellsOf,hi]
   have hrun:=run_places (P:=P) w gs.toList _ (hpl gs.toList hpos)
   obtain⟨us,h1,h2⟩:=acI hT (place:=fun i=>(gs.toList.map fun f=>(f.offset,P.cellsOf f.type)).toArray[i]?) (fun i off t hi hr=>by
    rw[<- hfs]at hi;simp at hi;obtain⟨f,h1,h2,h3⟩:=hi;obtain⟨j,_,hj1,hj2,_⟩:=(hT.at t hr).ex;simp[h1,h2,h3,Program.cellsOf,hj1,hj2]) hzr hq hall hcs
   refine⟨.agg us,?_,.agg _ _ h2.1 h2.2,rfl,rfl,rfl⟩;simp only[List.getElem?_toArray]at h1;simp[Instr.build,hz,run_underlying hu,Array.mapM_eq_mapM_toList,hrun]at h1 ⊢;simp[h1]
  ·exact hy.fail.elim
 ·rename_i n el hk;have hu:=ht.array hk;split at hy
  ·rename_i cs hcs;obtain⟨hreal,hy⟩:=yI hy;obtain rfl:=vI hy;have hte:=hT.at el hreal;have hs:=hte.sizeOf (w:=w)
   obtain⟨us,h1,h2⟩:=acI hT (place:=fun i=>some (i*(aa3 T el).size,(aa3 T el).size)) (fun i off t hi hr=>by
    rw[List.getElem?_map]at hi;cases hq:(List.range n)[i]? with
    | none=>rw[hq]at hi;simp at hi
    | some k=>
     rw[hq]at hi;obtain⟨hlt,hk⟩:=List.getElem?_eq_some_iff.1 hq;simp at hi hk;obtain⟨rfl,rfl⟩:=hi;simp[hk]) hzr hq hall hcs
   refine⟨.agg us,?_,.agg _ _ h2.1 h2.2,rfl,rfl,rfl⟩;simp[Instr.build,hz,run_underlying hu,hs,h1]
  ·exact hy.fail.elim
 ·exact hy.fail.elim
end
section
variable {P:Program}{E:Env}{S:AS}{w:World}{β:Nat->Value}{e:Eff}{ti:TI}{t:Nat}{T:List (Nat×TI)}
variable {D:Nat->Prop}{B:Nat}{H:Nat->AO}
theorem ahM:∀{ks:List ByteArray} {ents:List MapEntry} (_:ks.length=ents.length) (_:∀(i:Nat) (k:ByteArray) (e:MapEntry),ks[i]? = some k->ents[i]? = some e->e.key=.string k) (s:ByteArray) (m:Nat),
 Instr.findNow .string (.string s) ents m=some (if kHas ks s=true then(ents[kIdx ks s]?).map fun e=>(m+kIdx ks s,e.val)else none)
 | [],[],_,_,s,m=>rfl
 | [],_::_,h,_,_,_=>by simp at h
 | _::_,[],h,_,_,_=>by simp at h
 | k::r,e::es,hl,hk,s,m=>by
  have h0:=hk 0 k e rfl rfl;have ih:=ahM (ks:=r) (ents:=es) (by simpa using hl) (fun i k' e' h1 h2=>hk (i+1) k' e' (by simpa using h1) (by simpa using h2)) s (m+1);have hb:(s==k)=decide (s=k):=by
   by_cases h:s=k
   ·subst h;simp only[decide_true];exact(MapKept.bytes_beq s s).2 rfl
   ·rw[decide_eq_false h];cases q:(s==k)with
    | false=>rfl
    | true=>exact absurd ((MapKept.bytes_beq s k).1 q) h
  by_cases h:s=k
  ·subst h;have hh:kHas (s::r) s=true:=by simp[kHas]
   have hi:kIdx (s::r) s=0:=by simp[kIdx,List.findIdx_cons]
   rw[if_pos hh,hi];simp only[Instr.findNow,h0,Instr.sameNow,hb,decide_true];simp
  ·have h':¬k=s:=fun q=>h q.symm;have hh:kHas (k::r) s=kHas r s:=by simp[kHas,h']
   have hi:kIdx (k::r) s=kIdx r s+1:=by simp[kIdx,List.findIdx_cons,h']
   rw[hh,hi];simp only[Instr.findNow,h0,Instr.sameNow,hb,decide_eq_false h];rw[ih];split
   ·simp only[List.getElem?_cons_succ];congr 2;funext e';rw[show m+1+kIdx r s=m+(kIdx r s+1) by omega]
   ·rfl
def amU{ks:List ByteArray}{s:ByteArray}(h:kHas ks s=true):kIdx ks s<ks.length:=by
 unfold kIdx;rw[List.findIdx_lt_length];obtain⟨x,hx,hp⟩:=List.any_eq_true.1 h;exact⟨x,hx,hp⟩
def afx{g:Unit->Bool}{a z:AV}{va vz:Value}(ha:g ()=true->RD w D B a va)(hz:RD w D B z vz):RD w D B (selZ g a z) (if g ()=true then va else vz):=by
 have hint:∀(k:IntKind) (n:Unit->Int) (v:Value),v=.int k (n ())->RD w D B (.int k n) v:=fun k n v h=>h▸.int k n;have hbool:∀(n:Unit->Bool) (v:Value),v=.bool (n ())->RD w D B (.bool n) v:=fun n v h=>h▸.bool n;have hstr:∀(n:Unit->ByteArray) (v:Value),v=.string (n ())->RD w D B (.str n) v:=fun n v h=>h▸.str n;unfold selZ;split
 ·rename_i k a k' z;split
  ·rename_i hk;subst hk;cases hz;refine hint _ _ _ ?_;cases q:g ()with
   | true=>have h1:=ha q;cases h1;simp
   | false=>simp
  ·exact .any _
 ·cases hz;refine hbool _ _ ?_;cases q:g ()with
  | true=>have h1:=ha q;cases h1;simp
  | false=>simp
 ·cases hz;refine hstr _ _ ?_;cases q:g ()with
  | true=>have h1:=ha q;cases h1;simp
  | false=>simp
 ·exact .any _
theorem ahc{g:Unit->Bool}:∀{xs zs:List AV} {i:Nat} {x:AV},(agd g xs zs)[i]? = some x->∃a z,xs[i]? = some a∧zs[i]? = some z∧x=selZ g a z
 | [],_,_,_,h=>by simp[agd]at h
 | _::_,[],_,_,h=>by simp[agd]at h
 | a::r,z::s,0,x,h=>by simp only[agd,List.getElem?_cons_zero,Option.some.injEq]at h;exact⟨a,z,rfl,rfl,h.symm⟩
 | a::r,z::s,i+1,x,h=>by
  simp only[agd,List.getElem?_cons_succ]at h;simpa using ahc h
theorem ahb{g:Unit->Bool}:∀{xs zs:List AV},xs.length=zs.length->(agd g xs zs).length=zs.length
 | [],[],_=>rfl
 | [],_::_,h=>by simp at h
 | _::_,[],h=>by simp at h
 | a::r,z::s,h=>by simp only[agd,List.length_cons];rw[ahb (xs:=r) (zs:=s) (by simpa using h)]
def agw(hT:TOk P T)(ht:TIOk P t ti){x i:AV}{v iv:Value}{ok:Bool}(hx:RX w (E.D w β S.obj) E.B β S.obj x v)(hi:RX w (E.D w β S.obj) E.B β S.obj i iv)
 (hy:Yld S (aiT T ti x i ok) e):aau E S w β e ((Instr.lookup t v iv ok).run P w):=by
 unfold aiT at hy;split at hy
 ·rename_i k el ks f s hk;have hu:=ht.map hk;obtain rfl:=hi.aaI;obtain⟨ents,hv,hl,hkeys,hvals⟩:∃ents:Array MapEntry,((v=.map none∧ents=#[])∨∃b clock,v=.map (some b)∧w.heap[b]? = some (.map ents clock))∧(ks ()).length=ents.size∧(∀(i:Nat) (k:ByteArray) (e:MapEntry),(ks ())[i]? = some k->ents[i]? = some e->e.key=.string k) ∧
   ∀(i:Nat) (e:MapEntry),ents[i]? = some e->RD w (E.D w β S.obj) E.B (f fun _=>i) e.val:=by
   rcases hx.agA with⟨h1,h2⟩|⟨b,clock,ents,h1,hb,hl,hkeys,hvals⟩
   ·exact⟨#[],.inl ⟨h1,rfl⟩,by rw[h2];rfl,fun i k e _ h=>(by simp at h),fun i e h=>(by simp at h)⟩
   ·exact⟨ents,.inr ⟨b,clock,h1,hb⟩,hl,hkeys,hvals⟩
  obtain⟨tk,htk,hreal,_,hy⟩:=abz hT hy;split at hy
  ·rename_i hks;have huk:=htk.str hks;obtain⟨te,hte,hre,_,hy⟩:=abz hT hy;obtain rfl:=vI hy;obtain⟨z,hz,hzb,hzg⟩:=hte.akj (w:=w);obtain⟨hz1,_,hz3⟩:=ac1 (w:=w) (D:=E.D w β S.obj) (B:=E.B) hzb;have hf:=ahM (ks:=ks ()) (ents:=ents.toList) (by simpa using hl) (fun i k e h1 h2=>hkeys i k e h1 (by simpa using h2)) (s ()) 0;obtain⟨u,hu1⟩:∃u,u=if kHas (ks ()) (s ())=true then((ents[kIdx (ks ()) (s ())]?).map (·.val)).getD undef else z:=⟨_,rfl⟩
   have hrun:(Instr.lookup t v (.string (s ())) ok).run P w=.ok (if ok=true then .tuple #[u,.bool (kHas (ks ()) (s ()))]else u) w:=by
    have hc:(Instr.checkKey ents.isEmpty 10000 k (.string (s ()))).run P w=.ok () w:=MapKept.run_checkKey (d:=.string) (k:=.string (s ())) huk trivial _ 9999;have hfk:=MapKept.run_findKey (w:=w) (k:=.string (s ())) huk hf;cases q:kHas (ks ()) (s ())with
    | true=>
     have hlt:=amU q;rw[hl]at hlt;rw[q]at hfk hu1;simp only[if_true,List.getElem?_toArray]at hfk;rw[show ents.toList[kIdx (ks ()) (s ())]? = some (ents[kIdx (ks ()) (s ())]) by simp[hlt]]at hfk;simp only[if_true,Array.getElem?_eq_getElem hlt,Option.map_some,Option.getD_some]at hu1;simp only[Option.map_some]at hfk;subst hu1;rcases hv with⟨_,rfl⟩|⟨b,clock,rfl,hb⟩
     ·exact absurd hlt (Nat.not_lt_zero _)
     ·have hg:(getObj b).run P w=.ok (.map ents clock) w:=MapKept.run_getObj_map hb;cases ok<;>simp[Instr.lookup,run_underlying hu,hg,hc,hfk]
    | false=>
     rw[q]at hfk hu1;simp only[Bool.false_eq_true,if_false]at hfk hu1;subst hu1;rcases hv with⟨rfl,rfl⟩|⟨b,clock,rfl,hb⟩
     ·have hc:(Instr.checkKey true 10000 k (.string (s ()))).run P w=.ok () w:=hc;have hfk:(Instr.findKey k (.string (s ())) []).run P w=.ok none w:=hfk;cases ok<;>simp[Instr.lookup,run_underlying hu,hc,hfk,hz]
     ·have hg:(getObj b).run P w=.ok (.map ents clock) w:=MapKept.run_getObj_map hb;cases ok<;>simp[Instr.lookup,run_underlying hu,hg,hc,hfk,hz]
   have hval:kHas (ks ()) (s ())=true->∃ev,ev=((ents[kIdx (ks ()) (s ())]?).map (·.val)).getD undef∧RD w (E.D w β S.obj) E.B (f fun _=>kIdx (ks ()) (s ())) ev:=fun q=>by
    have hlt:=amU q;rw[hl]at hlt;exact⟨_,rfl,by simpa[Array.getElem?_eq_getElem hlt]using hvals _ _ (Array.getElem?_eq_getElem hlt)⟩
   have hrd:RD w (E.D w β S.obj) E.B (pickK te.agg (fun _=>kHas (ks ()) (s ())) (f fun _=>kIdx (ks ()) (s ())) te.zero) u:=by
    generalize f (fun _=>kIdx (ks ()) (s ()))=av at hval;unfold pickK;split
    ·rename_i xs hag;split
     ·rename_i hlen;rw[hag]at hzg;cases z with
      | agg zs=>
       simp only[Value.cells]at hz1 hz3;have hq:∃us:Array Value,u=.agg us∧us.size=zs.size∧∀(i:Nat) (a:AV),xs[i]? = some a->∀zv:Value,zs[i]? = some zv->∃uv:Value,us[i]? = some uv∧∃va:Value,(kHas (ks ()) (s ())=true->RD w (E.D w β S.obj) E.B a va)∧uv=if kHas (ks ()) (s ())=true then va else zv:=by
        cases q:kHas (ks ()) (s ())with
        | true=>
         rw[q]at hu1;simp only[if_true]at hu1;obtain⟨ev,he,hr⟩:=hval q;rw[<- he]at hu1;cases hr with
         | agg _ vs hl2 hel=>
          refine⟨vs,hu1,?_,fun i a h1 zv h2=>?_⟩
          ·have:te.zero.length=zs.size:=by simpa using hz1
           omega
          ·have hi:i<vs.size:=by rw[<- hl2];exact(List.getElem?_eq_some_iff.1 h1).1
           exact⟨vs[i],Array.getElem?_eq_getElem hi,vs[i],fun _=>hel i a _ h1 (Array.getElem?_eq_getElem hi),by simp⟩
        | false=>
         rw[q]at hu1;simp only[Bool.false_eq_true,if_false]at hu1;exact⟨zs,hu1,rfl,fun i a h1 zv h2=>⟨zv,h2,undef,fun h=>(by cases h),by simp⟩⟩
       obtain⟨us,hue,hus,hel⟩:=hq;subst hue;refine .agg _ _ (by rw[ahb hlen,hus];simpa using hz1) fun i av v h1 h2=>?_;obtain⟨a,zc,g1,g2,rfl⟩:=ahc h1;have hi:i<zs.size:=by rw[<- hus];exact(Array.getElem?_eq_some_iff.1 h2).1
       obtain⟨uv,k1,va,k2,k3⟩:=hel i a g1 _ (Array.getElem?_eq_getElem hi);rw[h2]at k1;cases k1;rw[k3];exact afx (g:=fun _=>kHas (ks ()) (s ())) k2 (hz3 i zc _ g2 (by simp[hi]))
      | _=>cases hzg
     ·exact .any _
    ·exact .any _
    ·have hag:te.agg=false:=‹_›
     split
     ·rename_i zc hzc;rw[hzc]at hz3;have hzz:RD w (E.D w β S.obj) E.B zc z:=by
       refine hz3 0 zc z rfl ?_;rw[hag]at hzg;cases z<;>first|rfl|cases hzg
      rw[hu1];refine afx (g:=fun _=>kHas (ks ()) (s ())) (fun q=>?_) hzz;obtain⟨ev,he,hr⟩:=hval q;rw[<- he];exact hr
     ·exact .any _
    ·exact .any _
   refine⟨_,hrun,?_,rfl,rfl,rfl⟩;cases ok with
   | true=>
    simp only[if_true];refine .d (.tup _ _ rfl fun i av v h1 h2=>?_)
    match i with
    | 0=>simp at h1 h2;subst h1;subst h2;exact hrd
    | 1=>simp at h1 h2;subst h1;subst h2;exact .bool _
    | i+2=>simp at h1
   | false=>exact .d (by simpa using hrd)
  ·exact hy.fail.elim
 ·exact hy.fail.elim
end
def upd{α:Type}(f:Nat->α)(d:Nat)(v:α):Nat->α:=fun o=>if o=d then v else f o
def aaM(l:List (Nat×AO))(d:Nat)(v:AO):oL (oset l d v)=upd (oL l) d v:=by
 funext o;unfold upd
 induction l with
 | nil=>simp[oset,oL,eq_comm]
 | cons p r ih=>
  obtain⟨i,x⟩:=p;simp only[oset];split
  ·rename_i e;subst e;simp only[oL];by_cases ho:o=i
   ·subst ho;simp
   ·simp[ho,Ne.symm ho]
  ·rename_i e;simp only[oL,ih];by_cases ho:i=o
   ·subst ho;simp[e]
   ·simp[ho]
def aav{d:Nat}{c:AV}{r:List AV}:AV.nL d (c::r)=true↔AV.nL d [c]=true∧AV.nL d r=true:=by
 cases c<;>simp[AV.nL,and_assoc]
theorem aaN{d:Nat}:∀{cs:List AV},AV.nL d cs=true->∀(i:Nat) (av:AV),cs[i]? = some av->AV.nL d [av]=true
 | [],_,i,av,h=>by simp at h
 | c::r,hn,i,av,hi=>by
  obtain⟨h1,h2⟩:=aav.1 hn;cases i with
  | zero=>simp at hi;subst hi;exact h1
  | succ i=>exact aaN h2 i av (by simpa using hi)
def ahD{S:AS}{d:Nat}(h:S.aak d=true)(o:Nat):(S.obj o).aak d=true:=by
 simp only[AS.aak,Bool.and_eq_true]at h;have h2:=h.1.2;unfold AS.obj;generalize S.objs=l at h2
 induction l with
 | nil=>rfl
 | cons p r ih=>
  simp only[List.all_cons,Bool.and_eq_true]at h2;simp only[oL];split
  ·exact h2.1
  ·exact ih h2.2
def ajH(S:AS):putH S []=S.obj:=rfl
def pO(S:AS)(d:Nat)(v:AO):putH S [(d,v)]=upd S.obj d v:=by
 unfold putH;simp only[aaE];exact aaM _ _ _
section
variable {P:Program}{E:Env}{S:AS}{a:Act}{w:World}{β:Nat->Value}
def Env.D.lt{H:Nat->AO}{b:Nat}(h:E.D w β H b):b<w.heap.size:=h.2.1
structure Grow(w w':World):Prop where
 os:w'.os=w.os
 tape:w'.tape=w.tape
 output:w'.output=w.output
 size:w.heap.size<=w'.heap.size
 old:∀b,b<w.heap.size->w'.heap[b]? = w.heap[b]?
def Grow.alloc(w:World)(ob:Obj):Grow w (w.alloc ob):=⟨rfl,rfl,rfl,by simp,fun b hb=>Go.RowKit.Below.heap_alloc w ob b hb⟩
def Grow.acK(w:World)(ob:Obj):Grow w (w.drew.alloc ob):=⟨rfl,rfl,rfl,by simp,fun b hb=>Go.RowKit.Below.heap_alloc w.drew ob b hb⟩
def Env.Frame.grow(h:E.Frame w){w':World}(hg:Grow w w'):E.Frame w':=
 ⟨hg.os.trans h.os,hg.tape.trans h.tape,hg.output.trans h.output,Nat.le_trans h.size hg.size,fun b hb hx=>(hg.old b (Nat.lt_of_lt_of_le hb h.size)).trans (h.block b hb hx)⟩
def OR.mono{w':World}{β':Nat->Value}{H H':Nat->AO}{o:Nat}{ob:AO}(h:OR E w β H o ob)(hβ:β' o=β o)(hh:∀b,aa9 (β o)=some b->w'.heap[b]? = w.heap[b]?)
 (hx:∀cs,ob=.box cs->∀(i:Nat) (av:AV) (v:Value),cs[i]? = some av->RX w (E.D w β H) E.B β H av v->RX w' (E.D w' β' H') E.B β' H' av v)
 (hd:∀av v,RD w (E.D w β H) E.B av v->RD w' (E.D w' β' H') E.B av v):OR E w' β' H' o ob:=by
 cases ob with
 | none=>trivial
 | box cs=>
  obtain⟨b,vs,ty,h1,h2,h3,h4,h5,h6⟩:=h;exact⟨b,vs,ty,by rw[hβ,h1],by rw[hh b (by rw[h1];rfl),h2],h3,h4,fun i av v hi hv=>hx cs rfl i av v hi (h5 i av v hi hv),h6⟩
 | it ks f seen pend=>
  obtain⟨b,mb,sa,h1,h2,h3,h4,h5⟩:=h;exact⟨b,mb,sa,by rw[hβ,h1],by rw[hh b (by rw[h1];rfl),h2],h3,h4.imp id fun⟨m,q1,q2⟩=>⟨m,q1,hd _ _ q2⟩,h5⟩
 | arr x t sz ver n f=>
  rcases h with⟨h1,h2⟩|⟨g,cap,cur,h1,h2,h3,h4,h5,h6,h7,h8⟩
  ·exact .inl ⟨by rw[hβ,h1],h2⟩
  ·exact .inr ⟨g,cap,cur,by rw[hβ,h1],by rw[hh g (by rw[h1];rfl),h2],h3,h4,h5,h6,h7,fun i hi=>let ⟨a,b,c⟩:=h8 i hi;⟨a,b,fun j av v hj hv=>hd av v (c j av v hj hv)⟩⟩
def RelB.new(h:RelB E S.tmps S.obj a w β){d:Nat}(hn:S.aak d=true){w':World}(hg:Grow w w'){ob:AO}{v:Value}(hb:∀b,aa9 v=some b->w.heap.size<=b)
 (ho:(∀av u,RX w (E.D w β S.obj) E.B β S.obj av u->AV.nL d [av]=true->RX w' (E.D w' (upd β d v) (upd S.obj d ob)) E.B (upd β d v) (upd S.obj d ob) av u) ->
   (∀av u,RD w (E.D w β S.obj) E.B av u->RD w' (E.D w' (upd β d v) (upd S.obj d ob)) E.B av u)->OR E w' (upd β d v) (upd S.obj d ob) d ob):
 RelB E S.tmps (upd S.obj d ob) a w' (upd β d v) ∧
  (∀av u,RX w (E.D w β S.obj) E.B β S.obj av u->AV.nL d [av]=true->RX w' (E.D w' (upd β d v) (upd S.obj d ob)) E.B (upd β d v) (upd S.obj d ob) av u):=by
 have hDD:∀b,E.D w β S.obj b->E.D w' (upd β d v) (upd S.obj d ob) b:=by
  intro b hb1;refine⟨hb1.1,Nat.lt_of_lt_of_le hb1.2.1 hg.size,fun o ho'=>?_⟩;unfold upd at ho' ⊢;by_cases e:o=d
  ·simp only[e,if_true];intro hq;have:=hb b hq;have:=hb1.2.1;omega
  ·simp only[e,if_false]at ho' ⊢;exact hb1.2.2 o ho'
 have hrd:∀av u,RD w (E.D w β S.obj) E.B av u->RD w' (E.D w' (upd β d v) (upd S.obj d ob)) E.B av u:=
  fun av u hr=>hr.mono (fun b hb=>hg.old b hb.lt) hDD (Nat.le_refl _)
 have hrx:∀av u,RX w (E.D w β S.obj) E.B β S.obj av u->AV.nL d [av]=true->RX w' (E.D w' (upd β d v) (upd S.obj d ob)) E.B (upd β d v) (upd S.obj d ob) av u:=
  fun av u hr hnr=>hr.amI hrd (fun o e=>by simp[upd,e]) (fun o e=>by simp[upd,e]) hnr
 refine⟨⟨h.defers,h.size,fun t av ht=>hrx _ _ (h.tmps t av ht) ?_,fun o=>?_,fun o o' b hne h1 h2 h3 h4=>?_,h.frame.grow hg,fun o u n0 hp=>?_⟩,hrx⟩
 ·simp only[AS.aak,Bool.and_eq_true]at hn;exact aaN hn.1.1 t av ht
 ·by_cases e:o=d
  ·subst e;have:=ho hrx hrd;simpa[upd]using this
  ·have hoo:=h.objs o;have:upd S.obj d ob o=S.obj o:=by simp[upd,e]
   rw[this];by_cases hi:(S.obj o).is
   ·refine hoo.mono (by simp[upd,e]) (fun b hb=>hg.old b (hoo.lt hb hi).1) (fun cs hcs i av u hc hr=>hrx av u hr ?_) hrd;have hno:=ahD hn o;rw[hcs]at hno;exact aaN hno i av hc
   ·cases hq:S.obj o with
    | none=>trivial
    | box cs=>rw[hq]at hi;exact(hi trivial).elim
    | arr x t sz ver n f=>rw[hq]at hi;exact(hi trivial).elim
    | it ks f seen pend=>rw[hq]at hi;exact(hi trivial).elim
 ·unfold upd at h1 h2 h3 h4;by_cases e:o=d
  ·subst e;have e':o'≠o:=Ne.symm hne;simp only[e',if_true,if_false]at h1 h2 h3 h4;have:=hb b h3;have:=((h.objs o').lt h4 h2).1;omega
  ·by_cases e':o'=d
   ·subst e';simp only[e,if_true,if_false]at h1 h2 h3 h4;have:=hb b h4;have:=((h.objs o).lt h3 h1).1;omega
   ·simp only[e,e',if_false]at h1 h2 h3 h4;exact h.apart o o' b hne h1 h2 h3 h4
 ·have hne:o≠d:=by
   rintro rfl;simp only[AS.aak,Bool.and_eq_true]at hn;have:=E.hpin o _ hp;rw[this]at hn;simp at hn
  simp only[upd,if_neg hne];exact h.pin o u n0 hp
def RelB.turn(h:RelB E S.tmps S.obj a w β){o:Nat}(hi:(S.obj o).is){w':World}(hos:w'.os=w.os)(htape:w'.tape=w.tape)(hout:w'.output=w.output)(hsize:w.heap.size<=w'.heap.size)
 (hheap:∀b,b<w.heap.size->aa9 (β o)≠some b->w'.heap[b]? = w.heap[b]?) {ob:AO} (hoi:ob.is) {v:Value}
 (hb:∀b,aa9 v=some b->aa9 (β o)=some b∨w.heap.size<=b)
 (hptr:∀b,β o=.pointer (some ⟨b,0,none⟩)->v=β o)
 (hver:∀x t sz ver n f,S.obj o=.arr x t sz ver n f->∃ver2 n2 f2,ob=.arr x t sz ver2 n2 f2∧((ver2=ver∧n2 ()=n ()∧v=β o)∨ver<ver2))
 (hbox:∀cs,S.obj o=.box cs->∃cs2,ob=.box cs2)
 (ho:(∀av u,RX w (E.D w β S.obj) E.B β S.obj av u->RX w' (E.D w' (upd β o v) (upd S.obj o ob)) E.B (upd β o v) (upd S.obj o ob) av u) ->
   (∀av u,RD w (E.D w β S.obj) E.B av u->RD w' (E.D w' (upd β o v) (upd S.obj o ob)) E.B av u)->OR E w' (upd β o v) (upd S.obj o ob) o ob)
 (hit:∀ks f s p,S.obj o=.it ks f s p->∃ks2 f2 s2 p2,ob=.it ks2 f2 s2 p2:=by intro _ _ _ _ q;simp_all):
 RelB E S.tmps (upd S.obj o ob) a w' (upd β o v)∧(∀av u,RX w (E.D w β S.obj) E.B β S.obj av u->RX w' (E.D w' (upd β o v) (upd S.obj o ob)) E.B (upd β o v) (upd S.obj o ob) av u):=by
 have hDD:∀b,E.D w β S.obj b->E.D w' (upd β o v) (upd S.obj o ob) b:=by
  intro b hb1;refine⟨hb1.1,Nat.lt_of_lt_of_le hb1.2.1 hsize,fun o' ho'=>?_⟩;unfold upd at ho' ⊢;by_cases e:o'=o
  ·simp only[e,if_true];intro hq;rcases hb b hq with h1|h1
   ·exact hb1.2.2 o hi h1
   ·have:=hb1.2.1;omega
  ·simp only[e,if_false]at ho' ⊢;exact hb1.2.2 o' ho'
 have hrd:∀av u,RD w (E.D w β S.obj) E.B av u->RD w' (E.D w' (upd β o v) (upd S.obj o ob)) E.B av u:=
  fun av u hr=>hr.mono (fun b hb=>hheap b hb.lt (hb.2.2 o hi)) hDD (Nat.le_refl _)
 have hrx:∀av u,RX w (E.D w β S.obj) E.B β S.obj av u->RX w' (E.D w' (upd β o v) (upd S.obj o ob)) E.B (upd β o v) (upd S.obj o ob) av u:=by
  intro av u hr;refine hr.map hrd (fun o' off u hp=>?_) (fun o' ver n u hp=>?_) (fun o' sz ver n i off u hp=>?_)
  ·obtain⟨b,h1,rfl⟩:=hp.aa6;refine .ptr o' off b ?_;unfold upd;by_cases e:o'=o
   ·subst e;simp only[if_true];rw[hptr b h1];exact h1
   ·simp only[e,if_false];exact h1
  ·obtain⟨hs,hq⟩:=hp.aI;refine .aref o' ver n u hs (fun x t sz ver' n' f hH=>?_);unfold upd at hH ⊢;by_cases e:o'=o
   ·subst e;simp only[if_true]at hH ⊢;cases hso:S.obj o' with
    | none=>rw[hso]at hi;exact hi.elim
    | box cs=>obtain⟨cs2,rfl⟩:=hbox cs hso;cases hH
    | it ks f seen pend=>obtain⟨_,_,_,_,rfl⟩:=hit _ _ _ _ hso;cases hH
    | arr x1 t1 sz1 ver1 n1 f1=>
     obtain⟨ver2,n2,f2,rfl,hcase⟩:=hver _ _ _ _ _ _ hso;cases hH;obtain⟨q1,q2⟩:=hq _ _ _ _ _ _ hso;rcases hcase with⟨rfl,hn,hv⟩|hlt
     ·exact⟨q1,fun e=>⟨by rw[hn];exact(q2 e).1,by rw[hv];exact(q2 e).2⟩⟩
     ·exact⟨by omega,fun e=>by omega⟩
   ·simp only[e,if_false]at hH ⊢;exact hq _ _ _ _ _ _ hH
  ·obtain⟨hs,hlt,hq⟩:=hp.aaF;refine .aptr o' sz ver n i off u hs hlt (fun x t sz' ver' n' f hH=>?_);unfold upd at hH ⊢;by_cases e:o'=o
   ·subst e;simp only[if_true]at hH ⊢;cases hso:S.obj o' with
    | none=>rw[hso]at hi;exact hi.elim
    | box cs=>obtain⟨cs2,rfl⟩:=hbox cs hso;cases hH
    | it ks f seen pend=>obtain⟨_,_,_,_,rfl⟩:=hit _ _ _ _ hso;cases hH
    | arr x1 t1 sz1 ver1 n1 f1=>
     obtain⟨ver2,n2,f2,rfl,hcase⟩:=hver _ _ _ _ _ _ hso;cases hH;obtain⟨q1,q2⟩:=hq _ _ _ _ _ _ hso;rcases hcase with⟨rfl,hn,hv⟩|hlt
     ·exact⟨q1,fun e=>⟨by rw[hn];exact(q2 e).1,fun e'=>by rw[hv];exact(q2 e).2 e'⟩⟩
     ·exact⟨by omega,fun e=>by omega⟩
   ·simp only[e,if_false]at hH ⊢;exact hq _ _ _ _ _ _ hH
 have hself:=(h.objs o)
 refine⟨⟨h.defers,h.size,fun t av ht=>hrx _ _ (h.tmps t av ht),fun o'=>?_,fun o1 o2 b hne h1 h2 h3 h4=>?_,⟨hos.trans h.frame.os,htape.trans h.frame.tape,hout.trans h.frame.output,Nat.le_trans h.frame.size hsize,fun b hb hx=>?_⟩,fun o' u n0 hp=>?_⟩,hrx⟩
 ·by_cases e:o'=o
  ·subst e;have:=ho hrx hrd;simpa[upd]using this
  ·have hoo:=h.objs o';have he:upd S.obj o ob o'=S.obj o':=by simp[upd,e]
   rw[he];by_cases hi':(S.obj o').is
   ·refine hoo.mono (by simp[upd,e]) (fun b hb=>hheap b (hoo.lt hb hi').1 (fun hq=>h.apart o' o b e hi' hi hb hq)) (fun cs _ i av u _ hr=>hrx av u hr) hrd
   ·cases hq:S.obj o' with
    | none=>trivial
    | box cs=>rw[hq]at hi';exact(hi' trivial).elim
    | arr x t sz ver n f=>rw[hq]at hi';exact(hi' trivial).elim
    | it ks f seen pend=>rw[hq]at hi';exact(hi' trivial).elim
 ·unfold upd at h1 h2 h3 h4;by_cases e:o1=o
  ·subst e;have e':o2≠o1:=Ne.symm hne;simp only[e',if_true,if_false]at h1 h2 h3 h4;rcases hb b h3 with hq|hq
   ·exact h.apart o1 o2 b hne hi h2 hq h4
   ·have:=((h.objs o2).lt h4 h2).1;omega
  ·by_cases e':o2=o
   ·subst e';simp only[e,if_true,if_false]at h1 h2 h3 h4;rcases hb b h4 with hq|hq
    ·exact h.apart o1 o2 b hne h1 hi h3 hq
    ·have:=((h.objs o1).lt h3 h1).1;omega
   ·simp only[e,e',if_false]at h1 h2 h3 h4;exact h.apart o1 o2 b hne h1 h2 h3 h4
 ·rw[hheap b (Nat.lt_of_lt_of_le hb h.frame.size) (fun hq=>?_)]
  ·exact h.frame.block b hb hx
  ·rcases(hself.lt hq hi).2 with h1|h1
   ·exact hx h1
   ·exact Nat.lt_irrefl _ (Nat.lt_of_lt_of_le hb h1)
 ·by_cases e:o'=o
  ·subst e;simp only[upd,if_true];obtain⟨p1,p2⟩:=h.pin o' u n0 hp;cases hso:S.obj o' with
   | none=>rw[hso]at hi;exact hi.elim
   | it ks f seen pend=>
    obtain⟨_,_,_,_,rfl⟩:=hit _ _ _ _ hso;exact⟨(fun cs' hf=>by cases hf),(fun x t sz ver n f hf=>by cases hf)⟩
   | box cs=>
    obtain⟨cs2,hc2⟩:=hbox cs hso;rw[hso]at hself;obtain⟨b,_,_,hb1,_⟩:=hself;refine⟨fun cs' _=>by rw[hptr b hb1];exact p1 cs hso,fun x t sz ver n f hf=>by rw[hc2]at hf;cases hf⟩
   | arr x1 t1 sz1 ver1 n1 f1=>
    obtain⟨ver2,n2,f2,hc2,hcase⟩:=hver _ _ _ _ _ _ hso;refine⟨(fun cs' hf=>by rw[hc2]at hf;cases hf),fun x t sz ver n f hf hv=>?_⟩;rw[hc2]at hf;cases hf;rcases hcase with⟨hv1,hn1,hv2⟩|hlt
    ·obtain⟨r1,r2⟩:=p2 _ _ _ _ _ _ hso (by omega);exact⟨by rw[hv2];exact r1,by rw[hn1];exact r2⟩
    ·omega
  ·simp only[upd,if_neg e];exact h.pin o' u n0 hp
end
section
variable {P:Program}{E:Env}{S:AS}{a:Act}{w:World}{β:Nat->Value}{o:Oper}{e:Eff}{ti:TI}{t:Nat}{T:List (Nat×TI)}
def ae0(E:Env)(S:AS)(a:Act)(e:Eff)(r:Result Value):Prop:=∃u w',r=.ok u w'∧After E S a e u w'
def aau.eff(h:RelB E S.tmps S.obj a w β){r:Result Value}(hp:aau E S w β e r):ae0 E S a e r:=by
 obtain⟨u,h1,h2,h3,_⟩:=hp;have:putH S e.wo=S.obj:=by rw[h3];rfl
 exact⟨u,w,h1,β,by rw[this];exact h,by rw[this];exact h2⟩
def ae5(h:RelB E S.tmps S.obj a w β){cs:List AV}{vs:Array Value}{ty:TypeId}{d:Nat}(hn:S.aak d=true)(hx:RXs w (E.D w β S.obj) E.B β S.obj cs vs)(hnr:AV.nL d cs=true)(htag:adZ cs ty):
 After E S a ⟨.ptr d 0,[(d,.box cs)],[d],none⟩ (.pointer (some ⟨w.heap.size,0,none⟩)) (w.alloc (.cells vs ty)):=by
 have hh:(w.alloc (.cells vs ty)).heap[w.heap.size]? = some (.cells vs ty (0,0)):=heap_alloc_new w _;obtain⟨h1,h2⟩:=h.new hn (Grow.alloc w (.cells vs ty)) (ob:=.box cs) (v:=.pointer (some ⟨w.heap.size,0,none⟩)) (fun b hb=>by simp[aa9]at hb;omega)
  (fun hrx _=>⟨w.heap.size,vs,ty,by simp[upd],hh,.inr h.frame.size,hx.1,fun i av v hi hv=>hrx av v (hx.2 i av v hi hv) (aaN hnr i av hi),htag⟩)
 refine⟨_,by rw[pO];exact h1,by rw[pO];exact .ptr d 0 w.heap.size (by simp[upd])⟩
def anH{d:Nat}{a:AV}{v:Value}(h:avB a v=true):AV.nL d [a]=true:=by
 unfold avB at h;split at h<;>first|(simp[AV.nL];done)|exact absurd h Bool.false_ne_true
theorem ag5{d:Nat}:∀{xs1:List AV} {vs:List Value},avsB xs1 vs=true->AV.nL d xs1=true
 | [],[],_=>by simp[AV.nL]
 | a::r,v::s,h=>by
  simp[avsB]at h;exact aav.2 ⟨anH h.1.1,ag5 h.2⟩
 | [],_::_,h=>by simp[avsB]at h
 | _::_,[],h=>by simp[avsB]at h
def tag_rx{w:World}{D:Nat->Prop}{B:Nat}{H:Nat->AO}{cs:List AV}{vs:Array Value}{t:Nat}(h:RXs w D B β H cs vs):RXs w D B β H (tagC t cs) vs:=by
 unfold tagC;split
 ·split
  ·refine⟨h.1,fun i av v hi hv=>?_⟩;cases i with
   | zero=>
    simp at hi;subst hi;have:=h.2 0 _ _ rfl hv;cases this with
    | d q=>cases q;exact .d (.tnil t)
   | succ i=>exact h.2 (i+1) av v (by simpa using hi) hv
  ·exact h
 ·exact h
def alJ{d t:Nat}{cs:List AV}(h:AV.nL d cs=true):AV.nL d (tagC t cs)=true:=by
 unfold tagC;split
 ·split
  ·simpa[AV.nL]using h
  ·exact h
 ·exact h
def tag_ok{t:Nat}{cs:List AV}(h:cs.all AV.cell=true):adZ (tagC t cs) t:=by
 unfold tagC;split
 ·split
  ·intro t' ht;simp at ht;exact ht
  ·exact adZ.cells h
 ·exact adZ.cells h
def ajm(ht:TIOk P t ti)(h:RelB E S.tmps S.obj a w β){d:Nat}(hn:S.aak d=true):ae0 E S a ⟨.ptr d 0,[(d,.box (tagC t ti.zero))],[d],none⟩ ((Instr.alloc t true (.tuple #[])).run P w):=by
 obtain⟨z,hz,hzb⟩:=ht.zeroValue (w:=w);have hzr:=aio (w:=w) (D:=E.D w β S.obj) (B:=E.B) (β:=β) (H:=S.obj) hzb;refine⟨.pointer (some ⟨w.heap.size,0,none⟩),w.alloc (.cells z.cells t),?_,ae5 h hn (tag_rx hzr) (alJ (ag5 hzb)) (tag_ok (ac1 (w:=w) (D:=E.D w β S.obj) (B:=E.B) hzb).2.1)⟩;simp only[Instr.alloc,Sem.run_bind,hz,Result.andThen_ok];rfl
def ahC{d:Nat}(v:Value):AV.nL d [ofS v]=true:=by
 unfold ofS;split<;>first|(simp[AV.nL];done)|(split<;>simp[AV.nL])
theorem afG{d:Nat}:∀l:List Value,AV.nL d (l.map ofS)=true
 | []=>by simp[AV.nL]
 | v::l=>by rw[List.map_cons];exact aav.2 ⟨ahC v,afG l⟩
def amA{d:Nat}(v:Value):AV.nL d [ofV v]=true:=by
 unfold ofV;split
 ·simp[AV.nL,afG]
 ·exact ahC v
def amy{d:Nat}(hn:S.aak d=true){g:Option (Unit->Bool)}{x:Operand}{av:AV}(hy:Yld S (opd g x) av):AV.nL d [av]=true:=by
 cases x with
 | tmp t=>
  have hy:=hy.tmp;have h1:AV.nL d [S.tmp t]=true:=by
   unfold AS.tmp;rw[List.getD_eq_getElem?_getD];simp only[AS.aak,Bool.and_eq_true]at hn;cases hq:S.tmps[t]? with
   | none=>simp[AV.nL]
   | some av=>exact aaN hn.1.1 t av hq
  split at hy
  ·rename_i g' v' he;rw[he]at h1;have h1':AV.nL d [v']=true:=by simpa[AV.nL]using h1
   split at hy
   ·obtain⟨_,hr⟩:=hy.cond;have:=hr.ret;subst this;exact h1'
   ·have:=hy.ret;subst this;exact h1
  ·have:=hy.ret;subst this;exact h1
 | const v=>
  have:=hy.ret;subst this;exact amA v
 | global g=>
  simp only[opd]at hy;split at hy<;>(have:=hy.ret;subst this;simp[AV.nL,pairsA])
 | func f=>have:=hy.ret;subst this;simp[AV.nL]
def aiM{d:Nat}{x:AV}(h:AV.nL d [x]=true):AV.nL d x.cells=true:=by
 cases x<;>first|exact h|(simpa[AV.nL,AV.cells]using h)
def anA(h:RelB E S.tmps S.obj a w β){d:Nat}(hn:S.aak d=true){x:AV}{v:Value}(hx:RX w (E.D w β S.obj) E.B β S.obj x v)(hc:x.cells.all AV.cell=true)(hnx:AV.nL d [x]=true):
 ae0 E S a ⟨.ptr d 0,[(d,.box x.cells)],[d],none⟩ ((Instr.box t v).run P w):=
 ⟨.pointer (some ⟨w.heap.size,0,none⟩),w.alloc (.cells v.cells t),rfl,ae5 h hn (aer hx hc) (aiM hnx) (.cells hc)⟩
def aiA{cur:Array Value}{off:Nat}{new:List Value}(h:off+new.length<=cur.size):
 (cur.toList.take off++new++cur.toList.drop (off+new.length)).toArray.size=cur.size ∧
 ∀i,(cur.toList.take off++new++cur.toList.drop (off+new.length)).toArray[i]? = if off<=i∧i<off+new.length then new[i-off]? else cur[i]? := by
 refine⟨by simp;omega,fun i=>?_⟩;rw[List.getElem?_toArray];have ht:(cur.toList.take off).length=off:=by simp;omega
 by_cases h1:i<off
 ·rw[List.append_assoc,List.getElem?_append_left (by omega),if_neg (by omega),List.getElem?_take,if_pos h1];simp
 ·by_cases h2:i<off+new.length
  ·rw[List.append_assoc,List.getElem?_append_right (by omega),List.getElem?_append_left (by omega),if_pos (by omega),ht]
  ·rw[List.getElem?_append_right (by simp;omega),if_neg (by omega),List.getElem?_drop];have:off+new.length+(i-(cur.toList.take off++new).length)=i:=by simp;omega
   rw[this];simp
theorem ace:∀{cs:List AV},AV.aae cs=true->∀(i:Nat) (av:AV),cs[i]? = some av->AV.aae [av]=true
 | [],_,i,av,h=>by simp at h
 | c::r,hn,i,av,hi=>by
  have hs:AV.aae [c]=true∧AV.aae r=true:=by cases c<;>simp_all[AV.aae]
  cases i with
  | zero=>simp at hi;subst hi;exact hs.1
  | succ i=>exact ace hs.2 i av (by simpa using hi)
def RX.pure{D:Nat->Prop}{B:Nat}{H:Nat->AO}{av:AV}{v:Value}(h:RX w D B β H av v):AV.aae [av]=true->RD w D B av v:=by
 induction h with
 | d h=>exact fun _=>h
 | ptr=>intro h;simp[AV.aae]at h
 | aptr=>intro h;simp[AV.aae]at h
 | aref=>intro h;simp[AV.aae]at h
 | bref=>intro h;simp[AV.aae]at h
 | bptr=>intro h;simp[AV.aae]at h
 | agg cs vs hl _ ih=>exact fun hp=>.agg cs vs hl fun i av v h1 h2=>ih i av v h1 h2 (ace (by simpa[AV.aae]using hp) i av h1)
 | tup cs vs hl _ ih=>exact fun hp=>.tup cs vs hl fun i av v h1 h2=>ih i av v h1 h2 (ace (by simpa[AV.aae]using hp) i av h1)
 | func fn cs vs hl _ ih=>exact fun hp=>.func fn cs vs hl fun i av v h1 h2=>ih i av v h1 h2 (ace (by simpa[AV.aae]using hp) i av h1)
 | may g av v _ hu ih=>exact fun hp=>.may g av v (fun e=>ih e (by simpa[AV.aae]using hp)) hu
def ais(ht:TIOk P t ti)(h:RelB E S.tmps S.obj a w β){p x:AV}{pv xv:Value}(hp:RX w (E.D w β S.obj) E.B β S.obj p pv)(hx:RX w (E.D w β S.obj) E.B β S.obj x xv)
 (hy:Yld S (ait ti p x) e):∃w',(Instr.storeAt t pv xv).run P w=.ok () w'∧After E S a e undef w':=by
 unfold ait at hy;simp only at hy;replace hy:=yI hy;obtain⟨hc,hy⟩:=hy;simp only[Bool.and_eq_true,decide_eq_true_eq]at hc;obtain⟨hsz,hcell⟩:=hc;obtain⟨hcl,hcx⟩:=aer hx hcell;have hs:=ht.sizeOf (w:=w);have hone:∀v∈xv.cells.toList,v.oneCell'=true:=by
  intro v hv;obtain⟨i,hi⟩:=List.getElem?_of_mem hv;have hlt:i<x.cells.length:=by have:=(List.getElem?_eq_some_iff.1 hi).1;simp at this;omega
  have:=hcx i _ v (List.getElem?_eq_getElem hlt) (by simpa using hi);exact ak9 this (List.all_eq_true.1 hcell _ (List.getElem_mem hlt))
 have hlen:xv.cells.toList.length=x.cells.length:=by simp[hcl]
 have hrun:∀(g off:Nat) (cur:Array Value) (ty:TypeId),w.heap[g]? = some (.cells cur ty (0,0))->off+x.cells.length<=cur.size ->
  (Instr.storeAt t (.pointer (some ⟨g,off,none⟩)) xv).run P w=.ok () (w.setRow g (cur.toList.take off++xv.cells.toList++cur.toList.drop (off+xv.cells.toList.length)).toArray):=by
  intro g off cur ty hh hle;have:=run_storeCells_at P g off ty xv.cells.toList 0 cur w hh (by rw[hlen];omega) hone;simp only[Nat.add_zero]at this;simp only[Instr.storeAt,Instr.sureAddr,pure_bind,storeVar,Sem.run_bind,hs,Result.andThen_ok];rw[if_neg (by simp[<- hcl,hsz])];exact this
 split at hy
 ·rename_i ob off;have hy:=hy.obj;split at hy
  ·rename_i old hold;obtain⟨hle,hy⟩:=yI hy;have:=hy.ret;subst this;have ho:=h.objs ob;rw[hold]at ho;obtain⟨b,vs,ty,hβ,hh,hown,hvl,hcells,htag⟩:=ho;obtain⟨b',hβ',rfl⟩:=hp.aa6;rw[hβ]at hβ';simp at hβ';subst hβ';refine⟨_,hrun b off vs ty hh (by omega),?_⟩;obtain⟨s1,s2⟩:=aiA (cur:=vs) (off:=off) (new:=xv.cells.toList) (by rw[hlen];omega);generalize hnew:(vs.toList.take off++xv.cells.toList++vs.toList.drop (off+xv.cells.toList.length)).toArray=new at s1 s2 ⊢;have hheap:=setRow_heap w b vs new ty (0,0) hh;obtain ⟨h1,h2⟩:=h.turn (o:=ob) (by rw[hold];trivial) (w':=w.setRow b new) rfl rfl rfl (by simp) (fun k _ hk=>setRow_other w b k new (fun e=>hk (by rw[hβ];simp[aa9,e]))) (ob:=.box (splice old off x.cells)) trivial (v:=β ob)
    (fun b hb=>.inl hb) (fun _ _=>rfl) (fun x t sz ver n f hf=>by rw[hold]at hf;cases hf) (fun cs hcs=>⟨_,rfl⟩)
    (fun hrx _=>⟨b,new,ty,by simp[upd,hβ],hheap,hown,by rw[acC hle,s1,hvl],fun i av v hi hv=>by
      rw[s2]at hv;rw[acD hle]at hi;rw[hlen]at hv;by_cases hcc:off<=i∧i<off+x.cells.length
      ·rw[if_pos hcc]at hi hv;exact hrx _ _ (hcx _ _ _ hi (by simpa using hv))
      ·rw[if_neg hcc]at hi hv;exact hrx _ _ (hcells _ _ _ hi hv),fun t ht=>by
      rw[acD hle]at ht;split at ht
      ·exact adZ.cells (ty:=ty) hcell t (by
        rename_i q;obtain rfl:off=0:=by omega
        exact ht)
      ·exact htag t ht⟩)
   exact⟨_,by rw[pO];exact h1,.d (.any _)⟩
  ·exact hy.fail.elim
 ·rename_i ob sz ver n' i off;have hy:=hy.obj;split at hy
  ·rename_i x1 ty sz' ver' n f hold;obtain⟨hcond,hy⟩:=yI hy;have:=hy.ret;subst this;simp only[Bool.and_eq_true,beq_iff_eq,decide_eq_true_eq]at hcond;obtain⟨⟨⟨hsz',hver⟩,hle⟩,hpure⟩:=hcond;have ho:=h.objs ob;rw[hold]at ho;obtain⟨_,hi,hq⟩:=hp.aaF;obtain⟨_,hq⟩:=hq _ _ _ _ _ _ hold;obtain⟨hn,hq⟩:=hq hver;obtain⟨g,cap,hβ,rfl⟩:=hq hsz';subst hsz';rcases ho with⟨hβ',_⟩|⟨g',cap',cur,hβ',hh,hc1,hc2,hc3,hx1,hown,hel⟩
   ·rw[hβ]at hβ';simp at hβ'
   ·rw [hβ]at hβ';simp at hβ';obtain⟨rfl,hnn,rfl⟩:=hβ';have hb1:(i ()+1)*sz<=cap*sz:=Nat.mul_le_mul_right _ (by omega);have hb2:i ()*sz+off+x.cells.length<=cur.size:=by rw[Nat.add_mul]at hb1;omega
    obtain⟨hflen,hfall,hfel⟩:=hel (i ()) (by omega);have hfi:f i=f fun _=>i ():=rfl;rw[akx (f:=fun _=>f i) (by rw[hfi];exact hflen)];refine⟨_,hrun g (i ()*sz+off) cur ty hh hb2,?_⟩;obtain⟨s1,s2⟩:=aiA (cur:=cur) (off:=i ()*sz+off) (new:=xv.cells.toList) (by rw[hlen];omega);generalize hnew:(cur.toList.take (i ()*sz+off)++xv.cells.toList++cur.toList.drop (i ()*sz+off+xv.cells.toList.length)).toArray=new at s1 s2 ⊢;have hheap:=setRow_heap w g cur new ty (0,0) hh;have hpl:AV.aae x.cells=true:=by
     have:∀(l:List AV),l.all AV.pure=true->AV.aae l=true:=by
      intro l
      induction l with
      | nil=>intro _;simp[AV.aae]
      | cons c r ih=>
       intro hl;simp only[List.all_cons,Bool.and_eq_true]at hl;have h2:=ih hl.2;have h1:=hl.1;unfold AV.pure at h1;cases c<;>simp_all[AV.aae]
     exact this _ hpure
    obtain ⟨h1,h2⟩:=h.turn (o:=ob) (by rw[hold];trivial) (w':=w.setRow g new) rfl rfl rfl (by simp) (fun k _ hk=>setRow_other w g k new (fun e=>hk (by rw[hβ];simp[aa9,e])))
     (ob:=.arr x1 ty sz ver n (fupd f i (splice (f i) off x.cells))) trivial (v:=β ob)
     (fun b hb=>.inl hb) (fun _ _=>rfl) (fun x t sz ver n f hf=>by rw[hold]at hf;cases hf;exact⟨_,_,_,by rw[hver],.inl ⟨rfl,rfl,rfl⟩⟩) (fun cs hcs=>by rw[hold]at hcs;cases hcs)
     (fun _ hrd=>.inr ⟨g,cap,new,by simp[upd,hβ,hn],hheap,hc1,hc2,by rw[s1,hc3],hx1,hown,fun k hk=>by
       by_cases hki:k=i ()
       ·subst hki;have hf':fupd f i (splice (f i) off x.cells) (fun _=>i ())=splice (f i) off x.cells:=by simp[fupd]
        rw[hf'];have hle':off+x.cells.length<=(f i).length:=by rw[hfi,hflen];exact hle
        refine⟨by rw[acC hle',hfi,hflen],?_,fun j av v hj hv=>?_⟩
        ·unfold splice;simp only[List.all_append,Bool.and_eq_true];refine⟨⟨?_,hcell⟩,?_⟩
         ·rw[List.all_eq_true]at hfall ⊢;exact fun q hq=>hfall q (List.mem_of_mem_take hq)
         ·rw[List.all_eq_true]at hfall ⊢;exact fun q hq=>hfall q (List.mem_of_mem_drop hq)
        ·rw[s2,hlen]at hv;rw[acD hle']at hj;by_cases hcc:off<=j∧j<off+x.cells.length
         ·rw[if_pos hcc]at hj;rw[if_pos (by omega)]at hv;refine hrd _ _ ((hcx (j-off) av v hj ?_).pure (ace hpl _ _ hj));have:i ()*sz+j-(i ()*sz+off)=j-off:=by omega
          rw[this]at hv;simpa using hv
         ·rw[if_neg hcc]at hj;rw[if_neg (by omega)]at hv;exact hrd _ _ (hfel j av v hj hv)
       ·have hf':fupd f i (splice (f i) off x.cells) (fun _=>k)=f fun _=>k:=by simp[fupd,hki]
        rw[hf'];obtain⟨q1,q2,q3⟩:=hel k hk;refine⟨q1,q2,fun j av v hj hv=>?_⟩;have hjl:j<sz:=by have:=(List.getElem?_eq_some_iff.1 hj).1;omega
        rw[s2,hlen]at hv;have hout:¬(i ()*sz+off<=k*sz+j∧k*sz+j<i ()*sz+off+x.cells.length):=by
         rintro⟨g1,g2⟩;rcases Nat.lt_or_gt_of_ne hki with hlt|hlt
         ·have:(k+1)*sz<=i ()*sz:=Nat.mul_le_mul_right _ hlt;rw[Nat.add_mul]at this;omega
         ·have:(i ()+1)*sz<=k*sz:=Nat.mul_le_mul_right _ hlt;rw[Nat.add_mul]at this;omega
        rw[if_neg hout]at hv;exact hrd _ _ (q3 j av v hj hv)⟩)
    subst hver;exact⟨_,by rw[pO];exact h1,.d (.any _)⟩
  ·exact hy.fail.elim
 ·exact hy.fail.elim
end
section
variable {P:Program}{E:Env}{S:AS}{a:Act}{w:World}{β:Nat->Value}{o:Oper}{e:Eff}{ti:TI}{t:Nat}{T:List (Nat×TI)}
structure Els(w:World)(D:Nat->Prop)(B:Nat)(sz n:Nat)(f:(Unit->Nat)->List AV)(vs:List Value):Prop where
 len:vs.length=n*sz
 el:∀i,i<n->(f fun _=>i).length=sz∧(f fun _=>i).all AV.cell=true∧∀(j:Nat) (av:AV) (v:Value),(f fun _=>i)[j]? = some av->vs[i*sz+j]? = some v->RD w D B av v
def Els.one{D:Nat->Prop}{B sz n:Nat}{f:(Unit->Nat)->List AV}{vs:List Value}(h:Els w D B sz n f vs):∀v∈vs,v.oneCell'=true:=by
 intro v hv;obtain⟨k,hk⟩:=List.getElem?_of_mem hv;have hlt:k<n*sz:=by have:=(List.getElem?_eq_some_iff.1 hk).1;rw[h.len]at this;exact this
 have hsz:0<sz:=by
  rcases Nat.eq_zero_or_pos sz with h0|h0
  ·subst h0;omega
  ·exact h0
 have hi:k/sz<n:=by rw[Nat.div_lt_iff_lt_mul hsz];exact hlt
 obtain⟨h1,h2,h3⟩:=h.el (k/sz) hi;have hj:k%sz<(f fun _=>k/sz).length:=by rw[h1];exact Nat.mod_lt _ hsz
 have he:k/sz*sz+k%sz=k:=by rw[Nat.mul_comm];exact Nat.div_add_mod k sz
 have:=h3 (k%sz) _ v (List.getElem?_eq_getElem hj) (by rw[he];exact hk);exact ak9 (.d (β:=fun _=>.nilFunc) (H:=fun _=>.none) this) (List.all_eq_true.1 h2 _ (List.getElem_mem hj))
def Els.mono{w':World}{D D':Nat->Prop}{B sz n:Nat}{f:(Unit->Nat)->List AV}{vs:List Value}(h:Els w D B sz n f vs)(hd:∀av v,RD w D B av v->RD w' D' B av v):Els w' D' B sz n f vs:=
 ⟨h.len,fun i hi=>let ⟨a,b,c⟩:=h.el i hi;⟨a,b,fun j av v h1 h2=>hd _ _ (c j av v h1 h2)⟩⟩
def Els.append{D:Nat->Prop}{B sz:Nat}{n m:Unit->Nat}{f g:(Unit->Nat)->List AV}{vs us:List Value}(h:Els w D B sz (n ()) f vs)(k:Els w D B sz (m ()) g us):Els w D B sz (n ()+m ()) (catF n f g) (vs++us):=by
 refine⟨by simp[h.len,k.len,Nat.add_mul],fun i hi=>?_⟩;by_cases hin:i<n ()
 ·have hf:catF n f g (fun _=>i)=f fun _=>i:=by simp[catF,hin]
  rw[hf];obtain⟨a,b,c⟩:=h.el i hin;refine⟨a,b,fun j av v h1 h2=>c j av v h1 ?_⟩;have hj:j<sz:=by have:=(List.getElem?_eq_some_iff.1 h1).1;omega
  have:i*sz+j<vs.length:=by
   rw[h.len];have:(i+1)*sz<=n ()*sz:=Nat.mul_le_mul_right _ hin;rw[Nat.add_mul]at this;omega
  rw[List.getElem?_append_left this]at h2;exact h2
 ·have hf:catF n f g (fun _=>i)=g fun _=>i-n ():=by simp[catF,hin]
  rw[hf];obtain⟨a,b,c⟩:=k.el (i-n ()) (by omega);refine⟨a,b,fun j av v h1 h2=>c j av v h1 ?_⟩;have hsub:i*sz+j=n ()*sz+((i-n ())*sz+j):=by
   have:i=n ()+(i-n ()):=by omega
   rw[this,Nat.add_mul];have e2:n ()+(i-n ())-n ()=i-n ():=by omega
   rw[e2];omega
  rw[List.getElem?_append_right (by rw[h.len,hsub];omega),h.len]at h2;have:i*sz+j-n ()*sz=(i-n ())*sz+j:=by omega
  rw[this]at h2;exact h2
structure Srcs(P:Program)(w:World)(D:Nat->Prop)(B:Nat)(sz:Nat)(x:Value)(m:Nat)(g:(Unit->Nat)->List AV)(us:List Value):Prop where
 len:∀w':World,(Builtin.lenOf x).run P w'=.ok m w'
 first:∀w':World,(∀b,b<w.heap.size->w'.heap[b]? = w.heap[b]?)->(Builtin.firstCells sz m x).run P w'=.ok us.toArray w'
 els:Els w D B sz m g us
def ab3(p:Option Addr)(n c:Nat):(Builtin.lenOf (.slice p n c)).run P w=.ok n w:=by simp[Builtin.lenOf]
def slc_els{D:Nat->Prop}{B:Nat}{fr:FB}{sz:Nat}{n:Unit->Nat}{f:(Unit->Nat)->List AV}{v:Value}(hD:∀b,D b->b<w.heap.size)(h:RD w D B (.slc fr sz n f) v):∃us,Srcs P w D B sz v (n ()) f us:=by
 cases h with
 | empty _ _ _ _ p cap hn hc=>
  refine⟨[],fun w'=>by rw[hn];exact ab3 _ _ _,fun w' _=>?_,by simp[hn],fun i hi=>by omega⟩;rw[hn];cases p with
  | none=>simp[Builtin.firstCells]
  | some A=>simp[Builtin.firstCells,loadCells,loadCellsFrom]
 | slc _ _ _ _ b o cap c hn hc hDb hB hcell hlen hone hel=>
  refine⟨(List.range (n ()*sz)).map c,fun w'=>ab3 _ _ _,fun w' hw=>?_,by simp,fun i hi=>⟨hlen i hi,hone i hi,fun j av v h1 h2=>?_⟩⟩
  ·have:=run_loadCells (P:=P) w' ⟨b,o,none⟩ (n ()*sz) c (fun j hj=>by
    rw[Addr.add_lit,World.cell?_of_block (w:=w) (hw b (hD b hDb))];exact hcell j hj)
   simpa[Builtin.firstCells]using this
  ·have hj:j<sz:=by have:=(List.getElem?_eq_some_iff.1 h1).1;rw[hlen i hi]at this;exact this
   have hlt:i*sz+j<n ()*sz:=by
    have:(i+1)*sz<=n ()*sz:=Nat.mul_le_mul_right _ hi;rw[Nat.add_mul]at this;omega
   have hq:=hel i j av hi h1;simp[hlt]at h2;subst h2;exact hq
def anJ{H:Nat->AO}{ob:Nat}{x:Bool}{ty sz ver:Nat}{n:Unit->Nat}{f:(Unit->Nat)->List AV}(h:OR E w β H ob (.arr x ty sz ver n f)):∃us,Srcs P w (E.D w β H) E.B sz (β ob) (n ()) f us:=by
 rcases h with⟨h1,h2⟩|⟨g,cap,cur,h1,h2,h3,h4,h5,h6,h7,h8⟩
 ·refine⟨[],fun w'=>by rw[h1,h2];exact ab3 _ _ _,fun w' _=>by rw[h1,h2];simp[Builtin.firstCells],by simp[h2],fun i hi=>by omega⟩
 ·have hle:n ()*sz<=cur.size:=by rw[h5];exact Nat.mul_le_mul_right _ h3
  refine⟨cur.toList.take (n ()*sz),fun w'=>by rw[h1];exact ab3 _ _ _,fun w' hw=>?_,by simp;omega,fun i hi=>?_⟩
  ·rw[h1];have hg:=hw g (Array.getElem?_eq_some_iff.1 h2).1
   have:=run_loadCells_list (P:=P) w' ⟨g,0,none⟩ (cur.toList.take (n ()*sz)) (fun j v hj=>by
    rw[Addr.add_lit];simp only[World.cell?,hg,h2];rw[List.getElem?_take]at hj;split at hj
    ·simpa using hj
    ·cases hj)
   rw[show(cur.toList.take (n ()*sz)).length=n ()*sz by simp;omega]at this;simpa[Builtin.firstCells]using this
  ·obtain⟨a,b,c⟩:=h8 i hi;refine⟨a,b,fun j av v hj hv=>c j av v hj ?_⟩;rw[List.getElem?_take]at hv;split at hv
   ·simpa using hv
   ·cases hv
def nil_els{D:Nat->Prop}{B sz:Nat}:Srcs P w D B sz (.slice none 0 0) 0 (fun _=>[]) []:=
 ⟨fun _=>ab3 _ _ _,fun _ _=>by simp[Builtin.firstCells],by simp,fun i hi=>by omega⟩
def str_els{D:Nat->Prop}{B:Nat}(s:ByteArray):Srcs P w D B 1 (.string s) s.size (fun i=>[.int .u8 (fun _=>((s.data[i ()]?).getD 0).toNat)]) (s.data.toList.map fun b=>.int .u8 b.toNat):=by
 refine⟨fun _=>by simp[Builtin.lenOf],fun w' _=>?_,by rw[List.length_map,Array.length_toList,Nat.mul_one];rfl,fun i hi=>⟨rfl,by simp[AV.cell],fun j av v hj hv=>?_⟩⟩
 ·have:s.extract 0 s.size=s:=by simp
  simp only[Builtin.firstCells,this];have e:(s.data.map fun b=>Value.int .u8 b.toNat)=(s.data.toList.map fun b=>Value.int .u8 b.toNat).toArray:=by
   apply Array.ext';simp
  rw[e];rfl
 ·cases j with
  | zero=>
   have hlt:i<s.data.size:=hi;have hg:s.data[i]? = some s.data[i]:=Array.getElem?_eq_getElem hlt;simp[hg]at hj hv;subst hj;subst hv;have:=RD.int (w:=w) (D:=D) (B:=B) .u8 (fun _=>(((s.data[i]?).getD 0).toNat:Int));simpa[hg]using this
  | succ j=>simp at hj
def aeD(h:RelB E S.tmps S.obj a w β){sz:Nat}{x:AV}{v:Value}(hx:RX w (E.D w β S.obj) E.B β S.obj x v){k:(Unit->Nat)->((Unit->Nat)->List AV)->M Eff}(hy:Yld S (akw sz x k) e):
 ∃m g us,Srcs P w (E.D w β S.obj) E.B sz v (m ()) g us∧Yld S (k m g) e:=by
 unfold akw at hy;split at hy
 ·obtain rfl:=hx.ab2;exact⟨_,_,_,nil_els,hy⟩
 ·rename_i fr sz' n f;obtain⟨rfl,hy⟩:=yI hy;obtain⟨us,hus⟩:=slc_els (P:=P) (fun b hb=>hb.lt) hx.aaJ;exact⟨n,f,us,hus,by assumption⟩
 ·rename_i ob ver n;have hy:=hy.obj;split at hy
  ·rename_i x1 ty sz' ver' n' f hold;replace hy:=yI hy;obtain⟨hc,hy⟩:=hy;simp only[Bool.and_eq_true,beq_iff_eq]at hc;obtain⟨rfl,hver⟩:=hc;have ho:=h.objs ob;rw[hold]at ho;obtain⟨_,hq⟩:=hx.aI;obtain⟨_,hq⟩:=hq _ _ _ _ _ _ hold;obtain⟨hn,rfl⟩:=hq hver;obtain⟨us,hus⟩:=anJ (P:=P) ho;exact⟨n,f,us,by rw[hn];exact hus,hy⟩
  ·exact hy.fail.elim
 ·rename_i s;obtain⟨rfl,hy⟩:=yI hy;obtain rfl:=hx.aaI;exact⟨_,_,_,str_els (s ()),by assumption⟩
 ·exact hy.fail.elim
end
section
variable {P:Program}{E:Env}{S:AS}{a:Act}{w:World}{β:Nat->Value}{o:Oper}{e:Eff}{ti:TI}{t:Nat}{T:List (Nat×TI)}
def ahB(d:TypeDesc):Prop:=(∃e,d=.slice e)∨d=.string
def abI{t t2 ty el:TypeId}{i:TypeInfo}{z:Value}{d2:TypeDesc}(ht:P.underlying t=some (.slice el))(ht2:P.underlying t2=some d2)(hd2:ahB d2)(hi:P.info? el=some i)(hz:i.zero=some z)
 {base:Option Addr} {n cap m:Nat} {x:Value} {olds news:List Value} (hlen:∀w':World,(Builtin.lenOf x).run P w'=.ok m w')
 (hold:∀w':World,w'.heap=w.heap->(Builtin.firstCells i.size n (.slice base n cap)).run P w'=.ok olds.toArray w')
 (hnew:∀w':World,w'.heap=w.heap->(Builtin.firstCells i.size m x).run P w'=.ok news.toArray w')
 (hg:cap<n+m) (h63:((n+m:Nat):Int)<=9223372036854775807) (hfit:Builtin.nextslicecap (n+m) cap*i.bytes<=281474976710656):
 (Builtin.append_ #[t,t2] ty #[.slice base n cap,x]).run P w =
   .ok (.slice (some ⟨w.heap.size,0,none⟩) (n+m) (grownCap w (n+m) cap el))
    (w.drew.alloc (.cells (olds.toArray++news.toArray++Builtin.zeroCells z.cells (grownCap w (n+m) cap el-(n+m))) el)):=by
 have hn:¬(n+m<=cap):=by omega
 have h63':¬(9223372036854775807<((n:Int)+(m:Int))):=by omega
 have h48':¬(281474976710656<Builtin.nextslicecap (n+m) cap*i.bytes):=by omega
 have h1:=hold w.drew rfl;have h2:=hnew w.drew rfl;rcases hd2 with⟨e2,rfl⟩|rfl
 all_goals
  simp[Builtin.append_,run_underlying ht,run_underlying ht2,sizeOf,typeInfo,zeroValue,hi,hz,hlen,hn,h63',h48',Question.forced,h1,h2,newRow,grownCap];congr 2;apply Array.ext';simp[List.append_assoc]
def afi{t t2 ty el:TypeId}{i:TypeInfo}{d2:TypeDesc}(ht:P.underlying t=some (.slice el))(ht2:P.underlying t2=some d2)(hd2:ahB d2)(hi:P.info? el=some i)
 {g n cap m:Nat} {x:Value} {cur:Array Value} {news:List Value} (hh:w.heap[g]? = some (.cells cur el (0,0))) (hlen:∀w':World,(Builtin.lenOf x).run P w'=.ok m w')
 (hnew:(Builtin.firstCells i.size m x).run P w=.ok news.toArray w) (h1:∀v∈news,v.oneCell'=true) (hroom:n+m<=cap) (hfit:n*i.size+news.length<=cur.size):
 (Builtin.append_ #[t,t2] ty #[.slice (some ⟨g,0,none⟩) n cap,x]).run P w =
   .ok (.slice (some ⟨g,0,none⟩) (n+m) cap) (w.setRow g (cur.toList.take (n*i.size)++news++cur.toList.drop (n*i.size+news.length)).toArray):=by
 have hst:=run_storeCells_at P g (n*i.size) el news 0 cur w hh (by simpa using hfit) h1;simp only[Nat.add_zero]at hst;rcases hd2 with⟨e2,rfl⟩|rfl<;>simp[Builtin.append_,run_underlying ht,run_underlying ht2,sizeOf,typeInfo,hi,hlen,hroom,hnew,Addr.add_lit,hst]
def acz{t t2 ty el:TypeId}{i:TypeInfo}{d2:TypeDesc}(ht:P.underlying t=some (.slice el))(ht2:P.underlying t2=some d2)(hd2:ahB d2)(hi:P.info? el=some i)
 {x:Value} {news:List Value} (hlen:∀w':World,(Builtin.lenOf x).run P w'=.ok 0 w') (hnew:(Builtin.firstCells i.size 0 x).run P w=.ok news.toArray w):
 (Builtin.append_ #[t,t2] ty #[.slice none 0 0,x]).run P w=.ok (.slice none 0 0) w:=by
 rcases hd2 with⟨e2,rfl⟩|rfl<;>simp[Builtin.append_,run_underlying ht,run_underlying ht2,sizeOf,typeInfo,hi,hlen,hnew]
def aiy(z:Array Value)(n:Nat):(Builtin.zeroCells z n).size=n*z.size:=by simp[Builtin.zeroCells]
def af2{D:Nat->Prop}{B sz n:Nat}{f:(Unit->Nat)->List AV}{vs:List Value}(h:Els w D B sz n f vs){cur:Array Value}(hc:∀k,k<vs.length->cur[k]? = vs[k]?):
 ∀i,i<n->(f fun _=>i).length=sz∧(f fun _=>i).all AV.cell=true∧∀(j:Nat) (av:AV) (v:Value),(f fun _=>i)[j]? = some av->cur[i*sz+j]? = some v->RD w D B av v:=by
 intro i hi;obtain⟨a,b,c⟩:=h.el i hi;refine⟨a,b,fun j av v hj hv=>c j av v hj ?_⟩;have hjl:j<sz:=by have:=(List.getElem?_eq_some_iff.1 hj).1;omega
 have:i*sz+j<vs.length:=by
  rw[h.len];have:(i+1)*sz<=n*sz:=Nat.mul_le_mul_right _ hi;rw[Nat.add_mul]at this;omega
 rw[<- hc _ this];exact hv
def abt{n:Nat}(h:n<=35184372088832):n<=maxLen:=by unfold maxLen;omega
def aii(hT:TOk P T)(ht:TIOk P t ti)(h:RelB E S.tmps S.obj a w β){t2 ty:TypeId}{d2:TypeDesc}(ht2:P.underlying t2=some d2)(hd2:ahB d2){b x:AV}{bv xv:Value}{d:Nat}
 (hb:RX w (E.D w β S.obj) E.B β S.obj b bv) (hx:RX w (E.D w β S.obj) E.B β S.obj x xv) (hy:Yld S (aev T ti d b x) e) (hn:∀k∈e.new,S.aak k=true):ae0 E S a e ((Builtin.append_ #[t,t2] ty #[bv,xv]).run P w):=by
 unfold aev at hy;split at hy
 ·rename_i el hk;have hu:=ht.slice hk;simp only at hy;replace hy:=yI hy;obtain⟨hc,hy⟩:=hy;simp only[Bool.and_eq_true,decide_eq_true_eq]at hc;obtain⟨hreal,hpos⟩:=hc;have hte:=hT.at el hreal;obtain⟨i,z,hi,hisz,hiby,hiz,hizb,_⟩:=hte.ex;have hzsz:z.cells.size=i.size:=by
   have:=(ac1 (w:=w) (D:=fun _=>True) (B:=0) hizb).1;rw[hte.zlen]at this;rw[hisz,this];simp
  replace hy:=aeD (P:=P) h hx hy;obtain⟨m,g,us,hs,hy⟩:=hy;split at hy
  ·-- the nil slice
   obtain⟨hbd,hy⟩:=hy.cond;have:=hy.ret;subst this;obtain rfl:=hb.ab2;have hn:=hn d (by simp);by_cases hm:m ()=0
   ·have hr:=acz (P:=P) (ty:=ty) (w:=w) hu ht2 hd2 hi (x:=xv) (news:=us) (fun w'=>by rw[<- hm];exact hs.len w') (by rw[hisz,<- hm];exact hs.first w (fun _ _=>rfl));refine⟨_,_,hr,?_⟩;obtain⟨h1,h2⟩:=h.new hn (w':=w) ⟨rfl,rfl,rfl,Nat.le_refl _,fun _ _=>rfl⟩ (ob:=.arr false el (aa3 T el).size 0 m g) (v:=.slice none 0 0) (fun b hb=>by simp[aa9]at hb)
     (fun _ _=>.inl ⟨by simp[upd],hm⟩)
    exact⟨_,by rw[pO];exact h1,by rw[pO];exact .aref _ _ _ _ (.inl ⟨rfl,hm⟩) (fun x t sz' ver' n' f hH=>by simp[upd]at hH;obtain⟨_,_,_,rfl,rfl,_⟩:=hH;exact⟨Nat.le_refl _,fun _=>⟨rfl,by simp[upd]⟩⟩)⟩
   ·have hr:=abI (P:=P) (ty:=ty) (w:=w) hu ht2 hd2 hi hiz (base:=none) (n:=0) (cap:=0) (m:=m ()) (x:=xv) (olds:=[]) (news:=us) hs.len
     (fun w' _=>by simp[Builtin.firstCells]) (fun w' hw=>by rw[hisz];exact hs.first w' (fun b _=>by rw[hw])) (by omega) (by omega) (growslice_fits (by omega) (by rw[hiby];simp only[Nat.zero_add];omega))
    refine⟨_,_,hr,?_⟩;simp only[Nat.zero_add,Array.empty_append]at hr ⊢;have hge:=grownCap_ge w (m ()) 0 el;have hle:=grownCap_le_maxLen w (m ()) 0 el (abt hbd.2);generalize grownCap w (m ()) 0 el=c at hge hle ⊢;have hgrow:Grow w (w.drew.alloc (.cells (us.toArray++Builtin.zeroCells z.cells (c-m ())) el)):=Grow.acK w _;have hh:(w.drew.alloc (.cells (us.toArray++Builtin.zeroCells z.cells (c-m ())) el)).heap[w.heap.size]? = some (.cells (us.toArray++Builtin.zeroCells z.cells (c-m ())) el (0,0)):=heap_alloc_new w.drew _;obtain⟨h1,h2⟩:=h.new hn hgrow (ob:=.arr false el (aa3 T el).size 0 m g) (v:=.slice (some ⟨w.heap.size,0,none⟩) (m ()) c) (fun b hb=>by simp[aa9]at hb;omega)
     (fun _ hrd=>.inr ⟨w.heap.size,c,_,by simp[upd],hh,hge,hle,by
       rw[Array.size_append,aiy,List.size_toArray,hs.els.len,hzsz,hisz,<- Nat.add_mul];congr 1;omega,fun _=>h.frame.base,.inr h.frame.size,
       af2 (hs.els.mono hrd) (fun k hk=>by rw[Array.getElem?_append_left (by simpa using hk)];simp)⟩)
    exact⟨_,by rw[pO];exact h1,by rw[pO];exact .aref _ _ _ _ (.inr ⟨_,_,rfl,hge,hle⟩) (fun x t sz' ver' n' f hH=>by simp[upd]at hH;obtain⟨_,_,_,rfl,rfl,_⟩:=hH;exact⟨Nat.le_refl _,fun _=>⟨rfl,by simp[upd]⟩⟩)⟩
  ·-- an own array
   rename_i ob ver n;replace hy:=hy.obj;split at hy
   ·rename_i x1 ty1 sz ver' n' f hold;replace hy:=yI hy;obtain⟨hc,hy⟩:=hy;simp only[Bool.and_eq_true,beq_iff_eq]at hc;obtain⟨⟨hsz,hty⟩,hver⟩:=hc;obtain⟨hbd,hy⟩:=hy.cond;have:=hy.ret;subst this;subst hty;obtain⟨_,hq⟩:=hb.aI;obtain⟨_,hq⟩:=hq _ _ _ _ _ _ hold;obtain⟨hnn,rfl⟩:=hq hver;have ho:=h.objs ob;rw[hold]at ho;obtain⟨vs,hvs⟩:=anJ (P:=P) ho;rw[<- hnn]at hvs;have hcat:Els w (E.D w β S.obj) E.B sz (n ()+m ()) (catF n f g) (vs++us):=by
     refine Els.append (n:=n) (m:=m) hvs.els ?_;rw[hsz];exact hs.els
    rw[<- hsz]at hisz;rcases ho with⟨hβ,h0⟩|⟨gb,cap,cur,hβ,hh,hc1,hc2,hc3,hx1,hown,hel⟩
    ·-- still nil
     rw[<- hnn]at h0;by_cases hm:m ()=0
     ·have hr:=acz (P:=P) (ty:=ty) (w:=w) hu ht2 hd2 hi (x:=xv) (news:=us) (fun w'=>by rw[<- hm];exact hs.len w') (by rw[hisz,hsz,<- hm];exact hs.first w (fun _ _=>rfl));refine⟨_,_,by rw[hβ];exact hr,?_⟩;obtain⟨h1,h2⟩:=h.turn (o:=ob) (by rw[hold];trivial) (w':=w) rfl rfl rfl (Nat.le_refl _) (fun _ _ _=>rfl) (ob:=.arr x1 ty1 sz (ver+1) (fun _=>n ()+m ()) (catF n f g)) trivial (v:=.slice none 0 0)
       (fun b hb=>by simp[aa9]at hb) (fun b hb=>by rw[hβ]at hb;cases hb) (fun x t sz ver n f hf=>by rw[hold]at hf;cases hf;exact⟨_,_,_,rfl,.inr (by omega)⟩) (fun cs hcs=>by rw[hold]at hcs;cases hcs)
       (fun _ _=>.inl ⟨by simp[upd],by simp[h0,hm]⟩)
      exact⟨_,by rw[pO];exact h1,by rw[pO];exact .aref _ _ _ _ (.inl ⟨rfl,by simp[h0,hm]⟩) (fun x t sz' ver' n' f hH=>by simp[upd]at hH;obtain⟨_,_,_,rfl,rfl,_⟩:=hH;exact⟨Nat.le_refl _,fun _=>⟨rfl,by simp[upd]⟩⟩)⟩
     ·have hr:=abI (P:=P) (ty:=ty) (w:=w) hu ht2 hd2 hi hiz (base:=none) (n:=0) (cap:=0) (m:=m ()) (x:=xv) (olds:=[]) (news:=us) hs.len
       (fun w' _=>by simp[Builtin.firstCells]) (fun w' hw=>by rw[hisz,hsz];exact hs.first w' (fun b _=>by rw[hw])) (by omega) (by omega) (growslice_fits (by omega) (by rw[hiby];simp only[Nat.zero_add];have:=hbd.1;rw[h0,Nat.zero_add]at this;omega))
      refine⟨_,_,by rw[hβ];exact hr,?_⟩;simp only[Nat.zero_add,Array.empty_append]at hr ⊢;have hge:=grownCap_ge w (m ()) 0 ty1;have hle:=grownCap_le_maxLen w (m ()) 0 ty1 (abt (by omega));generalize grownCap w (m ()) 0 ty1=c at hge hle ⊢;have hgrow:Grow w (w.drew.alloc (.cells (us.toArray++Builtin.zeroCells z.cells (c-m ())) ty1)):=Grow.acK w _;have hh:(w.drew.alloc (.cells (us.toArray++Builtin.zeroCells z.cells (c-m ())) ty1)).heap[w.heap.size]? = some (.cells (us.toArray++Builtin.zeroCells z.cells (c-m ())) ty1 (0,0)):=heap_alloc_new w.drew _;have hvs0:vs=[]:=List.eq_nil_of_length_eq_zero (by rw[hvs.els.len,h0,Nat.zero_mul]);rw[hvs0,List.nil_append]at hcat
      obtain⟨h1,h2⟩:=h.turn (o:=ob) (by rw[hold];trivial) hgrow.os hgrow.tape hgrow.output hgrow.size (fun b hb _=>hgrow.old b hb) (ob:=.arr x1 ty1 sz (ver+1) (fun _=>n ()+m ()) (catF n f g)) trivial (v:=.slice (some ⟨w.heap.size,0,none⟩) (m ()) c)
       (fun b hb=>by simp[aa9]at hb;omega) (fun b hb=>by rw[hβ]at hb;cases hb) (fun x t sz ver n f hf=>by rw[hold]at hf;cases hf;exact⟨_,_,_,rfl,.inr (by omega)⟩) (fun cs hcs=>by rw[hold]at hcs;cases hcs)
       (fun _ hrd=>.inr ⟨w.heap.size,c,_,by simp[upd,h0],hh,by simp[h0];exact hge,hle,by
         rw[Array.size_append,aiy,List.size_toArray,hs.els.len,hzsz,<- hsz,hisz,<- Nat.add_mul];congr 1;omega,fun _=>h.frame.base,.inr h.frame.size,
         af2 (hcat.mono hrd) (fun k hk=>by rw[Array.getElem?_append_left (by simpa using hk)];simp)⟩)
      exact⟨_,by rw[pO];exact h1,by rw[pO];exact .aref _ _ _ _ (.inr ⟨w.heap.size,c,by simp[h0],by simp[h0];exact hge,hle⟩) (fun x t sz' ver' n' f hH=>by simp[upd]at hH;obtain⟨_,_,_,rfl,rfl,_⟩:=hH;exact⟨Nat.le_refl _,fun _=>⟨rfl,by simp[upd]⟩⟩)⟩
    ·rw [<- hnn]at hβ hc1;by_cases hroom:n ()+m ()<=cap
     ·have hfit:n ()*i.size+us.length<=cur.size:=by
       rw[hs.els.len,<- hsz,hisz,<- Nat.add_mul,hc3];exact Nat.mul_le_mul_right _ hroom
      have hr:=afi (P:=P) (ty:=ty) (w:=w) hu ht2 hd2 hi (g:=gb) (n:=n ()) (cap:=cap) (m:=m ()) (x:=xv) (cur:=cur) (news:=us) hh hs.len (by rw[hisz,hsz];exact hs.first w (fun _ _=>rfl)) hs.els.one hroom hfit;refine⟨_,_,by rw[hβ];exact hr,?_⟩;rw[hisz]at hfit ⊢;obtain⟨s1,s2⟩:=aiA (cur:=cur) (off:=n ()*sz) (new:=us) hfit;generalize hnew:(cur.toList.take (n ()*sz)++us++cur.toList.drop (n ()*sz+us.length)).toArray=new at s1 s2 ⊢;have hheap:=setRow_heap w gb cur new ty1 (0,0) hh;obtain⟨h1,h2⟩:=h.turn (o:=ob) (by rw[hold];trivial) (w':=w.setRow gb new) rfl rfl rfl (by simp) (fun k _ hk=>setRow_other w gb k new (fun e=>hk (by rw[hβ];simp[aa9,e])))
       (ob:=.arr x1 ty1 sz (ver+1) (fun _=>n ()+m ()) (catF n f g)) trivial (v:=.slice (some ⟨gb,0,none⟩) (n ()+m ()) cap)
       (fun b hb=>.inl (by rw[hβ];exact hb)) (fun b hb=>by rw[hβ]at hb;cases hb) (fun x t sz ver n f hf=>by rw[hold]at hf;cases hf;exact⟨_,_,_,rfl,.inr (by omega)⟩) (fun cs hcs=>by rw[hold]at hcs;cases hcs)
       (fun _ hrd=>.inr ⟨gb,cap,new,by simp[upd],hheap,hroom,hc2,by rw[s1,hc3],hx1,hown,fun k hk=>by
         have hkk:k<n ()+m ():=hk;by_cases hin:k<n ()
         ·have hf:catF n f g (fun _=>k)=f fun _=>k:=by simp[catF,hin]
          rw[hf];obtain⟨q1,q2,q3⟩:=hel k (by omega);refine⟨q1,q2,fun j av v hj hv=>hrd _ _ (q3 j av v hj ?_)⟩;have hjl:j<sz:=by have:=(List.getElem?_eq_some_iff.1 hj).1;omega
          have:(k+1)*sz<=n ()*sz:=Nat.mul_le_mul_right _ hin;rw[Nat.add_mul]at this;rw[s2,if_neg (by omega)]at hv;exact hv
         ·have hf:catF n f g (fun _=>k)=g fun _=>k-n ():=by simp[catF,hin]
          rw[hf];obtain⟨q1,q2,q3⟩:=hs.els.el (k-n ()) (by omega);refine⟨by rw[q1,hsz],q2,fun j av v hj hv=>hrd _ _ (q3 j av v hj ?_)⟩;have hjl:j<sz:=by have:=(List.getElem?_eq_some_iff.1 hj).1;omega
          have he:k*sz=n ()*sz+(k-n ())*sz:=by rw[<- Nat.add_mul];congr 1;omega
          have h3:(k-n ()+1)*sz<=m ()*sz:=Nat.mul_le_mul_right _ (by omega);rw[Nat.add_mul]at h3;have hul:us.length=m ()*sz:=by rw[hs.els.len,hsz]
          rw[s2,if_pos (by omega)]at hv;have:k*sz+j-n ()*sz=(k-n ())*(aa3 T ty1).size+j:=by rw[<- hsz];omega
          rw[this]at hv;exact hv⟩)
      exact⟨_,by rw[pO];exact h1,by rw[pO];exact .aref _ _ _ _ (.inr ⟨_,_,rfl,hroom,hc2⟩) (fun x t sz' ver' n' f hH=>by simp[upd]at hH;obtain⟨_,_,_,rfl,rfl,_⟩:=hH;exact⟨Nat.le_refl _,fun _=>⟨rfl,by simp[upd]⟩⟩)⟩
     ·have hr:=abI (P:=P) (ty:=ty) (w:=w) hu ht2 hd2 hi hiz (base:=some ⟨gb,0,none⟩) (n:=n ()) (cap:=cap) (m:=m ()) (x:=xv) (olds:=vs) (news:=us) hs.len
       (fun w' hw=>by rw[hisz,<- hβ];exact hvs.first w' (fun b _=>by rw[hw])) (fun w' hw=>by rw[hisz,hsz];exact hs.first w' (fun b _=>by rw[hw])) (by omega) (by omega) (growslice_fits (by omega) (by rw[hiby];omega))
      refine⟨_,_,by rw[hβ];exact hr,?_⟩;have hge:=grownCap_ge w (n ()+m ()) cap ty1;have hle:=grownCap_le_maxLen w (n ()+m ()) cap ty1 (abt hbd.2);generalize grownCap w (n ()+m ()) cap ty1=c at hge hle ⊢;have hgrow:Grow w (w.drew.alloc (.cells (vs.toArray++us.toArray++Builtin.zeroCells z.cells (c-(n ()+m ()))) ty1)):=Grow.acK w _;have hh2:(w.drew.alloc (.cells (vs.toArray++us.toArray++Builtin.zeroCells z.cells (c-(n ()+m ()))) ty1)).heap[w.heap.size]? = some (.cells (vs.toArray++us.toArray++Builtin.zeroCells z.cells (c-(n ()+m ()))) ty1 (0,0)):=heap_alloc_new w.drew _;obtain⟨h1,h2⟩:=h.turn (o:=ob) (by rw[hold];trivial) hgrow.os hgrow.tape hgrow.output hgrow.size (fun b hb _=>hgrow.old b hb) (ob:=.arr x1 ty1 sz (ver+1) (fun _=>n ()+m ()) (catF n f g)) trivial (v:=.slice (some ⟨w.heap.size,0,none⟩) (n ()+m ()) c)
       (fun b hb=>by simp[aa9]at hb;omega) (fun b hb=>by rw[hβ]at hb;cases hb) (fun x t sz ver n f hf=>by rw[hold]at hf;cases hf;exact⟨_,_,_,rfl,.inr (by omega)⟩) (fun cs hcs=>by rw[hold]at hcs;cases hcs)
       (fun _ hrd=>.inr ⟨w.heap.size,c,_,by simp[upd],hh2,hge,hle,by
         rw[Array.size_append,Array.size_append,aiy,List.size_toArray,List.size_toArray,hs.els.len,hvs.els.len,hzsz,<- hsz,hisz,<- Nat.add_mul,<- Nat.add_mul];congr 1;omega,fun _=>h.frame.base,.inr h.frame.size,
         af2 (hcat.mono hrd) (fun k hk=>by
          rw[Array.getElem?_append_left (by simp at hk ⊢;omega)];have e:vs.toArray++us.toArray=(vs++us).toArray:=by apply Array.ext';simp
          rw[e,List.getElem?_toArray])⟩)
      exact⟨_,by rw[pO];exact h1,by rw[pO];exact .aref _ _ _ _ (.inr ⟨_,_,rfl,hge,hle⟩) (fun x t sz' ver' n' f hH=>by simp[upd]at hH;obtain⟨_,_,_,rfl,rfl,_⟩:=hH;exact⟨Nat.le_refl _,fun _=>⟨rfl,by simp[upd]⟩⟩)⟩
   ·exact hy.fail.elim
  ·exact hy.fail.elim
 ·exact hy.fail.elim
end
section
variable {P:Program}{E:Env}{S:AS}{a:Act}{w:World}{β:Nat->Value}{o:Oper}{e:Eff}{ti:TI}{t:Nat}{T:List (Nat×TI)}
def BndOk(v:Option Value)(d l:Int):Prop:=(v=none∧l=d)∨∃k,v=some (.int k l)
def acM{b:Bool}{len cap:Nat}{lv hv:Option Value}{l h:Int}(hl:BndOk lv 0 l)(hh:BndOk hv len h)(h0:0<=l)(h1:l<=h)(h2:h<=cap):
 (Instr.sliceBounds b len cap lv hv none).run P w=.ok (l.toNat,h.toNat,cap) w:=by
 have hs:∀(k:IntKind) (i:Int) (y:Nat) (c:BoundsCode),0<=i->i<=y->(Instr.sliceBound (.int k i) y c).run P w=.ok i.toNat w:=fun k i y c a b=>run_sliceBound (P:=P) w k i y c a b;have hht:(h.toNat:Int)=h:=by omega
 rcases hl with⟨rfl,rfl⟩|⟨k,rfl⟩
 ·rcases hh with⟨rfl,rfl⟩|⟨k',rfl⟩
  ·simp[Instr.sliceBounds]
  ·simp[Instr.sliceBounds,hs k' h cap _ (by omega) h2]
 ·rcases hh with⟨rfl,rfl⟩|⟨k',rfl⟩
  ·simp[Instr.sliceBounds,hs k l len _ h0 h1]
  ·simp[Instr.sliceBounds,hs k' h cap _ (by omega) h2,hs k l h.toNat _ h0 (by omega)]
def aaX{D:Nat->Prop}{B:Nat}{H:Nat->AO}{d:Unit->Int}{x:Option AV}{v:Option Value}(hx:(x=none∧v=none)∨∃av u,x=some av∧v=some u∧RX w D B β H av u){l:Unit->Int}(h:ae4 d x=some l):BndOk v (d ()) (l ()):=by
 rcases hx with⟨rfl,rfl⟩|⟨av,u,rfl,rfl,hr⟩
 ·simp[ae4]at h;subst h;exact .inl ⟨rfl,rfl⟩
 ·unfold ae4 at h;split at h
  ·rename_i e;cases e
  ·rename_i k i e;simp at h;subst h;simp at e;subst e;exact .inr ⟨k,by rw[hr.aaq]⟩
  ·cases h
def slc_part{D:Nat->Prop}{B:Nat}{fr:FB}{sz:Nat}{n:Unit->Nat}{f:(Unit->Nat)->List AV}{p:Option Addr}{cap:Nat}(h:RD w D B (.slc fr sz n f) (.slice p (n ()) cap)){l k:Nat}(hlk:l<=k)(hk:k<=n ()):
 RD w D B (.slc fr sz (fun _=>k-l) (fun j=>f fun _=>l+j ())) (.slice (if cap=l then p else p.map (·.add (l*sz))) (k-l) (cap-l)):=by
 generalize hv:Value.slice p (n ()) cap=v at h;cases h with
 | empty _ _ _ _ p' cap' hn hc=>
  simp at hv;obtain⟨rfl,_,rfl⟩:=hv;have e1:k-l=0:=by omega
  rw[e1];exact .empty _ _ _ _ _ _ (by simp) (by omega)
 | slc _ _ _ _ b o cap' c hn hc hD hB hcell hlen hone hel=>
  simp at hv;obtain⟨rfl,rfl⟩:=hv;by_cases he:k=l
  ·subst he;rw[Nat.sub_self];exact .empty _ _ _ _ _ _ (by simp) (by omega)
  ·rw [if_neg (by omega),Option.map_some,Addr.add_lit];refine .slc _ _ (fun _=>k-l) _ b (o+l*sz) (cap-l) (fun i=>c (l*sz+i)) (by simp;omega) (by omega) hD hB (fun i hi=>?_) (fun i hi=>hlen (l+i) (by have hi':i<k-l:=hi;omega)) (fun i hi=>hone (l+i) (by have hi':i<k-l:=hi;omega)) (fun i j av hi hj=>?_)
   ·have:=hcell (l*sz+i) (by
     have h1:l*sz+(k-l)*sz=k*sz:=by rw[<- Nat.add_mul];congr 1;omega
     have h2:k*sz<=n ()*sz:=Nat.mul_le_mul_right _ hk;have hi':i<(k-l)*sz:=hi;omega)
    rw[Nat.add_assoc];exact this
   ·have:=hel (l+i) j av (by have hi':i<k-l:=hi;omega) hj;rw[Nat.add_mul,Nat.add_assoc]at this;exact this
def aix{x:Value}{lo hi mx:Option Value}(hu:P.underlying t=some .string):(Instr.sliceAt t x lo hi mx).run P w=(Instr.slice t x lo hi mx).run P w:=by
 simp[Instr.sliceAt,run_underlying hu]
def ac7{x:Value}{el:TypeId}{lo hi mx:Option Value}(hu:P.underlying t=some (.slice el)):(Instr.sliceAt t x lo hi mx).run P w=(Instr.slice t x lo hi mx).run P w:=by
 simp[Instr.sliceAt,run_underlying hu]
def aiv(hT:TOk P T)(ht:TIOk P t ti)(h:RelB E S.tmps S.obj a w β){x:AV}{v:Value}{lo hi:Option AV}{lv hv:Option Value}(hx:RX w (E.D w β S.obj) E.B β S.obj x v)
 (hl:(lo=none∧lv=none)∨∃av u,lo=some av∧lv=some u∧RX w (E.D w β S.obj) E.B β S.obj av u) (hh:(hi=none∧hv=none)∨∃av u,hi=some av∧hv=some u∧RX w (E.D w β S.obj) E.B β S.obj av u)
 (hy:Yld S (aiw T ti x lo hi) e):ae0 E S a e ((Instr.sliceAt t v lv hv none).run P w):=by
 unfold aiw at hy;split at hy
 ·rename_i s hk;have hu:=ht.str hk;split at hy
  ·rename_i l hh' hl1 hh1;obtain⟨hc,hy⟩:=hy.cond;obtain rfl:=vI hy;obtain rfl:=hx.aaI;have hb:=acM (P:=P) (w:=w) (b:=false) (cap:=(s ()).size) (aaX hl hl1) (aaX hh hh1) hc.1 hc.2.1 hc.2.2;refine aau.eff h ⟨.string ((s ()).extract (l ()).toNat (hh' ()).toNat),?_,.d (.str (fun _=>(s ()).extract (l ()).toNat (hh' ()).toNat)),rfl,rfl,rfl⟩;rw[aix hu];simp[Instr.slice,run_underlying hu,hb]
  ·exact hy.fail.elim
 ·rename_i el fr sz n f hk;have hu:=ht.slice hk;split at hy
  ·rename_i l hh' hl1 hh1;obtain⟨hc,hy⟩:=hy.cond;obtain⟨te,hte,hreal,_,hy⟩:=abz hT hy;obtain⟨hsz,hy⟩:=yI hy;obtain rfl:=vI hy;simp at hsz;have hd:=hx.aaJ;obtain⟨p,cap,rfl,hcm,hnc,_⟩:=hd.aaJ;have hb:=acM (P:=P) (w:=w) (b:=true) (cap:=cap) (aaX hl hl1) (aaX hh hh1) hc.1 hc.2.1 (by omega);have hs:=hte.sizeOf (w:=w);have hp:=slc_part hd (l:=(l ()).toNat) (k:=(hh' ()).toNat) (by omega) (by omega);refine aau.eff h ⟨_,?_,.d hp,rfl,rfl,rfl⟩;rw[ac7 hu];simp[Instr.slice,run_underlying hu,hb,hs,hsz]
  ·exact hy.fail.elim
 ·rename_i el ob ver n hk;have hu:=ht.slice hk;split at hy
  ·exact hy.fail.elim
  ·replace hy := hy.obj;split at hy
   ·rename_i x1 ty sz ver' n' f hold;split at hy
    ·rename_i hh' hh1;replace hy:=yI hy;obtain⟨hver,hy⟩:=hy;simp at hver;obtain⟨hc,hy⟩:=hy.cond;obtain⟨te,hte,hreal,_,hy⟩:=abz hT hy;split at hy
     ·exact hy.fail.elim
     ·rename_i hsz;simp at hsz;have:=hy.ret;subst this;obtain⟨hvo,hq⟩:=hx.aI;obtain⟨_,hq⟩:=hq _ _ _ _ _ _ hold;obtain⟨hnn,rfl⟩:=hq hver;have ho:=h.objs ob;rw[hold]at ho;have hs:=hte.sizeOf (w:=w);have hl0:lv=none:=by
       rcases hl with⟨_,h2⟩|⟨av,u,h1,_⟩
       ·exact h2
       ·cases h1
      subst hl0;rcases ho with⟨hβ,h0⟩|⟨gb,cap,cur,hβ,hheap,hc1,hc2,hc3,hx1,hown,hel⟩
      ·have hz:hh' ()=0:=by omega
       have hb:=acM (P:=P) (w:=w) (b:=true) (len:=0) (cap:=0) (lv:=none) (hv:=hv) (l:=0) (h:=hh' ()) (.inl ⟨rfl,rfl⟩) (by
        have:=aaX (w:=w) (β:=β) hh hh1;rw[hnn,h0]at this;exact this) (by omega) (by omega) (by omega)
       refine⟨.slice none 0 0,w,?_,?_⟩
       ·rw[hβ,ac7 hu];simp[Instr.slice,run_underlying hu,hb,hs,hz]
       ·obtain⟨h1,h2⟩:=h.turn (o:=ob) (by rw[hold];trivial) (w':=w) rfl rfl rfl (Nat.le_refl _) (fun _ _ _=>rfl) (ob:=.arr x1 ty sz (ver+1) (fun _=>(hh' ()).toNat) f) trivial (v:=.slice none 0 0)
         (fun b hb=>by simp[aa9]at hb) (fun b hb=>by rw[hβ]at hb;cases hb) (fun x t sz ver n f hf=>by rw[hold]at hf;cases hf;exact⟨_,_,_,rfl,.inr (by omega)⟩) (fun cs hcs=>by rw[hold]at hcs;cases hcs)
         (fun _ _=>.inl ⟨by simp[upd],by simp[hz]⟩)
        exact⟨_,by rw[pO];exact h1,by rw[pO];exact .aref _ _ _ _ (.inl ⟨rfl,by simp[hz]⟩) (fun x t sz' ver' n' f hH=>by simp[upd]at hH;obtain⟨_,_,_,rfl,rfl,_⟩:=hH;exact⟨Nat.le_refl _,fun _=>⟨rfl,by simp[upd]⟩⟩)⟩
      ·have hb:=acM (P:=P) (w:=w) (b:=true) (len:=n' ()) (cap:=cap) (lv:=none) (hv:=hv) (l:=0) (h:=hh' ()) (.inl ⟨rfl,rfl⟩) (by
        have:=aaX (w:=w) (β:=β) hh hh1;rw[hnn]at this;exact this) (by omega) (by omega) (by omega)
       refine⟨.slice (some ⟨gb,0,none⟩) (hh' ()).toNat cap,w,?_,?_⟩
       ·rw[hβ,ac7 hu];simp only[Instr.slice,Sem.run_bind,run_underlying hu,Result.andThen_ok,hb,hs];by_cases hcap:cap=0
        ·subst hcap;simp
        ·simp[hcap,Addr.add_lit]
       ·obtain⟨h1,h2⟩:=h.turn (o:=ob) (by rw[hold];trivial) (w':=w) rfl rfl rfl (Nat.le_refl _) (fun _ _ _=>rfl) (ob:=.arr x1 ty sz (ver+1) (fun _=>(hh' ()).toNat) f) trivial (v:=.slice (some ⟨gb,0,none⟩) (hh' ()).toNat cap)
         (fun b hb=>.inl (by rw[hβ];exact hb)) (fun b hb=>by rw[hβ]at hb;cases hb) (fun x t sz ver n f hf=>by rw[hold]at hf;cases hf;exact⟨_,_,_,rfl,.inr (by omega)⟩) (fun cs hcs=>by rw[hold]at hcs;cases hcs)
         (fun _ hrd=>.inr ⟨gb,cap,cur,by simp[upd],hheap,by show(hh' ()).toNat<=cap;omega,hc2,hc3,hx1,hown,fun i hi=>by
           obtain⟨q1,q2,q3⟩:=hel i (by have:i<(hh' ()).toNat:=hi;omega);exact⟨q1,q2,fun j av v hj hv=>hrd _ _ (q3 j av v hj hv)⟩⟩)
        exact⟨_,by rw[pO];exact h1,by rw[pO];exact .aref _ _ _ _ (.inr ⟨_,_,rfl,by show(hh' ()).toNat<=cap;omega,hc2⟩) (fun x t sz' ver' n' f hH=>by simp[upd]at hH;obtain⟨_,_,_,rfl,rfl,_⟩:=hH;exact⟨Nat.le_refl _,fun _=>⟨rfl,by simp[upd]⟩⟩)⟩
    ·exact hy.fail.elim
   ·exact hy.fail.elim
 ·exact hy.fail.elim
end
section
variable {P:Program}{E:Env}{S:AS}{a:Act}{w:World}{β:Nat->Value}{o:Oper}{e:Eff}{ti:TI}{t:Nat}{T:List (Nat×TI)}
theorem ai2{α:Type}(z:α):∀(sz n:Nat) (cs:List AV) (i:Nat),i<n->(chunks sz n cs).getD i []=(cs.drop (i*sz)).take sz
 | sz,0,cs,i,h=>by omega
 | sz,n+1,cs,0,h=>by simp[chunks]
 | sz,n+1,cs,i+1,h=>by
  simp only[chunks,List.getD_cons_succ];rw[ai2 z sz n (cs.drop sz) i (by omega),List.drop_drop,Nat.add_mul];congr 2;omega
def lit_els{D:Nat->Prop}{B sz n:Nat}{cs:List AV}{vs:Array Value}(hl:cs.length=n*sz)(hv:vs.size=n*sz)(hc:cs.all AV.cell=true)(h:∀(i:Nat) (av:AV) (v:Value),cs[i]? = some av->vs[i]? = some v->RD w D B av v):
 Els w D B sz n (aaL (chunks sz n cs)) vs.toList:=by
 refine⟨by simp[hv],fun i hi=>?_⟩;have hf:aaL (chunks sz n cs) (fun _=>i)=(cs.drop (i*sz)).take sz:=by unfold aaL;exact ai2 () sz n cs i hi
 have hle:(i+1)*sz<=n*sz:=Nat.mul_le_mul_right _ hi;rw[Nat.add_mul]at hle;rw[hf];refine⟨by simp;omega,?_,fun j av v hj hv=>?_⟩
 ·rw[List.all_eq_true]at hc ⊢;exact fun q hq=>hc q (List.mem_of_mem_drop (List.mem_of_mem_take hq))
 ·obtain⟨_,hj⟩:=ai6 hj;exact h _ _ _ hj (by simpa using hv)
def RelB.grow(h:RelB E S.tmps S.obj a w β){w':World}(hg:Grow w w'):RelB E S.tmps S.obj a w' β ∧
 (∀b,w.heap.size<=b->b<w'.heap.size->E.D w' β S.obj b)∧(∀av u,RX w (E.D w β S.obj) E.B β S.obj av u->RX w' (E.D w' β S.obj) E.B β S.obj av u):=by
 have hDD:∀b,E.D w β S.obj b->E.D w' β S.obj b:=fun b hb=>⟨hb.1,Nat.lt_of_lt_of_le hb.2.1 hg.size,hb.2.2⟩
 have hrd:∀av u,RD w (E.D w β S.obj) E.B av u->RD w' (E.D w' β S.obj) E.B av u:=fun av u hr=>hr.mono (fun b hb=>hg.old b hb.lt) hDD (Nat.le_refl _);have hrx:∀av u,RX w (E.D w β S.obj) E.B β S.obj av u->RX w' (E.D w' β S.obj) E.B β S.obj av u:=fun av u hr=>
  hr.map hrd (fun o off v hp=>by obtain⟨b,h1,rfl⟩:=hp.aa6;exact .ptr _ _ _ h1) (fun o ver n v hp=>by obtain⟨h1,h2⟩:=hp.aI;exact .aref _ _ _ _ h1 h2)
   (fun o sz ver n i off v hp=>by obtain⟨h1,h2,h3⟩:=hp.aaF;exact .aptr _ _ _ _ _ _ _ h1 h2 h3)
 refine⟨⟨h.defers,h.size,fun t av ht=>hrx _ _ (h.tmps t av ht),fun o=>?_,h.apart,h.frame.grow hg,h.pin⟩,fun b h1 h2=>⟨.inr (.inr (Nat.le_trans h.frame.size h1)),h2,fun o hi hq=>?_⟩,hrx⟩
 ·have hoo:=h.objs o;by_cases hi:(S.obj o).is
  ·exact hoo.mono rfl (fun b hb=>hg.old b (hoo.lt hb hi).1) (fun cs _ i av u _ hr=>hrx av u hr) hrd
  ·cases hq:S.obj o with
   | none=>trivial
   | box cs=>rw[hq]at hi;exact(hi trivial).elim
   | arr x t sz ver n f=>rw[hq]at hi;exact(hi trivial).elim
   | it ks f seen pend=>rw[hq]at hi;exact(hi trivial).elim
 ·have:=((h.objs o).lt hq hi).1;omega
def ajW:List AV->Int
 | [.int .u8 x]=>x ()
 | _=>0
def aje(l:List AV):ajf l=UInt8.ofNat (ajW l).toNat:=by
 unfold ajf ajW;split
 ·rfl
 ·rename_i h
  first
   | rfl
   | (split
      ·rename_i x;exact absurd rfl (h x)
      ·rfl)
theorem ajI:∀(ns:List Int) (s:ByteArray),ns.foldl (fun(r:ByteArray) n=>r.push (UInt8.ofNat n.toNat)) s=⟨s.data++(ns.map fun n=>UInt8.ofNat n.toNat).toArray⟩
 | [],s=>by simp
 | n::r,s=>by
  rw[List.foldl_cons,ajI r];congr 1;apply Array.ext';simp[ByteArray.push]
def anv{D:Nat->Prop}{B m:Nat}{g:(Unit->Nat)->List AV}{us:List Value}(h:Els w D B 1 m g us)(hb:∀i,i<m->isByte (g fun _=>i)=true):
 us=((List.range m).map fun i=>ajW (g fun _=>i)).map (Value.int .u8):=by
 refine List.ext_getElem (by simp[h.len]) fun i h1 h2=>?_;have hi:i<m:=by have:=h.len;omega
 have hbi:=hb i hi;obtain⟨_,_,q⟩:=h.el i hi;simp only[List.getElem_map,List.getElem_range];unfold isByte at hbi;split at hbi
 ·rename_i x hx;have:=q 0 (.int .u8 x) us[i] (by rw[hx];rfl) (by simpa using List.getElem?_eq_getElem h1);rw[hx];generalize us[i]=y at this;cases this;rfl
 ·cases hbi
def alb(hT:TOk P T){s:Nat}{si:TI}(hs:TIOk P s si)(ht:TIOk P t ti)(h:RelB E S.tmps S.obj a w β){x:AV}{v:Value}(hx:RX w (E.D w β S.obj) E.B β S.obj x v){el:Nat}(hk1:si.k=.slice el)(hk2:ti.k=.str)(hreal:(aa3 T el).real=true)(hke:(aa3 T el).k=.int .u8)(hstr:∀q,x≠.str q)
 (hy:Yld S (akw 1 x fun n f=>.cond (fun _=>∀i,i<n ()->isByte (f fun _=>i)=true) (val (.str (fun _=>ag4 n f)))) e):aau E S w β e ((convert s t v).run P w):=by
 have hv:∃p n cap,v=.slice p n cap:=by
  unfold akw at hy;split at hy
  ·exact⟨_,_,_,hx.ab2⟩
  ·obtain⟨p,cap,rfl,_⟩:=hx.aaJ.aaJ;exact⟨_,_,_,rfl⟩
  ·rcases hx.aI.1 with⟨rfl,_⟩|⟨g,cap,rfl,_⟩<;>exact⟨_,_,_,rfl⟩
  ·exact absurd rfl (hstr _)
  ·exact hy.fail.elim
 obtain⟨p,n,cap,rfl⟩:=hv;obtain⟨m,g,us,hsrc,hy⟩:=aeD (P:=P) h hx hy;obtain⟨hb,hy⟩:=hy.cond;obtain rfl:=vI hy;have hn:n=m ():=by
  have h1:=hsrc.len w;rw[ab3]at h1;cases h1;rfl
 subst hn;have hus:=anv hsrc.els hb;have hf:=hsrc.first w (fun _ _=>rfl);have hte:=hT.at el hreal;refine⟨.string (ag4 m g),?_,.d (.str (fun _=>ag4 m g)),rfl,rfl,rfl⟩;rw[run_convert_bytes_string w s t el p (m ()) cap (hs.slice hk1) (hte.int hke) (ht.str hk2)];have hB:ag4 m g=⟨(((List.range (m ())).map fun i=>ajW (g fun _=>i)).map fun n=>UInt8.ofNat n.toNat).toArray⟩:=by
  unfold ag4;congr 2;rw[List.map_map];exact List.map_congr_left fun i _=>aje _
 cases p with
 | none=>
  simp only[Builtin.firstCells,Sem.run_pure,Result.ok.injEq,and_true]at hf;have h0:us=[]:=by simpa using hf.symm
  have hm:m ()=0:=by have:=hsrc.els.len;rw[h0]at this;simpa using this.symm
  rw[hB,hm];simp[Conv.bytesToString];rfl
 | some A=>
  simp only[Builtin.firstCells,Nat.mul_one]at hf;rw[hus]at hf;rw[run_bytesToString w A (m ()) cap _ hf,ajI,hB];have he:ByteArray.empty.data=#[]:=rfl;rw[he,Array.empty_append]
def al8(hT:TOk P T){s:Nat}{si:TI}(hs:TIOk P s si)(ht:TIOk P t ti)(h:RelB E S.tmps S.obj a w β){x:AV}{v:Value}(hx:RX w (E.D w β S.obj) E.B β S.obj x v)
 (hy:Yld S (anh T si ti x) e):ae0 E S a e ((convert s t v).run P w):=by
 unfold anh at hy;split at hy
 ·rename_i k0 k k1 n hk1 hk2;obtain rfl:=vI hy;obtain rfl:=hx.aaq;exact aau.eff h ⟨.int k (k.wrap (n ())),by simp[convert,run_underlying (hs.int hk1),run_underlying (ht.int hk2),Conv.intToInt],.d (.int k (fun _=>k.wrap (n ()))),rfl,rfl,rfl⟩
 ·rename_i q hk1 hk2;obtain rfl:=vI hy;obtain rfl:=hx.aaI;exact aau.eff h ⟨.string (q ()),by simp[convert,run_underlying (hs.str hk1),run_underlying (ht.str hk2)],.d (.str q),rfl,rfl,rfl⟩
 ·rename_i el q hk1 hk2;split at hy
  ·exact hy.fail.elim
  ·rename_i hreal;simp at hreal;have hte:=hT.at el hreal;split at hy
   ·rename_i hke;obtain⟨hc,hy⟩:=hy.cond;obtain rfl:=vI hy;obtain rfl:=hx.aaI;have hge:=grownCap_ge w (q ()).size 0 el;have hle:=grownCap_le_maxLen w (q ()).size 0 el (abt hc);generalize hcap:grownCap w (q ()).size 0 el=c at hge hle;have hrun:=run_bytes_of_string (P:=P) w s t el (q ()) (hs.str hk1) (ht.slice hk2) (hte.int hke);rw[hcap]at hrun;have hcell:∀k,k<(q ()).size->(bytesRow (q ()) c)[k]? = some (.int .u8 ((((q ()).data[k]?).getD 0).toNat)):=by
     intro k hk;have hk':k<(q ()).data.size:=hk;unfold bytesRow;rw[Array.getElem?_append_left (by simpa using hk')];have hg:(q ()).data[k]? = some (q ()).data[k]:=Array.getElem?_eq_getElem hk';simp[hg]
    generalize bytesRow (q ()) c=row at hrun hcell;have hg:=h.grow (Grow.acK w (.cells row el (row.size,row.size+1)));refine⟨_,_,hrun,β,hg.1,.d ?_⟩;have hD:=hg.2.1 w.heap.size (Nat.le_refl _) (by simp);refine .slc .any 1 (fun _=>(q ()).size) _ w.heap.size 0 c (fun k=>.int .u8 ((((q ()).data[k]?).getD 0).toNat)) hge hle hD trivial (fun k hk=>?_) (fun i hi=>rfl) (fun i hi=>by simp[AV.cell]) (fun i j av hi hj=>?_)
    ·have hh:(w.drew.alloc (.cells row el (row.size,row.size+1))).heap[w.heap.size]? = some (.cells row el (row.size,row.size+1)):=by
      show(w.heap.push _)[w.heap.size]? = _;simp
     have hk':k<(q ()).size:=by simpa using hk
     simp only[World.cell?,hh,Nat.zero_add];simpa using hcell k hk'
    ·cases j with
     | zero=>simp at hj;subst hj;simpa using RD.int (B:=E.B) .u8 (fun _=>((((q ()).data[i]?).getD 0).toNat:Int))
     | succ j=>simp at hj
   ·exact hy.fail.elim
 ·rename_i el hk1 hk2;split at hy
  ·exact hy.fail.elim
  ·rename_i hreal;simp at hreal;split at hy
   ·rename_i hke;split at hy
    ·exact hy.fail.elim
    ·rename_i hns;exact aau.eff h (alb hT hs ht h hx hk1 hk2 hreal hke (fun q e=>hns q e) hy)
   ·exact hy.fail.elim
 ·exact hy.fail.elim
def RXs.pure{D:Nat->Prop}{B:Nat}{H:Nat->AO}{cs:List AV}{vs:Array Value}(h:RXs w D B β H cs vs)(hp:AV.aae cs=true)(i:Nat)(av:AV)(v:Value)(hi:cs[i]? = some av)(hv:vs[i]? = some v):RD w D B av v:=
 (h.2 i av v hi hv).pure (ace hp i av hi)
theorem aek(z:List AV):∀n,(repl n z).length=n*z.length
 | 0=>by simp[repl]
 | n+1=>by simp[repl,aek z n,Nat.add_mul];omega
theorem ajD{α:Type}(z:List AV)(_x:α):∀(n k:Nat) ,0<z.length->k<n*z.length->(repl n z)[k]? = z[k%z.length]?
 | 0,k,_,h=>by simp at h
 | n+1,k,hz,h=>by
  simp only[repl];by_cases hk:k<z.length
  ·rw[List.getElem?_append_left hk,Nat.mod_eq_of_lt hk]
  ·rw[List.getElem?_append_right (by omega),ajD z _x n _ hz (by rw[Nat.add_mul]at h;omega)];congr 1;rw[Nat.mod_eq_sub_mod (by omega) (a:=k)]
theorem ak3{fs:List (Nat×Nat)}:∀{ps:List (Nat×AV)} {cs out:List AV},aaS fs T cs ps=some out->out.length=cs.length
 | [],cs,out,h=>by simp[aaS]at h;rw[h]
 | (i,av)::r,cs,out,h=>by
  simp only[aaS]at h;split at h
  ·split at h
   ·rename_i hc;simp at hc;rw[ak3 h,acC hc.2]
   ·cases h
  ·cases h
def sel_pure(cs:List AV)(i:Unit->Int):AV.aae [aaP cs i]=true:=by
 unfold aaP;split
 ·split<;>simp[AV.aae]
 ·split<;>simp[AV.aae]
 ·split<;>simp[AV.aae]
 ·simp[AV.aae]
def alN(cs:List AV)(i i':Unit->Int):(aaP cs i).cell=(aaP cs i').cell:=by
 unfold aaP;split
 ·split<;>rfl
 ·split<;>rfl
 ·split<;>rfl
 ·rfl
def sel_cell{cs:List AV}{sz len:Nat}(h:(selF cs sz len fun _=>0).all AV.cell=true)(i:Nat):(selF cs sz len fun _=>i).all AV.cell=true:=by
 simp only[selF,abK,List.all_map,List.all_eq_true,Function.comp]at h ⊢;exact fun j hj=>(alN _ _ _).trans (h j hj)
def aeh(hT:TOk P T)(ht:TIOk P t ti)(h:RelB E S.tmps S.obj a w β){ps:List (Nat×AV)}{qs:List (Nat×Value)}{len d:Nat}{dat:Option Bool}(hq:ail w (E.D w β S.obj) E.B β S.obj ps qs)
 (hy:Yld S (acy T ti len ps d dat) e) (hn:∀k∈e.new,S.aak k=true):ae0 E S a e ((Instr.buildSlice t len qs.toArray).run P w):=by
 unfold acy at hy;split at hy
 ·rename_i el hk;have hu:=ht.slice hk;simp only at hy;split at hy
  ·rename_i cs hcs;replace hy:=yI hy;obtain⟨hc,hy⟩:=hy;simp only[Bool.and_eq_true,decide_eq_true_eq]at hc;obtain⟨⟨⟨⟨hok,hcell⟩,hreal⟩,hpos⟩,hlim⟩:=hc;have hte:=hT.at el hreal;obtain⟨z,hz,hzb⟩:=hte.zeroValue (w:=w);have hzr:=aio (w:=w) (D:=E.D w β S.obj) (B:=E.B) (β:=β) (H:=S.obj) hzb;have hzl:=hte.zlen;have hall:∀p∈ps,p.2.cells.all AV.cell=true:=fun p hp=>List.all_eq_true.1 hok p hp;have hs:=hte.sizeOf (w:=w);have hzsz:z.cells.size=(aa3 T el).size:=by rw[<- hzr.1,hzl]
   have hrow:RXs w (E.D w β S.obj) E.B β S.obj (repl len (aa3 T el).zero) ((Array.range (len*(aa3 T el).size)).map (z.cells[· % z.cells.size]!)):=by
    refine⟨by rw[aek,hzl];simp,fun i av v hi hv=>?_⟩;have hlt:i<len*(aa3 T el).size:=by
     have:=(List.getElem?_eq_some_iff.1 hi).1;rw[aek,hzl]at this;exact this
    rw[ajD _ () len i (by omega) (by rw[hzl];exact hlt),hzl]at hi;have hm:i%(aa3 T el).size<z.cells.size:=by rw[hzsz];exact Nat.mod_lt _ hpos
    simp[hlt]at hv;refine hzr.2 _ _ _ hi ?_;rw[<- hv,hzsz,getElem!_pos z.cells _ hm];simp[hm]
   obtain⟨us,h1,h2⟩:=acI hT (place:=fun i=>some (i*(aa3 T el).size,(aa3 T el).size)) (fun i off t hi hr=>by
    rw[List.getElem?_map]at hi;cases hq:(List.range len)[i]? with
    | none=>rw[hq]at hi;simp at hi
    | some k=>
     rw[hq]at hi;obtain⟨hlt,hk⟩:=List.getElem?_eq_some_iff.1 hq;simp at hi hk;obtain⟨rfl,rfl⟩:=hi;simp[hk]) hrow hq hall hcs
   have hcl:cs.length=len*(aa3 T el).size:=by rw[ak3 hcs,aek,hzl]
   have hul:us.size=len*(aa3 T el).size:=by rw[<- h2.1,hcl]
   have hrun:(Instr.buildSlice t len qs.toArray).run P w=.ok (.slice (some ⟨w.heap.size,0,none⟩) len len) (w.alloc (.cells us el)):=by
    have hlim':¬(2^24<len*(aa3 T el).size):=by omega
    by_cases h0:len*(aa3 T el).size=0
    ·have:len=0:=by
      rcases Nat.mul_eq_zero.1 h0 with h|h
      ·exact h
      ·omega
     subst this;have hr0:(Array.range (0*(aa3 T el).size)).map (z.cells[· % z.cells.size]!)=#[]:=by simp
     rw[hr0]at h1;have hr1:(Array.range 0).map (fun _=>(default:Value))=#[]:=by simp
     simp[Instr.buildSlice,run_underlying hu,hs];rw[hr1,h1];simp[newRow]
    ·simp only[Instr.buildSlice,Sem.run_bind,run_underlying hu,Result.andThen_ok,hs];rw[if_neg (by omega),if_neg h0];simp only[Sem.run_bind,hz,Result.andThen_ok];simp[h1,newRow]
   have hlm:len<=maxLen:=abt (by
    have:len*1<=len*(aa3 T el).size:=Nat.mul_le_mul_left _ hpos;omega)
   have hhe:(w.alloc (.cells us el)).heap[w.heap.size]? = some (.cells us el (0,0)):=heap_alloc_new w _;by_cases hpure:AV.aae cs=true
   case neg=>
    rw[if_neg hpure]at hy;obtain⟨hnr,hy⟩:=yI hy;have:=hy.ret;subst this;obtain⟨q1,q2⟩:=h.new (hn d (by simp)) (Grow.alloc w (.cells us el)) (ob:=.box cs) (v:=.pointer (some ⟨w.heap.size,0,none⟩)) (fun b hb=>by simp[aa9]at hb;omega)
     (fun hrx _=>⟨w.heap.size,us,el,by simp[upd],hhe,.inr h.frame.size,h2.1,fun i av v hi hv=>hrx av v (h2.2 i av v hi hv) (aaN hnr i av hi),.cells hcell⟩)
    exact⟨_,_,hrun,_,by rw[pO];exact q1,by rw[pO];exact .bref d len w.heap.size (.ptr d 0 w.heap.size (by simp[upd]))⟩
   rw[if_pos hpure]at hy;have hels:Els w (E.D w β S.obj) E.B (aa3 T el).size len (aaL (chunks (aa3 T el).size len cs)) us.toList:=lit_els hcl hul hcell (fun i av v hi hv=>h2.pure hpure i av v hi hv);have key:∀f:(Unit->Nat)->List AV,Els w (E.D w β S.obj) E.B (aa3 T el).size len f us.toList->ae0 E S a ⟨.slc .any (aa3 T el).size (fun _=>len) f,[],[],none⟩ ((Instr.buildSlice t len qs.toArray).run P w):=fun f hels=>by
    have hg:=h.grow (Grow.alloc w (.cells us el));have hels2:=hels.mono (w':=w.alloc (.cells us el)) (D':=E.D (w.alloc (.cells us el)) β S.obj) (fun av v hr=>hr.mono (fun b hb=>(Grow.alloc w (.cells us el)).old b hb.lt) (fun b hb=>⟨hb.1,Nat.lt_of_lt_of_le hb.2.1 (Grow.alloc w (.cells us el)).size,hb.2.2⟩) (Nat.le_refl _));have hD:=hg.2.1 w.heap.size (Nat.le_refl _) (by simp);have hrow:=af2 (cur:=us) hels2 (fun k hk=>by simp);refine⟨_,_,hrun,β,hg.1,?_⟩;rw[ajH];refine .d (.slc .any (aa3 T el).size (fun _=>len) f w.heap.size 0 len (fun k=>us.getD k undef) (Nat.le_refl _) hlm hD trivial (fun k hk=>?_) (fun i hi=>(hrow i hi).1) (fun i hi=>(hrow i hi).2.1) (fun i j av hi hj=>?_))
    ·have hk':k<us.size:=by rw[hul];exact hk
     simp only[World.cell?,hhe,Nat.zero_add];rw[Array.getD_eq_getD_getElem?,Array.getElem?_eq_getElem hk'];rfl
    ·have hj':j<(aa3 T el).size:=by rw[<- (hrow i hi).1];exact(List.getElem?_eq_some_iff.1 hj).1
     have hk':i*(aa3 T el).size+j<us.size:=by
      rw[hul];have:(i+1)*(aa3 T el).size<=len*(aa3 T el).size:=Nat.mul_le_mul_right _ hi;rw[Nat.succ_mul]at this;omega
     refine(hrow i hi).2.2 j av _ hj ?_;rw[Array.getD_eq_getD_getElem?,Array.getElem?_eq_getElem hk'];rfl
   split at hy
   ·obtain rfl:=vI hy;exact key _ hels
   ·replace hy:=yI hy;obtain⟨hsel,hy⟩:=hy;obtain rfl:=vI hy;refine key _ ⟨hels.len,fun i hi=>⟨by simp[selF,abK],sel_cell hsel i,fun j av v hj hv=>?_⟩⟩;have hjs:j<(aa3 T el).size:=by
     have:=(List.getElem?_eq_some_iff.1 hj).1;simpa[selF,abK]using this
    have hk':i*(aa3 T el).size+j<us.size:=by
     rw[hul];have:(i+1)*(aa3 T el).size<=len*(aa3 T el).size:=Nat.mul_le_mul_right _ hi;rw[Nat.succ_mul]at this;omega
    have hav:av=aaP (column cs (aa3 T el).size j len) fun _=>(i:Int):=by
     simp only[selF,abK,List.getElem?_map,List.getElem?_range hjs,Option.map_some,Option.some.injEq]at hj;exact hj.symm
    subst hav;have hv2:us[i*(aa3 T el).size+j]? = some v:=by simpa using hv
    have hcx:cs[i*(aa3 T el).size+j]? = some (cs.getD (i*(aa3 T el).size+j) .any):=by
     rw[List.getD_eq_getElem?_getD,List.getElem?_eq_getElem (by rw[hcl,<- hul];exact hk')];rfl
    have hrx:=h2.2 _ _ _ hcx hv2;have hr2:RX w (E.D w β S.obj) E.B β S.obj (aaP (column cs (aa3 T el).size j len) fun _=>(i:Int)) v:=
     afy (by rw[acL];simpa using hi) (by rw[Int.toNat_natCast,adV _ _ _ _ _ hi];exact hrx)
    exact hr2.pure (sel_pure _ _)
   have:=hy.ret;subst this;obtain⟨q1,q2⟩:=h.new (hn d (by simp)) (Grow.alloc w (.cells us el)) (ob:=.arr false el (aa3 T el).size 0 (fun _=>len) (aaL (chunks (aa3 T el).size len cs))) (v:=.slice (some ⟨w.heap.size,0,none⟩) len len) (fun b hb=>by simp[aa9]at hb;omega)
    (fun _ hrd=>.inr ⟨w.heap.size,len,us,by simp[upd],hhe,Nat.le_refl _,hlm,hul,fun _=>h.frame.base,.inr h.frame.size,
      af2 (hels.mono hrd) (fun k hk=>by simp)⟩)
   refine⟨_,_,hrun,_,by rw[pO];exact q1,by rw[pO];exact .aref _ _ _ _ (.inr ⟨_,_,rfl,Nat.le_refl _,hlm⟩) (fun x t sz' ver' n' f hH=>by simp[upd]at hH;obtain⟨_,_,_,rfl,rfl,_⟩:=hH;exact⟨Nat.le_refl _,fun _=>⟨rfl,by simp[upd]⟩⟩)⟩
  ·exact hy.fail.elim
 ·exact hy.fail.elim
def aeL(hT:TOk P T)(ht:TIOk P t ti)(h:RelB E S.tmps S.obj a w β){l c:AV}{lv cv:Value}{d:Nat}(hl:RX w (E.D w β S.obj) E.B β S.obj l lv)(hc:RX w (E.D w β S.obj) E.B β S.obj c cv)
 (hy:Yld S (acZ T ti d l c) e) (hn:∀k∈e.new,S.aak k=true):ae0 E S a e ((Instr.makeSlice t lv cv).run P w):=by
 unfold acZ at hy;split at hy
 ·rename_i el kl l kc c hk;have hu:=ht.slice hk;obtain rfl:=hl.aaq;obtain rfl:=hc.aaq;simp only at hy;replace hy:=yI hy;obtain⟨hq,hy⟩:=hy;simp only[Bool.and_eq_true,decide_eq_true_eq]at hq;obtain⟨hreal,hpos⟩:=hq;have hte:=hT.at el hreal;obtain⟨⟨hl0,h0,h1,h2⟩,hy⟩:=hy.cond;have:=hy.ret;subst this;obtain⟨i,z,hi,hsz,hby,hz,_⟩:=hte.ex;have hrun:=run_make (P:=P) w t el i z hu hi hz kl kc (l ()) (c ()) (by omega) (by omega) (by rw[hby,Int.mul_comm];exact Int.le_trans h1 (by decide)) (by omega);have hlz:(l ()).toNat=0:=by rw[hl0];rfl
  rw[hlz]at hrun;have hlm:(c ()).toNat<=maxLen:=abt (by omega);generalize hcur:madeCells z.cells ((c ()).toNat*i.size)=us at hrun;have hul:us.size=(c ()).toNat*(aa3 T el).size:=by rw[<- hcur,size_madeCells,hsz]
  have hhe:(w.alloc (.cells us el)).heap[w.heap.size]? = some (.cells us el (0,0)):=heap_alloc_new w _;obtain⟨q1,q2⟩:=h.new (hn d (by simp)) (Grow.alloc w (.cells us el)) (ob:=.arr false el (aa3 T el).size 0 (fun _=>0) (fun _=>[])) (v:=.slice (some ⟨w.heap.size,0,none⟩) 0 (c ()).toNat) (fun b hb=>by simp[aa9]at hb;omega)
   (fun _ hrd=>.inr ⟨w.heap.size,(c ()).toNat,us,by simp[upd],hhe,Nat.zero_le _,hlm,hul,fun _=>h.frame.base,.inr h.frame.size,fun i hi=>absurd hi (Nat.not_lt_zero _)⟩)
  refine⟨_,_,hrun,_,by rw[pO];exact q1,by rw[pO];exact .aref _ _ _ _ (.inr ⟨_,_,rfl,Nat.zero_le _,hlm⟩) (fun x t sz' ver' n' f hH=>by simp[upd]at hH;obtain⟨_,_,_,rfl,rfl,_⟩:=hH;exact⟨Nat.le_refl _,fun _=>⟨rfl,by simp[upd]⟩⟩)⟩
 ·exact hy.fail.elim
end
end Go.Ai
