/- Chapter 4's values. -/
import Derived.Test.YtbagpkiomjlhkaaGreatDoorEngC
import Derived.Test.YtbagpkiomjlhkaaGreatDoorProg
set_option linter.all false
namespace Go.Ai
open Go Go.Proofs
def T4:List (Nat×TI):=[
 (3,⟨.int .i64,1,8,[.int .i64 (fun _=>0)]⟩),
 (4,⟨.bool,1,1,[.bool (fun _=>false)]⟩),
 (9,⟨.str,1,16,[.str (fun _=>⟨#[]⟩)]⟩),
 (25,⟨.struct [(0,3),(1,3),(2,9),(3,22),(4,23)],5,80,[.int .i64 (fun _=>0),.int .i64 (fun _=>0),.str (fun _=>⟨#[]⟩),.nil,.nil]⟩),
 (5,⟨.int .u8,1,1,[.int .u8 (fun _=>0)]⟩),
 (28,⟨.int .i64,1,8,[.int .i64 (fun _=>0)]⟩),
 (56,⟨.struct [(0,3),(1,3),(2,3),(3,9),(4,22),(5,54)],6,88,[.int .i64 (fun _=>0),.int .i64 (fun _=>0),.int .i64 (fun _=>0),.str (fun _=>⟨#[]⟩),.nil,.nil]⟩),
 (220,⟨.int .u64,1,8,[.int .u64 (fun _=>0)]⟩),
 (52,⟨.struct [(0,3),(1,3),(2,3),(3,9),(4,9),(5,50),(7,4)],8,80,[.int .i64 (fun _=>0),.int .i64 (fun _=>0),.int .i64 (fun _=>0),.str (fun _=>⟨#[]⟩),.str (fun _=>⟨#[]⟩),.int .i64 (fun _=>0),.int .i64 (fun _=>0),.bool (fun _=>false)]⟩),
 (23,⟨.slice 25,1,24,[.nil]⟩),
 (246,⟨.int .u32,1,4,[.int .u32 (fun _=>0)]⟩),
 (35,⟨.ptr 81,1,8,[.nilp]⟩),
 (58,⟨.ptr 90,1,8,[.nilp]⟩),
 (121,⟨.ptr 123,1,8,[.nilp]⟩),
 (21,⟨.int .i32,1,4,[.int .i32 (fun _=>0)]⟩),
 (123,⟨.struct [(0,9),(1,3),(2,3),(3,28)],4,40,[.str (fun _=>⟨#[]⟩),.int .i64 (fun _=>0),.int .i64 (fun _=>0),.int .i64 (fun _=>0)]⟩),
 (120,⟨.slice 5,1,24,[.nil]⟩),
 (22,⟨.slice 56,1,24,[.nil]⟩),
 (91,⟨.ptr 93,1,8,[.nilp]⟩),
 (33,⟨.slice 9,1,24,[.nil]⟩),
 (50,⟨.struct [(0,3),(1,3)],2,16,[.int .i64 (fun _=>0),.int .i64 (fun _=>0)]⟩),
 (62,⟨.slice 3,1,24,[.nil]⟩),
 (12,⟨.int .u64,1,8,[.int .u64 (fun _=>0)]⟩),
 (77,⟨.slice 52,1,24,[.nil]⟩),
 (181,⟨.int .u64,1,8,[.int .u64 (fun _=>0)]⟩),
 (93,⟨.struct [(0,35),(1,3)],2,16,[.nilp,.int .i64 (fun _=>0)]⟩),
 (152,⟨.map 9 3,1,8,[.nilm]⟩),
 (173,⟨.struct [(0,9),(1,56)],7,104,[.str (fun _=>⟨#[]⟩),.int .i64 (fun _=>0),.int .i64 (fun _=>0),.int .i64 (fun _=>0),.str (fun _=>⟨#[]⟩),.nil,.nil]⟩),
 (2,⟨.int .i64,1,8,[.int .i64 (fun _=>0)]⟩),
 (160,⟨.iface,1,16,[.ifc (fun _=>true)]⟩),
 (90,⟨.struct [(0,77),(1,3),(2,3),(3,28),(4,3),(5,3)],6,64,[.nil,.int .i64 (fun _=>0),.int .i64 (fun _=>0),.int .i64 (fun _=>0),.int .i64 (fun _=>0),.int .i64 (fun _=>0)]⟩),
 (71,⟨.struct [(0,3),(1,3),(2,9)],3,32,[.int .i64 (fun _=>0),.int .i64 (fun _=>0),.str (fun _=>⟨#[]⟩)]⟩),
 (177,⟨.ptr 179,1,8,[.nilp]⟩),
 (54,⟨.slice 173,1,24,[.nil]⟩),
 (67,⟨.slice 71,1,24,[.nil]⟩),
 (107,⟨.struct [(0,3),(1,3)],2,16,[.int .i64 (fun _=>0),.int .i64 (fun _=>0)]⟩),
 (179,⟨.struct [(0,177),(1,120)],2,32,[.nilp,.nil]⟩),
 (228,⟨.ptr 252,1,8,[.nilp]⟩),
 (81,⟨.struct [(0,77),(1,3),(2,3),(3,28)],4,48,[.nil,.int .i64 (fun _=>0),.int .i64 (fun _=>0),.int .i64 (fun _=>0)]⟩),
 (105,⟨.map 9 107,1,8,[.nilm]⟩),
 (225,⟨.int .i64,1,8,[.int .i64 (fun _=>0)]⟩),
 (128,⟨.ptr 52,1,8,[.nilp]⟩),
 (235,⟨.struct [(0,5),(1,5)],2,2,[.int .u8 (fun _=>0),.int .u8 (fun _=>0)]⟩),
 (153,⟨.array 10 152,10,80,[.nilm,.nilm,.nilm,.nilm,.nilm,.nilm,.nilm,.nilm,.nilm,.nilm]⟩),
 (124,⟨.func,1,8,[.nilf]⟩),
 (125,⟨.slice 124,1,24,[.nil]⟩),
 (163,⟨.array 11 116,11,88,[.nilf,.nilf,.nilf,.nilf,.nilf,.nilf,.nilf,.nilf,.nilf,.nilf,.nilf]⟩),
 (66,⟨.func,1,8,[.nilf]⟩),
 (94,⟨.func,1,8,[.nilf]⟩),
 (219,⟨.array 24 5,24,24,[.int .u8 (fun _=>0),.int .u8 (fun _=>0),.int .u8 (fun _=>0),.int .u8 (fun _=>0),.int .u8 (fun _=>0),.int .u8 (fun _=>0),.int .u8 (fun _=>0),.int .u8 (fun _=>0),.int .u8 (fun _=>0),.int .u8 (fun _=>0),.int .u8 (fun _=>0),.int .u8 (fun _=>0),.int .u8 (fun _=>0),.int .u8 (fun _=>0),.int .u8 (fun _=>0),.int .u8 (fun _=>0),.int .u8 (fun _=>0),.int .u8 (fun _=>0),.int .u8 (fun _=>0),.int .u8 (fun _=>0),.int .u8 (fun _=>0),.int .u8 (fun _=>0),.int .u8 (fun _=>0),.int .u8 (fun _=>0)]⟩),
 (231,⟨.slice 28,1,24,[.nil]⟩),
 (84,⟨.func,1,8,[.nilf]⟩),
 (129,⟨.func,1,8,[.nilf]⟩),
 (134,⟨.func,1,8,[.nilf]⟩),
 (166,⟨.func,1,8,[.nilf]⟩),
 (187,⟨.array 5 9,5,80,[.str (fun _=>⟨#[]⟩),.str (fun _=>⟨#[]⟩),.str (fun _=>⟨#[]⟩),.str (fun _=>⟨#[]⟩),.str (fun _=>⟨#[]⟩)]⟩),
 (208,⟨.func,1,8,[.nilf]⟩),
 (218,⟨.array 12 3,12,96,[.int .i64 (fun _=>0),.int .i64 (fun _=>0),.int .i64 (fun _=>0),.int .i64 (fun _=>0),.int .i64 (fun _=>0),.int .i64 (fun _=>0),.int .i64 (fun _=>0),.int .i64 (fun _=>0),.int .i64 (fun _=>0),.int .i64 (fun _=>0),.int .i64 (fun _=>0),.int .i64 (fun _=>0)]⟩),
 (262,⟨.struct [(0,9)],1,16,[.str (fun _=>⟨#[]⟩)]⟩),
 (27,⟨.func,1,8,[.nilf]⟩),
 (113,⟨.func,1,8,[.nilf]⟩),
 (116,⟨.func,1,8,[.nilf]⟩),
 (236,⟨.array 16 235,32,32,[.int .u8 (fun _=>0),.int .u8 (fun _=>0),.int .u8 (fun _=>0),.int .u8 (fun _=>0),.int .u8 (fun _=>0),.int .u8 (fun _=>0),.int .u8 (fun _=>0),.int .u8 (fun _=>0),.int .u8 (fun _=>0),.int .u8 (fun _=>0),.int .u8 (fun _=>0),.int .u8 (fun _=>0),.int .u8 (fun _=>0),.int .u8 (fun _=>0),.int .u8 (fun _=>0),.int .u8 (fun _=>0),.int .u8 (fun _=>0),.int .u8 (fun _=>0),.int .u8 (fun _=>0),.int .u8 (fun _=>0),.int .u8 (fun _=>0),.int .u8 (fun _=>0),.int .u8 (fun _=>0),.int .u8 (fun _=>0),.int .u8 (fun _=>0),.int .u8 (fun _=>0),.int .u8 (fun _=>0),.int .u8 (fun _=>0),.int .u8 (fun _=>0),.int .u8 (fun _=>0),.int .u8 (fun _=>0),.int .u8 (fun _=>0)]⟩),
 (260,⟨.ptr 262,1,8,[.nilp]⟩),
 (41,⟨.func,1,8,[.nilf]⟩),
 (44,⟨.func,1,8,[.nilf]⟩),
 (87,⟨.func,1,8,[.nilf]⟩),
 (132,⟨.func,1,8,[.nilf]⟩),
 (165,⟨.func,1,8,[.nilf]⟩),
 (195,⟨.func,1,8,[.nilf]⟩),
 (201,⟨.ptr 148,1,8,[.nilp]⟩),
 (214,⟨.ptr 5,1,8,[.nilp]⟩),
 (245,⟨.array 20 220,20,160,[.int .u64 (fun _=>0),.int .u64 (fun _=>0),.int .u64 (fun _=>0),.int .u64 (fun _=>0),.int .u64 (fun _=>0),.int .u64 (fun _=>0),.int .u64 (fun _=>0),.int .u64 (fun _=>0),.int .u64 (fun _=>0),.int .u64 (fun _=>0),.int .u64 (fun _=>0),.int .u64 (fun _=>0),.int .u64 (fun _=>0),.int .u64 (fun _=>0),.int .u64 (fun _=>0),.int .u64 (fun _=>0),.int .u64 (fun _=>0),.int .u64 (fun _=>0),.int .u64 (fun _=>0),.int .u64 (fun _=>0)]⟩),
 (266,⟨.array 32 5,32,32,[.int .u8 (fun _=>0),.int .u8 (fun _=>0),.int .u8 (fun _=>0),.int .u8 (fun _=>0),.int .u8 (fun _=>0),.int .u8 (fun _=>0),.int .u8 (fun _=>0),.int .u8 (fun _=>0),.int .u8 (fun _=>0),.int .u8 (fun _=>0),.int .u8 (fun _=>0),.int .u8 (fun _=>0),.int .u8 (fun _=>0),.int .u8 (fun _=>0),.int .u8 (fun _=>0),.int .u8 (fun _=>0),.int .u8 (fun _=>0),.int .u8 (fun _=>0),.int .u8 (fun _=>0),.int .u8 (fun _=>0),.int .u8 (fun _=>0),.int .u8 (fun _=>0),.int .u8 (fun _=>0),.int .u8 (fun _=>0),.int .u8 (fun _=>0),.int .u8 (fun _=>0),.int .u8 (fun _=>0),.int .u8 (fun _=>0),.int .u8 (fun _=>0),.int .u8 (fun _=>0),.int .u8 (fun _=>0),.int .u8 (fun _=>0)]⟩)]
def tF:TOk Tryz.prog T4:=by unfold TOk;kernel_rfl
def mF:Tryz.prog.follows .mixedOrders=true:=by kernel_rfl
inductive V where
 | mk (kind int scale:Int) (text:ByteArray) (list:List V) (fields:List (ByteArray×V))
namespace V
def kind:V->Int|mk k _ _ _ _ _=>k
def int:V->Int|mk _ i _ _ _ _=>i
def scale:V->Int|mk _ _ s _ _ _=>s
def text:V->ByteArray|mk _ _ _ t _ _=>t
def list:V->List V|mk _ _ _ _ l _=>l
def fields:V->List (ByteArray×V)|mk _ _ _ _ _ f=>f
instance:Inhabited V:=⟨mk 0 0 0 ⟨#[]⟩ [] []⟩
def le:Nat->V->Prop
 | 0,_=>False
 | d+1,v=>v.list.length<=1073741824∧v.fields.length<=1073741824∧v.text.size<=1073741824∧(∀x∈v.list,le d x)∧∀x∈v.fields,x.1.size<=1073741824∧le d x.2
def lP{d:Nat}{v:V}(h:le d v):∃e,d=e+1:=by
 cases d with
 | zero=>exact h.elim
 | succ d=>exact⟨d,rfl⟩
end V
def acU(fr:FB)(v:Unit->V)(L F:(Unit->Nat)->List AV):List AV:=
 [.int .i64 (fun _=>(v ()).kind),.int .i64 (fun _=>(v ()).int),.int .i64 (fun _=>(v ()).scale),.str (fun _=>(v ()).text),.slc fr 6 (fun _=>(v ()).list.length) L,.slc fr 7 (fun _=>(v ()).fields.length) F]
def sub:Nat->FB->(Unit->V)->Bool->(Unit->Nat)->List AV
 | 0,_,_,_,_=>[]
 | d+1,fr,v,true,i=>acU fr (fun _=>(v ()).list.getD (i ()) default) (sub d fr (fun _=>(v ()).list.getD (i ()) default) true) (sub d fr (fun _=>(v ()).list.getD (i ()) default) false)
 | d+1,fr,v,false,i=>.str (fun _=>((v ()).fields.getD (i ()) default).1)::acU fr (fun _=>((v ()).fields.getD (i ()) default).2) (sub d fr (fun _=>((v ()).fields.getD (i ()) default).2) true) (sub d fr (fun _=>((v ()).fields.getD (i ()) default).2) false)
def cells(d:Nat)(fr:FB)(v:Unit->V):List AV:=acU fr v (sub d fr v true) (sub d fr v false)
def encV(d:Nat)(fr:FB)(v:Unit->V):AV:=.agg (cells d fr v)
def isNull(v:V):Bool:=v.kind==0&&v.int==0&&v.scale==0&&v.text.size==0&&v.list.length==0&&v.fields.length==0
def kz(v:V):List V:=if v.kind=8∨v.kind=10 then v.list else if v.kind=9 then v.fields.map (·.2)else[]
def slcV(d:Nat)(fr:FB)(l:Unit->List V):AV:=.slc fr 6 (fun _=>(l ()).length) (fun i=>cells d fr fun _=>(l ()).getD (i ()) default)
def byt(s:ByteArray)(i:Nat):Int:=((s.data[i]?).getD 0).toNat
def acF(b:Int):Bool:=(97<=b&&b<=122)||(48<=b&&b<=57)||b==95
def isName(s:ByteArray):Bool:=s.size != 0&&s.size<=32&&(97<=byt s 0&&byt s 0<=122)&&(List.range s.size).all fun i=>acF (byt s i)
def ak8{d:Nat}{fr:FB}{v v':V}(h:v=v'):LeL (cells d fr fun _=>v) (cells d fr fun _=>v'):=by subst h;exact LeL.of_eq rfl
end Go.Ai

namespace Go.Ai
open Go Go.Proofs
set_option maxRecDepth 100000
set_option maxHeartbeats 4000000
def fA{f:FuncId}{fn:Func}{c:Code}{args:List AV}{objs objs':List (Nat×AO)}{res:AV}(rs:List ResultVar)(kp:List Nat)(orc:List (Nat×Orc))(hf:Tryz.prog.funcs[f]? = some fn)
 {q:Env->Prop} (h:∀E,q E)
 (hname : (fn.name == "runtime.NumGoroutine") = false := by rfl) (hb : fn.body = some c := by rfl) (hr : fn.results = rs.toArray := by rfl) (hl : amN objs' objs = true := by rfl) (hn : Nat.ble args.length fn.ntmps = true := by rfl)
 (e:∀E,jJ 0 (q E) (wk none (fun _=>Tryz.prog) (fun _=>T4) (fun _=>orc) (fun _=>kp) c (fun e E s=>EndVC (fun e E S=>retK T4 rs res objs' e E S) e E s) E (SS.ini fn.ntmps args objs)):=by
 intro _
 (repeat' with_reducible first|(apply j0;exact nY)|apply jO|apply jV|(apply jT;(focus(first|(intro zq;(try simp only[nc,cl]at zq);(try simp only[bl,dl]at zq);exact zq)|(intro zq;show False;(try simp only[nc,cl]at zq);(try simp only[bl,dl]at zq);done)));(focus(first|(intro zq;(try simp only[nc,cl]at zq);(try simp only[bl,dl]at zq);exact zq)|(intro zq;show False;(try simp only[nc,cl]at zq);(try simp only[bl,dl]at zq);done))))|intro _|(apply jW (m:=0);focus(intro zq;(first|apply wI|apply xE|apply uE|apply aqX);cbv;(try dsimp only[nc]);exact zq))|exact jI)):Af Tryz.prog f args objs res objs':=
 Af.of tF mF rs kp orc hf (fun E=>(e E).f (h E)) hname hb hr hl hn
def fB{f:FuncId}{fn:Func}{c:Code}{args:List AV}{objs objs':List (Nat×AO)}{res:AV}(rs:List ResultVar)(kp:List Nat)(orc:List (Nat×Orc))(hf:Tryz.prog.funcs[f]? = some fn)
 {q:Env->Prop} (h:∀E,q E)
 (hname : (fn.name == "runtime.NumGoroutine") = false := by rfl) (hb : fn.body = some c := by rfl) (hr : fn.results = rs.toArray := by rfl) (hl : amN objs' objs = true := by rfl) (hn : Nat.ble args.length fn.ntmps = true := by rfl)
 (e:∀E,jJ 0 (q E) (wk none (fun _=>Tryz.prog) (fun _=>T4) (fun _=>orc) (fun _=>kp) c (fun e E s=>EndVC (fun e E S=>retK T4 rs res objs' e E S) e E s) E (SS.ini fn.ntmps args objs)):=by
 intro _
 (repeat' first|(with_reducible first|(apply j0;exact nY)|apply jO|apply jV|(apply jT;(focus(first|(intro zq;(try simp only[nc,cl]at zq);(try simp only[bl,dl]at zq);exact zq)|(intro zq;show False;(try simp only[nc,cl]at zq);(try simp only[bl,dl]at zq);done)));(focus(first|(intro zq;(try simp only[nc,cl]at zq);(try simp only[bl,dl]at zq);exact zq)|(intro zq;show False;(try simp only[nc,cl]at zq);(try simp only[bl,dl]at zq);done))))|intro _|(apply jW (m:=0);focus(intro zq;(first|apply wI|apply xE|apply uE|apply aqX);cbv;(try dsimp only[nc]);exact zq)))|((with_reducible apply jB);assumption)|(with_reducible (apply jW (m:=1);focus(intro zq;(first|refine rE ?_|refine nE ?_);cbv;(try dsimp only[nc]);(try simp only[wl,nc]);exact zq)))|(apply jW (m:=2);focus(intro zq;with_reducible (refine aC.2 ?_;(try simp only[wl,nc]);exact zq)))|(with_reducible first|apply jD|(apply j1;exact wY))|(apply j2;exact cZ)|(with_reducible exact jI))):Af Tryz.prog f args objs res objs':=
 Af.of tF mF rs kp orc hf (fun E=>(e E).f (h E)) hname hb hr hl hn
end Go.Ai

namespace Go.Ai
def kp6:List Nat:=[1,1,121,2040,4]
def kp10:List Nat:=[1,1,25,121,1009,8161,70368744185825,4,16353,32737,65504,131040,1040352,154742504910672534362496064,4,990272,4]
def kp12:List Nat:=[0,18,50,210,1]
def kp14:List Nat:=[2,18,274,12,2050,12,12]
def kp15:List Nat:=[2,10,26,18,4]
def kp18:List Nat:=[0,1]
def kp19:List Nat:=[0,1]
def kp20:List Nat:=[1,120,4]
def kp21:List Nat:=[1,8193,4,9,8388609,0,4,17,49,68719476785,137438953521,49,9007199254741041,49,49,49,2361183241434822606865,145,17,2417851639229258349412368,4,4]
def kp22:List Nat:=[1,65,28,28]
def kp23:List Nat:=[5,4]
def kp24:List Nat:=[5,68,68,16452,68,60,16777276,60,60]
def kp25:List Nat:=[12,16]
def kp26:List Nat:=[5,68,68,68,33554500,68,60,34359738428,60,60]
def kp28:List Nat:=[5,69,4,13,29,32797,28,2097172,4,4]
def kp29:List Nat:=[5,13,32781,12,4]
def kp30:List Nat:=[5,4101,4,65541,4,4,13,29,61,33554493,37,1107296317,125,17179869301,117,117,562949953421413,37,36028797052518453,37,1152921504606847029,37,73786976294838206500,4,4]
def kp31:List Nat:=[1,120,4]
def kp32:List Nat:=[5,13,8205,12,4,4194317,12,4,2147483661,4,34359738381,4,549755813901,13,29,4503599627370525,4,4,29,1152921504606846997,101,36,4,389,132,4,525,1549,39614081257132168796771975693,13,525,525,5070602400912917605986812822029,4,4,524,2658455991569831745807614120560689676,4,4]
def kp33:List Nat:=[1,9,524289,0,4,17,49,562949953421361,49,113,241,4611686018427388145,241,4835703278458516698824817,0,4,113,4951760157141521099596496977,81,5070602400912917605986812821521,0,4,17,529,16,4]
def kp34:List Nat:=[1,513,28,28]
def kp36:List Nat:=[5,4]
def kp39:List Nat:=[2,10,26,1050,10,4]
def kp40:List Nat:=[6,38,131108,16,4194340,16,8589934628,68,192,18446744073709551680,64,16,1180591620717411303460,16,77371252455336267181195300,16,162259276829213363391578010288164,16,2722258935367507707706996859454145691652,256,16,22300745198530623141535718272648361505980420,16,1028,45671926166590716193865151022383844364247892996,1028,2993155353253689176481146537402947624255349848015876,1028,766247770432944429179173513575154591809369561091802116,3831238852164722145895867567875772959046847805459006468,766247770432944429179173513575154591809369561091808260,785403964693768039908652851414533456604603800119096118276,16,16]
def kp41:List Nat:=[30,4126,64,26,65562,64,154,1048730,64,58720266,125829130,58720778,58721290,34418459658,64,58720266,64]
def kp42:List Nat:=[2,32770,4,26,4194330,4,18014398509482010,4,9223372036854775826,4,590295810358705651714,4,1208925819614629174706178,4,154742504910672534362390530,98,316912650057057350374175801442,4,130,81129638414606681695789005144066,4,664613997892457936451903530140172288,4,4]
def kp43:List Nat:=[1,513,12,4097,12,17,48,524336,464,4294967504,12,48,1099511627792,12,12]
def kp44:List Nat:=[1,9,137,9,32777,4,4]
def kp46:List Nat:=[1,16,48,12,144,12,528,12,2064,12,8208,12,32784,12,131088,12,524304,12,2097168,12,8388624,12,33554448,12,134217744,12,536870912,12,12]
def kp48:List Nat:=[2,18,8210,12,12]
def kp50:List Nat:=[1,8,24,4,72,4,264,4,1032,4,4104,4,16392,4,65544,4,262152,4,1048584,4,4194304,4,4]
def kp51:List Nat:=[5,32773,60,69,197,221,989,989,3848290697949,8246337209053,3848290699997,3848290699997,285323267408605,3848290697949,3848290697949,989,5085,36893488147419108317,60,4722366482869645218781,4573,4573,618970019642690137449566685,4573,1267650600228229401496703209949,88,60,477,989]
def kp52:List Nat:=[1,32,4]
def kp53:List Nat:=[5,37,4,4]
def kp54:List Nat:=[1,4]
def kp55:List Nat:=[1027,19,0]
def kp56:List Nat:=[2,4]
def kp57:List Nat:=[3,35,16]
def kp58:List Nat:=[3,35,65537,0,16,16]
def kp59:List Nat:=[2,4]
def kp60:List Nat:=[2,4]
def kp61:List Nat:=[7,16391,64,229382,491526,229766,230150,1073971206,64,229382,64]
def kp62:List Nat:=[12,16]
def kp63:List Nat:=[7,16391,64,229382,491526,229766,230150,1073971206,64,229382,64]
def kp64:List Nat:=[19,131091,16,524307,1572883,8388625,17,49,48,16,16,1099512152083,81,209,140737488355537,209,16,144115188075855953,273,273,273,295147905179352826129,273,272,16,16,604462909807314587353107,529,19807040628566084398385987601,17,1041,1040,16,16,2067,6163,85070591730234615865843651857942059027,6163,6163,2067,16]
def kp65:List Nat:=[8195,19,0]
def kp66:List Nat:=[5,524293,4,4]
def kp67:List Nat:=[5,4]
def kp68:List Nat:=[1,32,4]
def kp69:List Nat:=[1,4]
def kp70:List Nat:=[1,9,137,393,393,393,4,4105,4,4]
def kp71:List Nat:=[3,33,545,32,16]
def kp72:List Nat:=[5,4]
def kp74:List Nat:=[19,16]
def kp75:List Nat:=[5,4]
def kp76:List Nat:=[5,4]
def kp77:List Nat:=[19,531,1555,113,48,16,16777235,401,144,16,16]
def kp78:List Nat:=[5,13,269,12,4]
def kp79:List Nat:=[3,257,16,0,16]
def kp80:List Nat:=[3,34,16]
def kp81:List Nat:=[1,112,1048592,12,12]
def kp82:List Nat:=[1,112,2097200,12,176,944,134218160,240,549755814064,12,2199023255696,12,3216,18889465931478580855952,12,12]
def kp83:List Nat:=[5,1048581,4,4]
def kp85:List Nat:=[3,16]
def kp86:List Nat:=[2,258,770,4,2306,4,8194,4,98306,229378,98330,2195466,10584074,2195530,539066378,4,98306,4]
def kp87:List Nat:=[1,9,456,968,488,456,456,4]
def kp88:List Nat:=[3,1025,5121,1121,263201,16,16]
def kp91:List Nat:=[1,16,48,48,48,48,12,1040,1040,1040,1040,1040,1040,1040,12,262160,262160,12,2097152,12,12]
def kp92:List Nat:=[1,4]
def kp93:List Nat:=[1,4]
def kp94:List Nat:=[1,33,97,4,257,9,32777,4,4194304,4,4,4]
def kp95:List Nat:=[3,16]
def kp96:List Nat:=[2,4]
def kp97:List Nat:=[6,38,70,32838,28,2097222,28,4294967366,28,902,3974,28]
def kp98:List Nat:=[2,18,50,50,4,65554,4,2147483650,4,4]
def kp99:List Nat:=[6150,6158,6174,7196,4156,124,124,32876,4,262220,4,2097228,4,16777292,4,8589934668,4,132,17592186044548,4,4]
def kp100:List Nat:=[2,4]
def kp101:List Nat:=[1,65,12,12]
def ahL:List Nat:=[2,10,16394,49162,4,147466,4,8405002,4,268451850,18,137438953488,16,4,2199023271946,4,70368744194058,4,2251799813701642,32,4,4611686018427404298,128,4,9444732965739290443786,528905046081400263933960,1133367955888714851287048,528905046081400263934984,528905046081400263933960,528905046081400263933960,4,4951760157141521099596496906,277298568799925181577403826184,594211218856982531951579627528,277298568799925181577403830280,277298568799925181577403826184,277298568799925181577403826184,4,4]
def aoM:List Nat:=[3,65539,16,35,35,35,99,99,227,483,8796093022691,483,483,35,0,1180591620717411303523,0,309485009821345068724781155,0,16]
def kp104:List Nat:=[3,524291,16,35,35,137438953505,0,16]
def ap0:List Nat:=[3,8195,16,35,99,227,268435683,99,227,227,2305843009213694179,227,227,9671406556917033397649571,0,16,803,9903520314283042199192994595,258,0,16]
def aod:List Nat:=[3,8195,16,35,35,99,99,4294967395,4398046511203,0,227,1635,9444732965739290428003,99,611,99,20282409603651670423947251286243,99,35,0,16,42535295865117307932921825928971026659,99,1361129467683753853853498429727072845923,99,16]
def kp107:List Nat:=[3,387,899,451,2097603,65,0,16,387,562949953421315,16,1,0,16]
def kp108:List Nat:=[8193,5,8388613,1,2199023255553,9,1152921504606846985,9,1]
def kp109:List Nat:=[1031,0]
def kp110:List Nat:=[3,16]
def kp111:List Nat:=[3,8]
def kp112:List Nat:=[3,66,48]
def kp113:List Nat:=[3,16]
def kp114:List Nat:=[12,16]
def kp115:List Nat:=[129,0,16385,0,1,0]
def asl:List Nat:=[3,35,547,35,227,268435491,16,16]
def kp117:List Nat:=[1,0]
def aqC:List Nat:=[5,13,8205,5,21,20,4,536870925,4,45,109,17179869293,109,70368744177773,109,562949953421349,4,37,37,165,1152921504606847141,421,73786976294838206885,421,295147905179352826277,421,933,2361183241434822607781,933,37778931862957161710501,933,933,77371252455336267181195397,133,133,4951760158294442604203344037,133,158456325028528675187087900837,133,10141204801825835211973625643141,133,132,4]
def kp119:List Nat:=[71,199,967,262599,967,199,64]
def kp120:List Nat:=[5,4]
def kp121:List Nat:=[1,129,4,8,8,16,4]
def kp123:List Nat:=[19,8209,16,16,16]
def kp124:List Nat:=[5,4]
def kp125:List Nat:=[5,4]
def kp126:List Nat:=[5,12,4,4]
def aq5:List Nat:=[71,199,57541,123077,59077,58309,134275781,448,58053,59845,1099511687365,448,57541,57541,448]
def aq4:List Nat:=[7,775,33554439,192,1027,3075,17179872259,3075,3075,192]
def kp129:List Nat:=[3,48]
def aq3:List Nat:=[19,2067,112,24595,57363,24723,4219027,112,24595,24595,112]
def kp131:List Nat:=[3,8195,48,48]
def kp136:List Nat:=[3,387,899,419,65955,16,387,16]
def kp140:List Nat:=[1,4]
def kp141:List Nat:=[3,387,899,419,65955,16,387,16]
def kp142:List Nat:=[3,19,1043,8,8]
def kp146:List Nat:=[1,2097153,4,58720256,125829120,58720272,70368802897920,4,58720256,4]
def kp147:List Nat:=[1,1]
def kp149:List Nat:=[2,10,26,58,4]
def kp157:List Nat:=[3,65539,16,16]
def kp158:List Nat:=[3,35,4294967331,35,16]
def kp159:List Nat:=[1,4]
def kp160:List Nat:=[1,257,1,4]
def kp161:List Nat:=[3,3,0,16]
def kp163:List Nat:=[259,0]
def kp164:List Nat:=[1,4]
def kp165:List Nat:=[1,4]
def kp166:List Nat:=[1,4]
def kp167:List Nat:=[5,4101,12,65541,12,117,485,869,3941,1152921504606847492,12,12]
def ao1:List Nat:=[19,51,2147483699,1,0,1125899906842643,0,19,211,154742504910672534362390739,211,211,211,1329227995784915872903807060280344659,0,83,787,174224571863520493293247799005065324265747,0,0]
def kp169:List Nat:=[3,65539,112,384,536871296,112,112]
def kp170:List Nat:=[3,3,2,48]
def aee:List Nat:=[3,387,899,419,65955,16,387,16]
def kp175:List Nat:=[3,387,899,419,65955,16,387,16]
def kp176:List Nat:=[1,9,456,968,488,16872,4,456,4]
def kp177:List Nat:=[3,35,99,2115,4096,16,16,8195,16,65539,16,524288,16,16]
def kp179:List Nat:=[7,14343,30727,14727,2111879,64,15111,15367,2147499015,64,14343,274877906944,64,64]
def kp180:List Nat:=[7,14343,30727,14727,2111879,64,15111,15367,2147499015,64,14343,274877906944,64,64]
def kp181:List Nat:=[12,16]
def kp182:List Nat:=[129,0]
def kp183:List Nat:=[1,9,265,0,4,1048585,0,4,8,4]
def adO:List Nat:=[3,67,524355,48,49,536870961,48,48]
def kp185:List Nat:=[5,517,4,5,5,13,4194317,13,12,4]
def kp186:List Nat:=[3,8195,48,48]
def kp187:List Nat:=[7,64]
def kp188:List Nat:=[1,8,4]
def kp189:List Nat:=[3,1026,16,16]
def kp190:List Nat:=[3,515,48,48]
def kp196:List Nat:=[3,16]
def kp200:List Nat:=[2,4]
def kp201:List Nat:=[7,16384,64,64]
def kp202:List Nat:=[2,4]
def kp203:List Nat:=[2,4]
def kp204:List Nat:=[1,224,480,240,4336,4,224,4]
def kp205:List Nat:=[2,10,32776,8,4]
def kp206:List Nat:=[7,516,64,64]
def kp208:List Nat:=[2,4]
def kp209:List Nat:=[2,4]
def kp210:List Nat:=[2,4]
def kp217:List Nat:=[2,18,530,12,34,131106,34,34,70368744177696,32,12]
def kp223:List Nat:=[1,65,12,12]
def kp230:List Nat:=[1,4]
def kp232:List Nat:=[5,13,61,8221,4,33554445,4,4]
def kp233:List Nat:=[65,1,0]
def kp234:List Nat:=[1,4]
def kp247:List Nat:=[2,130,386,386,4,8194,10,458760,983048,458792,458760,458760,4,4]
def kp248:List Nat:=[2,2097152,4,4]
def kp249:List Nat:=[1,4]
def kp252:List Nat:=[1,4]
def kp256:List Nat:=[5,4]
def kp257:List Nat:=[7,135,135,391,536871303,391,8589934983,391,391,128,64]
def kp270:List Nat:=[5,4]
def kp271:List Nat:=[65,1,0]
def kp272:List Nat:=[129,0]
def kp273:List Nat:=[1,0]
def kp281:List Nat:=[5,4]
def kp282:List Nat:=[5,65541,4,5,5,13,536870925,13,12,4]
def akV:List Nat:=[5,261,4,13,61,4194365,4,34359738397,21,4,9007199254740997,4,590295810358705651717,5,69,68,4,4,4]
def amS:List Nat:=[71,199,4295,192,266439,266439,195,195,137438953665,193,192,70368744177861,193,449,449,961,961,961,193,192,64]
def kp285:List Nat:=[7,135,391,33554823,0,64,903,2147484423,775,140737488355841,0,64,512,64]
end Go.Ai

namespace Go.Ai
open Go Go.Proofs
set_option maxRecDepth 100000
set_option maxHeartbeats 4000000
inductive X where
 | mk (op int:Int) (text:ByteArray) (value:List V) (args:List X)
namespace X
def op:X->Int|mk o _ _ _ _=>o
def int:X->Int|mk _ n _ _ _=>n
def text:X->ByteArray|mk _ _ s _ _=>s
def value:X->List V|mk _ _ _ v _=>v
def args:X->List X|mk _ _ _ _ a=>a
instance:Inhabited X:=⟨mk 0 0 ⟨#[]⟩ [] []⟩
end X
def X.le(e:Nat):Nat->X->Prop
 | 0,_=>False
 | d+1,x=>x.text.size<=100000000000∧x.value.length<=1073741824∧x.args.length<=1073741824∧(∀v∈x.value,V.le e v)∧∀y∈x.args,X.le e d y
def X.lP{e d:Nat}{x:X}(h:X.le e d x):∃c,d=c+1:=by
 cases d with
 | zero=>exact h.elim
 | succ d=>exact⟨d,rfl⟩
def abG(e:Nat)(fr:FB)(x:Unit->X)(A:(Unit->Nat)->List AV):List AV:=
 [.int .i64 (fun _=>(x ()).op),.int .i64 (fun _=>(x ()).int),.str (fun _=>(x ()).text),.slc fr 6 (fun _=>(x ()).value.length) (fun j=>cells e fr fun _=>(x ()).value.getD (j ()) default),.slc fr 5 (fun _=>(x ()).args.length) A]
def subX(e:Nat):Nat->FB->(Unit->X)->(Unit->Nat)->List AV
 | 0,_,_,_=>[]
 | d+1,fr,x,i=>abG e fr (fun _=>(x ()).args.getD (i ()) default) (subX e d fr fun _=>(x ()).args.getD (i ()) default)
def aa8(e d:Nat)(fr:FB)(x:Unit->X):List AV:=abG e fr x (subX e d fr x)
def encX(e d:Nat)(fr:FB)(x:Unit->X):AV:=.agg (aa8 e d fr x)
def slcX(e d:Nat)(fr:FB)(l:Unit->List X):AV:=.slc fr 5 (fun _=>(l ()).length) fun i=>aa8 e d fr fun _=>(l ()).getD (i ()) default
inductive Tok where
 | mk (kind line col:Int) (text value:ByteArray) (num scale:Int) (joined:Bool)
namespace Tok
def kind:Tok->Int|mk k _ _ _ _ _ _ _=>k
def line:Tok->Int|mk _ l _ _ _ _ _ _=>l
def col:Tok->Int|mk _ _ c _ _ _ _ _=>c
def text:Tok->ByteArray|mk _ _ _ t _ _ _ _=>t
def value:Tok->ByteArray|mk _ _ _ _ v _ _ _=>v
def num:Tok->Int|mk _ _ _ _ _ n _ _=>n
def scale:Tok->Int|mk _ _ _ _ _ _ s _=>s
def joined:Tok->Bool|mk _ _ _ _ _ _ _ j=>j
instance:Inhabited Tok:=⟨mk 0 0 0 ⟨#[]⟩ ⟨#[]⟩ 0 0 false⟩
end Tok
def acT(t:Unit->Tok):List AV:=
 [.int .i64 fun _=>(t ()).kind,.int .i64 fun _=>(t ()).line,.int .i64 fun _=>(t ()).col,.str fun _=>(t ()).text,.str fun _=>(t ()).value,.int .i64 fun _=>(t ()).num,.int .i64 fun _=>(t ()).scale,.bool fun _=>(t ()).joined]
def encK(t:Unit->Tok):AV:=.agg (acT t)
abbrev zK(t:Tok):AV:=encK fun _=>t
def akE(l:Unit->List Tok):(Unit->Nat)->List AV:=fun i=>acT fun _=>(l ()).getD (i ()) default
def slcK(l:Unit->List Tok):AV:=.slc .any 8 (fun _=>(l ()).length) (akE l)
def digB(c:Int):Bool:=decide (48<=c∧c<=57)
def letB(c:Int):Bool:=decide ((97<=c∧c<=122)∨(65<=c∧c<=90))
def adM(c:Int):Bool:=letB c||digB c||decide (c=95)
def runL(s:ByteArray)(p:Int->Bool):Nat->Nat->Nat
 | 0,i=>i
 | n+1,i=>if i<s.size∧p (byt s i)=true then runL s p n (i+1)else i
def aag(s:ByteArray)(p:Int->Bool)(i:Nat):Nat:=runL s p (s.size-i) i
def abv{s:ByteArray}{p:Int->Bool}{i:Nat}(h:¬(i<s.size∧p (byt s i)=true)):aag s p i=i:=by
 unfold aag;cases s.size-i with
 | zero=>rfl
 | succ n=>simp only[runL];rw[if_neg h]
def abw{s:ByteArray}{p:Int->Bool}{i:Nat}(h:i<s.size∧p (byt s i)=true):aag s p i=aag s p (i+1):=by
 unfold aag;obtain⟨n,hn⟩:∃n,s.size-i=n+1:=⟨s.size-i-1,by omega⟩
 rw[hn,show s.size-(i+1)=n by omega,runL,if_pos h]
theorem alR{s:ByteArray}{p:Int->Bool}:∀n i,i<=s.size->i<=runL s p n i∧runL s p n i<=s.size
 | 0,i,h=>⟨Nat.le_refl _,h⟩
 | n+1,i,h=>by
  simp only[runL];split
  ·have:=alR (s:=s) (p:=p) n (i+1) (by omega);omega
  ·exact⟨Nat.le_refl _,h⟩
def abb{s:ByteArray}{p:Int->Bool}{i:Nat}(h:i<=s.size):i<=aag s p i∧aag s p i<=s.size:=alR _ _ h
def abM(s:ByteArray):Nat->Nat->Nat
 | 0,i=>i
 | n+1,i=>if i<s.size then(if byt s i=32∨byt s i=9∨byt s i=10 then abM s n (i+1)else if byt s i=47∧byt s (i+1)=47 then abM s n (aag s (fun c=>c != 10) i)else i)else i
def abH(s:ByteArray)(i:Nat):Nat:=abM s (s.size-i) i
def posL(s:ByteArray):Nat->Nat->Int×Int->Int×Int
 | 0,_,p=>p
 | n+1,i,p=>posL s n (i+1) (if byt s i=10 then(p.1+1,1)else(p.1,p.2+1))
def amj(s:ByteArray)(i:Nat):Bool:=
 (byt s i==45&&byt s (i+1)==62)||(byt s i==33&&byt s (i+1)==61)||(byt s i==60&&byt s (i+1)==61)||(byt s i==62&&byt s (i+1)==61)||(byt s i==46&&byt s (i+1)==46)
def aiz(c:Int):Bool:=[40,41,123,125,91,93,60,62,61,58,59,44,46,63,43,45,42,38,64,124].contains c
def posV(s:ByteArray)(i j:Nat)(p:Int×Int):Int×Int:=posL s (j-i) i p
def ado{s:ByteArray}{i:Nat}{p:Int×Int}:posV s i i p=p:=by unfold posV;rw[Nat.sub_self];rfl
theorem ahm{s:ByteArray}:∀n i p,posL s (n+1) i p=(fun q=>if byt s (i+n)=10 then(q.1+1,1)else(q.1,q.2+1)) (posL s n i p)
 | 0,i,p=>rfl
 | n+1,i,p=>by
  show posL s (n+1) (i+1) _=(fun q=>if byt s (i+(n+1))=10 then(q.1+1,(1:Int))else(q.1,q.2+1)) (posL s n (i+1) _)
  rw[ahm n (i+1),show i+1+n=i+(n+1) by omega]
def ahl{s:ByteArray}{i j:Nat}{p:Int×Int}(h:i<=j):posV s i (j+1) p=if byt s j=10 then((posV s i j p).1+1,1)else((posV s i j p).1,(posV s i j p).2+1):=by
 unfold posV;rw[show j+1-i=(j-i)+1 by omega,ahm,show i+(j-i)=j by omega]
theorem aiJ{s:ByteArray}:∀n i (p:Int×Int) (b:Int),0<=p.1->0<=p.2->p.1<=b->p.2<=b->1<=b->0<=(posL s n i p).1∧0<=(posL s n i p).2∧(posL s n i p).1<=b+n∧(posL s n i p).2<=b+n
 | 0,i,p,b,h1,h2,h3,h4,_=>⟨h1,h2,by show p.1<=b+(0:Nat);omega,by show p.2<=b+(0:Nat);omega⟩
 | n+1,i,p,b,h1,h2,h3,h4,h5=>by
  have hc:((n+1:Nat):Int)=n+1:=by omega
  simp only[posL];split
  ·have:=aiJ (s:=s) n (i+1) (p.1+1,1) (b+1) (by show 0<=p.1+1;omega) (by show(0:Int)<=1;omega) (by show p.1+1<=b+1;omega) (by show(1:Int)<=b+1;omega) (by omega);omega
  ·have:=aiJ (s:=s) n (i+1) (p.1,p.2+1) (b+1) (by show 0<=p.1;omega) (by show 0<=p.2+1;omega) (by show p.1<=b+1;omega) (by show p.2+1<=b+1;omega) (by omega);omega
def aiI{s:ByteArray}{i j:Nat}{p:Int×Int}{b:Int}(h1:0<=p.1)(h2:0<=p.2)(h3:p.1<=b)(h4:p.2<=b)(h5:1<=b)(h:i<=j):
 0<=(posV s i j p).1∧0<=(posV s i j p).2∧(posV s i j p).1<=b+(j-i:Int)∧(posV s i j p).2<=b+(j-i:Int):=by
 have:=aiJ (s:=s) (j-i) i p b h1 h2 h3 h4 h5;unfold posV;omega
end Go.Ai
