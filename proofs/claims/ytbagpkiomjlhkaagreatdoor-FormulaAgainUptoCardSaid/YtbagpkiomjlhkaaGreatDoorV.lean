/- Chapter 4's values. -/
import Derived.Test.YtbagpkiomjlhkaaGreatDoorEngC
import Derived.Test.YtbagpkiomjlhkaaGreatDoorProg
set_option linter.all false
namespace Go.Ai
open Go Go.Proofs Tryz
abbrev zU0:AV:=.int .u8 (fun _=>0)
abbrev zI0:AV:=.int .i64 (fun _=>0)
def T4:List (Nat×TI):=[
 (3,⟨.int .i64,1,8,[zI0]⟩),
 (4,⟨.bool,1,1,[.bool (fun _=>false)]⟩),
 (9,⟨.str,1,16,[.str (fun _=>⟨#[]⟩)]⟩),
 (25,⟨.struct [(0,3),(1,3),(2,9),(3,22),(4,23)],5,80,[zI0,zI0,.str (fun _=>⟨#[]⟩),.nil,.nil]⟩),
 (5,⟨.int .u8,1,1,[zU0]⟩),
 (28,⟨.int .i64,1,8,[zI0]⟩),
 (56,⟨.struct [(0,3),(1,3),(2,3),(3,9),(4,22),(5,54)],6,88,[zI0,zI0,zI0,.str (fun _=>⟨#[]⟩),.nil,.nil]⟩),
 (220,⟨.int .u64,1,8,[.int .u64 (fun _=>0)]⟩),
 (52,⟨.struct [(0,3),(1,3),(2,3),(3,9),(4,9),(5,50),(7,4)],8,80,[zI0,zI0,zI0,.str (fun _=>⟨#[]⟩),.str (fun _=>⟨#[]⟩),zI0,zI0,.bool (fun _=>false)]⟩),
 (23,⟨.slice 25,1,24,[.nil]⟩),
 (246,⟨.int .u32,1,4,[.int .u32 (fun _=>0)]⟩),
 (35,⟨.ptr 81,1,8,[.cN]⟩),
 (58,⟨.ptr 90,1,8,[.cN]⟩),
 (121,⟨.ptr 123,1,8,[.cN]⟩),
 (21,⟨.int .i32,1,4,[.int .i32 (fun _=>0)]⟩),
 (123,⟨.struct [(0,9),(1,3),(2,3),(3,28)],4,40,[.str (fun _=>⟨#[]⟩),zI0,zI0,zI0]⟩),
 (120,⟨.slice 5,1,24,[.nil]⟩),
 (22,⟨.slice 56,1,24,[.nil]⟩),
 (91,⟨.ptr 93,1,8,[.cN]⟩),
 (33,⟨.slice 9,1,24,[.nil]⟩),
 (50,⟨.struct [(0,3),(1,3)],2,16,[zI0,zI0]⟩),
 (62,⟨.slice 3,1,24,[.nil]⟩),
 (12,⟨.int .u64,1,8,[.int .u64 (fun _=>0)]⟩),
 (77,⟨.slice 52,1,24,[.nil]⟩),
 (181,⟨.int .u64,1,8,[.int .u64 (fun _=>0)]⟩),
 (93,⟨.struct [(0,35),(1,3)],2,16,[.cN,zI0]⟩),
 (152,⟨.map 9 3,1,8,[.dz]⟩),
 (173,⟨.struct [(0,9),(1,56)],7,104,[.str (fun _=>⟨#[]⟩),zI0,zI0,zI0,.str (fun _=>⟨#[]⟩),.nil,.nil]⟩),
 (2,⟨.int .i64,1,8,[zI0]⟩),
 (160,⟨.iface,1,16,[.bz (fun _=>true)]⟩),
 (90,⟨.struct [(0,77),(1,3),(2,3),(3,28),(4,3),(5,3)],6,64,[.nil,zI0,zI0,zI0,zI0,zI0]⟩),
 (71,⟨.struct [(0,3),(1,3),(2,9)],3,32,[zI0,zI0,.str (fun _=>⟨#[]⟩)]⟩),
 (177,⟨.ptr 179,1,8,[.cN]⟩),
 (54,⟨.slice 173,1,24,[.nil]⟩),
 (67,⟨.slice 71,1,24,[.nil]⟩),
 (107,⟨.struct [(0,3),(1,3)],2,16,[zI0,zI0]⟩),
 (179,⟨.struct [(0,177),(1,120)],2,32,[.cN,.nil]⟩),
 (228,⟨.ptr 252,1,8,[.cN]⟩),
 (81,⟨.struct [(0,77),(1,3),(2,3),(3,28)],4,48,[.nil,zI0,zI0,zI0]⟩),
 (105,⟨.map 9 107,1,8,[.dz]⟩),
 (225,⟨.int .i64,1,8,[zI0]⟩),
 (128,⟨.ptr 52,1,8,[.cN]⟩),
 (235,⟨.struct [(0,5),(1,5)],2,2,[zU0,zU0]⟩),
 (153,⟨.array 10 152,10,80,[.dz,.dz,.dz,.dz,.dz,.dz,.dz,.dz,.dz,.dz]⟩),
 (124,⟨.func,1,8,[.bt]⟩),
 (125,⟨.slice 124,1,24,[.nil]⟩),
 (163,⟨.array 11 116,11,88,[.bt,.bt,.bt,.bt,.bt,.bt,.bt,.bt,.bt,.bt,.bt]⟩),
 (66,⟨.func,1,8,[.bt]⟩),
 (94,⟨.func,1,8,[.bt]⟩),
 (219,⟨.array 24 5,24,24,[zU0,zU0,zU0,zU0,zU0,zU0,zU0,zU0,zU0,zU0,zU0,zU0,zU0,zU0,zU0,zU0,zU0,zU0,zU0,zU0,zU0,zU0,zU0,zU0]⟩),
 (231,⟨.slice 28,1,24,[.nil]⟩),
 (84,⟨.func,1,8,[.bt]⟩),
 (129,⟨.func,1,8,[.bt]⟩),
 (134,⟨.func,1,8,[.bt]⟩),
 (166,⟨.func,1,8,[.bt]⟩),
 (187,⟨.array 5 9,5,80,[.str (fun _=>⟨#[]⟩),.str (fun _=>⟨#[]⟩),.str (fun _=>⟨#[]⟩),.str (fun _=>⟨#[]⟩),.str (fun _=>⟨#[]⟩)]⟩),
 (208,⟨.func,1,8,[.bt]⟩),
 (218,⟨.array 12 3,12,96,[zI0,zI0,zI0,zI0,zI0,zI0,zI0,zI0,zI0,zI0,zI0,zI0]⟩),
 (262,⟨.struct [(0,9)],1,16,[.str (fun _=>⟨#[]⟩)]⟩),
 (27,⟨.func,1,8,[.bt]⟩),
 (113,⟨.func,1,8,[.bt]⟩),
 (116,⟨.func,1,8,[.bt]⟩),
 (236,⟨.array 16 235,32,32,[zU0,zU0,zU0,zU0,zU0,zU0,zU0,zU0,zU0,zU0,zU0,zU0,zU0,zU0,zU0,zU0,zU0,zU0,zU0,zU0,zU0,zU0,zU0,zU0,zU0,zU0,zU0,zU0,zU0,zU0,zU0,zU0]⟩),
 (260,⟨.ptr 262,1,8,[.cN]⟩),
 (41,⟨.func,1,8,[.bt]⟩),
 (44,⟨.func,1,8,[.bt]⟩),
 (87,⟨.func,1,8,[.bt]⟩),
 (132,⟨.func,1,8,[.bt]⟩),
 (165,⟨.func,1,8,[.bt]⟩),
 (195,⟨.func,1,8,[.bt]⟩),
 (201,⟨.ptr 148,1,8,[.cN]⟩),
 (214,⟨.ptr 5,1,8,[.cN]⟩),
 (245,⟨.array 20 220,20,160,[.int .u64 (fun _=>0),.int .u64 (fun _=>0),.int .u64 (fun _=>0),.int .u64 (fun _=>0),.int .u64 (fun _=>0),.int .u64 (fun _=>0),.int .u64 (fun _=>0),.int .u64 (fun _=>0),.int .u64 (fun _=>0),.int .u64 (fun _=>0),.int .u64 (fun _=>0),.int .u64 (fun _=>0),.int .u64 (fun _=>0),.int .u64 (fun _=>0),.int .u64 (fun _=>0),.int .u64 (fun _=>0),.int .u64 (fun _=>0),.int .u64 (fun _=>0),.int .u64 (fun _=>0),.int .u64 (fun _=>0)]⟩),
 (266,⟨.array 32 5,32,32,[zU0,zU0,zU0,zU0,zU0,zU0,zU0,zU0,zU0,zU0,zU0,zU0,zU0,zU0,zU0,zU0,zU0,zU0,zU0,zU0,zU0,zU0,zU0,zU0,zU0,zU0,zU0,zU0,zU0,zU0,zU0,zU0]⟩)]
def tF:cn prog T4:=by unfold cn;kernel_rfl
def mF:prog.follows .mixedOrders=true:=zk
inductive V where
 | mk (kind int scale:Int) (text:ByteArray) (list:List V) (fields:List (ByteArray×V))
namespace V
def kind:V->Int|mk k _ _ _ _ _=>k
def int:V->Int|mk _ i _ _ _ _=>i
def scale:V->Int|mk _ _ s _ _ _=>s
def text:V->ByteArray|mk _ _ _ t _ _=>t
def list:V->List V|mk _ _ _ _ l _=>l
def fields:V->List (ByteArray×V)|mk _ _ _ _ _ f=>f
instance:Inhabited V:=⟨mk 0 0 0 ⟨#[]⟩ [] []⟩
def le:Nat->V->Prop
 | 0,_=>False
 | d+1,v=>v.list.length<=1073741824∧v.fields.length<=1073741824∧v.text.size<=1073741824∧(∀x∈v.list,le d x)∧∀x∈v.fields,x.1.size<=1073741824∧le d x.2
def lP{d:Nat}{v:V}(h:le d v):∃e,d=e+1:=by
 cases d with
 | zero=>exact h.elim
 | succ d=>exact⟨d,rfl⟩
end V
def nq(fr:FB)(v:Unit->V)(L F:(Unit->Nat)->List AV):List AV:=
 [.int .i64 (fun _=>(v ()).kind),.int .i64 (fun _=>(v ()).int),.int .i64 (fun _=>(v ()).scale),.str (fun _=>(v ()).text),.slc fr 6 (fun _=>(v ()).list.length) L,.slc fr 7 (fun _=>(v ()).fields.length) F]
def sub:Nat->FB->(Unit->V)->Bool->(Unit->Nat)->List AV
 | 0,_,_,_,_=>[]
 | d+1,fr,v,true,i=>nq fr (fun _=>(v ()).list.getD (i ()) default) (sub d fr (fun _=>(v ()).list.getD (i ()) default) true) (sub d fr (fun _=>(v ()).list.getD (i ()) default) false)
 | d+1,fr,v,false,i=>.str (fun _=>((v ()).fields.getD (i ()) default).1)::nq fr (fun _=>((v ()).fields.getD (i ()) default).2) (sub d fr (fun _=>((v ()).fields.getD (i ()) default).2) true) (sub d fr (fun _=>((v ()).fields.getD (i ()) default).2) false)
def cells(d:Nat)(fr:FB)(v:Unit->V):List AV:=nq fr v (sub d fr v true) (sub d fr v false)
def aK(d:Nat)(fr:FB)(v:Unit->V):AV:=.agg (cells d fr v)
def isNull(v:V):Bool:=v.kind==0&&v.int==0&&v.scale==0&&v.text.size==0&&v.list.length==0&&v.fields.length==0
def kz(v:V):List V:=if v.kind=8∨v.kind=10 then v.list else if v.kind=9 then v.fields.map (·.2)else[]
def gH(d:Nat)(fr:FB)(l:Unit->List V):AV:=.slc fr 6 (fun _=>(l ()).length) (fun i=>cells d fr fun _=>(l ()).getD (i ()) default)
def ad(s:ByteArray)(i:Nat):Int:=((s.data[i]?).getD 0).toNat
def rl(b:Int):Bool:=(97<=b&&b<=122)||(48<=b&&b<=57)||b==95
def isName(s:ByteArray):Bool:=s.size != 0&&s.size<=32&&(97<=ad s 0&&ad s 0<=122)&&(List.range s.size).all fun i=>rl (ad s i)
def IX{d:Nat}{fr:FB}{v v':V}(h:v=v'):aD (cells d fr fun _=>v) (cells d fr fun _=>v'):=by subst h;exact aD.of_eq rfl
end Go.Ai

namespace Go.Ai
open Go Go.Proofs Tryz
set_option maxRecDepth 100000
set_option maxHeartbeats 4000000
def fA{f:FuncId}{fn:Func}{c:Code}{args:List AV}{objs au:List (Nat×AO)}{res:AV}(rs:List ResultVar)(kp:List Nat)(aw:List (Nat×cL))(hf:prog.funcs[f]? = some fn)
 {q:Env->Prop} (h:∀E,q E)
 (hname : (fn.name == "runtime.NumGoroutine") = false := by rfl) (hb : fn.body = some c := by rfl) (hr : fn.results = rs.toArray := by rfl) (hl : q9 au objs = true := by rfl) (hn : Nat.ble args.length fn.ntmps = true := by rfl)
 (e:∀E,jJ 0 (q E) (wk none (fun _=>prog) (fun _=>T4) (fun _=>aw) (fun _=>kp) c (fun e E s=>kS (fun e E S=>pQ T4 rs res au e E S) e E s) E (SS.np fn.ntmps args objs)):=by
 intro _
 (repeat' with_reducible first|(apply j0;exact nY)|apply jO|apply jV|(apply jT;(focus(first|(intro zq;(try simp only[nc,cl]at zq);(try simp only[bl,dl]at zq);exact zq)|(intro zq;show False;(try simp only[nc,cl]at zq);(try simp only[bl,dl]at zq);done)));(focus(first|(intro zq;(try simp only[nc,cl]at zq);(try simp only[bl,dl]at zq);exact zq)|(intro zq;show False;(try simp only[nc,cl]at zq);(try simp only[bl,dl]at zq);done))))|intro _|(apply jW (m:=0);focus(intro zq;(first|apply wI|apply xE|apply uE|apply wu);cbv;(try dsimp only[nc]);exact zq))|exact jI)):Af prog f args objs res au:=
 Af.of tF mF rs kp aw hf (fun E=>(e E).f (h E)) hname hb hr hl hn
def fB{f:FuncId}{fn:Func}{c:Code}{args:List AV}{objs au:List (Nat×AO)}{res:AV}(rs:List ResultVar)(kp:List Nat)(aw:List (Nat×cL))(hf:prog.funcs[f]? = some fn)
 {q:Env->Prop} (h:∀E,q E)
 (hname : (fn.name == "runtime.NumGoroutine") = false := by rfl) (hb : fn.body = some c := by rfl) (hr : fn.results = rs.toArray := by rfl) (hl : q9 au objs = true := by rfl) (hn : Nat.ble args.length fn.ntmps = true := by rfl)
 (e:∀E,jJ 0 (q E) (wk none (fun _=>prog) (fun _=>T4) (fun _=>aw) (fun _=>kp) c (fun e E s=>kS (fun e E S=>pQ T4 rs res au e E S) e E s) E (SS.np fn.ntmps args objs)):=by
 intro _
 (repeat' first|(with_reducible first|(apply j0;exact nY)|apply jO|apply jV|(apply jT;(focus(first|(intro zq;(try simp only[nc,cl]at zq);(try simp only[bl,dl]at zq);exact zq)|(intro zq;show False;(try simp only[nc,cl]at zq);(try simp only[bl,dl]at zq);done)));(focus(first|(intro zq;(try simp only[nc,cl]at zq);(try simp only[bl,dl]at zq);exact zq)|(intro zq;show False;(try simp only[nc,cl]at zq);(try simp only[bl,dl]at zq);done))))|intro _|(apply jW (m:=0);focus(intro zq;(first|apply wI|apply xE|apply uE|apply wu);cbv;(try dsimp only[nc]);exact zq)))|((with_reducible apply jB);assumption)|(with_reducible (apply jW (m:=1);focus(intro zq;(first|refine rE ?_|refine nE ?_);cbv;(try dsimp only[nc]);(try simp only[wl,nc]);exact zq)))|(apply jW (m:=2);focus(intro zq;with_reducible (refine aC.2 ?_;(try simp only[wl,nc]);exact zq)))|(with_reducible first|apply jD|(apply j1;exact wY))|(apply j2;exact cZ)|(with_reducible exact jI))):Af prog f args objs res au:=
 Af.of tF mF rs kp aw hf (fun E=>(e E).f (h E)) hname hb hr hl hn
end Go.Ai

namespace Go.Ai
def zP:List Nat:=[2,16777218,4,26,8589934618,4,498,4]
def kp7:List Nat:=[1,1,72,4294967304,4,392,5000,29576,4]
def kp8:List Nat:=[6,67108870,16,38,102,17179869286,102,102,4398046511140,16,1156,16]
def kp9:List Nat:=[6,67108870,16,36,68719476772,16,100,228,1252,16]
def R4:List Nat:=[0,18,50,210,1]
def TS:List Nat:=[2,4]
def Yq:List Nat:=[2,18,274,12,2050,12,12]
def Nu:List Nat:=[2,10,26,18,4]
def Ac:List Nat:=[2,262146,8,4,34,549755813922,34,140737488355362,4,4]
def j9:List Nat:=[6,65540,16,100,268435556,484,8589935012,420,16,1125899906842628,3377699720527876,16,577586652210266116,16,9444734091639197270020,512,158456325028528675187087901184,16,16,40564819207303341973794409414660,1024,16,83076749736557242056487941267521540,16,4100,10633823966279326983230456482242760708,4100,10889035741470030830827987437816582770692,4100,713623846352979940529142984724747568191377412,4100,16]
def W9:List Nat:=[0,1]
def TD:List Nat:=[0,1]
def T8:List Nat:=[1,120,4]
def sr:List Nat:=[1,8193,4,9,8388609,0,4,17,49,68719476785,137438953521,49,9007199254741041,49,49,49,2361183241434822606865,145,17,2417851639229258349412368,4,4]
def SB:List Nat:=[1,65,28,28]
def RZ:List Nat:=[5,4]
def AQ:List Nat:=[5,68,68,16452,68,60,16777276,60,60]
def QT:List Nat:=[12,16]
def AR:List Nat:=[2,26,4106,4,2147483650,6442450946,4,2199023255554,4,4]
def Ff:List Nat:=[5,69,4,13,29,32797,28,2097172,4,4]
def Jz:List Nat:=[5,13,32781,12,4]
def nH:List Nat:=[5,4101,4,65541,4,4,13,29,61,33554493,37,1107296317,125,17179869301,117,117,562949953421413,37,36028797052518453,37,1152921504606847029,37,73786976294838206500,4,4]
def R2:List Nat:=[5,4]
def D6:List Nat:=[2,10,26,538,26,26,4]
def D7:List Nat:=[2,10,26,538,26,26,4]
def I6:List Nat:=[2,10,26,1050,10,4]
def mM:List Nat:=[6,38,131108,16,4194340,16,8589934628,68,192,18446744073709551680,64,16,1180591620717411303460,16,77371252455336267181195300,16,162259276829213363391578010288164,16,2722258935367507707706996859454145691652,256,16,22300745198530623141535718272648361505980420,16,1028,45671926166590716193865151022383844364247892996,1028,2993155353253689176481146537402947624255349848015876,1028,766247770432944429179173513575154591809369561091802116,3831238852164722145895867567875772959046847805459006468,766247770432944429179173513575154591809369561091808260,785403964693768039908652851414533456604603800119096118276,16,16]
def BI:List Nat:=[30,4126,64,26,65562,64,154,1048730,64,58720266,125829130,58720778,58721290,34418459658,64,58720266,64]
def Ns:List Nat:=[2,32770,4,26,4194330,4,18014398509482010,4,9223372036854775826,4,590295810358705651714,4,1208925819614629174706178,4,154742504910672534362390530,98,316912650057057350374175801442,4,130,81129638414606681695789005144066,4,664613997892457936451903530140172288,4,4]
def sk:List Nat:=[1,513,12,4097,12,17,48,524336,464,4294967504,12,48,1099511627792,12,12]
def JR:List Nat:=[1,9,137,9,32777,4,4]
def Tw:List Nat:=[2,18,4114,4,32768,98304,4,294912,4,1048576,4,4]
def Tv:List Nat:=[1,16,48,12,144,12,528,12,2064,12,8208,12,32784,12,131088,12,524304,12,2097168,12,8388624,12,33554448,12,134217744,12,536870912,12,12]
def Aa:List Nat:=[1,9,25,281,25,4121,25,25,4]
def RI:List Nat:=[2,18,8210,12,12]
def TB:List Nat:=[1,17,4,4]
def Ty:List Nat:=[1,8,24,4,72,4,264,4,1032,4,4104,4,16392,4,65544,4,262152,4,1048584,4,4194304,4,4]
def lR:List Nat:=[5,32773,60,69,197,221,989,989,3848290697949,8246337209053,3848290699997,3848290699997,285323267408605,3848290697949,3848290697949,989,5085,36893488147419108317,60,4722366482869645218781,4573,4573,618970019642690137449566685,4573,1267650600228229401496703209949,88,60,477,989]
def SO:List Nat:=[1,32,4]
def Jy:List Nat:=[5,37,4,4]
def Xa:List Nat:=[1,4]
def JB:List Nat:=[1027,19,0]
def Xe:List Nat:=[2,4]
def SA:List Nat:=[3,35,16]
def LW:List Nat:=[3,35,65537,0,16,16]
def Xg:List Nat:=[2,4]
def Xi:List Nat:=[2,4]
def Dp:List Nat:=[7,16391,64,229382,491526,229766,230150,1073971206,64,229382,64]
def QP:List Nat:=[12,16]
def Dq:List Nat:=[7,16391,64,229382,491526,229766,230150,1073971206,64,229382,64]
def WI:List Nat:=[5,4]
def SP:List Nat:=[1,32,4]
def Sz:List Nat:=[1,4]
def Xc:List Nat:=[1,9,137,393,393,393,4,4105,4,4]
def JA:List Nat:=[3,33,545,32,16]
def Xr:List Nat:=[5,4]
def Xs:List Nat:=[19,16]
def Xu:List Nat:=[5,4]
def Xw:List Nat:=[5,4]
def Fd:List Nat:=[19,531,1555,113,48,16,16777235,401,144,16,16]
def BF:List Nat:=[1,112,1048592,12,12]
def nQ:List Nat:=[1,112,2097200,12,176,944,134218160,240,549755814064,12,2199023255696,12,3216,18889465931478580855952,12,12]
def RB:List Nat:=[3,16]
def vd:List Nat:=[2,258,770,4,2306,4,8194,4,98306,229378,98330,2195466,10584074,2195530,539066378,4,98306,4]
def Fi:List Nat:=[1,9,456,968,488,456,456,4]
def Bp:List Nat:=[3,1025,5121,1121,263201,16,16]
def Nd:List Nat:=[1,16,48,48,48,48,12,1040,1040,1040,1040,1040,1040,1040,12,262160,262160,12,2097152,12,12]
def Ng:List Nat:=[1,4]
def Ni:List Nat:=[1,4]
def Nr:List Nat:=[1,33,97,4,257,9,32777,4,4194304,4,4,4]
def Np:List Nat:=[3,16]
def Nm:List Nat:=[2,4]
def AH:List Nat:=[6,38,70,32838,28,2097222,28,4294967366,28,902,3974,28]
def Wm:List Nat:=[2,18,50,50,4,65554,4,2147483650,4,4]
def AT:List Nat:=[6150,6158,6174,7196,4156,124,124,32876,4,262220,4,2097228,4,16777292,4,8589934668,4,132,17592186044548,4,4]
def Q4:List Nat:=[2,4]
def RH:List Nat:=[1,65,12,12]
def rq:List Nat:=[2,10,16394,49162,4,147466,4,8405002,4,268451850,18,137438953488,16,4,2199023271946,4,70368744194058,4,2251799813701642,32,4,4611686018427404298,128,4,9444732965739290443786,528905046081400263933960,1133367955888714851287048,528905046081400263934984,528905046081400263933960,528905046081400263933960,4,4951760157141521099596496906,277298568799925181577403826184,594211218856982531951579627528,277298568799925181577403830280,277298568799925181577403826184,277298568799925181577403826184,4,4]
def oy:List Nat:=[3,65539,16,35,35,35,99,99,227,483,8796093022691,483,483,35,0,1180591620717411303523,0,309485009821345068724781155,0,16]
def JM:List Nat:=[3,524291,16,35,35,137438953505,0,16]
def rF:List Nat:=[3,8195,16,35,99,227,268435683,99,227,227,2305843009213694179,227,227,9671406556917033397649571,0,16,803,9903520314283042199192994595,258,0,16]
def jw:List Nat:=[3,8195,16,35,35,99,99,4294967395,4398046511203,0,227,1635,9444732965739290428003,99,611,99,20282409603651670423947251286243,99,35,0,16,42535295865117307932921825928971026659,99,1361129467683753853853498429727072845923,99,16]
def z7:List Nat:=[3,387,899,451,2097603,65,0,16,387,562949953421315,16,1,0,16]
def JL:List Nat:=[8193,5,8388613,1,2199023255553,9,1152921504606846985,9,1]
def SZ:List Nat:=[1031,0]
def Ti:List Nat:=[3,16]
def Tg:List Nat:=[3,8]
def Uo:List Nat:=[3,66,48]
def WZ:List Nat:=[3,16]
def QM:List Nat:=[12,16]
def EU:List Nat:=[71,199,967,262599,967,199,64]
def WG:List Nat:=[5,4]
def LK:List Nat:=[1,129,4,8,8,16,4]
def JD:List Nat:=[19,8209,16,16,16]
def Xy:List Nat:=[5,4]
def XA:List Nat:=[5,4]
def XC:List Nat:=[5,12,4,4]
def vj:List Nat:=[71,199,57541,123077,59077,58309,134275781,448,58053,59845,1099511687365,448,57541,57541,448]
def vi:List Nat:=[7,775,33554439,192,1027,3075,17179872259,3075,3075,192]
def M4:List Nat:=[3,48]
def vh:List Nat:=[19,2067,112,24595,57363,24723,4219027,112,24595,24595,112]
def BB:List Nat:=[3,8195,48,48]
def DC:List Nat:=[3,387,899,419,65955,16,387,16]
def Nk:List Nat:=[1,4]
def BG:List Nat:=[3,387,899,419,65955,16,387,16]
def Wf:List Nat:=[3,19,1043,8,8]
def IU:List Nat:=[1,2097153,4,58720256,125829120,58720272,70368802897920,4,58720256,4]
def Yt:List Nat:=[1,1]
def Q8:List Nat:=[2,10,26,58,4]
def To:List Nat:=[3,32,16]
def EO:List Nat:=[1,9,9,777,1801,793,809,777,131881,809,777,134218537,777,2147484457,777,34359739177,777,549755814697,777,777,8,4]
def uz:List Nat:=[1,9,201,457,217,201,201,4]
def F6:List Nat:=[1,240,65776,12,12]
def Bx:List Nat:=[1,112,65648,12,224,16777440,12,416,160,140737488355488,128,12]
def SY:List Nat:=[3,65539,16,16]
def DU:List Nat:=[3,35,4294967331,35,16]
def Ys:List Nat:=[1,4]
def Al:List Nat:=[1,257,1,4]
def FX:List Nat:=[3,3,0,16]
def Kb:List Nat:=[259,0]
def SW:List Nat:=[1,4]
def SX:List Nat:=[1,4]
def SV:List Nat:=[1,4]
def BK:List Nat:=[5,4101,12,65541,12,117,485,869,3941,1152921504606847492,12,12]
def fP:List Nat:=[19,51,2147483699,1,0,1125899906842643,0,19,211,154742504910672534362390739,211,211,211,1329227995784915872903807060280344659,0,83,787,174224571863520493293247799005065324265747,0,0]
def Un:List Nat:=[3,65539,112,384,536871296,112,112]
def FZ:List Nat:=[3,3,2,48]
def lL:List Nat:=[3,387,899,419,65955,16,387,16]
def LR:List Nat:=[3,387,899,419,65955,16,387,16]
def ID:List Nat:=[1,9,456,968,488,16872,4,456,4]
def Rv:List Nat:=[3,35,99,2115,4096,16,16,8195,16,65539,16,524288,16,16]
def IF:List Nat:=[7,14343,30727,14727,2111879,64,15111,15367,2147499015,64,14343,274877906944,64,64]
def IH:List Nat:=[7,14343,30727,14727,2111879,64,15111,15367,2147499015,64,14343,274877906944,64,64]
def QL:List Nat:=[12,16]
def DQ:List Nat:=[3,67,524355,48,49,536870961,48,48]
def EW:List Nat:=[5,517,4,5,5,13,4194317,13,12,4]
def Bz:List Nat:=[3,8195,48,48]
def MN:List Nat:=[7,64]
def MO:List Nat:=[1,8,4]
def MR:List Nat:=[3,1026,16,16]
def F8:List Nat:=[3,515,48,48]
def M2:List Nat:=[3,16]
def Re:List Nat:=[2,4]
def Q5:List Nat:=[7,16384,64,64]
def Rg:List Nat:=[2,4]
def Rb:List Nat:=[2,4]
def IV:List Nat:=[1,224,480,240,4336,4,224,4]
def Yu:List Nat:=[2,10,32776,8,4]
def Q6:List Nat:=[7,516,64,64]
def Rm:List Nat:=[2,4]
def Ri:List Nat:=[2,4]
def Rk:List Nat:=[2,4]
def Ro:List Nat:=[2,4]
def Mq:List Nat:=[2,10,2058,4,114690,245762,114738,2211890,4,67223602,4,2199023370242,4,114690,4]
def Rq:List Nat:=[2,10,4,258,4,4]
def BJ:List Nat:=[2,18,530,12,34,131106,34,34,70368744177696,32,12]
def yd:List Nat:=[1,513,60,64,68,524356,68,68,76,1073741900,76,76,60]
def MY:List Nat:=[3,34,16]
def F7:List Nat:=[1,257,28,32,28]
def Uj:List Nat:=[1,65,12,12]
def Ru:List Nat:=[1,4]
def E4:List Nat:=[5,13,61,8221,4,33554445,4,4]
def JG:List Nat:=[65,1,0]
def MQ:List Nat:=[1,4]
def IW:List Nat:=[2,130,386,386,4,8194,10,458760,983048,458792,458760,458760,4,4]
def Nx:List Nat:=[2,2097152,4,4]
def Nv:List Nat:=[1,4]
def Ug:List Nat:=[1,4]
def WE:List Nat:=[5,4]
def AK:List Nat:=[7,135,135,391,536871303,391,8589934983,391,391,128,64]
def WC:List Nat:=[5,4]
def JH:List Nat:=[65,1,0]
def JC:List Nat:=[129,0]
def SQ:List Nat:=[1,0]
def WA:List Nat:=[5,4]
def AJ:List Nat:=[5,65541,4,5,5,13,536870925,13,12,4]
def uD:List Nat:=[5,261,4,13,61,4194365,4,34359738397,21,4,9007199254740997,4,590295810358705651717,5,69,68,4,4,4]
def xG:List Nat:=[71,199,4295,192,266439,266439,195,195,137438953665,193,192,70368744177861,193,449,449,961,961,961,193,192,64]
def E5:List Nat:=[7,135,391,33554823,0,64,903,2147484423,775,140737488355841,0,64,512,64]
end Go.Ai

namespace Go.Ai
open Go Go.Proofs Tryz
set_option maxRecDepth 100000
set_option maxHeartbeats 4000000
inductive X where
 | mk (op int:Int) (text:ByteArray) (value:List V) (args:List X)
namespace X
def op:X->Int|mk o _ _ _ _=>o
def int:X->Int|mk _ n _ _ _=>n
def text:X->ByteArray|mk _ _ s _ _=>s
def value:X->List V|mk _ _ _ v _=>v
def args:X->List X|mk _ _ _ _ a=>a
instance:Inhabited X:=⟨mk 0 0 ⟨#[]⟩ [] []⟩
end X
def X.le(e:Nat):Nat->X->Prop
 | 0,_=>False
 | d+1,x=>x.text.size<=100000000000∧x.value.length<=1073741824∧x.args.length<=1073741824∧(∀v∈x.value,V.le e v)∧∀y∈x.args,X.le e d y
def X.lP{e d:Nat}{x:X}(h:X.le e d x):∃c,d=c+1:=by
 cases d with
 | zero=>exact h.elim
 | succ d=>exact⟨d,rfl⟩
def mw(e:Nat)(fr:FB)(x:Unit->X)(A:(Unit->Nat)->List AV):List AV:=
 [.int .i64 (fun _=>(x ()).op),.int .i64 (fun _=>(x ()).int),.str (fun _=>(x ()).text),.slc fr 6 (fun _=>(x ()).value.length) (fun j=>cells e fr fun _=>(x ()).value.getD (j ()) default),.slc fr 5 (fun _=>(x ()).args.length) A]
def nT(e:Nat):Nat->FB->(Unit->X)->(Unit->Nat)->List AV
 | 0,_,_,_=>[]
 | d+1,fr,x,i=>mw e fr (fun _=>(x ()).args.getD (i ()) default) (nT e d fr fun _=>(x ()).args.getD (i ()) default)
def cQ(e d:Nat)(fr:FB)(x:Unit->X):List AV:=mw e fr x (nT e d fr x)
def aq(e d:Nat)(fr:FB)(x:Unit->X):AV:=.agg (cQ e d fr x)
def eP(e d:Nat)(fr:FB)(l:Unit->List X):AV:=.slc fr 5 (fun _=>(l ()).length) fun i=>cQ e d fr fun _=>(l ()).getD (i ()) default
inductive Tok where
 | mk (kind line col:Int) (text value:ByteArray) (num scale:Int) (joined:Bool)
namespace Tok
def kind:Tok->Int|mk k _ _ _ _ _ _ _=>k
def line:Tok->Int|mk _ l _ _ _ _ _ _=>l
def col:Tok->Int|mk _ _ c _ _ _ _ _=>c
def text:Tok->ByteArray|mk _ _ _ t _ _ _ _=>t
def value:Tok->ByteArray|mk _ _ _ _ v _ _ _=>v
def num:Tok->Int|mk _ _ _ _ _ n _ _=>n
def scale:Tok->Int|mk _ _ _ _ _ _ s _=>s
def joined:Tok->Bool|mk _ _ _ _ _ _ _ j=>j
instance:Inhabited Tok:=⟨mk 0 0 0 ⟨#[]⟩ ⟨#[]⟩ 0 0 false⟩
end Tok
def nv(t:Unit->Tok):List AV:=
 [.int .i64 fun _=>(t ()).kind,.int .i64 fun _=>(t ()).line,.int .i64 fun _=>(t ()).col,.str fun _=>(t ()).text,.str fun _=>(t ()).value,.int .i64 fun _=>(t ()).num,.int .i64 fun _=>(t ()).scale,.bool fun _=>(t ()).joined]
def ow(t:Unit->Tok):AV:=.agg (nv t)
abbrev zK(t:Tok):AV:=ow fun _=>t
def oD(l:Unit->List Tok):(Unit->Nat)->List AV:=fun i=>nv fun _=>(l ()).getD (i ()) default
def DN(l:Unit->List Tok):AV:=.slc .any 8 (fun _=>(l ()).length) (oD l)
def bD(c:Int):Bool:=decide (48<=c∧c<=57)
def bJ(c:Int):Bool:=decide ((97<=c∧c<=122)∨(65<=c∧c<=90))
def cx(c:Int):Bool:=bJ c||bD c||decide (c=95)
def o8(s:ByteArray)(p:Int->Bool):Nat->Nat->Nat
 | 0,i=>i
 | n+1,i=>if i<s.size∧p (ad s i)=true then o8 s p n (i+1)else i
def bn(s:ByteArray)(p:Int->Bool)(i:Nat):Nat:=o8 s p (s.size-i) i
def zY{s:ByteArray}{p:Int->Bool}{i:Nat}(h:¬(i<s.size∧p (ad s i)=true)):bn s p i=i:=by
 unfold bn;cases s.size-i with
 | zero=>rfl
 | succ n=>simp only[o8];rw[aa h]
def qf{s:ByteArray}{p:Int->Bool}{i:Nat}(h:i<s.size∧p (ad s i)=true):bn s p i=bn s p (i+1):=by
 unfold bn;obtain⟨n,hn⟩:∃n,s.size-i=n+1:=⟨s.size-i-1,zo⟩
 rw[hn,show s.size-(i+1)=n by omega,o8,ae h]
theorem Ms{s:ByteArray}{p:Int->Bool}:∀n i,i<=s.size->i<=o8 s p n i∧o8 s p n i<=s.size
 | 0,i,h=>⟨ao _,h⟩
 | n+1,i,h=>by
  simp only[o8];split
  ·have:=Ms (s:=s) (p:=p) n (i+1) zo;omega
  ·exact⟨ao _,h⟩
def jv{s:ByteArray}{p:Int->Bool}{i:Nat}(h:i<=s.size):i<=bn s p i∧bn s p i<=s.size:=Ms _ _ h
def iX(s:ByteArray):Nat->Nat->Nat
 | 0,i=>i
 | n+1,i=>if i<s.size then(if ad s i=32∨ad s i=9∨ad s i=10 then iX s n (i+1)else if ad s i=47∧ad s (i+1)=47 then iX s n (bn s (fun c=>c != 10) i)else i)else i
def dR(s:ByteArray)(i:Nat):Nat:=iX s (s.size-i) i
def mN(s:ByteArray):Nat->Nat->Int×Int->Int×Int
 | 0,_,p=>p
 | n+1,i,p=>mN s n (i+1) (if ad s i=10 then(p.1+1,1)else(p.1,p.2+1))
def gM(s:ByteArray)(i:Nat):Bool:=
 (ad s i==45&&ad s (i+1)==62)||(ad s i==33&&ad s (i+1)==61)||(ad s i==60&&ad s (i+1)==61)||(ad s i==62&&ad s (i+1)==61)||(ad s i==46&&ad s (i+1)==46)
def iY(c:Int):Bool:=[40,41,123,125,91,93,60,62,61,58,59,44,46,63,43,45,42,38,64,124].contains c
def bT(s:ByteArray)(i j:Nat)(p:Int×Int):Int×Int:=mN s (j-i) i p
def nI{s:ByteArray}{i:Nat}{p:Int×Int}:bT s i i p=p:=by unfold bT;rw[ku];rfl
theorem Mt{s:ByteArray}:∀n i p,mN s (n+1) i p=(fun q=>if ad s (i+n)=10 then(q.1+1,1)else(q.1,q.2+1)) (mN s n i p)
 | 0,i,p=>rfl
 | n+1,i,p=>by
  show mN s (n+1) (i+1) _=(fun q=>if ad s (i+(n+1))=10 then(q.1+1,(1:Int))else(q.1,q.2+1)) (mN s n (i+1) _)
  rw[Mt n (i+1),show i+1+n=i+(n+1) by omega]
def xH{s:ByteArray}{i j:Nat}{p:Int×Int}(h:i<=j):bT s i (j+1) p=if ad s j=10 then((bT s i j p).1+1,1)else((bT s i j p).1,(bT s i j p).2+1):=by
 unfold bT;rw[show j+1-i=(j-i)+1 by omega,Mt,show i+(j-i)=j by omega]
theorem Fm{s:ByteArray}:∀n i (p:Int×Int) (b:Int),0<=p.1->0<=p.2->p.1<=b->p.2<=b->1<=b->0<=(mN s n i p).1∧0<=(mN s n i p).2∧(mN s n i p).1<=b+n∧(mN s n i p).2<=b+n
 | 0,i,p,b,h1,h2,h3,h4,_=>⟨h1,h2,by show p.1<=b+(0:Nat);omega,by show p.2<=b+(0:Nat);omega⟩
 | n+1,i,p,b,h1,h2,h3,h4,h5=>by
  have hc:((n+1:Nat):Int)=n+1:=zo
  simp only[mN];split
  ·have:=Fm (s:=s) n (i+1) (p.1+1,1) (b+1) (by show 0<=p.1+1;omega) (by show(0:Int)<=1;omega) (by show p.1+1<=b+1;omega) (by show(1:Int)<=b+1;omega) zo;omega
  ·have:=Fm (s:=s) n (i+1) (p.1,p.2+1) (b+1) (by show 0<=p.1;omega) (by show 0<=p.2+1;omega) (by show p.1<=b+1;omega) (by show p.2+1<=b+1;omega) zo;omega
def uG{s:ByteArray}{i j:Nat}{p:Int×Int}{b:Int}(h1:0<=p.1)(h2:0<=p.2)(h3:p.1<=b)(h4:p.2<=b)(h5:1<=b)(h:i<=j):
 0<=(bT s i j p).1∧0<=(bT s i j p).2∧(bT s i j p).1<=b+(j-i:Int)∧(bT s i j p).2<=b+(j-i:Int):=by
 have:=Fm (s:=s) (j-i) i p b h1 h2 h3 h4 h5;unfold bT;omega
end Go.Ai
