/- Chapter 4's values. -/
import Derived.Test.YtalghhdapjmbbaaGreatDoorEngC
import Derived.Test.YtalghhdapjmbbaaGreatDoorProg
set_option linter.all false
namespace Go.Ai
open Go Go.Proofs
def T4:List (Nat×TI):=[
  (3,⟨.int .i64,1,8,[.int .i64 (fun _=>0)]⟩),
  (4,⟨.bool,1,1,[.bool (fun _=>false)]⟩),
  (33,⟨.struct [(0,3),(1,3),(2,3),(3,9),(4,30),(5,31)],6,88,[.int .i64 (fun _=>0),.int .i64 (fun _=>0),.int .i64 (fun _=>0),.str (fun _=>⟨#[]⟩),.nil,.nil]⟩),
  (26,⟨.struct [(0,3),(1,3),(2,3),(3,3),(4,22),(5,23),(6,24)],7,104,[.int .i64 (fun _=>0),.int .i64 (fun _=>0),.int .i64 (fun _=>0),.int .i64 (fun _=>0),.nil,.nil,.nil]⟩),
  (9,⟨.str,1,16,[.str (fun _=>⟨#[]⟩)]⟩),
  (52,⟨.struct [(0,3),(1,9),(2,3),(3,26),(10,30)],11,160,[.int .i64 (fun _=>0),.str (fun _=>⟨#[]⟩),.int .i64 (fun _=>0),.int .i64 (fun _=>0),.int .i64 (fun _=>0),.int .i64 (fun _=>0),.int .i64 (fun _=>0),.nil,.nil,.nil,.nil]⟩),
  (50,⟨.struct [(0,9),(1,33)],7,104,[.str (fun _=>⟨#[]⟩),.int .i64 (fun _=>0),.int .i64 (fun _=>0),.int .i64 (fun _=>0),.str (fun _=>⟨#[]⟩),.nil,.nil]⟩),
  (24,⟨.slice 52,1,24,[.nil]⟩),
  (30,⟨.slice 33,1,24,[.nil]⟩),
  (31,⟨.slice 50,1,24,[.nil]⟩),
  (5,⟨.int .u8,1,1,[.int .u8 (fun _=>0)]⟩),
  (27,⟨.int .i64,1,8,[.int .i64 (fun _=>0)]⟩),
  (93,⟨.slice 5,1,24,[.nil]⟩),
  (23,⟨.slice 26,1,24,[.nil]⟩),
  (22,⟨.slice 9,1,24,[.nil]⟩),
  (152,⟨.struct [(0,33),(6,3)],7,96,[.int .i64 (fun _=>0),.int .i64 (fun _=>0),.int .i64 (fun _=>0),.str (fun _=>⟨#[]⟩),.nil,.nil,.int .i64 (fun _=>0)]⟩),
  (153,⟨.slice 152,1,24,[.nil]⟩),
  (195,⟨.slice 3,1,24,[.nil]⟩),
  (184,⟨.array 11 127,11,88,[.nilf,.nilf,.nilf,.nilf,.nilf,.nilf,.nilf,.nilf,.nilf,.nilf,.nilf]⟩),
  (216,⟨.slice 27,1,24,[.nil]⟩),
  (156,⟨.struct [(0,9),(1,3),(2,3),(3,4),(4,4),(5,4),(6,4),(7,4)],8,40,[.str (fun _=>⟨#[]⟩),.int .i64 (fun _=>0),.int .i64 (fun _=>0),.bool (fun _=>false),.bool (fun _=>false),.bool (fun _=>false),.bool (fun _=>false),.bool (fun _=>false)]⟩),
  (157,⟨.array 11 156,88,440,repl 11 [.str (fun _=>⟨#[]⟩),.int .i64 (fun _=>0),.int .i64 (fun _=>0),.bool (fun _=>false),.bool (fun _=>false),.bool (fun _=>false),.bool (fun _=>false),.bool (fun _=>false)]⟩),
  (131,⟨.func,1,8,[.nilf]⟩),
  (145,⟨.func,1,8,[.nilf]⟩),
  (146,⟨.func,1,8,[.nilf]⟩),
  (148,⟨.func,1,8,[.nilf]⟩),
  (166,⟨.func,1,8,[.nilf]⟩),
  (136,⟨.int .u64,1,8,[.int .u64 (fun _=>0)]⟩),
  (12,⟨.int .u64,1,8,[.int .u64 (fun _=>0)]⟩),
  (88,⟨.int .u64,1,8,[.int .u64 (fun _=>0)]⟩),
  (133,⟨.int .u32,1,4,[.int .u32 (fun _=>0)]⟩),
  (197,⟨.int .u64,1,8,[.int .u64 (fun _=>0)]⟩),
  (174,⟨.int .i64,1,8,[.int .i64 (fun _=>0)]⟩),
  (2,⟨.int .i64,1,8,[.int .i64 (fun _=>0)]⟩),
  (60,⟨.ptr 3,1,8,[.nilp]⟩),
  (214,⟨.ptr 197,1,8,[.nilp]⟩),
  (143,⟨.func,1,8,[.nilf]⟩),
  (127,⟨.func,1,8,[.nilf]⟩),
  (142,⟨.func,1,8,[.nilf]⟩),
  (37,⟨.func,1,8,[.nilf]⟩),
  (43,⟨.array 2 3,2,16,[.int .i64 (fun _=>0),.int .i64 (fun _=>0)]⟩),
  (48,⟨.func,1,8,[.nilf]⟩),
  (53,⟨.func,1,8,[.nilf]⟩),
  (66,⟨.func,1,8,[.nilf]⟩),
  (67,⟨.array 11 66,11,88,[.nilf,.nilf,.nilf,.nilf,.nilf,.nilf,.nilf,.nilf,.nilf,.nilf,.nilf]⟩),
  (74,⟨.func,1,8,[.nilf]⟩),
  (108,⟨.map 9 3,1,8,[.nilm]⟩),
  (117,⟨.func,1,8,[.nilf]⟩)]
theorem tF:TOk Tryz.prog T4:=by unfold TOk;kernel_rfl
theorem mF:Tryz.prog.follows .mixedOrders=true:=by kernel_rfl
inductive V where
  | mk (kind int scale:Int) (text:ByteArray) (list:List V) (fields:List (ByteArray×V))
namespace V
def kind:V→Int|mk k _ _ _ _ _=>k
def int:V→Int|mk _ i _ _ _ _=>i
def scale:V→Int|mk _ _ s _ _ _=>s
def text:V→ByteArray|mk _ _ _ t _ _=>t
def list:V→List V|mk _ _ _ _ l _=>l
def fields:V→List (ByteArray×V)|mk _ _ _ _ _ f=>f
instance:Inhabited V:=⟨mk 0 0 0 ⟨#[]⟩ [] []⟩
def le:Nat→V→Prop
  | 0,_=>False
  | d+1,v=>v.list.length≤1073741824∧v.fields.length≤1073741824∧v.text.size≤1073741824∧(∀ x ∈ v.list,le d x)∧∀ x ∈ v.fields,x.1.size≤1073741824∧le d x.2
theorem lP {d:Nat} {v:V} (h:le d v):∃ e,d=e+1:=by
  cases d with
  | zero=>exact h.elim
  | succ d=>exact ⟨d,rfl⟩
theorem le_list {d:Nat} {v:V} (h:le (d+1) v) {i:Nat} (hi:i<v.list.length):le d (v.list.getD i default):=by
  have:v.list.getD i default=v.list[i]:=by simp [List.getD,hi]
  rw [this];exact h.2.2.2.1 _ (List.getElem_mem hi)
theorem le_field {d:Nat} {v:V} (h:le (d+1) v) {i:Nat} (hi:i<v.fields.length):le d (v.fields.getD i default).2:=by
  have:v.fields.getD i default=v.fields[i]:=by simp [List.getD,hi]
  rw [this];exact (h.2.2.2.2 _ (List.getElem_mem hi)).2
end V
def cellsG (fr:FB) (v:Unit→V) (L F:(Unit→Nat)→List AV):List AV :=
  [.int .i64 (fun _=>(v ()).kind),.int .i64 (fun _=>(v ()).int),.int .i64 (fun _=>(v ()).scale),.str (fun _=>(v ()).text),.slc fr 6 (fun _=>(v ()).list.length) L,.slc fr 7 (fun _=>(v ()).fields.length) F]
def sub:Nat→FB→(Unit→V)→Bool→(Unit→Nat)→List AV
  | 0,_,_,_,_=>[]
  | d+1,fr,v,true,i=>cellsG fr (fun _=>(v ()).list.getD (i ()) default) (sub d fr (fun _=>(v ()).list.getD (i ()) default) true) (sub d fr (fun _=>(v ()).list.getD (i ()) default) false)
  | d+1,fr,v,false,i=>.str (fun _=>((v ()).fields.getD (i ()) default).1) :: cellsG fr (fun _=>((v ()).fields.getD (i ()) default).2) (sub d fr (fun _=>((v ()).fields.getD (i ()) default).2) true) (sub d fr (fun _=>((v ()).fields.getD (i ()) default).2) false)
def cells (d:Nat) (fr:FB) (v:Unit→V):List AV:=cellsG fr v (sub d fr v true) (sub d fr v false)
def encV (d:Nat) (fr:FB) (v:Unit→V):AV:=.agg (cells d fr v)
def isNull (v:V):Bool:=v.kind == 0 && v.int == 0 && v.scale == 0 && v.text.size == 0 && v.list.length == 0 && v.fields.length == 0
def kz (v:V):List V:=if v.kind=8∨v.kind=10 then v.list else if v.kind=9 then v.fields.map (·.2) else []
def slcV (d:Nat) (fr:FB) (l:Unit→List V):AV:=.slc fr 6 (fun _=>(l ()).length) (fun i=>cells d fr fun _=>(l ()).getD (i ()) default)
def byt (s:ByteArray) (i:Nat):Int:=((s.data[i]?).getD 0).toNat
def nameByte (b:Int):Bool:=(97≤b && b≤122) || (48≤b && b≤57) || b == 95
def isName (s:ByteArray):Bool:=s.size != 0 && s.size≤32 && (97≤byt s 0 && byt s 0≤122) && (List.range s.size).all fun i=>nameByte (byt s i)
theorem cells_eq {d:Nat} {fr:FB} {v v':V} (h:v=v'):LeL (cells d fr fun _=>v) (cells d fr fun _=>v'):=by subst h;exact LeL.of_eq rfl
end Go.Ai

namespace Go.Ai
def kp3:List Nat:=[12,108,364,67109228,16,16]
def kp10:List Nat:=[12,76,2124,48,48]
def kp11:List Nat:=[28,92,32860,48,1048604,48,400,536871056,48,656,1680,1680,656,68719476880,48,48]
def kp12:List Nat:=[0,6,30,126,510,1]
def kp13:List Nat:=[12,9223372036854775820,16,44,295147905179352825900,44,2417851639229258349412396,16,76,77371252455336267181195340,76,1267650600228229401496703205452,16,140,40564819207303340847894502572172,140,908,11417981541647679048466287755595961091061973900,16,1932,365375409332725729550921208179070754913983137676,1932,5986310706507378352962293074805895248510699696031628,16,16]
def kp14:List Nat:=[28,92,2140,48,48]
def kp19:List Nat:=[19,16]
def kp21:List Nat:=[12,40,552,16,16]
def kp22:List Nat:=[12,16]
def kp23:List Nat:=[28,1073741852,48,92,2199023255644,92,35184372088924,105553116266588,105553116266588,105553116266588,105553116266588,48,144150372447944796,48,4611721202799476828,18446744073709551708,148,48,1208925819614629174706268,48,48,4951760157141521099596496924,19807040628566084398385987612,48,649037107316853453566312041152540,48,788,2787593149816327892691964784081045188247828,48,48,639406966332270026714112114313373821099470487580,1370157784997721485815954530671515330927436759068,639406966332270026714112114313373821099470489628,47407459360921163409232026761234430450089311864860,639406966332270026714112114313373821099470501916,5986950113473710622989007186920208622331799166523420,48,95781610711084385917423403309008637349992294606968860,48,196159429870240740202138446189351689816572428738971572252,48,639406966332270026714112114313373821099470487580,48]
def kp24:List Nat:=[14,12,14348,30732,14380,14348,14348,29360132,62914564,29360260,29360132,29360132]
def kp25:List Nat:=[12,16]
def kp26:List Nat:=[28,540,48,32796,48,549755813916,48,92,9223372036854775900,48,464,302231454903657293677008,48,80,19342813113834066795298908,80,39614081257132168796771975260,80,48]
def kp35:List Nat:=[2,10,18,274,4,4096,4,4]
def kp36:List Nat:=[1,1]
def kp37:List Nat:=[6,52,12]
def kp38:List Nat:=[5,4]
def kp40:List Nat:=[3,387,899,419,65955,16,387,16]
def kp41:List Nat:=[3,8]
def kp42:List Nat:=[6,262,16,16]
def kp43:List Nat:=[5,4]
def kp44:List Nat:=[12,32780,16,40,104,4194408,104,232,8589934824,16,16]
def kp45:List Nat:=[85,341,131413,192,1861,34359739201,192,2199023256385,833,192]
def kp46:List Nat:=[12,108,16]
def kp47:List Nat:=[12,204,2097228,768,48,549755813964,48,3072,48]
def kp48:List Nat:=[78,334,115014,246086,116038,1164614,115014,549755929926,122182,1125899906960710,192,115014,576460752303539526,115014,115014,192]
def kp49:List Nat:=[25,16]
def kp50:List Nat:=[12,32780,16,33554444,16,34359738380,16,44,140737488355372,16,76,1152921504606847052,76,204,37778931862957161709772,16,9671406556917033397649420,16,268,5070602400912917605986812821772,268,780,664613997892457936451903530140173068,16,1292,43556142965880123323311949751266331067660,16,16]
def kp51:List Nat:=[12,16]
def kp52:List Nat:=[6,14,114702,245774,114734,114702,114702,78,15032385614,32212254798,15032385870,15032385614,15032385614,6,4]
def kp53:List Nat:=[28,248,2032,4080,8589938672,7024,7024,7024,17592186051440,2064,16,2064,16]
def kp60:List Nat:=[14,2062,64,65550,64,14,142,134217870,64,7516192782,16106127374,7516193550,7516194574,8803609216782,64,590295810366221844494,64,7516192782,64]
def kp61:List Nat:=[2,10,14346,30730,14378,14346,14346,58720264,125829128,58720392,58720264,58720264,4]
def kp62:List Nat:=[0,16]
def kp63:List Nat:=[12,16]
def kp64:List Nat:=[12,16]
def kp65:List Nat:=[12,44,16,32780,16,16]
def kp66:List Nat:=[12,16]
def kp67:List Nat:=[12,44,76,16]
def kp68:List Nat:=[12,44,16]
def kp69:List Nat:=[6,22,278,12,12]
def kp76:List Nat:=[3,16]
def kp77:List Nat:=[1,17,4,4]
def kp78:List Nat:=[2,10,40,0,4]
def kp79:List Nat:=[6,14,14,28686,61454,28718,28686,28686,939524108,2013265932,939524236,939524108,939524108,4]
def kp81:List Nat:=[5,13,1805,3853,1853,1901,268437293,1805,1805,12,4]
def kp82:List Nat:=[3,35,16,512,16,16]
def kp83:List Nat:=[3,35,32803,35,16777251,16,16]
def kp84:List Nat:=[3,1027,16,12291,28675,12323,16789507,16,12291,16]
def kp85:List Nat:=[7,16391,64,229382,491526,229766,230150,1073971206,64,229382,64]
def kp86:List Nat:=[7,16391,64,229382,491526,229766,230150,1073971206,64,229382,64]
def kp87:List Nat:=[12,16]
def kp88:List Nat:=[7,16391,64,229382,491526,229766,230150,1073971206,64,229382,64]
def kp89:List Nat:=[12,16]
def kp90:List Nat:=[6,6,14,229390,491534,229422,229390,229390,6,4]
def kp91:List Nat:=[1,17,4,4]
def kp92:List Nat:=[2,18,65554,18,30,58720284,125829148,58720380,2206203996,58720348,58720284,58720284,28]
def kp104:List Nat:=[2,2050,4,10,26,1048602,4,4194314,34,34359738402,4,137438953482,137438953474,4,590295810358705651714,590295810358705651714,4,309485009821345068724781058,4,316912650057057350374175801346,4,121694457621910022543683507716098,283953734451123385935261518004226,121694457621910022543683507716162,121694457621910022543683507716226,10506288174691565279604676166156418,4,121694457621910022543683507716098,4]
def kp105:List Nat:=[2,130,386,4,4226,4098,10,7340040,15728648,7340072,7340040,7340040,4,4]
def kp106:List Nat:=[12,16]
def kp107:List Nat:=[2,10,138,394,4106,8,8388746,8,8589934602,481036337160,1030792151048,481036337192,9277129359400,26869315403816,481036337160,2252280850022440,481036337160,481036337160,4]
def kp108:List Nat:=[3,16]
def kp109:List Nat:=[3,8]
def kp110:List Nat:=[3,16]
def kp111:List Nat:=[6,36,8]
def kp112:List Nat:=[6,8]
def kp113:List Nat:=[14,108,16]
def kp114:List Nat:=[6,262,774,774,774,774,4,33554694,1073741830,4,4,1099511628038,4,70368744177926,14,1688849860263950,3940649673949198,1688849860263950,1688849860263950,4,9223372036854776070,4,151115727451828646838278,22,8462480737302404222943252,18133887294219437620592660,8462480737302404222943316,163204985647974938585333844,472689995469320007310114900,8462480737302404222943252,633833762594852003152574546004,8462480737302404222943252,8462480737302404222943252,4,4]
def kp120:List Nat:=[3,387,899,419,65955,16,387,16]
def kp122:List Nat:=[3,16]
def kp123:List Nat:=[6,8]
def kp124:List Nat:=[2,4]
def kp128:List Nat:=[12,16]
def kp135:List Nat:=[7,64]
def kp136:List Nat:=[1,1]
def kp137:List Nat:=[12,44,44,44,44,32,16,16]
def kp138:List Nat:=[2,66,4,32770,4,14680066,31457282,14680090,14680122,4309647418,4,35184386768922,4,144115188090535938,4,14680066,4]
def kp139:List Nat:=[6,38,2086,16,65574,16,2097188,16,268435488,16,8796093022240,16,9007199254740992,16,16]
def kp140:List Nat:=[6150,6158,6174,7196,4156,124,124,32876,4,262220,4,2097228,4,16777292,4,8589934668,4,132,17592186044548,4,4]
def kp141:List Nat:=[12,32780,16,131084,393228,393228,393228,393228,16,137439084556,4398046511116,16,16,72057594038059020,16,73786976294838337548,16,9671406556917033397780492,104,16,5070602400912917605986812821516,283953734451123385935261518004236,608472288109550112718417538580492,283953734451123385935261518004492,283953734451123385935261518006028,170141467414203682855073238977402109964,16,283953734451123385935261518004236,16,16]
def kp142:List Nat:=[3,387,899,419,65955,16,387,16]
def kp143:List Nat:=[5,4]
def kp148:List Nat:=[3,387,899,419,65955,16,387,16]
def kp151:List Nat:=[1,9,456,968,488,16872,4,456,4]
def kp152:List Nat:=[3,35,99,2115,4096,16,16,8195,16,65539,16,524288,16,16]
def kp153:List Nat:=[7,14343,30727,14727,2111879,64,15111,15367,2147499015,64,14343,274877906944,64,64]
def kp154:List Nat:=[7,14343,30727,14727,2111879,64,15111,15367,2147499015,64,14343,274877906944,64,64]
def kp155:List Nat:=[12,16]
def kp173:List Nat:=[1,2097153,4,58720256,125829120,58720272,70368802897920,4,58720256,4]
def kp174:List Nat:=[6,8]
def kp175:List Nat:=[1,1]
def kp176:List Nat:=[2,10,26,58,4]
def kp177:List Nat:=[3,16]
def kp178:List Nat:=[6,8]
def kp179:List Nat:=[28,48]
def kp180:List Nat:=[6,36,8]
def kp181:List Nat:=[22,84,65620,48,48]
def kp182:List Nat:=[2,130,386,386,4,8194,10,458760,983048,458792,458760,458760,4,4]
def kp192:List Nat:=[1,4]
def kp200:List Nat:=[2,4]
def kp201:List Nat:=[7,16384,64,64]
def kp202:List Nat:=[2,4]
def kp203:List Nat:=[2,4]
def kp204:List Nat:=[1,224,480,240,4336,4,224,4]
def kp205:List Nat:=[2,10,32776,8,4]
def kp206:List Nat:=[7,516,64,64]
def kp207:List Nat:=[2,4]
def kp208:List Nat:=[2,4]
def kp209:List Nat:=[2,4]
def kp210:List Nat:=[2,4]
def kp211:List Nat:=[2,10,2058,4,114690,245762,114738,2211890,4,67223602,4,2199023370242,4,114690,4]
def kp212:List Nat:=[2,10,4,258,4,4]
def kp213:List Nat:=[3,387,899,419,65955,16,387,16]
def kp214:List Nat:=[22,16406,48,84,2097236,48,48]
def kp215:List Nat:=[6,8]
def kp216:List Nat:=[12,16]
def kp221:List Nat:=[6,8]
end Go.Ai

namespace Go.Ai
open Go Go.Proofs
set_option maxRecDepth 100000
set_option maxHeartbeats 2000000
theorem IsNull_ok (d:Nat) (v:V):Af Tryz.prog 124 [encV d .any fun _=>v] [] (.bool fun _=>isNull v) []:=by
  (apply Af.of tF mF [.tmp 2] kp124 [] Tryz.func124 (fun _=>?_);(any_goals ((with_reducible refine wI ?_);cbv;(try dsimp only [nc] at *);(repeat' (with_reducible first|exact aO|exact oN|refine oC ?_ ?_|refine VC.mk rfl ?_ ?_ ?_|(apply Ca.mk<;>intro _)|(apply Cv.mk<;>intro zq<;>(try simp only [nc,cl] at zq)<;>(try simp only [bl,dl] at zq)<;>(revert zq;intro _))|((first|apply xE|apply uE);cbv;(try dsimp only [nc] at *)))))))
  ((all_goals (try (with_reducible ((first|refine rE ?_|refine nE ?_);(focus (cbv;(try dsimp only [nc] at *);(try simp only [wl,nc]);(repeat' (with_reducible apply And.intro));all_goals (try exact wZ)))))));(all_goals (try ((with_reducible rw [aC]);(try simp only [wl,nc]);(repeat' (with_reducible apply And.intro));(all_goals (try exact cZ))))))
  rw [Bool.eq_iff_iff]
  simp [isNull,bytes_empty]
theorem isName_iff (s:ByteArray):isName s=true↔0<s.size∧s.size≤32∧(97≤byt s 0∧byt s 0≤122)∧∀ j,j<s.size→nameByte (byt s j)=true:=by
  simp only [isName,Bool.and_eq_true,bne_iff_ne,decide_eq_true_eq,List.all_eq_true,List.mem_range,ne_eq,and_assoc,Nat.pos_iff_ne_zero]
theorem isName_no {s:ByteArray} (h:¬ (0<s.size∧s.size≤32∧(97≤byt s 0∧byt s 0≤122)∧∀ j,j<s.size→nameByte (byt s j)=true)):false=isName s:=by
  rw [← isName_iff] at h;simpa using h
theorem IsName_ok (s:ByteArray) (hs:s.size≤35184372088832):Af Tryz.prog 173 [.str fun _=>s] [] (.bool fun _=>isName s) []:=by
  (apply Af.of tF mF [.tmp 2] kp173 [] Tryz.func173 (fun _=>?_);(any_goals ((with_reducible refine wI ?_);cbv;(try dsimp only [nc] at *);(repeat' (with_reducible first|exact aO|exact oN|refine oC ?_ ?_|refine VC.mk rfl ?_ ?_ ?_|(apply Ca.mk<;>intro _)|(apply Cv.mk<;>intro zq<;>(try simp only [nc,cl] at zq)<;>(try simp only [bl,dl] at zq)<;>(revert zq;intro _))|((first|apply xE|apply uE);cbv;(try dsimp only [nc] at *)))))))
  ((all_goals (try (with_reducible ((first|refine rE ?_|refine nE ?_);(focus (cbv;(try dsimp only [nc] at *);(try simp only [wl,nc]);(repeat' (with_reducible apply And.intro));all_goals (try exact wZ)))))));(all_goals (try ((with_reducible rw [aC]);(try simp only [wl,nc]);(repeat' (with_reducible apply And.intro));(all_goals (try exact cZ))))))
  · exact isName_no (by simp only [byt];rw [show Int.toNat 0=0 from rfl] at *;((((try simp only [nc,cl] at *)<;>(try rw [Bool.eq_iff_iff]))<;>(try simp only [bl,false_iff,true_iff,iff_true,iff_false,dec_t,dec_f,ne_eq,Decidable.not_not] at *))<;>(first|omega|grind)))
  refine .loop (fun i:Nat=>⟨48,[(25,.int .i64 fun _=>i),(24,.int .i64 fun _=>s.size),(23,.slc .any 1 (fun _=>s.size) fun i=>[.int .u8 fun _=>((s.data[i ()]?).getD 0).toNat])],[]⟩)
    (fun i=>i≤s.size∧∀ j,j<i→nameByte (byt s j)=true) (fun i=>s.size - i) 0 (by simp) ?_ fun i E hi=>?_
  · (focus (cbv;(try dsimp only [nc] at *);(try simp only [wl,nc]);(repeat' (with_reducible apply And.intro));all_goals (try exact wZ)))
  apply AWp.wk tF mF [] kp173 ?_
  (any_goals ((with_reducible refine wI ?_);cbv;(try dsimp only [nc] at *);(repeat' (with_reducible first|exact aO|exact oN|refine oC ?_ ?_|refine VC.mk rfl ?_ ?_ ?_|(apply Ca.mk<;>intro _)|(apply Cv.mk<;>intro zq<;>(try simp only [nc,cl] at zq)<;>(try simp only [bl,dl] at zq)<;>(revert zq;intro _))|((first|apply xE|apply uE);cbv;(try dsimp only [nc] at *))))))
  ((all_goals (try (with_reducible ((first|refine rE ?_|refine nE ?_);(focus (cbv;(try dsimp only [nc] at *);(try simp only [wl,nc]);(repeat' (with_reducible apply And.intro));all_goals (try exact wZ)))))));(all_goals (try ((with_reducible rw [aC]);(try simp only [wl,nc]);(repeat' (with_reducible apply And.intro));(all_goals (try exact cZ))))))
  · have q:=‹_∧¬ _=(95:Int)›
    refine isName_no fun z=>?_
    have:=z.2.2.2 i ‹_›
    simp only [nameByte,byt] at this
    ((((try simp only [nc,cl] at *)<;>(try rw [Bool.eq_iff_iff]))<;>(try simp only [bl,false_iff,true_iff,iff_true,iff_false,dec_t,dec_f,ne_eq,Decidable.not_not] at *))<;>(first|omega|grind))
  · have q:=‹_∨_=(95:Int)›
    refine dE (i+1) ⟨⟨by omega,fun j hj=>?_⟩,by omega⟩ ?_
    · rcases Nat.lt_succ_iff_lt_or_eq.1 hj with hj|rfl
      · exact hi.2 j hj
      · simp only [nameByte,byt];((((try simp only [nc,cl] at *)<;>(try rw [Bool.eq_iff_iff]))<;>(try simp only [bl,false_iff,true_iff,iff_true,iff_false,dec_t,dec_f,ne_eq,Decidable.not_not] at *))<;>(first|omega|grind))
    · (focus (cbv;(try dsimp only [nc] at *);(try simp only [wl,nc]);(repeat' (with_reducible apply And.intro));all_goals (try exact wZ)))
      exact w64n (by omega)
  · have hc:=‹(_∧_)∧_›
    rw [show Int.toNat 0=0 from rfl] at hc
    exact ((isName_iff s).2 ⟨by omega,by omega,⟨hc.1.2,hc.2⟩,fun j hj=>hi.2 j (by omega)⟩).symm
def between (n lo hi:Int):Int:=if n<lo∨hi<n then 2 else 0
theorem between_ok (n lo hi:Int):Af Tryz.prog 201 [.int .i64 fun _=>n,.int .i64 fun _=>lo,.int .i64 fun _=>hi] [] (.int .i64 fun _=>between n lo hi) []:=by
  (apply Af.of tF mF [.tmp 6] kp201 [] Tryz.func201 (fun _=>?_);(any_goals ((with_reducible refine wI ?_);cbv;(try dsimp only [nc] at *);(repeat' (with_reducible first|exact aO|exact oN|refine oC ?_ ?_|refine VC.mk rfl ?_ ?_ ?_|(apply Ca.mk<;>intro _)|(apply Cv.mk<;>intro zq<;>(try simp only [nc,cl] at zq)<;>(try simp only [bl,dl] at zq)<;>(revert zq;intro _))|((first|apply xE|apply uE);cbv;(try dsimp only [nc] at *)))))))
  ((all_goals (try (with_reducible ((first|refine rE ?_|refine nE ?_);(focus (cbv;(try dsimp only [nc] at *);(try simp only [wl,nc]);(repeat' (with_reducible apply And.intro));all_goals (try exact wZ)))))));(all_goals (try ((with_reducible rw [aC]);(try simp only [wl,nc]);(repeat' (with_reducible apply And.intro));(all_goals (try exact cZ))))))
  all_goals ((try simp only [between]);((try simp only [nc,cl] at *)<;>grind))
def sizeE (n most e:Int):Int:=if most<n then e else 0
theorem sizeE_ok (n most e:Int):Af Tryz.prog 206 [.int .i64 fun _=>n,.int .i64 fun _=>most,.int .i64 fun _=>e] [] (.int .i64 fun _=>sizeE n most e) []:=by
  (apply Af.of tF mF [.tmp 6] kp206 [] Tryz.func206 (fun _=>?_);(any_goals ((with_reducible refine wI ?_);cbv;(try dsimp only [nc] at *);(repeat' (with_reducible first|exact aO|exact oN|refine oC ?_ ?_|refine VC.mk rfl ?_ ?_ ?_|(apply Ca.mk<;>intro _)|(apply Cv.mk<;>intro zq<;>(try simp only [nc,cl] at zq)<;>(try simp only [bl,dl] at zq)<;>(revert zq;intro _))|((first|apply xE|apply uE);cbv;(try dsimp only [nc] at *)))))))
  ((all_goals (try (with_reducible ((first|refine rE ?_|refine nE ?_);(focus (cbv;(try dsimp only [nc] at *);(try simp only [wl,nc]);(repeat' (with_reducible apply And.intro));all_goals (try exact wZ)))))));(all_goals (try ((with_reducible rw [aC]);(try simp only [wl,nc]);(repeat' (with_reducible apply And.intro));(all_goals (try exact cZ))))))
  all_goals ((try simp only [sizeE]);((try simp only [nc,cl] at *)<;>grind))
def usesB (v:V):Bool :=
  ((v.kind == 1 || v.kind == 2 || v.kind == 6 || v.kind == 7 || v.kind == 3) || v.int == 0) && (v.kind == 3 || v.scale == 0) && ((v.kind == 4 || v.kind == 5 || v.kind == 10) || v.text.size == 0) &&
    ((v.kind == 8 || v.kind == 10) || v.list.length == 0) && (v.kind == 9 || v.fields.length == 0)
theorem uses_ok (d:Nat) (v:V):Af Tryz.prog 176 [encV d .any fun _=>v] [] (.bool fun _=>usesB v) []:=by
  (apply Af.of tF mF [.tmp 2] kp176 [] Tryz.func176 (fun _=>?_);(any_goals ((with_reducible refine wI ?_);cbv;(try dsimp only [nc] at *);(repeat' (with_reducible first|exact aO|exact oN|refine oC ?_ ?_|refine VC.mk rfl ?_ ?_ ?_|(apply Ca.mk<;>intro _)|(apply Cv.mk<;>intro zq<;>(try simp only [nc,cl] at zq)<;>(try simp only [bl,dl] at zq)<;>(revert zq;intro _))|((first|apply xE|apply uE);cbv;(try dsimp only [nc] at *)))))))
  ((all_goals (try (with_reducible ((first|refine rE ?_|refine nE ?_);(focus (cbv;(try dsimp only [nc] at *);(try simp only [wl,nc]);(repeat' (with_reducible apply And.intro));all_goals (try exact wZ)))))));(all_goals (try ((with_reducible rw [aC]);(try simp only [wl,nc]);(repeat' (with_reducible apply And.intro));(all_goals (try exact cZ))))))
  all_goals (simp only [usesB];((((try simp only [nc,cl] at *)<;>(try rw [Bool.eq_iff_iff]))<;>(try simp only [bl,false_iff,true_iff,iff_true,iff_false,dec_t,dec_f,ne_eq,Decidable.not_not] at *))<;>(first|omega|grind)))
def fI (f:Nat→Int):Nat→Int
  | 0=>0
  | n+1=>if fI f n≠0 then fI f n else f n
theorem firstI_zero {f:Nat→Int}:∀ {n i:Nat},i≤n→fI f n=0→fI f i=0
  | 0,i,h,e=>by rw [Nat.le_zero.1 h];exact e
  | n + 1,i,h,e=>by
    rcases Nat.lt_or_eq_of_le h with h|rfl
    · refine firstI_zero (Nat.le_of_lt_succ h) ?_
      simp only [fI] at e
      split at e
      · exact e
      · rename_i q;simpa using q
    · exact e
theorem firstI_at {f:Nat→Int}:∀ {n i:Nat},i<n→fI f i=0→f i≠0→fI f n=f i
  | 0,i,h,_,_=>by omega
  | n + 1,i,h,e,q=>by
    rcases Nat.lt_succ_iff_lt_or_eq.1 h with h|rfl
    · have:=firstI_at h e q
      simp only [fI,this]
      rw [if_pos q]
    · simp [fI,e]
theorem first_ok (n:Nat) (f:Nat→Int) (hn:n≤1000):Af Tryz.prog 204 [.aref 1000 0 fun _=>n] [(1000,.arr false 27 1 0 (fun _=>n) fun i=>[.int .i64 fun _=>f (i ())])] (.int .i64 fun _=>fI f n) [(1000,.arr false 27 1 0 (fun _=>n) fun i=>[.int .i64 fun _=>f (i ())])]:=by
  (apply Af.of tF mF [.tmp 2] kp204 [] Tryz.func204 (fun _=>?_);(any_goals ((with_reducible refine wI ?_);cbv;(try dsimp only [nc] at *);(repeat' (with_reducible first|exact aO|exact oN|refine oC ?_ ?_|refine VC.mk rfl ?_ ?_ ?_|(apply Ca.mk<;>intro _)|(apply Cv.mk<;>intro zq<;>(try simp only [nc,cl] at zq)<;>(try simp only [bl,dl] at zq)<;>(revert zq;intro _))|((first|apply xE|apply uE);cbv;(try dsimp only [nc] at *)))))))
  ((all_goals (try (with_reducible ((first|refine rE ?_|refine nE ?_);(focus (cbv;(try dsimp only [nc] at *);(try simp only [wl,nc]);(repeat' (with_reducible apply And.intro));all_goals (try exact wZ)))))));(all_goals (try ((with_reducible rw [aC]);(try simp only [wl,nc]);(repeat' (with_reducible apply And.intro));(all_goals (try exact cZ))))))
  refine .loop (fun i:Nat=>⟨15,[(7,.int .i64 fun _=>i),(6,.int .i64 fun _=>n),(5,.aref 1000 0 fun _=>n)],[(1000,.arr false 27 1 0 (fun _=>n) fun i=>[.int .i64 fun _=>f (i ())])]⟩) (fun i=>i≤n∧fI f i=0) (fun i=>n - i) 0 (by simp [fI]) ?_ fun i E hi=>?_
  · (focus (cbv;(try dsimp only [nc] at *);(try simp only [wl,nc]);(repeat' (with_reducible apply And.intro));all_goals (try exact wZ)))
  refine AWp.wk tF mF [] kp204 ?_
  ((any_goals ((with_reducible refine wI ?_);cbv;(try dsimp only [nc] at *);(repeat' (with_reducible first|exact aO|exact oN|refine oC ?_ ?_|refine VC.mk rfl ?_ ?_ ?_|(apply Ca.mk<;>intro _)|(apply Cv.mk<;>intro zq<;>(try simp only [nc,cl] at zq)<;>(try simp only [bl,dl] at zq)<;>(revert zq;intro _))|((first|apply xE|apply uE);cbv;(try dsimp only [nc] at *))))));((all_goals (try (with_reducible ((first|refine rE ?_|refine nE ?_);(focus (cbv;(try dsimp only [nc] at *);(try simp only [wl,nc]);(repeat' (with_reducible apply And.intro));all_goals (try exact wZ)))))));(all_goals (try ((with_reducible rw [aC]);(try simp only [wl,nc]);(repeat' (with_reducible apply And.intro));(all_goals (try exact cZ)))))))
  · exact (firstI_at ‹_› hi.2 ‹_›).symm
  · refine dE (i+1) ⟨⟨by omega,by simp_all [fI]⟩,by omega⟩ ?_
    (focus (cbv;(try dsimp only [nc] at *);(try simp only [wl,nc]);(repeat' (with_reducible apply And.intro));all_goals (try exact wZ)))
    exact w64n (by omega)
  · have:i=n:=by have:=hi.1;omega
    rw [← this];exact hi.2.symm
theorem rule3_ok (d:Nat) (v:V):Af Tryz.prog 203 [encV d .any fun _=>v] [] (.int .i64 fun _=>if between v.int (-999999999999999) 999999999999999≠0 then between v.int (-999999999999999) 999999999999999 else between v.scale 0 12) []:=by
  (apply Af.of tF mF [.tmp 2] kp203 [(1,[(2,.int .i64 (fun _=>?r1),[]),(5,.int .i64 (fun _=>?r2),[]),(7,.int .i64 (fun _=>?r3),[(1000,.arr false 27 1 0 (fun _=>2) ?r4)])])] Tryz.func203 (fun _=>?_);(any_goals ((with_reducible refine wI ?_);cbv;(try dsimp only [nc] at *);(repeat' (with_reducible first|exact aO|exact oN|refine oC ?_ ?_|refine VC.mk rfl ?_ ?_ ?_|(apply Ca.mk<;>intro _)|(apply Cv.mk<;>intro zq<;>(try simp only [nc,cl] at zq)<;>(try simp only [bl,dl] at zq)<;>(revert zq;intro _))|((first|apply xE|apply uE);cbv;(try dsimp only [nc] at *)))))))
  (any_goals ((with_reducible refine bZ ?_)<;>exact (between_ok _ _ _)))
  rotate_left 2
  · refine nO ?_
    have q:=first_ok 2 (fun i=>if i=0 then between v.int (-999999999999999) 999999999999999 else between v.scale 0 12) (by decide)
    dsimp only
    refine Af.wN (objs2:=[(1000,.arr false 27 1 0 (fun _=>2) fun i=>[.int .i64 fun _=>if i ()=0 then between v.int (-999999999999999) 999999999999999 else between v.scale 0 12])]) (args2:=[.aref 1000 0 fun _=>2]) ?_ ?_
    · exact q
    (focus (cbv;(try dsimp only [nc] at *);(try simp only [wl,nc]);(repeat' (with_reducible apply And.intro));all_goals (try exact wZ)))
    intro i hi
    have:i=0∨i=1:=by omega
    rcases this with rfl|rfl<;>exact LeL.of_eq rfl
  ((all_goals (try (with_reducible ((first|refine rE ?_|refine nE ?_);(focus (cbv;(try dsimp only [nc] at *);(try simp only [wl,nc]);(repeat' (with_reducible apply And.intro));all_goals (try exact wZ)))))));(all_goals (try ((with_reducible rw [aC]);(try simp only [wl,nc]);(repeat' (with_reducible apply And.intro));(all_goals (try exact cZ))))))
  · simp [fI]
theorem rule1_ok (d:Nat) (v:V):Af Tryz.prog 200 [encV d .any fun _=>v] [] (.int .i64 fun _=>between v.int 0 1) []:=by
  (apply Af.of tF mF [.tmp 2] kp200 [(1,[(2,.int .i64 (fun _=>?r1),[])])] Tryz.func200 (fun _=>?_);(any_goals ((with_reducible refine wI ?_);cbv;(try dsimp only [nc] at *);(repeat' (with_reducible first|exact aO|exact oN|refine oC ?_ ?_|refine VC.mk rfl ?_ ?_ ?_|(apply Ca.mk<;>intro _)|(apply Cv.mk<;>intro zq<;>(try simp only [nc,cl] at zq)<;>(try simp only [bl,dl] at zq)<;>(revert zq;intro _))|((first|apply xE|apply uE);cbv;(try dsimp only [nc] at *)))))))
  (any_goals ((with_reducible refine bZ ?_)<;>exact (between_ok _ _ _)))
  ((all_goals (try (with_reducible ((first|refine rE ?_|refine nE ?_);(focus (cbv;(try dsimp only [nc] at *);(try simp only [wl,nc]);(repeat' (with_reducible apply And.intro));all_goals (try exact wZ)))))));(all_goals (try ((with_reducible rw [aC]);(try simp only [wl,nc]);(repeat' (with_reducible apply And.intro));(all_goals (try exact cZ))))))
theorem rule2_ok (d:Nat) (v:V):Af Tryz.prog 202 [encV d .any fun _=>v] [] (.int .i64 fun _=>between v.int (-999999999999999) 999999999999999) []:=by
  (apply Af.of tF mF [.tmp 2] kp202 [(1,[(2,.int .i64 (fun _=>?r1),[])])] Tryz.func202 (fun _=>?_);(any_goals ((with_reducible refine wI ?_);cbv;(try dsimp only [nc] at *);(repeat' (with_reducible first|exact aO|exact oN|refine oC ?_ ?_|refine VC.mk rfl ?_ ?_ ?_|(apply Ca.mk<;>intro _)|(apply Cv.mk<;>intro zq<;>(try simp only [nc,cl] at zq)<;>(try simp only [bl,dl] at zq)<;>(revert zq;intro _))|((first|apply xE|apply uE);cbv;(try dsimp only [nc] at *)))))))
  (any_goals ((with_reducible refine bZ ?_)<;>exact (between_ok _ _ _)))
  ((all_goals (try (with_reducible ((first|refine rE ?_|refine nE ?_);(focus (cbv;(try dsimp only [nc] at *);(try simp only [wl,nc]);(repeat' (with_reducible apply And.intro));all_goals (try exact wZ)))))));(all_goals (try ((with_reducible rw [aC]);(try simp only [wl,nc]);(repeat' (with_reducible apply And.intro));(all_goals (try exact cZ))))))
theorem rule6_ok (d:Nat) (v:V):Af Tryz.prog 208 [encV d .any fun _=>v] [] (.int .i64 fun _=>between v.int (-719162) 2932896) []:=by
  (apply Af.of tF mF [.tmp 2] kp208 [(1,[(2,.int .i64 (fun _=>?r1),[])])] Tryz.func208 (fun _=>?_);(any_goals ((with_reducible refine wI ?_);cbv;(try dsimp only [nc] at *);(repeat' (with_reducible first|exact aO|exact oN|refine oC ?_ ?_|refine VC.mk rfl ?_ ?_ ?_|(apply Ca.mk<;>intro _)|(apply Cv.mk<;>intro zq<;>(try simp only [nc,cl] at zq)<;>(try simp only [bl,dl] at zq)<;>(revert zq;intro _))|((first|apply xE|apply uE);cbv;(try dsimp only [nc] at *)))))))
  (any_goals ((with_reducible refine bZ ?_)<;>exact (between_ok _ _ _)))
  ((all_goals (try (with_reducible ((first|refine rE ?_|refine nE ?_);(focus (cbv;(try dsimp only [nc] at *);(try simp only [wl,nc]);(repeat' (with_reducible apply And.intro));all_goals (try exact wZ)))))));(all_goals (try ((with_reducible rw [aC]);(try simp only [wl,nc]);(repeat' (with_reducible apply And.intro));(all_goals (try exact cZ))))))
theorem rule7_ok (d:Nat) (v:V):Af Tryz.prog 209 [encV d .any fun _=>v] [] (.int .i64 fun _=>between v.int (-62135596800000) 253402300799999) []:=by
  (apply Af.of tF mF [.tmp 2] kp209 [(1,[(2,.int .i64 (fun _=>?r1),[])])] Tryz.func209 (fun _=>?_);(any_goals ((with_reducible refine wI ?_);cbv;(try dsimp only [nc] at *);(repeat' (with_reducible first|exact aO|exact oN|refine oC ?_ ?_|refine VC.mk rfl ?_ ?_ ?_|(apply Ca.mk<;>intro _)|(apply Cv.mk<;>intro zq<;>(try simp only [nc,cl] at zq)<;>(try simp only [bl,dl] at zq)<;>(revert zq;intro _))|((first|apply xE|apply uE);cbv;(try dsimp only [nc] at *)))))))
  (any_goals ((with_reducible refine bZ ?_)<;>exact (between_ok _ _ _)))
  ((all_goals (try (with_reducible ((first|refine rE ?_|refine nE ?_);(focus (cbv;(try dsimp only [nc] at *);(try simp only [wl,nc]);(repeat' (with_reducible apply And.intro));all_goals (try exact wZ)))))));(all_goals (try ((with_reducible rw [aC]);(try simp only [wl,nc]);(repeat' (with_reducible apply And.intro));(all_goals (try exact cZ))))))
theorem rule5_ok (d:Nat) (v:V):Af Tryz.prog 207 [encV d .any fun _=>v] [] (.int .i64 fun _=>sizeE v.text.size 1024 5) []:=by
  (apply Af.of tF mF [.tmp 2] kp207 [(1,[(3,.int .i64 (fun _=>?r1),[])])] Tryz.func207 (fun _=>?_);(any_goals ((with_reducible refine wI ?_);cbv;(try dsimp only [nc] at *);(repeat' (with_reducible first|exact aO|exact oN|refine oC ?_ ?_|refine VC.mk rfl ?_ ?_ ?_|(apply Ca.mk<;>intro _)|(apply Cv.mk<;>intro zq<;>(try simp only [nc,cl] at zq)<;>(try simp only [bl,dl] at zq)<;>(revert zq;intro _))|((first|apply xE|apply uE);cbv;(try dsimp only [nc] at *)))))))
  (any_goals ((with_reducible refine bZ ?_)<;>exact (sizeE_ok _ _ _)))
  ((all_goals (try (with_reducible ((first|refine rE ?_|refine nE ?_);(focus (cbv;(try dsimp only [nc] at *);(try simp only [wl,nc]);(repeat' (with_reducible apply And.intro));all_goals (try exact wZ)))))));(all_goals (try ((with_reducible rw [aC]);(try simp only [wl,nc]);(repeat' (with_reducible apply And.intro));(all_goals (try exact cZ))))))
theorem rule8_ok (d:Nat) (v:V):Af Tryz.prog 210 [encV d .any fun _=>v] [] (.int .i64 fun _=>sizeE v.list.length 256 9) []:=by
  (apply Af.of tF mF [.tmp 2] kp210 [(1,[(3,.int .i64 (fun _=>?r1),[])])] Tryz.func210 (fun _=>?_);(any_goals ((with_reducible refine wI ?_);cbv;(try dsimp only [nc] at *);(repeat' (with_reducible first|exact aO|exact oN|refine oC ?_ ?_|refine VC.mk rfl ?_ ?_ ?_|(apply Ca.mk<;>intro _)|(apply Cv.mk<;>intro zq<;>(try simp only [nc,cl] at zq)<;>(try simp only [bl,dl] at zq)<;>(revert zq;intro _))|((first|apply xE|apply uE);cbv;(try dsimp only [nc] at *)))))))
  (any_goals ((with_reducible refine bZ ?_)<;>exact (sizeE_ok _ _ _)))
  ((all_goals (try (with_reducible ((first|refine rE ?_|refine nE ?_);(focus (cbv;(try dsimp only [nc] at *);(try simp only [wl,nc]);(repeat' (with_reducible apply And.intro));all_goals (try exact wZ)))))));(all_goals (try ((with_reducible rw [aC]);(try simp only [wl,nc]);(repeat' (with_reducible apply And.intro));(all_goals (try exact cZ))))))
def rule10 (v:V):Int:=if isName v.text=false then 12 else if v.list.length=0 then 4 else sizeE v.list.length 1 3
theorem rule10_ok (d:Nat) (v:V) (hs:v.text.size≤35184372088832):Af Tryz.prog 212 [encV d .any fun _=>v] [] (.int .i64 fun _=>rule10 v) []:=by
  (apply Af.of tF mF [.tmp 2] kp212 [(1,[(2,.bool (fun _=>?r1),[])]),(5,[(3,.int .i64 (fun _=>?r2),[])])] Tryz.func212 (fun _=>?_);(any_goals ((with_reducible refine wI ?_);cbv;(try dsimp only [nc] at *);(repeat' (with_reducible first|exact aO|exact oN|refine oC ?_ ?_|refine VC.mk rfl ?_ ?_ ?_|(apply Ca.mk<;>intro _)|(apply Cv.mk<;>intro zq<;>(try simp only [nc,cl] at zq)<;>(try simp only [bl,dl] at zq)<;>(revert zq;intro _))|((first|apply xE|apply uE);cbv;(try dsimp only [nc] at *)))))))
  (any_goals ((with_reducible refine bZ ?_)<;>exact (IsName_ok _ hs)))
  (any_goals ((with_reducible refine bZ ?_)<;>exact (sizeE_ok _ _ _)))
  ((all_goals (try (with_reducible ((first|refine rE ?_|refine nE ?_);(focus (cbv;(try dsimp only [nc] at *);(try simp only [wl,nc]);(repeat' (with_reducible apply And.intro));all_goals (try exact wZ)))))));(all_goals (try ((with_reducible rw [aC]);(try simp only [wl,nc]);(repeat' (with_reducible apply And.intro));(all_goals (try exact cZ))))))
  all_goals ((try simp only [rule10]);((try simp only [nc,cl] at *)<;>grind))
theorem parts_ok (d:Nat) (v:V) (hv:V.le (d+1) v):Af Tryz.prog 182 [encV (d+1) .any fun _=>v] [] (slcV d .any fun _=>kz v) []:=by
  have hf:=hv.2.1
  (apply Af.of tF mF [.tmp 2] kp182 [] Tryz.func182 (fun _=>?_);(any_goals ((with_reducible refine wI ?_);cbv;(try dsimp only [nc] at *);(repeat' (with_reducible first|exact aO|exact oN|refine oC ?_ ?_|refine VC.mk rfl ?_ ?_ ?_|(apply Ca.mk<;>intro _)|(apply Cv.mk<;>intro zq<;>(try simp only [nc,cl] at zq)<;>(try simp only [bl,dl] at zq)<;>(revert zq;intro _))|((first|apply xE|apply uE);cbv;(try dsimp only [nc] at *)))))))
  all_goals (try (exfalso;omega))
  ((all_goals (try (with_reducible ((first|refine rE ?_|refine nE ?_);(focus (cbv;(try dsimp only [nc] at *);(try simp only [wl,nc]);(repeat' (with_reducible apply And.intro));all_goals (try exact wZ)))))));(all_goals (try ((with_reducible rw [aC]);(try simp only [wl,nc]);(repeat' (with_reducible apply And.intro));(all_goals (try exact cZ))))))
  all_goals first
    | (simp [kz, *];done)
    | exact fun i hi=>cells_eq (by simp [kz, *])
    | skip
  have hk:kz v=v.fields.map (·.2):=by simp [kz, *]
  refine .loop (fun i:Nat=>⟨29,[(18,.int .i64 fun _=>i),(17,.int .i64 fun _=>v.fields.length),(16,.slc .any 7 (fun _=>v.fields.length) fun i=>.str (fun _=>(v.fields.getD (i ()) default).1) :: cells d .any fun _=>(v.fields.getD (i ()) default).2),(3,.aref 26 0 fun _=>i)],
      [(26,.arr false 33 6 0 (fun _=>i) fun j=>cells d .any fun _=>(v.fields.getD (j ()) default).2)]⟩)
    (fun i=>i≤v.fields.length) (fun i=>v.fields.length - i) 0 (by simp) ?_ fun i E hi=>?_
  · (focus (cbv;(try dsimp only [nc] at *);(try simp only [wl,nc]);(repeat' (with_reducible apply And.intro));all_goals (try exact wZ)))
  apply AWp.wk tF mF [] kp182 ?_
  (any_goals ((with_reducible refine wI ?_);cbv;(try dsimp only [nc] at *);(repeat' (with_reducible first|exact aO|exact oN|refine oC ?_ ?_|refine VC.mk rfl ?_ ?_ ?_|(apply Ca.mk<;>intro _)|(apply Cv.mk<;>intro zq<;>(try simp only [nc,cl] at zq)<;>(try simp only [bl,dl] at zq)<;>(revert zq;intro _))|((first|apply xE|apply uE);cbv;(try dsimp only [nc] at *))))))
  ((all_goals (try (with_reducible ((first|refine rE ?_|refine nE ?_);(focus (cbv;(try dsimp only [nc] at *);(try simp only [wl,nc]);(repeat' (with_reducible apply And.intro));all_goals (try exact wZ)))))));(all_goals (try ((with_reducible rw [aC]);(try simp only [wl,nc]);(repeat' (with_reducible apply And.intro));(all_goals (try exact cZ))))))
  · refine dE (i+1) ⟨by omega,by omega⟩ ?_
    (focus (cbv;(try dsimp only [nc] at *);(try simp only [wl,nc]);(repeat' (with_reducible apply And.intro));all_goals (try exact wZ)))
    · exact w64n (by omega)
    · refine cat_le (n:=fun _=>i) (m:=1) (F:=fun j=>cells d .any fun _=>(v.fields.getD (j ()) default).2) (fun k hk=>LeL.of_eq rfl) (fun k hk=>?_)
      have:k=0:=by omega
      subst this
      exact LeL.of_eq rfl
  · rw [hk];simp;omega
  · intro j hj
    refine cells_eq ?_
    rw [hk]
    simp only [List.getD_eq_getElem?_getD,List.getElem?_map]
    cases v.fields[j]? <;> rfl
end Go.Ai

namespace Go.Ai
open Go Go.Proofs
def pre:Nat→Int→V→List (List AV)
  | 0,_,_=>[]
  | d+1,l,v=>[.int .i64 (fun _=>l),encV (d+1) .any fun _=>v] :: ((kz v).map (pre d (l+1))).flatten
theorem kids_le {d:Nat} {v:V} (h:V.le (d+1) v) {x:V} (hx:x ∈ kz v):V.le d x:=by
  unfold kz at hx
  split at hx
  · exact h.2.2.2.1 x hx
  · split at hx
    · obtain ⟨y,hy,rfl⟩:=List.mem_map.1 hx
      exact (h.2.2.2.2 y hy).2
    · simp at hx
theorem kids_len {d:Nat} {v:V} (h:V.le (d+1) v):(kz v).length≤1073741824:=by
  unfold kz
  split
  · exact h.1
  · split
    · simpa using h.2.1
    · simp
theorem flat_take {α β:Type} (f:α→List β) (l:List α) (i:Nat) (hi:i<l.length) (df:α):((l.take (i+1)).map f).flatten=((l.take i).map f).flatten++f (l.getD i df):=by
  have:l.getD i df=l[i]:=by simp [List.getD,hi]
  rw [this,List.take_succ_eq_append_getElem hi]
  simp only [List.map_append,List.flatten_append,List.map_cons,List.map_nil,List.flatten_cons,List.flatten_nil,List.append_nil]
theorem flat_prefix {α β:Type} (f:α→List β) (l:List α) (i:Nat):((l.take i).map f).flatten <+: (l.map f).flatten:=by
  conv=>rhs;rw [← List.take_append_drop i l]
  rw [List.map_append,List.flatten_append]
  exact List.prefix_append _ _
set_option maxRecDepth 100000 in
theorem visit_ok:∀ (d:Nat) (v:V) (l:Int),V.le d v→0≤l→l+d≤4611686018427387904→ISpec Tryz.prog 147 (fun y=>[encV d .any fun _=>v,.int .i64 fun _=>l,.val (.func (.yield y) #[] #[])]) isBool (pre d l v):=by
  intro d
  induction d with
  | zero=>exact fun v l hv _ _=>hv.elim
  | succ d ih =>
    intro v l hv h0 hl
    refine ispec_of (t:=6) Tryz.func147 (by rfl) rfl (by rfl) (fun p g E hp hJ hall=>?_)
    (repeat (first|(with_reducible first|refine AWp.block ?_|refine AWp.skip ?_|refine AWp.exit ?_|refine AWp.ret ?_|refine tN ?_|refine thenK_exit ?_|refine thenK_ret ?_|refine bH ?_|refine bM rfl ?_|refine bN ?_|refine blockK_ret ?_|refine retK_ret ?_|refine rN ?_)|(first|focus (refine AWp.seq_region tF mF 7 [] [] (fun ob K' hob hK=>?_);(cbv;refine vc_of hob hK ?_ ?_ ?_;(all_goals (first|with_reducible exact aN.2 trivial|with_reducible exact kN.2 trivial|((with_reducible rw [aC]);(focus ((try simp only [aC,aN,and_true,nc]);(repeat' (with_reducible apply And.intro));(all_goals (try first|exact pT|exact pF|exact fun _ h=>h|exact fun h=>h|trivial|omega|(simp;done)|(simp;omega)|grind)))))|(with_reducible rw [kC];(simp only [kC,kN,and_true,nc]))|(try dsimp only [nc]))));all_goals clear hob hK K' ob)|(with_reducible refine AWp.seq ?_)|focus (refine AWp.region tF mF [] (fun ob K' hob hK=>?_);(cbv;refine vcK_of hob hK ?_ ?_ ?_;(all_goals (first|with_reducible exact aN.2 trivial|with_reducible exact kN.2 trivial|((with_reducible rw [aC]);(focus ((try simp only [aC,aN,and_true,nc]);(repeat' (with_reducible apply And.intro));(all_goals (try first|exact pT|exact pF|exact fun _ h=>h|exact fun h=>h|trivial|omega|(simp;done)|(simp;omega)|grind)))))|(with_reducible rw [kC];(simp only [kC,kN,and_true,nc]))|(try dsimp only [nc]))));all_goals clear hob hK K' ob))))
    refine AWp.of_ops ?_
    (focus (refine OpsWp.op tF [] (fun ob K' hob hK=>?_);(cbv;refine vcO_of hob hK ?_ ?_ ?_;(all_goals (first|with_reducible exact aN.2 trivial|with_reducible exact kN.2 trivial|((with_reducible rw [aC]);(focus ((try simp only [aC,aN,and_true,nc]);(repeat' (with_reducible apply And.intro));(all_goals (try first|exact pT|exact pF|exact fun _ h=>h|exact fun h=>h|trivial|omega|(simp;done)|(simp;omega)|grind)))))|(with_reducible rw [kC];(simp only [kC,kN,and_true,nc]))|(try dsimp only [nc]))));all_goals clear hob hK K' ob))
    (focus (refine OpsWp.op tF [] (fun ob K' hob hK=>?_);(cbv;refine vcO_of hob hK ?_ ?_ ?_;(all_goals (first|with_reducible exact aN.2 trivial|with_reducible exact kN.2 trivial|((with_reducible rw [aC]);(focus ((try simp only [aC,aN,and_true,nc]);(repeat' (with_reducible apply And.intro));(all_goals (try first|exact pT|exact pF|exact fun _ h=>h|exact fun h=>h|trivial|omega|(simp;done)|(simp;omega)|grind)))))|(with_reducible rw [kC];(simp only [kC,kN,and_true,nc]))|(try dsimp only [nc]))));all_goals clear hob hK K' ob))
    (focus (refine OpsWp.op tF [] (fun ob K' hob hK=>?_);(cbv;refine vcO_of hob hK ?_ ?_ ?_;(all_goals (first|with_reducible exact aN.2 trivial|with_reducible exact kN.2 trivial|((with_reducible rw [aC]);(focus ((try simp only [aC,aN,and_true,nc]);(repeat' (with_reducible apply And.intro));(all_goals (try first|exact pT|exact pF|exact fun _ h=>h|exact fun h=>h|trivial|omega|(simp;done)|(simp;omega)|grind)))))|(with_reducible rw [kC];(simp only [kC,kN,and_true,nc]))|(try dsimp only [nc]))));all_goals clear hob hK K' ob))
    have hpre:pre (d+1) l v=[.int .i64 (fun _=>l),encV (d+1) .any fun _=>v] :: ((kz v).map (pre d (l+1))).flatten:=rfl
    have hall1:g++[[.int .i64 (fun _=>l),encV (d+1) .any fun _=>v]] <+: p.all:=by
      refine List.IsPrefix.trans ?_ hall
      rw [hpre]
      exact (List.prefix_append_right_inj g).2 ⟨_,rfl⟩
    refine OpsWp.yield (el':=[.int .i64 (fun _=>l),encV (d+1) .any fun _=>v]) hp hJ rfl rfl rfl (LeL.of_eq rfl) (by cbv) hall1 (fun E1 hE1 hJ1=>?_) (fun E1 hE1 hJ1=>?_)
    · (focus (refine OpsWp.op tF [] (fun ob K' hob hK=>?_);(cbv;refine vcO_of hob hK ?_ ?_ ?_;(all_goals (first|with_reducible exact aN.2 trivial|with_reducible exact kN.2 trivial|((with_reducible rw [aC]);(focus ((try simp only [aC,aN,and_true,nc]);(repeat' (with_reducible apply And.intro));(all_goals (try first|exact pT|exact pF|exact fun _ h=>h|exact fun h=>h|trivial|omega|(simp;done)|(simp;omega)|grind)))))|(with_reducible rw [kC];(simp only [kC,kN,and_true,nc]))|(try dsimp only [nc]))));all_goals clear hob hK K' ob))
      refine OpsWp.done ?_
      (repeat (first|(with_reducible first|refine AWp.block ?_|refine AWp.skip ?_|refine AWp.exit ?_|refine AWp.ret ?_|refine tN ?_|refine thenK_exit ?_|refine thenK_ret ?_|refine bH ?_|refine bM rfl ?_|refine bN ?_|refine blockK_ret ?_|refine retK_ret ?_|refine rN ?_)|(first|focus (refine AWp.seq_region tF mF 7 [] [] (fun ob K' hob hK=>?_);(cbv;refine vc_of hob hK ?_ ?_ ?_;(all_goals (first|with_reducible exact aN.2 trivial|with_reducible exact kN.2 trivial|((with_reducible rw [aC]);(focus ((try simp only [aC,aN,and_true,nc]);(repeat' (with_reducible apply And.intro));(all_goals (try first|exact pT|exact pF|exact fun _ h=>h|exact fun h=>h|trivial|omega|(simp;done)|(simp;omega)|grind)))))|(with_reducible rw [kC];(simp only [kC,kN,and_true,nc]))|(try dsimp only [nc]))));all_goals clear hob hK K' ob)|(with_reducible refine AWp.seq ?_)|focus (refine AWp.region tF mF [] (fun ob K' hob hK=>?_);(cbv;refine vcK_of hob hK ?_ ?_ ?_;(all_goals (first|with_reducible exact aN.2 trivial|with_reducible exact kN.2 trivial|((with_reducible rw [aC]);(focus ((try simp only [aC,aN,and_true,nc]);(repeat' (with_reducible apply And.intro));(all_goals (try first|exact pT|exact pF|exact fun _ h=>h|exact fun h=>h|trivial|omega|(simp;done)|(simp;omega)|grind)))))|(with_reducible rw [kC];(simp only [kC,kN,and_true,nc]))|(try dsimp only [nc]))));all_goals clear hob hK K' ob))))
      (focus (refine AWp.cond rfl (fun h=>?_) (fun h=>?_);all_goals (try simp only [nc,bytes_empty] at h)))
      · simp at h
      have hp1:=hp.ext hE1
      clear h
      (repeat (first|(with_reducible first|refine AWp.block ?_|refine AWp.skip ?_|refine AWp.exit ?_|refine AWp.ret ?_|refine tN ?_|refine thenK_exit ?_|refine thenK_ret ?_|refine bH ?_|refine bM rfl ?_|refine bN ?_|refine blockK_ret ?_|refine retK_ret ?_|refine rN ?_)|(first|focus (refine AWp.seq_region tF mF 7 [] [] (fun ob K' hob hK=>?_);(cbv;refine vc_of hob hK ?_ ?_ ?_;(all_goals (first|with_reducible exact aN.2 trivial|with_reducible exact kN.2 trivial|((with_reducible rw [aC]);(focus ((try simp only [aC,aN,and_true,nc]);(repeat' (with_reducible apply And.intro));(all_goals (try first|exact pT|exact pF|exact fun _ h=>h|exact fun h=>h|trivial|omega|(simp;done)|(simp;omega)|grind)))))|(with_reducible rw [kC];(simp only [kC,kN,and_true,nc]))|(try dsimp only [nc]))));all_goals clear hob hK K' ob)|(with_reducible refine AWp.seq ?_)|focus (refine AWp.region tF mF [] (fun ob K' hob hK=>?_);(cbv;refine vcK_of hob hK ?_ ?_ ?_;(all_goals (first|with_reducible exact aN.2 trivial|with_reducible exact kN.2 trivial|((with_reducible rw [aC]);(focus ((try simp only [aC,aN,and_true,nc]);(repeat' (with_reducible apply And.intro));(all_goals (try first|exact pT|exact pF|exact fun _ h=>h|exact fun h=>h|trivial|omega|(simp;done)|(simp;omega)|grind)))))|(with_reducible rw [kC];(simp only [kC,kN,and_true,nc]))|(try dsimp only [nc]))));all_goals clear hob hK K' ob))))
      (first|focus (refine AWp.seq_region tF mF 7 [15,16,17] [(1,slcV d .any (fun _=>kz v),[])] (fun ob K' hob hK=>?_);(cbv;refine vc_of hob hK ?_ ?_ ?_;(all_goals (first|with_reducible exact aN.2 trivial|with_reducible exact kN.2 trivial|((with_reducible rw [aC]);(focus ((try simp only [aC,aN,and_true,nc]);(repeat' (with_reducible apply And.intro));(all_goals (try first|exact pT|exact pF|exact fun _ h=>h|exact fun h=>h|trivial|omega|(simp;done)|(simp;omega)|grind)))))|(with_reducible rw [kC];(simp only [kC,kN,and_true,nc]))|(try dsimp only [nc]))));all_goals clear hob hK K' ob)|focus (refine AWp.region tF mF [(1,slcV d .any (fun _=>kz v),[])] (fun ob K' hob hK=>?_);(cbv;refine vcK_of hob hK ?_ ?_ ?_;(all_goals (first|with_reducible exact aN.2 trivial|with_reducible exact kN.2 trivial|((with_reducible rw [aC]);(focus ((try simp only [aC,aN,and_true,nc]);(repeat' (with_reducible apply And.intro));(all_goals (try first|exact pT|exact pF|exact fun _ h=>h|exact fun h=>h|trivial|omega|(simp;done)|(simp;omega)|grind)))))|(with_reducible rw [kC];(simp only [kC,kN,and_true,nc]))|(try dsimp only [nc]))));all_goals clear hob hK K' ob))
      · (repeat (first|(with_reducible first|refine AWp.block ?_|refine AWp.skip ?_|refine AWp.exit ?_|refine AWp.ret ?_|refine tN ?_|refine thenK_exit ?_|refine thenK_ret ?_|refine bH ?_|refine bM rfl ?_|refine bN ?_|refine blockK_ret ?_|refine retK_ret ?_|refine rN ?_)|(first|focus (refine AWp.seq_region tF mF 9 [15,16,17] [] (fun ob K' hob hK=>?_);(cbv;refine vc_of hob hK ?_ ?_ ?_;(all_goals (first|with_reducible exact aN.2 trivial|with_reducible exact kN.2 trivial|((with_reducible rw [aC]);(focus ((try simp only [aC,aN,and_true,nc]);(repeat' (with_reducible apply And.intro));(all_goals (try first|exact pT|exact pF|exact fun _ h=>h|exact fun h=>h|trivial|omega|(simp;done)|(simp;omega)|grind)))))|(with_reducible rw [kC];(simp only [kC,kN,and_true,nc]))|(try dsimp only [nc]))));all_goals clear hob hK K' ob)|(with_reducible refine AWp.seq ?_)|focus (refine AWp.region tF mF [] (fun ob K' hob hK=>?_);(cbv;refine vcK_of hob hK ?_ ?_ ?_;(all_goals (first|with_reducible exact aN.2 trivial|with_reducible exact kN.2 trivial|((with_reducible rw [aC]);(focus ((try simp only [aC,aN,and_true,nc]);(repeat' (with_reducible apply And.intro));(all_goals (try first|exact pT|exact pF|exact fun _ h=>h|exact fun h=>h|trivial|omega|(simp;done)|(simp;omega)|grind)))))|(with_reducible rw [kC];(simp only [kC,kN,and_true,nc]))|(try dsimp only [nc]))));all_goals clear hob hK K' ob))))
        refine AWp.loopE (fun i:Nat=>mkS 28 [(1,.int .i64 fun _=>l),(2,.val (.func (.yield p.l) #[] #[])),(6,.bool fun _=>false),(15,slcV d .any fun _=>kz v),(16,.int .i64 fun _=>(kz v).length),(17,.int .i64 fun _=>i)] [])
          (fun i E'=>i≤(kz v).length∧p.J (g++[[.int .i64 (fun _=>l),encV (d+1) .any fun _=>v]]++(((kz v).take i).map (pre d (l+1))).flatten) E'.w0) (fun i=>(kz v).length - i) ⟨0,⟨by simp,by simpa using hJ1⟩,weak_of ?_⟩ (fun i E2 hE2 hi=>?_)
        · (focus (cbv;(try simp only [aN,aC,and_true,nc]);(try (repeat' (with_reducible apply And.intro)));(all_goals (try first|rfl|exact fun _ _=>LeL.of_eq rfl|exact LeL.of_eq rfl|trivial|omega))))
        have hp2:=hp1.ext hE2
        (repeat (first|(with_reducible first|refine AWp.block ?_|refine AWp.skip ?_|refine AWp.exit ?_|refine AWp.ret ?_|refine tN ?_|refine thenK_exit ?_|refine thenK_ret ?_|refine bH ?_|refine bM rfl ?_|refine bN ?_|refine blockK_ret ?_|refine retK_ret ?_|refine rN ?_)|(first|focus (refine AWp.seq_region tF mF 9 [15,16,17] [] (fun ob K' hob hK=>?_);(cbv;refine vc_of hob hK ?_ ?_ ?_;(all_goals (first|with_reducible exact aN.2 trivial|with_reducible exact kN.2 trivial|((with_reducible rw [aC]);(focus ((try simp only [aC,aN,and_true,nc]);(repeat' (with_reducible apply And.intro));(all_goals (try first|exact pT|exact pF|exact fun _ h=>h|exact fun h=>h|trivial|omega|(simp;done)|(simp;omega)|grind)))))|(with_reducible rw [kC];(simp only [kC,kN,and_true,nc]))|(try dsimp only [nc]))));all_goals clear hob hK K' ob)|(with_reducible refine AWp.seq ?_)|focus (refine AWp.region tF mF [] (fun ob K' hob hK=>?_);(cbv;refine vcK_of hob hK ?_ ?_ ?_;(all_goals (first|with_reducible exact aN.2 trivial|with_reducible exact kN.2 trivial|((with_reducible rw [aC]);(focus ((try simp only [aC,aN,and_true,nc]);(repeat' (with_reducible apply And.intro));(all_goals (try first|exact pT|exact pF|exact fun _ h=>h|exact fun h=>h|trivial|omega|(simp;done)|(simp;omega)|grind)))))|(with_reducible rw [kC];(simp only [kC,kN,and_true,nc]))|(try dsimp only [nc]))));all_goals clear hob hK K' ob))))
        (focus (refine AWp.cond rfl (fun h3=>?_) (fun h3=>?_);all_goals (try simp only [nc,bytes_empty] at h3)))
        · simp at h3
          have hx:V.le d ((kz v).getD i default):=by
            have:(kz v).getD i default=(kz v)[i]:=by simp [List.getD,h3]
            rw [this];exact kids_le hv (List.getElem_mem h3)
          obtain ⟨d,rfl⟩:=V.lP hx
          (repeat (first|(with_reducible first|refine AWp.block ?_|refine AWp.skip ?_|refine AWp.exit ?_|refine AWp.ret ?_|refine tN ?_|refine thenK_exit ?_|refine thenK_ret ?_|refine bH ?_|refine bM rfl ?_|refine bN ?_|refine blockK_ret ?_|refine retK_ret ?_|refine rN ?_)|(first|focus (refine AWp.seq_region tF mF 9 [15,16,17] [] (fun ob K' hob hK=>?_);(cbv;refine vc_of hob hK ?_ ?_ ?_;(all_goals (first|with_reducible exact aN.2 trivial|with_reducible exact kN.2 trivial|((with_reducible rw [aC]);(focus ((try simp only [aC,aN,and_true,nc]);(repeat' (with_reducible apply And.intro));(all_goals (try first|exact pT|exact pF|exact fun _ h=>h|exact fun h=>h|trivial|omega|(simp;done)|(simp;omega)|grind)))))|(with_reducible rw [kC];(simp only [kC,kN,and_true,nc]))|(try dsimp only [nc]))));all_goals clear hob hK K' ob)|(with_reducible refine AWp.seq ?_)|focus (refine AWp.region tF mF [] (fun ob K' hob hK=>?_);(cbv;refine vcK_of hob hK ?_ ?_ ?_;(all_goals (first|with_reducible exact aN.2 trivial|with_reducible exact kN.2 trivial|((with_reducible rw [aC]);(focus ((try simp only [aC,aN,and_true,nc]);(repeat' (with_reducible apply And.intro));(all_goals (try first|exact pT|exact pF|exact fun _ h=>h|exact fun h=>h|trivial|omega|(simp;done)|(simp;omega)|grind)))))|(with_reducible rw [kC];(simp only [kC,kN,and_true,nc]))|(try dsimp only [nc]))));all_goals clear hob hK K' ob))))
          · refine AWp.of_ops ?_
            (focus (refine OpsWp.op tF [] (fun ob K' hob hK=>?_);(cbv;refine vcO_of hob hK ?_ ?_ ?_;(all_goals (first|with_reducible exact aN.2 trivial|with_reducible exact kN.2 trivial|((with_reducible rw [aC]);(focus ((try simp only [aC,aN,and_true,nc]);(repeat' (with_reducible apply And.intro));(all_goals (try first|exact pT|exact pF|exact fun _ h=>h|exact fun h=>h|trivial|omega|(simp;done)|(simp;omega)|grind)))))|(with_reducible rw [kC];(simp only [kC,kN,and_true,nc]))|(try dsimp only [nc]))));all_goals clear hob hK K' ob))
            (focus (refine OpsWp.op tF [] (fun ob K' hob hK=>?_);(cbv;refine vcO_of hob hK ?_ ?_ ?_;(all_goals (first|with_reducible exact aN.2 trivial|with_reducible exact kN.2 trivial|((with_reducible rw [aC]);(focus ((try simp only [aC,aN,and_true,nc]);(repeat' (with_reducible apply And.intro));(all_goals (try first|exact pT|exact pF|exact fun _ h=>h|exact fun h=>h|trivial|omega|(simp;done)|(simp;omega)|grind)))))|(with_reducible rw [kC];(simp only [kC,kN,and_true,nc]))|(try dsimp only [nc]))));all_goals clear hob hK K' ob))
            (focus (refine OpsWp.op tF [] (fun ob K' hob hK=>?_);(cbv;refine vcO_of hob hK ?_ ?_ ?_;(all_goals (first|with_reducible exact aN.2 trivial|with_reducible exact kN.2 trivial|((with_reducible rw [aC]);(focus ((try simp only [aC,aN,and_true,nc]);(repeat' (with_reducible apply And.intro));(all_goals (try first|exact pT|exact pF|exact fun _ h=>h|exact fun h=>h|trivial|omega|(simp;done)|(simp;omega)|grind)))))|(with_reducible rw [kC];(simp only [kC,kN,and_true,nc]))|(try dsimp only [nc]))));all_goals clear hob hK K' ob))
            (focus (refine OpsWp.op tF [] (fun ob K' hob hK=>?_);(cbv;refine vcO_of hob hK ?_ ?_ ?_;(all_goals (first|with_reducible exact aN.2 trivial|with_reducible exact kN.2 trivial|((with_reducible rw [aC]);(focus ((try simp only [aC,aN,and_true,nc]);(repeat' (with_reducible apply And.intro));(all_goals (try first|exact pT|exact pF|exact fun _ h=>h|exact fun h=>h|trivial|omega|(simp;done)|(simp;omega)|grind)))))|(with_reducible rw [kC];(simp only [kC,kN,and_true,nc]))|(try dsimp only [nc]))));all_goals clear hob hK K' ob))
            have hl2:l+(d:Int)+2≤4611686018427387904:=by simpa [Int.add_assoc] using hl
            have hl3:l+1+((d+1:Nat):Int)≤4611686018427387904:=by simp only [Int.natCast_add,Int.natCast_one];omega
            have hw:IntKind.i64.wrap (l+1)=l+1:=w64 (by omega) (by omega)
            have hft:=flat_take (pre (d+1) (l+1)) (kz v) i h3 default
            have hall2:(g++[[.int .i64 (fun _=>l),encV (d+1+1) .any fun _=>v]]++(((kz v).take i).map (pre (d+1) (l+1))).flatten)++pre (d+1) (l+1) ((kz v).getD i default) <+: p.all:=by
              refine List.IsPrefix.trans ?_ hall
              rw [hpre,List.append_assoc,List.append_assoc,← hft]
              exact (List.prefix_append_right_inj g).2 ((List.prefix_append_right_inj [_]).2 (flat_prefix _ _ _))
            refine OpsWp.into (args':=[encV (d+1) .any fun _=>(kz v).getD i default,.int .i64 (fun _=>IntKind.i64.wrap (l+1)),.val (.func (.yield p.l) #[] #[])]) hp2 hi.2 rfl rfl rfl (ih _ (l+1) hx (by omega) hl3) hall2 (LeL.of_eq (by rw [hw])) (by cbv) (fun E3 hE3 hJ3=>?_) (fun E3 hE3 hJ3=>?_)
            · (focus (refine OpsWp.op tF [] (fun ob K' hob hK=>?_);(cbv;refine vcO_of hob hK ?_ ?_ ?_;(all_goals (first|with_reducible exact aN.2 trivial|with_reducible exact kN.2 trivial|((with_reducible rw [aC]);(focus ((try simp only [aC,aN,and_true,nc]);(repeat' (with_reducible apply And.intro));(all_goals (try first|exact pT|exact pF|exact fun _ h=>h|exact fun h=>h|trivial|omega|(simp;done)|(simp;omega)|grind)))))|(with_reducible rw [kC];(simp only [kC,kN,and_true,nc]))|(try dsimp only [nc]))));all_goals clear hob hK K' ob))
              refine OpsWp.done ?_
              (repeat (first|(with_reducible first|refine AWp.block ?_|refine AWp.skip ?_|refine AWp.exit ?_|refine AWp.ret ?_|refine tN ?_|refine thenK_exit ?_|refine thenK_ret ?_|refine bH ?_|refine bM rfl ?_|refine bN ?_|refine blockK_ret ?_|refine retK_ret ?_|refine rN ?_)|(first|focus (refine AWp.seq_region tF mF 9 [15,16,17] [] (fun ob K' hob hK=>?_);(cbv;refine vc_of hob hK ?_ ?_ ?_;(all_goals (first|with_reducible exact aN.2 trivial|with_reducible exact kN.2 trivial|((with_reducible rw [aC]);(focus ((try simp only [aC,aN,and_true,nc]);(repeat' (with_reducible apply And.intro));(all_goals (try first|exact pT|exact pF|exact fun _ h=>h|exact fun h=>h|trivial|omega|(simp;done)|(simp;omega)|grind)))))|(with_reducible rw [kC];(simp only [kC,kN,and_true,nc]))|(try dsimp only [nc]))));all_goals clear hob hK K' ob)|(with_reducible refine AWp.seq ?_)|focus (refine AWp.region tF mF [] (fun ob K' hob hK=>?_);(cbv;refine vcK_of hob hK ?_ ?_ ?_;(all_goals (first|with_reducible exact aN.2 trivial|with_reducible exact kN.2 trivial|((with_reducible rw [aC]);(focus ((try simp only [aC,aN,and_true,nc]);(repeat' (with_reducible apply And.intro));(all_goals (try first|exact pT|exact pF|exact fun _ h=>h|exact fun h=>h|trivial|omega|(simp;done)|(simp;omega)|grind)))))|(with_reducible rw [kC];(simp only [kC,kN,and_true,nc]))|(try dsimp only [nc]))));all_goals clear hob hK K' ob))))
              (focus (refine AWp.cond rfl (fun h4=>?_) (fun h4=>?_);all_goals (try simp only [nc,bytes_empty] at h4)))
              · simp at h4
              (repeat (first|(with_reducible first|refine AWp.block ?_|refine AWp.skip ?_|refine AWp.exit ?_|refine AWp.ret ?_|refine tN ?_|refine thenK_exit ?_|refine thenK_ret ?_|refine bH ?_|refine bM rfl ?_|refine bN ?_|refine blockK_ret ?_|refine retK_ret ?_|refine rN ?_)|(first|focus (refine AWp.seq_region tF mF 9 [15,16,17] [] (fun ob K' hob hK=>?_);(cbv;refine vc_of hob hK ?_ ?_ ?_;(all_goals (first|with_reducible exact aN.2 trivial|with_reducible exact kN.2 trivial|((with_reducible rw [aC]);(focus ((try simp only [aC,aN,and_true,nc]);(repeat' (with_reducible apply And.intro));(all_goals (try first|exact pT|exact pF|exact fun _ h=>h|exact fun h=>h|trivial|omega|(simp;done)|(simp;omega)|grind)))))|(with_reducible rw [kC];(simp only [kC,kN,and_true,nc]))|(try dsimp only [nc]))));all_goals clear hob hK K' ob)|(with_reducible refine AWp.seq ?_)|focus (refine AWp.region tF mF [] (fun ob K' hob hK=>?_);(cbv;refine vcK_of hob hK ?_ ?_ ?_;(all_goals (first|with_reducible exact aN.2 trivial|with_reducible exact kN.2 trivial|((with_reducible rw [aC]);(focus ((try simp only [aC,aN,and_true,nc]);(repeat' (with_reducible apply And.intro));(all_goals (try first|exact pT|exact pF|exact fun _ h=>h|exact fun h=>h|trivial|omega|(simp;done)|(simp;omega)|grind)))))|(with_reducible rw [kC];(simp only [kC,kN,and_true,nc]))|(try dsimp only [nc]))));all_goals clear hob hK K' ob))))
              refine ⟨i+1,⟨⟨by omega,?_⟩,by omega⟩,weak_of ?_⟩
              · rw [hft,← List.append_assoc];exact hJ3
              (focus (cbv;(try simp only [aN,aC,and_true,nc]);(try (repeat' (with_reducible apply And.intro)));(all_goals (try first|rfl|exact fun _ _=>LeL.of_eq rfl|exact LeL.of_eq rfl|trivial|omega))))
              exact w64n (by have:=kids_len hv;omega)
            · (focus (refine OpsWp.op tF [] (fun ob K' hob hK=>?_);(cbv;refine vcO_of hob hK ?_ ?_ ?_;(all_goals (first|with_reducible exact aN.2 trivial|with_reducible exact kN.2 trivial|((with_reducible rw [aC]);(focus ((try simp only [aC,aN,and_true,nc]);(repeat' (with_reducible apply And.intro));(all_goals (try first|exact pT|exact pF|exact fun _ h=>h|exact fun h=>h|trivial|omega|(simp;done)|(simp;omega)|grind)))))|(with_reducible rw [kC];(simp only [kC,kN,and_true,nc]))|(try dsimp only [nc]))));all_goals clear hob hK K' ob))
              refine OpsWp.done ?_
              (repeat (first|(with_reducible first|refine AWp.block ?_|refine AWp.skip ?_|refine AWp.exit ?_|refine AWp.ret ?_|refine tN ?_|refine thenK_exit ?_|refine thenK_ret ?_|refine bH ?_|refine bM rfl ?_|refine bN ?_|refine blockK_ret ?_|refine retK_ret ?_|refine rN ?_)|(first|focus (refine AWp.seq_region tF mF 9 [15,16,17] [] (fun ob K' hob hK=>?_);(cbv;refine vc_of hob hK ?_ ?_ ?_;(all_goals (first|with_reducible exact aN.2 trivial|with_reducible exact kN.2 trivial|((with_reducible rw [aC]);(focus ((try simp only [aC,aN,and_true,nc]);(repeat' (with_reducible apply And.intro));(all_goals (try first|exact pT|exact pF|exact fun _ h=>h|exact fun h=>h|trivial|omega|(simp;done)|(simp;omega)|grind)))))|(with_reducible rw [kC];(simp only [kC,kN,and_true,nc]))|(try dsimp only [nc]))));all_goals clear hob hK K' ob)|(with_reducible refine AWp.seq ?_)|focus (refine AWp.region tF mF [] (fun ob K' hob hK=>?_);(cbv;refine vcK_of hob hK ?_ ?_ ?_;(all_goals (first|with_reducible exact aN.2 trivial|with_reducible exact kN.2 trivial|((with_reducible rw [aC]);(focus ((try simp only [aC,aN,and_true,nc]);(repeat' (with_reducible apply And.intro));(all_goals (try first|exact pT|exact pF|exact fun _ h=>h|exact fun h=>h|trivial|omega|(simp;done)|(simp;omega)|grind)))))|(with_reducible rw [kC];(simp only [kC,kN,and_true,nc]))|(try dsimp only [nc]))));all_goals clear hob hK K' ob))))
              (focus (refine AWp.cond rfl (fun h4=>?_) (fun h4=>?_);all_goals (try simp only [nc,bytes_empty] at h4)))
              · (repeat (first|(with_reducible first|refine AWp.block ?_|refine AWp.skip ?_|refine AWp.exit ?_|refine AWp.ret ?_|refine tN ?_|refine thenK_exit ?_|refine thenK_ret ?_|refine bH ?_|refine bM rfl ?_|refine bN ?_|refine blockK_ret ?_|refine retK_ret ?_|refine rN ?_)|(first|focus (refine AWp.seq_region tF mF 9 [15,16,17] [] (fun ob K' hob hK=>?_);(cbv;refine vc_of hob hK ?_ ?_ ?_;(all_goals (first|with_reducible exact aN.2 trivial|with_reducible exact kN.2 trivial|((with_reducible rw [aC]);(focus ((try simp only [aC,aN,and_true,nc]);(repeat' (with_reducible apply And.intro));(all_goals (try first|exact pT|exact pF|exact fun _ h=>h|exact fun h=>h|trivial|omega|(simp;done)|(simp;omega)|grind)))))|(with_reducible rw [kC];(simp only [kC,kN,and_true,nc]))|(try dsimp only [nc]))));all_goals clear hob hK K' ob)|(with_reducible refine AWp.seq ?_)|focus (refine AWp.region tF mF [] (fun ob K' hob hK=>?_);(cbv;refine vcK_of hob hK ?_ ?_ ?_;(all_goals (first|with_reducible exact aN.2 trivial|with_reducible exact kN.2 trivial|((with_reducible rw [aC]);(focus ((try simp only [aC,aN,and_true,nc]);(repeat' (with_reducible apply And.intro));(all_goals (try first|exact pT|exact pF|exact fun _ h=>h|exact fun h=>h|trivial|omega|(simp;done)|(simp;omega)|grind)))))|(with_reducible rw [kC];(simp only [kC,kN,and_true,nc]))|(try dsimp only [nc]))));all_goals clear hob hK K' ob))))
                refine iretK_ret rfl (.inr ⟨rfl,?_⟩)
                obtain ⟨q,hq,hqj⟩:=hJ3
                refine ⟨[[.int .i64 (fun _=>l),encV (d+1+1) .any fun _=>v]]++(((kz v).take i).map (pre (d+1) (l+1))).flatten++q,?_,by simpa [List.append_assoc] using hqj⟩
                rw [hpre,List.append_assoc]
                refine (List.prefix_append_right_inj [_]).2 (List.IsPrefix.trans ?_ (flat_prefix _ _ (i+1)))
                rw [hft]
                exact (List.prefix_append_right_inj _).2 hq
              · simp at h4
        · simp at h3
          (repeat (first|(with_reducible first|refine AWp.block ?_|refine AWp.skip ?_|refine AWp.exit ?_|refine AWp.ret ?_|refine tN ?_|refine thenK_exit ?_|refine thenK_ret ?_|refine bH ?_|refine bM rfl ?_|refine bN ?_|refine blockK_ret ?_|refine retK_ret ?_|refine rN ?_)|(first|focus (refine AWp.seq_region tF mF 9 [15,16,17] [] (fun ob K' hob hK=>?_);(cbv;refine vc_of hob hK ?_ ?_ ?_;(all_goals (first|with_reducible exact aN.2 trivial|with_reducible exact kN.2 trivial|((with_reducible rw [aC]);(focus ((try simp only [aC,aN,and_true,nc]);(repeat' (with_reducible apply And.intro));(all_goals (try first|exact pT|exact pF|exact fun _ h=>h|exact fun h=>h|trivial|omega|(simp;done)|(simp;omega)|grind)))))|(with_reducible rw [kC];(simp only [kC,kN,and_true,nc]))|(try dsimp only [nc]))));all_goals clear hob hK K' ob)|(with_reducible refine AWp.seq ?_)|focus (refine AWp.region tF mF [] (fun ob K' hob hK=>?_);(cbv;refine vcK_of hob hK ?_ ?_ ?_;(all_goals (first|with_reducible exact aN.2 trivial|with_reducible exact kN.2 trivial|((with_reducible rw [aC]);(focus ((try simp only [aC,aN,and_true,nc]);(repeat' (with_reducible apply And.intro));(all_goals (try first|exact pT|exact pF|exact fun _ h=>h|exact fun h=>h|trivial|omega|(simp;done)|(simp;omega)|grind)))))|(with_reducible rw [kC];(simp only [kC,kN,and_true,nc]))|(try dsimp only [nc]))));all_goals clear hob hK K' ob))))
          refine iretK_ret rfl (.inl ⟨rfl,?_⟩)
          have:i=(kz v).length:=by omega
          subst this
          have:=hi.2
          rw [List.take_length] at this
          rw [hpre]
          simpa [List.append_assoc] using this
      · exact call_none (parts_ok d v hv)
    · (focus (refine OpsWp.op tF [] (fun ob K' hob hK=>?_);(cbv;refine vcO_of hob hK ?_ ?_ ?_;(all_goals (first|with_reducible exact aN.2 trivial|with_reducible exact kN.2 trivial|((with_reducible rw [aC]);(focus ((try simp only [aC,aN,and_true,nc]);(repeat' (with_reducible apply And.intro));(all_goals (try first|exact pT|exact pF|exact fun _ h=>h|exact fun h=>h|trivial|omega|(simp;done)|(simp;omega)|grind)))))|(with_reducible rw [kC];(simp only [kC,kN,and_true,nc]))|(try dsimp only [nc]))));all_goals clear hob hK K' ob))
      refine OpsWp.done ?_
      (repeat (first|(with_reducible first|refine AWp.block ?_|refine AWp.skip ?_|refine AWp.exit ?_|refine AWp.ret ?_|refine tN ?_|refine thenK_exit ?_|refine thenK_ret ?_|refine bH ?_|refine bM rfl ?_|refine bN ?_|refine blockK_ret ?_|refine retK_ret ?_|refine rN ?_)|(first|focus (refine AWp.seq_region tF mF 7 [] [] (fun ob K' hob hK=>?_);(cbv;refine vc_of hob hK ?_ ?_ ?_;(all_goals (first|with_reducible exact aN.2 trivial|with_reducible exact kN.2 trivial|((with_reducible rw [aC]);(focus ((try simp only [aC,aN,and_true,nc]);(repeat' (with_reducible apply And.intro));(all_goals (try first|exact pT|exact pF|exact fun _ h=>h|exact fun h=>h|trivial|omega|(simp;done)|(simp;omega)|grind)))))|(with_reducible rw [kC];(simp only [kC,kN,and_true,nc]))|(try dsimp only [nc]))));all_goals clear hob hK K' ob)|(with_reducible refine AWp.seq ?_)|focus (refine AWp.region tF mF [] (fun ob K' hob hK=>?_);(cbv;refine vcK_of hob hK ?_ ?_ ?_;(all_goals (first|with_reducible exact aN.2 trivial|with_reducible exact kN.2 trivial|((with_reducible rw [aC]);(focus ((try simp only [aC,aN,and_true,nc]);(repeat' (with_reducible apply And.intro));(all_goals (try first|exact pT|exact pF|exact fun _ h=>h|exact fun h=>h|trivial|omega|(simp;done)|(simp;omega)|grind)))))|(with_reducible rw [kC];(simp only [kC,kN,and_true,nc]))|(try dsimp only [nc]))));all_goals clear hob hK K' ob))))
      (focus (refine AWp.cond rfl (fun h=>?_) (fun h=>?_);all_goals (try simp only [nc,bytes_empty] at h)))
      · (repeat (first|(with_reducible first|refine AWp.block ?_|refine AWp.skip ?_|refine AWp.exit ?_|refine AWp.ret ?_|refine tN ?_|refine thenK_exit ?_|refine thenK_ret ?_|refine bH ?_|refine bM rfl ?_|refine bN ?_|refine blockK_ret ?_|refine retK_ret ?_|refine rN ?_)|(first|focus (refine AWp.seq_region tF mF 7 [] [] (fun ob K' hob hK=>?_);(cbv;refine vc_of hob hK ?_ ?_ ?_;(all_goals (first|with_reducible exact aN.2 trivial|with_reducible exact kN.2 trivial|((with_reducible rw [aC]);(focus ((try simp only [aC,aN,and_true,nc]);(repeat' (with_reducible apply And.intro));(all_goals (try first|exact pT|exact pF|exact fun _ h=>h|exact fun h=>h|trivial|omega|(simp;done)|(simp;omega)|grind)))))|(with_reducible rw [kC];(simp only [kC,kN,and_true,nc]))|(try dsimp only [nc]))));all_goals clear hob hK K' ob)|(with_reducible refine AWp.seq ?_)|focus (refine AWp.region tF mF [] (fun ob K' hob hK=>?_);(cbv;refine vcK_of hob hK ?_ ?_ ?_;(all_goals (first|with_reducible exact aN.2 trivial|with_reducible exact kN.2 trivial|((with_reducible rw [aC]);(focus ((try simp only [aC,aN,and_true,nc]);(repeat' (with_reducible apply And.intro));(all_goals (try first|exact pT|exact pF|exact fun _ h=>h|exact fun h=>h|trivial|omega|(simp;done)|(simp;omega)|grind)))))|(with_reducible rw [kC];(simp only [kC,kN,and_true,nc]))|(try dsimp only [nc]))));all_goals clear hob hK K' ob))))
        exact iretK_ret rfl (.inr ⟨rfl,_,⟨_,by rw [hpre];rfl⟩,hJ1⟩)
      · simp at h
def boxV (d:Nat) (v:Unit→V):AV:=.eptr .any 6 (fun _=>1) (fun _=>cells d .any v) (fun _=>0) 0
set_option maxRecDepth 100000 in
theorem preorder1_ok (d:Nat) (v:V) (hv:V.le d v) (hd:d≤1073741824):ISpec Tryz.prog 146 (fun y=>[.val (.func (.yield y) #[] #[]),boxV d fun _=>v]) (fun _ _=>True) (pre d 1 v):=by
  obtain ⟨d,rfl⟩:=V.lP hv
  refine ispec_of0 Tryz.func146 (by rfl) rfl (by rfl) (fun p g E hp hJ hall=>?_)
  refine AWp.of_ops ?_
  (focus (refine OpsWp.op tF [] (fun ob K' hob hK=>?_);(cbv;refine vcO_of hob hK ?_ ?_ ?_;(all_goals (first|with_reducible exact aN.2 trivial|with_reducible exact kN.2 trivial|((with_reducible rw [aC]);(focus ((try simp only [aC,aN,and_true,nc]);(repeat' (with_reducible apply And.intro));(all_goals (try first|exact pT|exact pF|exact fun _ h=>h|exact fun h=>h|trivial|omega|(simp;done)|(simp;omega)|grind)))))|(with_reducible rw [kC];(simp only [kC,kN,and_true,nc]))|(try dsimp only [nc]))));all_goals clear hob hK K' ob))
  (focus (refine OpsWp.op tF [] (fun ob K' hob hK=>?_);(cbv;refine vcO_of hob hK ?_ ?_ ?_;(all_goals (first|with_reducible exact aN.2 trivial|with_reducible exact kN.2 trivial|((with_reducible rw [aC]);(focus ((try simp only [aC,aN,and_true,nc]);(repeat' (with_reducible apply And.intro));(all_goals (try first|exact pT|exact pF|exact fun _ h=>h|exact fun h=>h|trivial|omega|(simp;done)|(simp;omega)|grind)))))|(with_reducible rw [kC];(simp only [kC,kN,and_true,nc]))|(try dsimp only [nc]))));all_goals clear hob hK K' ob))
  have hone:(1:Int)+((d+1:Nat):Int)≤4611686018427387904:=by omega
  refine OpsWp.into (args':=[encV (d+1) .any fun _=>v,.int .i64 (fun _=>1),.val (.func (.yield p.l) #[] #[])]) hp hJ rfl rfl rfl (visit_ok (d+1) v 1 hv (by omega) hone) hall (LeL.of_eq rfl) (by cbv) (fun E3 hE3 hJ3=>?_) (fun E3 hE3 hJ3=>?_)
  · refine OpsWp.done ?_
    exact ⟨true,.inl ⟨rfl,hJ3⟩⟩
  · refine OpsWp.done ?_
    exact ⟨false,.inr ⟨rfl,hJ3⟩⟩
set_option maxRecDepth 100000 in
theorem preorder_ok (d:Nat) (v:V):Af Tryz.prog 121 [encV (d+1) .any fun _=>v] [] (.func 146 [.ptr 1 0]) [(1,.box (cells (d+1) .any fun _=>v))]:=by
  refine afun_of (rs:=[.tmp 2]) tF Tryz.func121 (by rfl) rfl (by rfl) (by rfl) (fun E=>?_)
  (repeat (first|(with_reducible first|refine AWp.block ?_|refine AWp.skip ?_|refine AWp.exit ?_|refine AWp.ret ?_|refine tN ?_|refine thenK_exit ?_|refine thenK_ret ?_|refine bH ?_|refine bM rfl ?_|refine bN ?_|refine blockK_ret ?_|refine retK_ret ?_|refine rN ?_)|(first|focus (refine AWp.seq_region tF mF 3 [] [] (fun ob K' hob hK=>?_);(cbv;refine vc_of hob hK ?_ ?_ ?_;(all_goals (first|with_reducible exact aN.2 trivial|with_reducible exact kN.2 trivial|((with_reducible rw [aC]);(focus ((try simp only [aC,aN,and_true,nc]);(repeat' (with_reducible apply And.intro));(all_goals (try first|exact pT|exact pF|exact fun _ h=>h|exact fun h=>h|trivial|omega|(simp;done)|(simp;omega)|grind)))))|(with_reducible rw [kC];(simp only [kC,kN,and_true,nc]))|(try dsimp only [nc]))));all_goals clear hob hK K' ob)|(with_reducible refine AWp.seq ?_)|focus (refine AWp.region tF mF [] (fun ob K' hob hK=>?_);(cbv;refine vcK_of hob hK ?_ ?_ ?_;(all_goals (first|with_reducible exact aN.2 trivial|with_reducible exact kN.2 trivial|((with_reducible rw [aC]);(focus ((try simp only [aC,aN,and_true,nc]);(repeat' (with_reducible apply And.intro));(all_goals (try first|exact pT|exact pF|exact fun _ h=>h|exact fun h=>h|trivial|omega|(simp;done)|(simp;omega)|grind)))))|(with_reducible rw [kC];(simp only [kC,kN,and_true,nc]))|(try dsimp only [nc]))));all_goals clear hob hK K' ob))))
  (focus (cbv;(try simp only [aN,aC,and_true,nc]);(try (repeat' (with_reducible apply And.intro)));(all_goals (try first|rfl|exact fun _ _=>LeL.of_eq rfl|exact LeL.of_eq rfl|trivial|omega))))
end Go.Ai

namespace Go.Ai
open Go Go.Proofs
set_option maxRecDepth 100000
set_option maxHeartbeats 2000000
def ltB (a b:ByteArray):Bool:=Op.bytesLess a.toList b.toList
def fieldsE (l:List (ByteArray×V)):Nat→Int
  | 0=>0
  | i+1=>if fieldsE l i≠0 then fieldsE l i else if isName (l.getD i default).1=false then 12 else if 0<i∧(l.getD i default).1=(l.getD (i - 1) default).1 then 7 else if 0<i∧ltB (l.getD i default).1 (l.getD (i - 1) default).1=true then 24 else 0
theorem fieldsE_stop {l:List (ByteArray×V)} {i:Nat} (h:fieldsE l i≠0):∀ {n:Nat},i≤n→fieldsE l n=fieldsE l i
  | 0,hn=>by rw [Nat.le_zero.1 hn]
  | n + 1,hn=>by
    rcases Nat.lt_or_eq_of_le hn with hn|rfl
    · have:=fieldsE_stop h (Nat.le_of_lt_succ hn)
      simp only [fieldsE,this]
      rw [if_pos h]
    · rfl
def rule9 (l:List (ByteArray×V)):Int:=if 64<l.length then 9 else fieldsE l l.length
def slcF (d:Nat) (fr:FB) (l:Unit→List (ByteArray×V)):AV:=.slc fr 7 (fun _=>(l ()).length) (fun i=>.str (fun _=>((l ()).getD (i ()) default).1) :: cells d fr fun _=>((l ()).getD (i ()) default).2)
theorem rule9_at {l:List (ByteArray×V)} {i:Nat} {e:Int} (h64:l.length≤64) (hi:i<l.length) (he:fieldsE l (i+1)=e) (h:e≠0):e=rule9 l:=by
  have:=fieldsE_stop (l:=l) (i:=i+1) (by rw [he];exact h) (n:=l.length) hi
  simp only [rule9,if_neg (Nat.not_lt.2 h64),this,he]
theorem fE_name {l:List (ByteArray×V)} {i:Nat} (h0:fieldsE l i=0) (hn:isName (l.getD i default).1=false):fieldsE l (i+1)=12:=by
  simp only [fieldsE,h0];rw [if_neg (by simp),if_pos hn]
theorem fE_dup {l:List (ByteArray×V)} {i:Nat} (h0:fieldsE l i=0) (hn:isName (l.getD i default).1=true) (h:0<i∧(l.getD i default).1=(l.getD (i - 1) default).1):fieldsE l (i+1)=7:=by
  simp only [fieldsE,h0];rw [if_neg (by simp),if_neg (by rw [hn];simp),if_pos h]
theorem fE_ord {l:List (ByteArray×V)} {i:Nat} (h0:fieldsE l i=0) (hn:isName (l.getD i default).1=true) (h:¬(0<i∧(l.getD i default).1=(l.getD (i - 1) default).1)) (h2:0<i∧ltB (l.getD i default).1 (l.getD (i - 1) default).1=true):fieldsE l (i+1)=24:=by
  simp only [fieldsE,h0];rw [if_neg (by simp),if_neg (by rw [hn];simp),if_neg h,if_pos h2]
theorem fE_ok {l:List (ByteArray×V)} {i:Nat} (h0:fieldsE l i=0) (hn:isName (l.getD i default).1=true) (h:¬(0<i∧(l.getD i default).1=(l.getD (i - 1) default).1)) (h2:¬(0<i∧ltB (l.getD i default).1 (l.getD (i - 1) default).1=true)):fieldsE l (i+1)=0:=by
  simp only [fieldsE,h0];rw [if_neg (by simp),if_neg (by rw [hn];simp),if_neg h,if_neg h2]
theorem getD_mem {α:Type} {l:List α} {i:Nat} {d:α} (h:i<l.length):l.getD i d ∈ l:=by
  have:l.getD i d=l[i]:=by simp [List.getD,h]
  rw [this];exact List.getElem_mem h
theorem wrap_pred {i:Nat} (h:0<i) (h2:i<9223372036854775807):(IntKind.i64.wrap ((i:Int) - 1)).toNat=i - 1:=by rw [w64]<;>omega
theorem rule9_ok (d:Nat) (v:V) (hl:∀ x ∈ v.fields,x.1.size≤35184372088832):Af Tryz.prog 211 [encV (d+1) .any fun _=>v] [] (.int .i64 fun _=>rule9 v.fields) []:=by
  (apply Af.of tF mF [.tmp 2] kp211 [(1,[(3,.int .i64 (fun _=>?r1),[])])] Tryz.func211 (fun _=>?_);(any_goals ((with_reducible refine wI ?_);cbv;(try dsimp only [nc] at *);(repeat' (with_reducible first|exact aO|exact oN|refine oC ?_ ?_|refine VC.mk rfl ?_ ?_ ?_|(apply Ca.mk<;>intro _)|(apply Cv.mk<;>intro zq<;>(try simp only [nc,cl] at zq)<;>(try simp only [bl,dl] at zq)<;>(revert zq;intro _))|((first|apply xE|apply uE);cbv;(try dsimp only [nc] at *)))))))
  (any_goals ((with_reducible refine bZ ?_)<;>exact (sizeE_ok _ _ _)))
  ((all_goals (try (with_reducible ((first|refine rE ?_|refine nE ?_);(focus (cbv;(try dsimp only [nc] at *);(try simp only [wl,nc]);(repeat' (with_reducible apply And.intro));all_goals (try exact wZ)))))));(all_goals (try ((with_reducible rw [aC]);(try simp only [wl,nc]);(repeat' (with_reducible apply And.intro));(all_goals (try exact cZ))))))
  · rename_i h
    have:64<v.fields.length:=Nat.lt_of_not_le fun q=>h (by simp only [sizeE];rw [if_neg (by omega)])
    simp only [rule9,sizeE]
    rw [if_pos (by omega),if_pos this]
  rename_i h
  have h64:v.fields.length≤64:=Nat.le_of_not_lt fun q=>by simp only [sizeE] at h;rw [if_pos (by omega)] at h;omega
  clear h
  refine .loop (fun i:Nat=>⟨57,[(16,.int .i64 fun _=>i),(15,.int .i64 fun _=>v.fields.length),(14,slcF d .any fun _=>v.fields),(1,.ptr 1 0)],[(1,.box (cells (d+1) .any fun _=>v))]⟩)
    (fun i=>i≤v.fields.length∧fieldsE v.fields i=0) (fun i=>v.fields.length - i) 0 (by simp [fieldsE]) ?_ fun i E hi=>?_
  · (focus (cbv;(try dsimp only [nc] at *);(try simp only [wl,nc]);(repeat' (with_reducible apply And.intro));all_goals (try exact wZ)))
  have hw:=wrap_pred (i:=i)
  have hs:i<v.fields.length→(v.fields.getD i default).1.size≤35184372088832:=fun h=>hl _ (getD_mem h)
  apply AWp.wk tF mF [(7,[(2,.bool (fun _=>?r2),[])])] kp211 ?_
  (any_goals ((with_reducible refine wI ?_);cbv;(try dsimp only [nc] at *);(repeat' (with_reducible first|exact aO|exact oN|refine oC ?_ ?_|refine VC.mk rfl ?_ ?_ ?_|(apply Ca.mk<;>intro _)|(apply Cv.mk<;>intro zq<;>(try simp only [nc,cl] at zq)<;>(try simp only [bl,dl] at zq)<;>(revert zq;intro _))|((first|apply xE|apply uE);cbv;(try dsimp only [nc] at *))))))
  (any_goals ((with_reducible refine bZ ?_)<;>exact (IsName_ok (v.fields.getD i default).1 (hs ‹_›))))
  ((all_goals (try (with_reducible ((first|refine rE ?_|refine nE ?_);(focus (cbv;(try dsimp only [nc] at *);(try simp only [wl,nc]);(repeat' (with_reducible apply And.intro));all_goals (try exact wZ)))))));(all_goals (try ((with_reducible rw [aC]);(try simp only [wl,nc]);(repeat' (with_reducible apply And.intro));(all_goals (try exact cZ))))))
  · exact rule9_at (by omega) ‹_› (fE_name hi.2 ‹_›) (by omega)
  · rename_i hn hc
    rw [hw (by omega) (by omega)] at hc
    exact rule9_at (by omega) ‹_› (fE_dup hi.2 hn ⟨by omega,hc.2⟩) (by omega)
  · rename_i hn hc hc2
    rw [hw (by omega) (by omega)] at hc hc2
    exact rule9_at (by omega) ‹_› (fE_ord hi.2 hn (fun q=>hc.elim (fun h=>by omega) fun h=>h q.2) ⟨by omega,hc2.2⟩) (by omega)
  · rename_i hn hc hc2
    refine dE (i+1) ⟨⟨by omega,fE_ok hi.2 hn (fun q=>?_) fun q=>?_⟩,by omega⟩ ?_
    · rw [hw q.1 (by omega)] at hc
      exact hc.elim (fun h=>by omega) fun h=>h q.2
    · rw [hw q.1 (by omega)] at hc2
      refine hc2.elim (fun h=>by omega) fun h=>?_
      have:=q.2;unfold ltB at this;rw [h] at this;cases this
    · (focus (cbv;(try dsimp only [nc] at *);(try simp only [wl,nc]);(repeat' (with_reducible apply And.intro));all_goals (try exact wZ)))
      exact w64n (by omega)
  · have:i=v.fields.length:=by omega
    subst this
    simp only [rule9]
    rw [if_neg (by omega),hi.2]
def ruleE (vs:ByteArray→Bool) (v:V):Int :=
  if v.kind=1 then between v.int 0 1 else
  if v.kind=2 then between v.int (-999999999999999) 999999999999999 else
  if v.kind=3 then (if between v.int (-999999999999999) 999999999999999≠0 then between v.int (-999999999999999) 999999999999999 else between v.scale 0 12) else
  if v.kind=4 then (if sizeE v.text.size 1024 5=0∧vs v.text=false then 16 else sizeE v.text.size 1024 5) else
  if v.kind=5 then sizeE v.text.size 1024 5 else
  if v.kind=6 then between v.int (-719162) 2932896 else
  if v.kind=7 then between v.int (-62135596800000) 253402300799999 else
  if v.kind=8 then sizeE v.list.length 256 9 else
  if v.kind=9 then rule9 v.fields else rule10 v
def ownE (vs:ByteArray→Bool) (v:V):Int :=
  if isNull v=true then 19 else if v.kind<1∨10<v.kind then 11 else if usesB v=false then 3 else ruleE vs v
theorem own_null {vs:ByteArray→Bool} {v:V} (h:isNull v=true):ownE vs v=19:=by simp only [ownE];rw [if_pos h]
theorem own_kind {vs:ByteArray→Bool} {v:V} (h:isNull v=false) (h2:v.kind<1∨10<v.kind):ownE vs v=11:=by simp only [ownE];rw [if_neg (by rw [h];simp),if_pos h2]
theorem own_uses {vs:ByteArray→Bool} {v:V} (h:isNull v=false) (h2:¬ (v.kind<1∨10<v.kind)) (h3:usesB v=false):ownE vs v=3:=by simp only [ownE];rw [if_neg (by rw [h];simp),if_neg h2,if_pos h3]
theorem own_rule {vs:ByteArray→Bool} {v:V} (h:isNull v=false) (h2:¬ (v.kind<1∨10<v.kind)) (h3:usesB v=true):ownE vs v=ruleE vs v:=by simp only [ownE];rw [if_neg (by rw [h];simp),if_neg h2,if_neg (by rw [h3];simp)]
theorem ruleE1 {vs:ByteArray→Bool} {v:V} (h:v.kind=1):ruleE vs v=between v.int 0 1:=by unfold ruleE;simp [h]
theorem ruleE2 {vs:ByteArray→Bool} {v:V} (h:v.kind=2):ruleE vs v=between v.int (-999999999999999) 999999999999999:=by unfold ruleE;simp [h]
theorem ruleE3 {vs:ByteArray→Bool} {v:V} (h:v.kind=3):ruleE vs v=(if between v.int (-999999999999999) 999999999999999≠0 then between v.int (-999999999999999) 999999999999999 else between v.scale 0 12):=by unfold ruleE;simp [h]
theorem ruleE4 {vs:ByteArray→Bool} {v:V} (h:v.kind=4):ruleE vs v=(if sizeE v.text.size 1024 5=0∧vs v.text=false then 16 else sizeE v.text.size 1024 5):=by unfold ruleE;simp [h]
theorem ruleE5 {vs:ByteArray→Bool} {v:V} (h:v.kind=5):ruleE vs v=sizeE v.text.size 1024 5:=by unfold ruleE;simp [h]
theorem ruleE6 {vs:ByteArray→Bool} {v:V} (h:v.kind=6):ruleE vs v=between v.int (-719162) 2932896:=by unfold ruleE;simp [h]
theorem ruleE7 {vs:ByteArray→Bool} {v:V} (h:v.kind=7):ruleE vs v=between v.int (-62135596800000) 253402300799999:=by unfold ruleE;simp [h]
theorem ruleE8 {vs:ByteArray→Bool} {v:V} (h:v.kind=8):ruleE vs v=sizeE v.list.length 256 9:=by unfold ruleE;simp [h]
theorem ruleE9 {vs:ByteArray→Bool} {v:V} (h:v.kind=9):ruleE vs v=rule9 v.fields:=by unfold ruleE;simp [h]
theorem ruleE10 {vs:ByteArray→Bool} {v:V} (h:v.kind=10):ruleE vs v=rule10 v:=by unfold ruleE;simp [h]
end Go.Ai
