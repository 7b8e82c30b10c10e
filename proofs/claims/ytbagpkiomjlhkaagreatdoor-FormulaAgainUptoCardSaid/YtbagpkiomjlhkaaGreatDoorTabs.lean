/- The library's contracts at this dump, in plain words, as the kit's tool writes them. -/
import Derived.Shelf.Unicode.ValidAny
import Derived.Ground.NamesProg
import Derived.Test.YtbagpkiomjlhkaaGreatDoorProg
import Derived.Lib.LaidU8T
import Derived.LaidLaws
import Derived.Shelf.Vars
import Derived.Lib.LaidTab
import Derived.Lib.TrailingZeros
import Derived.Test.YtbagpkiomjlhkaaGreatDoorEngA
import Derived.Test.YtbagpkiomjlhkaaGreatDoorRows
import Derived.Test.YtbagpkiomjlhkaaGreatDoorEngB
import Derived.ChangeMaps5
import Derived.Test.YtbagpkiomjlhkaaGreatDoorCards
import Derived.Test.YtbagpkiomjlhkaaGreatDoorTie
import Derived.WalkKit
import Derived.ProofKit
import Derived.OpenShut
import Derived.Carry
import Derived.Deep.DeepHandedRow
set_option linter.all false
namespace Go.Proofs
open Go.Shelf
def Tryz.Fh:Go.Shelf.Ren:=⟨fun|196=>207|259=>246|n=>n,fun|9=>9|4=>4|3=>3|5=>5|12=>12|119=>233|0=>0|46=>181|139=>236|138=>235|53=>220|n=>n,fun|3=>2|4=>3|n=>n⟩
def Tryz.lays196:Go.Proofs.Lays.n196 Tryz.prog Tryz.Fh:={
 mixed:=by kernel_rfl
 f196:=Tryz.func207.trans (congrArg some (by kernel_rfl))
 f259:=Tryz.func246.trans (congrArg some (by kernel_rfl))
 t0:=Tryz.underlying0
 a0:=Tryz.isAgg0
 z0:=Tryz.sizeOf0
 v0:=Tryz.zeroValue0
 t3:=Tryz.underlying3
 a3:=Tryz.isAgg3
 z3:=Tryz.sizeOf3
 v3:=Tryz.zeroValue3
 t4:=Tryz.underlying4
 a4:=Tryz.isAgg4
 z4:=Tryz.sizeOf4
 v4:=Tryz.zeroValue4
 t5:=Tryz.underlying5
 a5:=Tryz.isAgg5
 z5:=Tryz.sizeOf5
 v5:=Tryz.zeroValue5
 t9:=Tryz.underlying9
 a9:=Tryz.isAgg9
 z9:=Tryz.sizeOf9
 v9:=Tryz.zeroValue9
 t12:=Tryz.underlying12
 a12:=Tryz.isAgg12
 z12:=Tryz.sizeOf12
 v12:=Tryz.zeroValue12
 t46:=Tryz.underlying181
 a46:=Tryz.isAgg181
 z46:=Tryz.sizeOf181
 v46:=Tryz.zeroValue181
 t53:=Tryz.underlying220
 a53:=Tryz.isAgg220
 z53:=Tryz.sizeOf220
 v53:=Tryz.zeroValue220
 t119:=Tryz.underlying233
 a119:=Tryz.isAgg233
 z119:=Tryz.sizeOf233
 t138:=Tryz.underlying235
 a138:=Tryz.isAgg235
 z138:=Tryz.sizeOf235
 v138:=Tryz.zeroValue235
 t139:=Tryz.underlying236
 a139:=Tryz.isAgg236
 z139:=Tryz.sizeOf236
 v139:=Tryz.zeroValue236
 g3:=by kernel_rfl
 g4:=by kernel_rfl }
end Go.Proofs
namespace Go.Proofs
open Go.RowKit
def Tryz.utf8_ValidString(s:ByteArray)(w:World)(hs:s.size<=9223372036854775807)(hT:Lib.Utf8Tabs (Tryz.Fh.g 3) (Tryz.Fh.g 4) w):
 Calls Tryz.prog 207 #[.string s] w fun e w'=>e=.returned (.bool (Lib.validD s.data.toList))∧Below w.heap.size w w':=
 Any.utf8_ValidString Tryz.lays196 s w hs hT
end Go.Proofs

namespace Go.Ai
open Go Go.Proofs Go.Shelf Go.Proofs.YtbagpkiomjlhkaaGreatDoor Tryz
set_option maxRecDepth 100000
def Mf{W:World}{n:String}{g:Nat}{cs:Array Value}(hg:prog.globalNamed n=some g)(hv:W.var? prog n=some cs):∃ty fr,W.heap[g]? = some (.cells cs ty fr):=by
 simp only[World.var?,hg,Option.bind_some]at hv;split at hv
 ·rename_i cs' ty fr h;obtain rfl:=jg hv;exact⟨_,_,h⟩
 ·cases hv
def Mg{W:World}{n:String}{g:Nat}{s:String}{d:DataW Unit}(hg:prog.globalNamed n=some g)(hty:(prog.globals[g]?).map (·.type)=some 160)(h:Lib.VarReads prog W n (.iface s d)):∃v,W.cell? ⟨g,0,none⟩=some v∧(v=.nilIface∨∃te pe,v=.iface te pe):=by
 obtain⟨g',t,cs,fuel,p,hg',hty',hvar,hd⟩:=h;obtain rfl:=jg (hg.symm.trans hg');obtain rfl:=jg (hty.symm.trans hty');obtain⟨_,u,v,hcs,_⟩:=iface_of_trod underlying160 hd;refine⟨.iface u v,?_,.inr ⟨u,v,rfl⟩⟩;rw[World.var?_cell hg hvar 0,<- qw,hcs];rfl
def So{W:World}(hL:laidMetH prog Rows.formulaReservedUptoRow.laid W)(hS:W.ShapedOpen prog):m9 W:=by
 have hL':laidMet prog Rows.formulaReservedUptoRow.laid W:=hL;have r:=fun n d=>Lib.laidMet.reads hL' (n:=n) (d:=d)
 refine⟨utf8Tabs_of_readsT (U8Types.of196 lays196) ⟨zk,zk,zk,zk,zk,zk,zk⟩ (r _ _ (.tail _ (.tail _ (.tail _ (.tail _ (.tail _ (.tail _ (.tail _ (.head _)))))))) ) (r _ _ (.tail _ (.tail _ (.tail _ (.head _))))),fun i s hi=>?_,
  cell_of_shapedOpen_int (zero:=#[.int .i64 0]) (t:=3) hS (il zk) zk rfl zk zk underlying3,
  Mg zk zk (r _ _ (.tail _ (.tail _ (.tail _ (.tail _ (.tail _ (.head _))))))),Mg zk zk (r _ _ (.tail _ (.tail _ (.tail _ (.tail _ (.head _)))))),?_,?_,?_⟩
 ·obtain⟨g,t,cs,fuel,p,hg,hty,hvar,hd⟩:=r _ _ (.tail _ (.tail _ (.tail _ (.tail _ (.tail _ (.tail _ (.head _)))))));obtain rfl:g=s7:=jg (hg.symm.trans zk);obtain rfl:t=187:=jg (hty.symm.trans zk);have hi5:i<5:=by
   have:=(bX.1 hi).1;exact this
  obtain⟨fuel',d,q,hdi,he⟩:=Lib.array_elem underlying187 hd i hi5;have hc:prog.cellsOf 9=1:=zk
  rw[hc]at he;obtain⟨s',hs',hx,_⟩:=FI underlying9 he;rw[World.var?_cell hg hvar i,<- qw];have e0:=ak (·[0]?) hs';simp only[xN,qG,uJ,fE]at e0;have e1:cs.toList[i]? = some (.string s'):=by simpa using e0
  rw[e1];have hd1:d=.lit (.string s'.data.toList):=(nJ _ _ _ _▸hx).1;rw[hd1]at hdi;have key:∀i,i<5->∀s,vo[i]? = some s->∀l:List UInt8,([.lit (.string [45,62]),.lit (.string [33,61]),.lit (.string [60,61]),.lit (.string [62,61]),.lit (.string [46,46])]:List (DataW Unit))[i]? = some (.lit (.string l))->l=s.data.toList:=by
   intro i hi s hs l hl
   match i,hi with
   | 0,_|1,_|2,_|3,_|4,_=>simp[vo]at hs hl;subst hs;subst hl;rfl
  have:=key i hi5 s hi _ hdi;have:s'=s:=by
   apply gp;exact Fu.1 this
  rw[this]
 ·obtain⟨g,t,cs,fuel,p,hg,hty,hvar,hd⟩:=r _ _ (.tail _ (.tail _ (.head _)));obtain rfl:g=vn:=jg (hg.symm.trans zk);obtain⟨ty,fr,hh⟩:=Mf hg hvar;obtain rfl:t=245:=jg (hty.symm.trans zk);have hcs:=Lib.cells_of_tab (zs:=(List.range 20).map fun i=>((10^i:Nat):Int)) (k:=.u64) (e:=220) (n:=20) (cs:=cs.toList) underlying245 underlying220 zk zk hd;refine⟨ty,fr,?_⟩;rw[hh];have:cs=((List.range 20).map fun i=>Value.int .u64 ((10^i:Nat):Int)).toArray:=by
   apply Fu.1;rw[hcs,xR];rfl
  rw[this]
 ·obtain⟨g,t,cs,fuel,p,hg,hty,hvar,hd⟩:=r _ _ (.tail _ (.head _));obtain rfl:g=8:=jg (hg.symm.trans zk);obtain rfl:t=267:=jg (hty.symm.trans zk);have hcs:=Lib.cells_of_tab (zs:=Lib.deBruijn64tab.map fun(n:Nat)=>(n:Int)) (k:=.u8) (e:=5) (n:=64) (cs:=cs.toList) underlying267 underlying5 zk zk hd;rw[World.var?_cell hg hvar 15,<- qw,hcs];rfl
 ·obtain⟨g,t,cs,fuel,p,hg,hty,hvar,hd⟩:=r _ _ (.tail _ (.head _));obtain rfl:g=8:=jg (hg.symm.trans zk);obtain⟨ty,fr,hh⟩:=Mf hg hvar;have:=(d8.1 hh).1;omega
end Go.Ai

namespace Go.Ai
open Go Go.Proofs Go.Proofs.YtbagpkiomjlhkaaGreatDoor Go.RowKit Go.ChangeShapes Go.WideShapes Go.ChangeAt Tryz
set_option maxRecDepth 100000
def Sv:ownKnob prog.godebug=none:=zk
def X9:laidOutB prog=true:=zk
def Sn{f:FuncId}{dA:List AV}{W:World}{args:Array Value}(h:Af prog f dA [] (.bool fun _=>true) [])(hsz:args.size=dA.length)(hT:m9 W)
 (ha:∀(i:Nat) (av:AV),dA[i]? = some av->RD W (fun b=>b<W.heap.size) W.heap.size av (args.getD i undef)):
 Calls prog f args W fun e w'=>e=.returned (.bool true)∧Below W.heap.size W w':=by
 let E:Env:={ w0:=W,B:=W.heap.size,D0:=fun b=>b<W.heap.size,X:=fun _=>False,pin:=fun _=>none,cC:=fun o p q=>by(cases q),Y:=fun _=>False,df:=[],hB:=ao _,hD:=fun b hb=>⟨hb,fun q=>q⟩,hX:=fun b q=>q.elim,hY:=fun b q=>q.elim,hdf:=fun d hd=>(by cases hd),jN:=.nil,hT:=hT,dW:=GA hT }
 have hr:RelB E dA (oL []) ⟨args,[]⟩ E.w0 (fun _=>undef):=by
  refine⟨rfl,hsz,fun t av ht=>?_,fun o=>trivial,fun o o' b _ hi=>hi.elim,⟨rfl,rfl,rfl,ao _,fun _ _ _=>rfl⟩,fun o v n0 q=>by cases q⟩;exact .d ((ha t av ht).mono (fun _ _=>rfl) (fun b hb=>⟨.inl hb,hb,fun o hi=>hi.elim⟩) (ao _))
 refine(h.calls E _ args (fun o=>rfl) rfl (fun b q=>q) hr).mono fun e w' hx=>?_;obtain⟨v,β',he,hr2,_⟩:=hx;have hv:=(hr2.tmps 0 _ rfl).gW;have hv2:v=.bool true:=by simpa[jf]using hv
 exact⟨by rw[he,hv2],⟨hr2.frame.os,hr2.frame.tape,hr2.frame.output,hr2.frame.size,fun k hk=>hr2.frame.block k hk fun q=>q⟩⟩
theorem Mh{H:Type}{enc:TypeId×Value->H}{W W':World}(hb:Below W.heap.size W W'):∀{ts:List TypeId} {vs:List Value} {ds:List (DataW H)} {ps:List MemPlace},
 (∀t∈ts,prog.readableRec t=true∧t<prog.types.size)->DataW.TrodAll enc prog W 0 (fun _=>true) true ts vs ds ps->(∀x∈ps,x.block<W.heap.size)->DataW.TrodAll enc prog W' 0 (fun b=>decide (b<W.heap.size)) true ts vs ds ps
 | [],vs,ds,ps,_,h,_=>by
  obtain⟨rfl,rfl,rfl⟩:=trodAll_nil h;exact h
 | t::ts,vs,ds,ps,ht,h,hp=>by
  obtain⟨v,vs1,d,ds1,a,b,rfl,rfl,rfl,h1,h2⟩:=trodAll_cons h;obtain⟨q1,q2⟩:=ht t (dJ ..);exact⟨a,b,Below.trod X9 q1 q2 h1 hb (fun x hx=>hp x (xS _ hx)),Mh hb (fun u hu=>ht u (cH _ hu)) h2 (fun x hx=>hp x (Ba _ hx)),rfl⟩
def Sp{H:Type}{enc:TypeId×Value->H}{f:Func}{s:ChangeSpec}{W W':World}{args:Array Value}{ds gs:List (DataW H)}{before:List MemPlace}(hvars:s.vars=[])(hr:f.resultTypes=#[4])
 (hfn:s.fn H (ds++gs)={ results:=[.lit (.bool true)],args:=ds }) (hts:∀t∈f.params.toList,prog.readableRec t=true∧t<prog.types.size)
 (hW:DataW.Whole enc prog f.params.toList s.vars false W args.toList ds gs before) (hb:Below W.heap.size W W'):s.post enc prog f false true false false W args (.bool true) W':=by
 have hlt:∀x∈before,x.block<W.heap.size:=fun x hx=>hW.lt x hx;have hW2:=hW;obtain⟨p,q,hA,hV,rfl,_,_⟩:=hW;rw[hvars]at hV;refine⟨ds,gs,p++q,[],p,[],hW2,?_,?_,?_,hb.frame _,fun h=>by cases h⟩
 ·rw[hfn,hr];exact trodAll_mk1 (shut_bool underlying4 true)
 ·rw[hfn];exact Mh hb hts hA (fun x hx=>hlt x (xS _ hx))
 ·rw[hfn,hvars];rfl
def Sl{H:Type}{enc:TypeId×Value->H}{P:Program}{w:World}{sp:Nat->Bool}{gs:List (DataW H)}{q:List MemPlace}(h:DataW.TrodVars enc P w sp [] gs q):gs=[]:=by
 cases gs with
 | nil=>rfl
 | cons g r=>exact absurd h (by intro h;cases h)
def Ya:DataW Unit->Value
 | .lit (.int k n)=>.int k n
 | .lit (.string l)=>.string ⟨l.toArray⟩
 | _=>undef
def cellsD:DataW Unit->Array Value
 | .agg l=>(l.map Ya).toArray
 | _=>#[]
def Mi:DataW Unit->Array Value
 | .iface _ (.ptr d)=>cellsD d
 | _=>#[]
noncomputable def lW (os:Os):World:=
 let n:=(World.holding prog os ⟨#[],#[],[]⟩).heap.size
 let w0:=World.holding prog os ⟨#[.cells (Mi Rows.laid_strconv_ErrSyntax) 262,.cells (Mi Rows.laid_strconv_ErrRange) 262],#[],[]⟩
 let put (g:Nat) (cs:Array Value) (h:Array Obj):Array Obj:=h.modify g fun
  | .cells _ t fr=>.cells cs t fr
  | o=>o
 { w0 with heap:=put 0 (cellsD Rows.laid_manifold_lexer_pairs) (put BL (cellsD Rows.laid_unicode_utf8_first) (put BM (([128,191,160,191,128,159,144,191,128,143,0,0,0,0,0,0,0,0,0,0,0,0,0,0,0,0,0,0,0,0,0,0]:List Nat).map fun(n:Nat)=>Value.int .u8 (n:Int)).toArray
  (put 4 (cellsD Rows.laid_internal_strconv_uint64pow10) (put 5 #[.iface 260 (.pointer (some ⟨n,0,none⟩))] (put 6 #[.iface 260 (.pointer (some ⟨n+1,0,none⟩))] (put 7 (cellsD Rows.laid_math_bits_deBruijn32tab) (put 8 (cellsD Rows.laid_math_bits_deBruijn64tab) w0.heap))))))) }
def Ss(os:Os)(args:Array Value):laidMet prog Rows.formulaReservedUptoRow.laid ((lW os).forCall (fun _ _=>0) ⟨#[],args,[]⟩).memory:=
 laidMet_of_run' 8 zk zk
end Go.Ai
