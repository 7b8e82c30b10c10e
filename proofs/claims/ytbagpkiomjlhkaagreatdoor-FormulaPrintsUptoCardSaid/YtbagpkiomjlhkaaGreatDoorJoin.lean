/- From a contract to a statement: what is alike in all laws. -/
import Derived.Test.YtbagpkiomjlhkaaGreatDoorEngB
import Derived.ChangeMaps5
import Derived.Test.YtbagpkiomjlhkaaGreatDoorTabs
import Derived.Test.YtbagpkiomjlhkaaGreatDoorCards
import Derived.Test.YtbagpkiomjlhkaaGreatDoorTie
import Derived.WalkKit
import Derived.ProofKit
import Derived.OpenShut
import Derived.Carry
import Derived.Deep.DeepHandedRow
import Derived.Lib.LaidTab
set_option linter.all false
namespace Go.Ai
open Go Go.Proofs Go.Proofs.YtbagpkiomjlhkaaGreatDoor Go.RowKit Go.ChangeShapes Go.WideShapes Go.ChangeAt
set_option maxRecDepth 100000
theorem own4:ownKnob Tryz.prog.godebug=none:=by kernel_rfl
theorem laidOut4:laidOutB Tryz.prog=true:=by kernel_rfl
theorem anp {f:FuncId} {avs:List AV} {W:World} {args:Array Value} (h:Af Tryz.prog f avs [] (.bool fun _=>true) []) (hsz:args.size=avs.length) (hT:Tabs W)
 (ha:∀ (i:Nat) (av:AV),avs[i]? = some av→RD W (fun b=>b<W.heap.size) W.heap.size av (args.getD i undef)) :
 Calls Tryz.prog f args W fun e w'=>e=.returned (.bool true)∧Below W.heap.size W w':=by
 let E:Env:={ w0:=W,B:=W.heap.size,D0:=fun b=>b<W.heap.size,X:=fun _=>False,pin:=fun _=>none,hpin:=fun o p q=>by (cases q),Y:=fun _=>False,df:=[],hB:=Nat.le_refl _,hD:=fun b hb=>⟨hb,fun q=>q⟩,hX:=fun b q=>q.elim,hY:=fun b q=>q.elim,hdf:=fun d hd=>(by cases hd),ndf:=.nil,hT:=hT,hTD:=tab_lt hT }
 have hr:RelB E avs (oL []) ⟨args,[]⟩ E.w0 (fun _=>undef):=by
  refine ⟨rfl,hsz,fun t av ht=>?_,fun o=>trivial,fun o o' b _ hi=>hi.elim,⟨rfl,rfl,rfl,Nat.le_refl _,fun _ _ _=>rfl⟩,fun o v n0 q=>by cases q⟩
  exact .d ((ha t av ht).mono (fun _ _=>rfl) (fun b hb=>⟨.inl hb,hb,fun o hi=>hi.elim⟩) (Nat.le_refl _))
 refine (h.calls E _ args (fun o=>rfl) rfl (fun b q=>q) hr).mono fun e w' hx=>?_
 obtain ⟨v,β',he,hr2,_⟩:=hx
 have hv:=(hr2.tmps 0 _ rfl).aao
 have hv2:v=.bool true:=by simpa [Array.getD_eq_getD_getElem?] using hv
 exact ⟨by rw [he,hv2],⟨hr2.frame.os,hr2.frame.tape,hr2.frame.output,hr2.frame.size,fun k hk=>hr2.frame.block k hk fun q=>q⟩⟩
theorem adg {H:Type} {enc:TypeId×Value→H} {W W':World} (hb:Below W.heap.size W W'):∀ {ts:List TypeId} {vs:List Value} {ds:List (DataW H)} {ps:List MemPlace},
 (∀ t ∈ ts,Tryz.prog.readableRec t=true∧t<Tryz.prog.types.size)→DataW.TrodAll enc Tryz.prog W 0 (fun _=>true) true ts vs ds ps→(∀ x ∈ ps,x.block<W.heap.size)→DataW.TrodAll enc Tryz.prog W' 0 (fun b=>decide (b<W.heap.size)) true ts vs ds ps
 | [],vs,ds,ps,_,h,_=>by
  obtain ⟨rfl,rfl,rfl⟩:=trodAll_nil h
  exact h
 | t :: ts,vs,ds,ps,ht,h,hp=>by
  obtain ⟨v,vs1,d,ds1,a,b,rfl,rfl,rfl,h1,h2⟩:=trodAll_cons h
  obtain ⟨q1,q2⟩:=ht t (List.mem_cons_self ..)
  exact ⟨a,b,Below.trod laidOut4 q1 q2 h1 hb (fun x hx=>hp x (List.mem_append_left _ hx)),adg hb (fun u hu=>ht u (List.mem_cons_of_mem _ hu)) h2 (fun x hx=>hp x (List.mem_append_right _ hx)),rfl⟩
theorem post_law {H:Type} {enc:TypeId×Value→H} {f:Func} {s:ChangeSpec} {W W':World} {args:Array Value} {ds gs:List (DataW H)} {before:List MemPlace} (hvars:s.vars=[]) (hr:f.resultTypes=#[4])
 (hfn:s.fn H (ds++gs)={ results:=[.lit (.bool true)],args:=ds }) (hts:∀ t ∈ f.params.toList,Tryz.prog.readableRec t=true∧t<Tryz.prog.types.size)
 (hW:DataW.Whole enc Tryz.prog f.params.toList s.vars false W args.toList ds gs before) (hb:Below W.heap.size W W'):s.post enc Tryz.prog f false true false false W args (.bool true) W':=by
 have hlt:∀ x ∈ before,x.block<W.heap.size:=fun x hx=>hW.lt x hx
 have hW2:=hW
 obtain ⟨p,q,hA,hV,rfl,_,_⟩:=hW
 rw [hvars] at hV
 refine ⟨ds,gs,p++q,[],p,[],hW2,?_,?_,?_,hb.frame _,fun h=>by cases h⟩
 ·rw [hfn,hr]
  exact trodAll_mk1 (shut_bool Tryz.underlying4 true)
 ·rw [hfn]
  exact adg hb hts hA (fun x hx=>hlt x (List.mem_append_left _ hx))
 ·rw [hfn,hvars];rfl
theorem vars_nil {H:Type} {enc:TypeId×Value→H} {P:Program} {w:World} {sp:Nat→Bool} {gs:List (DataW H)} {q:List MemPlace} (h:DataW.TrodVars enc P w sp [] gs q):gs=[]:=by
 cases gs with
 | nil=>rfl
 | cons g r=>exact absurd h (by intro h;cases h)
def cellD:DataW Unit→Value
 | .lit (.int k n)=>.int k n
 | .lit (.string l)=>.string ⟨l.toArray⟩
 | _=>undef
def cellsD:DataW Unit→Array Value
 | .agg l=>(l.map cellD).toArray
 | _=>#[]
def anb:DataW Unit→Array Value
 | .iface _ (.ptr d)=>cellsD d
 | _=>#[]
noncomputable def lW (os:Os):World :=
 let n:=(World.holding Tryz.prog os ⟨#[],#[],[]⟩).heap.size
 let w0:=World.holding Tryz.prog os ⟨#[.cells (anb Rows.laid_strconv_ErrSyntax) 262,.cells (anb Rows.laid_strconv_ErrRange) 262],#[],[]⟩
 let put (g:Nat) (cs:Array Value) (h:Array Obj):Array Obj:=h.modify g fun
  | .cells _ t fr=>.cells cs t fr
  | o=>o
 { w0 with heap:=put 0 (cellsD Rows.laid_manifold_lexer_pairs) (put tabA (cellsD Rows.laid_unicode_utf8_first) (put tabB (([128,191,160,191,128,159,144,191,128,143,0,0,0,0,0,0,0,0,0,0,0,0,0,0,0,0,0,0,0,0,0,0]:List Nat).map fun (n:Nat)=>Value.int .u8 (n:Int)).toArray
  (put 4 (cellsD Rows.laid_internal_strconv_uint64pow10) (put 5 #[.iface 260 (.pointer (some ⟨n,0,none⟩))] (put 6 #[.iface 260 (.pointer (some ⟨n+1,0,none⟩))] (put 7 (cellsD Rows.laid_math_bits_deBruijn32tab) (put 8 (cellsD Rows.laid_math_bits_deBruijn64tab) w0.heap))))))) }
theorem akU (os:Os) (args:Array Value):laidMet Tryz.prog Rows.formulaReservedUptoRow.laid ((lW os).forCall (fun _ _=>0) ⟨#[],args,[]⟩).memory :=
 laidMet_of_run' 8 (by kernel_rfl) (by kernel_rfl)
end Go.Ai
