/- Contracts of the library's functions on plain values, where variables of the whole program are read. -/
import Derived.Test.YtbagpkiomjlhkaaGreatDoorFnD
import Derived.Test.YtbagpkiomjlhkaaGreatDoorShB
import Derived.Lib.SmallJoins
import Derived.Lib.AppendIntMem
import Derived.Lib.LaidTab
import Derived.Laws.Runes
import Derived.Laws.RangeAny
import Derived.Lib.DecodeN
import Derived.Shelf.Strings.IndexAnyAll
import Derived.Shelf.Small.Utf8
import Derived.WalkKit
import Derived.WalkMore
import Derived.LoopN
import Derived.Handy
import Derived.Below
set_option linter.all false
namespace Go.Ai
open Go Go.Proofs Go.RowKit Tryz
set_option maxRecDepth 100000
def Af.pp{P:Program}{f:FuncId}{args:List AV}{vals:Array Value}{res:AV}{fn:Func}{c:Code}(hf:P.funcs[f]? = some fn)(ha:args.map mq=vals.toList.map some)
 (h : ∀ w, m9 w → Calls P f vals w fun e w' => ∃ v, e = .returned v ∧ (∀ (w2 : World) (D : Nat → Prop) (B : Nat), RD w2 D B res v) ∧ Below w.heap.size w w') (hname : (fn.name == "runtime.NumGoroutine") = false := by rfl) (hb : fn.body = some c := by rfl) : Af P f args [] res [] := by
 refine⟨lm hf hname hb,fun E β vs cC hdf hY h0=>?_⟩;have hlen:args.length=vals.size:=by simpa using ak List.length ha
 have hvs:vs=vals:=by
  refine sB ?_ fun i h1 h2=>?_
  ·have:=h0.size;simp only at this;omega
  ·have hi:i<args.length:=by omega
   have h3:=h0.tmps i args[i] (bf hi);have h4:=ak (fun l=>l[i]?) ha;simp only[gC,bf hi,eM]at h4;have h5:vals.toList[i]? = some vals[i]:=by simp[h2]
   rw[h5]at h4;simp only[eM,cB]at h4;have:=Dw h4 h3;simpa[Array.getD,h1]using this
 subst hvs;refine(h E.w0 E.hT).mono fun e w' ⟨v,he,hr,hw⟩=>⟨v,β,he,?_,fun o hi=>hi.elim⟩
 obtain⟨b1,b2,b3,b4,b5⟩:=hw;refine⟨hdf.symm,rfl,fun t av ht=>?_,fun o=>trivial,fun o o' b _ hi=>hi.elim,⟨b1,b2,b3,b4,fun b hb _=>b5 b hb⟩,fun o u n0 hp=>by rw[cC o]at hp;cases hp⟩;cases t with
 | zero=>simp at ht;subst ht;exact .d (hr _ _ _)
 | succ t=>simp at ht
def cY(s sep:ByteArray):ByteArray×ByteArray×Bool:=(⟨(Lib.cut s.data.toList sep.data.toList).1.toArray⟩,⟨(Lib.cut s.data.toList sep.data.toList).2.1.toArray⟩,(Lib.cut s.data.toList sep.data.toList).2.2)
def Gq(s sep:ByteArray)(hs:s.size<=1073741824):Af prog 144 [.str fun _=>s,.str fun _=>sep] [] (.ag [.str fun _=>(cY s sep).1,.str fun _=>(cY s sep).2.1,.bool fun _=>(cY s sep).2.2]) []:=by
 refine Af.pp (vals:=#[.string s,.string sep]) func144 rfl fun w hT=>?_;obtain⟨m,hm⟩:=hT.m;refine(Any.strings_Cut lays145 s sep m w zo hm).mono fun e w' ⟨he,n,hw⟩=>⟨_,he,fun w2 D B=>?_,?_⟩
 ·refine .ag _ _ rfl fun i av v h1 h2=>?_;rcases i with _|_|_|i
  ·simp at h1 h2;subst h1;subst h2;exact .str fun _=>(cY s sep).1
  ·simp at h1 h2;subst h1;subst h2;exact .str fun _=>(cY s sep).2.1
  ·simp at h1 h2;subst h1;subst h2;exact .bool fun _=>(cY s sep).2.2
  ·simp at h1
 ·rw[hw];exact Joins.below_draws _ _ _
def cE(n:Int):ByteArray:=⟨(Lib.itoa n).toArray⟩
def ve(n:Int)(h0 : -9223372036854775808<=n)(h1:n<=9223372036854775807):Af prog 89 [.int .i64 fun _=>n] [] (.str fun _=>cE n) []:=by
 refine Af.pp (vals:=#[.int .i64 n]) func89 rfl fun w hT=>?_;have htab : Lib.TabIs prog w "internal/strconv.uint64pow10" .u64 Lib.pow10Tab := by
  obtain⟨ty,fr,hf⟩:=hT.pw;have hg : prog.globalNamed "internal/strconv.uint64pow10" = some vn := by kernel_rfl
  unfold Lib.TabIs World.var?;rw[hg];show(match w.heap[vn]? with|some (.cells cs _ _)=>some cs|_=>none)=_;rw[hf];unfold Lib.pow10Tab;rw[xR];rfl
 refine(Any.strconv_Itoa X3 n h0 h1 w htab).mono fun e w' ⟨he,k,os,hw⟩=>⟨_,he,fun w2 D B=>.str fun _=>cE n,?_⟩
 rw[hw];exact Lib.below_grow _ _ (ao _) _ _
def dy(s:ByteArray):Int×Bool:=match Lib.atoiAll s.data.toList with
 | .ok v=>(v,true)
 | .range=>(Lib.atoiSat s.data.toList,false)
 | _=>(0,false)
def Gr(s:ByteArray)(hs:s.size<=1073741824):Af prog 145 [.str fun _=>s] [] (.ag [.int .i64 fun _=>(dy s).1,.bz fun _=>(dy s).2]) []:=by
 refine Af.pp (vals:=#[.string s]) func145 rfl fun w hT=>?_;have key:∀(n:Int) (v:Value) (b:Bool),(dy s).1=n->(dy s).2=b->((b=true∧v=.nilIface)∨(b=false∧∃t p,v=.iface t p))->∀(w2:World) (D:Nat->Prop) (B:Nat),RD w2 D B (.ag [.int .i64 fun _=>(dy s).1,.bz fun _=>(dy s).2]) (.tuple #[.int .i64 n,v]):=by
  intro n v b hn hb hv w2 D B;refine .ag _ _ rfl fun i av u h1 h2=>?_;rcases i with _|_|i
  ·simp at h1 h2;subst h1;subst h2;rw[<- hn];exact .int .i64 fun _=>(dy s).1
  ·simp at h1 h2;subst h1;subst h2;exact .bz _ _ (by rw[hb];exact hv)
  ·simp at h1
 cases q:Lib.atoiAll s.data.toList with
 | ok n=>
  refine(Any.strconv_Atoi_ok Fg s zo n q w).mono fun e w' ⟨he,hw⟩=>⟨_,he,key n _ true (by unfold dy;rw[q]) (by unfold dy;rw[q]) (.inl ⟨rfl,rfl⟩),?_⟩
  rcases hw with rfl|⟨t,rfl⟩
  ·exact Below.refl _ _
  ·exact Joins.below_bytesWorld _ _ _ _ (ao _)
 | range=>
  obtain⟨v,h6,g6⟩:=hT.e6;refine(Any.strconv_Atoi_range Fg s zo q v w h6 g6).mono fun e w' ⟨N,he,_,_,hw⟩=>⟨_,he,key _ _ false (by unfold dy;rw[q]) (by unfold dy;rw[q]) (.inr ⟨rfl,_,_,rfl⟩),hw⟩
 | _=>
  obtain⟨v,h5,g5⟩:=hT.e5;refine(Any.strconv_Atoi_syntax Fg s zo q v w h5 g5).mono fun e w' ⟨N,he,_,_,hw⟩=>⟨_,he,key 0 _ false (by unfold dy;rw[q]) (by unfold dy;rw[q]) (.inr ⟨rfl,_,_,rfl⟩),hw⟩
end Go.Ai

namespace Go.Ai
open Go Go.Lib
set_option maxRecDepth 100000
def YT{s:ByteArray}{j:Nat}{b:UInt8}(h:s.data.toList[j]? = some b):s.get! j=b∧j<s.size:=by
 obtain⟨h1,h2⟩:=bX.1 h;have hj:j<s.size:=by rw[fY]at h1;exact h1
 refine⟨?_,hj⟩;have:=get_at s j hj;rw[fE]at this;rw[this,<- h2,Array.getElem_toList];rfl
def YU(n b0 b1 b2 b3:Nat)(h:0<n):1<=(decodeN n b0 b1 b2 b3).2∧(decodeN n b0 b1 b2 b3).2<=4∧(2<=(decodeN n b0 b1 b2 b3).2->b1/64=2∧1<n)∧(3<=(decodeN n b0 b1 b2 b3).2->b2/64=2∧2<n)∧(4<=(decodeN n b0 b1 b2 b3).2->b3/64=2∧3<n):=by
 unfold decodeN
 repeat' split
 all_goals(simp only;omega)
def YV(n b0 b1 b2 b3:Nat)(h0:b0<256):(decodeN n b0 b1 b2 b3).1<55296∨(57343<(decodeN n b0 b1 b2 b3).1∧(decodeN n b0 b1 b2 b3).1<=1114111):=by
 unfold decodeN
 repeat' split
 all_goals(simp only;omega)
def ut(s:ByteArray)(i:Nat)(h:i<s.size):1<=(Utf8.decode s i).2∧(Utf8.decode s i).2<=4∧(2<=(Utf8.decode s i).2->(s.get! (i+1)).toNat/64=2∧i+1<s.size)∧(3<=(Utf8.decode s i).2->(s.get! (i+2)).toNat/64=2∧i+2<s.size)∧(4<=(Utf8.decode s i).2->(s.get! (i+3)).toNat/64=2∧i+3<s.size):=by
 have:=YU (s.size-i) (s.get! i).toNat (s.get! (i+1)).toNat (s.get! (i+2)).toNat (s.get! (i+3)).toNat zo
 rw[<- decode_at]at this;obtain⟨h1,h2,h3,h4,h5⟩:=this;exact⟨h1,h2,fun q=>⟨(h3 q).1,by have:=(h3 q).2;omega⟩,fun q=>⟨(h4 q).1,by have:=(h4 q).2;omega⟩,fun q=>⟨(h5 q).1,by have:=(h5 q).2;omega⟩⟩
def KP(s:ByteArray)(i:Nat)(h:i<s.size)(hb:128<=(s[i]'h).toNat):i+(Utf8.decode s i).2<=s.size∧∀(j:Nat) (b:UInt8),i<=j->j<i+(Utf8.decode s i).2->s.data.toList[j]? = some b->128<=b.toNat:=by
 obtain⟨h1,h2,h3,h4,h5⟩:=ut s i h;have h0:=get_at s i h;rw[fE]at h0;refine⟨zo,fun j b hj hlt hx=>?_⟩;obtain⟨g1,g2⟩:=YT hx;rcases(zo:j=i∨j=i+1∨j=i+2∨j=i+3)with rfl|rfl|rfl|rfl
 ·rw[<- g1,h0];exact hb
 ·have:=(h3 zo).1;rw[g1]at this;omega
 ·have:=(h4 zo).1;rw[g1]at this;omega
 ·have:=(h5 zo).1;rw[g1]at this;omega
def YW(s:ByteArray)(i:Nat):validRune ((Utf8.decode s i).1:Int)=true:=by
 have:=YV (s.size-i) (s.get! i).toNat (s.get! (i+1)).toNat (s.get! (i+2)).toNat (s.get! (i+3)).toNat (Bi _)
 rw[<- decode_at]at this;simp only[validRune,cX];omega
end Go.Ai

namespace Go.Ai
open Go Go.Proofs Go.RowKit Go.Shelf Go.Sort Go.Lib Tryz
set_option maxRecDepth 100000
set_option maxHeartbeats 4000000
def ME(u:ByteArray)(c:UInt8)(hu:∀b∈u.data.toList,b≠c)(w:World):Calls prog 171 #[.string u,.int .u8 c.toNat] w fun e w'=>e=.returned (.int .i64 (-1))∧w'=w:=by
 refine(Any.strings_IndexByte (ρ:=xy) { lays153 with } u (c.toNat:Int) w).mono fun e w' ⟨h1,h2⟩=>⟨?_,h2⟩
 have e:((c.toNat:Int)).toNat.toUInt8=c:=zsi
 rw[h1,e];have h3:=Lib.contains_iff_indexByte u.data.toList c;have h4:u.data.toList.contains c=false:=by
  rw[Bool.eq_false_iff];intro q;exact hu c (List.contains_iff_mem.1 q) rfl
 rw[h4]at h3;have h5:=of_decide_eq_false h3.symm;have h6 : -1<=Lib.indexByte u.data.toList c:=Lib.indexByte_ge _ _;rw[show Lib.indexByte u.data.toList c = -1 by omega]
def YX(t:ByteArray)(hs:t.size=1+1)(hb:128<=(t[1]' zo).toNat)(r:Int)(h0:128<=r)(he:r≠65533)(w:World)
 (hV:∀w,Calls prog 191 #[.int .i32 r] w fun e w'=>e=.returned (.bool true)∧w'=w)
 (rP:∀W,(convert 21 9 (.int .i32 r)).run prog W=.ok (.string t) W):
 Calls prog 132 #[.string ⟨#[46,91,63]⟩,.int .i32 r] w fun e w'=>e=.returned (.int .i64 (-1))∧∃n,w'=w.drewN n:=by
 have MF:∀args w,(callFunc 191 args).run prog w=.ok (.enter 191 args) w:=enters_of func191 zk rfl;have MG:∀args w,(callFunc 171 args).run prog w=.ok (.enter 171 args) w:=enters_of func171 zk rfl;have mixed:prog.follows .mixedOrders=true:=zk
 have nn:∀(j:Nat) (hj:j<3),((((ByteArray.mk #[46,91,63])[j]'hj).toNat:Int) != ((t[1]' zo).toNat:Int))=true:=by
  intro j hj;have h3:((ByteArray.mk #[46,91,63])[j]'hj).toNat<128:=by
   rcases(zo:j=0∨j=1∨j=2)with rfl|rfl|rfl
   ·show(46:UInt8).toNat<128;decide
   ·show(91:UInt8).toNat<128;decide
   ·show(63:UInt8).toNat<128;decide
  simp only[bne_iff_ne,mT];omega
 have hm:∀a e,∀b∈(ByteArray.extract ⟨#[46,91,63]⟩ a e).data.toList,b≠t[1]' zo:=by
  intro a e b hb' q;have:=mem_extract hb';have h3:b=46∨b=91∨b=63:=by simpa using this
  rw[<- q]at hb;rcases h3 with rfl|rfl|rfl<;>exact absurd hb zd
 go_enter func132,ntmps132
 go_wp2_with (go_at_fn 191;refine(hV _).mono ?_;rintro e w' ⟨rfl,rfl⟩)
 apply Bk
 go_wp2
 go_rounds 1
 apply Bk
 go_wp2
 go_region_o
 all_goals go_wp2
 all_goals try exact Bool.noConfusion ((nn _ zd).symm.trans ‹(_ != _)=false›)
 all_goals(focus(go_region_with_o (go_at_fn 171;refine(ME _ _ (hm _ _) _).mono ?_;rintro e w' ⟨rfl,rfl⟩)))
 all_goals go_wp2
 all_goals(simp only[Bl])
 all_goals go_wp2
 all_goals(simp only[Bl])
 all_goals go_wp2
 all_goals go_ret
 all_goals exact⟨rfl,2,rfl⟩
def YY(t:ByteArray)(hs:t.size=2+1)(hb:128<=(t[2]' zo).toNat)(r:Int)(h0:128<=r)(he:r≠65533)(w:World)
 (hV:∀w,Calls prog 191 #[.int .i32 r] w fun e w'=>e=.returned (.bool true)∧w'=w)
 (rP:∀W,(convert 21 9 (.int .i32 r)).run prog W=.ok (.string t) W):
 Calls prog 132 #[.string ⟨#[46,91,63]⟩,.int .i32 r] w fun e w'=>e=.returned (.int .i64 (-1))∧∃n,w'=w.drewN n:=by
 have MF:∀args w,(callFunc 191 args).run prog w=.ok (.enter 191 args) w:=enters_of func191 zk rfl;have MG:∀args w,(callFunc 171 args).run prog w=.ok (.enter 171 args) w:=enters_of func171 zk rfl;have mixed:prog.follows .mixedOrders=true:=zk
 have nn:∀(j:Nat) (hj:j<3),((((ByteArray.mk #[46,91,63])[j]'hj).toNat:Int) != ((t[2]' zo).toNat:Int))=true:=by
  intro j hj;have h3:((ByteArray.mk #[46,91,63])[j]'hj).toNat<128:=by
   rcases(zo:j=0∨j=1∨j=2)with rfl|rfl|rfl
   ·show(46:UInt8).toNat<128;decide
   ·show(91:UInt8).toNat<128;decide
   ·show(63:UInt8).toNat<128;decide
  simp only[bne_iff_ne,mT];omega
 have hm:∀a e,∀b∈(ByteArray.extract ⟨#[46,91,63]⟩ a e).data.toList,b≠t[2]' zo:=by
  intro a e b hb' q;have:=mem_extract hb';have h3:b=46∨b=91∨b=63:=by simpa using this
  rw[<- q]at hb;rcases h3 with rfl|rfl|rfl<;>exact absurd hb zd
 go_enter func132,ntmps132
 go_wp2_with (go_at_fn 191;refine(hV _).mono ?_;rintro e w' ⟨rfl,rfl⟩)
 apply Bk
 go_wp2
 go_rounds 1
 apply Bk
 go_wp2
 go_region_o
 all_goals go_wp2
 all_goals try exact Bool.noConfusion ((nn _ zd).symm.trans ‹(_ != _)=false›)
 all_goals(focus(go_region_with_o (go_at_fn 171;refine(ME ⟨#[]⟩ _ (fun b hb=>absurd hb zsi) _).mono ?_;rintro e w' ⟨rfl,rfl⟩)))
 all_goals go_wp2
 all_goals(simp only[Bl])
 all_goals go_wp2
 all_goals(simp only[Bl])
 all_goals go_wp2
 all_goals go_ret
 all_goals exact⟨rfl,2,rfl⟩
def YZ(t:ByteArray)(hs:t.size=3+1)(hb:128<=(t[3]' zo).toNat)(r:Int)(h0:128<=r)(he:r≠65533)(w:World)
 (hV:∀w,Calls prog 191 #[.int .i32 r] w fun e w'=>e=.returned (.bool true)∧w'=w)
 (rP:∀W,(convert 21 9 (.int .i32 r)).run prog W=.ok (.string t) W):
 Calls prog 132 #[.string ⟨#[46,91,63]⟩,.int .i32 r] w fun e w'=>e=.returned (.int .i64 (-1))∧∃n,w'=w.drewN n:=by
 have MF:∀args w,(callFunc 191 args).run prog w=.ok (.enter 191 args) w:=enters_of func191 zk rfl;have MG:∀args w,(callFunc 171 args).run prog w=.ok (.enter 171 args) w:=enters_of func171 zk rfl;have mixed:prog.follows .mixedOrders=true:=zk
 go_enter func132,ntmps132
 go_wp2_with (go_at_fn 191;refine(hV _).mono ?_;rintro e w' ⟨rfl,rfl⟩)
 apply Bk
 go_wp2
 go_rounds 1
 simp only[Bl]
 go_wp2
 go_ret
 exact⟨rfl,0,rfl⟩
def Y0(r:Int)(h0:128<=r)(hv:Go.validRune r=true)(w:World):Calls prog 191 #[.int .i32 r] w fun e w'=>e=.returned (.bool true)∧w'=w:=by
 have mixed:prog.follows .mixedOrders=true:=zk
 simp only[Go.validRune,cX]at hv
 go_enter func191,ntmps191
 go_wp2
 all_goals(go_ret;refine⟨?_,rfl⟩;first|rfl|(exfalso;omega))
def Y1(w:World):Calls prog 132 #[.string ⟨#[46,91,63]⟩,.int .i32 65533] w fun e w'=>e=.returned (.int .i64 (-1))∧Below w.heap.size w w':=by
 have mixed:prog.follows .mixedOrders=true:=zk
 have h0:=fun ty=>run_next_ascii (P:=prog) w ⟨#[46,91,63]⟩ 0 ty zd zd;have h1:=fun ty=>run_next_ascii (P:=prog) w ⟨#[46,91,63]⟩ 1 ty zd zd;have h2:=fun ty=>run_next_ascii (P:=prog) w ⟨#[46,91,63]⟩ 2 ty zd zd;have h3:=fun ty=>run_next_end (P:=prog) w ⟨#[46,91,63]⟩ 3 ty zd;have e0:((ByteArray.mk #[46,91,63])[0]' zd).toNat=46:=by rfl
 have e1:((ByteArray.mk #[46,91,63])[1]' zd).toNat=91:=by rfl
 have e2:((ByteArray.mk #[46,91,63])[2]' zd).toNat=63:=by rfl
 rw[e0]at h0;rw[e1]at h1;rw[e2]at h2;clear e0 e1 e2
 go_enter func132,ntmps132
 go_wp2
 go_rounds 4
 go_ret
 exact⟨rfl,(Below.refl _ _).alloc (ao _) _⟩
def Y2(r:Int)(h0:128<=r)(hv:Go.validRune r=true)(w:World):Calls prog 132 #[.string ⟨#[46,91,63]⟩,.int .i32 r] w fun e w'=>e=.returned (.int .i64 (-1))∧Below w.heap.size w w':=by
 by_cases he:r=65533
 ·subst he;exact Y1 w
 have hV:=Y0 r h0 hv;have hv2:Utf8.valid r=true:=by rw[validRune_eq];exact hv
 obtain⟨s1,s2,s3⟩:=encode_facts r hv2 h0;have rP:∀W,(convert 21 9 (.int .i32 r)).run prog W=.ok (.string (Utf8.encode r)) W:=fun W=>run_convert_int_string W 21 9 .i32 r zk zk;generalize Utf8.encode r=t at*;have fin:∀{e:Ending} {w':World},(e=.returned (.int .i64 (-1))∧∃n,w'=w.drewN n)->e=.returned (.int .i64 (-1))∧Below w.heap.size w w':=by
  rintro e w' ⟨q1,n,rfl⟩;exact⟨q1,⟨rfl,rfl,rfl,ao _,fun _ _=>rfl⟩⟩
 rcases(zo:t.size=1+1∨t.size=2+1∨t.size=3+1)with q|q|q
 ·exact(YX t q (by have:=s3 zo;simp only[q]at this;exact this) r h0 he w hV rP).mono fun _ _=>fin
 ·exact(YY t q (by have:=s3 zo;simp only[q]at this;exact this) r h0 he w hV rP).mono fun _ _=>fin
 ·exact(YZ t q (by have:=s3 zo;simp only[q]at this;exact this) r h0 he w hV rP).mono fun _ _=>fin
def J5(W:World)(b:Nat)(s:ByteArray)(pos:Nat)(ty:TypeId)(hb:W.heap[b]? = some (.stringIter s pos))(h:pos<s.size):
 (Instr.next (.pointer (some ⟨b,0,none⟩)) true ty).run prog W=.ok (.tuple #[.bool true,.int .i64 pos,.int .i32 (Utf8.decode s pos).1]) { W with heap:=W.heap.setIfInBounds b (.stringIter s (pos+(Utf8.decode s pos).2)) }:=by
 simp only[Instr.next,getObj,setObj,ec,Sem.run,hb,Result.andThen,h,bC];simp[goInt]
def Y3(W:World)(b:Nat)(s:ByteArray)(pos:Nat)(ty:TypeId)(hb:W.heap[b]? = some (.stringIter s pos))(h:¬pos<s.size):
 (Instr.next (.pointer (some ⟨b,0,none⟩)) true ty).run prog W=.ok (.tuple #[.bool false]) W:=by
 simp[Instr.next,getObj,Sem.run,hb,h]
def Y4{s cs:List UInt8}{i k:Nat}(h:Lib.NoAny s cs i)(hk:∀(j:Nat) b,i<=j->j<i+k->s[j]? = some b->cs.contains b=false):Lib.NoAny s cs (i+k):=fun j b hj hb=>by
 by_cases q:j<i
 ·exact h j b q hb
 ·exact hk j b zo hj hb
def Y5{B b:Nat}{w W:World}(h:Below B w W)(hb:B<=b)(o:Obj):Below B w { W with heap:=W.heap.setIfInBounds b o }:=
 ⟨h.os,h.tape,h.output,by simpa using h.size,fun k hk=>by rw[<- h.block k hk];simp only[Array.getElem?_setIfInBounds];rw[aa zo]⟩
def Y6{b:UInt8}(h:128<=b.toNat):(ByteArray.mk #[46,91,63]).data.toList.contains b=false:=by
 rw[Bool.eq_false_iff];intro q;have h3:b=46∨b=91∨b=63:=by simpa using List.contains_iff_mem.1 q
 rcases h3 with rfl|rfl|rfl<;>exact absurd h zd
def Wd(s:ByteArray)(w:World)(h8:s.size<=8):
 Calls prog 84 #[.string s,.string ⟨#[46,91,63]⟩] w fun e w'=>e=.returned (.int .i64 (Lib.indexAny s.data.toList (ByteArray.mk #[46,91,63]).data.toList))∧Below w.heap.size w w':=by
 have h8z:decide ((8:Int)<(s.size:Int))=false:=fD zo;have hu:=fun w=>Any.strings_shouldUseASCIISet (ρ:=xy) { lays153 with } (s.size:Int) w;rw[h8z]at hu;have hA:∀(x:UInt8) (w:World),x.toNat<128->Calls prog 132 #[.string ⟨#[46,91,63]⟩,.int .i32 (x.toNat:Int)] w fun e w'=>e=.returned (.int .i64 (Lib.indexByte (ByteArray.mk #[46,91,63]).data.toList x))∧w'=w:=fun x w hx=>by
  have:=Any.strings_IndexRune_ascii (ρ:=xy) { lays153 with } ⟨#[46,91,63]⟩ (x.toNat:Int) w zo zo;have hback:((x.toNat:Int)).toNat.toUInt8=x:=zsi
  rw[hback]at this;exact this
 have ZO:∀args w,(callFunc 133 args).run prog w=.ok (.enter 133 args) w:=enters_of func133 zk rfl;have ZP:∀args w,(callFunc 132 args).run prog w=.ok (.enter 132 args) w:=enters_of func132 zk rfl;have mixed:prog.follows .mixedOrders=true:=zk
 go_enter func84,ntmps84
 go_wp2_with (go_at_fn 133;refine(hu _).mono ?_;rintro e w' ⟨rfl,hw⟩;rw[hw];clear hw)
 go_loopg [9,10] s.size (fun g _ _ wx=>∃i:Nat,i+g=s.size∧Below w.heap.size w wx∧w.heap.size<wx.heap.size∧wx.heap[w.heap.size]? = some (.stringIter s i)∧Lib.NoAny s.data.toList (ByteArray.mk #[46,91,63]).data.toList i)
 case atStart=>exact⟨0,zo,(Below.refl _ _).alloc (ao _) _,by simp[World.iter],World.iter_heap _ _ _,Lib.NoAny.zero _ _⟩
 case round=>
  obtain⟨i,hig,hb,hlt,hit,hno⟩:=hrel;have HN:Aside (Lib.NoAny s.data.toList (ByteArray.mk #[46,91,63]).data.toList i):=hno;clear hno;cases gk with
  | zero=>
   obtain rfl:i=s.size:=zo
   have hnx:=fun ty=>Y3 wr w.heap.size s s.size ty hit zo
   go_wp2
   go_ret
   exact⟨by rw[Lib.indexAny_none (by rw[<- Lib.size_eq];exact HN.out)];rfl,hb⟩
  | succ g=>
   have hi:i<s.size:=zo
   have hnx:=fun ty=>J5 wr w.heap.size s i ty hit hi;obtain⟨W2,hW2⟩:∃W2:World,W2={ wr with heap:=wr.heap.setIfInBounds w.heap.size (.stringIter s (i+(Utf8.decode s i).2)) }:=⟨_,rfl⟩
   have hb2:Below w.heap.size w W2:=by rw[hW2];exact Y5 hb (ao _) _
   have hlt2:w.heap.size<W2.heap.size:=by rw[hW2];simpa using hlt
   have hit2:W2.heap[w.heap.size]? = some (.stringIter s (i+(Utf8.decode s i).2)):=by rw[hW2];simp[hlt]
   rw[<- hW2]at hnx;clear hW2 hit;have hcon:=fun x=>Lib.contains_iff_indexByte (ByteArray.mk #[46,91,63]).data.toList x;obtain⟨x,hx⟩:∃x:UInt8,s[i]'hi=x:=⟨_,rfl⟩
   have hxl:s.data.toList[i]? = some x:=by rw[<- hx];exact Lib.data_getElem? s i hi
   by_cases hx128:x.toNat<128
   ·have hd:=decode_ascii s i hi (by rw[hx];exact hx128);rw[hd,hx]at hnx hit2;dsimp only at hnx hit2;have hA:=fun w=>hA x w hx128;have Hx:Aside (s.data.toList[i]? = some x):=hxl;clear hxl hx hd;have hcon:=hcon x;cases hin:(ByteArray.mk #[46,91,63]).data.toList.contains x
    ·rw[hin]at hcon;have hlt:¬((0:Int)<=Lib.indexByte (ByteArray.mk #[46,91,63]).data.toList x):=of_decide_eq_false hcon.symm;clear hcon
     go_wp2_with (go_at_fn 132;refine(hA _).mono ?_;rintro e w' ⟨rfl,hw⟩;rw[hw];clear hw)
     go_roundg g
     case measure=>omega
     case rel=>exact⟨i+1,zo,hb2,hlt2,hit2,HN.out.succ Hx.out hin⟩
    ·rw[hin]at hcon;have hge:(0:Int)<=Lib.indexByte (ByteArray.mk #[46,91,63]).data.toList x:=il hcon.symm;clear hcon
     go_wp2_with (go_at_fn 132;refine(hA _).mono ?_;rintro e w' ⟨rfl,hw⟩;rw[hw];clear hw)
     go_ret
     exact⟨by rw[Lib.indexAny_hit HN.out Hx.out hin];rfl,hb2⟩
   ·have Fp:128<=(s[i]'hi).toNat:=by rw[hx];omega
    obtain⟨d1,d2⟩:=KP s i hi Fp;have d3:=(ut s i hi).1;have d4:=YW s i;have d5:=(decode_high s i hi Fp).1;clear hA hcon hxl hx hx128 x Fp;have hR:=Y2 ((Utf8.decode s i).1:Int) zo d4;have HD:Aside (∀(j:Nat) (b:UInt8),i<=j->j<i+(Utf8.decode s i).2->s.data.toList[j]? = some b->128<=b.toNat):=d2;clear d2 d4 d5;generalize (Utf8.decode s i).1=r at*;generalize (Utf8.decode s i).2=k at*
    go_wp2_with (go_at_fn 132;refine(hR _).mono ?_;rintro e w' ⟨rfl,hw⟩)
    go_roundg (g+1-k)
    case measure=>omega
    case rel=>exact⟨i+k,zo,hb2.trans (hw.mono (Nat.le_of_lt hlt2)),cf hlt2 hw.size,(hw.block _ hlt2).trans hit2,Y4 HN.out fun j b h1 h2 h3=>Y6 (HD.out j b h1 h2 h3)⟩
end Go.Ai
