/- Chapter 4: copies. -/
import Derived.Test.YtbagpkiomjlhkaaGreatDoorValA
import Derived.Shelf.Small.Bits
import Derived.Shelf.Small.Strs
import Derived.Shelf.Small.Wraps
import Derived.Shelf.Strconv.Itoa0
import Derived.Ground.Names2Prog
import Derived.Shelf.Slices.SearchI
import Derived.Test.YtbagpkiomjlhkaaGreatDoorProg
import Derived.Test.YtbagpkiomjlhkaaGreatDoorFnD
import Derived.Test.YtbagpkiomjlhkaaGreatDoorRows
import Derived.Deep.Slices
set_option linter.all false
namespace Go.Ai
open Go Go.Proofs
set_option maxRecDepth 100000
set_option maxHeartbeats 2000000
end Go.Ai

namespace Go.Proofs
open Go.Shelf
end Go.Proofs

namespace Go.Ai
open Go Go.Proofs
set_option maxRecDepth 100000
set_option maxHeartbeats 2000000
def rowF (d:Nat) (x:ByteArray×V):List AV:=.str (fun _=>x.1) :: cells d .any fun _=>x.2
def iI {α:Type} (p:α→Bool) (l:List α):Int:=if l.findIdx p<l.length then (l.findIdx p:Int) else -1
def findI (v:V) (s:ByteArray):Int:=iI (fun x:ByteArray×V=>decide (x.1=s)) v.fields
def hasF (v:V) (s:ByteArray):Prop:=v.kind=9∧0≤findI v s
instance (v:V) (s:ByteArray):Decidable (hasF v s):=inferInstanceAs (Decidable (_∧_))
theorem aeN (a:ByteArray):a.data.toList.length=a.size:=Array.length_toList ..
end Go.Ai

namespace Go.Ai
open Go Go.Proofs Go.Proofs.YtbagpkiomjlhkaaGreatDoor Go.RowKit Go.Lib
set_option maxRecDepth 100000
section
variable {H:Type}
theorem aes (d:DataW H):1≤Rows.uptoBulk d:=by
 cases d with
 | lit l=>cases l<;>simp [Rows.uptoBulk]
 | nil=>simp [Rows.uptoBulk]
 | ptr d=>simp [Rows.uptoBulk]
 | slice elems spare=>simp [Rows.uptoBulk]
 | agg parts=>simp [Rows.uptoBulk]
 | iface t d=>simp [Rows.uptoBulk]
 | map entries=>simp [Rows.uptoBulk]
 | held h=>simp [Rows.uptoBulk]
theorem afb {d:DataW H}:∀ {l:List (DataW H)},d ∈ l→Rows.uptoBulk d≤Rows.uptoBulkAll l
 | x :: r,h=>by
  simp only [Rows.uptoBulkAll]
  rcases List.mem_cons.1 h with e|e
  ·subst e;omega
  ·have:=afb e;omega
theorem adB:∀ (l:List (DataW H)),l.length≤Rows.uptoBulkAll l
 | []=>by simp
 | x :: r=>by have:=aes x;have:=adB r;simp only [Rows.uptoBulkAll,List.length_cons];omega
theorem agO {α:Type} (f:α→Nat) (D:α→DataW H):∀ (l:List α),(∀ i ∈ l,f i≤Rows.uptoBulk (D i))→(l.map f).sum≤Rows.uptoBulkAll (l.map D)
 | [],_=>by simp
 | x :: r,h=>by
  have:=h x (List.mem_cons_self ..)
  have:=agO f D r fun i hi=>h i (List.mem_cons_of_mem _ hi)
  simp only [List.map_cons,List.sum_cons,Rows.uptoBulkAll];omega
def anN (w:World) (B:Nat) (row:List AV) (cs:List Value):Prop:=cs.length=row.length∧∀ (j:Nat) (av:AV) (v:Value),row[j]? = some av→cs[j]? = some v→RD w (fun b=>b<w.heap.size) B av v
theorem ag2 {w:World} {a:Addr} {n:Nat} {cs:List Value} (h:w.cells? 0 a n=some cs):cs.length=n∧∀ j,j<n→∃ v,cs[j]? = some v∧w.cell? (a.add j)=some v:=by
 unfold World.cells? at h
 rw [if_pos (Nat.zero_le _)] at h
 have hl:cs.length=n:=by simpa using mapM_some_length h
 refine ⟨hl,fun j hj=>?_⟩
 have:=mapM_some_get h j j (by simp [hj])
 rw [List.getElem?_eq_getElem (by omega)] at this ⊢
 exact ⟨_,rfl,this⟩
theorem agj {α:Type} [Inhabited α] {w:World} {B:Nat} {enc:TypeId×Value→H} {t e:TypeId} {k M fuel:Nat} (ht:Tryz.prog.underlying t=some (.slice e)) (hk:Tryz.prog.cellsOf e=k) (k0:0<k) (row:α→List AV) (hrow:∀ x,(row x).length=k∧(row x).all AV.cell=true)
 {P:α→DataW H→Prop} (hel:∀ (f:Nat) (cs:List Value) (z:DataW H×List MemPlace),Rows.uptoBulk z.1<M→DataW.trod enc Tryz.prog w 0 (fun _=>true) true f e cs=some z→∃ x,P x z.1∧anN w B (row x) cs)
 {cs:List Value} {z:DataW H×List MemPlace} (hM:Rows.uptoBulk z.1≤M) (h:DataW.trod enc Tryz.prog w 0 (fun _=>true) true fuel t cs=some z) :
 ∃ (l:List α) (D:Nat→DataW H) (v:Value),cs=[v]∧(∀ i,i<l.length→P (l.getD i default) (D i))∧Rows.uptoBulkAll ((List.range l.length).map D)+1≤Rows.uptoBulk z.1 ∧
  RD w (fun b=>b<w.heap.size) B (.slc .any k (fun _=>l.length) fun i=>row (l.getD (i ()) default)) v:=by
 rcases Go.Deep.open_slice ht h with ⟨rfl,rfl⟩|⟨a,len,cap,m,n,D,Pl,rfl,_,hlc,hcm,hm,rfl,hall⟩
 ·exact ⟨[],fun _=>.nil,_,rfl,fun i hi=>absurd hi (Nat.not_lt_zero _),by simp [Rows.uptoBulk,Rows.uptoBulkAll],.empty _ _ _ _ none 0 rfl (Nat.zero_le _)⟩
 ·simp only [if_true] at hm
  subst hm
  have hb:Rows.uptoBulkAll ((List.range len).map D)+1≤Rows.uptoBulk (DataW.slice ((List.range len).map D) ((List.range (m - len)).map fun j=>D (len+j))):=by simp only [Rows.uptoBulk];omega
  have hx:∀ i,i<len→∃ x,P x (D i)∧∃ cs',anN w B (row x) cs'∧w.cells? 0 (a.add (i * k)) k=some cs':=fun i hi=>by
   obtain ⟨cs',h1,h2⟩:=hall i (by omega)
   rw [hk] at h1
   have hlt:Rows.uptoBulk (D i)<M:=by
    have:=afb (List.mem_map.2 ⟨i,List.mem_range.2 hi,rfl⟩:D i ∈ (List.range len).map D)
    simp only at hM
    omega
   obtain ⟨x,p,r⟩:=hel n cs' (D i,Pl i) hlt h2
   exact ⟨x,p,cs',r,h1⟩
  obtain ⟨X,hX⟩:=Go.Deep.choose_lt hx
  have hl:((List.range len).map X).length=len:=by simp
  have hg:∀ i,i<len→((List.range len).map X).getD i default=X i:=fun i hi=>by simp [List.getD,hi]
  refine ⟨(List.range len).map X,D,_,rfl,fun i hi=>?_,by rw [hl];exact hb,?_⟩
  ·rw [hl] at hi;rw [hg i hi];exact (hX i hi).1
  ·rcases Nat.eq_zero_or_pos len with h0|h0
   ·subst h0
    exact .empty _ _ _ _ (some a) m (by simp) hcm
   ·obtain ⟨b,o,spot⟩:=a
    have hspot:spot=none:=by
     obtain ⟨_,cs',_,hc⟩:=hX 0 h0
     obtain ⟨v,_,hv⟩:=(ag2 hc).2 0 k0
     obtain ⟨_,_,_,_,h⟩:=World.shape?_of_cell? hv
     simpa [Addr.add] using h
    subst hspot
    have hcell:∀ i,i<len→∃ cs',anN w B (row (X i)) cs'∧cs'.length=k∧∀ j,j<k→∃ v,cs'[j]? = some v∧w.cell? ⟨b,o+(i * k+j),none⟩=some v:=fun i hi=>by
     obtain ⟨_,cs',r,hc⟩:=hX i hi
     obtain ⟨q1,q2⟩:=ag2 hc
     refine ⟨cs',r,q1,fun j hj=>?_⟩
     obtain ⟨v,h1,h2⟩:=q2 j hj
     refine ⟨v,h1,?_⟩
     rw [Addr.add_lit,Addr.add_lit,Nat.add_assoc] at h2
     exact h2
    have hD:b<w.heap.size:=by
     obtain ⟨cs',_,_,q⟩:=hcell 0 h0
     obtain ⟨v,_,hv⟩:=q 0 k0
     exact block_lt_of_cell hv
    have hdiv:∀ q,q<len * k→q / k<len∧q % k<k∧q / k * k+q % k=q:=fun q hq =>
     ⟨by rw [Nat.div_lt_iff_lt_mul k0];exact hq,Nat.mod_lt _ k0,by rw [Nat.mul_comm];exact Nat.div_add_mod q k⟩
    have hall2:∀ q,q<len * k→∃ v,w.cell? ⟨b,o+q,none⟩=some v:=fun q hq=>by
     obtain ⟨d1,d2,d3⟩:=hdiv q hq
     obtain ⟨cs',_,_,h⟩:=hcell _ d1
     obtain ⟨v,_,hv⟩:=h _ d2
     rw [d3] at hv
     exact ⟨v,hv⟩
    obtain ⟨c,hc⟩:∃ c:Nat→Value,∀ q,q<len * k→w.cell? ⟨b,o+q,none⟩=some (c q):=by
     haveI:Inhabited Value:=⟨undef⟩
     exact Go.Deep.choose_lt hall2
    have key:RD w (fun b=>b<w.heap.size) B (.slc .any k (fun _=>((List.range len).map X).length) fun i=>row (((List.range len).map X).getD (i ()) default)) (.slice (some ⟨b,o,none⟩) ((List.range len).map X).length m):=by
     refine .slc .any k (fun _=>((List.range len).map X).length) _ b o m c (by show ((List.range len).map X).length≤m;rw [hl];exact hlc) hcm hD trivial (fun q hq=>hc q (by simpa [hl] using hq)) (fun i _=>(hrow _).1) (fun i _=>(hrow _).2) (fun i j av hi hj=>?_)
     have hi2:i<len:=by simpa using hi
     simp only [hg i hi2] at hj
     have hj2:j<k:=by have:=(List.getElem?_eq_some_iff.1 hj).1;rw [(hrow _).1] at this;exact this
     obtain ⟨cs',⟨_,r⟩,_,h⟩:=hcell i hi2
     obtain ⟨v,h1,h2⟩:=h j hj2
     have hlt:i * k+j<len * k:=by
      have:(i+1) * k≤len * k:=Nat.mul_le_mul_right _ hi2
      rw [Nat.add_mul] at this;omega
     rw [hc _ hlt] at h2
     cases h2
     exact r j av _ hj h1
    rw [hl] at key
    rw [hl]
    exact key
end
theorem ahf (d:Nat) (x:V):(cells d .any fun _=>x).length=6∧(cells d .any fun _=>x).all AV.cell=true:=⟨rfl,rfl⟩
theorem alU (d:Nat) (x:ByteArray×V):(rowF d x).length=7∧(rowF d x).all AV.cell=true:=⟨rfl,rfl⟩
section
variable {H:Type}
theorem lS {α:Type} {l:List α} {n:Nat} (h:l.length=n+1):∃ a r,l=a :: r∧r.length=n:=by
 cases l with
 | nil=>cases h
 | cons a r=>exact ⟨a,r,rfl,by simpa using h⟩
theorem ahi {α β:Type} [Inhabited α] (l:List α) (f:α→β):(List.range l.length).map (fun i=>f (l.getD i default))=l.map f:=by
 refine List.ext_getElem (by simp) fun i h1 h2=>?_
 have:i<l.length:=by simpa using h2
 simp [List.getD,this]
def allV:Nat→V→Nat
 | 0,_=>0
 | d+1,v=>1+(v.list.map (allV d)).sum+(v.fields.map fun x=>allV d x.2).sum
theorem readV {w:World} {B:Nat} {enc:TypeId×Value→H}:∀ (M fuel:Nat) (cs:List Value) (z:DataW H×List MemPlace),Rows.uptoBulk z.1≤M→M≤1048576→DataW.trod enc Tryz.prog w 0 (fun _=>true) true fuel 56 cs=some z →
 ∃ x:V,(V.le M x∧allV M x≤Rows.uptoBulk z.1)∧anN w B (cells M .any fun _=>x) cs
 | 0,fuel,cs,z,h,_,_=>by have:=aes z.1;omega
 | M + 1,fuel,cs,z,h,hM,ht=>by
  obtain ⟨xs,n,rfl,hz,hl,hxl,hf⟩:=DataW.trod_struct Tryz.underlying56 ht
  have c25:Tryz.prog.cellsOf 56=6:=by kernel_rfl
  have c3:Tryz.prog.cellsOf 3=1:=by kernel_rfl
  have c9:Tryz.prog.cellsOf 9=1:=by kernel_rfl
  have c22:Tryz.prog.cellsOf 22=1:=by kernel_rfl
  have c23:Tryz.prog.cellsOf 54=1:=by kernel_rfl
  have c41:Tryz.prog.cellsOf 173=7:=by kernel_rfl
  rw [c25] at hl
  obtain ⟨x0,r0,rfl,l0⟩:=lS (n:=5) (l:=xs) (by simpa using hxl)
  obtain ⟨x1,r1,rfl,l1⟩:=lS l0
  obtain ⟨x2,r2,rfl,l2⟩:=lS l1
  obtain ⟨x3,r3,rfl,l3⟩:=lS l2
  obtain ⟨x4,r4,rfl,l4⟩:=lS l3
  obtain ⟨x5,r5,rfl,l5⟩:=lS l4
  obtain rfl:=List.eq_nil_of_length_eq_zero l5
  obtain ⟨v0,s0,rfl,m0⟩:=lS hl
  obtain ⟨v1,s1,rfl,m1⟩:=lS m0
  obtain ⟨v2,s2,rfl,m2⟩:=lS m1
  obtain ⟨v3,s3,rfl,m3⟩:=lS m2
  obtain ⟨v4,s4,rfl,m4⟩:=lS m3
  obtain ⟨v5,s5,rfl,m5⟩:=lS m4
  obtain rfl:=List.eq_nil_of_length_eq_zero m5
  have f0:=hf 0 _ rfl
  have f1:=hf 1 _ rfl
  have f2:=hf 2 _ rfl
  have f3:=hf 3 _ rfl
  have f4:=hf 4 _ rfl
  have f5:=hf 5 _ rfl
  simp only [c3,c9,c22,c23,List.drop_zero,List.drop_succ_cons,List.take_succ_cons,List.take_zero,List.getElem?_cons_zero,List.getElem?_cons_succ] at f0 f1 f2 f3 f4 f5
  obtain ⟨a0,e0,_,_⟩:=DataW.trod_int Tryz.underlying3 f0
  obtain ⟨a1,e1,_,_⟩:=DataW.trod_int Tryz.underlying3 f1
  obtain ⟨a2,e2,_,_⟩:=DataW.trod_int Tryz.underlying3 f2
  obtain ⟨a3,e3,hx3,_⟩:=DataW.trod_string Tryz.underlying9 f3
  cases e0;cases e1;cases e2;cases e3
  have hb:Rows.uptoBulk z.1=Rows.uptoBulkAll [x0.1,x1.1,x2.1,x3.1,x4.1,x5.1]+1:=by rw [hz];simp [Rows.uptoBulk]
  simp only [Rows.uptoBulkAll] at hb
  have hx3b:Rows.uptoBulk x3.1=a3.size+1:=by rw [hx3];simp [Rows.uptoBulk,aeN]
  obtain ⟨l,D,vl,el,hP,hbl,hrl⟩:=agj (M:=M) (B:=B) Tryz.underlying22 c25 (by omega) (fun x=>cells M .any fun _=>x) (ahf M) (P:=fun x d=>V.le M x∧allV M x≤Rows.uptoBulk d)
   (fun f cs z hz ht=>readV M f cs z (by omega) (by omega) ht) (by omega) f4
  obtain ⟨fl,D2,vf,ef,hP2,hbf,hrf⟩:=agj (M:=M) (B:=B) Tryz.underlying54 c41 (by omega) (fun x=>rowF M x) (alU M) (P:=fun x d=>x.1.size≤1048576∧V.le M x.2∧allV M x.2≤Rows.uptoBulk d)
   (fun f cs z hz ht=>by
     obtain ⟨xs,n,rfl,hz2,hl,hxl,hf⟩:=DataW.trod_struct Tryz.underlying173 ht
     rw [c41] at hl
     obtain ⟨x0,r0,rfl,l0⟩:=lS (n:=1) (l:=xs) (by simpa using hxl)
     obtain ⟨x1,r1,rfl,l1⟩:=lS l0
     obtain rfl:=List.eq_nil_of_length_eq_zero l1
     obtain ⟨v0,s0,rfl,m0⟩:=lS hl
     have f0:=hf 0 _ rfl
     have f1:DataW.trod enc Tryz.prog w 0 (fun _=>true) true n 56 (List.take (Tryz.prog.cellsOf 56) (List.drop 1 (v0 :: s0)))=some x1:=hf 1 _ rfl
     simp only [c9,List.drop_zero,List.take_succ_cons,List.take_zero,List.getElem?_cons_zero] at f0
     rw [c25,List.drop_succ_cons,List.drop_zero,List.take_of_length_le (Nat.le_of_eq m0)] at f1
     obtain ⟨t,e0,ht0,_⟩:=DataW.trod_string Tryz.underlying9 f0
     cases e0
     have hb:Rows.uptoBulk z.1=Rows.uptoBulkAll [x0.1,x1.1]+1:=by rw [hz2];simp [Rows.uptoBulk]
     simp only [Rows.uptoBulkAll] at hb
     have htb:Rows.uptoBulk x0.1=t.size+1:=by rw [ht0];simp [Rows.uptoBulk,aeN]
     obtain ⟨x,⟨q1,q2⟩,q3,q4⟩:=readV M n s0 x1 (by omega) (by omega) f1
     refine ⟨(t,x),⟨by simp only;omega,q1,by simp only;omega⟩,?_,?_⟩
     ·show s0.length+1=(cells M .any fun _=>x).length+1
      rw [q3]
     ·intro j av v h1 h2
      cases j with
      | zero=>simp [rowF] at h1 h2;subst h1;subst h2;exact .str _
      | succ j=>exact q4 j av v (by simpa [rowF] using h1) (by simpa using h2)) (by omega) f5
  cases el;cases ef
  have hle1:∀ x ∈ l,V.le M x∧allV M x≤1048576:=fun x hx=>by
   obtain ⟨i,hi,rfl⟩:=List.getElem_of_mem hx
   have:=hP i hi
   rw [show l.getD i default=l[i] by simp [List.getD,hi]] at this
   have hb2:=afb (List.mem_map.2 ⟨i,List.mem_range.2 hi,rfl⟩:D i ∈ (List.range l.length).map D)
   exact ⟨this.1,by omega⟩
  have hle2:∀ x ∈ fl,x.1.size≤1048576∧V.le M x.2:=fun x hx=>by
   obtain ⟨i,hi,rfl⟩:=List.getElem_of_mem hx
   have:=hP2 i hi
   rw [show fl.getD i default=fl[i] by simp [List.getD,hi]] at this
   exact ⟨this.1,this.2.1⟩
  have hll:l.length≤Rows.uptoBulkAll ((List.range l.length).map D):=by have:=adB ((List.range l.length).map D);simpa using this
  have hfl:fl.length≤Rows.uptoBulkAll ((List.range fl.length).map D2):=by have:=adB ((List.range fl.length).map D2);simpa using this
  have hs1:(l.map (allV M)).sum≤Rows.uptoBulkAll ((List.range l.length).map D):=by
   have:=agO (fun i=>allV M (l.getD i default)) D (List.range l.length) fun i hi=>(hP i (List.mem_range.1 hi)).2
   rwa [show (List.range l.length).map (fun i=>allV M (l.getD i default))=l.map (allV M) from ahi l (allV M)] at this
  have hs2:(fl.map fun x=>allV M x.2).sum≤Rows.uptoBulkAll ((List.range fl.length).map D2):=by
   have:=agO (fun i=>allV M (fl.getD i default).2) D2 (List.range fl.length) fun i hi=>(hP2 i (List.mem_range.1 hi)).2.2
   rwa [show (List.range fl.length).map (fun i=>allV M (fl.getD i default).2)=fl.map (fun x=>allV M x.2) from ahi fl (fun x=>allV M x.2)] at this
  refine ⟨.mk a0 a1 a2 a3 l fl,⟨⟨by simp only [V.list];omega,by simp only [V.fields];omega,by simp only [V.text];omega,fun x hx=>(hle1 x hx).1,fun x hx=>⟨by have:=(hle2 x hx).1;omega,(hle2 x hx).2⟩⟩,?_⟩,rfl,?_⟩
  ·have p0:=aes x0.1
   show 1+(l.map (allV M)).sum+(fl.map fun x=>allV M x.2).sum≤_
   omega
  ·intro j av v h1 h2
   match j with
   | 0=>simp [cells,acU] at h1 h2;subst h1;subst h2;exact .int _ _
   | 1=>simp [cells,acU] at h1 h2;subst h1;subst h2;exact .int _ _
   | 2=>simp [cells,acU] at h1 h2;subst h1;subst h2;exact .int _ _
   | 3=>simp [cells,acU] at h1 h2;subst h1;subst h2;exact .str _
   | 4=>simp [cells,acU] at h1 h2;subst h1;subst h2;exact hrl
   | 5=>simp [cells,acU] at h1 h2;subst h1;subst h2;exact hrf
   | n+6=>simp [cells,acU] at h1
end
end Go.Ai
