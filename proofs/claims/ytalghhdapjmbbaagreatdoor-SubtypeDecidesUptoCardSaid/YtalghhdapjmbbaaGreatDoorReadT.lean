/- Data that can be read: the types of chapter 6 in memory. -/
import Derived.Test.YtalghhdapjmbbaaGreatDoorRead
import Derived.Test.YtalghhdapjmbbaaGreatDoorEncC
import Derived.Test.YtalghhdapjmbbaaGreatDoorJoin
import Derived.ChangeMaps5
set_option linter.all false
namespace Go.Ai
open Go Go.Proofs Go.Proofs.YtalghhdapjmbbaaGreatDoor Go.RowKit Go.Lib
set_option maxRecDepth 100000
set_option maxHeartbeats 4000000
theorem row_str (s:ByteArray):([AV.str fun _=>s]).length=1∧([AV.str fun _=>s]).all AV.cell=true:=⟨rfl,rfl⟩
theorem row_T (e d:Nat) (t:Ty):(cl' e d .any fun _=>t).length=7∧(cl' e d .any fun _=>t).all AV.cell=true:=⟨rfl,rfl⟩
theorem row_TF (e d:Nat) (f:TF):(cF e d .any fun _=>f).length=11∧(cF e d .any fun _=>f).all AV.cell=true:=⟨rfl,rfl⟩
section
variable {H:Type}
theorem mem_getD {α:Type} [Inhabited α] {l:List α} {p:α→Prop} (h:∀ i,i<l.length→p (l.getD i default)):∀ x ∈ l,p x:=fun x hx=>by
 obtain ⟨i,hi,rfl⟩:=List.getElem_of_mem hx
 have:=h i hi
 rwa [show l.getD i default=l[i] by simp [List.getD,hi]] at this
theorem readWords {w:World} {B:Nat} {enc:TypeId×Value→H} {fuel:Nat} {cs:List Value} {z:DataW H×List MemPlace} (hz:Rows.uptoBulk z.1≤1048576) (h:DataW.trod enc Tryz.prog w 0 (fun _=>true) true fuel 22 cs=some z) :
 ∃ (l:List ByteArray) (v:Value),cs=[v]∧l.length≤1048576∧(∀ s ∈ l,s.size≤1048576)∧RD w (fun b=>b<w.heap.size) B (.slc .any 1 (fun _=>l.length) (wordsF fun _=>l)) v:=by
 have c9:Tryz.prog.cellsOf 9=1:=by kernel_rfl
 obtain ⟨l,D,v,e,hP,hb,hr⟩:=readSlc (M:=1048576) (B:=B) Tryz.underlying22 c9 (by omega) (fun s=>[AV.str fun _=>s]) row_str (P:=fun s _=>s.size≤1048576)
  (fun f cs z hz ht=>by
    obtain ⟨s,e,hs,_⟩:=DataW.trod_string Tryz.underlying9 ht
    subst e
    have:Rows.uptoBulk z.1=s.size+1:=by rw [hs];simp [Rows.uptoBulk,len_bytes]
    refine ⟨s,by omega,rfl,fun j av v h1 h2=>?_⟩
    cases j with
    | zero=>simp at h1 h2;subst h1;subst h2;exact .str _
    | succ j=>simp at h1) hz h
 have hll:l.length≤Rows.uptoBulkAll ((List.range l.length).map D):=by have:=bulk_len ((List.range l.length).map D);simpa using this
 exact ⟨l,v,e,by omega,mem_getD hP,hr⟩
theorem readVs {w:World} {B:Nat} {enc:TypeId×Value→H} {fuel:Nat} {cs:List Value} {z:DataW H×List MemPlace} (hz:Rows.uptoBulk z.1≤1048576) (h:DataW.trod enc Tryz.prog w 0 (fun _=>true) true fuel 30 cs=some z) :
 ∃ (l:List V) (v:Value),cs=[v]∧l.length≤1048576∧(∀ x ∈ l,V.le 1048576 x∧sV 1048576 x≤1048576)∧RD w (fun b=>b<w.heap.size) B (.slc .any 6 (fun _=>l.length) fun j=>cells 1048576 .any fun _=>l.getD (j ()) default) v:=by
 have c25:Tryz.prog.cellsOf 33=6:=by kernel_rfl
 obtain ⟨l,D,v,e,hP,hb,hr⟩:=readSlc (M:=1048576) (B:=B) Tryz.underlying30 c25 (by omega) (fun x=>cells 1048576 .any fun _=>x) (row_cells 1048576) (P:=fun x d=>V.le 1048576 x∧sV 1048576 x≤1048576)
  (fun f cs z hz ht=>by
    obtain ⟨x,⟨q1,q2⟩,q3⟩:=readV (B:=B) 1048576 f cs z (by omega) (Nat.le_refl _) ht
    have:=size_all 1048576 x
    exact ⟨x,⟨q1,by omega⟩,q3⟩) hz h
 have hll:l.length≤Rows.uptoBulkAll ((List.range l.length).map D):=by have:=bulk_len ((List.range l.length).map D);simpa using this
 exact ⟨l,v,e,by omega,mem_getD hP,hr⟩
theorem readT {w:World} {B:Nat} {enc:TypeId×Value→H}:∀ (M fuel:Nat) (cs:List Value) (z:DataW H×List MemPlace),Rows.uptoBulk z.1≤M→M≤1048576→DataW.trod enc Tryz.prog w 0 (fun _=>true) true fuel 26 cs=some z →
 ∃ t:Ty,(Ty.le 1048576 M t∧Ty.sz 1048576 M t)∧RowIn w B (cl' 1048576 M .any fun _=>t) cs
 | 0,fuel,cs,z,h,_,_=>by have:=bulk_pos z.1;omega
 | M + 1,fuel,cs,z,h,hM,ht=>by
  obtain ⟨xs,n,rfl,hz,hl,hxl,hf⟩:=DataW.trod_struct Tryz.underlying26 ht
  have c26:Tryz.prog.cellsOf 26=7:=by kernel_rfl
  have c3:Tryz.prog.cellsOf 3=1:=by kernel_rfl
  have c9:Tryz.prog.cellsOf 9=1:=by kernel_rfl
  have c22:Tryz.prog.cellsOf 22=1:=by kernel_rfl
  have c23:Tryz.prog.cellsOf 23=1:=by kernel_rfl
  have c24:Tryz.prog.cellsOf 24=1:=by kernel_rfl
  have c27:Tryz.prog.cellsOf 30=1:=by kernel_rfl
  have c70:Tryz.prog.cellsOf 52=11:=by kernel_rfl
  rw [c26] at hl
  obtain ⟨x0,r0,rfl,l0⟩:=lS (n:=6) (l:=xs) (by simpa using hxl)
  obtain ⟨x1,r1,rfl,l1⟩:=lS l0
  obtain ⟨x2,r2,rfl,l2⟩:=lS l1
  obtain ⟨x3,r3,rfl,l3⟩:=lS l2
  obtain ⟨x4,r4,rfl,l4⟩:=lS l3
  obtain ⟨x5,r5,rfl,l5⟩:=lS l4
  obtain ⟨x6,r6,rfl,l6⟩:=lS l5
  obtain rfl:=List.eq_nil_of_length_eq_zero l6
  obtain ⟨v0,s0,rfl,m0⟩:=lS hl
  obtain ⟨v1,s1,rfl,m1⟩:=lS m0
  obtain ⟨v2,s2,rfl,m2⟩:=lS m1
  obtain ⟨v3,s3,rfl,m3⟩:=lS m2
  obtain ⟨v4,s4,rfl,m4⟩:=lS m3
  obtain ⟨v5,s5,rfl,m5⟩:=lS m4
  obtain ⟨v6,s6,rfl,m6⟩:=lS m5
  obtain rfl:=List.eq_nil_of_length_eq_zero m6
  have f0:=hf 0 _ rfl
  have f1:=hf 1 _ rfl
  have f2:=hf 2 _ rfl
  have f3:=hf 3 _ rfl
  have f4:=hf 4 _ rfl
  have f5:=hf 5 _ rfl
  have f6:=hf 6 _ rfl
  simp only [c3,c22,c23,c24,List.drop_zero,List.drop_succ_cons,List.take_succ_cons,List.take_zero,List.getElem?_cons_zero,List.getElem?_cons_succ] at f0 f1 f2 f3 f4 f5 f6
  obtain ⟨a0,e0,_,_⟩:=DataW.trod_int Tryz.underlying3 f0
  obtain ⟨a1,e1,_,_⟩:=DataW.trod_int Tryz.underlying3 f1
  obtain ⟨a2,e2,_,_⟩:=DataW.trod_int Tryz.underlying3 f2
  obtain ⟨a3,e3,_,_⟩:=DataW.trod_int Tryz.underlying3 f3
  cases e0;cases e1;cases e2;cases e3
  have hb:Rows.uptoBulk z.1=Rows.uptoBulkAll [x0.1,x1.1,x2.1,x3.1,x4.1,x5.1,x6.1]+1:=by rw [hz];simp [Rows.uptoBulk]
  simp only [Rows.uptoBulkAll] at hb
  obtain ⟨wl,vw,ew,hwl,hws,hwr⟩:=readWords (B:=B) (by omega) f4
  obtain ⟨l,D,vl,el,hP,hbl,hrl⟩:=readSlc (M:=M) (B:=B) Tryz.underlying23 c26 (by omega) (fun x=>cl' 1048576 M .any fun _=>x) (row_T 1048576 M) (P:=fun x _=>Ty.le 1048576 M x∧Ty.sz 1048576 M x)
   (fun f cs z hz ht=>readT M f cs z (by omega) (by omega) ht) (by omega) f5
  obtain ⟨fl, D2,vf,ef,hP2,hbf,hrf⟩:=readSlc (M:=M) (B:=B) Tryz.underlying24 c70 (by omega) (fun x=>cF 1048576 M .any fun _=>x) (row_TF 1048576 M)
   (P:=fun x _=>((fM x).size≤1048576∧(fDef x).length≤1048576∧(∀ v ∈ fDef x,V.le 1048576 v∧sV 1048576 v≤1048576))∧Ty.le 1048576 M (fT x)∧Ty.sz 1048576 M (fT x))
   (fun f cs z hz ht=>by
     obtain ⟨xs,n,rfl,hz2,hl,hxl,hf⟩:=DataW.trod_struct Tryz.underlying52 ht
     rw [c70] at hl
     obtain ⟨x0,r0,rfl,l0⟩:=lS (n:=4) (l:=xs) (by simpa using hxl)
     obtain ⟨x1,r1,rfl,l1⟩:=lS l0
     obtain ⟨x2,r2,rfl,l2⟩:=lS l1
     obtain ⟨x3,r3,rfl,l3⟩:=lS l2
     obtain ⟨x4,r4,rfl,l4⟩:=lS l3
     obtain rfl:=List.eq_nil_of_length_eq_zero l4
     obtain ⟨v0,s0,rfl,m0⟩:=lS hl
     obtain ⟨v1,s1,rfl,m1⟩:=lS m0
     obtain ⟨v2,s2,rfl,m2⟩:=lS m1
     have f0:=hf 0 _ rfl
     have f1:=hf 1 _ rfl
     have f2:=hf 2 _ rfl
     have f3:DataW.trod enc Tryz.prog w 0 (fun _=>true) true n 26 (List.take (Tryz.prog.cellsOf 26) (List.drop 3 (v0 :: v1 :: v2 :: s2)))=some x3:=hf 3 _ rfl
     have f4:DataW.trod enc Tryz.prog w 0 (fun _=>true) true n 30 (List.take (Tryz.prog.cellsOf 30) (List.drop 10 (v0 :: v1 :: v2 :: s2)))=some x4:=hf 4 _ rfl
     simp only [c3,c9,c26,c27,List.drop_zero,List.drop_succ_cons,List.take_succ_cons,List.take_zero,List.getElem?_cons_zero,List.getElem?_cons_succ] at f0 f1 f2 f3 f4
     obtain ⟨a0,e0,_,_⟩:=DataW.trod_int Tryz.underlying3 f0
     obtain ⟨a1,e1,ha1,_⟩:=DataW.trod_string Tryz.underlying9 f1
     obtain ⟨a2,e2,_,_⟩:=DataW.trod_int Tryz.underlying3 f2
     cases e0;cases e1;cases e2
     have hb:Rows.uptoBulk z.1=Rows.uptoBulkAll [x0.1,x1.1,x2.1,x3.1,x4.1]+1:=by rw [hz2];simp [Rows.uptoBulk]
     simp only [Rows.uptoBulkAll] at hb
     have htb:Rows.uptoBulk x1.1=a1.size+1:=by rw [ha1];simp [Rows.uptoBulk,len_bytes]
     obtain ⟨t,⟨q1,q2⟩,q3,q4⟩:=readT M n (s2.take 7) x3 (by omega) (by omega) f3
     obtain ⟨dl,dv,ed,hdl,hdv,hdr⟩:=readVs (B:=B) (by omega) f4
     have hs2:s2=s2.take 7++[dv]:=by
      have h1:s2.drop 7=[dv]:=by
       rw [List.take_of_length_le (by rw [List.length_drop];omega)] at ed
       exact ed
      rw [← h1,List.take_append_drop]
     have ht7:(s2.take 7).length=7:=by rw [List.length_take];omega
     refine ⟨(a0,a1,a2,t,dl),⟨⟨by simp only [fM];omega,by simp only [fDef];omega,hdv⟩,q1,q2⟩,?_,?_⟩
     ·show s2.length+1+1+1=11
      omega
     ·intro j av v h1 h2
      match j with
      | 0=>simp [cF] at h1 h2;subst h1;subst h2;exact .int _ _
      | 1=>simp [cF] at h1 h2;subst h1;subst h2;exact .str _
      | 2=>simp [cF] at h1 h2;subst h1;subst h2;exact .int _ _
      | j + 3 =>
       simp only [cF,List.getElem?_cons_succ] at h1 h2
       rw [hs2] at h2
       by_cases hj:j<7
       ·rw [List.getElem?_append_left (by rw [ht7];exact hj)] at h2
        rw [List.getElem?_append_left (by rw [(row_T _ _ _).1];exact hj)] at h1
        exact q4 j av v h1 h2
       ·rw [List.getElem?_append_right (by rw [ht7];omega),ht7] at h2
        rw [List.getElem?_append_right (by rw [(row_T _ _ _).1];omega),(row_T _ _ _).1] at h1
        cases hj2:j - 7 with
        | zero =>
         rw [hj2] at h1 h2
         simp at h1 h2;subst h1;subst h2
         exact hdr
        | succ k=>rw [hj2] at h1;simp at h1) (by omega) f6
  cases ew;cases el;cases ef
  have hle1:=mem_getD (p:=fun x=>Ty.le 1048576 M x∧Ty.sz 1048576 M x) hP
  have hle2:=mem_getD (p:=fun x:TF=>((fM x).size≤1048576∧(fDef x).length≤1048576∧(∀ v ∈ fDef x,V.le 1048576 v∧sV 1048576 v≤1048576))∧Ty.le 1048576 M (fT x)∧Ty.sz 1048576 M (fT x)) hP2
  have hll:l.length≤Rows.uptoBulkAll ((List.range l.length).map D):=by have:=bulk_len ((List.range l.length).map D);simpa using this
  have hfl:fl.length≤Rows.uptoBulkAll ((List.range fl.length).map D2):=by have:=bulk_len ((List.range fl.length).map D2);simpa using this
  refine ⟨.mk a0 a1 a2 a3 wl l fl,⟨⟨by simp only [Ty.words];omega,fun s hs=>Nat.le_trans (hws s hs) (by decide),by simp only [Ty.elem];omega,by simp only [Ty.fields];omega,fun x hx=>(hle1 x hx).1,fun f hf=>?_⟩,⟨fun x hx=>(hle1 x hx).2,fun f hf=>?_⟩⟩,rfl,?_⟩
  ·have q:=hle2 f hf
   exact ⟨Nat.le_trans q.1.1 (by decide),Nat.le_trans q.1.2.1 (by decide),fun v hv=>(q.1.2.2 v hv).1,q.2.1⟩
  ·have q:=hle2 f hf
   exact ⟨fun v hv=>Nat.le_trans (q.1.2.2 v hv).2 (by decide),q.2.2⟩
  ·intro j av v h1 h2
   match j with
   | 0=>simp [cl',cellsTG] at h1 h2;subst h1;subst h2;exact .int _ _
   | 1=>simp [cl',cellsTG] at h1 h2;subst h1;subst h2;exact .int _ _
   | 2=>simp [cl',cellsTG] at h1 h2;subst h1;subst h2;exact .int _ _
   | 3=>simp [cl',cellsTG] at h1 h2;subst h1;subst h2;exact .int _ _
   | 4=>simp [cl',cellsTG] at h1 h2;subst h1;subst h2;exact hwr
   | 5=>simp [cl',cellsTG] at h1 h2;subst h1;subst h2;exact hrl
   | 6=>simp [cl',cellsTG] at h1 h2;subst h1;subst h2;exact hrf
   | n+7=>simp [cl',cellsTG] at h1
end
end Go.Ai

namespace Go.Ai
open Go Go.Proofs Go.Proofs.YtalghhdapjmbbaaGreatDoor Go.ChangeShapes
set_option maxRecDepth 100000
section
variable {H:Type} {enc:TypeId×Value→H} {W:World} {v:Value} {d:DataW H} {p:List MemPlace}
theorem open_type (hd:DataW.Trod enc Tryz.prog W 0 (fun _=>true) true 26 v d p) (hb:Rows.uptoBulk d≤1048576) :
 ∃ x:Ty,Ty.le 1048576 1048576 x∧Ty.sz 1048576 1048576 x∧RD W (fun b=>b<W.heap.size) W.heap.size (encT 1048576 1048576 .any fun _=>x) v:=by
 obtain ⟨fuel,ht⟩:=hd
 obtain ⟨x,⟨h1,h2⟩,h3,h4⟩:=readT (B:=W.heap.size) 1048576 fuel v.cells.toList (d,p) hb (Nat.le_refl _) ht
 refine ⟨x,h1,h2,?_⟩
 have hl:v.cells.size=7:=by rw [show (7:Nat)=(cl' 1048576 1048576 .any fun _=>x).length from rfl,← h3];simp
 cases v with
 | agg vs=>exact .agg _ _ (by show 7=vs.size;simpa [Value.cells] using hl.symm) fun i av u q1 q2=>h4 i av u q1 (by simpa [Value.cells] using q2)
 | _=>simp [Value.cells] at hl
end
end Go.Ai
