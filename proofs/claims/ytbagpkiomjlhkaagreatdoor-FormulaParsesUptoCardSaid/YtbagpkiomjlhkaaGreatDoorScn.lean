/- Chapter 15: the token at a place, at every text. -/
import Derived.Test.YtbagpkiomjlhkaaGreatDoorTxt
import Derived.Test.YtbagpkiomjlhkaaGreatDoorDec
set_option linter.all false
namespace Go.Ai
open Go Go.Proofs
set_option maxRecDepth 100000
set_option maxHeartbeats 4000000
def anW(s:ByteArray)(i:Nat)(t:Tok):Bool×Nat×Int×Int×Tok:=
 if byt s i=120∧byt s (i+1)=34 then(true,bytR s i 0 t)
 else if letB (byt s i)=true then(true,aag s adM i,if 64<aag s adM i-i then(i:Int)else 0,if 64<aag s adM i-i then 5 else 0,t.set 1 (s.extract i (aag s adM i)))
 else if digB (byt s i)=true then(true,nR dV s i 0 t)
 else if byt s i=34 then(true,txtR s i 0 t)
 else if amj s i=true then(true,i+2,0,0,t.set 5 (s.extract i (i+2)))
 else if aiz (byt s i)=true then(true,i+1,0,0,t.set 5 (s.extract i (i+1)))
 else(false,i,0,0,t)
def way_all(s:ByteArray)(hs:s.size<=65536){i:Nat}(hi:i<s.size)(t:Tok):
 Af Tryz.prog 110 [.bref 1000 5,.func 111 [.ptr 1001001000 0]] [(1000,.box ac6),(1001001000,boxK t),(1001000000,boxC s i 0 0)] (.bool fun _=>(anW s i t).1)
  [(1000,.box ac6),(1001001000,boxK (anW s i t).2.2.2.2),(1001000000,boxC s (anW s i t).2.1 (anW s i t).2.2.1 (anW s i t).2.2.2.1)]:=by
 unfold anW;by_cases c0:byt s i=120∧byt s (i+1)=34
 ·rw[if_pos c0];exact any_ok s i _ 0 0 _ _ _ _ 0 (by decide) (fun j hj=>by omega) (.inl ⟨by decide,aqk s i 0 t (by omega) hi c0⟩) true rfl
 rw[if_neg c0];have m0:Meth 103 s i 0 0 t false i 0 0 t:=apv s i 0 0 t (by omega) c0;by_cases c1:letB (byt s i)=true
 ·rw[if_pos c1];have m1:=apM s i 0 0 t (by omega) (by omega) c1 c0 _ rfl;simp only[and_true]at m1;refine any_ok s i _ 0 0 _ _ _ _ 1 (by decide) (fun j hj=>?_) (.inl ⟨by decide,m1⟩) true rfl;obtain rfl:j=0:=by omega
  exact m0
 rw[if_neg c1];have c1:letB (byt s i)=false:=by simpa using c1
 have m1:Meth 104 s i 0 0 t false i 0 0 t:=apN s i 0 0 t (by omega) c1;by_cases c2:digB (byt s i)=true
 ·rw[if_pos c2];have m2:=apC dV s i 0 t (by omega) hi c2 (aqf _ (by rw[ByteArray.size_extract];omega));refine any_ok s i _ 0 0 _ _ _ _ 2 (by decide) (fun j hj=>?_) (.inl ⟨by decide,m2⟩) true rfl;rcases j with _|_|j
  ·exact m0
  ·exact m1
  ·omega
 rw[if_neg c2];have m2:Meth 105 s i 0 0 t false i 0 0 t:=amw s i 0 0 t (by omega) (by simpa using c2);by_cases c3:byt s i=34
 ·rw[if_pos c3];have m3:=text_all s i 0 t (by omega) hi c3;refine any_ok s i _ 0 0 _ _ _ _ 3 (by decide) (fun j hj=>?_) (.inl ⟨by decide,m3⟩) true rfl;rcases j with _|_|_|j
  ·exact m0
  ·exact m1
  ·exact m2
  ·omega
 rw[if_neg c3];have m3:Meth 106 s i 0 0 t false i 0 0 t:=apW s i 0 0 t (by omega) c3;have four:∀j,j<4->Meth (103+j) s i 0 0 t false i 0 0 t:=fun j hj=>by
  rcases j with _|_|_|_|j
  ·exact m0
  ·exact m1
  ·exact m2
  ·exact m3
  ·exact absurd hj (by simp)
 rcases apm hi with⟨p1,p2⟩|⟨p1,k,p2,p3,p4,p5⟩
 ·rw [if_neg (by rw[p1];simp)];obtain⟨b,hbb⟩:=aoh s i;by_cases c5:aiz (byt s i)=true
  ·rw[if_pos c5];have m4:=ah5 s i 0 0 t (by omega) hi 5 (by decide) p2 true (i+1) _ (.inr ⟨rfl,.inr ⟨by rw[hbb];exact(akA b).2 (hbb▸c5),rfl,rfl,rfl⟩⟩);exact any_ok s i _ 0 0 0 0 _ _ 4 (by decide) four (.inl ⟨by decide,m4⟩) true rfl
  ·rw[if_neg c5];have m4:=ah5 s i 0 0 t (by omega) hi 5 (by decide) p2 false i t (.inr ⟨rfl,.inl ⟨by rw[hbb];exact(idx_neg _).2 (fun g=>c5 (hbb▸(akA b).1 g)),rfl,rfl,rfl⟩⟩);refine any_ok s i i 0 0 0 0 t t 5 (by decide) (fun j hj=>?_) (.inr ⟨rfl,rfl,rfl,rfl,rfl⟩) false rfl;rcases Nat.lt_or_ge j 4 with g|g
   ·exact four j g
   ·obtain rfl:j=4:=by omega
    exact m4
 ·rw[if_pos p1];have m4:=ah5 s i 0 0 t (by omega) hi k (by omega) p4 true (i+2) _ (.inl ⟨p2,p3,rfl,rfl,rfl⟩);rw[p5]at m4;exact any_ok s i _ 0 0 0 0 _ _ 4 (by decide) four (.inl ⟨by decide,m4⟩) true rfl
theorem aos{s:ByteArray}:∀(n p:Nat) (a:ByteArray),p<=s.size->(match txtQ s n p a with
 | .inl (j,v)=>p<j∧j<=s.size∧v.size<=a.size+(j-p)
 | .inr (_,w,e)=>0<=w∧w<=s.size∧e≠0)
 | 0,p,a,h=>⟨by omega,by omega,by decide⟩
 | n+1,p,a,h=>by
  unfold txtQ;by_cases c1:s.size<=p
  ·rw[if_pos c1];exact⟨by omega,by omega,by decide⟩
  rw[if_neg c1];by_cases c2:byt s p=34
  ·rw[if_pos c2];exact⟨by omega,by omega,by omega⟩
  rw[if_neg c2];by_cases c3:byt s p=92
  ·rw[if_pos c3];cases hesc:escF s p with
   | none=>
    have:=aq8 (Nat.lt_of_not_le c1) hesc;dsimp only;exact⟨by omega,by omega,by omega⟩
   | some q=>
    obtain⟨j,k,t⟩:=q;have h1:=aq7 (Nat.lt_of_not_le c1) hesc;have h2:=aos n j (a++t) h1.2.1;dsimp only;revert h2;split
    ·rw[ByteArray.size_append];intro h2;omega
    ·exact id
  rw[if_neg c3];by_cases c4:byt s p<32∨byt s p=127
  ·rw[if_pos c4];exact⟨by omega,by omega,by decide⟩
  rw[if_neg c4];by_cases c5:dcE s p=true
  ·rw[if_pos c5];exact⟨by omega,by omega,by decide⟩
  rw[if_neg c5];obtain⟨z1,z2⟩:=aqd s p (Nat.lt_of_not_le c1);have h2:=aos n (p+(Utf8.decode s p).2) (a++s.extract p (p+(Utf8.decode s p).2)) z2;revert h2;split
  ·rw[ByteArray.size_append,ByteArray.size_extract];intro h2;omega
  ·exact id
def apr{s:ByteArray}{i:Nat}(hi:i<s.size)(t:Tok):((anW s i t).2.2.2.1=0->(anW s i t).1=true->i<(anW s i t).2.1∧(anW s i t).2.1<=s.size)∧0<=(anW s i t).2.2.1∧(anW s i t).2.2.1<=s.size:=by
 unfold anW;by_cases c0:byt s i=120∧byt s (i+1)=34
 ·rw[if_pos c0];have hi2:i+2<=s.size:=by have:=anw (s:=s) (i:=i+1) (by rw[c0.2];decide);omega
  have hjl:=abb (s:=s) (p:=hxB) hi2;unfold bytR;generalize aag s hxB (i+2)=j at*;by_cases c1:s.size<=j
  ·rw[if_pos c1];exact⟨fun g=>absurd g (by show(29:Int)≠0;decide),by dsimp only;omega,by dsimp only;omega⟩
  rw[if_neg c1];by_cases c2:byt s j≠34∨(j-(i+2))%2≠0
  ·rw[if_pos c2];exact⟨fun g=>absurd g (by show(13:Int)≠0;decide),by dsimp only;omega,by dsimp only;omega⟩
  rw[if_neg c2];exact⟨fun _ _=>⟨by dsimp only;omega,by dsimp only;omega⟩,by dsimp only;split<;>omega,by dsimp only;split<;>omega⟩
 rw[if_neg c0];by_cases c1:letB (byt s i)=true
 ·rw[if_pos c1];have h1:i<aag s adM i∧aag s adM i<=s.size:=by
   rw[abw ⟨hi,by unfold adM;rw[c1];rfl⟩];have:=abb (s:=s) (p:=adM) (i:=i+1) (by omega);omega
  exact⟨fun _ _=>h1,by dsimp only;split<;>omega,by dsimp only;split<;>omega⟩
 rw[if_neg c1];by_cases c2:digB (byt s i)=true
 ·rw[if_pos c2];have h1:=apn hi c2;unfold nR;split
  ·exact⟨fun g=>absurd g (by show(3:Int)≠0;decide),by dsimp only;omega,by dsimp only;omega⟩
  ·exact⟨fun _ _=>⟨by dsimp only;omega,by dsimp only;omega⟩,by dsimp only;split<;>omega,by dsimp only;split<;>omega⟩
 rw[if_neg c2];by_cases c3:byt s i=34
 ·rw[if_pos c3];have h1:=aos (s:=s) (s.size+1) (i+1) ⟨#[]⟩ hi;unfold txtR;cases hq:txtQ s (s.size+1) (i+1) ⟨#[]⟩with
  | inl v=>
   obtain⟨j,v⟩:=v;rw[hq]at h1;dsimp only at h1 ⊢;exact⟨fun _ _=>⟨by omega,by omega⟩,by split<;>omega,by split<;>omega⟩
  | inr v=>
   obtain⟨j,w,e⟩:=v;rw[hq]at h1;dsimp only at h1 ⊢;exact⟨fun g=>absurd g h1.2.2,h1.1,h1.2.1⟩
 rw[if_neg c3];by_cases c4:amj s i=true
 ·rw[if_pos c4];have:byt s (i+1)≠0:=by
   intro q;unfold amj at c4;rw[q]at c4;simp at c4
  have:=anw this;exact⟨fun _ _=>⟨by dsimp only;omega,by dsimp only;omega⟩,by dsimp only;omega,by dsimp only;omega⟩
 rw[if_neg c4];by_cases c5:aiz (byt s i)=true
 ·rw[if_pos c5];exact⟨fun _ _=>⟨by dsimp only;omega,by dsimp only;omega⟩,by dsimp only;omega,by dsimp only;omega⟩
 rw[if_neg c5];exact⟨fun _ g=>absurd g (by show¬(false=true);decide),by dsimp only;omega,by dsimp only;omega⟩
def methR_no{s:ByteArray}{i:Nat}{t:Tok}(h:(anW s i t).1=false):(anW s i t).2=(i,0,0,t):=by
 unfold anW at*;have tf:∀x:Nat×Int×Int×Tok,¬((true,x).1=false):=fun x g=>Bool.noConfusion g;by_cases c0:byt s i=120∧byt s (i+1)=34
 ·rw[if_pos c0]at h;exact absurd h (tf _)
 rw[if_neg c0]at h ⊢;by_cases c1:letB (byt s i)=true
 ·rw[if_pos c1]at h;exact absurd h (tf _)
 rw[if_neg c1]at h ⊢;by_cases c2:digB (byt s i)=true
 ·rw[if_pos c2]at h;exact absurd h (tf _)
 rw[if_neg c2]at h ⊢;by_cases c3:byt s i=34
 ·rw[if_pos c3]at h;exact absurd h (tf _)
 rw[if_neg c3]at h ⊢;by_cases c4:amj s i=true
 ·rw[if_pos c4]at h;exact absurd h (tf _)
 rw[if_neg c4]at h ⊢;by_cases c5:aiz (byt s i)=true
 ·rw[if_pos c5]at h;exact absurd h (tf _)
 rw[if_neg c5]
def methR_w{s:ByteArray}{i:Nat}{t:Tok}(h:(anW s i t).2.2.2.1=0):(anW s i t).2.2.1=0:=by
 unfold anW at*;by_cases c0:byt s i=120∧byt s (i+1)=34
 ·rw[if_pos c0]at h ⊢;unfold bytR at*;by_cases c1:s.size<=aag s hxB (i+2)
  ·rw[if_pos c1]at h;exact absurd h (by show¬((29:Int)=0);decide)
  rw[if_neg c1]at h ⊢;by_cases c2:byt s (aag s hxB (i+2))≠34∨(aag s hxB (i+2)-(i+2))%2≠0
  ·rw[if_pos c2]at h;exact absurd h (by show¬((13:Int)=0);decide)
  rw[if_neg c2]at h ⊢;dsimp only at h ⊢;split at h
  ·exact absurd h (by decide)
  ·rename_i g;rw[if_neg g]
 rw[if_neg c0]at h ⊢;by_cases c1:letB (byt s i)=true
 ·rw[if_pos c1]at h ⊢;dsimp only at h ⊢;split at h
  ·exact absurd h (by decide)
  ·rename_i g;rw[if_neg g]
 rw[if_neg c1]at h ⊢;by_cases c2:digB (byt s i)=true
 ·rw[if_pos c2]at h ⊢;unfold nR at*;by_cases c3:1<numJ s i-i∧byt s i=48
  ·rw[if_pos c3]at h;exact absurd h (by show¬((3:Int)=0);decide)
  rw[if_neg c3]at h ⊢;dsimp only at h ⊢;rw[if_pos h]
 rw[if_neg c2]at h ⊢;by_cases c3:byt s i=34
 ·rw[if_pos c3]at h ⊢;have h1:=aos (s:=s) (s.size+1) (i+1) ⟨#[]⟩;unfold txtR at*;cases hq:txtQ s (s.size+1) (i+1) ⟨#[]⟩with
  | inl v=>
   obtain⟨j,v⟩:=v;rw[hq]at h;dsimp only at h ⊢;split at h
   ·exact absurd h (by decide)
   ·rename_i g;rw[if_neg g]
  | inr v=>
   obtain⟨j,w,e⟩:=v;rw[hq]at h h1;dsimp only at h h1 ⊢;have hi:=anw (s:=s) (i:=i) (by rw[c3];decide);exact absurd h (h1 hi).2.2
 rw[if_neg c3];by_cases c4:amj s i=true
 ·rw[if_pos c4]
 rw[if_neg c4];by_cases c5:aiz (byt s i)=true
 ·rw[if_pos c5]
 rw[if_neg c5]
def apA(s:ByteArray):Nat->List Tok->Nat->Nat->Int×Int->Int->List Tok×Int×Int×Int
 | 0,_,_,_,_,_=>([],0,0,0)
 | n+1,l,f,i,p,last=>
  let j:=abH s i
  let q:=posV s f j p
  if s.size<=j then(l++[.mk 0 q.1 q.2 ⟨#[]⟩ ⟨#[]⟩ 0 0 false],0,0,0)
  else if l.length=16384 then([],(plcV s j).1,(plcV s j).2,9)
  else
   let r:=anW s j (.mk 0 q.1 q.2 ⟨#[]⟩ ⟨#[]⟩ 0 0 (decide ((j:Int)=last)))
   if r.1=false then([],(plcV s j).1,(plcV s j).2,6)
   else if r.2.2.2.1≠0 then([],(plcV s r.2.2.1.toNat).1,(plcV s r.2.2.1.toNat).2,r.2.2.2.1)
   else apA s n (l++[r.2.2.2.2]) j r.2.1 q r.2.1
def ao0(s:ByteArray):List Tok×Int×Int×Int:=if 65536<s.size then([],1,1,5)else apA s (s.size+1) [] 0 0 (1,1) (-1)
def apk(s:ByteArray)(hb:s.size<=1073741824):
 Af Tryz.prog 51 [.str fun _=>s] [] (.tup [slcK fun _=>(ao0 s).1,.int .i64 fun _=>(ao0 s).2.1,.int .i64 fun _=>(ao0 s).2.2.1,.int .i64 fun _=>(ao0 s).2.2.2]) []:=by
 obtain⟨R,hR⟩:∃R,R=ao0 s:=⟨_,rfl⟩
 rw[<- hR];unfold ao0 at hR;by_cases hs:65536<s.size
 ·rw[if_pos hs]at hR;subst hR
  (apply Af.of tF mF [.tmp 2,.tmp 3,.tmp 4,.tmp 5] kp51 [] Tryz.func51 (fun _=>?_);(repeat' with_reducible first|exact nY|refine oC ?_ ?_|refine vQ ?_ ?_ ?_|refine cV (fun _=>?_) fun _=>?_|refine wQ ?_|fail))
  (all_goals(try exact eZ))
  all_goals(try(exact absurd ‹(s.size:Int)<=65536› (by omega)))
 rw[if_neg hs]at hR;have hs:s.size<=65536:=by omega
 (apply Af.of tF mF [.tmp 2,.tmp 3,.tmp 4,.tmp 5] kp51 [] Tryz.func51 (fun _=>?_);(repeat' with_reducible first|exact nY|refine oC ?_ ?_|refine vQ ?_ ?_ ?_|refine cV (fun _=>?_) fun _=>?_|refine wQ ?_|fail))
 all_goals(try(exact absurd ‹65536<(s.size:Int)› (by omega)))
 refine .loop (aoU s) (fun x=>apA s x.1 x.2.1 x.2.2.2.2.2 x.2.2.1 x.2.2.2.1 x.2.2.2.2.1=R∧(x.2.2.2.2.2<=x.2.2.1∧x.2.2.1<=s.size)∧(0<=x.2.2.2.1.1∧x.2.2.2.1.1<=1+(x.2.2.2.2.2:Int))∧(0<=x.2.2.2.1.2∧x.2.2.2.1.2<=1+(x.2.2.2.2.2:Int))∧x.2.1.length<=16384∧s.size-x.2.2.1<x.1)
  (fun x=>x.1) (s.size+1,[],0,(1,1),-1,0) ⟨hR.symm,⟨Nat.le_refl _,Nat.zero_le _⟩,⟨(by decide:(0:Int)<=1),(by decide:(1:Int)<=1+((0:Nat):Int))⟩,⟨(by decide:(0:Int)<=1),(by decide:(1:Int)<=1+((0:Nat):Int))⟩,(by decide:0<=16384),(by show s.size-0<s.size+1;omega)⟩ ?_ fun x E hx=>?_
 ·unfold aoU
  exact aZ
 obtain⟨n,l,i,p,last,f⟩:=x;obtain⟨g1,⟨gf,g2⟩,g3,g4,g5,g6⟩:=hx;dsimp only at g1 g2 g3 g4 g5 gf g6;obtain⟨n,rfl⟩:∃m,n=m+1:=⟨n-1,by omega⟩
 simp only[apA]at g1;have hbl:=anB s i 0 0 (by omega) g2;obtain⟨b1,b2⟩:=afe (s:=s) (s.size-i) i g2;have b1:i<=abH s i:=b1;have b2:abH s i<=s.size:=b2;obtain⟨j,hj⟩:∃j,j=abH s i:=⟨_,rfl⟩
 rw[<- hj]at g1 hbl b1 b2;have hX:(s.extract f j).size=j-f:=by rw[ByteArray.size_extract];omega
 have hXb:∀k,k<(s.extract f j).size->byt (s.extract f j) k=byt s (f+k):=fun k hk=>aok (by omega) b2;obtain⟨X,hX0⟩:∃X,X=s.extract f j:=⟨_,rfl⟩
 rw[<- hX0]at hX hXb;have hfl:∀(v c:Int),Af Tryz.prog 109 [.ptr 1000 0,.int .i64 fun _=>v,.int .i64 fun _=>c] [(1000,boxC s j 0 0)] (.tup []) [(1000,boxC s j v c)]:=fun v c=>by
  have:=anT s j 0 0 v c
  rwa [if_pos rfl,if_pos rfl]at this
 by_cases q:s.size<=j
 ·rw [if_pos q]at g1;subst g1;clear hR hfl;apply AWp.wk tF mF [(7,[(1,zT,[(1000,boxC s j 0 0)])])] kp51 ?_
  (repeat' with_reducible first|exact nY|refine oC ?_ ?_|refine vQ ?_ ?_ ?_|refine cV (fun _=>?_) fun _=>?_|refine wQ ?_|fail)
  all_goals(try exact zB)
  (all_goals try first|exact eZ|with_reducible (refine rQ ?_;repeat' first|apply And.intro|exact wZ)|(refine sQ ?_;repeat' first|with_reducible apply And.intro|exact cZ))
  ·show(s.extract f j).size<=_;rw[<- hX0,hX];omega
  refine .loop (fun k:Nat=>⟨124,[(41,.int .i64 fun _=>(k:Int)),(40,.int .i64 fun _=>(X.size:Int)),(39,.slc .any 1 (fun _=>X.size) fun y=>[.int .u8 fun _=>byt X (y ())]),(9,.int .i64 fun _=>last),(4,.int .i64 fun _=>(posV s f (f+k) p).2),(3,.int .i64 fun _=>(posV s f (f+k) p).1),(7,.bref 29 5),(6,.ptr 18 0),(2,.aref 119 1 fun _=>l.length),(0,.str fun _=>s)],
   [(18,boxC s j 0 0),(29,.box [.bptr 103 18,.bptr 104 18,.bptr 105 18,.bptr 106 18,.bptr 107 18]),(119,.arr false 52 8 1 (fun _=>l.length) (akE fun _=>l))]⟩)
   (fun k=>k<=X.size) (fun k=>X.size-k) 0 (Nat.zero_le _) ?_ fun k E hk=>?_
  ·(focus(refine aQ ?_;repeat' first|with_reducible apply And.intro|exact wZ|fail))
   ·rw[hX0];rfl
   ·rw[hX0];rfl
   ·intro k hk;rw[hX0];exact LeL.of_eq rfl
   ·exact(congrArg Prod.snd ado).symm
   ·exact(congrArg Prod.fst ado).symm
  have hv:=hXb k;have hsn:=ahl (s:=s) (i:=f) (j:=f+k) (p:=p) (Nat.le_add_right _ _);have hle:=aiI (s:=s) (i:=f) (j:=f+k) (p:=p) (b:=1+(f:Int)) g3.1 g4.1 g3.2 g4.2 (by omega) (Nat.le_add_right _ _);apply AWp.wk tF mF [] kp51 ?_
  (repeat' with_reducible first|exact nY|refine oC ?_ ?_|refine vQ ?_ ?_ ?_|refine cV (fun _=>?_) fun _=>?_|refine wQ ?_|fail)
  all_goals(try(exact absurd ‹j<s.size› (by omega)))
  (all_goals try first|exact eZ|with_reducible (refine rQ ?_;repeat' first|apply And.intro|exact wZ)|(refine sQ ?_;repeat' first|with_reducible apply And.intro|exact cZ))
  ·rename_i hk h10;refine dE (k+1) ⟨by omega,by omega⟩ ?_;rw[hv hk]at h10;rw[if_pos h10]at hsn
   (focus(refine aQ ?_;repeat' first|with_reducible apply And.intro|exact wZ|fail))
   ·exact w64n (by omega)
   ·exact(congrArg Prod.snd hsn).symm
   ·refine Eq.trans (w64 (by omega) (by omega)) (congrArg Prod.fst hsn).symm
  ·rename_i hk h10;refine dE (k+1) ⟨by omega,by omega⟩ ?_;rw[hv hk]at h10;rw[if_neg h10]at hsn
   (focus(refine aQ ?_;repeat' first|with_reducible apply And.intro|exact wZ|fail))
   ·exact w64n (by omega)
   ·refine Eq.trans (w64 (by omega) (by omega)) (congrArg Prod.snd hsn).symm
   ·exact(congrArg Prod.fst hsn).symm
  ·simp
  ·intro m hm;have hkj:f+k=j:=by omega
   rw[hkj];exact afA l (.mk 0 (posV s f j p).1 (posV s f j p).2 ⟨#[]⟩ ⟨#[]⟩ 0 0 false) m hm
 rw[if_neg q]at g1;have hpl:=apl s j b2 (by omega);by_cases q2:l.length=16384
 ·rw [if_pos q2]at g1;subst g1;have h20:=hfl j 9;generalize plcV s j=pl at*;clear hR hfl;apply AWp.wk tF mF [(7,[(1,zT,[(1000,boxC s j 0 0)])]),(20,[(5,zT,[(1000,boxC s j j 9)])]),(22,[(2,zO true,[(1000,.box ac6),(1001001000,boxK default),(1001000000,boxC s j 0 0)])]),(25,[(5,.tup [.int .i64 fun _=>pl.1,.int .i64 fun _=>pl.2],[])])] kp51 ?_
  (repeat' with_reducible first|exact nY|refine oC ?_ ?_|refine vQ ?_ ?_ ?_|refine cV (fun _=>?_) fun _=>?_|refine wQ ?_|fail)
  all_goals(try exact zB)
  (all_goals try first|exact eZ|with_reducible (refine rQ ?_;repeat' first|apply And.intro|exact wZ)|(refine sQ ?_;repeat' first|with_reducible apply And.intro|exact cZ))
  ·show(s.extract f j).size<=_;rw[<- hX0,hX];omega
  refine .loop (fun k:Nat=>⟨124,[(41,.int .i64 fun _=>(k:Int)),(40,.int .i64 fun _=>(X.size:Int)),(39,.slc .any 1 (fun _=>X.size) fun y=>[.int .u8 fun _=>byt X (y ())]),(9,.int .i64 fun _=>last),(4,.int .i64 fun _=>(posV s f (f+k) p).2),(3,.int .i64 fun _=>(posV s f (f+k) p).1),(7,.bref 29 5),(6,.ptr 18 0),(2,.aref 119 1 fun _=>l.length),(0,.str fun _=>s)],
   [(18,boxC s j 0 0),(29,.box [.bptr 103 18,.bptr 104 18,.bptr 105 18,.bptr 106 18,.bptr 107 18]),(119,.arr false 52 8 1 (fun _=>l.length) (akE fun _=>l))]⟩)
   (fun k=>k<=X.size) (fun k=>X.size-k) 0 (Nat.zero_le _) ?_ fun k E hk=>?_
  ·(focus(refine aQ ?_;repeat' first|with_reducible apply And.intro|exact wZ|fail))
   ·rw[hX0];rfl
   ·rw[hX0];rfl
   ·intro k hk;rw[hX0];exact LeL.of_eq rfl
   ·exact(congrArg Prod.snd ado).symm
   ·exact(congrArg Prod.fst ado).symm
  have hv:=hXb k;have hsn:=ahl (s:=s) (i:=f) (j:=f+k) (p:=p) (Nat.le_add_right _ _);have hle:=aiI (s:=s) (i:=f) (j:=f+k) (p:=p) (b:=1+(f:Int)) g3.1 g4.1 g3.2 g4.2 (by omega) (Nat.le_add_right _ _);apply AWp.wk tF mF [] kp51 ?_
  (repeat' with_reducible first|exact nY|refine oC ?_ ?_|refine vQ ?_ ?_ ?_|refine cV (fun _=>?_) fun _=>?_|refine wQ ?_|fail)
  all_goals(try exact zB)
  all_goals(try(exact absurd ‹s.size<=j› q))
  all_goals(try(exact absurd ‹¬(l.length:Int)=16384› (fun g=>g (by omega))))
  all_goals(try(exact absurd ‹(9:Int)=0› (by decide)))
  (all_goals(try exact eZ))
  ·rename_i hk h10;refine dE (k+1) ⟨by omega,by omega⟩ ?_;rw[hv hk]at h10;rw[if_pos h10]at hsn
   (focus(refine aQ ?_;repeat' first|with_reducible apply And.intro|exact wZ|fail))
   ·exact w64n (by omega)
   ·exact(congrArg Prod.snd hsn).symm
   ·refine Eq.trans (w64 (by omega) (by omega)) (congrArg Prod.fst hsn).symm
  ·rename_i hk h10;refine dE (k+1) ⟨by omega,by omega⟩ ?_;rw[hv hk]at h10;rw[if_neg h10]at hsn
   (focus(refine aQ ?_;repeat' first|with_reducible apply And.intro|exact wZ|fail))
   ·exact w64n (by omega)
   ·refine Eq.trans (w64 (by omega) (by omega)) (congrArg Prod.snd hsn).symm
   ·exact(congrArg Prod.fst hsn).symm
  all_goals trace_state
 rw[if_neg q2]at g1;have hw:=way_all s hs (by omega:j<s.size) (.mk 0 (posV s f j p).1 (posV s f j p).2 ⟨#[]⟩ ⟨#[]⟩ 0 0 (decide ((j:Int)=last)));have htl:=apr (by omega:j<s.size) (.mk 0 (posV s f j p).1 (posV s f j p).2 ⟨#[]⟩ ⟨#[]⟩ 0 0 (decide ((j:Int)=last)));have hmw:=methR_w (s:=s) (i:=j) (t:=.mk 0 (posV s f j p).1 (posV s f j p).2 ⟨#[]⟩ ⟨#[]⟩ 0 0 (decide ((j:Int)=last)));have hno:=methR_no (s:=s) (i:=j) (t:=.mk 0 (posV s f j p).1 (posV s f j p).2 ⟨#[]⟩ ⟨#[]⟩ 0 0 (decide ((j:Int)=last)));obtain⟨T0,hT0⟩:∃T,T=anW s j (.mk 0 (posV s f j p).1 (posV s f j p).2 ⟨#[]⟩ ⟨#[]⟩ 0 0 (decide ((j:Int)=last))):=⟨_,rfl⟩
 rw[<- hT0]at g1 hw htl hno hmw;clear hT0;obtain⟨tb,j',w',e',T⟩:=T0;dsimp only at g1 hw htl hno hmw;by_cases q3:tb=false
 ·rw [if_pos q3]at g1;subst g1;subst q3;obtain⟨rfl,rfl,rfl,hT⟩:j'=j∧w'=0∧e'=0∧T=_:=by simpa using hno rfl
  clear hno;have hf6:=hfl j' 6;generalize plcV s j'=pl at*;clear hR hfl htl hT;apply AWp.wk tF mF [(7,[(1,zT,[(1000,boxC s j' 0 0)])]),(22,[(2,zO false,[(1000,.box ac6),(1001001000,boxK T),(1001000000,boxC s j' 0 0)])]),(23,[(5,zT,[(1000,boxC s j' (j':Int) 6)])]),(25,[(5,.tup [.int .i64 fun _=>pl.1,.int .i64 fun _=>pl.2],[])])] kp51 ?_
  (repeat' with_reducible first|exact nY|refine oC ?_ ?_|refine vQ ?_ ?_ ?_|refine cV (fun _=>?_) fun _=>?_|refine wQ ?_|fail)
  all_goals(try exact zB)
  (all_goals try first|exact eZ|with_reducible (refine rQ ?_;repeat' first|apply And.intro|exact wZ)|(refine sQ ?_;repeat' first|with_reducible apply And.intro|exact cZ))
  ·show(s.extract f j').size<=_;rw[<- hX0,hX];omega
  refine .loop (fun k:Nat=>⟨124,[(41,.int .i64 fun _=>(k:Int)),(40,.int .i64 fun _=>(X.size:Int)),(39,.slc .any 1 (fun _=>X.size) fun y=>[.int .u8 fun _=>byt X (y ())]),(9,.int .i64 fun _=>last),(4,.int .i64 fun _=>(posV s f (f+k) p).2),(3,.int .i64 fun _=>(posV s f (f+k) p).1),(7,.bref 29 5),(6,.ptr 18 0),(2,.aref 119 1 fun _=>l.length),(0,.str fun _=>s)],
   [(18,boxC s j' 0 0),(29,.box [.bptr 103 18,.bptr 104 18,.bptr 105 18,.bptr 106 18,.bptr 107 18]),(119,.arr false 52 8 1 (fun _=>l.length) (akE fun _=>l))]⟩)
   (fun k=>k<=X.size) (fun k=>X.size-k) 0 (Nat.zero_le _) ?_ fun k E hk=>?_
  ·(focus(refine aQ ?_;repeat' first|with_reducible apply And.intro|exact wZ|fail))
   ·rw[hX0];rfl
   ·rw[hX0];rfl
   ·intro k hk;rw[hX0];exact LeL.of_eq rfl
   ·exact(congrArg Prod.snd ado).symm
   ·exact(congrArg Prod.fst ado).symm
  have hv:=hXb k;have hsn:=ahl (s:=s) (i:=f) (j:=f+k) (p:=p) (Nat.le_add_right _ _);have hle:=aiI (s:=s) (i:=f) (j:=f+k) (p:=p) (b:=1+(f:Int)) g3.1 g4.1 g3.2 g4.2 (by omega) (Nat.le_add_right _ _);apply AWp.wk tF mF [] kp51 ?_
  (repeat' with_reducible first|exact nY|refine oC ?_ ?_|refine vQ ?_ ?_ ?_|refine cV (fun _=>?_) fun _=>?_|refine wQ ?_|fail)
  any_goals((with_reducible refine nO ?_);rw[show f+k=j' by omega];exact hw)
  all_goals(try exact zB)
  all_goals(try(exact absurd ‹s.size<=j'› q))
  all_goals(try(exact absurd ‹(l.length:Int)=16384› (by omega)))
  all_goals(try(exact absurd ‹(6:Int)=0› (by decide)))
  (all_goals(try exact eZ))
  ·rename_i hk h10;refine dE (k+1) ⟨by omega,by omega⟩ ?_;rw[hv hk]at h10;rw[if_pos h10]at hsn
   (focus(refine aQ ?_;repeat' first|with_reducible apply And.intro|exact wZ|fail))
   ·exact w64n (by omega)
   ·exact(congrArg Prod.snd hsn).symm
   ·refine Eq.trans (w64 (by omega) (by omega)) (congrArg Prod.fst hsn).symm
  ·rename_i hk h10;refine dE (k+1) ⟨by omega,by omega⟩ ?_;rw[hv hk]at h10;rw[if_neg h10]at hsn
   (focus(refine aQ ?_;repeat' first|with_reducible apply And.intro|exact wZ|fail))
   ·exact w64n (by omega)
   ·refine Eq.trans (w64 (by omega) (by omega)) (congrArg Prod.snd hsn).symm
   ·exact(congrArg Prod.fst hsn).symm
 rw[if_neg q3]at g1;obtain rfl:tb=true:=by simpa using q3
 clear q3 hpl;by_cases q4:e'≠0
 ·rw [if_pos q4]at g1;subst g1;obtain⟨wn,rfl⟩:=Int.eq_ofNat_of_zero_le htl.2.1;have hpl:=apl s wn (by omega) (by omega);rw[show((wn:Nat):Int).toNat=wn from rfl];generalize plcV s wn=pl at*;clear hR hfl;apply AWp.wk tF mF [(7,[(1,zT,[(1000,boxC s j 0 0)])]),(22,[(2,zO true,[(1000,.box ac6),(1001001000,boxK T),(1001000000,boxC s j' (wn:Int) e')])]),(25,[(5,.tup [.int .i64 fun _=>pl.1,.int .i64 fun _=>pl.2],[])])] kp51 ?_
  (repeat' with_reducible first|exact nY|refine oC ?_ ?_|refine vQ ?_ ?_ ?_|refine cV (fun _=>?_) fun _=>?_|refine wQ ?_|fail)
  all_goals(try exact zB)
  (all_goals try first|exact eZ|with_reducible (refine rQ ?_;repeat' first|apply And.intro|exact wZ)|(refine sQ ?_;repeat' first|with_reducible apply And.intro|exact cZ))
  ·show(s.extract f j).size<=_;rw[<- hX0,hX];omega
  refine .loop (fun k:Nat=>⟨124,[(41,.int .i64 fun _=>(k:Int)),(40,.int .i64 fun _=>(X.size:Int)),(39,.slc .any 1 (fun _=>X.size) fun y=>[.int .u8 fun _=>byt X (y ())]),(9,.int .i64 fun _=>last),(4,.int .i64 fun _=>(posV s f (f+k) p).2),(3,.int .i64 fun _=>(posV s f (f+k) p).1),(7,.bref 29 5),(6,.ptr 18 0),(2,.aref 119 1 fun _=>l.length),(0,.str fun _=>s)],
   [(18,boxC s j 0 0),(29,.box [.bptr 103 18,.bptr 104 18,.bptr 105 18,.bptr 106 18,.bptr 107 18]),(119,.arr false 52 8 1 (fun _=>l.length) (akE fun _=>l))]⟩)
   (fun k=>k<=X.size) (fun k=>X.size-k) 0 (Nat.zero_le _) ?_ fun k E hk=>?_
  ·(focus(refine aQ ?_;repeat' first|with_reducible apply And.intro|exact wZ|fail))
   ·rw[hX0];rfl
   ·rw[hX0];rfl
   ·intro k hk;rw[hX0];exact LeL.of_eq rfl
   ·exact(congrArg Prod.snd ado).symm
   ·exact(congrArg Prod.fst ado).symm
  have hv:=hXb k;have hsn:=ahl (s:=s) (i:=f) (j:=f+k) (p:=p) (Nat.le_add_right _ _);have hle:=aiI (s:=s) (i:=f) (j:=f+k) (p:=p) (b:=1+(f:Int)) g3.1 g4.1 g3.2 g4.2 (by omega) (Nat.le_add_right _ _);apply AWp.wk tF mF [] kp51 ?_
  (repeat' with_reducible first|exact nY|refine oC ?_ ?_|refine vQ ?_ ?_ ?_|refine cV (fun _=>?_) fun _=>?_|refine wQ ?_|fail)
  any_goals((with_reducible refine nO ?_);rw[show f+k=j by omega];exact hw)
  all_goals(try exact zB)
  all_goals(try(exact absurd ‹s.size<=j› q))
  all_goals(try(exact absurd ‹(l.length:Int)=16384› (by omega)))
  all_goals(try(exact absurd ‹e'=0› q4))
  (all_goals(try exact eZ))
  ·rename_i hk h10;refine dE (k+1) ⟨by omega,by omega⟩ ?_;rw[hv hk]at h10;rw[if_pos h10]at hsn
   (focus(refine aQ ?_;repeat' first|with_reducible apply And.intro|exact wZ|fail))
   ·exact w64n (by omega)
   ·exact(congrArg Prod.snd hsn).symm
   ·refine Eq.trans (w64 (by omega) (by omega)) (congrArg Prod.fst hsn).symm
  ·rename_i hk h10;refine dE (k+1) ⟨by omega,by omega⟩ ?_;rw[hv hk]at h10;rw[if_neg h10]at hsn
   (focus(refine aQ ?_;repeat' first|with_reducible apply And.intro|exact wZ|fail))
   ·exact w64n (by omega)
   ·refine Eq.trans (w64 (by omega) (by omega)) (congrArg Prod.snd hsn).symm
   ·exact(congrArg Prod.fst hsn).symm
  all_goals trace_state
 rw[if_neg q4]at g1;obtain rfl:e'=0:=Decidable.not_not.1 q4;clear q4;have htl:=htl.1 rfl rfl;obtain rfl:w'=0:=hmw rfl;clear hR hfl hno;apply AWp.wk tF mF [(7,[(1,zT,[(1000,boxC s j 0 0)])]),(22,[(2,zO true,[(1000,.box ac6),(1001001000,boxK T),(1001000000,boxC s j' 0 0)])])] kp51 ?_
 (repeat' with_reducible first|exact nY|refine oC ?_ ?_|refine vQ ?_ ?_ ?_|refine cV (fun _=>?_) fun _=>?_|refine wQ ?_|fail)
 all_goals(try exact zB)
 (all_goals try first|exact eZ|with_reducible (refine rQ ?_;repeat' first|apply And.intro|exact wZ)|(refine sQ ?_;repeat' first|with_reducible apply And.intro|exact cZ))
 ·show(s.extract f j).size<=_;rw[<- hX0,hX];omega
 refine .loop (fun k:Nat=>⟨124,[(41,.int .i64 fun _=>(k:Int)),(40,.int .i64 fun _=>(X.size:Int)),(39,.slc .any 1 (fun _=>X.size) fun y=>[.int .u8 fun _=>byt X (y ())]),(9,.int .i64 fun _=>last),(4,.int .i64 fun _=>(posV s f (f+k) p).2),(3,.int .i64 fun _=>(posV s f (f+k) p).1),(7,.bref 29 5),(6,.ptr 18 0),(2,.aref 119 1 fun _=>l.length),(0,.str fun _=>s)],
  [(18,boxC s j 0 0),(29,.box [.bptr 103 18,.bptr 104 18,.bptr 105 18,.bptr 106 18,.bptr 107 18]),(119,.arr false 52 8 1 (fun _=>l.length) (akE fun _=>l))]⟩)
  (fun k=>k<=X.size) (fun k=>X.size-k) 0 (Nat.zero_le _) ?_ fun k E hk=>?_
 ·(focus(refine aQ ?_;repeat' first|with_reducible apply And.intro|exact wZ|fail))
  ·rw[hX0];rfl
  ·rw[hX0];rfl
  ·intro k hk;rw[hX0];exact LeL.of_eq rfl
  ·exact(congrArg Prod.snd ado).symm
  ·exact(congrArg Prod.fst ado).symm
 have hv:=hXb k;have hsn:=ahl (s:=s) (i:=f) (j:=f+k) (p:=p) (Nat.le_add_right _ _);have hle:=aiI (s:=s) (i:=f) (j:=f+k) (p:=p) (b:=1+(f:Int)) g3.1 g4.1 g3.2 g4.2 (by omega) (Nat.le_add_right _ _);apply AWp.wk tF mF [] kp51 ?_
 (repeat' with_reducible first|exact nY|refine oC ?_ ?_|refine vQ ?_ ?_ ?_|refine cV (fun _=>?_) fun _=>?_|refine wQ ?_|fail)
 any_goals((with_reducible refine nO ?_);rw[show f+k=j by omega];exact hw)
 all_goals(try(exact absurd ‹s.size<=j› q))
 all_goals(try(exact absurd ‹(l.length:Int)=16384› (by omega)))
 (all_goals(try exact eZ))
 ·rename_i hk h10;refine dE (k+1) ⟨by omega,by omega⟩ ?_;rw[hv hk]at h10;rw[if_pos h10]at hsn
  (focus(refine aQ ?_;repeat' first|with_reducible apply And.intro|exact wZ|fail))
  ·exact w64n (by omega)
  ·exact(congrArg Prod.snd hsn).symm
  ·refine Eq.trans (w64 (by omega) (by omega)) (congrArg Prod.fst hsn).symm
 ·rename_i hk h10;refine dE (k+1) ⟨by omega,by omega⟩ ?_;rw[hv hk]at h10;rw[if_neg h10]at hsn
  (focus(refine aQ ?_;repeat' first|with_reducible apply And.intro|exact wZ|fail))
  ·exact w64n (by omega)
  ·refine Eq.trans (w64 (by omega) (by omega)) (congrArg Prod.snd hsn).symm
  ·exact(congrArg Prod.fst hsn).symm
 ·have hp1:=aiI (s:=s) (i:=f) (j:=j) (p:=p) (b:=1+(f:Int)) g3.1 g4.1 g3.2 g4.2 (by omega) (by omega);have hp3:posV s f (f+k) p=posV s f j p:=by rw[show f+k=j by omega]
  refine dE (ι:=ScI) (μ:=fun x=>x.1) (i:=(n+1,l,i,p,last,f)) (I:=aoU s) (n,l++[T],j',posV s f j p,(j':Int),j) ?_ ?_
  ·refine⟨⟨g1,⟨?_,?_⟩,⟨?_,?_⟩,⟨?_,?_⟩,?_,?_⟩,?_⟩
   all_goals dsimp only
   all_goals(try omega)
   rw[List.length_append];show l.length+1<=_;omega
  unfold aoU
  (focus(refine aQ ?_;repeat' first|with_reducible apply And.intro|exact wZ|fail))
  ·rw[hp3]
  ·rw[hp3]
  ·rw[List.length_append];rfl
  ·rw[List.length_append];rfl
  ·rw[List.length_append];rfl
  ·exact fun m hm=>afA l T m hm
end Go.Ai
