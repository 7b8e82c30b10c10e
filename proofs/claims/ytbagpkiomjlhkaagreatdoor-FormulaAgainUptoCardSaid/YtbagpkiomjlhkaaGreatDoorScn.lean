/- Chapter 15: the token at a place, at every text. -/
import Derived.Test.YtbagpkiomjlhkaaGreatDoorTxt
import Derived.Test.YtbagpkiomjlhkaaGreatDoorDec
set_option linter.all false
namespace Go.Ai
open Go Go.Proofs Tryz
set_option maxRecDepth 100000
set_option maxHeartbeats 4000000
def cS(s:ByteArray)(i:Nat)(t:Tok):Bool×Nat×Int×Int×Tok:=
 if ad s i=120∧ad s (i+1)=34 then(true,mz s i 0 t)
 else if bJ (ad s i)=true then(true,bn s cx i,if 64<bn s cx i-i then(i:Int)else 0,if 64<bn s cx i-i then 5 else 0,t.set 1 (s.extract i (bn s cx i)))
 else if bD (ad s i)=true then(true,nR dV s i 0 t)
 else if ad s i=34 then(true,mB s i 0 t)
 else if gM s i=true then(true,i+2,0,0,t.set 5 (s.extract i (i+2)))
 else if iY (ad s i)=true then(true,i+1,0,0,t.set 5 (s.extract i (i+1)))
 else(false,i,0,0,t)
def XW(s:ByteArray)(hs:s.size<=65536){i:Nat}(hi:i<s.size)(t:Tok):
 Af prog 110 [.bG 1000 5,.func 111 [.ptr 1001001000 0]] [(1000,.box fU),(1001001000,bE t),(1001000000,ah s i 0 0)] (.bool fun _=>(cS s i t).1)
  [(1000,.box fU),(1001001000,bE (cS s i t).2.2.2.2),(1001000000,ah s (cS s i t).2.1 (cS s i t).2.2.1 (cS s i t).2.2.2.1)]:=by
 unfold cS;by_cases c0:ad s i=120∧ad s (i+1)=34
 ·rw[ae c0];exact any_ok s i _ 0 0 _ _ _ _ 0 zd (fun j hj=>zo) (.inl ⟨zd,XX s i 0 t zo hi c0⟩) true rfl
 rw[aa c0];have m0:iy 103 s i 0 0 t false i 0 0 t:=Tc s i 0 0 t zo c0;by_cases c1:bJ (ad s i)=true
 ·rw[ae c1];have m1:=Ta s i 0 0 t zo zo c1 c0 _ rfl;simp only[ay]at m1;refine any_ok s i _ 0 0 _ _ _ _ 1 zd (fun j hj=>?_) (.inl ⟨zd,m1⟩) true rfl;obtain rfl:j=0:=by omega
  exact m0
 rw[aa c1];have c1:bJ (ad s i)=false:=by simpa using c1
 have m1:iy 104 s i 0 0 t false i 0 0 t:=S9 s i 0 0 t zo c1;by_cases c2:bD (ad s i)=true
 ·rw[ae c2];have m2:=Ua dV s i 0 t zo hi c2 (Ue _ (by rw[dh];omega));refine any_ok s i _ 0 0 _ _ _ _ 2 zd (fun j hj=>?_) (.inl ⟨zd,m2⟩) true rfl;rcases j with _|_|j
  ·exact m0
  ·exact m1
  ·omega
 rw[aa c2];have m2:iy 105 s i 0 0 t false i 0 0 t:=Tf s i 0 0 t zo (by simpa using c2);by_cases c3:ad s i=34
 ·rw[ae c3];have m3:=XY s i 0 t zo hi c3;refine any_ok s i _ 0 0 _ _ _ _ 3 zd (fun j hj=>?_) (.inl ⟨zd,m3⟩) true rfl;rcases j with _|_|_|j
  ·exact m0
  ·exact m1
  ·exact m2
  ·omega
 rw[aa c3];have m3:iy 106 s i 0 0 t false i 0 0 t:=Tb s i 0 0 t zo c3;have four:∀j,j<4->iy (103+j) s i 0 0 t false i 0 0 t:=fun j hj=>by
  rcases j with _|_|_|_|j
  ·exact m0
  ·exact m1
  ·exact m2
  ·exact m3
  ·exact absurd hj zsi
 rcases Tl hi with⟨p1,p2⟩|⟨p1,k,p2,p3,p4,p5⟩
 ·rw [aa (by rw[p1];simp)];obtain⟨b,hbb⟩:=pm s i;by_cases c5:iY (ad s i)=true
  ·rw[ae c5];have m4:=DY s i 0 0 t zo hi 5 zd p2 true (i+1) _ (.inr ⟨rfl,.inr ⟨by rw[hbb];exact(JO b).2 (hbb▸c5),rfl,rfl,rfl⟩⟩);exact any_ok s i _ 0 0 0 0 _ _ 4 zd four (.inl ⟨zd,m4⟩) true rfl
  ·rw[aa c5];have m4:=DY s i 0 0 t zo hi 5 zd p2 false i t (.inr ⟨rfl,.inl ⟨by rw[hbb];exact(Tj _).2 (fun g=>c5 (hbb▸(JO b).1 g)),rfl,rfl,rfl⟩⟩);refine any_ok s i i 0 0 0 0 t t 5 zd (fun j hj=>?_) (.inr ⟨rfl,rfl,rfl,rfl,rfl⟩) false rfl;rcases iG j 4 with g|g
   ·exact four j g
   ·obtain rfl:j=4:=by omega
    exact m4
 ·rw[ae p1];have m4:=DY s i 0 0 t zo hi k zo p4 true (i+2) _ (.inl ⟨p2,p3,rfl,rfl,rfl⟩);rw[p5]at m4;exact any_ok s i _ 0 0 0 0 _ _ 4 zd four (.inl ⟨zd,m4⟩) true rfl
theorem xc{s:ByteArray}:∀(n p:Nat) (a:ByteArray),p<=s.size->(match eG s n p a with
 | .inl (j,v)=>p<j∧j<=s.size∧v.size<=a.size+(j-p)
 | .inr (_,w,e)=>0<=w∧w<=s.size∧e≠0)
 | 0,p,a,h=>⟨zo,zo,zd⟩
 | n+1,p,a,h=>by
  unfold eG;by_cases c1:s.size<=p
  ·rw[ae c1];exact⟨zo,zo,zd⟩
  rw[aa c1];by_cases c2:ad s p=34
  ·rw[ae c2];exact⟨zo,zo,zo⟩
  rw[aa c2];by_cases c3:ad s p=92
  ·rw[ae c3];cases mL:iT s p with
   | none=>
    have:=IR (mS c1) mL;dsimp only;exact⟨zo,zo,zo⟩
   | some q=>
    obtain⟨j,k,t⟩:=q;have h1:=IQ (mS c1) mL;have h2:=xc n j (a++t) h1.2.1;dsimp only;revert h2;split
    ·rw[aj];intro h2;omega
    ·exact id
  rw[aa c3];by_cases c4:ad s p<32∨ad s p=127
  ·rw[ae c4];exact⟨zo,zo,zd⟩
  rw[aa c4];by_cases c5:oG s p=true
  ·rw[ae c5];exact⟨zo,zo,zd⟩
  rw[aa c5];obtain⟨z1,z2⟩:=Md s p (mS c1);have h2:=xc n (p+(Utf8.decode s p).2) (a++s.extract p (p+(Utf8.decode s p).2)) z2;revert h2;split
  ·rw[aj,dh];intro h2;omega
  ·exact id
def J9{s:ByteArray}{i:Nat}(hi:i<s.size)(t:Tok):((cS s i t).2.2.2.1=0->(cS s i t).1=true->i<(cS s i t).2.1∧(cS s i t).2.1<=s.size)∧0<=(cS s i t).2.2.1∧(cS s i t).2.2.1<=s.size:=by
 unfold cS;by_cases c0:ad s i=120∧ad s (i+1)=34
 ·rw[ae c0];have hi2:i+2<=s.size:=by have:=iu (s:=s) (i:=i+1) (by rw[c0.2];decide);omega
  have hjl:=jv (s:=s) (p:=eF) hi2;unfold mz;generalize bn s eF (i+2)=j at*;by_cases c1:s.size<=j
  ·rw[ae c1];exact⟨fun g=>absurd g (by show(29:Int)≠0;decide),by dsimp only;omega,by dsimp only;omega⟩
  rw[aa c1];by_cases c2:ad s j≠34∨(j-(i+2))%2≠0
  ·rw[ae c2];exact⟨fun g=>absurd g (by show(13:Int)≠0;decide),by dsimp only;omega,by dsimp only;omega⟩
  rw[aa c2];exact⟨fun _ _=>⟨by dsimp only;omega,by dsimp only;omega⟩,by dsimp only;split<;>omega,by dsimp only;split<;>omega⟩
 rw[aa c0];by_cases c1:bJ (ad s i)=true
 ·rw[ae c1];have h1:i<bn s cx i∧bn s cx i<=s.size:=by
   rw[qf ⟨hi,by unfold cx;rw[c1];rfl⟩];have:=jv (s:=s) (p:=cx) (i:=i+1) zo;omega
  exact⟨fun _ _=>h1,by dsimp only;split<;>omega,by dsimp only;split<;>omega⟩
 rw[aa c1];by_cases c2:bD (ad s i)=true
 ·rw[ae c2];have h1:=Ae hi c2;unfold nR;split
  ·exact⟨fun g=>absurd g (by show(3:Int)≠0;decide),by dsimp only;omega,by dsimp only;omega⟩
  ·exact⟨fun _ _=>⟨by dsimp only;omega,by dsimp only;omega⟩,by dsimp only;split<;>omega,by dsimp only;split<;>omega⟩
 rw[aa c2];by_cases c3:ad s i=34
 ·rw[ae c3];have h1:=xc (s:=s) (s.size+1) (i+1) ⟨#[]⟩ hi;unfold mB;cases hq:eG s (s.size+1) (i+1) ⟨#[]⟩with
  | inl v=>
   obtain⟨j,v⟩:=v;rw[hq]at h1;dsimp only at h1 ⊢;exact⟨fun _ _=>⟨zo,zo⟩,by split<;>omega,by split<;>omega⟩
  | inr v=>
   obtain⟨j,w,e⟩:=v;rw[hq]at h1;dsimp only at h1 ⊢;exact⟨fun g=>absurd g h1.2.2,h1.1,h1.2.1⟩
 rw[aa c3];by_cases c4:gM s i=true
 ·rw[ae c4];have:ad s (i+1)≠0:=by
   intro q;unfold gM at c4;rw[q]at c4;simp at c4
  have:=iu this;exact⟨fun _ _=>⟨by dsimp only;omega,by dsimp only;omega⟩,by dsimp only;omega,by dsimp only;omega⟩
 rw[aa c4];by_cases c5:iY (ad s i)=true
 ·rw[ae c5];exact⟨fun _ _=>⟨by dsimp only;omega,by dsimp only;omega⟩,by dsimp only;omega,by dsimp only;omega⟩
 rw[aa c5];exact⟨fun _ g=>absurd g (by show¬(false=true);decide),by dsimp only;omega,by dsimp only;omega⟩
def XZ{s:ByteArray}{i:Nat}{t:Tok}(h:(cS s i t).1=false):(cS s i t).2=(i,0,0,t):=by
 unfold cS at*;have tf:∀x:Nat×Int×Int×Tok,¬((true,x).1=false):=fun x g=>Bool.noConfusion g;by_cases c0:ad s i=120∧ad s (i+1)=34
 ·rw[ae c0]at h;exact absurd h (tf _)
 rw[aa c0]at h ⊢;by_cases c1:bJ (ad s i)=true
 ·rw[ae c1]at h;exact absurd h (tf _)
 rw[aa c1]at h ⊢;by_cases c2:bD (ad s i)=true
 ·rw[ae c2]at h;exact absurd h (tf _)
 rw[aa c2]at h ⊢;by_cases c3:ad s i=34
 ·rw[ae c3]at h;exact absurd h (tf _)
 rw[aa c3]at h ⊢;by_cases c4:gM s i=true
 ·rw[ae c4]at h;exact absurd h (tf _)
 rw[aa c4]at h ⊢;by_cases c5:iY (ad s i)=true
 ·rw[ae c5]at h;exact absurd h (tf _)
 rw[aa c5]
def X0{s:ByteArray}{i:Nat}{t:Tok}(h:(cS s i t).2.2.2.1=0):(cS s i t).2.2.1=0:=by
 unfold cS at*;by_cases c0:ad s i=120∧ad s (i+1)=34
 ·rw[ae c0]at h ⊢;unfold mz at*;by_cases c1:s.size<=bn s eF (i+2)
  ·rw[ae c1]at h;exact absurd h (by show¬((29:Int)=0);decide)
  rw[aa c1]at h ⊢;by_cases c2:ad s (bn s eF (i+2))≠34∨(bn s eF (i+2)-(i+2))%2≠0
  ·rw[ae c2]at h;exact absurd h (by show¬((13:Int)=0);decide)
  rw[aa c2]at h ⊢;dsimp only at h ⊢;split at h
  ·exact absurd h zd
  ·rename_i g;rw[aa g]
 rw[aa c0]at h ⊢;by_cases c1:bJ (ad s i)=true
 ·rw[ae c1]at h ⊢;dsimp only at h ⊢;split at h
  ·exact absurd h zd
  ·rename_i g;rw[aa g]
 rw[aa c1]at h ⊢;by_cases c2:bD (ad s i)=true
 ·rw[ae c2]at h ⊢;unfold nR at*;by_cases c3:1<aY s i-i∧ad s i=48
  ·rw[ae c3]at h;exact absurd h (by show¬((3:Int)=0);decide)
  rw[aa c3]at h ⊢;dsimp only at h ⊢;rw[ae h]
 rw[aa c2]at h ⊢;by_cases c3:ad s i=34
 ·rw[ae c3]at h ⊢;have h1:=xc (s:=s) (s.size+1) (i+1) ⟨#[]⟩;unfold mB at*;cases hq:eG s (s.size+1) (i+1) ⟨#[]⟩with
  | inl v=>
   obtain⟨j,v⟩:=v;rw[hq]at h;dsimp only at h ⊢;split at h
   ·exact absurd h zd
   ·rename_i g;rw[aa g]
  | inr v=>
   obtain⟨j,w,e⟩:=v;rw[hq]at h h1;dsimp only at h h1 ⊢;have hi:=iu (s:=s) (i:=i) (by rw[c3];decide);exact absurd h (h1 hi).2.2
 rw[aa c3];by_cases c4:gM s i=true
 ·rw[ae c4]
 rw[aa c4];by_cases c5:iY (ad s i)=true
 ·rw[ae c5]
 rw[aa c5]
def ny(s:ByteArray):Nat->List Tok->Nat->Nat->Int×Int->Int->List Tok×Int×Int×Int
 | 0,_,_,_,_,_=>([],0,0,0)
 | n+1,l,f,i,p,last=>
  let j:=dR s i
  let q:=bT s f j p
  if s.size<=j then(l++[.mk 0 q.1 q.2 ⟨#[]⟩ ⟨#[]⟩ 0 0 false],0,0,0)
  else if l.length=16384 then([],(lO s j).1,(lO s j).2,9)
  else
   let r:=cS s j (.mk 0 q.1 q.2 ⟨#[]⟩ ⟨#[]⟩ 0 0 (decide ((j:Int)=last)))
   if r.1=false then([],(lO s j).1,(lO s j).2,6)
   else if r.2.2.2.1≠0 then([],(lO s r.2.2.1.toNat).1,(lO s r.2.2.1.toNat).2,r.2.2.2.1)
   else ny s n (l++[r.2.2.2.2]) j r.2.1 q r.2.1
def eY(s:ByteArray):List Tok×Int×Int×Int:=if 65536<s.size then([],1,1,5)else ny s (s.size+1) [] 0 0 (1,1) (-1)
def T7(s:ByteArray)(hb:s.size<=1073741824):
 Af prog 51 [.str fun _=>s] [] (.ag [DN fun _=>(eY s).1,.int .i64 fun _=>(eY s).2.1,.int .i64 fun _=>(eY s).2.2.1,.int .i64 fun _=>(eY s).2.2.2]) []:=by
 obtain⟨R,hR⟩:∃R,R=eY s:=⟨_,rfl⟩
 rw[<- hR];unfold eY at hR;by_cases hs:65536<s.size
 ·rw[ae hs]at hR;subst hR
  (apply Af.of tF mF [.tmp 2,.tmp 3,.tmp 4,.tmp 5] lR [] func51 (fun _=>?_);(repeat' with_reducible first|exact nY|refine oC ?_ ?_|refine vQ ?_ ?_ ?_|refine cV (fun _=>?_) fun _=>?_|refine wQ ?_|fail))
  all_goals try exact eZ
  all_goals try exact absurd ‹(s.size:Int)<=65536› zo
 rw[aa hs]at hR;have hs:s.size<=65536:=zo
 (apply Af.of tF mF [.tmp 2,.tmp 3,.tmp 4,.tmp 5] lR [] func51 (fun _=>?_);(repeat' with_reducible first|exact nY|refine oC ?_ ?_|refine vQ ?_ ?_ ?_|refine cV (fun _=>?_) fun _=>?_|refine wQ ?_|fail))
 all_goals try exact absurd ‹65536<(s.size:Int)› zo
 refine .loop (z8 s) (fun x=>ny s x.1 x.2.1 x.2.2.2.2.2 x.2.2.1 x.2.2.2.1 x.2.2.2.2.1=R∧(x.2.2.2.2.2<=x.2.2.1∧x.2.2.1<=s.size)∧(0<=x.2.2.2.1.1∧x.2.2.2.1.1<=1+(x.2.2.2.2.2:Int))∧(0<=x.2.2.2.1.2∧x.2.2.2.1.2<=1+(x.2.2.2.2.2:Int))∧x.2.1.length<=16384∧s.size-x.2.2.1<x.1)
  (fun x=>x.1) (s.size+1,[],0,(1,1),-1,0) ⟨hR.symm,⟨ao _,aB _⟩,⟨(zd:(0:Int)<=1),(zd:(1:Int)<=1+((0:Nat):Int))⟩,⟨(zd:(0:Int)<=1),(zd:(1:Int)<=1+((0:Nat):Int))⟩,(zd:0<=16384),(by show s.size-0<s.size+1;omega)⟩ ?_ fun x E hx=>?_
 ·unfold z8
  exact aZ
 obtain⟨n,l,i,p,last,f⟩:=x;obtain⟨g1,⟨gf,g2⟩,g3,g4,g5,g6⟩:=hx;dsimp only at g1 g2 g3 g4 g5 gf g6;obtain⟨n,rfl⟩:∃m,n=m+1:=⟨n-1,zo⟩
 simp only[ny]at g1;have hbl:=S8 s i 0 0 zo g2;obtain⟨b1,b2⟩:=zZ (s:=s) (s.size-i) i g2;have b1:i<=dR s i:=b1;have b2:dR s i<=s.size:=b2;obtain⟨j,hj⟩:∃j,j=dR s i:=⟨_,rfl⟩
 rw[<- hj]at g1 hbl b1 b2;have hX:(s.extract f j).size=j-f:=by rw[dh];omega
 have uF:∀k,k<(s.extract f j).size->ad (s.extract f j) k=ad s (f+k):=fun k hk=>qh zo b2;obtain⟨X,hX0⟩:∃X,X=s.extract f j:=⟨_,rfl⟩
 rw[<- hX0]at hX uF;have hfl:∀(v c:Int),Af prog 109 [.ptr 1000 0,.int .i64 fun _=>v,.int .i64 fun _=>c] [(1000,ah s j 0 0)] (.ag []) [(1000,ah s j v c)]:=fun v c=>by
  have:=mm s j 0 0 v c
  rwa [ae rfl,ae rfl]at this
 by_cases q:s.size<=j
 ·rw [ae q]at g1;subst g1;clear hR hfl;apply af.wk tF mF [(7,[(1,zT,[(1000,ah s j 0 0)])])] lR ?_
  (repeat' with_reducible first|exact nY|refine oC ?_ ?_|refine vQ ?_ ?_ ?_|refine cV (fun _=>?_) fun _=>?_|refine wQ ?_|fail)
  all_goals try exact zB
  (all_goals try first|exact eZ|with_reducible (refine rQ ?_;repeat' first|apply ai|exact wZ)|(refine sQ ?_;repeat' first|with_reducible apply ai|exact cZ))
  ·show(s.extract f j).size<=_;rw[<- hX0,hX];omega
  refine .loop (fun k:Nat=>⟨124,[(41,.int .i64 fun _=>(k:Int)),(40,.int .i64 fun _=>(X.size:Int)),(39,.slc .any 1 (fun _=>X.size) fun y=>[.int .u8 fun _=>ad X (y ())]),(9,.int .i64 fun _=>last),(4,.int .i64 fun _=>(bT s f (f+k) p).2),(3,.int .i64 fun _=>(bT s f (f+k) p).1),(7,.bG 29 5),(6,.ptr 18 0),(2,.aJ 119 1 fun _=>l.length),(0,.str fun _=>s)],
   [(18,ah s j 0 0),(29,.box [.a8 103 18,.a8 104 18,.a8 105 18,.a8 106 18,.a8 107 18]),(119,.arr false 52 8 1 (fun _=>l.length) (oD fun _=>l))]⟩)
   (fun k=>k<=X.size) (fun k=>X.size-k) 0 (aB _) ?_ fun k E hk=>?_
  ·(focus(refine aQ ?_;repeat' first|with_reducible apply ai|exact wZ|fail))
   ·rw[hX0];rfl
   ·rw[hX0];rfl
   ·intro k hk;rw[hX0];exact aD.of_eq rfl
   ·exact(ak Prod.snd nI).symm
   ·exact(ak Prod.fst nI).symm
  have hv:=uF k;have hsn:=xH (s:=s) (i:=f) (j:=f+k) (p:=p) (io _ _);have hle:=uG (s:=s) (i:=f) (j:=f+k) (p:=p) (b:=1+(f:Int)) g3.1 g4.1 g3.2 g4.2 zo (io _ _);apply af.wk tF mF [] lR ?_
  (repeat' with_reducible first|exact nY|refine oC ?_ ?_|refine vQ ?_ ?_ ?_|refine cV (fun _=>?_) fun _=>?_|refine wQ ?_|fail)
  all_goals try exact absurd ‹j<s.size› zo
  (all_goals try first|exact eZ|with_reducible (refine rQ ?_;repeat' first|apply ai|exact wZ)|(refine sQ ?_;repeat' first|with_reducible apply ai|exact cZ))
  ·rename_i hk h10;refine dE (k+1) ⟨zo,zo⟩ ?_;rw[hv hk]at h10;rw[ae h10]at hsn
   (focus(refine aQ ?_;repeat' first|with_reducible apply ai|exact wZ|fail))
   ·exact aS zo
   ·exact(ak Prod.snd hsn).symm
   ·refine nM (ax zo zo) (ak Prod.fst hsn).symm
  ·rename_i hk h10;refine dE (k+1) ⟨zo,zo⟩ ?_;rw[hv hk]at h10;rw[aa h10]at hsn
   (focus(refine aQ ?_;repeat' first|with_reducible apply ai|exact wZ|fail))
   ·exact aS zo
   ·refine nM (ax zo zo) (ak Prod.snd hsn).symm
   ·exact(ak Prod.fst hsn).symm
  ·simp
  ·intro m hm;have hkj:f+k=j:=by omega
   rw[hkj];exact JQ l (.mk 0 (bT s f j p).1 (bT s f j p).2 ⟨#[]⟩ ⟨#[]⟩ 0 0 false) m hm
 rw[aa q]at g1;have hpl:=Kc s j b2 zo;by_cases q2:l.length=16384
 ·rw [ae q2]at g1;subst g1;have h20:=hfl j 9;generalize lO s j=pl at*;clear hR hfl;apply af.wk tF mF [(7,[(1,zT,[(1000,ah s j 0 0)])]),(20,[(5,zT,[(1000,ah s j j 9)])]),(22,[(2,zO true,[(1000,.box fU),(1001001000,bE default),(1001000000,ah s j 0 0)])]),(25,[(5,.ag [.int .i64 fun _=>pl.1,.int .i64 fun _=>pl.2],[])])] lR ?_
  (repeat' with_reducible first|exact nY|refine oC ?_ ?_|refine vQ ?_ ?_ ?_|refine cV (fun _=>?_) fun _=>?_|refine wQ ?_|fail)
  all_goals try exact zB
  (all_goals try first|exact eZ|with_reducible (refine rQ ?_;repeat' first|apply ai|exact wZ)|(refine sQ ?_;repeat' first|with_reducible apply ai|exact cZ))
  ·show(s.extract f j).size<=_;rw[<- hX0,hX];omega
  refine .loop (fun k:Nat=>⟨124,[(41,.int .i64 fun _=>(k:Int)),(40,.int .i64 fun _=>(X.size:Int)),(39,.slc .any 1 (fun _=>X.size) fun y=>[.int .u8 fun _=>ad X (y ())]),(9,.int .i64 fun _=>last),(4,.int .i64 fun _=>(bT s f (f+k) p).2),(3,.int .i64 fun _=>(bT s f (f+k) p).1),(7,.bG 29 5),(6,.ptr 18 0),(2,.aJ 119 1 fun _=>l.length),(0,.str fun _=>s)],
   [(18,ah s j 0 0),(29,.box [.a8 103 18,.a8 104 18,.a8 105 18,.a8 106 18,.a8 107 18]),(119,.arr false 52 8 1 (fun _=>l.length) (oD fun _=>l))]⟩)
   (fun k=>k<=X.size) (fun k=>X.size-k) 0 (aB _) ?_ fun k E hk=>?_
  ·(focus(refine aQ ?_;repeat' first|with_reducible apply ai|exact wZ|fail))
   ·rw[hX0];rfl
   ·rw[hX0];rfl
   ·intro k hk;rw[hX0];exact aD.of_eq rfl
   ·exact(ak Prod.snd nI).symm
   ·exact(ak Prod.fst nI).symm
  have hv:=uF k;have hsn:=xH (s:=s) (i:=f) (j:=f+k) (p:=p) (io _ _);have hle:=uG (s:=s) (i:=f) (j:=f+k) (p:=p) (b:=1+(f:Int)) g3.1 g4.1 g3.2 g4.2 zo (io _ _);apply af.wk tF mF [] lR ?_
  (repeat' with_reducible first|exact nY|refine oC ?_ ?_|refine vQ ?_ ?_ ?_|refine cV (fun _=>?_) fun _=>?_|refine wQ ?_|fail)
  all_goals try exact zB
  all_goals try exact absurd ‹s.size<=j› q
  all_goals try exact absurd ‹¬(l.length:Int)=16384› (fun g=>g zo)
  all_goals try exact absurd ‹(9:Int)=0› zd
  all_goals try exact eZ
  ·rename_i hk h10;refine dE (k+1) ⟨zo,zo⟩ ?_;rw[hv hk]at h10;rw[ae h10]at hsn
   (focus(refine aQ ?_;repeat' first|with_reducible apply ai|exact wZ|fail))
   ·exact aS zo
   ·exact(ak Prod.snd hsn).symm
   ·refine nM (ax zo zo) (ak Prod.fst hsn).symm
  ·rename_i hk h10;refine dE (k+1) ⟨zo,zo⟩ ?_;rw[hv hk]at h10;rw[aa h10]at hsn
   (focus(refine aQ ?_;repeat' first|with_reducible apply ai|exact wZ|fail))
   ·exact aS zo
   ·refine nM (ax zo zo) (ak Prod.snd hsn).symm
   ·exact(ak Prod.fst hsn).symm
  all_goals trace_state
 rw[aa q2]at g1;have hw:=XW s hs (zo:j<s.size) (.mk 0 (bT s f j p).1 (bT s f j p).2 ⟨#[]⟩ ⟨#[]⟩ 0 0 (decide ((j:Int)=last)));have htl:=J9 (zo:j<s.size) (.mk 0 (bT s f j p).1 (bT s f j p).2 ⟨#[]⟩ ⟨#[]⟩ 0 0 (decide ((j:Int)=last)));have hmw:=X0 (s:=s) (i:=j) (t:=.mk 0 (bT s f j p).1 (bT s f j p).2 ⟨#[]⟩ ⟨#[]⟩ 0 0 (decide ((j:Int)=last)));have hno:=XZ (s:=s) (i:=j) (t:=.mk 0 (bT s f j p).1 (bT s f j p).2 ⟨#[]⟩ ⟨#[]⟩ 0 0 (decide ((j:Int)=last)));obtain⟨T0,hT0⟩:∃T,T=cS s j (.mk 0 (bT s f j p).1 (bT s f j p).2 ⟨#[]⟩ ⟨#[]⟩ 0 0 (decide ((j:Int)=last))):=⟨_,rfl⟩
 rw[<- hT0]at g1 hw htl hno hmw;clear hT0;obtain⟨tb,j',w',e',T⟩:=T0;dsimp only at g1 hw htl hno hmw;by_cases q3:tb=false
 ·rw [ae q3]at g1;subst g1;subst q3;obtain⟨rfl,rfl,rfl,hT⟩:j'=j∧w'=0∧e'=0∧T=_:=by simpa using hno rfl
  clear hno;have ZK:=hfl j' 6;generalize lO s j'=pl at*;clear hR hfl htl hT;apply af.wk tF mF [(7,[(1,zT,[(1000,ah s j' 0 0)])]),(22,[(2,zO false,[(1000,.box fU),(1001001000,bE T),(1001000000,ah s j' 0 0)])]),(23,[(5,zT,[(1000,ah s j' (j':Int) 6)])]),(25,[(5,.ag [.int .i64 fun _=>pl.1,.int .i64 fun _=>pl.2],[])])] lR ?_
  (repeat' with_reducible first|exact nY|refine oC ?_ ?_|refine vQ ?_ ?_ ?_|refine cV (fun _=>?_) fun _=>?_|refine wQ ?_|fail)
  all_goals try exact zB
  (all_goals try first|exact eZ|with_reducible (refine rQ ?_;repeat' first|apply ai|exact wZ)|(refine sQ ?_;repeat' first|with_reducible apply ai|exact cZ))
  ·show(s.extract f j').size<=_;rw[<- hX0,hX];omega
  refine .loop (fun k:Nat=>⟨124,[(41,.int .i64 fun _=>(k:Int)),(40,.int .i64 fun _=>(X.size:Int)),(39,.slc .any 1 (fun _=>X.size) fun y=>[.int .u8 fun _=>ad X (y ())]),(9,.int .i64 fun _=>last),(4,.int .i64 fun _=>(bT s f (f+k) p).2),(3,.int .i64 fun _=>(bT s f (f+k) p).1),(7,.bG 29 5),(6,.ptr 18 0),(2,.aJ 119 1 fun _=>l.length),(0,.str fun _=>s)],
   [(18,ah s j' 0 0),(29,.box [.a8 103 18,.a8 104 18,.a8 105 18,.a8 106 18,.a8 107 18]),(119,.arr false 52 8 1 (fun _=>l.length) (oD fun _=>l))]⟩)
   (fun k=>k<=X.size) (fun k=>X.size-k) 0 (aB _) ?_ fun k E hk=>?_
  ·(focus(refine aQ ?_;repeat' first|with_reducible apply ai|exact wZ|fail))
   ·rw[hX0];rfl
   ·rw[hX0];rfl
   ·intro k hk;rw[hX0];exact aD.of_eq rfl
   ·exact(ak Prod.snd nI).symm
   ·exact(ak Prod.fst nI).symm
  have hv:=uF k;have hsn:=xH (s:=s) (i:=f) (j:=f+k) (p:=p) (io _ _);have hle:=uG (s:=s) (i:=f) (j:=f+k) (p:=p) (b:=1+(f:Int)) g3.1 g4.1 g3.2 g4.2 zo (io _ _);apply af.wk tF mF [] lR ?_
  (repeat' with_reducible first|exact nY|refine oC ?_ ?_|refine vQ ?_ ?_ ?_|refine cV (fun _=>?_) fun _=>?_|refine wQ ?_|fail)
  any_goals((with_reducible refine nO ?_);rw[show f+k=j' by omega];exact hw)
  all_goals try exact zB
  all_goals try exact absurd ‹s.size<=j'› q
  all_goals try exact absurd ‹(l.length:Int)=16384› zo
  all_goals try exact absurd ‹(6:Int)=0› zd
  all_goals try exact eZ
  ·rename_i hk h10;refine dE (k+1) ⟨zo,zo⟩ ?_;rw[hv hk]at h10;rw[ae h10]at hsn
   (focus(refine aQ ?_;repeat' first|with_reducible apply ai|exact wZ|fail))
   ·exact aS zo
   ·exact(ak Prod.snd hsn).symm
   ·refine nM (ax zo zo) (ak Prod.fst hsn).symm
  ·rename_i hk h10;refine dE (k+1) ⟨zo,zo⟩ ?_;rw[hv hk]at h10;rw[aa h10]at hsn
   (focus(refine aQ ?_;repeat' first|with_reducible apply ai|exact wZ|fail))
   ·exact aS zo
   ·refine nM (ax zo zo) (ak Prod.snd hsn).symm
   ·exact(ak Prod.fst hsn).symm
 rw[aa q3]at g1;obtain rfl:tb=true:=by simpa using q3
 clear q3 hpl;by_cases q4:e'≠0
 ·rw [ae q4]at g1;subst g1;obtain⟨wn,rfl⟩:=Int.eq_ofNat_of_zero_le htl.2.1;have hpl:=Kc s wn zo zo;rw[show((wn:Nat):Int).toNat=wn from rfl];generalize lO s wn=pl at*;clear hR hfl;apply af.wk tF mF [(7,[(1,zT,[(1000,ah s j 0 0)])]),(22,[(2,zO true,[(1000,.box fU),(1001001000,bE T),(1001000000,ah s j' (wn:Int) e')])]),(25,[(5,.ag [.int .i64 fun _=>pl.1,.int .i64 fun _=>pl.2],[])])] lR ?_
  (repeat' with_reducible first|exact nY|refine oC ?_ ?_|refine vQ ?_ ?_ ?_|refine cV (fun _=>?_) fun _=>?_|refine wQ ?_|fail)
  all_goals try exact zB
  (all_goals try first|exact eZ|with_reducible (refine rQ ?_;repeat' first|apply ai|exact wZ)|(refine sQ ?_;repeat' first|with_reducible apply ai|exact cZ))
  ·show(s.extract f j).size<=_;rw[<- hX0,hX];omega
  refine .loop (fun k:Nat=>⟨124,[(41,.int .i64 fun _=>(k:Int)),(40,.int .i64 fun _=>(X.size:Int)),(39,.slc .any 1 (fun _=>X.size) fun y=>[.int .u8 fun _=>ad X (y ())]),(9,.int .i64 fun _=>last),(4,.int .i64 fun _=>(bT s f (f+k) p).2),(3,.int .i64 fun _=>(bT s f (f+k) p).1),(7,.bG 29 5),(6,.ptr 18 0),(2,.aJ 119 1 fun _=>l.length),(0,.str fun _=>s)],
   [(18,ah s j 0 0),(29,.box [.a8 103 18,.a8 104 18,.a8 105 18,.a8 106 18,.a8 107 18]),(119,.arr false 52 8 1 (fun _=>l.length) (oD fun _=>l))]⟩)
   (fun k=>k<=X.size) (fun k=>X.size-k) 0 (aB _) ?_ fun k E hk=>?_
  ·(focus(refine aQ ?_;repeat' first|with_reducible apply ai|exact wZ|fail))
   ·rw[hX0];rfl
   ·rw[hX0];rfl
   ·intro k hk;rw[hX0];exact aD.of_eq rfl
   ·exact(ak Prod.snd nI).symm
   ·exact(ak Prod.fst nI).symm
  have hv:=uF k;have hsn:=xH (s:=s) (i:=f) (j:=f+k) (p:=p) (io _ _);have hle:=uG (s:=s) (i:=f) (j:=f+k) (p:=p) (b:=1+(f:Int)) g3.1 g4.1 g3.2 g4.2 zo (io _ _);apply af.wk tF mF [] lR ?_
  (repeat' with_reducible first|exact nY|refine oC ?_ ?_|refine vQ ?_ ?_ ?_|refine cV (fun _=>?_) fun _=>?_|refine wQ ?_|fail)
  any_goals((with_reducible refine nO ?_);rw[show f+k=j by omega];exact hw)
  all_goals try exact zB
  all_goals try exact absurd ‹s.size<=j› q
  all_goals try exact absurd ‹(l.length:Int)=16384› zo
  all_goals try exact absurd ‹e'=0› q4
  all_goals try exact eZ
  ·rename_i hk h10;refine dE (k+1) ⟨zo,zo⟩ ?_;rw[hv hk]at h10;rw[ae h10]at hsn
   (focus(refine aQ ?_;repeat' first|with_reducible apply ai|exact wZ|fail))
   ·exact aS zo
   ·exact(ak Prod.snd hsn).symm
   ·refine nM (ax zo zo) (ak Prod.fst hsn).symm
  ·rename_i hk h10;refine dE (k+1) ⟨zo,zo⟩ ?_;rw[hv hk]at h10;rw[aa h10]at hsn
   (focus(refine aQ ?_;repeat' first|with_reducible apply ai|exact wZ|fail))
   ·exact aS zo
   ·refine nM (ax zo zo) (ak Prod.snd hsn).symm
   ·exact(ak Prod.fst hsn).symm
  all_goals trace_state
 rw[aa q4]at g1;obtain rfl:e'=0:=gr.1 q4;clear q4;have htl:=htl.1 rfl rfl;obtain rfl:w'=0:=hmw rfl;clear hR hfl hno;apply af.wk tF mF [(7,[(1,zT,[(1000,ah s j 0 0)])]),(22,[(2,zO true,[(1000,.box fU),(1001001000,bE T),(1001000000,ah s j' 0 0)])])] lR ?_
 (repeat' with_reducible first|exact nY|refine oC ?_ ?_|refine vQ ?_ ?_ ?_|refine cV (fun _=>?_) fun _=>?_|refine wQ ?_|fail)
 all_goals try exact zB
 (all_goals try first|exact eZ|with_reducible (refine rQ ?_;repeat' first|apply ai|exact wZ)|(refine sQ ?_;repeat' first|with_reducible apply ai|exact cZ))
 ·show(s.extract f j).size<=_;rw[<- hX0,hX];omega
 refine .loop (fun k:Nat=>⟨124,[(41,.int .i64 fun _=>(k:Int)),(40,.int .i64 fun _=>(X.size:Int)),(39,.slc .any 1 (fun _=>X.size) fun y=>[.int .u8 fun _=>ad X (y ())]),(9,.int .i64 fun _=>last),(4,.int .i64 fun _=>(bT s f (f+k) p).2),(3,.int .i64 fun _=>(bT s f (f+k) p).1),(7,.bG 29 5),(6,.ptr 18 0),(2,.aJ 119 1 fun _=>l.length),(0,.str fun _=>s)],
  [(18,ah s j 0 0),(29,.box [.a8 103 18,.a8 104 18,.a8 105 18,.a8 106 18,.a8 107 18]),(119,.arr false 52 8 1 (fun _=>l.length) (oD fun _=>l))]⟩)
  (fun k=>k<=X.size) (fun k=>X.size-k) 0 (aB _) ?_ fun k E hk=>?_
 ·(focus(refine aQ ?_;repeat' first|with_reducible apply ai|exact wZ|fail))
  ·rw[hX0];rfl
  ·rw[hX0];rfl
  ·intro k hk;rw[hX0];exact aD.of_eq rfl
  ·exact(ak Prod.snd nI).symm
  ·exact(ak Prod.fst nI).symm
 have hv:=uF k;have hsn:=xH (s:=s) (i:=f) (j:=f+k) (p:=p) (io _ _);have hle:=uG (s:=s) (i:=f) (j:=f+k) (p:=p) (b:=1+(f:Int)) g3.1 g4.1 g3.2 g4.2 zo (io _ _);apply af.wk tF mF [] lR ?_
 (repeat' with_reducible first|exact nY|refine oC ?_ ?_|refine vQ ?_ ?_ ?_|refine cV (fun _=>?_) fun _=>?_|refine wQ ?_|fail)
 any_goals((with_reducible refine nO ?_);rw[show f+k=j by omega];exact hw)
 all_goals try exact absurd ‹s.size<=j› q
 all_goals try exact absurd ‹(l.length:Int)=16384› zo
 all_goals try exact eZ
 ·rename_i hk h10;refine dE (k+1) ⟨zo,zo⟩ ?_;rw[hv hk]at h10;rw[ae h10]at hsn
  (focus(refine aQ ?_;repeat' first|with_reducible apply ai|exact wZ|fail))
  ·exact aS zo
  ·exact(ak Prod.snd hsn).symm
  ·refine nM (ax zo zo) (ak Prod.fst hsn).symm
 ·rename_i hk h10;refine dE (k+1) ⟨zo,zo⟩ ?_;rw[hv hk]at h10;rw[aa h10]at hsn
  (focus(refine aQ ?_;repeat' first|with_reducible apply ai|exact wZ|fail))
  ·exact aS zo
  ·refine nM (ax zo zo) (ak Prod.snd hsn).symm
  ·exact(ak Prod.fst hsn).symm
 ·have hp1:=uG (s:=s) (i:=f) (j:=j) (p:=p) (b:=1+(f:Int)) g3.1 g4.1 g3.2 g4.2 zo zo;have hp3:bT s f (f+k) p=bT s f j p:=by rw[show f+k=j by omega]
  refine dE (ι:=JP) (μ:=fun x=>x.1) (i:=(n+1,l,i,p,last,f)) (I:=z8 s) (n,l++[T],j',bT s f j p,(j':Int),j) ?_ ?_
  ·refine⟨⟨g1,⟨?_,?_⟩,⟨?_,?_⟩,⟨?_,?_⟩,?_,?_⟩,?_⟩
   all_goals dsimp only
   all_goals(try omega)
   rw[du];show l.length+1<=_;omega
  unfold z8
  (focus(refine aQ ?_;repeat' first|with_reducible apply ai|exact wZ|fail))
  ·rw[hp3]
  ·rw[hp3]
  ·rw[du];rfl
  ·rw[du];rfl
  ·rw[du];rfl
  ·exact fun m hm=>JQ l T m hm
end Go.Ai
