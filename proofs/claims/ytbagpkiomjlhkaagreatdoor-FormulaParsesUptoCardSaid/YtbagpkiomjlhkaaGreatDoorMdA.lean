/- Chapter 17: the law's model of the printer: signs, bindings, words of calls, digits, reserved words. -/
import Derived.Test.YtbagpkiomjlhkaaGreatDoorTxD
set_option linter.all false
namespace Go.Ai
open Go Go.Proofs
set_option maxRecDepth 100000
set_option maxHeartbeats 4000000
def sgnB(op:Int):ByteArray:=if op=5 then⟨#[32,111,114,32]⟩else if op=4 then⟨#[32,97,110,100,32]⟩else if op=6 then⟨#[32,61,32]⟩else if op=7 then⟨#[32,33,61,32]⟩else if op=8 then⟨#[32,60,32]⟩else if op=9 then⟨#[32,60,61,32]⟩else
 if op=10 then⟨#[32,62,32]⟩else if op=11 then⟨#[32,62,61,32]⟩else if op=23 then⟨#[32,101,108,115,101,32]⟩else if op=12 then⟨#[32,43,32]⟩else if op=13 then⟨#[32,45,32]⟩else if op=17 then⟨#[32,38,32]⟩else if op=14 then⟨#[32,42,32]⟩else⟨#[]⟩
def sgnN(op:Int):Int:=if op=5 then 1 else if op=4 then 2 else if op=6 then 4 else if op=7 then 4 else if op=8 then 4 else if op=9 then 4 else if op=10 then 4 else if op=11 then 4 else if op=23 then 5 else if op=12 then 6 else if op=13 then 6 else if op=17 then 6 else if op=14 then 7 else 0
def abd(op:Int):Af Tryz.prog 46 [.int .i64 fun _=>op] [] (.tup [.str fun _=>sgnB op,.int .i64 fun _=>sgnN op]) []:=by
 obtain⟨s,hs⟩:∃s,s=sgnB op:=⟨_,rfl⟩
 obtain⟨n,hn⟩:∃n,n=sgnN op:=⟨_,rfl⟩
 rw[<- hs,<- hn]
 (refine fB [.tmp 2,.tmp 3] kp46 [] Tryz.func46 fun _=>?_;repeat' with_reducible first|exact⟨⟩|refine mA ?_ ?_|refine mC (fun _=>?_) fun _=>?_)
 all_goals(first|rw[hs]|rw[hn])
 all_goals(first|unfold sgnB|unfold sgnN)
 all_goals(simp only[*,if_true,if_false])
 all_goals rfl
def calB(op:Int):ByteArray:=if op=18 then⟨#[108,101,110,103,116,104]⟩else if op=19 then⟨#[108,111,119,101,114]⟩else if op=20 then⟨#[117,112,112,101,114]⟩else if op=27 then⟨#[116,101,120,116]⟩else if op=28 then⟨#[110,117,109,98,101,114]⟩else
 if op=21 then⟨#[115,108,105,99,101]⟩else if op=24 then⟨#[105,102]⟩else if op=15 then⟨#[100,105,118,105,100,101]⟩else if op=22 then⟨#[104,97,115]⟩else if op=26 then⟨#[115,117,109]⟩else⟨#[]⟩
def anu(op:Int):Af Tryz.prog 50 [.int .i64 fun _=>op] [] (.str fun _=>calB op) []:=by
 obtain⟨s,hs⟩:∃s,s=calB op:=⟨_,rfl⟩
 rw[<- hs]
 (refine fB [.tmp 2] kp50 [] Tryz.func50 fun _=>?_;repeat' with_reducible first|exact⟨⟩|refine mA ?_ ?_|refine mC (fun _=>?_) fun _=>?_)
 all_goals rw[hs]
 all_goals unfold calB
 all_goals(simp only[*,if_true,if_false])
 all_goals rfl
def wrd19_ok:Af Tryz.prog 19 [] [] (sS rwL) []:=by
 (refine fB [.tmp 0] kp19 [] Tryz.func19 fun _=>?_;repeat' with_reducible first|exact⟨⟩|refine mA ?_ ?_|refine mC (fun _=>?_) fun _=>?_)
 exact aiU rwL
def alk:∃R,R=rwL∧Af Tryz.prog 19 [] [] (sS R) []:=⟨_,rfl,wrd19_ok⟩
def agi(t:ByteArray):Af Tryz.prog 44 [.str fun _=>t] [] (.bool fun _=>resB t) []:=by
 obtain⟨R,hR,h1⟩:=alk;obtain⟨Z,hZ⟩:∃Z,Z=resB t:=⟨_,rfl⟩
 rw[<- hZ];unfold resB at hZ;rw[<- hR]at hZ;have hl:R.length<=1000:=by rw[hR];decide
 unfold sS at h1;clear hR
 (refine fA [.tmp 2] kp44 [] Tryz.func44 fun _=>?_;repeat' with_reducible first|exact⟨⟩|refine mA ?_ ?_|refine mC (fun _=>?_) fun _=>?_)
 refine .loop (fun i:Nat=>⟨16,[(3,.int .i64 fun _=>(i:Int)),(0,.str fun _=>t)],[]⟩) (fun i=>i<=R.length∧kHas (R.drop i) t=Z) (fun i=>R.length-i) 0 ⟨Nat.zero_le _,hZ.symm⟩ ?_ fun i E hi=>?_
 ·exact aZ
 obtain⟨h2,h3⟩:=hi;apply AWp.wk tF mF [(2,[(1,sS R,[])]),(4,[(0,sS R,[])])] kp44 ?_
 (refine oA ?_;repeat' with_reducible first|exact⟨⟩|refine mA ?_ ?_|refine mC (fun _=>?_) fun _=>?_)
 all_goals(try simp only[Int.toNat_natCast])
 all_goals(try exact zB)
 (all_goals try first|exact eZ|(refine qC ?_;repeat' with_reducible first|exact⟨⟩|refine mA ?_ ?_))
 ·rename_i hi q;rw[List.drop_eq_getElem_cons hi]at h3;have e1:R.getD i ⟨#[]⟩=R[i]:=by simp[List.getD,hi]
  rw[<- h3];have e2:R[i]=t:=e1.symm.trans q;simp[kHas,e2]
 ·rename_i hi q;rw[List.drop_eq_getElem_cons hi]at h3;have e1:R.getD i ⟨#[]⟩=R[i]:=by simp[List.getD,hi]
  have e2:¬R[i]=t:=fun k=>q (e1.trans k);refine dE (i+1) ⟨⟨by omega,?_⟩,by omega⟩ ?_
  ·rw[<- h3];unfold kHas;rw[List.any_cons,decide_eq_false e2,Bool.false_or]
  (focus(refine aQ ?_;repeat' first|with_reducible apply And.intro|exact wZ|fail))
  exact w64n (by omega)
 ·rw[<- h3,List.drop_eq_nil_of_le (by omega)];rfl
end Go.Ai
