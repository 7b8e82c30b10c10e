/- Chapter 17: the printer: binary operations, values, paths. (Printed by mkt3.py.) -/
import Derived.Test.YtbagpkiomjlhkaaGreatDoorTxA
set_option linter.all false
namespace Go.Ai
open Go Go.Proofs
set_option maxRecDepth 100000
set_option maxHeartbeats 4000000
theorem alH (lit:V→ByteArray) (T:X→Int→ByteArray) (e D:Nat) (x:X) (need:Int) (ha:∀ i,i<x.args.length→ArgT T e D (x.args.getD i default)) (hl:2≤x.args.length) (hs:(aad lit T x).size≤1152921504606846976) (hb:need≤aa1 x.op) (e1:aa1 x.op=1) (o3:¬x.op=3) (o16:¬x.op=16) (o25:¬x.op=25) :
 Af Tryz.prog 40 [encX (e+1) (D+1) .any fun _=>x,.int .i64 fun _=>need] [] (.str fun _=>aad lit T x) []:=by
 have h1:=aan x e (D+1)
 have h2:=ha 0 (by omega)
 have h4:=ha 1 (by omega)
 have h6:=akv x.op
 unfold aad at hs ⊢
 rw [if_neg o3,if_neg o16,if_neg o25,e1] at hs ⊢
 rw [e1] at h1 hb
 rw [if_neg (by decide),if_pos (by decide)] at hs ⊢
 rw [show Int.toNat 1=1 from rfl,show (1:Int)+1=2 from rfl] at hs ⊢
 have hs1:=hs
 rw [ByteArray.size_append,ByteArray.size_append,ByteArray.size_append,ByteArray.size_append] at hs1
 have h3:=h2 1 (by decide) (by decide) (by omega)
 have h5:=h4 2 (by decide) (by decide) (by omega)
 generalize T (x.args.getD 0 default) 1=t at *
 generalize T (x.args.getD 1 default) 2=u at *
 generalize symV x.op 1=sy at *
 clear h2 h4 ha e1 hs
 (apply Af.of tF mF [.tmp 4] kp40 [(1,[(1,.int .i64 fun _=>1,[])]),(3,[(1,.any,[])]),(5,[(5,.any,[])]),(7,[(4,.any,[])]),(13,[(4,.any,[]),(9,.any,[])]),(15,[(4,.any,[]),(9,.any,[]),(16,.any,[])]),(17,[(5,.str fun _=>t,[]),(10,.str fun _=>sy,[]),(19,.str fun _=>u,[])])] Tryz.func40 (fun _=>?_);(any_goals ((with_reducible refine wI ?_);cbv;(try dsimp only [nc] at *);(repeat' (with_reducible first|exact ‹False›.elim|exact nZ|refine oC ?_ ?_|refine VC.mk rfl ?_ ?_ ?_|(apply Ca.mk<;>intro _)|refine cV (fun _=>?_) fun _=>?_|((first|apply xE|apply uE);cbv;(try dsimp only [nc] at *)))))))
 all_goals (try (exact absurd ‹(1:Int)<need› (by omega)))
 all_goals (try (exact absurd trivial ‹¬True›))
 all_goals (try (exact absurd ‹x.op=3› o3))
 all_goals (try (exact absurd ‹x.op=16› o16))
 all_goals (try (exact absurd ‹x.op=25› o25))
 all_goals (try simp only [Int.toNat_zero,show Int.toNat 1=1 from rfl,w64 (show (-9223372036854775808:Int)≤1+1 by decide) (by decide)])
 any_goals ((with_reducible refine nO ?_);first|exact h1|exact h3|exact h5|exact h6)
 ((all_goals (try (with_reducible ((first|refine rE ?_|refine nE ?_);cbv;(try dsimp only [nc] at *);(try simp only [wl,nc]);(repeat' apply And.intro);all_goals (try exact wZ)))));(all_goals (try ((with_reducible rw [aC]);(try simp only [wl,nc]);(repeat' (with_reducible apply And.intro));(all_goals (try exact cZ))))))
 all_goals (try (simp only [ByteArray.size_append,bszL,List.length_cons,List.length_nil] at *;omega))
theorem alG (lit:V→ByteArray) (T:X→Int→ByteArray) (e D:Nat) (x:X) (need:Int) (ha:∀ i,i<x.args.length→ArgT T e D (x.args.getD i default)) (hl:2≤x.args.length) (hs:(aad lit T x).size≤1152921504606846976) (hb:need≤aa1 x.op) (e1:aa1 x.op=2) (o3:¬x.op=3) (o16:¬x.op=16) (o25:¬x.op=25) :
 Af Tryz.prog 40 [encX (e+1) (D+1) .any fun _=>x,.int .i64 fun _=>need] [] (.str fun _=>aad lit T x) []:=by
 have h1:=aan x e (D+1)
 have h2:=ha 0 (by omega)
 have h4:=ha 1 (by omega)
 have h6:=aku x.op
 unfold aad at hs ⊢
 rw [if_neg o3,if_neg o16,if_neg o25,e1] at hs ⊢
 rw [e1] at h1 hb
 rw [if_neg (by decide),if_pos (by decide)] at hs ⊢
 rw [show Int.toNat 2=2 from rfl,show (2:Int)+1=3 from rfl] at hs ⊢
 have hs1:=hs
 rw [ByteArray.size_append,ByteArray.size_append,ByteArray.size_append,ByteArray.size_append] at hs1
 have h3:=h2 2 (by decide) (by decide) (by omega)
 have h5:=h4 3 (by decide) (by decide) (by omega)
 generalize T (x.args.getD 0 default) 2=t at *
 generalize T (x.args.getD 1 default) 3=u at *
 generalize symV x.op 2=sy at *
 clear h2 h4 ha e1 hs
 (apply Af.of tF mF [.tmp 4] kp40 [(1,[(1,.int .i64 fun _=>2,[])]),(3,[(1,.any,[])]),(5,[(5,.any,[])]),(7,[(4,.any,[])]),(13,[(4,.any,[]),(9,.any,[])]),(15,[(4,.any,[]),(9,.any,[]),(16,.any,[])]),(17,[(5,.str fun _=>t,[]),(10,.str fun _=>sy,[]),(19,.str fun _=>u,[])])] Tryz.func40 (fun _=>?_);(any_goals ((with_reducible refine wI ?_);cbv;(try dsimp only [nc] at *);(repeat' (with_reducible first|exact ‹False›.elim|exact nZ|refine oC ?_ ?_|refine VC.mk rfl ?_ ?_ ?_|(apply Ca.mk<;>intro _)|refine cV (fun _=>?_) fun _=>?_|((first|apply xE|apply uE);cbv;(try dsimp only [nc] at *)))))))
 all_goals (try (exact absurd ‹(2:Int)<need› (by omega)))
 all_goals (try (exact absurd trivial ‹¬True›))
 all_goals (try (exact absurd ‹x.op=3› o3))
 all_goals (try (exact absurd ‹x.op=16› o16))
 all_goals (try (exact absurd ‹x.op=25› o25))
 all_goals (try simp only [Int.toNat_zero,show Int.toNat 1=1 from rfl,w64 (show (-9223372036854775808:Int)≤2+1 by decide) (by decide)])
 any_goals ((with_reducible refine nO ?_);first|exact h1|exact h3|exact h5|exact h6)
 ((all_goals (try (with_reducible ((first|refine rE ?_|refine nE ?_);cbv;(try dsimp only [nc] at *);(try simp only [wl,nc]);(repeat' apply And.intro);all_goals (try exact wZ)))));(all_goals (try ((with_reducible rw [aC]);(try simp only [wl,nc]);(repeat' (with_reducible apply And.intro));(all_goals (try exact cZ))))))
 all_goals (try (simp only [ByteArray.size_append,bszL,List.length_cons,List.length_nil] at *;omega))
theorem alF (lit:V→ByteArray) (T:X→Int→ByteArray) (e D:Nat) (x:X) (need:Int) (ha:∀ i,i<x.args.length→ArgT T e D (x.args.getD i default)) (hl:2≤x.args.length) (hs:(aad lit T x).size≤1152921504606846976) (hb:need≤aa1 x.op) (e1:aa1 x.op=4) (o3:¬x.op=3) (o16:¬x.op=16) (o25:¬x.op=25) :
 Af Tryz.prog 40 [encX (e+1) (D+1) .any fun _=>x,.int .i64 fun _=>need] [] (.str fun _=>aad lit T x) []:=by
 have h1:=aan x e (D+1)
 have h2:=ha 0 (by omega)
 have h4:=ha 1 (by omega)
 have h6:=akt x.op
 unfold aad at hs ⊢
 rw [if_neg o3,if_neg o16,if_neg o25,e1] at hs ⊢
 rw [e1] at h1 hb
 rw [if_pos rfl] at hs ⊢
 have hs1:=hs
 rw [ByteArray.size_append,ByteArray.size_append,ByteArray.size_append,ByteArray.size_append] at hs1
 have h3:=h2 5 (by decide) (by decide) (by omega)
 have h5:=h4 5 (by decide) (by decide) (by omega)
 generalize T (x.args.getD 0 default) 5=t at *
 generalize T (x.args.getD 1 default) 5=u at *
 generalize symV x.op 4=sy at *
 clear h2 h4 ha e1 hs
 (apply Af.of tF mF [.tmp 4] kp40 [(1,[(1,.int .i64 fun _=>4,[])]),(3,[(1,.any,[])]),(5,[(5,.any,[])]),(7,[(4,.any,[])]),(13,[(4,.any,[]),(9,.any,[])]),(15,[(4,.str fun _=>t,[]),(9,.str fun _=>sy,[]),(16,.str fun _=>u,[])])] Tryz.func40 (fun _=>?_);(any_goals ((with_reducible refine wI ?_);cbv;(try dsimp only [nc] at *);(repeat' (with_reducible first|exact ‹False›.elim|exact nZ|refine oC ?_ ?_|refine VC.mk rfl ?_ ?_ ?_|(apply Ca.mk<;>intro _)|refine cV (fun _=>?_) fun _=>?_|((first|apply xE|apply uE);cbv;(try dsimp only [nc] at *)))))))
 all_goals (try (exact absurd ‹(4:Int)<need› (by omega)))
 all_goals (try (exact absurd trivial ‹¬True›))
 all_goals (try (exact absurd ‹x.op=3› o3))
 all_goals (try (exact absurd ‹x.op=16› o16))
 all_goals (try (exact absurd ‹x.op=25› o25))
 all_goals (try simp only [Int.toNat_zero,show Int.toNat 1=1 from rfl,w64 (show (-9223372036854775808:Int)≤4+1 by decide) (by decide)])
 any_goals ((with_reducible refine nO ?_);first|exact h1|exact h3|exact h5|exact h6)
 ((all_goals (try (with_reducible ((first|refine rE ?_|refine nE ?_);cbv;(try dsimp only [nc] at *);(try simp only [wl,nc]);(repeat' apply And.intro);all_goals (try exact wZ)))));(all_goals (try ((with_reducible rw [aC]);(try simp only [wl,nc]);(repeat' (with_reducible apply And.intro));(all_goals (try exact cZ))))))
 all_goals (try (simp only [ByteArray.size_append,bszL,List.length_cons,List.length_nil] at *;omega))
theorem alE (lit:V→ByteArray) (T:X→Int→ByteArray) (e D:Nat) (x:X) (need:Int) (ha:∀ i,i<x.args.length→ArgT T e D (x.args.getD i default)) (hl:2≤x.args.length) (hs:(aad lit T x).size≤1152921504606846976) (hb:need≤aa1 x.op) (e1:aa1 x.op=5) (o3:¬x.op=3) (o16:¬x.op=16) (o25:¬x.op=25) :
 Af Tryz.prog 40 [encX (e+1) (D+1) .any fun _=>x,.int .i64 fun _=>need] [] (.str fun _=>aad lit T x) []:=by
 have h1:=aan x e (D+1)
 have h2:=ha 0 (by omega)
 have h4:=ha 1 (by omega)
 have h6:=aks x.op
 unfold aad at hs ⊢
 rw [if_neg o3,if_neg o16,if_neg o25,e1] at hs ⊢
 rw [e1] at h1 hb
 rw [if_neg (by decide),if_pos (by decide)] at hs ⊢
 rw [show Int.toNat 5=5 from rfl,show (5:Int)+1=6 from rfl] at hs ⊢
 have hs1:=hs
 rw [ByteArray.size_append,ByteArray.size_append,ByteArray.size_append,ByteArray.size_append] at hs1
 have h3:=h2 5 (by decide) (by decide) (by omega)
 have h5:=h4 6 (by decide) (by decide) (by omega)
 generalize T (x.args.getD 0 default) 5=t at *
 generalize T (x.args.getD 1 default) 6=u at *
 generalize symV x.op 5=sy at *
 clear h2 h4 ha e1 hs
 (apply Af.of tF mF [.tmp 4] kp40 [(1,[(1,.int .i64 fun _=>5,[])]),(3,[(1,.any,[])]),(5,[(5,.any,[])]),(7,[(4,.any,[])]),(13,[(4,.any,[]),(9,.any,[])]),(15,[(4,.any,[]),(9,.any,[]),(16,.any,[])]),(17,[(5,.str fun _=>t,[]),(10,.str fun _=>sy,[]),(19,.str fun _=>u,[])])] Tryz.func40 (fun _=>?_);(any_goals ((with_reducible refine wI ?_);cbv;(try dsimp only [nc] at *);(repeat' (with_reducible first|exact ‹False›.elim|exact nZ|refine oC ?_ ?_|refine VC.mk rfl ?_ ?_ ?_|(apply Ca.mk<;>intro _)|refine cV (fun _=>?_) fun _=>?_|((first|apply xE|apply uE);cbv;(try dsimp only [nc] at *)))))))
 all_goals (try (exact absurd ‹(5:Int)<need› (by omega)))
 all_goals (try (exact absurd trivial ‹¬True›))
 all_goals (try (exact absurd ‹x.op=3› o3))
 all_goals (try (exact absurd ‹x.op=16› o16))
 all_goals (try (exact absurd ‹x.op=25› o25))
 all_goals (try simp only [Int.toNat_zero,show Int.toNat 1=1 from rfl,w64 (show (-9223372036854775808:Int)≤5+1 by decide) (by decide)])
 any_goals ((with_reducible refine nO ?_);first|exact h1|exact h3|exact h5|exact h6)
 ((all_goals (try (with_reducible ((first|refine rE ?_|refine nE ?_);cbv;(try dsimp only [nc] at *);(try simp only [wl,nc]);(repeat' apply And.intro);all_goals (try exact wZ)))));(all_goals (try ((with_reducible rw [aC]);(try simp only [wl,nc]);(repeat' (with_reducible apply And.intro));(all_goals (try exact cZ))))))
 all_goals (try (simp only [ByteArray.size_append,bszL,List.length_cons,List.length_nil] at *;omega))
theorem alD (lit:V→ByteArray) (T:X→Int→ByteArray) (e D:Nat) (x:X) (need:Int) (ha:∀ i,i<x.args.length→ArgT T e D (x.args.getD i default)) (hl:2≤x.args.length) (hs:(aad lit T x).size≤1152921504606846976) (hb:need≤aa1 x.op) (e1:aa1 x.op=6) (o3:¬x.op=3) (o16:¬x.op=16) (o25:¬x.op=25) :
 Af Tryz.prog 40 [encX (e+1) (D+1) .any fun _=>x,.int .i64 fun _=>need] [] (.str fun _=>aad lit T x) []:=by
 have h1:=aan x e (D+1)
 have h2:=ha 0 (by omega)
 have h4:=ha 1 (by omega)
 have h6:=akr x.op
 unfold aad at hs ⊢
 rw [if_neg o3,if_neg o16,if_neg o25,e1] at hs ⊢
 rw [e1] at h1 hb
 rw [if_neg (by decide),if_pos (by decide)] at hs ⊢
 rw [show Int.toNat 6=6 from rfl,show (6:Int)+1=7 from rfl] at hs ⊢
 have hs1:=hs
 rw [ByteArray.size_append,ByteArray.size_append,ByteArray.size_append,ByteArray.size_append] at hs1
 have h3:=h2 6 (by decide) (by decide) (by omega)
 have h5:=h4 7 (by decide) (by decide) (by omega)
 generalize T (x.args.getD 0 default) 6=t at *
 generalize T (x.args.getD 1 default) 7=u at *
 generalize symV x.op 6=sy at *
 clear h2 h4 ha e1 hs
 (apply Af.of tF mF [.tmp 4] kp40 [(1,[(1,.int .i64 fun _=>6,[])]),(3,[(1,.any,[])]),(5,[(5,.any,[])]),(7,[(4,.any,[])]),(13,[(4,.any,[]),(9,.any,[])]),(15,[(4,.any,[]),(9,.any,[]),(16,.any,[])]),(17,[(5,.str fun _=>t,[]),(10,.str fun _=>sy,[]),(19,.str fun _=>u,[])])] Tryz.func40 (fun _=>?_);(any_goals ((with_reducible refine wI ?_);cbv;(try dsimp only [nc] at *);(repeat' (with_reducible first|exact ‹False›.elim|exact nZ|refine oC ?_ ?_|refine VC.mk rfl ?_ ?_ ?_|(apply Ca.mk<;>intro _)|refine cV (fun _=>?_) fun _=>?_|((first|apply xE|apply uE);cbv;(try dsimp only [nc] at *)))))))
 all_goals (try (exact absurd ‹(6:Int)<need› (by omega)))
 all_goals (try (exact absurd trivial ‹¬True›))
 all_goals (try (exact absurd ‹x.op=3› o3))
 all_goals (try (exact absurd ‹x.op=16› o16))
 all_goals (try (exact absurd ‹x.op=25› o25))
 all_goals (try simp only [Int.toNat_zero,show Int.toNat 1=1 from rfl,w64 (show (-9223372036854775808:Int)≤6+1 by decide) (by decide)])
 any_goals ((with_reducible refine nO ?_);first|exact h1|exact h3|exact h5|exact h6)
 ((all_goals (try (with_reducible ((first|refine rE ?_|refine nE ?_);cbv;(try dsimp only [nc] at *);(try simp only [wl,nc]);(repeat' apply And.intro);all_goals (try exact wZ)))));(all_goals (try ((with_reducible rw [aC]);(try simp only [wl,nc]);(repeat' (with_reducible apply And.intro));(all_goals (try exact cZ))))))
 all_goals (try (simp only [ByteArray.size_append,bszL,List.length_cons,List.length_nil] at *;omega))
theorem alC (lit:V→ByteArray) (T:X→Int→ByteArray) (e D:Nat) (x:X) (need:Int) (ha:∀ i,i<x.args.length→ArgT T e D (x.args.getD i default)) (hl:2≤x.args.length) (hs:(aad lit T x).size≤1152921504606846976) (hb:need≤aa1 x.op) (e1:aa1 x.op=7) (o3:¬x.op=3) (o16:¬x.op=16) (o25:¬x.op=25) :
 Af Tryz.prog 40 [encX (e+1) (D+1) .any fun _=>x,.int .i64 fun _=>need] [] (.str fun _=>aad lit T x) []:=by
 have h1:=aan x e (D+1)
 have h2:=ha 0 (by omega)
 have h4:=ha 1 (by omega)
 have h6:=akq x.op
 unfold aad at hs ⊢
 rw [if_neg o3,if_neg o16,if_neg o25,e1] at hs ⊢
 rw [e1] at h1 hb
 rw [if_neg (by decide),if_pos (by decide)] at hs ⊢
 rw [show Int.toNat 7=7 from rfl,show (7:Int)+1=8 from rfl] at hs ⊢
 have hs1:=hs
 rw [ByteArray.size_append,ByteArray.size_append,ByteArray.size_append,ByteArray.size_append] at hs1
 have h3:=h2 7 (by decide) (by decide) (by omega)
 have h5:=h4 8 (by decide) (by decide) (by omega)
 generalize T (x.args.getD 0 default) 7=t at *
 generalize T (x.args.getD 1 default) 8=u at *
 generalize symV x.op 7=sy at *
 clear h2 h4 ha e1 hs
 (apply Af.of tF mF [.tmp 4] kp40 [(1,[(1,.int .i64 fun _=>7,[])]),(3,[(1,.any,[])]),(5,[(5,.any,[])]),(7,[(4,.any,[])]),(13,[(4,.any,[]),(9,.any,[])]),(15,[(4,.any,[]),(9,.any,[]),(16,.any,[])]),(17,[(5,.str fun _=>t,[]),(10,.str fun _=>sy,[]),(19,.str fun _=>u,[])])] Tryz.func40 (fun _=>?_);(any_goals ((with_reducible refine wI ?_);cbv;(try dsimp only [nc] at *);(repeat' (with_reducible first|exact ‹False›.elim|exact nZ|refine oC ?_ ?_|refine VC.mk rfl ?_ ?_ ?_|(apply Ca.mk<;>intro _)|refine cV (fun _=>?_) fun _=>?_|((first|apply xE|apply uE);cbv;(try dsimp only [nc] at *)))))))
 all_goals (try (exact absurd ‹(7:Int)<need› (by omega)))
 all_goals (try (exact absurd trivial ‹¬True›))
 all_goals (try (exact absurd ‹x.op=3› o3))
 all_goals (try (exact absurd ‹x.op=16› o16))
 all_goals (try (exact absurd ‹x.op=25› o25))
 all_goals (try simp only [Int.toNat_zero,show Int.toNat 1=1 from rfl,w64 (show (-9223372036854775808:Int)≤7+1 by decide) (by decide)])
 any_goals ((with_reducible refine nO ?_);first|exact h1|exact h3|exact h5|exact h6)
 ((all_goals (try (with_reducible ((first|refine rE ?_|refine nE ?_);cbv;(try dsimp only [nc] at *);(try simp only [wl,nc]);(repeat' apply And.intro);all_goals (try exact wZ)))));(all_goals (try ((with_reducible rw [aC]);(try simp only [wl,nc]);(repeat' (with_reducible apply And.intro));(all_goals (try exact cZ))))))
 all_goals (try (simp only [ByteArray.size_append,bszL,List.length_cons,List.length_nil] at *;omega))
theorem text_val (lit:V→ByteArray) (er:Int) (T:X→Int→ByteArray) (e D:Nat) (x:X) (need:Int) (hl:1≤x.value.length) (h3:Af Tryz.prog 48 [encV (e+1) .any fun _=>x.value.getD 0 default] [] (.tup [.str fun _=>lit (x.value.getD 0 default),.int .i64 fun _=>er]) []) (hb:need≤aa1 x.op) (ho:x.op=1) :
 Af Tryz.prog 40 [encX (e+1) (D+1) .any fun _=>x,.int .i64 fun _=>need] [] (.str fun _=>aad lit T x) []:=by
 have h1:=aan x e (D+1)
 have e1:aa1 x.op=9:=by rw [ho];rfl
 unfold aad
 rw [if_neg (by omega),if_neg (by omega),if_neg (by omega),e1,if_neg (by decide),if_neg (by decide),if_pos ho]
 rw [e1] at h1 hb
 generalize lit (x.value.getD 0 default)=t at *
 clear e1
 (apply Af.of tF mF [.tmp 4] kp40 [(1,[(1,.int .i64 fun _=>9,[])]),(3,[(1,.any,[])]),(5,[(5,.any,[])]),(7,[(4,.any,[])]),(13,[(4,.any,[]),(9,.any,[])]),(15,[(4,.any,[]),(9,.any,[]),(16,.any,[])]),(17,[(5,.any,[]),(10,.any,[]),(19,.any,[])]),(19,[(4,.tup [.str fun _=>t,.int .i64 fun _=>er],[])]),(25,[(2,.any,[])]),(27,[(3,.any,[])])] Tryz.func40 (fun _=>?_);(any_goals ((with_reducible refine wI ?_);cbv;(try dsimp only [nc] at *);(repeat' (with_reducible first|exact ‹False›.elim|exact nZ|refine oC ?_ ?_|refine VC.mk rfl ?_ ?_ ?_|(apply Ca.mk<;>intro _)|refine cV (fun _=>?_) fun _=>?_|((first|apply xE|apply uE);cbv;(try dsimp only [nc] at *)))))))
 all_goals (try (exact absurd ‹(9:Int)<need› (by omega)))
 all_goals (try (exfalso;omega))
 all_goals (try simp only [Int.toNat_zero])
 any_goals ((with_reducible refine nO ?_);first|exact h1|exact h3)
 (all_goals exact eZ)
theorem alA (lit:V→ByteArray) (T:X→Int→ByteArray) (e D:Nat) (x:X) (need:Int) (hb:need≤aa1 x.op) (ho:x.op=2) :
 Af Tryz.prog 40 [encX (e+1) (D+1) .any fun _=>x,.int .i64 fun _=>need] [] (.str fun _=>aad lit T x) []:=by
 have h1:=aan x e (D+1)
 have e1:aa1 x.op=9:=by rw [ho];rfl
 unfold aad
 rw [if_neg (by omega),if_neg (by omega),if_neg (by omega),e1,if_neg (by decide),if_neg (by decide),if_neg (by omega),if_pos ho]
 rw [e1] at h1 hb
 clear e1
 (apply Af.of tF mF [.tmp 4] kp40 [(1,[(1,.int .i64 fun _=>9,[])]),(3,[(1,.any,[])]),(5,[(5,.any,[])]),(7,[(4,.any,[])]),(13,[(4,.any,[]),(9,.any,[])]),(15,[(4,.any,[]),(9,.any,[]),(16,.any,[])]),(17,[(5,.any,[]),(10,.any,[]),(19,.any,[])]),(19,[(4,.any,[])]),(25,[(2,.any,[])]),(27,[(3,.any,[])])] Tryz.func40 (fun _=>?_);(any_goals ((with_reducible refine wI ?_);cbv;(try dsimp only [nc] at *);(repeat' (with_reducible first|exact ‹False›.elim|exact nZ|refine oC ?_ ?_|refine VC.mk rfl ?_ ?_ ?_|(apply Ca.mk<;>intro _)|refine cV (fun _=>?_) fun _=>?_|((first|apply xE|apply uE);cbv;(try dsimp only [nc] at *)))))))
 all_goals (try (exact absurd ‹(9:Int)<need› (by omega)))
 all_goals (try (exfalso;omega))
 any_goals ((with_reducible refine nO ?_);exact h1)
 (all_goals exact eZ)
theorem text_in (lit:V→ByteArray) (T:X→Int→ByteArray) (e D:Nat) (x:X) (need:Int) (ha:∀ i,i<x.args.length→ArgT T e D (x.args.getD i default)) (hl:1≤x.args.length) (hm:x.args.length≤1073741824) (hs:(aad lit T x).size≤1099511627776) (hb:need≤aa1 x.op) (ho:x.op=25)
 (hj:∀ (ts:List ByteArray) (t:ByteArray),t ∈ ts→t.size≤(aax ts aam).size) :
 Af Tryz.prog 40 [encX (e+1) (D+1) .any fun _=>x,.int .i64 fun _=>need] [] (.str fun _=>aad lit T x) []:=by
 have h1:=aan x e (D+1)
 have e1:aa1 x.op=4:=by rw [ho];rfl
 have h2:=ha 0 (by omega)
 unfold aad at hs ⊢
 rw [if_neg (by omega),if_neg (by omega),if_pos ho] at hs ⊢
 rw [e1] at h1 hb
 have hs1:=hs
 rw [ByteArray.size_append,ByteArray.size_append,ByteArray.size_append] at hs1
 have h3:=h2 5 (by decide) (by decide) (by omega)
 have h4:=amM (fun y=>T y 0) e D (x.args.drop 1) (by rw [List.length_drop];omega) (fun i hi=>by
  rw [List.length_drop] at hi
  have e2:(x.args.drop 1).getD i default=x.args.getD (1+i) default:=by rw [List.getD_eq_getElem?_getD,List.getElem?_drop,List.getD_eq_getElem?_getD]
  have hq:=hj ((x.args.drop 1).map fun y=>T y 0) (T (x.args.getD (1+i) default) 0) (by
   rw [← e2]
   refine List.mem_map.2 ⟨_,?_,rfl⟩
   simp only [List.getD,List.getElem?_eq_getElem (show i<(x.args.drop 1).length by rw [List.length_drop];omega)]
   exact List.getElem_mem _)
  rw [e2]
  exact ha (1+i) (by omega) 0 (by decide) (by decide) (by omega)) (by omega)
 have e3:∀ i,(x.args.drop 1).getD i default=x.args.getD (1+i) default:=fun i=>by rw [List.getD_eq_getElem?_getD,List.getElem?_drop,List.getD_eq_getElem?_getD]
 generalize aax ((x.args.drop 1).map fun y=>T y 0) aam=u at *
 generalize T (x.args.getD 0 default) 5=t at *
 have e4:(x.args.drop 1).length=x.args.length - 1:=List.length_drop
 unfold slcX at h4
 simp only [e3,e4] at h4
 clear h2 ha e1 hs hj e3
 (apply Af.of tF mF [.tmp 4] kp40 [(1,[(1,.int .i64 fun _=>4,[])]),(3,[(1,.any,[])]),(5,[(5,.any,[])]),(7,[(4,.any,[])]),(13,[(4,.str fun _=>t,[]),(9,.str fun _=>u,[])]),(15,[(4,.any,[]),(9,.any,[]),(16,.any,[])])] Tryz.func40 (fun _=>?_);(any_goals ((with_reducible refine wI ?_);cbv;(try dsimp only [nc] at *);(repeat' (with_reducible first|exact ‹False›.elim|exact nZ|refine oC ?_ ?_|refine VC.mk rfl ?_ ?_ ?_|(apply Ca.mk<;>intro _)|refine cV (fun _=>?_) fun _=>?_|((first|apply xE|apply uE);cbv;(try dsimp only [nc] at *)))))))
 all_goals (try (exact absurd ‹(4:Int)<need› (by omega)))
 all_goals (try (exact absurd ‹x.op=3› (by omega)))
 all_goals (try (exact absurd ‹x.op=16› (by omega)))
 all_goals (try (exact absurd ho ‹¬x.op=25›))
 all_goals (try simp only [Int.toNat_zero])
 any_goals ((with_reducible refine nO ?_);first|exact h1|exact h3|exact h4)
 ((all_goals (try (with_reducible ((first|refine rE ?_|refine nE ?_);cbv;(try dsimp only [nc] at *);(try simp only [wl,nc]);(repeat' apply And.intro);all_goals (try exact wZ)))));(all_goals (try ((with_reducible rw [aC]);(try simp only [wl,nc]);(repeat' (with_reducible apply And.intro));(all_goals (try exact cZ))))))
 all_goals (try (simp only [ByteArray.size_append,bszL,inB,List.length_cons,List.length_nil] at *;omega))
 all_goals rfl
end Go.Ai
