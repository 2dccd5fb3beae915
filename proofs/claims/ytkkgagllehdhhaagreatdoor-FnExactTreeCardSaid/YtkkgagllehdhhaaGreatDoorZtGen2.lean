/- What Go's functions compute, as plain functions, and that they do. No condition. -/
import Derived.Test.YtkkgagllehdhhaaGreatDoorZtGen1
set_option linter.unusedVariables false
set_option maxRecDepth 100000
namespace Go.Am.Tryz
open Go.Am Go.Proofs

noncomputable section
variable {α : Type} (F : Par) (κ : Ex → St → Option α) (n : Nat)
/-! ### impl.TxOf -/
noncomputable def impl_TxOf_C : List (Nat × Any) := [(197, strings_Cut_con), (198, impl_Number_con), (222, impl_TxOk_con), (267, impl_TxText_con)]
noncomputable def impl_TxOf_H : Nat → Option Hint := look []
noncomputable def impl_TxOf (s : ByteArray) : Option (Args [(K3, true), (.bool, false)]) := runF Tryz.prog (look impl_TxOf_C) F impl_TxOf_H Tryz.f241 [(.str, false)] [(K3, true), (.bool, false)] 1 (s, ())
theorem impl_TxOf_eq (s : ByteArray) : impl_TxOf F0 s = (strings_Cut F0 s (ByteArray.mk #[62])).bind fun r18_0 => (strings_Cut F0 r18_0.2.1 (ByteArray.mk #[58])).bind fun r24_0 => (strings_Cut F0 r24_0.2.1 (ByteArray.mk #[35])).bind fun r30_0 => ck (okI 0 4) ((impl_Number F0 (at_ [r18_0.1, r24_0.1, r30_0.1, r30_0.2.1] 0 ByteArray.empty)).bind fun r48_1 => ck (okI 1 4) ((impl_Number F0 (at_ [r18_0.1, r24_0.1, r30_0.1, r30_0.2.1] 1 ByteArray.empty)).bind fun r48_2 => ck (okI 2 4) ((impl_Number F0 (at_ [r18_0.1, r24_0.1, r30_0.1, r30_0.2.1] 2 ByteArray.empty)).bind fun r48_3 => ck (okI 3 4) ((impl_Number F0 (at_ [r18_0.1, r24_0.1, r30_0.1, r30_0.2.1] 3 ByteArray.empty)).bind fun r48_4 => (impl_TxOk F0 (r48_1.1, (r48_2.1, (r48_3.1, r48_4.1)))).bind fun r63_5 => br (!r63_5.1) (some ((0, (0, (0, 0))), false, ())) ((impl_TxText F0 (r48_1.1, (r48_2.1, (r48_3.1, r48_4.1)))).bind fun r67_5 => br (!(r67_5.1.toList == s.toList)) (some ((0, (0, (0, 0))), false, ())) (some ((r48_1.1, (r48_2.1, (r48_3.1, r48_4.1))), true, ()))))))) := by kernel_rfl
noncomputable def impl_TxOf_con : Any := .one ⟨[(.str, false)], [(K3, true), (.bool, false)], 1, fun x => impl_TxOf F0 x.1⟩
theorem impl_TxOf_ok : AnyOk Tryz.prog TB 241 impl_TxOf_con := ok1 (show AllOk Tryz.prog TB impl_TxOf_C from ⟨strings_Cut_ok, impl_Number_ok, impl_TxOk_ok, impl_TxText_ok, trivial⟩) Tryz.func241 (by kernel_rfl) (by kernel_rfl) impl_TxOf_H (by kernel_rfl)

/-! ### impl.TxsOf -/
noncomputable def impl_TxsOf_C : List (Nat × Any) := [(196, impl_Split_con), (241, impl_TxOf_con)]
noncomputable def impl_TxsOf_H : Nat → Option Hint := look [(5, { live := [4, 12, 13, 14], mat := [(4, 126, K3)], xl := [4], rl := [2, 3] })]
noncomputable def impl_TxsOf_1_s (t12 : List ByteArray) (t13 : Int) (t14 : Int) (xs : List D3) : St := { nt := 31, tm := [(4, .v (.c (.own 1000000 none))), (12, .v (.c (.ro true 9 (.str) t12))), (13, .v (.c (.int .i64 t13))), (14, .v (.c (.int .i64 t14)))], bx := [], bl := [(1000000, some ⟨126, K3, xs, true, true⟩)] }
noncomputable def impl_TxsOf_1_r (t3 : Bool) : St := { nt := 31, tm := [(2, .v (.c (.nil))), (3, .v (.c (.bool t3)))], bx := [], bl := [] }
noncomputable def impl_TxsOf_1_e0 (xs : List D3) : St := { nt := 31, tm := [(4, .v (.c (.own 1000000 none)))], bx := [], bl := [(1000000, some ⟨126, K3, xs, true, true⟩)] }
noncomputable def impl_TxsOf_1 (st : St) : Option α := lp Tryz.prog (look impl_TxsOf_C) F impl_TxsOf_H (sub [.r, .r, .r, .l, .r, .b, .i] (codeOf Tryz.f199)) κ n st
noncomputable def impl_TxsOf_1_k : Ex → St → Option (Args [(K4, false), (.bool, false)]) := cont Tryz.prog (look impl_TxsOf_C) F impl_TxsOf_H [.r, .r, .r, .l, .r, .b] (codeOf Tryz.f199) (fin Tryz.prog Tryz.f199 [(K4, false), (.bool, false)] 2)
theorem impl_TxsOf_1_step (t12 : List ByteArray) (t13 : Int) (t14 : Int) (xs : List D3) : impl_TxsOf_1 F κ (n + 1) (impl_TxsOf_1_s t12 t13 t14 xs) = br (decide (t14 < t13)) (ck (okI t14 (t12.length : Int)) ((impl_TxOf F0 (at_ t12 t14 ByteArray.empty)).bind fun r20 => br (!r20.2.1) (κ .ret (impl_TxsOf_1_r false)) (ck (okA F xs.length [r20.1].length 32) (impl_TxsOf_1 F κ n (impl_TxsOf_1_s t12 t13 (w64 (t14 + 1)) (xs ++ [r20.1])))))) (κ (.exit 0) (impl_TxsOf_1_e0 xs)) := by kernel_rfl
theorem impl_TxsOf_1_cr (t3 : Bool) : impl_TxsOf_1_k F .ret (impl_TxsOf_1_r t3) = some ([], t3, ()) := by kernel_rfl
theorem impl_TxsOf_1_ce0 (xs : List D3) : impl_TxsOf_1_k F (.exit 0) (impl_TxsOf_1_e0 xs) = some (xs, true, ()) := by kernel_rfl
noncomputable def impl_TxsOf (s : ByteArray) : Option (Args [(K4, false), (.bool, false)]) := runF Tryz.prog (look impl_TxsOf_C) F impl_TxsOf_H Tryz.f199 [(.str, false)] [(K4, false), (.bool, false)] 2 (s, ())
theorem impl_TxsOf_eq (s : ByteArray) : impl_TxsOf F s = br (s.toList == (ByteArray.mk #[]).toList) (some ([], true, ())) ((impl_Split F0 s 44).bind fun r12 => impl_TxsOf_1 F (impl_TxsOf_1_k F) F.n (impl_TxsOf_1_s r12.1 (r12.1.length : Int) 0 [])) := by kernel_rfl
noncomputable def impl_TxsOf_con : Any := .one ⟨[(.str, false)], [(K4, false), (.bool, false)], 2, fun x => impl_TxsOf F0 x.1⟩
theorem impl_TxsOf_ok : AnyOk Tryz.prog TB 199 impl_TxsOf_con := ok1 (show AllOk Tryz.prog TB impl_TxsOf_C from ⟨impl_Split_ok, impl_TxOf_ok, trivial⟩) Tryz.func199 (by kernel_rfl) (by kernel_rfl) impl_TxsOf_H (by kernel_rfl)

/-! ### impl.Steps -/
noncomputable def impl_Steps_C : List (Nat × Any) := [(121, impl_within_con), (196, impl_Split_con), (197, strings_Cut_con), (198, impl_Number_con), (199, impl_TxsOf_con)]
noncomputable def impl_Steps_H : Nat → Option Hint := look [(9, { live := [5, 6, 31, 32, 33], mat := [(5, 196, K5)], xl := [5], rl := [2, 3] })]
noncomputable def impl_Steps_1_s (last : Int) (t31 : List ByteArray) (t32 : Int) (t33 : Int) (xs : List D5) : St := { nt := 84, tm := [(5, .v (.c (.own 1000000 none))), (6, .v (.c (.int .i64 last))), (31, .v (.c (.ro true 9 (.str) t31))), (32, .v (.c (.int .i64 t32))), (33, .v (.c (.int .i64 t33)))], bx := [], bl := [(1000000, some ⟨196, K5, xs, true, true⟩)] }
noncomputable def impl_Steps_1_r (t3 : Bool) : St := { nt := 84, tm := [(2, .v (.c (.nil))), (3, .v (.c (.bool t3)))], bx := [], bl := [] }
noncomputable def impl_Steps_1_e0 (xs : List D5) : St := { nt := 84, tm := [(5, .v (.c (.own 1000000 none)))], bx := [], bl := [(1000000, some ⟨196, K5, xs, true, true⟩)] }
noncomputable def impl_Steps_1 (st : St) : Option α := lp Tryz.prog (look impl_Steps_C) F impl_Steps_H (sub [.r, .r, .r, .r, .r, .r, .l, .r, .b, .i] (codeOf Tryz.f141)) κ n st
noncomputable def impl_Steps_1_k : Ex → St → Option (Args [(K6, false), (.bool, false)]) := cont Tryz.prog (look impl_Steps_C) F impl_Steps_H [.r, .r, .r, .r, .r, .r, .l, .r, .b] (codeOf Tryz.f141) (fin Tryz.prog Tryz.f141 [(K6, false), (.bool, false)] 2)
theorem impl_Steps_1_step (last : Int) (t31 : List ByteArray) (t32 : Int) (t33 : Int) (xs : List D5) : impl_Steps_1 F κ (n + 1) (impl_Steps_1_s last t31 t32 t33 xs) = br (decide (t33 < t32)) (ck (okI t33 (t31.length : Int)) ((strings_Cut F0 (at_ t31 t33 ByteArray.empty) (ByteArray.mk #[124])).bind fun r39 => (impl_Number F0 r39.1).bind fun r45 => (impl_TxsOf F0 r39.2.1).bind fun r50 => br (!r39.2.2.1) (κ .ret (impl_Steps_1_r false)) (br (!r45.2.1) (κ .ret (impl_Steps_1_r false)) (br (!r50.2.1) (κ .ret (impl_Steps_1_r false)) ((impl_within F0 r45.1 (w64 (last + 1)) 60).bind fun r67 => br (!r67.1) (κ .ret (impl_Steps_1_r false)) (br (decide ((r50.1.length : Int) > 2)) (κ .ret (impl_Steps_1_r false)) (ck (okA F xs.length [(r45.1, r50.1)].length 32) (impl_Steps_1 F κ n (impl_Steps_1_s r45.1 t31 t32 (w64 (t33 + 1)) (xs ++ [(r45.1, r50.1)])))))))))) (κ (.exit 0) (impl_Steps_1_e0 xs)) := by kernel_rfl
theorem impl_Steps_1_cr (t3 : Bool) : impl_Steps_1_k F .ret (impl_Steps_1_r t3) = some ([], t3, ()) := by kernel_rfl
theorem impl_Steps_1_ce0 (xs : List D5) : impl_Steps_1_k F (.exit 0) (impl_Steps_1_e0 xs) = some (xs, true, ()) := by kernel_rfl
noncomputable def impl_Steps (s : ByteArray) : Option (Args [(K6, false), (.bool, false)]) := runF Tryz.prog (look impl_Steps_C) F impl_Steps_H Tryz.f141 [(.str, false)] [(K6, false), (.bool, false)] 2 (s, ())
theorem impl_Steps_eq (s : ByteArray) : impl_Steps F s = br (s.toList == (ByteArray.mk #[]).toList) (some ([], true, ())) ((impl_Split F0 s 47).bind fun r19 => ck (okI 0 (r19.1.length : Int)) (br (!((at_ r19.1 0 ByteArray.empty).toList == (ByteArray.mk #[]).toList)) (some ([], false, ())) (br (decide ((w64 ((r19.1.length : Int) - 1)) > 30)) (some ([], false, ())) (ck (okS 1 (r19.1.length : Int) (r19.1.length : Int)) (impl_Steps_1 F (impl_Steps_1_k F) F.n (impl_Steps_1_s 0 ((r19.1.take (r19.1.length : Int).toNat).drop (1 : Int).toNat) (((r19.1.take (r19.1.length : Int).toNat).drop (1 : Int).toNat).length : Int) 0 [])))))) := by kernel_rfl
noncomputable def impl_Steps_con : Any := .one ⟨[(.str, false)], [(K6, false), (.bool, false)], 2, fun x => impl_Steps F0 x.1⟩
theorem impl_Steps_ok : AnyOk Tryz.prog TB 141 impl_Steps_con := ok1 (show AllOk Tryz.prog TB impl_Steps_C from ⟨impl_within_ok, impl_Split_ok, strings_Cut_ok, impl_Number_ok, impl_TxsOf_ok, trivial⟩) Tryz.func141 (by kernel_rfl) (by kernel_rfl) impl_Steps_H (by kernel_rfl)

/-! ### impl.NameOk -/
noncomputable def impl_NameOk_C : List (Nat × Any) := [(141, impl_Steps_con)]
noncomputable def impl_NameOk_H : Nat → Option Hint := look []
noncomputable def impl_NameOk (s : ByteArray) : Option (Args [(.bool, false)]) := runF Tryz.prog (look impl_NameOk_C) F impl_NameOk_H Tryz.f162 [(.str, false)] [(.bool, false)] 1 (s, ())
theorem impl_NameOk_eq (s : ByteArray) : impl_NameOk F s = (impl_Steps F0 s).bind fun r7 => some (r7.2.1, ()) := by kernel_rfl
noncomputable def impl_NameOk_con : Any := .one ⟨[(.str, false)], [(.bool, false)], 1, fun x => impl_NameOk F0 x.1⟩
theorem impl_NameOk_ok : AnyOk Tryz.prog TB 162 impl_NameOk_con := ok1 (show AllOk Tryz.prog TB impl_NameOk_C from ⟨impl_Steps_ok, trivial⟩) Tryz.func162 (by kernel_rfl) (by kernel_rfl) impl_NameOk_H (by kernel_rfl)

/-! ### impl.ViewOf -/
noncomputable def impl_ViewOf_C : List (Nat × Any) := [(141, impl_Steps_con)]
noncomputable def impl_ViewOf_H : Nat → Option Hint := look []
noncomputable def impl_ViewOf (s : ByteArray) : Option (Args [(.int .i64, false)]) := runF Tryz.prog (look impl_ViewOf_C) F impl_ViewOf_H Tryz.f163 [(.str, false)] [(.int .i64, false)] 1 (s, ())
theorem impl_ViewOf_eq (s : ByteArray) : impl_ViewOf F s = (impl_Steps F0 s).bind fun r7 => br ((r7.1.length : Int) == 0) (some (0, ())) (ck (okI (w64 ((r7.1.length : Int) - 1)) (r7.1.length : Int)) (some ((at_ r7.1 (w64 ((r7.1.length : Int) - 1)) (0, [])).1, ()))) := by kernel_rfl
noncomputable def impl_ViewOf_con : Any := .one ⟨[(.str, false)], [(.int .i64, false)], 1, fun x => impl_ViewOf F0 x.1⟩
theorem impl_ViewOf_ok : AnyOk Tryz.prog TB 163 impl_ViewOf_con := ok1 (show AllOk Tryz.prog TB impl_ViewOf_C from ⟨impl_Steps_ok, trivial⟩) Tryz.func163 (by kernel_rfl) (by kernel_rfl) impl_ViewOf_H (by kernel_rfl)

/-! ### impl.SetOk -/
noncomputable def impl_SetOk_C : List (Nat × Any) := []
noncomputable def impl_SetOk_H : Nat → Option Hint := look [(2, { live := [0, 1, 7, 8, 9], rl := [4] })]
noncomputable def impl_SetOk_1_s (n1 : Int) (s : List Int) (t7 : List Int) (t8 : Int) (t9 : Int) : St := { nt := 35, tm := [(0, .v (.c (.int .i64 n1))), (1, .v (.c (.ro false 3 (.int .i64) s))), (7, .v (.c (.ro false 3 (.int .i64) t7))), (8, .v (.c (.int .i64 t8))), (9, .v (.c (.int .i64 t9)))], bx := [], bl := [] }
noncomputable def impl_SetOk_1_r (t4 : Bool) : St := { nt := 35, tm := [(4, .v (.c (.bool t4)))], bx := [], bl := [] }
noncomputable def impl_SetOk_1_e0  : St := { nt := 35, tm := [], bx := [], bl := [] }
noncomputable def impl_SetOk_1 (st : St) : Option α := lp Tryz.prog (look impl_SetOk_C) F impl_SetOk_H (sub [.r, .l, .r, .b, .i] (codeOf Tryz.f159)) κ n st
noncomputable def impl_SetOk_1_k : Ex → St → Option (Args [(.bool, false)]) := cont Tryz.prog (look impl_SetOk_C) F impl_SetOk_H [.r, .l, .r, .b] (codeOf Tryz.f159) (fin Tryz.prog Tryz.f159 [(.bool, false)] 1)
theorem impl_SetOk_1_step (n1 : Int) (s : List Int) (t7 : List Int) (t8 : Int) (t9 : Int) : impl_SetOk_1 F κ (n + 1) (impl_SetOk_1_s n1 s t7 t8 t9) = br (decide (t9 < t8)) (ck (okI t9 (t7.length : Int)) (br (decide ((at_ t7 t9 0) < 0)) (κ .ret (impl_SetOk_1_r false)) (br (decide ((at_ t7 t9 0) ≥ n1)) (κ .ret (impl_SetOk_1_r false)) (br (decide (t9 > 0)) (ck (okI (w64 (t9 - 1)) (s.length : Int)) (br (decide ((at_ s (w64 (t9 - 1)) 0) ≥ (at_ t7 t9 0))) (κ .ret (impl_SetOk_1_r false)) (impl_SetOk_1 F κ n (impl_SetOk_1_s n1 s t7 t8 (w64 (t9 + 1)))))) (impl_SetOk_1 F κ n (impl_SetOk_1_s n1 s t7 t8 (w64 (t9 + 1)))))))) (κ (.exit 0) (impl_SetOk_1_e0 )) := by kernel_rfl
theorem impl_SetOk_1_cr (t4 : Bool) : impl_SetOk_1_k F .ret (impl_SetOk_1_r t4) = some (t4, ()) := by kernel_rfl
theorem impl_SetOk_1_ce0  : impl_SetOk_1_k F (.exit 0) (impl_SetOk_1_e0 ) = some (true, ()) := by kernel_rfl
noncomputable def impl_SetOk (n1 : Int) (s : List Int) : Option (Args [(.bool, false)]) := runF Tryz.prog (look impl_SetOk_C) F impl_SetOk_H Tryz.f159 [(.int .i64, false), (.sl 3 (.int .i64), false)] [(.bool, false)] 1 (n1, s, ())
theorem impl_SetOk_eq (n1 : Int) (s : List Int) : impl_SetOk F n1 s = impl_SetOk_1 F (impl_SetOk_1_k F) F.n (impl_SetOk_1_s n1 s s (s.length : Int) 0) := by kernel_rfl
noncomputable def impl_SetOk_con : Any := .one ⟨[(.int .i64, false), (.sl 3 (.int .i64), false)], [(.bool, false)], 1, fun x => impl_SetOk F0 x.1 x.2.1⟩
theorem impl_SetOk_ok : AnyOk Tryz.prog TB 159 impl_SetOk_con := ok1 (show AllOk Tryz.prog TB impl_SetOk_C from trivial) Tryz.func159 (by kernel_rfl) (by kernel_rfl) impl_SetOk_H (by kernel_rfl)

/-! ### impl.Faults -/
noncomputable def impl_Faults_C : List (Nat × Any) := [(57, impl_ConfOk_con)]
noncomputable def impl_Faults_H : Nat → Option Hint := look []
noncomputable def impl_Faults (c : D1) : Option (Args [(.int .i64, false)]) := runF Tryz.prog (look impl_Faults_C) F impl_Faults_H Tryz.f160 [(K1, true)] [(.int .i64, false)] 1 (c, ())
theorem impl_Faults_eq (c : D1) : impl_Faults F c = (impl_ConfOk F0 c).bind fun r4 => br (!r4.1) (some (0, ())) (some (w64 (Int.tdiv (w64 (c.1 - 1)) 3), ())) := by kernel_rfl
noncomputable def impl_Faults_con : Any := .one ⟨[(K1, true)], [(.int .i64, false)], 1, fun x => impl_Faults F0 x.1⟩
theorem impl_Faults_ok : AnyOk Tryz.prog TB 160 impl_Faults_con := ok1 (show AllOk Tryz.prog TB impl_Faults_C from ⟨impl_ConfOk_ok, trivial⟩) Tryz.func160 (by kernel_rfl) (by kernel_rfl) impl_Faults_H (by kernel_rfl)

/-! ### impl.Quorum -/
noncomputable def impl_Quorum_C : List (Nat × Any) := [(57, impl_ConfOk_con), (160, impl_Faults_con)]
noncomputable def impl_Quorum_H : Nat → Option Hint := look []
noncomputable def impl_Quorum (c : D1) : Option (Args [(.int .i64, false)]) := runF Tryz.prog (look impl_Quorum_C) F impl_Quorum_H Tryz.f186 [(K1, true)] [(.int .i64, false)] 1 (c, ())
theorem impl_Quorum_eq (c : D1) : impl_Quorum F c = (impl_ConfOk F0 c).bind fun r4 => br (!r4.1) (some (0, ())) ((impl_Faults F0 c).bind fun r9 => some (w64 (c.1 - r9.1), ())) := by kernel_rfl
noncomputable def impl_Quorum_con : Any := .one ⟨[(K1, true)], [(.int .i64, false)], 1, fun x => impl_Quorum F0 x.1⟩
theorem impl_Quorum_ok : AnyOk Tryz.prog TB 186 impl_Quorum_con := ok1 (show AllOk Tryz.prog TB impl_Quorum_C from ⟨impl_ConfOk_ok, impl_Faults_ok, trivial⟩) Tryz.func186 (by kernel_rfl) (by kernel_rfl) impl_Quorum_H (by kernel_rfl)

/-! ### impl.QcOk -/
noncomputable def impl_QcOk_C : List (Nat × Any) := [(57, impl_ConfOk_con), (159, impl_SetOk_con), (162, impl_NameOk_con), (163, impl_ViewOf_con), (184, impl_QcSame_con), (185, impl_QcFirst_con), (186, impl_Quorum_con)]
noncomputable def impl_QcOk_H : Nat → Option Hint := look []
noncomputable def impl_QcOk (c : D1) (q : D8) : Option (Args [(.bool, false)]) := runF Tryz.prog (look impl_QcOk_C) F impl_QcOk_H Tryz.f129 [(K1, true), (K8, true)] [(.bool, false)] 1 (c, q, ())
theorem impl_QcOk_eq (c : D1) (q : D8) : impl_QcOk F c q = (impl_ConfOk F0 c).bind fun r6 => br (!r6.1) (some (false, ())) ((impl_QcFirst F0 ).bind fun r9 => (impl_QcSame F0 q r9.1).bind fun r10 => br r10.1 (some (true, ())) (br (decide (q.1 ≥ 1)) ((impl_NameOk F0 q.2.1).bind fun r18 => br r18.1 ((impl_ViewOf F0 q.2.1).bind fun r25 => br (q.1 == r25.1) ((impl_SetOk F0 c.1 q.2.2).bind fun r33 => br r33.1 ((impl_Quorum F0 c).bind fun r40 => some (decide ((q.2.2.length : Int) ≥ r40.1), ())) (some (false, ()))) (some (false, ()))) (some (false, ()))) (some (false, ())))) := by kernel_rfl
noncomputable def impl_QcOk_con : Any := .one ⟨[(K1, true), (K8, true)], [(.bool, false)], 1, fun x => impl_QcOk F0 x.1 x.2.1⟩
theorem impl_QcOk_ok : AnyOk Tryz.prog TB 129 impl_QcOk_con := ok1 (show AllOk Tryz.prog TB impl_QcOk_C from ⟨impl_ConfOk_ok, impl_SetOk_ok, impl_NameOk_ok, impl_ViewOf_ok, impl_QcSame_ok, impl_QcFirst_ok, impl_Quorum_ok, trivial⟩) Tryz.func129 (by kernel_rfl) (by kernel_rfl) impl_QcOk_H (by kernel_rfl)

/-! ### impl.PartQc -/
noncomputable def impl_PartQc_C : List (Nat × Any) := [(128, impl_copyQc_con), (129, impl_QcOk_con)]
noncomputable def impl_PartQc_H : Nat → Option Hint := look []
noncomputable def impl_PartQc (c : D1) (p : D8) : Option (Args [(K8, true), (.bool, false)]) := runF Tryz.prog (look impl_PartQc_C) F impl_PartQc_H Tryz.f63 [(K1, true), (K8, true)] [(K8, true), (.bool, false)] 2 (c, p, ())
theorem impl_PartQc_eq (c : D1) (p : D8) : impl_PartQc F c p = (impl_copyQc F0 p).bind fun r14 => (impl_QcOk F0 c r14.1).bind fun r17 => br (!r17.1) (some ((0, ((ByteArray.mk #[]), [])), false, ())) (br (r14.1.1 == 0) (some ((0, ((ByteArray.mk #[]), [])), false, ())) (some (r14.1, true, ()))) := by kernel_rfl
noncomputable def impl_PartQc_con : Any := .one ⟨[(K1, true), (K8, true)], [(K8, true), (.bool, false)], 2, fun x => impl_PartQc F0 x.1 x.2.1⟩
theorem impl_PartQc_ok : AnyOk Tryz.prog TB 63 impl_PartQc_con := ok1 (show AllOk Tryz.prog TB impl_PartQc_C from ⟨impl_copyQc_ok, impl_QcOk_ok, trivial⟩) Tryz.func63 (by kernel_rfl) (by kernel_rfl) impl_PartQc_H (by kernel_rfl)

/-! ### impl.Tree -/
noncomputable def impl_Tree_C : List (Nat × Any) := [(57, impl_ConfOk_con), (58, impl_Sits_con), (59, impl_SetHas_con), (60, impl_SetAdd_con), (61, impl_Up_con), (62, impl_SetJoin_con), (63, impl_PartQc_con), (64, impl_Root_con)]
noncomputable def impl_Tree_H : Nat → Option Hint := look [(5, { live := [1, 2, 3, 4, 8, 10, 11], matB := [(8, 2, 3, .int .i64)], xl := [1, 4, 8, 10], rl := [8, 9] })]
noncomputable def impl_Tree_1_s (view : Int) (name : ByteArray) (who : List Int) (seat : Int) (c : Int) (c1 : Int) (t8 : Int) (t81 : ByteArray) (xs : List D8) (xs1 : List Int) : St := { nt := 85, tm := [(1, .v (.c (.int .i64 view))), (2, .v (.c (.str name))), (3, .v (.c (.ro false 3 (.int .i64) who))), (4, .v (.c (.ptr 4 0))), (8, .v (.c (.ptr 8 0))), (10, .v (.c (.own 1000000 none))), (11, .v (.c (.int .i64 seat)))], bx := [(4, [.int .i64 c, .int .i64 c1]), (8, [.int .i64 t8, .str t81, .own 1000001 none])], bl := [(1000000, some ⟨85, K8, xs, true, true⟩), (1000001, some ⟨3, .int .i64, xs1, true, true⟩)] }
noncomputable def impl_Tree_1_e0 (view : Int) (c : Int) (c1 : Int) (t8 : Int) (t81 : ByteArray) (xs : List D8) (xs1 : List Int) : St := { nt := 85, tm := [(1, .v (.c (.int .i64 view))), (4, .v (.c (.ptr 4 0))), (8, .v (.c (.ptr 8 0))), (10, .v (.c (.own 1000000 none)))], bx := [(4, [.int .i64 c, .int .i64 c1]), (8, [.int .i64 t8, .str t81, .own 1000001 none])], bl := [(1000000, some ⟨85, K8, xs, true, true⟩), (1000001, some ⟨3, .int .i64, xs1, true, true⟩)] }
noncomputable def impl_Tree_1 (st : St) : Option α := lp Tryz.prog (look impl_Tree_C) F impl_Tree_H (sub [.r, .r, .r, .l, .r, .b, .i] (codeOf Tryz.f17)) κ n st
noncomputable def impl_Tree_1_k : Ex → St → Option (Args [(K8, true), (.bool, false)]) := cont Tryz.prog (look impl_Tree_C) F impl_Tree_H [.r, .r, .r, .l, .r, .b] (codeOf Tryz.f17) (fin Tryz.prog Tryz.f17 [(K8, true), (.bool, false)] 2)
theorem impl_Tree_1_step (view : Int) (name : ByteArray) (who : List Int) (seat : Int) (c : Int) (c1 : Int) (t8 : Int) (t81 : ByteArray) (xs : List D8) (xs1 : List Int) : impl_Tree_1 F κ (n + 1) (impl_Tree_1_s view name who seat c c1 t8 t81 xs xs1) = br (decide (seat ≥ 0)) ((impl_Sits F0 (c, c1) view seat).bind fun r36 => ck (okI r36.1 (xs.length : Int)) ((impl_SetHas F0 who r36.1).bind fun r47 => br r47.1 ((impl_SetAdd F0 (at_ xs r36.1 K8.dflt).2.2 r36.1).bind fun r51 => ck (okI r36.1 (xs.length : Int)) ((impl_Up F0 (c, c1) view r36.1).bind fun r60 => br (decide (r60.1 ≥ 0)) (ck (okI r60.1 ((xs.set r36.1.toNat (view, (name, r51.1))).length : Int)) ((impl_SetJoin F0 (at_ (xs.set r36.1.toNat (view, (name, r51.1))) r60.1 K8.dflt).2.2 r51.1).bind fun r72 => ck (okI r60.1 ((xs.set r36.1.toNat (view, (name, r51.1))).length : Int)) (impl_Tree_1 F κ n (impl_Tree_1_s view name who (w64 (seat - 1)) c c1 t8 t81 ((xs.set r36.1.toNat (view, (name, r51.1))).set r60.1.toNat ((at_ (xs.set r36.1.toNat (view, (name, r51.1))) r60.1 K8.dflt).1, ((at_ (xs.set r36.1.toNat (view, (name, r51.1))) r60.1 K8.dflt).2.1, r72.1))) xs1)))) (impl_Tree_1 F κ n (impl_Tree_1_s view name who (w64 (seat - 1)) c c1 t8 t81 (xs.set r36.1.toNat (view, (name, r51.1))) xs1)))) (ck (okI r36.1 (xs.length : Int)) ((impl_Up F0 (c, c1) view r36.1).bind fun r60 => br (decide (r60.1 ≥ 0)) (ck (okI r60.1 ((xs.set r36.1.toNat (view, (name, (at_ xs r36.1 K8.dflt).2.2))).length : Int)) ((impl_SetJoin F0 (at_ (xs.set r36.1.toNat (view, (name, (at_ xs r36.1 K8.dflt).2.2))) r60.1 K8.dflt).2.2 (at_ xs r36.1 K8.dflt).2.2).bind fun r72 => ck (okI r60.1 ((xs.set r36.1.toNat (view, (name, (at_ xs r36.1 K8.dflt).2.2))).length : Int)) (impl_Tree_1 F κ n (impl_Tree_1_s view name who (w64 (seat - 1)) c c1 t8 t81 ((xs.set r36.1.toNat (view, (name, (at_ xs r36.1 K8.dflt).2.2))).set r60.1.toNat ((at_ (xs.set r36.1.toNat (view, (name, (at_ xs r36.1 K8.dflt).2.2))) r60.1 K8.dflt).1, ((at_ (xs.set r36.1.toNat (view, (name, (at_ xs r36.1 K8.dflt).2.2))) r60.1 K8.dflt).2.1, r72.1))) xs1)))) (impl_Tree_1 F κ n (impl_Tree_1_s view name who (w64 (seat - 1)) c c1 t8 t81 (xs.set r36.1.toNat (view, (name, (at_ xs r36.1 K8.dflt).2.2))) xs1)))))) (κ (.exit 0) (impl_Tree_1_e0 view c c1 t8 t81 xs xs1)) := by kernel_rfl
theorem impl_Tree_1_ce0 (view : Int) (c : Int) (c1 : Int) (t8 : Int) (t81 : ByteArray) (xs : List D8) (xs1 : List Int) : impl_Tree_1_k F (.exit 0) (impl_Tree_1_e0 view c c1 t8 t81 xs xs1) = (impl_Root F0 (c, c1) view).bind fun r79 => ck (okI r79.1 (xs.length : Int)) ((impl_PartQc F0 (c, c1) (at_ xs r79.1 K8.dflt)).bind fun r82 => some (r82.1, r82.2.1, ())) := by kernel_rfl
noncomputable def impl_Tree (c : D1) (view : Int) (name : ByteArray) (who : List Int) : Option (Args [(K8, true), (.bool, false)]) := runF Tryz.prog (look impl_Tree_C) F impl_Tree_H Tryz.f17 [(K1, true), (.int .i64, false), (.str, false), (.sl 3 (.int .i64), false)] [(K8, true), (.bool, false)] 2 (c, view, name, who, ())
theorem impl_Tree_eq (c : D1) (view : Int) (name : ByteArray) (who : List Int) : impl_Tree F c view name who = (impl_ConfOk F0 c).bind fun r16 => br (!r16.1) (some ((0, ((ByteArray.mk #[]), [])), false, ())) (br (decide (view < 0)) (some ((0, ((ByteArray.mk #[]), [])), false, ())) (ck (okM F c.1 c.1 48) (impl_Tree_1 F (impl_Tree_1_k F) F.n (impl_Tree_1_s view name who (w64 (c.1 - 1)) c.1 c.2 0 (ByteArray.mk #[]) (List.replicate c.1.toNat (0, ((ByteArray.mk #[]), []))) [])))) := by kernel_rfl
noncomputable def impl_Tree_con : Any := .one ⟨[(K1, true), (.int .i64, false), (.str, false), (.sl 3 (.int .i64), false)], [(K8, true), (.bool, false)], 2, fun x => impl_Tree F0 x.1 x.2.1 x.2.2.1 x.2.2.2.1⟩
theorem impl_Tree_ok : AnyOk Tryz.prog TB 17 impl_Tree_con := ok1 (show AllOk Tryz.prog TB impl_Tree_C from ⟨impl_ConfOk_ok, impl_Sits_ok, impl_SetHas_ok, impl_SetAdd_ok, impl_Up_ok, impl_SetJoin_ok, impl_PartQc_ok, impl_Root_ok, trivial⟩) Tryz.func17 (by kernel_rfl) (by kernel_rfl) impl_Tree_H (by kernel_rfl)

/-! ### laws.eqIntS -/
noncomputable def laws_eqIntS_C : List (Nat × Any) := []
noncomputable def laws_eqIntS_H : Nat → Option Hint := look [(4, { live := [0, 1, 5], rl := [4] })]
noncomputable def laws_eqIntS_1_s (a : List Int) (b : List Int) (i : Int) : St := { nt := 26, tm := [(0, .v (.c (.ro false 3 (.int .i64) a))), (1, .v (.c (.ro false 3 (.int .i64) b))), (5, .v (.c (.int .i64 i)))], bx := [], bl := [] }
noncomputable def laws_eqIntS_1_r (t4 : Bool) : St := { nt := 26, tm := [(4, .v (.c (.bool t4)))], bx := [], bl := [] }
noncomputable def laws_eqIntS_1_e0  : St := { nt := 26, tm := [], bx := [], bl := [] }
noncomputable def laws_eqIntS_1 (st : St) : Option α := lp Tryz.prog (look laws_eqIntS_C) F laws_eqIntS_H (sub [.r, .r, .l, .r, .b, .i] (codeOf Tryz.f19)) κ n st
noncomputable def laws_eqIntS_1_k : Ex → St → Option (Args [(.bool, false)]) := cont Tryz.prog (look laws_eqIntS_C) F laws_eqIntS_H [.r, .r, .l, .r, .b] (codeOf Tryz.f19) (fin Tryz.prog Tryz.f19 [(.bool, false)] 1)
theorem laws_eqIntS_1_step (a : List Int) (b : List Int) (i : Int) : laws_eqIntS_1 F κ (n + 1) (laws_eqIntS_1_s a b i) = br (decide (i < (a.length : Int))) (ck (okI i (a.length : Int)) (ck (okI i (b.length : Int)) (br ((at_ a i 0) != (at_ b i 0)) (κ .ret (laws_eqIntS_1_r false)) (laws_eqIntS_1 F κ n (laws_eqIntS_1_s a b (w64 (i + 1))))))) (κ (.exit 0) (laws_eqIntS_1_e0 )) := by kernel_rfl
theorem laws_eqIntS_1_cr (t4 : Bool) : laws_eqIntS_1_k F .ret (laws_eqIntS_1_r t4) = some (t4, ()) := by kernel_rfl
theorem laws_eqIntS_1_ce0  : laws_eqIntS_1_k F (.exit 0) (laws_eqIntS_1_e0 ) = some (true, ()) := by kernel_rfl
noncomputable def laws_eqIntS (a : List Int) (b : List Int) : Option (Args [(.bool, false)]) := runF Tryz.prog (look laws_eqIntS_C) F laws_eqIntS_H Tryz.f19 [(.sl 3 (.int .i64), false), (.sl 3 (.int .i64), false)] [(.bool, false)] 1 (a, b, ())
theorem laws_eqIntS_eq (a : List Int) (b : List Int) : laws_eqIntS F a b = br ((a.length : Int) != (b.length : Int)) (some (false, ())) (laws_eqIntS_1 F (laws_eqIntS_1_k F) F.n (laws_eqIntS_1_s a b 0)) := by kernel_rfl
noncomputable def laws_eqIntS_con : Any := .one ⟨[(.sl 3 (.int .i64), false), (.sl 3 (.int .i64), false)], [(.bool, false)], 1, fun x => laws_eqIntS F0 x.1 x.2.1⟩
theorem laws_eqIntS_ok : AnyOk Tryz.prog TB 19 laws_eqIntS_con := ok1 (show AllOk Tryz.prog TB laws_eqIntS_C from trivial) Tryz.func19 (by kernel_rfl) (by kernel_rfl) laws_eqIntS_H (by kernel_rfl)

/-! ### laws.eqQc -/
noncomputable def laws_eqQc_C : List (Nat × Any) := [(19, laws_eqIntS_con)]
noncomputable def laws_eqQc_H : Nat → Option Hint := look []
noncomputable def laws_eqQc (a : D8) (b : D8) : Option (Args [(.bool, false)]) := runF Tryz.prog (look laws_eqQc_C) F laws_eqQc_H Tryz.f18 [(K8, true), (K8, true)] [(.bool, false)] 1 (a, b, ())
theorem laws_eqQc_eq (a : D8) (b : D8) : laws_eqQc F a b = br (a.1 != b.1) (some (false, ())) (br (!(a.2.1.toList == b.2.1.toList)) (some (false, ())) ((laws_eqIntS F0 a.2.2 b.2.2).bind fun r19 => br (!r19.1) (some (false, ())) (some (true, ())))) := by kernel_rfl
noncomputable def laws_eqQc_con : Any := .one ⟨[(K8, true), (K8, true)], [(.bool, false)], 1, fun x => laws_eqQc F0 x.1 x.2.1⟩
theorem laws_eqQc_ok : AnyOk Tryz.prog TB 18 laws_eqQc_con := ok1 (show AllOk Tryz.prog TB laws_eqQc_C from ⟨laws_eqIntS_ok, trivial⟩) Tryz.func18 (by kernel_rfl) (by kernel_rfl) laws_eqQc_H (by kernel_rfl)

/-! ### laws.markIntS -/
noncomputable def laws_markIntS_C : List (Nat × Any) := []
noncomputable def laws_markIntS_H : Nat → Option Hint := look [(2, { live := [0, 1, 5], xl := [1], rl := [4] })]
noncomputable def laws_markIntS_1_s (k : Int) (i : Int) (xs : List Int) : St := { nt := 19, tm := [(0, .v (.c (.own 1000000 none))), (1, .v (.c (.int .i64 k))), (5, .v (.c (.int .i64 i)))], bx := [], bl := [(1000000, some ⟨3, .int .i64, xs, true, true⟩)], sp := .v (.c (.own 1000000 none)) }
noncomputable def laws_markIntS_1_e0 (k : Int) (xs : List Int) : St := { nt := 19, tm := [(1, .v (.c (.int .i64 k)))], bx := [], bl := [(1000000, some ⟨3, .int .i64, xs, true, true⟩)], sp := .v (.c (.own 1000000 none)) }
noncomputable def laws_markIntS_1 (st : St) : Option α := lp Tryz.prog (look laws_markIntS_C) F laws_markIntS_H (sub [.r, .l, .r, .b, .i] (codeOf Tryz.f20)) κ n st
noncomputable def laws_markIntS_1_k : Ex → St → Option (Args [(.int .i64, false)] × Args [(.sl 3 (.int .i64), false)]) := cont Tryz.prog (look laws_markIntS_C) F laws_markIntS_H [.r, .l, .r, .b] (codeOf Tryz.f20) (fin2 Tryz.prog Tryz.f20 (.own true) [(.int .i64, false)] [(.sl 3 (.int .i64), false)] 2)
theorem laws_markIntS_1_step (k : Int) (i : Int) (xs : List Int) : laws_markIntS_1 F κ (n + 1) (laws_markIntS_1_s k i xs) = br (decide (i < (xs.length : Int))) (ck (okI i (xs.length : Int)) (laws_markIntS_1 F κ n (laws_markIntS_1_s (w64 (k + 1)) (w64 (i + 1)) (xs.set i.toNat k)))) (κ (.exit 0) (laws_markIntS_1_e0 k xs)) := by kernel_rfl
theorem laws_markIntS_1_ce0 (k : Int) (xs : List Int) : laws_markIntS_1_k F (.exit 0) (laws_markIntS_1_e0 k xs) = some ((k, ()), (xs, ())) := by kernel_rfl
noncomputable def laws_markIntS (a : List Int) (k : Int) : Option (Args [(.int .i64, false)] × Args [(.sl 3 (.int .i64), false)]) := runF2 Tryz.prog (look laws_markIntS_C) F laws_markIntS_H Tryz.f20 [(.sl 3 (.int .i64), false), (.int .i64, false)] 0 (.own true) [(.int .i64, false)] [(.sl 3 (.int .i64), false)] 2 (a, k, ())
theorem laws_markIntS_eq (a : List Int) (k : Int) : laws_markIntS F a k = laws_markIntS_1 F (laws_markIntS_1_k F) F.n (laws_markIntS_1_s k 0 a) := by kernel_rfl
noncomputable def laws_markIntS_con : Any := .two ⟨[(.sl 3 (.int .i64), false), (.int .i64, false)], 0, (.own true), [(.int .i64, false)], 2, [(.sl 3 (.int .i64), false)], fun x => laws_markIntS F0 x.1 x.2.1⟩
theorem laws_markIntS_ok : AnyOk Tryz.prog TB 20 laws_markIntS_con := ok3 (show AllOk Tryz.prog TB laws_markIntS_C from trivial) Tryz.func20 (by kernel_rfl) (by kernel_rfl) laws_markIntS_H (by kernel_rfl) (by kernel_rfl)

/-! ### laws.markQc -/
noncomputable def laws_markQc_C : List (Nat × Any) := [(20, laws_markIntS_con)]
noncomputable def laws_markQc_H : Nat → Option Hint := look []
noncomputable def laws_markQc (a : D8) (k : Int) : Option (Args [(.int .i64, false)] × Args [(K8, true)]) := runF2 Tryz.prog (look laws_markQc_C) F laws_markQc_H Tryz.f21 [(K8, true), (.int .i64, false)] 0 (.own true) [(.int .i64, false)] [(K8, true)] 2 (a, k, ())
theorem laws_markQc_eq (a : D8) (k : Int) : laws_markQc F a k = (laws_markIntS F0 a.2.2 k).bind fun r8 => some ((r8.1.1, ()), ((a.1, (a.2.1, r8.2.1)), ())) := by kernel_rfl
noncomputable def laws_markQc_con : Any := .two ⟨[(K8, true), (.int .i64, false)], 0, (.own true), [(.int .i64, false)], 2, [(K8, true)], fun x => laws_markQc F0 x.1 x.2.1⟩
theorem laws_markQc_ok : AnyOk Tryz.prog TB 21 laws_markQc_con := ok3 (show AllOk Tryz.prog TB laws_markQc_C from ⟨laws_markIntS_ok, trivial⟩) Tryz.func21 (by kernel_rfl) (by kernel_rfl) laws_markQc_H (by kernel_rfl) (by kernel_rfl)

/-! ### laws.heldIntS -/
noncomputable def laws_heldIntS_C : List (Nat × Any) := []
noncomputable def laws_heldIntS_H : Nat → Option Hint := look [(2, { live := [0, 1, 5], xl := [1], rl := [4] })]
noncomputable def laws_heldIntS_1_s (a : List Int) (k : Int) (i : Int) : St := { nt := 21, tm := [(0, .v (.c (.ro false 3 (.int .i64) a))), (1, .v (.c (.int .i64 k))), (5, .v (.c (.int .i64 i)))], bx := [], bl := [] }
noncomputable def laws_heldIntS_1_r (t4 : Int) : St := { nt := 21, tm := [(4, .v (.c (.int .i64 t4)))], bx := [], bl := [] }
noncomputable def laws_heldIntS_1_e0 (k : Int) : St := { nt := 21, tm := [(1, .v (.c (.int .i64 k)))], bx := [], bl := [] }
noncomputable def laws_heldIntS_1 (st : St) : Option α := lp Tryz.prog (look laws_heldIntS_C) F laws_heldIntS_H (sub [.r, .l, .r, .b, .i] (codeOf Tryz.f65)) κ n st
noncomputable def laws_heldIntS_1_k : Ex → St → Option (Args [(.int .i64, false)]) := cont Tryz.prog (look laws_heldIntS_C) F laws_heldIntS_H [.r, .l, .r, .b] (codeOf Tryz.f65) (fin Tryz.prog Tryz.f65 [(.int .i64, false)] 1)
theorem laws_heldIntS_1_step (a : List Int) (k : Int) (i : Int) : laws_heldIntS_1 F κ (n + 1) (laws_heldIntS_1_s a k i) = br (decide (i < (a.length : Int))) (ck (okI i (a.length : Int)) (br ((at_ a i 0) != k) (κ .ret (laws_heldIntS_1_r (-1))) (laws_heldIntS_1 F κ n (laws_heldIntS_1_s a (w64 (k + 1)) (w64 (i + 1)))))) (κ (.exit 0) (laws_heldIntS_1_e0 k)) := by kernel_rfl
theorem laws_heldIntS_1_cr (t4 : Int) : laws_heldIntS_1_k F .ret (laws_heldIntS_1_r t4) = some (t4, ()) := by kernel_rfl
theorem laws_heldIntS_1_ce0 (k : Int) : laws_heldIntS_1_k F (.exit 0) (laws_heldIntS_1_e0 k) = some (k, ()) := by kernel_rfl
noncomputable def laws_heldIntS (a : List Int) (k : Int) : Option (Args [(.int .i64, false)]) := runF Tryz.prog (look laws_heldIntS_C) F laws_heldIntS_H Tryz.f65 [(.sl 3 (.int .i64), false), (.int .i64, false)] [(.int .i64, false)] 1 (a, k, ())
theorem laws_heldIntS_eq (a : List Int) (k : Int) : laws_heldIntS F a k = laws_heldIntS_1 F (laws_heldIntS_1_k F) F.n (laws_heldIntS_1_s a k 0) := by kernel_rfl
noncomputable def laws_heldIntS_con : Any := .one ⟨[(.sl 3 (.int .i64), false), (.int .i64, false)], [(.int .i64, false)], 1, fun x => laws_heldIntS F0 x.1 x.2.1⟩
theorem laws_heldIntS_ok : AnyOk Tryz.prog TB 65 laws_heldIntS_con := ok1 (show AllOk Tryz.prog TB laws_heldIntS_C from trivial) Tryz.func65 (by kernel_rfl) (by kernel_rfl) laws_heldIntS_H (by kernel_rfl)

/-! ### laws.heldQc -/
noncomputable def laws_heldQc_C : List (Nat × Any) := [(65, laws_heldIntS_con)]
noncomputable def laws_heldQc_H : Nat → Option Hint := look []
noncomputable def laws_heldQc (a : D8) (k : Int) : Option (Args [(.int .i64, false)]) := runF Tryz.prog (look laws_heldQc_C) F laws_heldQc_H Tryz.f22 [(K8, true), (.int .i64, false)] [(.int .i64, false)] 1 (a, k, ())
theorem laws_heldQc_eq (a : D8) (k : Int) : laws_heldQc F a k = (laws_heldIntS F0 a.2.2 k).bind fun r8 => br (decide (r8.1 < 0)) (some ((-1), ())) (some (r8.1, ())) := by kernel_rfl
noncomputable def laws_heldQc_con : Any := .one ⟨[(K8, true), (.int .i64, false)], [(.int .i64, false)], 1, fun x => laws_heldQc F0 x.1 x.2.1⟩
theorem laws_heldQc_ok : AnyOk Tryz.prog TB 22 laws_heldQc_con := ok1 (show AllOk Tryz.prog TB laws_heldQc_C from ⟨laws_heldIntS_ok, trivial⟩) Tryz.func22 (by kernel_rfl) (by kernel_rfl) laws_heldQc_H (by kernel_rfl)

/-! ### laws.FnExactTree -/
noncomputable def laws_FnExactTree_C : List (Nat × Any) := [(14, spec_Tree_con), (15, laws_toConf_con), (16, laws_toIntS_con), (17, impl_Tree_con), (18, laws_eqQc_con), (19, laws_eqIntS_con), (20, laws_markIntS_con), (21, laws_markQc_con), (22, laws_heldQc_con)]
noncomputable def laws_FnExactTree_H : Nat → Option Hint := look []
noncomputable def laws_FnExactTree (aC : D1) (aView : Int) (aName : ByteArray) (aWho : List Int) : Option (Args [(.bool, false)]) := runF Tryz.prog (look laws_FnExactTree_C) F laws_FnExactTree_H Tryz.f3 [(K1, true), (.int .i64, false), (.str, false), (.sl 3 (.int .i64), false)] [(.bool, false)] 1 (aC, aView, aName, aWho, ())
theorem laws_FnExactTree_eq (aC : D1) (aView : Int) (aName : ByteArray) (aWho : List Int) : laws_FnExactTree F aC aView aName aWho = br (decide ((aName.size : Int) > 1048576)) (some (true, ())) (br (decide ((aWho.length : Int) > 1048576)) (some (true, ())) ((laws_toConf F0 aC).bind fun r27 => (laws_toIntS F0 aWho).bind fun r31 => (spec_Tree F0 r27.1 aView aName r31.1).bind fun r32 => (laws_toIntS F0 aWho).bind fun r36 => (laws_toConf F0 aC).bind fun r39 => (impl_Tree F0 r39.1 aView aName r36.1).bind fun r43 => (laws_eqQc F0 r43.1 r32.1).bind fun r48 => br (!r48.1) (some (false, ())) (br (!(r43.2.1 == r32.2.1)) (some (false, ())) ((laws_toIntS F0 aWho).bind fun r57 => (laws_eqIntS F0 r36.1 r57.1).bind fun r58 => br (!r58.1) (some (false, ())) ((laws_markIntS F0 r36.1 1).bind fun r62 => br (decide (r62.1.1 < 0)) (some (false, ())) ((laws_eqQc F0 r43.1 r32.1).bind fun r68 => br (!r68.1) (some (false, ())) (br (!(r43.2.1 == r32.2.1)) (some (false, ())) ((laws_markQc F0 r43.1 1).bind fun r78 => (laws_heldQc F0 (r43.1.1, (r43.1.2.1, r78.2.1.2.2)) 1).bind fun r81 => br (decide (r81.1 < 0)) (some (false, ())) (br (r81.1 != r78.1.1) (some (false, ())) ((laws_toConf F0 aC).bind fun r89 => (laws_toIntS F0 aWho).bind fun r93 => (impl_Tree F0 r89.1 aView aName r93.1).bind fun r94 => (laws_eqQc F0 r94.1 r32.1).bind fun r99 => br (!r99.1) (some (false, ())) (br (!(r94.2.1 == r32.2.1)) (some (false, ())) ((laws_heldQc F0 (r43.1.1, (r43.1.2.1, r78.2.1.2.2)) 1).bind fun r108 => br (decide (r108.1 < 0)) (some (false, ())) (br (r108.1 != r78.1.1) (some (false, ())) (some (true, ()))))))))))))))) := by kernel_rfl
noncomputable def laws_FnExactTree_con : Any := .one ⟨[(K1, true), (.int .i64, false), (.str, false), (.sl 3 (.int .i64), false)], [(.bool, false)], 1, fun x => laws_FnExactTree F0 x.1 x.2.1 x.2.2.1 x.2.2.2.1⟩
theorem laws_FnExactTree_ok : AnyOk Tryz.prog TB 3 laws_FnExactTree_con := ok1 (show AllOk Tryz.prog TB laws_FnExactTree_C from ⟨spec_Tree_ok, laws_toConf_ok, laws_toIntS_ok, impl_Tree_ok, laws_eqQc_ok, laws_eqIntS_ok, laws_markIntS_ok, laws_markQc_ok, laws_heldQc_ok, trivial⟩) Tryz.func3 (by kernel_rfl) (by kernel_rfl) laws_FnExactTree_H (by kernel_rfl)

end
end Go.Am.Tryz
