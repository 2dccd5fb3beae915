/- What Go's functions compute, as plain functions, and that they do. No condition. -/
import Derived.Test.YtkkgagllehdhhaaGreatDoorZlGen2
set_option linter.unusedVariables false
set_option maxRecDepth 100000
namespace Go.Am.Tryz
open Go.Am Go.Proofs

noncomputable section
variable {α : Type} (F : Par) (κ : Ex → St → Option α) (n : Nat)
/-! ### spec.l7Ints -/
noncomputable def spec_l7Ints_C : List (Nat × Any) := []
noncomputable def spec_l7Ints_H : Nat → Option Hint := look [(2, { live := [0, 1, 5], xl := [0, 1], rl := [4] })]
noncomputable def spec_l7Ints_1_s (a : List Int) (b : List Int) (i : Int) : St := { nt := 32, tm := [(0, .v (.c (.ro false 3 (.int .i64) a))), (1, .v (.c (.ro false 3 (.int .i64) b))), (5, .v (.c (.int .i64 i)))], bx := [], bl := [] }
noncomputable def spec_l7Ints_1_r (t4 : Bool) : St := { nt := 32, tm := [(4, .v (.c (.bool t4)))], bx := [], bl := [] }
noncomputable def spec_l7Ints_1_e0 (a : List Int) (b : List Int) : St := { nt := 32, tm := [(0, .v (.c (.ro false 3 (.int .i64) a))), (1, .v (.c (.ro false 3 (.int .i64) b)))], bx := [], bl := [] }
noncomputable def spec_l7Ints_1 (st : St) : Option α := lp Tryz.prog (look spec_l7Ints_C) F spec_l7Ints_H (sub [.r, .l, .r, .b, .i] (codeOf Tryz.f258)) κ n st
noncomputable def spec_l7Ints_1_k : Ex → St → Option (Args [(.bool, false)]) := cont Tryz.prog (look spec_l7Ints_C) F spec_l7Ints_H [.r, .l, .r, .b] (codeOf Tryz.f258) (fin Tryz.prog Tryz.f258 [(.bool, false)] 1)
theorem spec_l7Ints_1_step (a : List Int) (b : List Int) (i : Int) : spec_l7Ints_1 F κ (n + 1) (spec_l7Ints_1_s a b i) = br (decide (i < (a.length : Int))) (br (decide (i < (b.length : Int))) (ck (okI i (a.length : Int)) (ck (okI i (b.length : Int)) (br ((at_ a i 0) != (at_ b i 0)) (κ .ret (spec_l7Ints_1_r false)) (spec_l7Ints_1 F κ n (spec_l7Ints_1_s a b (w64 (i + 1))))))) (κ (.exit 0) (spec_l7Ints_1_e0 a b))) (κ (.exit 0) (spec_l7Ints_1_e0 a b)) := by kernel_rfl
theorem spec_l7Ints_1_cr (t4 : Bool) : spec_l7Ints_1_k F .ret (spec_l7Ints_1_r t4) = some (t4, ()) := by kernel_rfl
theorem spec_l7Ints_1_ce0 (a : List Int) (b : List Int) : spec_l7Ints_1_k F (.exit 0) (spec_l7Ints_1_e0 a b) = some (((a.length : Int) == (b.length : Int)), ()) := by kernel_rfl
noncomputable def spec_l7Ints (a : List Int) (b : List Int) : Option (Args [(.bool, false)]) := runF Tryz.prog (look spec_l7Ints_C) F spec_l7Ints_H Tryz.f258 [(.sl 3 (.int .i64), false), (.sl 3 (.int .i64), false)] [(.bool, false)] 1 (a, b, ())
theorem spec_l7Ints_eq (a : List Int) (b : List Int) : spec_l7Ints F a b = spec_l7Ints_1 F (spec_l7Ints_1_k F) F.n (spec_l7Ints_1_s a b 0) := by kernel_rfl
noncomputable def spec_l7Ints_con : Any := .one ⟨[(.sl 3 (.int .i64), false), (.sl 3 (.int .i64), false)], [(.bool, false)], 1, fun x => spec_l7Ints F0 x.1 x.2.1⟩
theorem spec_l7Ints_ok : AnyOk Tryz.prog TB 258 spec_l7Ints_con := ok1 (show AllOk Tryz.prog TB spec_l7Ints_C from trivial) Tryz.func258 (by kernel_rfl) (by kernel_rfl) spec_l7Ints_H (by kernel_rfl)

/-! ### spec.QcSame -/
noncomputable def spec_QcSame_C : List (Nat × Any) := [(258, spec_l7Ints_con)]
noncomputable def spec_QcSame_H : Nat → Option Hint := look []
noncomputable def spec_QcSame (a : D8) (b : D8) : Option (Args [(.bool, false)]) := runF Tryz.prog (look spec_QcSame_C) F spec_QcSame_H Tryz.f226 [(K8, true), (K8, true)] [(.bool, false)] 1 (a, b, ())
theorem spec_QcSame_eq (a : D8) (b : D8) : spec_QcSame F a b = br (a.1 == b.1) (br (a.2.1.toList == b.2.1.toList) ((spec_l7Ints F0 a.2.2 b.2.2).bind fun r22 => some (r22.1, ())) (some (false, ()))) (some (false, ())) := by kernel_rfl
noncomputable def spec_QcSame_con : Any := .one ⟨[(K8, true), (K8, true)], [(.bool, false)], 1, fun x => spec_QcSame F0 x.1 x.2.1⟩
theorem spec_QcSame_ok : AnyOk Tryz.prog TB 226 spec_QcSame_con := ok1 (show AllOk Tryz.prog TB spec_QcSame_C from ⟨spec_l7Ints_ok, trivial⟩) Tryz.func226 (by kernel_rfl) (by kernel_rfl) spec_QcSame_H (by kernel_rfl)

/-! ### spec.BlockSame -/
noncomputable def spec_BlockSame_C : List (Nat × Any) := [(226, spec_QcSame_con)]
noncomputable def spec_BlockSame_H : Nat → Option Hint := look []
noncomputable def spec_BlockSame (a : D15) (b : D15) : Option (Args [(.bool, false)]) := runF Tryz.prog (look spec_BlockSame_C) F spec_BlockSame_H Tryz.f289 [(K15, true), (K15, true)] [(.bool, false)] 1 (a, b, ())
theorem spec_BlockSame_eq (a : D15) (b : D15) : spec_BlockSame F a b = br (a.1.toList == b.1.toList) ((spec_QcSame F0 a.2 b.2).bind fun r15 => some (r15.1, ())) (some (false, ())) := by kernel_rfl
noncomputable def spec_BlockSame_con : Any := .one ⟨[(K15, true), (K15, true)], [(.bool, false)], 1, fun x => spec_BlockSame F0 x.1 x.2.1⟩
theorem spec_BlockSame_ok : AnyOk Tryz.prog TB 289 spec_BlockSame_con := ok1 (show AllOk Tryz.prog TB spec_BlockSame_C from ⟨spec_QcSame_ok, trivial⟩) Tryz.func289 (by kernel_rfl) (by kernel_rfl) spec_BlockSame_H (by kernel_rfl)

/-! ### spec.l14Part -/
noncomputable def spec_l14Part_C : List (Nat × Any) := [(258, spec_l7Ints_con)]
noncomputable def spec_l14Part_H : Nat → Option Hint := look []
noncomputable def spec_l14Part (a : D8) (b : D8) : Option (Args [(.bool, false)]) := runF Tryz.prog (look spec_l14Part_C) F spec_l14Part_H Tryz.f290 [(K8, true), (K8, true)] [(.bool, false)] 1 (a, b, ())
theorem spec_l14Part_eq (a : D8) (b : D8) : spec_l14Part F a b = br (a.1 == b.1) (br (a.2.1.toList == b.2.1.toList) ((spec_l7Ints F0 a.2.2 b.2.2).bind fun r22 => some (r22.1, ())) (some (false, ()))) (some (false, ())) := by kernel_rfl
noncomputable def spec_l14Part_con : Any := .one ⟨[(K8, true), (K8, true)], [(.bool, false)], 1, fun x => spec_l14Part F0 x.1 x.2.1⟩
theorem spec_l14Part_ok : AnyOk Tryz.prog TB 290 spec_l14Part_con := ok1 (show AllOk Tryz.prog TB spec_l14Part_C from ⟨spec_l7Ints_ok, trivial⟩) Tryz.func290 (by kernel_rfl) (by kernel_rfl) spec_l14Part_H (by kernel_rfl)

/-! ### spec.MsgSame -/
noncomputable def spec_MsgSame_C : List (Nat × Any) := [(226, spec_QcSame_con), (289, spec_BlockSame_con), (290, spec_l14Part_con)]
noncomputable def spec_MsgSame_H : Nat → Option Hint := look []
noncomputable def spec_MsgSame (a : D21) (b : D21) : Option (Args [(.bool, false)]) := runF Tryz.prog (look spec_MsgSame_C) F spec_MsgSame_H Tryz.f272 [(K21, true), (K21, true)] [(.bool, false)] 1 (a, b, ())
theorem spec_MsgSame_eq (a : D21) (b : D21) : spec_MsgSame F a b = br (a.1 == b.1) (br (a.2.1 == b.2.1) ((spec_BlockSame F0 a.2.2.1 b.2.2.1).bind fun r22 => br r22.1 ((spec_l14Part F0 a.2.2.2.1 b.2.2.2.1).bind fun r29 => br r29.1 ((spec_QcSame F0 a.2.2.2.2.1 b.2.2.2.2.1).bind fun r36 => br r36.1 (br (a.2.2.2.2.2.1 == b.2.2.2.2.2.1) (some (((a.2.2.2.2.2.2.1 == b.2.2.2.2.2.2.1) && ((a.2.2.2.2.2.2.2.1 == b.2.2.2.2.2.2.2.1) && ((a.2.2.2.2.2.2.2.2.1 == b.2.2.2.2.2.2.2.2.1) && ((a.2.2.2.2.2.2.2.2.2 == b.2.2.2.2.2.2.2.2.2) && true)))), ())) (some (false, ()))) (some (false, ()))) (some (false, ()))) (some (false, ()))) (some (false, ()))) (some (false, ())) := by kernel_rfl
noncomputable def spec_MsgSame_con : Any := .one ⟨[(K21, true), (K21, true)], [(.bool, false)], 1, fun x => spec_MsgSame F0 x.1 x.2.1⟩
theorem spec_MsgSame_ok : AnyOk Tryz.prog TB 272 spec_MsgSame_con := ok1 (show AllOk Tryz.prog TB spec_MsgSame_C from ⟨spec_QcSame_ok, spec_BlockSame_ok, spec_l14Part_ok, trivial⟩) Tryz.func272 (by kernel_rfl) (by kernel_rfl) spec_MsgSame_H (by kernel_rfl)

/-! ### spec.l14Zero -/
noncomputable def spec_l14Zero_C : List (Nat × Any) := [(272, spec_MsgSame_con)]
noncomputable def spec_l14Zero_H : Nat → Option Hint := look []
noncomputable def spec_l14Zero (m : D21) : Option (Args [(.bool, false)]) := runF Tryz.prog (look spec_l14Zero_C) F spec_l14Zero_H Tryz.f248 [(K21, true)] [(.bool, false)] 1 (m, ())
theorem spec_l14Zero_eq (m : D21) : spec_l14Zero F m = br (m.1 == 1) ((spec_MsgSame F0 (m.1, (0, (m.2.2.1, ((0, ((ByteArray.mk #[]), [])), ((0, ((ByteArray.mk #[]), [])), (0, (0, (0, (0, 0))))))))) m).bind fun r37 => some (r37.1, ())) (br (m.1 == 2) ((spec_MsgSame F0 (m.1, (0, (((ByteArray.mk #[]), (0, ((ByteArray.mk #[]), []))), (m.2.2.2.1, ((0, ((ByteArray.mk #[]), [])), (0, (0, (0, (0, 0))))))))) m).bind fun r37 => some (r37.1, ())) (br (m.1 == 3) ((spec_MsgSame F0 (m.1, (m.2.1, (((ByteArray.mk #[]), (0, ((ByteArray.mk #[]), []))), ((0, ((ByteArray.mk #[]), [])), (m.2.2.2.2.1, (m.2.2.2.2.2.1, (0, (0, (0, 0))))))))) m).bind fun r37 => some (r37.1, ())) (br (m.1 == 4) ((spec_MsgSame F0 (m.1, (0, (((ByteArray.mk #[]), (0, ((ByteArray.mk #[]), []))), ((0, ((ByteArray.mk #[]), [])), ((0, ((ByteArray.mk #[]), [])), (0, m.2.2.2.2.2.2)))))) m).bind fun r37 => some (r37.1, ())) ((spec_MsgSame F0 (m.1, (0, (((ByteArray.mk #[]), (0, ((ByteArray.mk #[]), []))), ((0, ((ByteArray.mk #[]), [])), ((0, ((ByteArray.mk #[]), [])), (0, (0, (0, (0, 0))))))))) m).bind fun r37 => some (r37.1, ()))))) := by kernel_rfl
noncomputable def spec_l14Zero_con : Any := .one ⟨[(K21, true)], [(.bool, false)], 1, fun x => spec_l14Zero F0 x.1⟩
theorem spec_l14Zero_ok : AnyOk Tryz.prog TB 248 spec_l14Zero_con := ok1 (show AllOk Tryz.prog TB spec_l14Zero_C from ⟨spec_MsgSame_ok, trivial⟩) Tryz.func248 (by kernel_rfl) (by kernel_rfl) spec_l14Zero_H (by kernel_rfl)

/-! ### spec.l1Max -/
noncomputable def spec_l1Max_C : List (Nat × Any) := []
noncomputable def spec_l1Max_H : Nat → Option Hint := look []
noncomputable def spec_l1Max (a : Int) (b : Int) : Option (Args [(.int .i64, false)]) := runF Tryz.prog (look spec_l1Max_C) F spec_l1Max_H Tryz.f291 [(.int .i64, false), (.int .i64, false)] [(.int .i64, false)] 1 (a, b, ())
theorem spec_l1Max_eq (a : Int) (b : Int) : spec_l1Max F a b = br (decide (a > b)) (some (a, ())) (some (b, ())) := by kernel_rfl
noncomputable def spec_l1Max_con : Any := .one ⟨[(.int .i64, false), (.int .i64, false)], [(.int .i64, false)], 1, fun x => spec_l1Max F0 x.1 x.2.1⟩
theorem spec_l1Max_ok : AnyOk Tryz.prog TB 291 spec_l1Max_con := ok1 (show AllOk Tryz.prog TB spec_l1Max_C from trivial) Tryz.func291 (by kernel_rfl) (by kernel_rfl) spec_l1Max_H (by kernel_rfl)

/-! ### spec.UpOf -/
noncomputable def spec_UpOf_C : List (Nat × Any) := [(157, spec_NameOk_con), (291, spec_l1Max_con)]
noncomputable def spec_UpOf_H : Nat → Option Hint := look [(4, { live := [0, 3], xl := [0, 3], rl := [2] })]
noncomputable def spec_UpOf_1_s (s : ByteArray) (k : Int) : St := { nt := 25, tm := [(0, .v (.c (.str s))), (3, .v (.c (.int .i64 k)))], bx := [], bl := [] }
noncomputable def spec_UpOf_1_e0 (s : ByteArray) (k : Int) : St := { nt := 25, tm := [(0, .v (.c (.str s))), (3, .v (.c (.int .i64 k)))], bx := [], bl := [] }
noncomputable def spec_UpOf_1 (st : St) : Option α := lp Tryz.prog (look spec_UpOf_C) F spec_UpOf_H (sub [.r, .r, .r, .l, .b, .i] (codeOf Tryz.f273)) κ n st
noncomputable def spec_UpOf_1_k : Ex → St → Option (Args [(.str, false)]) := cont Tryz.prog (look spec_UpOf_C) F spec_UpOf_H [.r, .r, .r, .l, .b] (codeOf Tryz.f273) (fin Tryz.prog Tryz.f273 [(.str, false)] 1)
theorem spec_UpOf_1_step (s : ByteArray) (k : Int) : spec_UpOf_1 F κ (n + 1) (spec_UpOf_1_s s k) = br (decide (k > 0)) (ck (okI (w64 (k - 1)) (s.size : Int)) (br ((byteAt s (w64 (k - 1))) != 47) (spec_UpOf_1 F κ n (spec_UpOf_1_s s (w64 (k - 1)))) (κ (.exit 0) (spec_UpOf_1_e0 s k)))) (κ (.exit 0) (spec_UpOf_1_e0 s k)) := by kernel_rfl
theorem spec_UpOf_1_ce0 (s : ByteArray) (k : Int) : spec_UpOf_1_k F (.exit 0) (spec_UpOf_1_e0 s k) = (spec_l1Max F0 (w64 (k - 1)) 0).bind fun r23 => ck (okS 0 r23.1 (s.size : Int)) (some (s.extract (0 : Int).toNat r23.1.toNat, ())) := by kernel_rfl
noncomputable def spec_UpOf (s : ByteArray) : Option (Args [(.str, false)]) := runF Tryz.prog (look spec_UpOf_C) F spec_UpOf_H Tryz.f273 [(.str, false)] [(.str, false)] 1 (s, ())
theorem spec_UpOf_eq (s : ByteArray) : spec_UpOf F s = (spec_NameOk F0 s).bind fun r5 => br (!r5.1) (some ((ByteArray.mk #[]), ())) (spec_UpOf_1 F (spec_UpOf_1_k F) F.n (spec_UpOf_1_s s (s.size : Int))) := by kernel_rfl
noncomputable def spec_UpOf_con : Any := .one ⟨[(.str, false)], [(.str, false)], 1, fun x => spec_UpOf F0 x.1⟩
theorem spec_UpOf_ok : AnyOk Tryz.prog TB 273 spec_UpOf_con := ok1 (show AllOk Tryz.prog TB spec_UpOf_C from ⟨spec_NameOk_ok, spec_l1Max_ok, trivial⟩) Tryz.func273 (by kernel_rfl) (by kernel_rfl) spec_UpOf_H (by kernel_rfl)

/-! ### spec.BlockOk -/
noncomputable def spec_BlockOk_C : List (Nat × Any) := [(120, spec_QcOk_con), (157, spec_NameOk_con), (273, spec_UpOf_con)]
noncomputable def spec_BlockOk_H : Nat → Option Hint := look []
noncomputable def spec_BlockOk (c : D1) (b : D15) : Option (Args [(.bool, false)]) := runF Tryz.prog (look spec_BlockOk_C) F spec_BlockOk_H Tryz.f249 [(K1, true), (K15, true)] [(.bool, false)] 1 (c, b, ())
theorem spec_BlockOk_eq (c : D1) (b : D15) : spec_BlockOk F c b = (spec_QcOk F0 c b.2).bind fun r8 => br r8.1 ((spec_NameOk F0 b.1).bind fun r12 => br r12.1 (br (!(b.1.toList == (ByteArray.mk #[]).toList)) ((spec_UpOf F0 b.1).bind fun r22 => some ((r22.1.toList == b.2.2.1.toList), ())) (some (false, ()))) (some (false, ()))) (some (false, ())) := by kernel_rfl
noncomputable def spec_BlockOk_con : Any := .one ⟨[(K1, true), (K15, true)], [(.bool, false)], 1, fun x => spec_BlockOk F0 x.1 x.2.1⟩
theorem spec_BlockOk_ok : AnyOk Tryz.prog TB 249 spec_BlockOk_con := ok1 (show AllOk Tryz.prog TB spec_BlockOk_C from ⟨spec_QcOk_ok, spec_NameOk_ok, spec_UpOf_ok, trivial⟩) Tryz.func249 (by kernel_rfl) (by kernel_rfl) spec_BlockOk_H (by kernel_rfl)

/-! ### spec.MsgOk -/
noncomputable def spec_MsgOk_C : List (Nat × Any) := [(49, spec_ConfOk_con), (118, spec_l1In_con), (120, spec_QcOk_con), (244, spec_TxOk_con), (246, spec_PartOk_con), (248, spec_l14Zero_con), (249, spec_BlockOk_con)]
noncomputable def spec_MsgOk_H : Nat → Option Hint := look []
noncomputable def spec_MsgOk (c : D1) (m : D21) : Option (Args [(.bool, false)]) := runF Tryz.prog (look spec_MsgOk_C) F spec_MsgOk_H Tryz.f206 [(K1, true), (K21, true)] [(.bool, false)] 1 (c, m, ())
theorem spec_MsgOk_eq (c : D1) (m : D21) : spec_MsgOk F c m = (spec_ConfOk F0 c).bind fun r6 => br (!r6.1) (some (false, ())) ((spec_l14Zero F0 m).bind fun r10 => br (!r10.1) (some (false, ())) (br (m.1 == 1) ((spec_BlockOk F0 c m.2.2.1).bind fun r20 => some (r20.1, ())) (br (m.1 == 2) ((spec_PartOk F0 c m.2.2.2.1).bind fun r26 => br r26.1 (some (!(m.2.2.2.1.2.1.toList == (ByteArray.mk #[]).toList), ())) (some (false, ()))) (br (m.1 == 3) ((spec_l1In F0 m.2.1 1 60).bind fun r37 => br r37.1 ((spec_QcOk F0 c m.2.2.2.2.1).bind fun r42 => br r42.1 ((spec_l1In F0 m.2.2.2.2.2.1 0 (w64 (c.1 - 1))).bind fun r50 => some (r50.1, ())) (some (false, ()))) (some (false, ()))) (br (m.1 == 4) ((spec_TxOk F0 m.2.2.2.2.2.2).bind fun r56 => some (r56.1, ())) (some (false, ()))))))) := by kernel_rfl
noncomputable def spec_MsgOk_con : Any := .one ⟨[(K1, true), (K21, true)], [(.bool, false)], 1, fun x => spec_MsgOk F0 x.1 x.2.1⟩
theorem spec_MsgOk_ok : AnyOk Tryz.prog TB 206 spec_MsgOk_con := ok1 (show AllOk Tryz.prog TB spec_MsgOk_C from ⟨spec_ConfOk_ok, spec_l1In_ok, spec_QcOk_ok, spec_TxOk_ok, spec_PartOk_ok, spec_l14Zero_ok, spec_BlockOk_ok, trivial⟩) Tryz.func206 (by kernel_rfl) (by kernel_rfl) spec_MsgOk_H (by kernel_rfl)

/-! ### spec.RepOk -/
noncomputable def spec_RepOk_C : List (Nat × Any) := [(49, spec_ConfOk_con), (118, spec_l1In_con), (202, spec_SafeOk_con), (203, spec_PoolOk_con), (204, spec_TableOk_con), (205, spec_DiskOk_con), (206, spec_MsgOk_con)]
noncomputable def spec_RepOk_H : Nat → Option Hint := look [(4, { live := [2, 3, 5], rl := [4] })]
noncomputable def spec_RepOk_1_s (i : Int) (c : Int) (c1 : Int) (r : Int) (r1 : Int) (r2 : Int) (r3 : Int) (r4 : Int) (r5 : Int) (r6 : ByteArray) (r7 : List Int) (r8 : ByteArray) (r9 : List D3) (r10 : List D8) (r11 : List Int) (r12 : Int) (r13 : List D22) : St := { nt := 102, tm := [(2, .v (.c (.ptr 2 0))), (3, .v (.c (.ptr 3 0))), (5, .v (.c (.int .i64 i)))], bx := [(2, [.int .i64 c, .int .i64 c1]), (3, [.int .i64 r, .int .i64 r1, .int .i64 r2, .int .i64 r3, .int .i64 r4, .int .i64 r5, .str r6, .ro false 3 (.int .i64) r7, .str r8, .ro false 126 (K3) r9, .ro false 85 (K8) r10, .ro false 5 (.int .u8) r11, .int .i64 r12, .ro false 167 (K22) r13])], bl := [] }
noncomputable def spec_RepOk_1_r (t4 : Bool) : St := { nt := 102, tm := [(4, .v (.c (.bool t4)))], bx := [], bl := [] }
noncomputable def spec_RepOk_1_e0  : St := { nt := 102, tm := [], bx := [], bl := [] }
noncomputable def spec_RepOk_1 (st : St) : Option α := lp Tryz.prog (look spec_RepOk_C) F spec_RepOk_H (sub [.r, .r, .l, .r, .b, .i] (codeOf Tryz.f155)) κ n st
noncomputable def spec_RepOk_1_k : Ex → St → Option (Args [(.bool, false)]) := cont Tryz.prog (look spec_RepOk_C) F spec_RepOk_H [.r, .r, .l, .r, .b] (codeOf Tryz.f155) (fin Tryz.prog Tryz.f155 [(.bool, false)] 1)
theorem spec_RepOk_1_step (i : Int) (c : Int) (c1 : Int) (r : Int) (r1 : Int) (r2 : Int) (r3 : Int) (r4 : Int) (r5 : Int) (r6 : ByteArray) (r7 : List Int) (r8 : ByteArray) (r9 : List D3) (r10 : List D8) (r11 : List Int) (r12 : Int) (r13 : List D22) : spec_RepOk_1 F κ (n + 1) (spec_RepOk_1_s i c c1 r r1 r2 r3 r4 r5 r6 r7 r8 r9 r10 r11 r12 r13) = br (decide (i < (r13.length : Int))) (ck (okI i (r13.length : Int)) ((spec_MsgOk F0 (c, c1) (at_ r13 i K22.dflt).2).bind fun r76 => br (!r76.1) (κ .ret (spec_RepOk_1_r false)) (ck (okI i (r13.length : Int)) ((spec_l1In F0 (at_ r13 i K22.dflt).1 0 (w64 (c - 1))).bind fun r88 => br (!r88.1) (κ .ret (spec_RepOk_1_r false)) (ck (okI i (r13.length : Int)) (br ((at_ r13 i K22.dflt).1 == r) (κ .ret (spec_RepOk_1_r false)) (spec_RepOk_1 F κ n (spec_RepOk_1_s (w64 (i + 1)) c c1 r r1 r2 r3 r4 r5 r6 r7 r8 r9 r10 r11 r12 r13)))))))) (κ (.exit 0) (spec_RepOk_1_e0 )) := by kernel_rfl
theorem spec_RepOk_1_cr (t4 : Bool) : spec_RepOk_1_k F .ret (spec_RepOk_1_r t4) = some (t4, ()) := by kernel_rfl
theorem spec_RepOk_1_ce0  : spec_RepOk_1_k F (.exit 0) (spec_RepOk_1_e0 ) = some (true, ()) := by kernel_rfl
noncomputable def spec_RepOk (c : D1) (r : D39) : Option (Args [(.bool, false)]) := runF Tryz.prog (look spec_RepOk_C) F spec_RepOk_H Tryz.f155 [(K1, true), (K39, true)] [(.bool, false)] 1 (c, r, ())
theorem spec_RepOk_eq (c : D1) (r : D39) : spec_RepOk F c r = (spec_ConfOk F0 c).bind fun r7 => br (!r7.1) (some (false, ())) ((spec_l1In F0 r.1 0 (w64 (c.1 - 1))).bind fun r15 => br (!r15.1) (some (false, ())) ((spec_l1In F0 r.2.1 1 60).bind fun r21 => br (!r21.1) (some (false, ())) ((spec_l1In F0 r.2.2.1 0 60).bind fun r27 => br (!r27.1) (some (false, ())) ((spec_SafeOk F0 c r.2.2.2.1).bind fun r34 => br (!r34.1) (some (false, ())) ((spec_PoolOk F0 r.2.2.2.2.1).bind fun r40 => br (!r40.1) (some (false, ())) ((spec_TableOk F0 c r.2.2.2.2.2.1).bind fun r47 => br (!r47.1) (some (false, ())) ((spec_DiskOk F0 r.2.2.2.2.2.2.1).bind fun r53 => br (!r53.1) (some (false, ())) (br (decide ((r.2.2.2.2.2.2.2.length : Int) > 30)) (some (false, ())) (spec_RepOk_1 F (spec_RepOk_1_k F) F.n (spec_RepOk_1_s 0 c.1 c.2 r.1 r.2.1 r.2.2.1 r.2.2.2.1.1 r.2.2.2.1.2.1 r.2.2.2.1.2.2.1.1 r.2.2.2.1.2.2.1.2.1 r.2.2.2.1.2.2.1.2.2 r.2.2.2.1.2.2.2 r.2.2.2.2.1 r.2.2.2.2.2.1 r.2.2.2.2.2.2.1.1 r.2.2.2.2.2.2.1.2 r.2.2.2.2.2.2.2)))))))))) := by kernel_rfl
noncomputable def spec_RepOk_con : Any := .one ⟨[(K1, true), (K39, true)], [(.bool, false)], 1, fun x => spec_RepOk F0 x.1 x.2.1⟩
theorem spec_RepOk_ok : AnyOk Tryz.prog TB 155 spec_RepOk_con := ok1 (show AllOk Tryz.prog TB spec_RepOk_C from ⟨spec_ConfOk_ok, spec_l1In_ok, spec_SafeOk_ok, spec_PoolOk_ok, spec_TableOk_ok, spec_DiskOk_ok, spec_MsgOk_ok, trivial⟩) Tryz.func155 (by kernel_rfl) (by kernel_rfl) spec_RepOk_H (by kernel_rfl)

/-! ### spec.GetNum -/
noncomputable def spec_GetNum_C : List (Nat × Any) := []
noncomputable def spec_GetNum_H : Nat → Option Hint := look [(3, { live := [0, 1, 7, 8], rl := [4, 5, 6] })]
noncomputable def spec_GetNum_1_s (b : List Int) (at1 : Int) (n1 : Int) (k : Int) : St := { nt := 55, tm := [(0, .v (.c (.ro false 5 (.int .u8) b))), (1, .v (.c (.int .i64 at1))), (7, .v (.c (.int .i64 n1))), (8, .v (.c (.int .i64 k)))], bx := [], bl := [] }
noncomputable def spec_GetNum_1_r (t4 : Int) (t5 : Int) (t6 : Bool) : St := { nt := 55, tm := [(4, .v (.c (.int .i64 t4))), (5, .v (.c (.int .i64 t5))), (6, .v (.c (.bool t6)))], bx := [], bl := [] }
noncomputable def spec_GetNum_1_e0  : St := { nt := 55, tm := [], bx := [], bl := [] }
noncomputable def spec_GetNum_1 (st : St) : Option α := lp Tryz.prog (look spec_GetNum_C) F spec_GetNum_H (sub [.r, .r, .l, .r, .b, .i] (codeOf Tryz.f224)) κ n st
noncomputable def spec_GetNum_1_k : Ex → St → Option (Args [(.int .i64, false), (.int .i64, false), (.bool, false)]) := cont Tryz.prog (look spec_GetNum_C) F spec_GetNum_H [.r, .r, .l, .r, .b] (codeOf Tryz.f224) (fin Tryz.prog Tryz.f224 [(.int .i64, false), (.int .i64, false), (.bool, false)] 1)
theorem spec_GetNum_1_step (b : List Int) (at1 : Int) (n1 : Int) (k : Int) : spec_GetNum_1 F κ (n + 1) (spec_GetNum_1_s b at1 n1 k) = br (decide (k < 5)) (br (decide (at1 < 0)) (κ .ret (spec_GetNum_1_r 0 0 false)) (br (decide (at1 ≥ (w64 ((b.length : Int) - k)))) (κ .ret (spec_GetNum_1_r 0 0 false)) (ck (okI (w64 (at1 + k)) (b.length : Int)) (ck (decide (0 ≤ (w64 (7 * k)))) (br (decide ((w64 (at_ b (w64 (at1 + k)) 0)) < 128)) (br (decide (k > 0)) (br ((w64 (at_ b (w64 (at1 + k)) 0)) == 0) (κ .ret (spec_GetNum_1_r 0 0 false)) (br (decide ((w64 (((BitVec.ofInt 64 n1 ||| BitVec.ofInt 64 (w64 ((Int.tmod (w64 (at_ b (w64 (at1 + k)) 0)) 128) * 2 ^ (min (w64 (7 * k)).toNat 64)))).toNat : Int))) > 2147483647)) (κ .ret (spec_GetNum_1_r 0 0 false)) (κ .ret (spec_GetNum_1_r (w64 (((BitVec.ofInt 64 n1 ||| BitVec.ofInt 64 (w64 ((Int.tmod (w64 (at_ b (w64 (at1 + k)) 0)) 128) * 2 ^ (min (w64 (7 * k)).toNat 64)))).toNat : Int))) (w64 ((w64 (at1 + k)) + 1)) true)))) (br (decide ((w64 (((BitVec.ofInt 64 n1 ||| BitVec.ofInt 64 (w64 ((Int.tmod (w64 (at_ b (w64 (at1 + k)) 0)) 128) * 2 ^ (min (w64 (7 * k)).toNat 64)))).toNat : Int))) > 2147483647)) (κ .ret (spec_GetNum_1_r 0 0 false)) (κ .ret (spec_GetNum_1_r (w64 (((BitVec.ofInt 64 n1 ||| BitVec.ofInt 64 (w64 ((Int.tmod (w64 (at_ b (w64 (at1 + k)) 0)) 128) * 2 ^ (min (w64 (7 * k)).toNat 64)))).toNat : Int))) (w64 ((w64 (at1 + k)) + 1)) true)))) (spec_GetNum_1 F κ n (spec_GetNum_1_s b at1 (w64 (((BitVec.ofInt 64 n1 ||| BitVec.ofInt 64 (w64 ((Int.tmod (w64 (at_ b (w64 (at1 + k)) 0)) 128) * 2 ^ (min (w64 (7 * k)).toNat 64)))).toNat : Int))) (w64 (k + 1))))))))) (κ (.exit 0) (spec_GetNum_1_e0 )) := by kernel_rfl
theorem spec_GetNum_1_cr (t4 : Int) (t5 : Int) (t6 : Bool) : spec_GetNum_1_k F .ret (spec_GetNum_1_r t4 t5 t6) = some (t4, t5, t6, ()) := by kernel_rfl
theorem spec_GetNum_1_ce0  : spec_GetNum_1_k F (.exit 0) (spec_GetNum_1_e0 ) = some (0, 0, false, ()) := by kernel_rfl
noncomputable def spec_GetNum (b : List Int) (at1 : Int) : Option (Args [(.int .i64, false), (.int .i64, false), (.bool, false)]) := runF Tryz.prog (look spec_GetNum_C) F spec_GetNum_H Tryz.f224 [(.sl 5 (.int .u8), false), (.int .i64, false)] [(.int .i64, false), (.int .i64, false), (.bool, false)] 1 (b, at1, ())
theorem spec_GetNum_eq (b : List Int) (at1 : Int) : spec_GetNum F b at1 = spec_GetNum_1 F (spec_GetNum_1_k F) F.n (spec_GetNum_1_s b at1 0 0) := by kernel_rfl
noncomputable def spec_GetNum_con : Any := .one ⟨[(.sl 5 (.int .u8), false), (.int .i64, false)], [(.int .i64, false), (.int .i64, false), (.bool, false)], 1, fun x => spec_GetNum F0 x.1 x.2.1⟩
theorem spec_GetNum_ok : AnyOk Tryz.prog TB 224 spec_GetNum_con := ok1 (show AllOk Tryz.prog TB spec_GetNum_C from trivial) Tryz.func224 (by kernel_rfl) (by kernel_rfl) spec_GetNum_H (by kernel_rfl)

/-! ### spec.l12Num -/
noncomputable def spec_l12Num_C : List (Nat × Any) := [(224, spec_GetNum_con)]
noncomputable def spec_l12Num_H : Nat → Option Hint := look []
noncomputable def spec_l12Num (c : D58) : Option (Args [(.int .i64, false)] × Args [(K58, true)]) := runF2 Tryz.prog (look spec_l12Num_C) F spec_l12Num_H Tryz.f207 [(K58, true)] 0 .box [(.int .i64, false)] [(K58, true)] 1 (c, ())
theorem spec_l12Num_eq (c : D58) : spec_l12Num F c = (spec_GetNum F0 c.1 c.2.1).bind fun r15 => br (!r15.2.2.1) (some ((0, ()), ((c.1, (c.2.1, false)), ()))) (br (!c.2.2) (some ((0, ()), ((c.1, (c.2.1, false)), ()))) (some ((r15.1, ()), ((c.1, (r15.2.1, c.2.2)), ())))) := by kernel_rfl
noncomputable def spec_l12Num_con : Any := .two ⟨[(K58, true)], 0, .box, [(.int .i64, false)], 1, [(K58, true)], fun x => spec_l12Num F0 x.1⟩
theorem spec_l12Num_ok : AnyOk Tryz.prog TB 207 spec_l12Num_con := ok3 (show AllOk Tryz.prog TB spec_l12Num_C from ⟨spec_GetNum_ok, trivial⟩) Tryz.func207 (by kernel_rfl) (by kernel_rfl) spec_l12Num_H (by kernel_rfl) (by kernel_rfl)

/-! ### spec.GetText -/
noncomputable def spec_GetText_C : List (Nat × Any) := [(224, spec_GetNum_con)]
noncomputable def spec_GetText_H : Nat → Option Hint := look []
noncomputable def spec_GetText (b : List Int) (at1 : Int) : Option (Args [(.str, false), (.int .i64, false), (.bool, false)]) := runF Tryz.prog (look spec_GetText_C) F spec_GetText_H Tryz.f250 [(.sl 5 (.int .u8), false), (.int .i64, false)] [(.str, false), (.int .i64, false), (.bool, false)] 1 (b, at1, ())
theorem spec_GetText_eq (b : List Int) (at1 : Int) : spec_GetText F b at1 = (spec_GetNum F0 b at1).bind fun r13 => br (!r13.2.2.1) (some ((ByteArray.mk #[]), 0, false, ())) (br (decide (r13.1 > (w64 ((b.length : Int) - r13.2.1)))) (some ((ByteArray.mk #[]), 0, false, ())) (ck (okS r13.2.1 (w64 (r13.2.1 + r13.1)) (b.length : Int)) (some (strOf ((b.take (w64 (r13.2.1 + r13.1)).toNat).drop r13.2.1.toNat), w64 (r13.2.1 + r13.1), true, ())))) := by kernel_rfl
noncomputable def spec_GetText_con : Any := .one ⟨[(.sl 5 (.int .u8), false), (.int .i64, false)], [(.str, false), (.int .i64, false), (.bool, false)], 1, fun x => spec_GetText F0 x.1 x.2.1⟩
theorem spec_GetText_ok : AnyOk Tryz.prog TB 250 spec_GetText_con := ok1 (show AllOk Tryz.prog TB spec_GetText_C from ⟨spec_GetNum_ok, trivial⟩) Tryz.func250 (by kernel_rfl) (by kernel_rfl) spec_GetText_H (by kernel_rfl)

/-! ### spec.l12Text -/
noncomputable def spec_l12Text_C : List (Nat × Any) := [(250, spec_GetText_con)]
noncomputable def spec_l12Text_H : Nat → Option Hint := look []
noncomputable def spec_l12Text (c : D58) : Option (Args [(.str, false)] × Args [(K58, true)]) := runF2 Tryz.prog (look spec_l12Text_C) F spec_l12Text_H Tryz.f208 [(K58, true)] 0 .box [(.str, false)] [(K58, true)] 1 (c, ())
theorem spec_l12Text_eq (c : D58) : spec_l12Text F c = (spec_GetText F0 c.1 c.2.1).bind fun r15 => br (!r15.2.2.1) (some (((ByteArray.mk #[]), ()), ((c.1, (c.2.1, false)), ()))) (br (!c.2.2) (some (((ByteArray.mk #[]), ()), ((c.1, (c.2.1, false)), ()))) (some ((r15.1, ()), ((c.1, (r15.2.1, c.2.2)), ())))) := by kernel_rfl
noncomputable def spec_l12Text_con : Any := .two ⟨[(K58, true)], 0, .box, [(.str, false)], 1, [(K58, true)], fun x => spec_l12Text F0 x.1⟩
theorem spec_l12Text_ok : AnyOk Tryz.prog TB 208 spec_l12Text_con := ok3 (show AllOk Tryz.prog TB spec_l12Text_C from ⟨spec_GetText_ok, trivial⟩) Tryz.func208 (by kernel_rfl) (by kernel_rfl) spec_l12Text_H (by kernel_rfl) (by kernel_rfl)

/-! ### spec.l12Who -/
noncomputable def spec_l12Who_C : List (Nat × Any) := [(207, spec_l12Num_con)]
noncomputable def spec_l12Who_H : Nat → Option Hint := look [(4, { live := [0, 3, 4, 5], xl := [3], rl := [2] })]
noncomputable def spec_l12Who_1_s (n1 : Int) (i : Int) (t4000000 : List Int) (t40000001 : Int) (t40000002 : Bool) (xs : List Int) : St := { nt := 28, tm := [(0, .v (.c (.ptr 4000000 0))), (3, .v (.c (.own 1000000 none))), (4, .v (.c (.int .i64 n1))), (5, .v (.c (.int .i64 i)))], bx := [(4000000, [.ro false 5 (.int .u8) t4000000, .int .i64 t40000001, .bool t40000002])], bl := [(1000000, some ⟨3, .int .i64, xs, true, true⟩)], sp := .v (.c (.ptr 4000000 0)) }
noncomputable def spec_l12Who_1_e0 (t4000000 : List Int) (t40000001 : Int) (t40000002 : Bool) (xs : List Int) : St := { nt := 28, tm := [(3, .v (.c (.own 1000000 none)))], bx := [(4000000, [.ro false 5 (.int .u8) t4000000, .int .i64 t40000001, .bool t40000002])], bl := [(1000000, some ⟨3, .int .i64, xs, true, true⟩)], sp := .v (.c (.ptr 4000000 0)) }
noncomputable def spec_l12Who_1 (st : St) : Option α := lp Tryz.prog (look spec_l12Who_C) F spec_l12Who_H (sub [.r, .r, .r, .l, .r, .b, .i] (codeOf Tryz.f210)) κ n st
noncomputable def spec_l12Who_1_k : Ex → St → Option (Args [(.sl 3 (.int .i64), false)] × Args [(K58, true)]) := cont Tryz.prog (look spec_l12Who_C) F spec_l12Who_H [.r, .r, .r, .l, .r, .b] (codeOf Tryz.f210) (fin2 Tryz.prog Tryz.f210 .box [(.sl 3 (.int .i64), false)] [(K58, true)] 2)
theorem spec_l12Who_1_step (n1 : Int) (i : Int) (t4000000 : List Int) (t40000001 : Int) (t40000002 : Bool) (xs : List Int) : spec_l12Who_1 F κ (n + 1) (spec_l12Who_1_s n1 i t4000000 t40000001 t40000002 xs) = br (decide (i < n1)) (br t40000002 ((spec_l12Num F0 (t4000000, (t40000001, t40000002))).bind fun r22 => ck (okA F xs.length [r22.1.1].length 8) (spec_l12Who_1 F κ n (spec_l12Who_1_s n1 (w64 (i + 1)) r22.2.1.1 r22.2.1.2.1 r22.2.1.2.2 (xs ++ [r22.1.1])))) (κ (.exit 0) (spec_l12Who_1_e0 t4000000 t40000001 t40000002 xs))) (κ (.exit 0) (spec_l12Who_1_e0 t4000000 t40000001 t40000002 xs)) := by kernel_rfl
theorem spec_l12Who_1_ce0 (t4000000 : List Int) (t40000001 : Int) (t40000002 : Bool) (xs : List Int) : spec_l12Who_1_k F (.exit 0) (spec_l12Who_1_e0 t4000000 t40000001 t40000002 xs) = some ((xs, ()), ((t4000000, (t40000001, t40000002)), ())) := by kernel_rfl
noncomputable def spec_l12Who (c : D58) : Option (Args [(.sl 3 (.int .i64), false)] × Args [(K58, true)]) := runF2 Tryz.prog (look spec_l12Who_C) F spec_l12Who_H Tryz.f210 [(K58, true)] 0 .box [(.sl 3 (.int .i64), false)] [(K58, true)] 2 (c, ())
theorem spec_l12Who_eq (c : D58) : spec_l12Who F c = (spec_l12Num F0 c).bind fun r9 => spec_l12Who_1 F (spec_l12Who_1_k F) F.n (spec_l12Who_1_s r9.1.1 0 r9.2.1.1 r9.2.1.2.1 r9.2.1.2.2 []) := by kernel_rfl
noncomputable def spec_l12Who_con : Any := .two ⟨[(K58, true)], 0, .box, [(.sl 3 (.int .i64), false)], 2, [(K58, true)], fun x => spec_l12Who F0 x.1⟩
theorem spec_l12Who_ok : AnyOk Tryz.prog TB 210 spec_l12Who_con := ok3 (show AllOk Tryz.prog TB spec_l12Who_C from ⟨spec_l12Num_ok, trivial⟩) Tryz.func210 (by kernel_rfl) (by kernel_rfl) spec_l12Who_H (by kernel_rfl) (by kernel_rfl)

/-! ### spec.l12Qc -/
noncomputable def spec_l12Qc_C : List (Nat × Any) := [(207, spec_l12Num_con), (208, spec_l12Text_con), (210, spec_l12Who_con)]
noncomputable def spec_l12Qc_H : Nat → Option Hint := look []
noncomputable def spec_l12Qc (c : D58) : Option (Args [(K8, true)] × Args [(K58, true)]) := runF2 Tryz.prog (look spec_l12Qc_C) F spec_l12Qc_H Tryz.f209 [(K58, true)] 0 .box [(K8, true)] [(K58, true)] 2 (c, ())
theorem spec_l12Qc_eq (c : D58) : spec_l12Qc F c = (spec_l12Num F0 c).bind fun r6 => (spec_l12Text F0 r6.2.1).bind fun r9 => (spec_l12Who F0 r9.2.1).bind fun r12 => some (((r6.1.1, (r9.1.1, r12.1.1)), ()), (r12.2.1, ())) := by kernel_rfl
noncomputable def spec_l12Qc_con : Any := .two ⟨[(K58, true)], 0, .box, [(K8, true)], 2, [(K58, true)], fun x => spec_l12Qc F0 x.1⟩
theorem spec_l12Qc_ok : AnyOk Tryz.prog TB 209 spec_l12Qc_con := ok3 (show AllOk Tryz.prog TB spec_l12Qc_C from ⟨spec_l12Num_ok, spec_l12Text_ok, spec_l12Who_ok, trivial⟩) Tryz.func209 (by kernel_rfl) (by kernel_rfl) spec_l12Qc_H (by kernel_rfl) (by kernel_rfl)

/-! ### spec.MsgOf -/
noncomputable def spec_MsgOf_C : List (Nat × Any) := [(206, spec_MsgOk_con), (207, spec_l12Num_con), (208, spec_l12Text_con), (209, spec_l12Qc_con), (210, spec_l12Who_con)]
noncomputable def spec_MsgOf_H : Nat → Option Hint := look []
noncomputable def spec_MsgOf (c : D1) (b : List Int) : Option (Args [(K21, true), (.bool, false)]) := runF Tryz.prog (look spec_MsgOf_C) F spec_MsgOf_H Tryz.f156 [(K1, true), (.sl 5 (.int .u8), false)] [(K21, true), (.bool, false)] 2 (c, b, ())
theorem spec_MsgOf_eq (c : D1) (b : List Int) : spec_MsgOf F c b = (spec_l12Num F0 (b, (0, true))).bind fun r13 => br (r13.1.1 == 1) ((spec_l12Text F0 r13.2.1).bind fun r20 => (spec_l12Qc F0 r20.2.1).bind fun r24 => br (!r24.2.1.2.2) (some ((0, (0, (((ByteArray.mk #[]), (0, ((ByteArray.mk #[]), []))), ((0, ((ByteArray.mk #[]), [])), ((0, ((ByteArray.mk #[]), [])), (0, (0, (0, (0, 0))))))))), false, ())) (br (r24.2.1.2.1 != (b.length : Int)) (some ((0, (0, (((ByteArray.mk #[]), (0, ((ByteArray.mk #[]), []))), ((0, ((ByteArray.mk #[]), [])), ((0, ((ByteArray.mk #[]), [])), (0, (0, (0, (0, 0))))))))), false, ())) ((spec_MsgOk F0 c (r13.1.1, (0, ((r20.1.1, r24.1.1), ((0, ((ByteArray.mk #[]), [])), ((0, ((ByteArray.mk #[]), [])), (0, (0, (0, (0, 0)))))))))).bind fun r87 => br (!r87.1) (some ((0, (0, (((ByteArray.mk #[]), (0, ((ByteArray.mk #[]), []))), ((0, ((ByteArray.mk #[]), [])), ((0, ((ByteArray.mk #[]), [])), (0, (0, (0, (0, 0))))))))), false, ())) (some ((r13.1.1, (0, ((r20.1.1, r24.1.1), ((0, ((ByteArray.mk #[]), [])), ((0, ((ByteArray.mk #[]), [])), (0, (0, (0, (0, 0))))))))), true, ()))))) (br (r13.1.1 == 2) ((spec_l12Num F0 r13.2.1).bind fun r30 => (spec_l12Text F0 r30.2.1).bind fun r34 => (spec_l12Who F0 r34.2.1).bind fun r38 => br (!r38.2.1.2.2) (some ((0, (0, (((ByteArray.mk #[]), (0, ((ByteArray.mk #[]), []))), ((0, ((ByteArray.mk #[]), [])), ((0, ((ByteArray.mk #[]), [])), (0, (0, (0, (0, 0))))))))), false, ())) (br (r38.2.1.2.1 != (b.length : Int)) (some ((0, (0, (((ByteArray.mk #[]), (0, ((ByteArray.mk #[]), []))), ((0, ((ByteArray.mk #[]), [])), ((0, ((ByteArray.mk #[]), [])), (0, (0, (0, (0, 0))))))))), false, ())) ((spec_MsgOk F0 c (r13.1.1, (0, (((ByteArray.mk #[]), (0, ((ByteArray.mk #[]), []))), ((r30.1.1, (r34.1.1, r38.1.1)), ((0, ((ByteArray.mk #[]), [])), (0, (0, (0, (0, 0)))))))))).bind fun r87 => br (!r87.1) (some ((0, (0, (((ByteArray.mk #[]), (0, ((ByteArray.mk #[]), []))), ((0, ((ByteArray.mk #[]), [])), ((0, ((ByteArray.mk #[]), [])), (0, (0, (0, (0, 0))))))))), false, ())) (some ((r13.1.1, (0, (((ByteArray.mk #[]), (0, ((ByteArray.mk #[]), []))), ((r30.1.1, (r34.1.1, r38.1.1)), ((0, ((ByteArray.mk #[]), [])), (0, (0, (0, (0, 0))))))))), true, ()))))) (br (r13.1.1 == 3) ((spec_l12Num F0 r13.2.1).bind fun r44 => (spec_l12Num F0 r44.2.1).bind fun r47 => (spec_l12Qc F0 r47.2.1).bind fun r50 => br (!r50.2.1.2.2) (some ((0, (0, (((ByteArray.mk #[]), (0, ((ByteArray.mk #[]), []))), ((0, ((ByteArray.mk #[]), [])), ((0, ((ByteArray.mk #[]), [])), (0, (0, (0, (0, 0))))))))), false, ())) (br (r50.2.1.2.1 != (b.length : Int)) (some ((0, (0, (((ByteArray.mk #[]), (0, ((ByteArray.mk #[]), []))), ((0, ((ByteArray.mk #[]), [])), ((0, ((ByteArray.mk #[]), [])), (0, (0, (0, (0, 0))))))))), false, ())) ((spec_MsgOk F0 c (r13.1.1, (r44.1.1, (((ByteArray.mk #[]), (0, ((ByteArray.mk #[]), []))), ((0, ((ByteArray.mk #[]), [])), (r50.1.1, (r47.1.1, (0, (0, (0, 0)))))))))).bind fun r87 => br (!r87.1) (some ((0, (0, (((ByteArray.mk #[]), (0, ((ByteArray.mk #[]), []))), ((0, ((ByteArray.mk #[]), [])), ((0, ((ByteArray.mk #[]), [])), (0, (0, (0, (0, 0))))))))), false, ())) (some ((r13.1.1, (r44.1.1, (((ByteArray.mk #[]), (0, ((ByteArray.mk #[]), []))), ((0, ((ByteArray.mk #[]), [])), (r50.1.1, (r47.1.1, (0, (0, (0, 0))))))))), true, ()))))) (br (r13.1.1 == 4) ((spec_l12Num F0 r13.2.1).bind fun r55 => (spec_l12Num F0 r55.2.1).bind fun r59 => (spec_l12Num F0 r59.2.1).bind fun r63 => (spec_l12Num F0 r63.2.1).bind fun r67 => br (!r67.2.1.2.2) (some ((0, (0, (((ByteArray.mk #[]), (0, ((ByteArray.mk #[]), []))), ((0, ((ByteArray.mk #[]), [])), ((0, ((ByteArray.mk #[]), [])), (0, (0, (0, (0, 0))))))))), false, ())) (br (r67.2.1.2.1 != (b.length : Int)) (some ((0, (0, (((ByteArray.mk #[]), (0, ((ByteArray.mk #[]), []))), ((0, ((ByteArray.mk #[]), [])), ((0, ((ByteArray.mk #[]), [])), (0, (0, (0, (0, 0))))))))), false, ())) ((spec_MsgOk F0 c (r13.1.1, (0, (((ByteArray.mk #[]), (0, ((ByteArray.mk #[]), []))), ((0, ((ByteArray.mk #[]), [])), ((0, ((ByteArray.mk #[]), [])), (0, (r55.1.1, (r59.1.1, (r63.1.1, r67.1.1)))))))))).bind fun r87 => br (!r87.1) (some ((0, (0, (((ByteArray.mk #[]), (0, ((ByteArray.mk #[]), []))), ((0, ((ByteArray.mk #[]), [])), ((0, ((ByteArray.mk #[]), [])), (0, (0, (0, (0, 0))))))))), false, ())) (some ((r13.1.1, (0, (((ByteArray.mk #[]), (0, ((ByteArray.mk #[]), []))), ((0, ((ByteArray.mk #[]), [])), ((0, ((ByteArray.mk #[]), [])), (0, (r55.1.1, (r59.1.1, (r63.1.1, r67.1.1))))))))), true, ()))))) (br (!r13.2.1.2.2) (some ((0, (0, (((ByteArray.mk #[]), (0, ((ByteArray.mk #[]), []))), ((0, ((ByteArray.mk #[]), [])), ((0, ((ByteArray.mk #[]), [])), (0, (0, (0, (0, 0))))))))), false, ())) (br (r13.2.1.2.1 != (b.length : Int)) (some ((0, (0, (((ByteArray.mk #[]), (0, ((ByteArray.mk #[]), []))), ((0, ((ByteArray.mk #[]), [])), ((0, ((ByteArray.mk #[]), [])), (0, (0, (0, (0, 0))))))))), false, ())) ((spec_MsgOk F0 c (r13.1.1, (0, (((ByteArray.mk #[]), (0, ((ByteArray.mk #[]), []))), ((0, ((ByteArray.mk #[]), [])), ((0, ((ByteArray.mk #[]), [])), (0, (0, (0, (0, 0)))))))))).bind fun r87 => br (!r87.1) (some ((0, (0, (((ByteArray.mk #[]), (0, ((ByteArray.mk #[]), []))), ((0, ((ByteArray.mk #[]), [])), ((0, ((ByteArray.mk #[]), [])), (0, (0, (0, (0, 0))))))))), false, ())) (some ((r13.1.1, (0, (((ByteArray.mk #[]), (0, ((ByteArray.mk #[]), []))), ((0, ((ByteArray.mk #[]), [])), ((0, ((ByteArray.mk #[]), [])), (0, (0, (0, (0, 0))))))))), true, ())))))))) := by kernel_rfl
noncomputable def spec_MsgOf_con : Any := .one ⟨[(K1, true), (.sl 5 (.int .u8), false)], [(K21, true), (.bool, false)], 2, fun x => spec_MsgOf F0 x.1 x.2.1⟩
theorem spec_MsgOf_ok : AnyOk Tryz.prog TB 156 spec_MsgOf_con := ok1 (show AllOk Tryz.prog TB spec_MsgOf_C from ⟨spec_MsgOk_ok, spec_l12Num_ok, spec_l12Text_ok, spec_l12Qc_ok, spec_l12Who_ok, trivial⟩) Tryz.func156 (by kernel_rfl) (by kernel_rfl) spec_MsgOf_H (by kernel_rfl)

/-! ### spec.WorldOk -/
noncomputable def spec_WorldOk_C : List (Nat × Any) := [(49, spec_ConfOk_con), (118, spec_l1In_con), (153, spec_SetOk_con), (154, spec_Faults_con), (155, spec_RepOk_con), (156, spec_MsgOf_con), (157, spec_NameOk_con), (158, spec_ViewOf_con)]
noncomputable def spec_WorldOk_H : Nat → Option Hint := look [(4, { live := [1, 3], xl := [1], rl := [2] }), (9, { live := [1, 4], xl := [1], rl := [2] }), (15, { live := [1, 7], rl := [2] })]
noncomputable def spec_WorldOk_3_s (i : Int) (w : Int) (w1 : Int) (w2 : List Int) (w3 : List D39) (w4 : List D41) (w5 : List D44) : St := { nt := 147, tm := [(1, .v (.c (.ptr 1 0))), (7, .v (.c (.int .i64 i)))], bx := [(1, [.int .i64 w, .int .i64 w1, .ro false 3 (.int .i64) w2, .ro false 57 (K39) w3, .ro false 122 (K41) w4, .ro false 116 (K44) w5])], bl := [] }
noncomputable def spec_WorldOk_3_r (t2 : Bool) : St := { nt := 147, tm := [(2, .v (.c (.bool t2)))], bx := [], bl := [] }
noncomputable def spec_WorldOk_3_e4  : St := { nt := 147, tm := [], bx := [], bl := [] }
noncomputable def spec_WorldOk_3 (st : St) : Option α := lp Tryz.prog (look spec_WorldOk_C) F spec_WorldOk_H (sub [.r, .r, .r, .r, .l, .r, .b, .i] (codeOf Tryz.f99)) κ n st
noncomputable def spec_WorldOk_3_k : Ex → St → Option (Args [(.bool, false)]) := cont Tryz.prog (look spec_WorldOk_C) F spec_WorldOk_H [.r, .r, .r, .r, .l, .r, .b] (codeOf Tryz.f99) (fin Tryz.prog Tryz.f99 [(.bool, false)] 1)
noncomputable def spec_WorldOk_2_s (i : Int) (w : Int) (w1 : Int) (w2 : List Int) (w3 : List D39) (w4 : List D41) (w5 : List D44) : St := { nt := 147, tm := [(1, .v (.c (.ptr 1 0))), (4, .v (.c (.int .i64 i)))], bx := [(1, [.int .i64 w, .int .i64 w1, .ro false 3 (.int .i64) w2, .ro false 57 (K39) w3, .ro false 122 (K41) w4, .ro false 116 (K44) w5])], bl := [] }
noncomputable def spec_WorldOk_2_r (t2 : Bool) : St := { nt := 147, tm := [(2, .v (.c (.bool t2)))], bx := [], bl := [] }
noncomputable def spec_WorldOk_2_e2 (w : Int) (w1 : Int) (w2 : List Int) (w3 : List D39) (w4 : List D41) (w5 : List D44) : St := { nt := 147, tm := [(1, .v (.c (.ptr 1 0)))], bx := [(1, [.int .i64 w, .int .i64 w1, .ro false 3 (.int .i64) w2, .ro false 57 (K39) w3, .ro false 122 (K41) w4, .ro false 116 (K44) w5])], bl := [] }
noncomputable def spec_WorldOk_2 (st : St) : Option α := lp Tryz.prog (look spec_WorldOk_C) F spec_WorldOk_H (sub [.r, .r, .r, .l, .r, .b, .i] (codeOf Tryz.f99)) κ n st
noncomputable def spec_WorldOk_2_k : Ex → St → Option (Args [(.bool, false)]) := cont Tryz.prog (look spec_WorldOk_C) F spec_WorldOk_H [.r, .r, .r, .l, .r, .b] (codeOf Tryz.f99) (fin Tryz.prog Tryz.f99 [(.bool, false)] 1)
noncomputable def spec_WorldOk_1_s (i : Int) (w : Int) (w1 : Int) (w2 : List Int) (w3 : List D39) (w4 : List D41) (w5 : List D44) : St := { nt := 147, tm := [(1, .v (.c (.ptr 1 0))), (3, .v (.c (.int .i64 i)))], bx := [(1, [.int .i64 w, .int .i64 w1, .ro false 3 (.int .i64) w2, .ro false 57 (K39) w3, .ro false 122 (K41) w4, .ro false 116 (K44) w5])], bl := [] }
noncomputable def spec_WorldOk_1_r (t2 : Bool) : St := { nt := 147, tm := [(2, .v (.c (.bool t2)))], bx := [], bl := [] }
noncomputable def spec_WorldOk_1_e0 (w : Int) (w1 : Int) (w2 : List Int) (w3 : List D39) (w4 : List D41) (w5 : List D44) : St := { nt := 147, tm := [(1, .v (.c (.ptr 1 0)))], bx := [(1, [.int .i64 w, .int .i64 w1, .ro false 3 (.int .i64) w2, .ro false 57 (K39) w3, .ro false 122 (K41) w4, .ro false 116 (K44) w5])], bl := [] }
noncomputable def spec_WorldOk_1 (st : St) : Option α := lp Tryz.prog (look spec_WorldOk_C) F spec_WorldOk_H (sub [.r, .r, .l, .r, .b, .i] (codeOf Tryz.f99)) κ n st
noncomputable def spec_WorldOk_1_k : Ex → St → Option (Args [(.bool, false)]) := cont Tryz.prog (look spec_WorldOk_C) F spec_WorldOk_H [.r, .r, .l, .r, .b] (codeOf Tryz.f99) (fin Tryz.prog Tryz.f99 [(.bool, false)] 1)
theorem spec_WorldOk_3_step (i : Int) (w : Int) (w1 : Int) (w2 : List Int) (w3 : List D39) (w4 : List D41) (w5 : List D44) : spec_WorldOk_3 F κ (n + 1) (spec_WorldOk_3_s i w w1 w2 w3 w4 w5) = br (decide (i < (w5.length : Int))) (ck (okI i (w5.length : Int)) ((spec_l1In F0 (at_ w5 i K44.dflt).2.2 0 (w64 (w - 1))).bind fun r131 => br (!r131.1) (κ .ret (spec_WorldOk_3_r false)) ((spec_NameOk F0 (at_ w5 i K44.dflt).2.1).bind fun r136 => br (!r136.1) (κ .ret (spec_WorldOk_3_r false)) ((spec_ViewOf F0 (at_ w5 i K44.dflt).2.1).bind fun r142 => br (r142.1 != (at_ w5 i K44.dflt).1) (κ .ret (spec_WorldOk_3_r false)) (spec_WorldOk_3 F κ n (spec_WorldOk_3_s (w64 (i + 1)) w w1 w2 w3 w4 w5)))))) (κ (.exit 4) (spec_WorldOk_3_e4 )) := by kernel_rfl
theorem spec_WorldOk_2_step (i : Int) (w : Int) (w1 : Int) (w2 : List Int) (w3 : List D39) (w4 : List D41) (w5 : List D44) : spec_WorldOk_2 F κ (n + 1) (spec_WorldOk_2_s i w w1 w2 w3 w4 w5) = br (decide (i < (w4.length : Int))) (ck (okI i (w4.length : Int)) ((spec_MsgOf F0 (w, w1) (at_ w4 i (0, [])).2).bind fun r94 => br (!r94.2.1) (κ .ret (spec_WorldOk_2_r false)) (ck (okI i (w4.length : Int)) ((spec_l1In F0 (at_ w4 i (0, [])).1 0 (w64 (w - 1))).bind fun r110 => br (!r110.1) (κ .ret (spec_WorldOk_2_r false)) (spec_WorldOk_2 F κ n (spec_WorldOk_2_s (w64 (i + 1)) w w1 w2 w3 w4 w5)))))) (κ (.exit 2) (spec_WorldOk_2_e2 w w1 w2 w3 w4 w5)) := by kernel_rfl
theorem spec_WorldOk_1_step (i : Int) (w : Int) (w1 : Int) (w2 : List Int) (w3 : List D39) (w4 : List D41) (w5 : List D44) : spec_WorldOk_1 F κ (n + 1) (spec_WorldOk_1_s i w w1 w2 w3 w4 w5) = br (decide (i < (w3.length : Int))) (ck (okI i (w3.length : Int)) (br ((at_ w3 i K39.dflt).1 != i) (κ .ret (spec_WorldOk_1_r false)) (ck (okI i (w3.length : Int)) ((spec_RepOk F0 (w, w1) (at_ w3 i K39.dflt)).bind fun r75 => br (!r75.1) (κ .ret (spec_WorldOk_1_r false)) (spec_WorldOk_1 F κ n (spec_WorldOk_1_s (w64 (i + 1)) w w1 w2 w3 w4 w5)))))) (κ (.exit 0) (spec_WorldOk_1_e0 w w1 w2 w3 w4 w5)) := by kernel_rfl
theorem spec_WorldOk_3_cr (t2 : Bool) : spec_WorldOk_3_k F .ret (spec_WorldOk_3_r t2) = some (t2, ()) := by kernel_rfl
theorem spec_WorldOk_3_ce4  : spec_WorldOk_3_k F (.exit 4) (spec_WorldOk_3_e4 ) = some (true, ()) := by kernel_rfl
theorem spec_WorldOk_2_cr (t2 : Bool) : spec_WorldOk_2_k F .ret (spec_WorldOk_2_r t2) = some (t2, ()) := by kernel_rfl
theorem spec_WorldOk_2_ce2 (w : Int) (w1 : Int) (w2 : List Int) (w3 : List D39) (w4 : List D41) (w5 : List D44) : spec_WorldOk_2_k F (.exit 2) (spec_WorldOk_2_e2 w w1 w2 w3 w4 w5) = spec_WorldOk_3 F (spec_WorldOk_3_k F) F.n (spec_WorldOk_3_s 0 w w1 w2 w3 w4 w5) := by kernel_rfl
theorem spec_WorldOk_1_cr (t2 : Bool) : spec_WorldOk_1_k F .ret (spec_WorldOk_1_r t2) = some (t2, ()) := by kernel_rfl
theorem spec_WorldOk_1_ce0 (w : Int) (w1 : Int) (w2 : List Int) (w3 : List D39) (w4 : List D41) (w5 : List D44) : spec_WorldOk_1_k F (.exit 0) (spec_WorldOk_1_e0 w w1 w2 w3 w4 w5) = spec_WorldOk_2 F (spec_WorldOk_2_k F) F.n (spec_WorldOk_2_s 0 w w1 w2 w3 w4 w5) := by kernel_rfl
noncomputable def spec_WorldOk (w : D56) : Option (Args [(.bool, false)]) := runF Tryz.prog (look spec_WorldOk_C) F spec_WorldOk_H Tryz.f99 [(K56, true)] [(.bool, false)] 1 (w, ())
theorem spec_WorldOk_eq (w : D56) : spec_WorldOk F w = (spec_ConfOk F0 w.1).bind fun r11 => br (!r11.1) (some (false, ())) ((spec_SetOk F0 w.1.1 w.2.1).bind fun r19 => br (!r19.1) (some (false, ())) ((spec_Faults F0 w.1).bind fun r28 => br (decide ((w.2.1.length : Int) > r28.1)) (some (false, ())) (br ((w.2.2.1.length : Int) != w.1.1) (some (false, ())) (br (decide ((w.2.2.2.1.length : Int) > 60)) (some (false, ())) (br (decide ((w.2.2.2.2.length : Int) > 300)) (some (false, ())) (spec_WorldOk_1 F (spec_WorldOk_1_k F) F.n (spec_WorldOk_1_s 0 w.1.1 w.1.2 w.2.1 w.2.2.1 w.2.2.2.1 w.2.2.2.2))))))) := by kernel_rfl
noncomputable def spec_WorldOk_con : Any := .one ⟨[(K56, true)], [(.bool, false)], 1, fun x => spec_WorldOk F0 x.1⟩
theorem spec_WorldOk_ok : AnyOk Tryz.prog TB 99 spec_WorldOk_con := ok1 (show AllOk Tryz.prog TB spec_WorldOk_C from ⟨spec_ConfOk_ok, spec_l1In_ok, spec_SetOk_ok, spec_Faults_ok, spec_RepOk_ok, spec_MsgOf_ok, spec_NameOk_ok, spec_ViewOf_ok, trivial⟩) Tryz.func99 (by kernel_rfl) (by kernel_rfl) spec_WorldOk_H (by kernel_rfl)

/-! ### impl.SafeOk -/
noncomputable def impl_SafeOk_C : List (Nat × Any) := [(121, impl_within_con), (129, impl_QcOk_con), (162, impl_NameOk_con)]
noncomputable def impl_SafeOk_H : Nat → Option Hint := look []
noncomputable def impl_SafeOk (c : D1) (s : D11) : Option (Args [(.bool, false)]) := runF Tryz.prog (look impl_SafeOk_C) F impl_SafeOk_H Tryz.f211 [(K1, true), (K11, true)] [(.bool, false)] 1 (c, s, ())
theorem impl_SafeOk_eq (c : D1) (s : D11) : impl_SafeOk F c s = (impl_within F0 s.1 0 60).bind fun r7 => br r7.1 ((impl_within F0 s.2.1 0 60).bind fun r11 => br r11.1 ((impl_QcOk F0 c s.2.2.1).bind fun r17 => br r17.1 ((impl_NameOk F0 s.2.2.2).bind fun r22 => some (r22.1, ())) (some (false, ()))) (some (false, ()))) (some (false, ())) := by kernel_rfl
noncomputable def impl_SafeOk_con : Any := .one ⟨[(K1, true), (K11, true)], [(.bool, false)], 1, fun x => impl_SafeOk F0 x.1 x.2.1⟩
theorem impl_SafeOk_ok : AnyOk Tryz.prog TB 211 impl_SafeOk_con := ok1 (show AllOk Tryz.prog TB impl_SafeOk_C from ⟨impl_within_ok, impl_QcOk_ok, impl_NameOk_ok, trivial⟩) Tryz.func211 (by kernel_rfl) (by kernel_rfl) impl_SafeOk_H (by kernel_rfl)

/-! ### impl.beforeTx -/
noncomputable def impl_beforeTx_C : List (Nat × Any) := []
noncomputable def impl_beforeTx_H : Nat → Option Hint := look []
noncomputable def impl_beforeTx (a : D3) (b : D3) : Option (Args [(.bool, false)]) := runF Tryz.prog (look impl_beforeTx_C) F impl_beforeTx_H Tryz.f251 [(K3, true), (K3, true)] [(.bool, false)] 1 (a, b, ())
theorem impl_beforeTx_eq (a : D3) (b : D3) : impl_beforeTx F a b = br (decide (a.1 < b.1)) (some (true, ())) (br (a.1 == b.1) (some (decide (a.2.2.2 < b.2.2.2), ())) (some (false, ()))) := by kernel_rfl
noncomputable def impl_beforeTx_con : Any := .one ⟨[(K3, true), (K3, true)], [(.bool, false)], 1, fun x => impl_beforeTx F0 x.1 x.2.1⟩
theorem impl_beforeTx_ok : AnyOk Tryz.prog TB 251 impl_beforeTx_con := ok1 (show AllOk Tryz.prog TB impl_beforeTx_C from trivial) Tryz.func251 (by kernel_rfl) (by kernel_rfl) impl_beforeTx_H (by kernel_rfl)

/-! ### impl.PoolOk -/
noncomputable def impl_PoolOk_C : List (Nat × Any) := [(222, impl_TxOk_con), (251, impl_beforeTx_con)]
noncomputable def impl_PoolOk_H : Nat → Option Hint := look [(2, { live := [0, 5, 6, 7], xl := [0], rl := [2] })]
noncomputable def impl_PoolOk_1_s (p : List D3) (t5 : List D3) (t6 : Int) (t7 : Int) : St := { nt := 33, tm := [(0, .v (.c (.ro false 126 (K3) p))), (5, .v (.c (.ro false 126 (K3) t5))), (6, .v (.c (.int .i64 t6))), (7, .v (.c (.int .i64 t7)))], bx := [], bl := [] }
noncomputable def impl_PoolOk_1_r (t2 : Bool) : St := { nt := 33, tm := [(2, .v (.c (.bool t2)))], bx := [], bl := [] }
noncomputable def impl_PoolOk_1_e0 (p : List D3) : St := { nt := 33, tm := [(0, .v (.c (.ro false 126 (K3) p)))], bx := [], bl := [] }
noncomputable def impl_PoolOk_1 (st : St) : Option α := lp Tryz.prog (look impl_PoolOk_C) F impl_PoolOk_H (sub [.r, .l, .r, .b, .i] (codeOf Tryz.f212)) κ n st
noncomputable def impl_PoolOk_1_k : Ex → St → Option (Args [(.bool, false)]) := cont Tryz.prog (look impl_PoolOk_C) F impl_PoolOk_H [.r, .l, .r, .b] (codeOf Tryz.f212) (fin Tryz.prog Tryz.f212 [(.bool, false)] 1)
theorem impl_PoolOk_1_step (p : List D3) (t5 : List D3) (t6 : Int) (t7 : Int) : impl_PoolOk_1 F κ (n + 1) (impl_PoolOk_1_s p t5 t6 t7) = br (decide (t7 < t6)) (ck (okI t7 (t5.length : Int)) ((impl_TxOk F0 (at_ t5 t7 K3.dflt)).bind fun r13 => br (!r13.1) (κ .ret (impl_PoolOk_1_r false)) (br (decide (t7 > 0)) (ck (okI (w64 (t7 - 1)) (p.length : Int)) ((impl_beforeTx F0 (at_ p (w64 (t7 - 1)) K3.dflt) (at_ t5 t7 K3.dflt)).bind fun r25 => br (!r25.1) (κ .ret (impl_PoolOk_1_r false)) (impl_PoolOk_1 F κ n (impl_PoolOk_1_s p t5 t6 (w64 (t7 + 1)))))) (impl_PoolOk_1 F κ n (impl_PoolOk_1_s p t5 t6 (w64 (t7 + 1))))))) (κ (.exit 0) (impl_PoolOk_1_e0 p)) := by kernel_rfl
theorem impl_PoolOk_1_cr (t2 : Bool) : impl_PoolOk_1_k F .ret (impl_PoolOk_1_r t2) = some (t2, ()) := by kernel_rfl
theorem impl_PoolOk_1_ce0 (p : List D3) : impl_PoolOk_1_k F (.exit 0) (impl_PoolOk_1_e0 p) = some (decide ((p.length : Int) ≤ 12), ()) := by kernel_rfl
noncomputable def impl_PoolOk (p : D4) : Option (Args [(.bool, false)]) := runF Tryz.prog (look impl_PoolOk_C) F impl_PoolOk_H Tryz.f212 [(K4, false)] [(.bool, false)] 1 (p, ())
theorem impl_PoolOk_eq (p : D4) : impl_PoolOk F p = impl_PoolOk_1 F (impl_PoolOk_1_k F) F.n (impl_PoolOk_1_s p p (p.length : Int) 0) := by kernel_rfl
noncomputable def impl_PoolOk_con : Any := .one ⟨[(K4, false)], [(.bool, false)], 1, fun x => impl_PoolOk F0 x.1⟩
theorem impl_PoolOk_ok : AnyOk Tryz.prog TB 212 impl_PoolOk_con := ok1 (show AllOk Tryz.prog TB impl_PoolOk_C from ⟨impl_TxOk_ok, impl_beforeTx_ok, trivial⟩) Tryz.func212 (by kernel_rfl) (by kernel_rfl) impl_PoolOk_H (by kernel_rfl)

/-! ### impl.PartOk -/
noncomputable def impl_PartOk_C : List (Nat × Any) := [(57, impl_ConfOk_con), (121, impl_within_con), (159, impl_SetOk_con), (162, impl_NameOk_con), (163, impl_ViewOf_con)]
noncomputable def impl_PartOk_H : Nat → Option Hint := look []
noncomputable def impl_PartOk (c : D1) (p : D8) : Option (Args [(.bool, false)]) := runF Tryz.prog (look impl_PartOk_C) F impl_PartOk_H Tryz.f221 [(K1, true), (K8, true)] [(.bool, false)] 1 (c, p, ())
theorem impl_PartOk_eq (c : D1) (p : D8) : impl_PartOk F c p = (impl_ConfOk F0 c).bind fun r6 => br r6.1 ((impl_within F0 p.1 1 60).bind fun r10 => br r10.1 (br (p.2.1.toList == (ByteArray.mk #[]).toList) ((impl_SetOk F0 c.1 p.2.2).bind fun r35 => br r35.1 (some (decide ((p.2.2.length : Int) > 0), ())) (some (false, ()))) ((impl_NameOk F0 p.2.1).bind fun r19 => br r19.1 ((impl_ViewOf F0 p.2.1).bind fun r23 => br (r23.1 == p.1) ((impl_SetOk F0 c.1 p.2.2).bind fun r35 => br r35.1 (some (decide ((p.2.2.length : Int) > 0), ())) (some (false, ()))) (some (false, ()))) (some (false, ())))) (some (false, ()))) (some (false, ())) := by kernel_rfl
noncomputable def impl_PartOk_con : Any := .one ⟨[(K1, true), (K8, true)], [(.bool, false)], 1, fun x => impl_PartOk F0 x.1 x.2.1⟩
theorem impl_PartOk_ok : AnyOk Tryz.prog TB 221 impl_PartOk_con := ok1 (show AllOk Tryz.prog TB impl_PartOk_C from ⟨impl_ConfOk_ok, impl_within_ok, impl_SetOk_ok, impl_NameOk_ok, impl_ViewOf_ok, trivial⟩) Tryz.func221 (by kernel_rfl) (by kernel_rfl) impl_PartOk_H (by kernel_rfl)

/-! ### cmp.isNaN[int] -/
noncomputable def cmp_isNaN_int_C : List (Nat × Any) := []
noncomputable def cmp_isNaN_int_H : Nat → Option Hint := look []
noncomputable def cmp_isNaN_int (x : Int) : Option (Args [(.bool, false)]) := runF Tryz.prog (look cmp_isNaN_int_C) F cmp_isNaN_int_H Tryz.f292 [(.int .i64, false)] [(.bool, false)] 1 (x, ())
theorem cmp_isNaN_int_eq (x : Int) : cmp_isNaN_int F x = some ((x != x), ()) := by kernel_rfl
noncomputable def cmp_isNaN_int_con : Any := .one ⟨[(.int .i64, false)], [(.bool, false)], 1, fun x => cmp_isNaN_int F0 x.1⟩
theorem cmp_isNaN_int_ok : AnyOk Tryz.prog TB 292 cmp_isNaN_int_con := ok1 (show AllOk Tryz.prog TB cmp_isNaN_int_C from trivial) Tryz.func292 (by kernel_rfl) (by kernel_rfl) cmp_isNaN_int_H (by kernel_rfl)

/-! ### cmp.Compare[int] -/
noncomputable def cmp_Compare_int_C : List (Nat × Any) := [(292, cmp_isNaN_int_con)]
noncomputable def cmp_Compare_int_H : Nat → Option Hint := look []
noncomputable def cmp_Compare_int (x : Int) (y : Int) : Option (Args [(.int .i64, false)]) := runF Tryz.prog (look cmp_Compare_int_C) F cmp_Compare_int_H Tryz.f274 [(.int .i64, false), (.int .i64, false)] [(.int .i64, false)] 1 (x, y, ())
theorem cmp_Compare_int_eq (x : Int) (y : Int) : cmp_Compare_int F x y = (cmp_isNaN_int F0 x).bind fun r8 => (cmp_isNaN_int F0 y).bind fun r10 => br r8.1 (br r10.1 (some (0, ())) (some ((-1), ()))) (br r10.1 (some (1, ())) (br (decide (x < y)) (some ((-1), ())) (br (decide (x > y)) (some (1, ())) (some (0, ()))))) := by kernel_rfl
noncomputable def cmp_Compare_int_con : Any := .one ⟨[(.int .i64, false), (.int .i64, false)], [(.int .i64, false)], 1, fun x => cmp_Compare_int F0 x.1 x.2.1⟩
theorem cmp_Compare_int_ok : AnyOk Tryz.prog TB 274 cmp_Compare_int_con := ok1 (show AllOk Tryz.prog TB cmp_Compare_int_C from ⟨cmp_isNaN_int_ok, trivial⟩) Tryz.func274 (by kernel_rfl) (by kernel_rfl) cmp_Compare_int_H (by kernel_rfl)

/-! ### cmp.isNaN[string] -/
noncomputable def cmp_isNaN_string_C : List (Nat × Any) := []
noncomputable def cmp_isNaN_string_H : Nat → Option Hint := look []
noncomputable def cmp_isNaN_string (x : ByteArray) : Option (Args [(.bool, false)]) := runF Tryz.prog (look cmp_isNaN_string_C) F cmp_isNaN_string_H Tryz.f293 [(.str, false)] [(.bool, false)] 1 (x, ())
theorem cmp_isNaN_string_eq (x : ByteArray) : cmp_isNaN_string F x = some (!(x.toList == x.toList), ()) := by kernel_rfl
noncomputable def cmp_isNaN_string_con : Any := .one ⟨[(.str, false)], [(.bool, false)], 1, fun x => cmp_isNaN_string F0 x.1⟩
theorem cmp_isNaN_string_ok : AnyOk Tryz.prog TB 293 cmp_isNaN_string_con := ok1 (show AllOk Tryz.prog TB cmp_isNaN_string_C from trivial) Tryz.func293 (by kernel_rfl) (by kernel_rfl) cmp_isNaN_string_H (by kernel_rfl)

/-! ### cmp.Compare[string] -/
noncomputable def cmp_Compare_string_C : List (Nat × Any) := [(293, cmp_isNaN_string_con)]
noncomputable def cmp_Compare_string_H : Nat → Option Hint := look []
noncomputable def cmp_Compare_string (x : ByteArray) (y : ByteArray) : Option (Args [(.int .i64, false)]) := runF Tryz.prog (look cmp_Compare_string_C) F cmp_Compare_string_H Tryz.f275 [(.str, false), (.str, false)] [(.int .i64, false)] 1 (x, y, ())
theorem cmp_Compare_string_eq (x : ByteArray) (y : ByteArray) : cmp_Compare_string F x y = (cmp_isNaN_string F0 x).bind fun r8 => (cmp_isNaN_string F0 y).bind fun r10 => br r8.1 (br r10.1 (some (0, ())) (some ((-1), ()))) (br r10.1 (some (1, ())) (br (Op.bytesLess x.toList y.toList) (some ((-1), ())) (br (!(Op.bytesLess x.toList y.toList || (x.toList == y.toList))) (some (1, ())) (some (0, ()))))) := by kernel_rfl
noncomputable def cmp_Compare_string_con : Any := .one ⟨[(.str, false), (.str, false)], [(.int .i64, false)], 1, fun x => cmp_Compare_string F0 x.1 x.2.1⟩
theorem cmp_Compare_string_ok : AnyOk Tryz.prog TB 275 cmp_Compare_string_con := ok1 (show AllOk Tryz.prog TB cmp_Compare_string_C from ⟨cmp_isNaN_string_ok, trivial⟩) Tryz.func275 (by kernel_rfl) (by kernel_rfl) cmp_Compare_string_H (by kernel_rfl)

/-! ### impl.comparePlace -/
noncomputable def impl_comparePlace_C : List (Nat × Any) := [(274, cmp_Compare_int_con), (275, cmp_Compare_string_con)]
noncomputable def impl_comparePlace_H : Nat → Option Hint := look []
noncomputable def impl_comparePlace (a : D8) (b : D8) : Option (Args [(.int .i64, false)]) := runF Tryz.prog (look impl_comparePlace_C) F impl_comparePlace_H Tryz.f252 [(K8, true), (K8, true)] [(.int .i64, false)] 1 (a, b, ())
theorem impl_comparePlace_eq (a : D8) (b : D8) : impl_comparePlace F a b = (cmp_Compare_int F0 a.1 b.1).bind fun r10 => br (r10.1 != 0) (some (r10.1, ())) ((cmp_Compare_string F0 a.2.1 b.2.1).bind fun r18 => some (r18.1, ())) := by kernel_rfl
noncomputable def impl_comparePlace_con : Any := .one ⟨[(K8, true), (K8, true)], [(.int .i64, false)], 1, fun x => impl_comparePlace F0 x.1 x.2.1⟩
theorem impl_comparePlace_ok : AnyOk Tryz.prog TB 252 impl_comparePlace_con := ok1 (show AllOk Tryz.prog TB impl_comparePlace_C from ⟨cmp_Compare_int_ok, cmp_Compare_string_ok, trivial⟩) Tryz.func252 (by kernel_rfl) (by kernel_rfl) impl_comparePlace_H (by kernel_rfl)

/-! ### impl.TableOk -/
noncomputable def impl_TableOk_C : List (Nat × Any) := [(221, impl_PartOk_con), (252, impl_comparePlace_con)]
noncomputable def impl_TableOk_H : Nat → Option Hint := look [(2, { live := [1, 2, 7, 8, 9], xl := [1], rl := [4] })]
noncomputable def impl_TableOk_1_s (list : List D8) (t7 : List D8) (t8 : Int) (t9 : Int) (c : Int) (c1 : Int) : St := { nt := 36, tm := [(1, .v (.c (.ro false 85 (K8) list))), (2, .v (.c (.ptr 2 0))), (7, .v (.c (.ro false 85 (K8) t7))), (8, .v (.c (.int .i64 t8))), (9, .v (.c (.int .i64 t9)))], bx := [(2, [.int .i64 c, .int .i64 c1])], bl := [] }
noncomputable def impl_TableOk_1_r (t4 : Bool) : St := { nt := 36, tm := [(4, .v (.c (.bool t4)))], bx := [], bl := [] }
noncomputable def impl_TableOk_1_e0 (list : List D8) : St := { nt := 36, tm := [(1, .v (.c (.ro false 85 (K8) list)))], bx := [], bl := [] }
noncomputable def impl_TableOk_1 (st : St) : Option α := lp Tryz.prog (look impl_TableOk_C) F impl_TableOk_H (sub [.r, .l, .r, .b, .i] (codeOf Tryz.f213)) κ n st
noncomputable def impl_TableOk_1_k : Ex → St → Option (Args [(.bool, false)]) := cont Tryz.prog (look impl_TableOk_C) F impl_TableOk_H [.r, .l, .r, .b] (codeOf Tryz.f213) (fin Tryz.prog Tryz.f213 [(.bool, false)] 1)
theorem impl_TableOk_1_step (list : List D8) (t7 : List D8) (t8 : Int) (t9 : Int) (c : Int) (c1 : Int) : impl_TableOk_1 F κ (n + 1) (impl_TableOk_1_s list t7 t8 t9 c c1) = br (decide (t9 < t8)) (ck (okI t9 (t7.length : Int)) ((impl_PartOk F0 (c, c1) (at_ t7 t9 K8.dflt)).bind fun r16 => br (!r16.1) (κ .ret (impl_TableOk_1_r false)) (br (decide (t9 > 0)) (ck (okI (w64 (t9 - 1)) (list.length : Int)) ((impl_comparePlace F0 (at_ list (w64 (t9 - 1)) K8.dflt) (at_ t7 t9 K8.dflt)).bind fun r28 => br (decide (r28.1 ≥ 0)) (κ .ret (impl_TableOk_1_r false)) (impl_TableOk_1 F κ n (impl_TableOk_1_s list t7 t8 (w64 (t9 + 1)) c c1)))) (impl_TableOk_1 F κ n (impl_TableOk_1_s list t7 t8 (w64 (t9 + 1)) c c1))))) (κ (.exit 0) (impl_TableOk_1_e0 list)) := by kernel_rfl
theorem impl_TableOk_1_cr (t4 : Bool) : impl_TableOk_1_k F .ret (impl_TableOk_1_r t4) = some (t4, ()) := by kernel_rfl
theorem impl_TableOk_1_ce0 (list : List D8) : impl_TableOk_1_k F (.exit 0) (impl_TableOk_1_e0 list) = some (decide ((list.length : Int) ≤ 20), ()) := by kernel_rfl
noncomputable def impl_TableOk (c : D1) (list : D31) : Option (Args [(.bool, false)]) := runF Tryz.prog (look impl_TableOk_C) F impl_TableOk_H Tryz.f213 [(K1, true), (K31, false)] [(.bool, false)] 1 (c, list, ())
theorem impl_TableOk_eq (c : D1) (list : D31) : impl_TableOk F c list = impl_TableOk_1 F (impl_TableOk_1_k F) F.n (impl_TableOk_1_s list list (list.length : Int) 0 c.1 c.2) := by kernel_rfl
noncomputable def impl_TableOk_con : Any := .one ⟨[(K1, true), (K31, false)], [(.bool, false)], 1, fun x => impl_TableOk F0 x.1 x.2.1⟩
theorem impl_TableOk_ok : AnyOk Tryz.prog TB 213 impl_TableOk_con := ok1 (show AllOk Tryz.prog TB impl_TableOk_C from ⟨impl_PartOk_ok, impl_comparePlace_ok, trivial⟩) Tryz.func213 (by kernel_rfl) (by kernel_rfl) impl_TableOk_H (by kernel_rfl)

/-! ### impl.DiskOk -/
noncomputable def impl_DiskOk_C : List (Nat × Any) := [(121, impl_within_con)]
noncomputable def impl_DiskOk_H : Nat → Option Hint := look []
noncomputable def impl_DiskOk (d : D14) : Option (Args [(.bool, false)]) := runF Tryz.prog (look impl_DiskOk_C) F impl_DiskOk_H Tryz.f214 [(K14, true)] [(.bool, false)] 1 (d, ())
theorem impl_DiskOk_eq (d : D14) : impl_DiskOk F d = br (decide ((d.1.length : Int) ≤ 100000)) ((impl_within F0 d.2 0 (d.1.length : Int)).bind fun r13 => some (r13.1, ())) (some (false, ())) := by kernel_rfl
noncomputable def impl_DiskOk_con : Any := .one ⟨[(K14, true)], [(.bool, false)], 1, fun x => impl_DiskOk F0 x.1⟩
theorem impl_DiskOk_ok : AnyOk Tryz.prog TB 214 impl_DiskOk_con := ok1 (show AllOk Tryz.prog TB impl_DiskOk_C from ⟨impl_within_ok, trivial⟩) Tryz.func214 (by kernel_rfl) (by kernel_rfl) impl_DiskOk_H (by kernel_rfl)

/-! ### impl.named -/
noncomputable def impl_named_C : List (Nat × Any) := []
noncomputable def impl_named_H : Nat → Option Hint := look [(999999, { live := [1] })]
noncomputable def impl_named (m : D21) : Option (Args [(K21, true)]) := runF Tryz.prog (look impl_named_C) F impl_named_H Tryz.f219 [(K21, true)] [(K21, true)] 0 (m, ())
theorem impl_named_eq (m : D21) : impl_named F m = br (m.1 == 1) (some ((m.1, (0, (m.2.2.1, ((0, ((ByteArray.mk #[]), [])), ((0, ((ByteArray.mk #[]), [])), (0, (0, (0, (0, 0))))))))), ())) (br (m.1 == 2) (some ((m.1, (0, (((ByteArray.mk #[]), (0, ((ByteArray.mk #[]), []))), (m.2.2.2.1, ((0, ((ByteArray.mk #[]), [])), (0, (0, (0, (0, 0))))))))), ())) (br (m.1 == 3) (some ((m.1, (m.2.1, (((ByteArray.mk #[]), (0, ((ByteArray.mk #[]), []))), ((0, ((ByteArray.mk #[]), [])), (m.2.2.2.2.1, (m.2.2.2.2.2.1, (0, (0, (0, 0))))))))), ())) (br (m.1 == 4) (some ((m.1, (0, (((ByteArray.mk #[]), (0, ((ByteArray.mk #[]), []))), ((0, ((ByteArray.mk #[]), [])), ((0, ((ByteArray.mk #[]), [])), (0, m.2.2.2.2.2.2)))))), ())) (some ((m.1, (0, (((ByteArray.mk #[]), (0, ((ByteArray.mk #[]), []))), ((0, ((ByteArray.mk #[]), [])), ((0, ((ByteArray.mk #[]), [])), (0, (0, (0, (0, 0))))))))), ()))))) := by kernel_rfl
noncomputable def impl_named_con : Any := .one ⟨[(K21, true)], [(K21, true)], 0, fun x => impl_named F0 x.1⟩
theorem impl_named_ok : AnyOk Tryz.prog TB 219 impl_named_con := ok1 (show AllOk Tryz.prog TB impl_named_C from trivial) Tryz.func219 (by kernel_rfl) (by kernel_rfl) impl_named_H (by kernel_rfl)

/-! ### impl.BlockSame -/
noncomputable def impl_BlockSame_C : List (Nat × Any) := [(184, impl_QcSame_con)]
noncomputable def impl_BlockSame_H : Nat → Option Hint := look []
noncomputable def impl_BlockSame (a : D15) (b : D15) : Option (Args [(.bool, false)]) := runF Tryz.prog (look impl_BlockSame_C) F impl_BlockSame_H Tryz.f255 [(K15, true), (K15, true)] [(.bool, false)] 1 (a, b, ())
theorem impl_BlockSame_eq (a : D15) (b : D15) : impl_BlockSame F a b = br (a.1.toList == b.1.toList) ((impl_QcSame F0 a.2 b.2).bind fun r15 => some (r15.1, ())) (some (false, ())) := by kernel_rfl
noncomputable def impl_BlockSame_con : Any := .one ⟨[(K15, true), (K15, true)], [(.bool, false)], 1, fun x => impl_BlockSame F0 x.1 x.2.1⟩
theorem impl_BlockSame_ok : AnyOk Tryz.prog TB 255 impl_BlockSame_con := ok1 (show AllOk Tryz.prog TB impl_BlockSame_C from ⟨impl_QcSame_ok, trivial⟩) Tryz.func255 (by kernel_rfl) (by kernel_rfl) impl_BlockSame_H (by kernel_rfl)

/-! ### impl.partSame -/
noncomputable def impl_partSame_C : List (Nat × Any) := [(233, slices_Equal_int_int_con)]
noncomputable def impl_partSame_H : Nat → Option Hint := look []
noncomputable def impl_partSame (a : D8) (b : D8) : Option (Args [(.bool, false)]) := runF Tryz.prog (look impl_partSame_C) F impl_partSame_H Tryz.f256 [(K8, true), (K8, true)] [(.bool, false)] 1 (a, b, ())
theorem impl_partSame_eq (a : D8) (b : D8) : impl_partSame F a b = br (a.1 == b.1) (br (a.2.1.toList == b.2.1.toList) ((slices_Equal_int_int F0 a.2.2 b.2.2).bind fun r22 => some (r22.1, ())) (some (false, ()))) (some (false, ())) := by kernel_rfl
noncomputable def impl_partSame_con : Any := .one ⟨[(K8, true), (K8, true)], [(.bool, false)], 1, fun x => impl_partSame F0 x.1 x.2.1⟩
theorem impl_partSame_ok : AnyOk Tryz.prog TB 256 impl_partSame_con := ok1 (show AllOk Tryz.prog TB impl_partSame_C from ⟨slices_Equal_int_int_ok, trivial⟩) Tryz.func256 (by kernel_rfl) (by kernel_rfl) impl_partSame_H (by kernel_rfl)

/-! ### impl.MsgSame -/
noncomputable def impl_MsgSame_C : List (Nat × Any) := [(184, impl_QcSame_con), (255, impl_BlockSame_con), (256, impl_partSame_con)]
noncomputable def impl_MsgSame_H : Nat → Option Hint := look []
noncomputable def impl_MsgSame (a : D21) (b : D21) : Option (Args [(.bool, false)]) := runF Tryz.prog (look impl_MsgSame_C) F impl_MsgSame_H Tryz.f218 [(K21, true), (K21, true)] [(.bool, false)] 1 (a, b, ())
theorem impl_MsgSame_eq (a : D21) (b : D21) : impl_MsgSame F a b = br (a.1 == b.1) (br (a.2.1 == b.2.1) ((impl_BlockSame F0 a.2.2.1 b.2.2.1).bind fun r22 => br r22.1 ((impl_partSame F0 a.2.2.2.1 b.2.2.2.1).bind fun r29 => br r29.1 ((impl_QcSame F0 a.2.2.2.2.1 b.2.2.2.2.1).bind fun r36 => br r36.1 (br (a.2.2.2.2.2.1 == b.2.2.2.2.2.1) (some (((a.2.2.2.2.2.2.1 == b.2.2.2.2.2.2.1) && ((a.2.2.2.2.2.2.2.1 == b.2.2.2.2.2.2.2.1) && ((a.2.2.2.2.2.2.2.2.1 == b.2.2.2.2.2.2.2.2.1) && ((a.2.2.2.2.2.2.2.2.2 == b.2.2.2.2.2.2.2.2.2) && true)))), ())) (some (false, ()))) (some (false, ()))) (some (false, ()))) (some (false, ()))) (some (false, ()))) (some (false, ())) := by kernel_rfl
noncomputable def impl_MsgSame_con : Any := .one ⟨[(K21, true), (K21, true)], [(.bool, false)], 1, fun x => impl_MsgSame F0 x.1 x.2.1⟩
theorem impl_MsgSame_ok : AnyOk Tryz.prog TB 218 impl_MsgSame_con := ok1 (show AllOk Tryz.prog TB impl_MsgSame_C from ⟨impl_QcSame_ok, impl_BlockSame_ok, impl_partSame_ok, trivial⟩) Tryz.func218 (by kernel_rfl) (by kernel_rfl) impl_MsgSame_H (by kernel_rfl)

/-! ### bytealg.LastIndexByteString -/
noncomputable def bytealg_LastIndexByteString_C : List (Nat × Any) := []
noncomputable def bytealg_LastIndexByteString_H : Nat → Option Hint := look [(2, { live := [0, 1, 5], rl := [4] })]
noncomputable def bytealg_LastIndexByteString_1_s (s : ByteArray) (c : Int) (i : Int) : St := { nt := 19, tm := [(0, .v (.c (.str s))), (1, .v (.c (.int .u8 c))), (5, .v (.c (.int .i64 i)))], bx := [], bl := [] }
noncomputable def bytealg_LastIndexByteString_1_r (t4 : Int) : St := { nt := 19, tm := [(4, .v (.c (.int .i64 t4)))], bx := [], bl := [] }
noncomputable def bytealg_LastIndexByteString_1_e0  : St := { nt := 19, tm := [], bx := [], bl := [] }
noncomputable def bytealg_LastIndexByteString_1 (st : St) : Option α := lp Tryz.prog (look bytealg_LastIndexByteString_C) F bytealg_LastIndexByteString_H (sub [.r, .l, .r, .b, .i] (codeOf Tryz.f294)) κ n st
noncomputable def bytealg_LastIndexByteString_1_k : Ex → St → Option (Args [(.int .i64, false)]) := cont Tryz.prog (look bytealg_LastIndexByteString_C) F bytealg_LastIndexByteString_H [.r, .l, .r, .b] (codeOf Tryz.f294) (fin Tryz.prog Tryz.f294 [(.int .i64, false)] 1)
theorem bytealg_LastIndexByteString_1_step (s : ByteArray) (c : Int) (i : Int) : bytealg_LastIndexByteString_1 F κ (n + 1) (bytealg_LastIndexByteString_1_s s c i) = br (decide (i ≥ 0)) (ck (okI i (s.size : Int)) (br ((byteAt s i) == c) (κ .ret (bytealg_LastIndexByteString_1_r i)) (bytealg_LastIndexByteString_1 F κ n (bytealg_LastIndexByteString_1_s s c (w64 (i - 1)))))) (κ (.exit 0) (bytealg_LastIndexByteString_1_e0 )) := by kernel_rfl
theorem bytealg_LastIndexByteString_1_cr (t4 : Int) : bytealg_LastIndexByteString_1_k F .ret (bytealg_LastIndexByteString_1_r t4) = some (t4, ()) := by kernel_rfl
noncomputable def bytealg_LastIndexByteString (s : ByteArray) (c : Int) : Option (Args [(.int .i64, false)]) := runF Tryz.prog (look bytealg_LastIndexByteString_C) F bytealg_LastIndexByteString_H Tryz.f294 [(.str, false), (.int .u8, false)] [(.int .i64, false)] 1 (s, c, ())
theorem bytealg_LastIndexByteString_eq (s : ByteArray) (c : Int) : bytealg_LastIndexByteString F s c = bytealg_LastIndexByteString_1 F (bytealg_LastIndexByteString_1_k F) F.n (bytealg_LastIndexByteString_1_s s c (w64 ((s.size : Int) - 1))) := by kernel_rfl
noncomputable def bytealg_LastIndexByteString_con : Any := .one ⟨[(.str, false), (.int .u8, false)], [(.int .i64, false)], 1, fun x => bytealg_LastIndexByteString F0 x.1 x.2.1⟩
theorem bytealg_LastIndexByteString_ok : AnyOk Tryz.prog TB 294 bytealg_LastIndexByteString_con := ok1 (show AllOk Tryz.prog TB bytealg_LastIndexByteString_C from trivial) Tryz.func294 (by kernel_rfl) (by kernel_rfl) bytealg_LastIndexByteString_H (by kernel_rfl)

/-! ### strings.LastIndexByte -/
noncomputable def strings_LastIndexByte_C : List (Nat × Any) := [(294, bytealg_LastIndexByteString_con)]
noncomputable def strings_LastIndexByte_H : Nat → Option Hint := look []
noncomputable def strings_LastIndexByte (s : ByteArray) (c : Int) : Option (Args [(.int .i64, false)]) := runF Tryz.prog (look strings_LastIndexByte_C) F strings_LastIndexByte_H Tryz.f276 [(.str, false), (.int .u8, false)] [(.int .i64, false)] 1 (s, c, ())
theorem strings_LastIndexByte_eq (s : ByteArray) (c : Int) : strings_LastIndexByte F s c = (bytealg_LastIndexByteString F0 s c).bind fun r7 => some (r7.1, ()) := by kernel_rfl
noncomputable def strings_LastIndexByte_con : Any := .one ⟨[(.str, false), (.int .u8, false)], [(.int .i64, false)], 1, fun x => strings_LastIndexByte F0 x.1 x.2.1⟩
theorem strings_LastIndexByte_ok : AnyOk Tryz.prog TB 276 strings_LastIndexByte_con := ok1 (show AllOk Tryz.prog TB strings_LastIndexByte_C from ⟨bytealg_LastIndexByteString_ok, trivial⟩) Tryz.func276 (by kernel_rfl) (by kernel_rfl) strings_LastIndexByte_H (by kernel_rfl)

/-! ### impl.UpOf -/
noncomputable def impl_UpOf_C : List (Nat × Any) := [(162, impl_NameOk_con), (276, strings_LastIndexByte_con)]
noncomputable def impl_UpOf_H : Nat → Option Hint := look []
noncomputable def impl_UpOf (s : ByteArray) : Option (Args [(.str, false)]) := runF Tryz.prog (look impl_UpOf_C) F impl_UpOf_H Tryz.f257 [(.str, false)] [(.str, false)] 1 (s, ())
theorem impl_UpOf_eq (s : ByteArray) : impl_UpOf F s = (impl_NameOk F0 s).bind fun r4 => br (!r4.1) (some ((ByteArray.mk #[]), ())) (br (s.toList == (ByteArray.mk #[]).toList) (some ((ByteArray.mk #[]), ())) ((strings_LastIndexByte F0 s 47).bind fun r12 => ck (okS 0 r12.1 (s.size : Int)) (some (s.extract (0 : Int).toNat r12.1.toNat, ())))) := by kernel_rfl
noncomputable def impl_UpOf_con : Any := .one ⟨[(.str, false)], [(.str, false)], 1, fun x => impl_UpOf F0 x.1⟩
theorem impl_UpOf_ok : AnyOk Tryz.prog TB 257 impl_UpOf_con := ok1 (show AllOk Tryz.prog TB impl_UpOf_C from ⟨impl_NameOk_ok, strings_LastIndexByte_ok, trivial⟩) Tryz.func257 (by kernel_rfl) (by kernel_rfl) impl_UpOf_H (by kernel_rfl)

/-! ### impl.BlockOk -/
noncomputable def impl_BlockOk_C : List (Nat × Any) := [(129, impl_QcOk_con), (162, impl_NameOk_con), (257, impl_UpOf_con)]
noncomputable def impl_BlockOk_H : Nat → Option Hint := look []
noncomputable def impl_BlockOk (c : D1) (b : D15) : Option (Args [(.bool, false)]) := runF Tryz.prog (look impl_BlockOk_C) F impl_BlockOk_H Tryz.f220 [(K1, true), (K15, true)] [(.bool, false)] 1 (c, b, ())
theorem impl_BlockOk_eq (c : D1) (b : D15) : impl_BlockOk F c b = (impl_QcOk F0 c b.2).bind fun r8 => br r8.1 (br (!(b.1.toList == (ByteArray.mk #[]).toList)) ((impl_NameOk F0 b.1).bind fun r17 => br r17.1 ((impl_UpOf F0 b.1).bind fun r22 => some ((r22.1.toList == b.2.2.1.toList), ())) (some (false, ()))) (some (false, ()))) (some (false, ())) := by kernel_rfl
noncomputable def impl_BlockOk_con : Any := .one ⟨[(K1, true), (K15, true)], [(.bool, false)], 1, fun x => impl_BlockOk F0 x.1 x.2.1⟩
theorem impl_BlockOk_ok : AnyOk Tryz.prog TB 220 impl_BlockOk_con := ok1 (show AllOk Tryz.prog TB impl_BlockOk_C from ⟨impl_QcOk_ok, impl_NameOk_ok, impl_UpOf_ok, trivial⟩) Tryz.func220 (by kernel_rfl) (by kernel_rfl) impl_BlockOk_H (by kernel_rfl)

/-! ### impl.MsgOk -/
noncomputable def impl_MsgOk_C : List (Nat × Any) := [(57, impl_ConfOk_con), (121, impl_within_con), (129, impl_QcOk_con), (218, impl_MsgSame_con), (219, impl_named_con), (220, impl_BlockOk_con), (221, impl_PartOk_con), (222, impl_TxOk_con)]
noncomputable def impl_MsgOk_H : Nat → Option Hint := look []
noncomputable def impl_MsgOk (c : D1) (m : D21) : Option (Args [(.bool, false)]) := runF Tryz.prog (look impl_MsgOk_C) F impl_MsgOk_H Tryz.f170 [(K1, true), (K21, true)] [(.bool, false)] 1 (c, m, ())
theorem impl_MsgOk_eq (c : D1) (m : D21) : impl_MsgOk F c m = (impl_ConfOk F0 c).bind fun r6 => br (!r6.1) (some (false, ())) ((impl_named F0 m).bind fun r11 => (impl_MsgSame F0 m r11.1).bind fun r12 => br (!r12.1) (some (false, ())) (br (m.1 == 1) ((impl_BlockOk F0 c m.2.2.1).bind fun r22 => some (r22.1, ())) (br (m.1 == 2) ((impl_PartOk F0 c m.2.2.2.1).bind fun r28 => br r28.1 (some (!(m.2.2.2.1.2.1.toList == (ByteArray.mk #[]).toList), ())) (some (false, ()))) (br (m.1 == 3) ((impl_within F0 m.2.1 1 60).bind fun r39 => br r39.1 ((impl_QcOk F0 c m.2.2.2.2.1).bind fun r44 => br r44.1 ((impl_within F0 m.2.2.2.2.2.1 0 (w64 (c.1 - 1))).bind fun r52 => some (r52.1, ())) (some (false, ()))) (some (false, ()))) (br (m.1 == 4) ((impl_TxOk F0 m.2.2.2.2.2.2).bind fun r58 => some (r58.1, ())) (some (false, ()))))))) := by kernel_rfl
noncomputable def impl_MsgOk_con : Any := .one ⟨[(K1, true), (K21, true)], [(.bool, false)], 1, fun x => impl_MsgOk F0 x.1 x.2.1⟩
theorem impl_MsgOk_ok : AnyOk Tryz.prog TB 170 impl_MsgOk_con := ok1 (show AllOk Tryz.prog TB impl_MsgOk_C from ⟨impl_ConfOk_ok, impl_within_ok, impl_QcOk_ok, impl_MsgSame_ok, impl_named_ok, impl_BlockOk_ok, impl_PartOk_ok, impl_TxOk_ok, trivial⟩) Tryz.func170 (by kernel_rfl) (by kernel_rfl) impl_MsgOk_H (by kernel_rfl)

/-! ### impl.RepOk -/
noncomputable def impl_RepOk_C : List (Nat × Any) := [(57, impl_ConfOk_con), (121, impl_within_con), (170, impl_MsgOk_con), (211, impl_SafeOk_con), (212, impl_PoolOk_con), (213, impl_TableOk_con), (214, impl_DiskOk_con)]
noncomputable def impl_RepOk_H : Nat → Option Hint := look [(4, { live := [2, 3, 64, 65, 66], rl := [4] })]
noncomputable def impl_RepOk_1_s (t64 : List D22) (t65 : Int) (t66 : Int) (c : Int) (c1 : Int) (r : Int) (r1 : Int) (r2 : Int) (r3 : Int) (r4 : Int) (r5 : Int) (r6 : ByteArray) (r7 : List Int) (r8 : ByteArray) (r9 : List D3) (r10 : List D8) (r11 : List Int) (r12 : Int) (r13 : List D22) : St := { nt := 92, tm := [(2, .v (.c (.ptr 2 0))), (3, .v (.c (.ptr 3 0))), (64, .v (.c (.ro false 167 (K22) t64))), (65, .v (.c (.int .i64 t65))), (66, .v (.c (.int .i64 t66)))], bx := [(2, [.int .i64 c, .int .i64 c1]), (3, [.int .i64 r, .int .i64 r1, .int .i64 r2, .int .i64 r3, .int .i64 r4, .int .i64 r5, .str r6, .ro false 3 (.int .i64) r7, .str r8, .ro false 126 (K3) r9, .ro false 85 (K8) r10, .ro false 5 (.int .u8) r11, .int .i64 r12, .ro false 167 (K22) r13])], bl := [] }
noncomputable def impl_RepOk_1_r (t4 : Bool) : St := { nt := 92, tm := [(4, .v (.c (.bool t4)))], bx := [], bl := [] }
noncomputable def impl_RepOk_1_e0  : St := { nt := 92, tm := [], bx := [], bl := [] }
noncomputable def impl_RepOk_1 (st : St) : Option α := lp Tryz.prog (look impl_RepOk_C) F impl_RepOk_H (sub [.r, .r, .l, .r, .b, .i] (codeOf Tryz.f161)) κ n st
noncomputable def impl_RepOk_1_k : Ex → St → Option (Args [(.bool, false)]) := cont Tryz.prog (look impl_RepOk_C) F impl_RepOk_H [.r, .r, .l, .r, .b] (codeOf Tryz.f161) (fin Tryz.prog Tryz.f161 [(.bool, false)] 1)
theorem impl_RepOk_1_step (t64 : List D22) (t65 : Int) (t66 : Int) (c : Int) (c1 : Int) (r : Int) (r1 : Int) (r2 : Int) (r3 : Int) (r4 : Int) (r5 : Int) (r6 : ByteArray) (r7 : List Int) (r8 : ByteArray) (r9 : List D3) (r10 : List D8) (r11 : List Int) (r12 : Int) (r13 : List D22) : impl_RepOk_1 F κ (n + 1) (impl_RepOk_1_s t64 t65 t66 c c1 r r1 r2 r3 r4 r5 r6 r7 r8 r9 r10 r11 r12 r13) = br (decide (t66 < t65)) (ck (okI t66 (t64.length : Int)) ((impl_MsgOk F0 (c, c1) (at_ t64 t66 K22.dflt).2).bind fun r73 => br (!r73.1) (κ .ret (impl_RepOk_1_r false)) ((impl_within F0 (at_ t64 t66 K22.dflt).1 0 (w64 (c - 1))).bind fun r81 => br (!r81.1) (κ .ret (impl_RepOk_1_r false)) (br ((at_ t64 t66 K22.dflt).1 == r) (κ .ret (impl_RepOk_1_r false)) (impl_RepOk_1 F κ n (impl_RepOk_1_s t64 t65 (w64 (t66 + 1)) c c1 r r1 r2 r3 r4 r5 r6 r7 r8 r9 r10 r11 r12 r13)))))) (κ (.exit 0) (impl_RepOk_1_e0 )) := by kernel_rfl
theorem impl_RepOk_1_cr (t4 : Bool) : impl_RepOk_1_k F .ret (impl_RepOk_1_r t4) = some (t4, ()) := by kernel_rfl
theorem impl_RepOk_1_ce0  : impl_RepOk_1_k F (.exit 0) (impl_RepOk_1_e0 ) = some (true, ()) := by kernel_rfl
noncomputable def impl_RepOk (c : D1) (r : D39) : Option (Args [(.bool, false)]) := runF Tryz.prog (look impl_RepOk_C) F impl_RepOk_H Tryz.f161 [(K1, true), (K39, true)] [(.bool, false)] 1 (c, r, ())
theorem impl_RepOk_eq (c : D1) (r : D39) : impl_RepOk F c r = (impl_ConfOk F0 c).bind fun r8 => br (!r8.1) (some (false, ())) ((impl_within F0 r.1 0 (w64 (c.1 - 1))).bind fun r16 => br (!r16.1) (some (false, ())) ((impl_within F0 r.2.1 1 60).bind fun r22 => br (!r22.1) (some (false, ())) ((impl_within F0 r.2.2.1 0 60).bind fun r28 => br (!r28.1) (some (false, ())) ((impl_SafeOk F0 c r.2.2.2.1).bind fun r35 => br (!r35.1) (some (false, ())) ((impl_PoolOk F0 r.2.2.2.2.1).bind fun r41 => br (!r41.1) (some (false, ())) ((impl_TableOk F0 c r.2.2.2.2.2.1).bind fun r48 => br (!r48.1) (some (false, ())) ((impl_DiskOk F0 r.2.2.2.2.2.2.1).bind fun r54 => br (!r54.1) (some (false, ())) (br (decide ((r.2.2.2.2.2.2.2.length : Int) > 30)) (some (false, ())) (impl_RepOk_1 F (impl_RepOk_1_k F) F.n (impl_RepOk_1_s r.2.2.2.2.2.2.2 (r.2.2.2.2.2.2.2.length : Int) 0 c.1 c.2 r.1 r.2.1 r.2.2.1 r.2.2.2.1.1 r.2.2.2.1.2.1 r.2.2.2.1.2.2.1.1 r.2.2.2.1.2.2.1.2.1 r.2.2.2.1.2.2.1.2.2 r.2.2.2.1.2.2.2 r.2.2.2.2.1 r.2.2.2.2.2.1 r.2.2.2.2.2.2.1.1 r.2.2.2.2.2.2.1.2 r.2.2.2.2.2.2.2)))))))))) := by kernel_rfl
noncomputable def impl_RepOk_con : Any := .one ⟨[(K1, true), (K39, true)], [(.bool, false)], 1, fun x => impl_RepOk F0 x.1 x.2.1⟩
theorem impl_RepOk_ok : AnyOk Tryz.prog TB 161 impl_RepOk_con := ok1 (show AllOk Tryz.prog TB impl_RepOk_C from ⟨impl_ConfOk_ok, impl_within_ok, impl_MsgOk_ok, impl_SafeOk_ok, impl_PoolOk_ok, impl_TableOk_ok, impl_DiskOk_ok, trivial⟩) Tryz.func161 (by kernel_rfl) (by kernel_rfl) impl_RepOk_H (by kernel_rfl)

/-! ### impl.PutNum -/
noncomputable def impl_PutNum_C : List (Nat × Any) := [(121, impl_within_con)]
noncomputable def impl_PutNum_H : Nat → Option Hint := look [(4, { live := [0, 3], mat := [(3, 5, .int .u8)], xl := [0, 3], rl := [2] })]
noncomputable def impl_PutNum_1_s (n1 : Int) (xs : List Int) : St := { nt := 23, tm := [(0, .v (.c (.int .i64 n1))), (3, .v (.c (.own 1000000 none)))], bx := [], bl := [(1000000, some ⟨5, .int .u8, xs, true, true⟩)] }
noncomputable def impl_PutNum_1_e0 (n1 : Int) (xs : List Int) : St := { nt := 23, tm := [(0, .v (.c (.int .i64 n1))), (3, .v (.c (.own 1000000 none)))], bx := [], bl := [(1000000, some ⟨5, .int .u8, xs, true, true⟩)] }
noncomputable def impl_PutNum_1 (st : St) : Option α := lp Tryz.prog (look impl_PutNum_C) F impl_PutNum_H (sub [.r, .r, .r, .l, .b, .i] (codeOf Tryz.f254)) κ n st
noncomputable def impl_PutNum_1_k : Ex → St → Option (Args [(.sl 5 (.int .u8), false)]) := cont Tryz.prog (look impl_PutNum_C) F impl_PutNum_H [.r, .r, .r, .l, .b] (codeOf Tryz.f254) (fin Tryz.prog Tryz.f254 [(.sl 5 (.int .u8), false)] 2)
theorem impl_PutNum_1_step (n1 : Int) (xs : List Int) : impl_PutNum_1 F κ (n + 1) (impl_PutNum_1_s n1 xs) = br (decide (n1 ≥ 128)) (ck (okA F xs.length [IntKind.wrap .u8 (w64 ((Int.tmod n1 128) + 128))].length 1) (impl_PutNum_1 F κ n (impl_PutNum_1_s (w64 (Int.tdiv n1 128)) (xs ++ [IntKind.wrap .u8 (w64 ((Int.tmod n1 128) + 128))])))) (κ (.exit 0) (impl_PutNum_1_e0 n1 xs)) := by kernel_rfl
theorem impl_PutNum_1_ce0 (n1 : Int) (xs : List Int) : impl_PutNum_1_k F (.exit 0) (impl_PutNum_1_e0 n1 xs) = ck (okA F xs.length [IntKind.wrap .u8 (n1)].length 1) (some (xs ++ [IntKind.wrap .u8 (n1)], ())) := by kernel_rfl
noncomputable def impl_PutNum (n1 : Int) : Option (Args [(.sl 5 (.int .u8), false)]) := runF Tryz.prog (look impl_PutNum_C) F impl_PutNum_H Tryz.f254 [(.int .i64, false)] [(.sl 5 (.int .u8), false)] 2 (n1, ())
theorem impl_PutNum_eq (n1 : Int) : impl_PutNum F n1 = (impl_within F0 n1 0 2147483647).bind fun r5 => br (!r5.1) (some ([], ())) (impl_PutNum_1 F (impl_PutNum_1_k F) F.n (impl_PutNum_1_s n1 [])) := by kernel_rfl
noncomputable def impl_PutNum_con : Any := .one ⟨[(.int .i64, false)], [(.sl 5 (.int .u8), false)], 2, fun x => impl_PutNum F0 x.1⟩
theorem impl_PutNum_ok : AnyOk Tryz.prog TB 254 impl_PutNum_con := ok1 (show AllOk Tryz.prog TB impl_PutNum_C from ⟨impl_within_ok, trivial⟩) Tryz.func254 (by kernel_rfl) (by kernel_rfl) impl_PutNum_H (by kernel_rfl)

/-! ### impl.GetNum -/
noncomputable def impl_GetNum_C : List (Nat × Any) := [(121, impl_within_con), (254, impl_PutNum_con)]
noncomputable def impl_GetNum_H : Nat → Option Hint := look [(5, { live := [0, 1, 7, 8], rl := [4, 5, 6] })]
noncomputable def impl_GetNum_1_s (b : List Int) (at1 : Int) (n1 : Int) (i : Int) : St := { nt := 55, tm := [(0, .v (.c (.ro false 5 (.int .u8) b))), (1, .v (.c (.int .i64 at1))), (7, .v (.c (.int .i64 n1))), (8, .v (.c (.int .i64 i)))], bx := [], bl := [] }
noncomputable def impl_GetNum_1_r (t4 : Int) (t5 : Int) (t6 : Bool) : St := { nt := 55, tm := [(4, .v (.c (.int .i64 t4))), (5, .v (.c (.int .i64 t5))), (6, .v (.c (.bool t6)))], bx := [], bl := [] }
noncomputable def impl_GetNum_1_e0  : St := { nt := 55, tm := [], bx := [], bl := [] }
noncomputable def impl_GetNum_1 (st : St) : Option α := lp Tryz.prog (look impl_GetNum_C) F impl_GetNum_H (sub [.r, .r, .r, .l, .r, .b, .i] (codeOf Tryz.f216)) κ n st
noncomputable def impl_GetNum_1_k : Ex → St → Option (Args [(.int .i64, false), (.int .i64, false), (.bool, false)]) := cont Tryz.prog (look impl_GetNum_C) F impl_GetNum_H [.r, .r, .r, .l, .r, .b] (codeOf Tryz.f216) (fin Tryz.prog Tryz.f216 [(.int .i64, false), (.int .i64, false), (.bool, false)] 1)
theorem impl_GetNum_1_step (b : List Int) (at1 : Int) (n1 : Int) (i : Int) : impl_GetNum_1 F κ (n + 1) (impl_GetNum_1_s b at1 n1 i) = br (decide (i < 5)) (br (decide ((w64 (at1 + i)) < (b.length : Int))) (ck (okI (w64 (at1 + i)) (b.length : Int)) (ck (decide (0 ≤ (w64 (7 * i)))) (br (decide ((w64 (at_ b (w64 (at1 + i)) 0)) < 128)) ((impl_PutNum F0 (w64 (n1 + (w64 ((Int.tmod (w64 (at_ b (w64 (at1 + i)) 0)) 128) * 2 ^ (min (w64 (7 * i)).toNat 64)))))).bind fun r45 => br ((r45.1.length : Int) != (w64 (i + 1))) (κ .ret (impl_GetNum_1_r 0 0 false)) (κ .ret (impl_GetNum_1_r (w64 (n1 + (w64 ((Int.tmod (w64 (at_ b (w64 (at1 + i)) 0)) 128) * 2 ^ (min (w64 (7 * i)).toNat 64))))) (w64 ((w64 (at1 + i)) + 1)) true))) (impl_GetNum_1 F κ n (impl_GetNum_1_s b at1 (w64 (n1 + (w64 ((Int.tmod (w64 (at_ b (w64 (at1 + i)) 0)) 128) * 2 ^ (min (w64 (7 * i)).toNat 64))))) (w64 (i + 1))))))) (κ (.exit 0) (impl_GetNum_1_e0 ))) (κ (.exit 0) (impl_GetNum_1_e0 )) := by kernel_rfl
theorem impl_GetNum_1_cr (t4 : Int) (t5 : Int) (t6 : Bool) : impl_GetNum_1_k F .ret (impl_GetNum_1_r t4 t5 t6) = some (t4, t5, t6, ()) := by kernel_rfl
theorem impl_GetNum_1_ce0  : impl_GetNum_1_k F (.exit 0) (impl_GetNum_1_e0 ) = some (0, 0, false, ()) := by kernel_rfl
noncomputable def impl_GetNum (b : List Int) (at1 : Int) : Option (Args [(.int .i64, false), (.int .i64, false), (.bool, false)]) := runF Tryz.prog (look impl_GetNum_C) F impl_GetNum_H Tryz.f216 [(.sl 5 (.int .u8), false), (.int .i64, false)] [(.int .i64, false), (.int .i64, false), (.bool, false)] 1 (b, at1, ())
theorem impl_GetNum_eq (b : List Int) (at1 : Int) : impl_GetNum F b at1 = (impl_within F0 at1 0 (w64 ((b.length : Int) - 1))).bind fun r14 => br (!r14.1) (some (0, 0, false, ())) (impl_GetNum_1 F (impl_GetNum_1_k F) F.n (impl_GetNum_1_s b at1 0 0)) := by kernel_rfl
noncomputable def impl_GetNum_con : Any := .one ⟨[(.sl 5 (.int .u8), false), (.int .i64, false)], [(.int .i64, false), (.int .i64, false), (.bool, false)], 1, fun x => impl_GetNum F0 x.1 x.2.1⟩
theorem impl_GetNum_ok : AnyOk Tryz.prog TB 216 impl_GetNum_con := ok1 (show AllOk Tryz.prog TB impl_GetNum_C from ⟨impl_within_ok, impl_PutNum_ok, trivial⟩) Tryz.func216 (by kernel_rfl) (by kernel_rfl) impl_GetNum_H (by kernel_rfl)

/-! ### impl.reader).num -/
noncomputable def impl_reader_num_C : List (Nat × Any) := [(216, impl_GetNum_con)]
noncomputable def impl_reader_num_H : Nat → Option Hint := look []
noncomputable def impl_reader_num (r : D58) : Option (Args [(.int .i64, false)] × Args [(K58, true)]) := runF2 Tryz.prog (look impl_reader_num_C) F impl_reader_num_H Tryz.f166 [(K58, true)] 0 .box [(.int .i64, false)] [(K58, true)] 1 (r, ())
theorem impl_reader_num_eq (r : D58) : impl_reader_num F r = (impl_GetNum F0 r.1 r.2.1).bind fun r15 => br r.2.2 (some ((0, ()), ((r.1, (r.2.1, true)), ()))) (br (!r15.2.2.1) (some ((0, ()), ((r.1, (r.2.1, true)), ()))) (some ((r15.1, ()), ((r.1, (r15.2.1, r.2.2)), ())))) := by kernel_rfl
noncomputable def impl_reader_num_con : Any := .two ⟨[(K58, true)], 0, .box, [(.int .i64, false)], 1, [(K58, true)], fun x => impl_reader_num F0 x.1⟩
theorem impl_reader_num_ok : AnyOk Tryz.prog TB 166 impl_reader_num_con := ok3 (show AllOk Tryz.prog TB impl_reader_num_C from ⟨impl_GetNum_ok, trivial⟩) Tryz.func166 (by kernel_rfl) (by kernel_rfl) impl_reader_num_H (by kernel_rfl) (by kernel_rfl)

/-! ### impl.GetText -/
noncomputable def impl_GetText_C : List (Nat × Any) := [(216, impl_GetNum_con)]
noncomputable def impl_GetText_H : Nat → Option Hint := look []
noncomputable def impl_GetText (b : List Int) (at1 : Int) : Option (Args [(.str, false), (.int .i64, false), (.bool, false)]) := runF Tryz.prog (look impl_GetText_C) F impl_GetText_H Tryz.f217 [(.sl 5 (.int .u8), false), (.int .i64, false)] [(.str, false), (.int .i64, false), (.bool, false)] 1 (b, at1, ())
theorem impl_GetText_eq (b : List Int) (at1 : Int) : impl_GetText F b at1 = (impl_GetNum F0 b at1).bind fun r13 => br (!r13.2.2.1) (some ((ByteArray.mk #[]), 0, false, ())) (br (decide (r13.1 > (w64 ((b.length : Int) - r13.2.1)))) (some ((ByteArray.mk #[]), 0, false, ())) (ck (okS r13.2.1 (w64 (r13.2.1 + r13.1)) (b.length : Int)) (some (strOf ((b.take (w64 (r13.2.1 + r13.1)).toNat).drop r13.2.1.toNat), w64 (r13.2.1 + r13.1), true, ())))) := by kernel_rfl
noncomputable def impl_GetText_con : Any := .one ⟨[(.sl 5 (.int .u8), false), (.int .i64, false)], [(.str, false), (.int .i64, false), (.bool, false)], 1, fun x => impl_GetText F0 x.1 x.2.1⟩
theorem impl_GetText_ok : AnyOk Tryz.prog TB 217 impl_GetText_con := ok1 (show AllOk Tryz.prog TB impl_GetText_C from ⟨impl_GetNum_ok, trivial⟩) Tryz.func217 (by kernel_rfl) (by kernel_rfl) impl_GetText_H (by kernel_rfl)

/-! ### impl.reader).text -/
noncomputable def impl_reader_text_C : List (Nat × Any) := [(217, impl_GetText_con)]
noncomputable def impl_reader_text_H : Nat → Option Hint := look []
noncomputable def impl_reader_text (r : D58) : Option (Args [(.str, false)] × Args [(K58, true)]) := runF2 Tryz.prog (look impl_reader_text_C) F impl_reader_text_H Tryz.f167 [(K58, true)] 0 .box [(.str, false)] [(K58, true)] 1 (r, ())
theorem impl_reader_text_eq (r : D58) : impl_reader_text F r = (impl_GetText F0 r.1 r.2.1).bind fun r15 => br r.2.2 (some (((ByteArray.mk #[]), ()), ((r.1, (r.2.1, true)), ()))) (br (!r15.2.2.1) (some (((ByteArray.mk #[]), ()), ((r.1, (r.2.1, true)), ()))) (some ((r15.1, ()), ((r.1, (r15.2.1, r.2.2)), ())))) := by kernel_rfl
noncomputable def impl_reader_text_con : Any := .two ⟨[(K58, true)], 0, .box, [(.str, false)], 1, [(K58, true)], fun x => impl_reader_text F0 x.1⟩
theorem impl_reader_text_ok : AnyOk Tryz.prog TB 167 impl_reader_text_con := ok3 (show AllOk Tryz.prog TB impl_reader_text_C from ⟨impl_GetText_ok, trivial⟩) Tryz.func167 (by kernel_rfl) (by kernel_rfl) impl_reader_text_H (by kernel_rfl) (by kernel_rfl)

end
end Go.Am.Tryz
