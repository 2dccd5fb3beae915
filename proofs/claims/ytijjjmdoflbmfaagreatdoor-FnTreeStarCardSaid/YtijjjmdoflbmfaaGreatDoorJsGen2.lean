/- What Go's functions compute, as plain functions, and that they do. No condition. -/
import Derived.Test.YtijjjmdoflbmfaaGreatDoorJsGen1
set_option linter.unusedVariables false
set_option maxRecDepth 100000
namespace Go.Am.Tryz
open Go.Am Go.Proofs

noncomputable section
variable {α : Type} (F : Par) (κ : Ex → St → Option α) (n : Nat)
/-! ### impl.SetAdd -/
noncomputable def impl_SetAdd_C : List (Nat × Any) := [(46, impl_SetHas_con), (87, impl_copyInts_con), (88, slices_IndexFunc_int_con), (90, slices_Insert_int_con)]
noncomputable def impl_SetAdd_H : Nat → Option Hint := look []
noncomputable def impl_SetAdd (s : List Int) (i : Int) : Option (Args [(.sl 3 (.int .i64), false)]) := runF Tryz.prog (look impl_SetAdd_C) F impl_SetAdd_H Tryz.f47 [(.sl 3 (.int .i64), false), (.int .i64, false)] [(.sl 3 (.int .i64), false)] 2 (s, i, ())
theorem impl_SetAdd_eq (s : List Int) (i : Int) : impl_SetAdd F s i = (impl_SetHas F0 s i).bind fun r8 => br r8.1 ((impl_copyInts F0 s).bind fun r10 => some (r10.1, ())) (br (decide ((idxL (fun e_ => geP e_ i) s 0) < 0)) ((impl_copyInts F0 s).bind fun r19 => ck (okIns (s.length : Int) r19.1.length [i].length) (some (r19.1.take (s.length : Int).toNat ++ [i] ++ r19.1.drop (s.length : Int).toNat, ()))) ((impl_copyInts F0 s).bind fun r19 => ck (okIns (idxL (fun e_ => geP e_ i) s 0) r19.1.length [i].length) (some (r19.1.take (idxL (fun e_ => geP e_ i) s 0).toNat ++ [i] ++ r19.1.drop (idxL (fun e_ => geP e_ i) s 0).toNat, ())))) := by kernel_rfl
noncomputable def impl_SetAdd_con : Any := .one ⟨[(.sl 3 (.int .i64), false), (.int .i64, false)], [(.sl 3 (.int .i64), false)], 2, fun x => impl_SetAdd F0 x.1 x.2.1⟩
theorem impl_SetAdd_ok : AnyOk Tryz.prog TB 47 impl_SetAdd_con := ok1 (show AllOk Tryz.prog TB impl_SetAdd_C from ⟨impl_SetHas_ok, impl_copyInts_ok, slices_IndexFunc_int_ok, slices_Insert_int_ok, trivial⟩) Tryz.func47 (by kernel_rfl) (by kernel_rfl) impl_SetAdd_H (by kernel_rfl)

/-! ### impl.Seat -/
noncomputable def impl_Seat_C : List (Nat × Any) := [(26, impl_ConfOk_con), (61, impl_within_con)]
noncomputable def impl_Seat_H : Nat → Option Hint := look []
noncomputable def impl_Seat (c : D1) (view : Int) (i : Int) : Option (Args [(.int .i64, false)]) := runF Tryz.prog (look impl_Seat_C) F impl_Seat_H Tryz.f91 [(K1, true), (.int .i64, false), (.int .i64, false)] [(.int .i64, false)] 1 (c, view, i, ())
theorem impl_Seat_eq (c : D1) (view : Int) (i : Int) : impl_Seat F c view i = (impl_ConfOk F0 c).bind fun r8 => br (!r8.1) (some ((-1), ())) (br (decide (view < 0)) (some ((-1), ())) ((impl_within F0 i 0 (w64 (c.1 - 1))).bind fun r19 => br (!r19.1) (some ((-1), ())) (ck (!(c.1 == 0)) (ck (!(c.1 == 0)) (some (Int.tmod (w64 ((w64 (i - (Int.tmod view c.1))) + c.1)) c.1, ())))))) := by kernel_rfl
noncomputable def impl_Seat_con : Any := .one ⟨[(K1, true), (.int .i64, false), (.int .i64, false)], [(.int .i64, false)], 1, fun x => impl_Seat F0 x.1 x.2.1 x.2.2.1⟩
theorem impl_Seat_ok : AnyOk Tryz.prog TB 91 impl_Seat_con := ok1 (show AllOk Tryz.prog TB impl_Seat_C from ⟨impl_ConfOk_ok, impl_within_ok, trivial⟩) Tryz.func91 (by kernel_rfl) (by kernel_rfl) impl_Seat_H (by kernel_rfl)

/-! ### impl.Up -/
noncomputable def impl_Up_C : List (Nat × Any) := [(45, impl_Sits_con), (91, impl_Seat_con)]
noncomputable def impl_Up_H : Nat → Option Hint := look []
noncomputable def impl_Up (c : D1) (view : Int) (i : Int) : Option (Args [(.int .i64, false)]) := runF Tryz.prog (look impl_Up_C) F impl_Up_H Tryz.f48 [(K1, true), (.int .i64, false), (.int .i64, false)] [(.int .i64, false)] 1 (c, view, i, ())
theorem impl_Up_eq (c : D1) (view : Int) (i : Int) : impl_Up F c view i = (impl_Seat F0 c view i).bind fun r11 => br (decide (r11.1 < 1)) (some ((-1), ())) (ck (!(c.2 == 0)) ((impl_Sits F0 c view (w64 (Int.tdiv (w64 (r11.1 - 1)) c.2))).bind fun r21 => some (r21.1, ()))) := by kernel_rfl
noncomputable def impl_Up_con : Any := .one ⟨[(K1, true), (.int .i64, false), (.int .i64, false)], [(.int .i64, false)], 1, fun x => impl_Up F0 x.1 x.2.1 x.2.2.1⟩
theorem impl_Up_ok : AnyOk Tryz.prog TB 48 impl_Up_con := ok1 (show AllOk Tryz.prog TB impl_Up_C from ⟨impl_Sits_ok, impl_Seat_ok, trivial⟩) Tryz.func48 (by kernel_rfl) (by kernel_rfl) impl_Up_H (by kernel_rfl)

/-! ### impl.SetJoin -/
noncomputable def impl_SetJoin_C : List (Nat × Any) := [(47, impl_SetAdd_con)]
noncomputable def impl_SetJoin_H : Nat → Option Hint := look [(3, { live := [1, 5, 10, 11, 12], mat := [(5, 3, .int .i64)], xl := [1, 5], rl := [4] }), (8, { live := [5, 20, 21, 22], xl := [5], rl := [4] })]
noncomputable def impl_SetJoin_2_s (t20 : List Int) (t21 : Int) (t22 : Int) (xs : List Int) : St := { nt := 31, tm := [(5, .v (.c (.own 1000000 none))), (20, .v (.c (.ro false 3 (.int .i64) t20))), (21, .v (.c (.int .i64 t21))), (22, .v (.c (.int .i64 t22)))], bx := [], bl := [(1000000, some ⟨3, .int .i64, xs, true, true⟩)] }
noncomputable def impl_SetJoin_2_e2 (xs : List Int) : St := { nt := 31, tm := [(5, .v (.c (.own 1000000 none)))], bx := [], bl := [(1000000, some ⟨3, .int .i64, xs, true, true⟩)] }
noncomputable def impl_SetJoin_2 (st : St) : Option α := lp Tryz.prog (look impl_SetJoin_C) F impl_SetJoin_H (sub [.r, .r, .r, .l, .r, .b, .i] (codeOf Tryz.f49)) κ n st
noncomputable def impl_SetJoin_2_k : Ex → St → Option (Args [(.sl 3 (.int .i64), false)]) := cont Tryz.prog (look impl_SetJoin_C) F impl_SetJoin_H [.r, .r, .r, .l, .r, .b] (codeOf Tryz.f49) (fin Tryz.prog Tryz.f49 [(.sl 3 (.int .i64), false)] 2)
noncomputable def impl_SetJoin_1_s (b : List Int) (t10 : List Int) (t11 : Int) (t12 : Int) (xs : List Int) : St := { nt := 31, tm := [(1, .v (.c (.ro false 3 (.int .i64) b))), (5, .v (.c (.own 1000000 none))), (10, .v (.c (.ro false 3 (.int .i64) t10))), (11, .v (.c (.int .i64 t11))), (12, .v (.c (.int .i64 t12)))], bx := [], bl := [(1000000, some ⟨3, .int .i64, xs, true, true⟩)] }
noncomputable def impl_SetJoin_1_e0 (b : List Int) (xs : List Int) : St := { nt := 31, tm := [(1, .v (.c (.ro false 3 (.int .i64) b))), (5, .v (.c (.own 1000000 none)))], bx := [], bl := [(1000000, some ⟨3, .int .i64, xs, true, true⟩)] }
noncomputable def impl_SetJoin_1 (st : St) : Option α := lp Tryz.prog (look impl_SetJoin_C) F impl_SetJoin_H (sub [.r, .r, .l, .r, .b, .i] (codeOf Tryz.f49)) κ n st
noncomputable def impl_SetJoin_1_k : Ex → St → Option (Args [(.sl 3 (.int .i64), false)]) := cont Tryz.prog (look impl_SetJoin_C) F impl_SetJoin_H [.r, .r, .l, .r, .b] (codeOf Tryz.f49) (fin Tryz.prog Tryz.f49 [(.sl 3 (.int .i64), false)] 2)
theorem impl_SetJoin_2_step (t20 : List Int) (t21 : Int) (t22 : Int) (xs : List Int) : impl_SetJoin_2 F κ (n + 1) (impl_SetJoin_2_s t20 t21 t22 xs) = br (decide (t22 < t21)) (ck (okI t22 (t20.length : Int)) ((impl_SetAdd F0 xs (at_ t20 t22 0)).bind fun r28 => impl_SetJoin_2 F κ n (impl_SetJoin_2_s t20 t21 (w64 (t22 + 1)) r28.1))) (κ (.exit 2) (impl_SetJoin_2_e2 xs)) := by kernel_rfl
theorem impl_SetJoin_1_step (b : List Int) (t10 : List Int) (t11 : Int) (t12 : Int) (xs : List Int) : impl_SetJoin_1 F κ (n + 1) (impl_SetJoin_1_s b t10 t11 t12 xs) = br (decide (t12 < t11)) (ck (okI t12 (t10.length : Int)) ((impl_SetAdd F0 xs (at_ t10 t12 0)).bind fun r18 => impl_SetJoin_1 F κ n (impl_SetJoin_1_s b t10 t11 (w64 (t12 + 1)) r18.1))) (κ (.exit 0) (impl_SetJoin_1_e0 b xs)) := by kernel_rfl
theorem impl_SetJoin_2_ce2 (xs : List Int) : impl_SetJoin_2_k F (.exit 2) (impl_SetJoin_2_e2 xs) = some (xs, ()) := by kernel_rfl
theorem impl_SetJoin_1_ce0 (b : List Int) (xs : List Int) : impl_SetJoin_1_k F (.exit 0) (impl_SetJoin_1_e0 b xs) = impl_SetJoin_2 F (impl_SetJoin_2_k F) F.n (impl_SetJoin_2_s b (b.length : Int) 0 xs) := by kernel_rfl
noncomputable def impl_SetJoin (a : List Int) (b : List Int) : Option (Args [(.sl 3 (.int .i64), false)]) := runF Tryz.prog (look impl_SetJoin_C) F impl_SetJoin_H Tryz.f49 [(.sl 3 (.int .i64), false), (.sl 3 (.int .i64), false)] [(.sl 3 (.int .i64), false)] 2 (a, b, ())
theorem impl_SetJoin_eq (a : List Int) (b : List Int) : impl_SetJoin F a b = impl_SetJoin_1 F (impl_SetJoin_1_k F) F.n (impl_SetJoin_1_s b a (a.length : Int) 0 []) := by kernel_rfl
noncomputable def impl_SetJoin_con : Any := .one ⟨[(.sl 3 (.int .i64), false), (.sl 3 (.int .i64), false)], [(.sl 3 (.int .i64), false)], 2, fun x => impl_SetJoin F0 x.1 x.2.1⟩
theorem impl_SetJoin_ok : AnyOk Tryz.prog TB 49 impl_SetJoin_con := ok1 (show AllOk Tryz.prog TB impl_SetJoin_C from ⟨impl_SetAdd_ok, trivial⟩) Tryz.func49 (by kernel_rfl) (by kernel_rfl) impl_SetJoin_H (by kernel_rfl)

/-! ### impl.Root -/
noncomputable def impl_Root_C : List (Nat × Any) := [(26, impl_ConfOk_con)]
noncomputable def impl_Root_H : Nat → Option Hint := look []
noncomputable def impl_Root (c : D1) (view : Int) : Option (Args [(.int .i64, false)]) := runF Tryz.prog (look impl_Root_C) F impl_Root_H Tryz.f51 [(K1, true), (.int .i64, false)] [(.int .i64, false)] 1 (c, view, ())
theorem impl_Root_eq (c : D1) (view : Int) : impl_Root F c view = (impl_ConfOk F0 c).bind fun r6 => br (!r6.1) (some ((-1), ())) (br (decide (view < 0)) (some ((-1), ())) (ck (!(c.1 == 0)) (some (Int.tmod view c.1, ())))) := by kernel_rfl
noncomputable def impl_Root_con : Any := .one ⟨[(K1, true), (.int .i64, false)], [(.int .i64, false)], 1, fun x => impl_Root F0 x.1 x.2.1⟩
theorem impl_Root_ok : AnyOk Tryz.prog TB 51 impl_Root_con := ok1 (show AllOk Tryz.prog TB impl_Root_C from ⟨impl_ConfOk_ok, trivial⟩) Tryz.func51 (by kernel_rfl) (by kernel_rfl) impl_Root_H (by kernel_rfl)

/-! ### impl.copyQc -/
noncomputable def impl_copyQc_C : List (Nat × Any) := [(87, impl_copyInts_con)]
noncomputable def impl_copyQc_H : Nat → Option Hint := look []
noncomputable def impl_copyQc (q : D11) : Option (Args [(K11, true)]) := runF Tryz.prog (look impl_copyQc_C) F impl_copyQc_H Tryz.f92 [(K11, true)] [(K11, true)] 2 (q, ())
theorem impl_copyQc_eq (q : D11) : impl_copyQc F q = (impl_copyInts F0 q.2.2).bind fun r5 => some ((q.1, (q.2.1, r5.1)), ()) := by kernel_rfl
noncomputable def impl_copyQc_con : Any := .one ⟨[(K11, true)], [(K11, true)], 2, fun x => impl_copyQc F0 x.1⟩
theorem impl_copyQc_ok : AnyOk Tryz.prog TB 92 impl_copyQc_con := ok1 (show AllOk Tryz.prog TB impl_copyQc_C from ⟨impl_copyInts_ok, trivial⟩) Tryz.func92 (by kernel_rfl) (by kernel_rfl) impl_copyQc_H (by kernel_rfl)

/-! ### impl.QcFirst -/
noncomputable def impl_QcFirst_C : List (Nat × Any) := []
noncomputable def impl_QcFirst_H : Nat → Option Hint := look []
noncomputable def impl_QcFirst  : Option (Args [(K11, true)]) := runF Tryz.prog (look impl_QcFirst_C) F impl_QcFirst_H Tryz.f119 [] [(K11, true)] 2 (())
theorem impl_QcFirst_eq  : impl_QcFirst F  = some ((0, ((ByteArray.mk #[]), [])), ()) := by kernel_rfl
noncomputable def impl_QcFirst_con : Any := .one ⟨[], [(K11, true)], 2, fun x => impl_QcFirst F0 ⟩
theorem impl_QcFirst_ok : AnyOk Tryz.prog TB 119 impl_QcFirst_con := ok1 (show AllOk Tryz.prog TB impl_QcFirst_C from trivial) Tryz.func119 (by kernel_rfl) (by kernel_rfl) impl_QcFirst_H (by kernel_rfl)

/-! ### slices.Equal[[]int,int] -/
noncomputable def slices_Equal_int_int_C : List (Nat × Any) := []
noncomputable def slices_Equal_int_int_H : Nat → Option Hint := look [(4, { live := [0, 1, 12, 13], rl := [4] })]
noncomputable def slices_Equal_int_int_1_s (s1 : List Int) (s2 : List Int) (t12 : Int) (t13 : Int) : St := { nt := 26, tm := [(0, .v (.c (.ro false 3 (.int .i64) s1))), (1, .v (.c (.ro false 3 (.int .i64) s2))), (12, .v (.c (.int .i64 t12))), (13, .v (.c (.int .i64 t13)))], bx := [], bl := [] }
noncomputable def slices_Equal_int_int_1_r (t4 : Bool) : St := { nt := 26, tm := [(4, .v (.c (.bool t4)))], bx := [], bl := [] }
noncomputable def slices_Equal_int_int_1_e0  : St := { nt := 26, tm := [], bx := [], bl := [] }
noncomputable def slices_Equal_int_int_1 (st : St) : Option α := lp Tryz.prog (look slices_Equal_int_int_C) F slices_Equal_int_int_H (sub [.r, .r, .l, .r, .b, .i] (codeOf Tryz.f58)) κ n st
noncomputable def slices_Equal_int_int_1_k : Ex → St → Option (Args [(.bool, false)]) := cont Tryz.prog (look slices_Equal_int_int_C) F slices_Equal_int_int_H [.r, .r, .l, .r, .b] (codeOf Tryz.f58) (fin Tryz.prog Tryz.f58 [(.bool, false)] 1)
theorem slices_Equal_int_int_1_step (s1 : List Int) (s2 : List Int) (t12 : Int) (t13 : Int) : slices_Equal_int_int_1 F κ (n + 1) (slices_Equal_int_int_1_s s1 s2 t12 t13) = br (decide (t13 < t12)) (ck (okI t13 (s1.length : Int)) (ck (okI t13 (s2.length : Int)) (br ((at_ s1 t13 0) != (at_ s2 t13 0)) (κ .ret (slices_Equal_int_int_1_r false)) (slices_Equal_int_int_1 F κ n (slices_Equal_int_int_1_s s1 s2 t12 (w64 (t13 + 1))))))) (κ (.exit 0) (slices_Equal_int_int_1_e0 )) := by kernel_rfl
theorem slices_Equal_int_int_1_cr (t4 : Bool) : slices_Equal_int_int_1_k F .ret (slices_Equal_int_int_1_r t4) = some (t4, ()) := by kernel_rfl
theorem slices_Equal_int_int_1_ce0  : slices_Equal_int_int_1_k F (.exit 0) (slices_Equal_int_int_1_e0 ) = some (true, ()) := by kernel_rfl
noncomputable def slices_Equal_int_int (s1 : List Int) (s2 : List Int) : Option (Args [(.bool, false)]) := runF Tryz.prog (look slices_Equal_int_int_C) F slices_Equal_int_int_H Tryz.f58 [(.sl 3 (.int .i64), false), (.sl 3 (.int .i64), false)] [(.bool, false)] 1 (s1, s2, ())
theorem slices_Equal_int_int_eq (s1 : List Int) (s2 : List Int) : slices_Equal_int_int F s1 s2 = br ((s1.length : Int) != (s2.length : Int)) (some (false, ())) (slices_Equal_int_int_1 F (slices_Equal_int_int_1_k F) F.n (slices_Equal_int_int_1_s s1 s2 (s1.length : Int) 0)) := by kernel_rfl
noncomputable def slices_Equal_int_int_con : Any := .one ⟨[(.sl 3 (.int .i64), false), (.sl 3 (.int .i64), false)], [(.bool, false)], 1, fun x => slices_Equal_int_int F0 x.1 x.2.1⟩
theorem slices_Equal_int_int_ok : AnyOk Tryz.prog TB 58 slices_Equal_int_int_con := ok1 (show AllOk Tryz.prog TB slices_Equal_int_int_C from trivial) Tryz.func58 (by kernel_rfl) (by kernel_rfl) slices_Equal_int_int_H (by kernel_rfl)

/-! ### impl.QcSame -/
noncomputable def impl_QcSame_C : List (Nat × Any) := [(58, slices_Equal_int_int_con)]
noncomputable def impl_QcSame_H : Nat → Option Hint := look []
noncomputable def impl_QcSame (a : D11) (b : D11) : Option (Args [(.bool, false)]) := runF Tryz.prog (look impl_QcSame_C) F impl_QcSame_H Tryz.f22 [(K11, true), (K11, true)] [(.bool, false)] 1 (a, b, ())
theorem impl_QcSame_eq (a : D11) (b : D11) : impl_QcSame F a b = br (a.1 == b.1) (br (a.2.1.toList == b.2.1.toList) ((slices_Equal_int_int F0 a.2.2 b.2.2).bind fun r22 => some (r22.1, ())) (some (false, ()))) (some (false, ())) := by kernel_rfl
noncomputable def impl_QcSame_con : Any := .one ⟨[(K11, true), (K11, true)], [(.bool, false)], 1, fun x => impl_QcSame F0 x.1 x.2.1⟩
theorem impl_QcSame_ok : AnyOk Tryz.prog TB 22 impl_QcSame_con := ok1 (show AllOk Tryz.prog TB impl_QcSame_C from ⟨slices_Equal_int_int_ok, trivial⟩) Tryz.func22 (by kernel_rfl) (by kernel_rfl) impl_QcSame_H (by kernel_rfl)

/-! ### impl.SetOk -/
noncomputable def impl_SetOk_C : List (Nat × Any) := []
noncomputable def impl_SetOk_H : Nat → Option Hint := look [(2, { live := [0, 1, 7, 8, 9], rl := [4] })]
noncomputable def impl_SetOk_1_s (n1 : Int) (s : List Int) (t7 : List Int) (t8 : Int) (t9 : Int) : St := { nt := 35, tm := [(0, .v (.c (.int .i64 n1))), (1, .v (.c (.ro false 3 (.int .i64) s))), (7, .v (.c (.ro false 3 (.int .i64) t7))), (8, .v (.c (.int .i64 t8))), (9, .v (.c (.int .i64 t9)))], bx := [], bl := [] }
noncomputable def impl_SetOk_1_r (t4 : Bool) : St := { nt := 35, tm := [(4, .v (.c (.bool t4)))], bx := [], bl := [] }
noncomputable def impl_SetOk_1_e0  : St := { nt := 35, tm := [], bx := [], bl := [] }
noncomputable def impl_SetOk_1 (st : St) : Option α := lp Tryz.prog (look impl_SetOk_C) F impl_SetOk_H (sub [.r, .l, .r, .b, .i] (codeOf Tryz.f120)) κ n st
noncomputable def impl_SetOk_1_k : Ex → St → Option (Args [(.bool, false)]) := cont Tryz.prog (look impl_SetOk_C) F impl_SetOk_H [.r, .l, .r, .b] (codeOf Tryz.f120) (fin Tryz.prog Tryz.f120 [(.bool, false)] 1)
theorem impl_SetOk_1_step (n1 : Int) (s : List Int) (t7 : List Int) (t8 : Int) (t9 : Int) : impl_SetOk_1 F κ (n + 1) (impl_SetOk_1_s n1 s t7 t8 t9) = br (decide (t9 < t8)) (ck (okI t9 (t7.length : Int)) (br (decide ((at_ t7 t9 0) < 0)) (κ .ret (impl_SetOk_1_r false)) (br (decide ((at_ t7 t9 0) ≥ n1)) (κ .ret (impl_SetOk_1_r false)) (br (decide (t9 > 0)) (ck (okI (w64 (t9 - 1)) (s.length : Int)) (br (decide ((at_ s (w64 (t9 - 1)) 0) ≥ (at_ t7 t9 0))) (κ .ret (impl_SetOk_1_r false)) (impl_SetOk_1 F κ n (impl_SetOk_1_s n1 s t7 t8 (w64 (t9 + 1)))))) (impl_SetOk_1 F κ n (impl_SetOk_1_s n1 s t7 t8 (w64 (t9 + 1)))))))) (κ (.exit 0) (impl_SetOk_1_e0 )) := by kernel_rfl
theorem impl_SetOk_1_cr (t4 : Bool) : impl_SetOk_1_k F .ret (impl_SetOk_1_r t4) = some (t4, ()) := by kernel_rfl
theorem impl_SetOk_1_ce0  : impl_SetOk_1_k F (.exit 0) (impl_SetOk_1_e0 ) = some (true, ()) := by kernel_rfl
noncomputable def impl_SetOk (n1 : Int) (s : List Int) : Option (Args [(.bool, false)]) := runF Tryz.prog (look impl_SetOk_C) F impl_SetOk_H Tryz.f120 [(.int .i64, false), (.sl 3 (.int .i64), false)] [(.bool, false)] 1 (n1, s, ())
theorem impl_SetOk_eq (n1 : Int) (s : List Int) : impl_SetOk F n1 s = impl_SetOk_1 F (impl_SetOk_1_k F) F.n (impl_SetOk_1_s n1 s s (s.length : Int) 0) := by kernel_rfl
noncomputable def impl_SetOk_con : Any := .one ⟨[(.int .i64, false), (.sl 3 (.int .i64), false)], [(.bool, false)], 1, fun x => impl_SetOk F0 x.1 x.2.1⟩
theorem impl_SetOk_ok : AnyOk Tryz.prog TB 120 impl_SetOk_con := ok1 (show AllOk Tryz.prog TB impl_SetOk_C from trivial) Tryz.func120 (by kernel_rfl) (by kernel_rfl) impl_SetOk_H (by kernel_rfl)

/-! ### impl.Faults -/
noncomputable def impl_Faults_C : List (Nat × Any) := [(26, impl_ConfOk_con)]
noncomputable def impl_Faults_H : Nat → Option Hint := look []
noncomputable def impl_Faults (c : D1) : Option (Args [(.int .i64, false)]) := runF Tryz.prog (look impl_Faults_C) F impl_Faults_H Tryz.f134 [(K1, true)] [(.int .i64, false)] 1 (c, ())
theorem impl_Faults_eq (c : D1) : impl_Faults F c = (impl_ConfOk F0 c).bind fun r4 => br (!r4.1) (some (0, ())) (some (w64 (Int.tdiv (w64 (c.1 - 1)) 3), ())) := by kernel_rfl
noncomputable def impl_Faults_con : Any := .one ⟨[(K1, true)], [(.int .i64, false)], 1, fun x => impl_Faults F0 x.1⟩
theorem impl_Faults_ok : AnyOk Tryz.prog TB 134 impl_Faults_con := ok1 (show AllOk Tryz.prog TB impl_Faults_C from ⟨impl_ConfOk_ok, trivial⟩) Tryz.func134 (by kernel_rfl) (by kernel_rfl) impl_Faults_H (by kernel_rfl)

/-! ### impl.Quorum -/
noncomputable def impl_Quorum_C : List (Nat × Any) := [(26, impl_ConfOk_con), (134, impl_Faults_con)]
noncomputable def impl_Quorum_H : Nat → Option Hint := look []
noncomputable def impl_Quorum (c : D1) : Option (Args [(.int .i64, false)]) := runF Tryz.prog (look impl_Quorum_C) F impl_Quorum_H Tryz.f121 [(K1, true)] [(.int .i64, false)] 1 (c, ())
theorem impl_Quorum_eq (c : D1) : impl_Quorum F c = (impl_ConfOk F0 c).bind fun r4 => br (!r4.1) (some (0, ())) ((impl_Faults F0 c).bind fun r9 => some (w64 (c.1 - r9.1), ())) := by kernel_rfl
noncomputable def impl_Quorum_con : Any := .one ⟨[(K1, true)], [(.int .i64, false)], 1, fun x => impl_Quorum F0 x.1⟩
theorem impl_Quorum_ok : AnyOk Tryz.prog TB 121 impl_Quorum_con := ok1 (show AllOk Tryz.prog TB impl_Quorum_C from ⟨impl_ConfOk_ok, impl_Faults_ok, trivial⟩) Tryz.func121 (by kernel_rfl) (by kernel_rfl) impl_Quorum_H (by kernel_rfl)

/-! ### impl.QcOk -/
noncomputable def impl_QcOk_C : List (Nat × Any) := [(13, impl_ViewOf_con), (22, impl_QcSame_con), (26, impl_ConfOk_con), (43, impl_NameOk_con), (119, impl_QcFirst_con), (120, impl_SetOk_con), (121, impl_Quorum_con)]
noncomputable def impl_QcOk_H : Nat → Option Hint := look []
noncomputable def impl_QcOk (c : D1) (q : D11) : Option (Args [(.bool, false)]) := runF Tryz.prog (look impl_QcOk_C) F impl_QcOk_H Tryz.f93 [(K1, true), (K11, true)] [(.bool, false)] 1 (c, q, ())
theorem impl_QcOk_eq (c : D1) (q : D11) : impl_QcOk F c q = (impl_ConfOk F0 c).bind fun r6 => br (!r6.1) (some (false, ())) ((impl_QcFirst F0 ).bind fun r9 => (impl_QcSame F0 q r9.1).bind fun r10 => br r10.1 (some (true, ())) (br (decide (q.1 ≥ 1)) ((impl_NameOk F0 q.2.1).bind fun r18 => br r18.1 ((impl_ViewOf F0 q.2.1).bind fun r25 => br (q.1 == r25.1) ((impl_SetOk F0 c.1 q.2.2).bind fun r33 => br r33.1 ((impl_Quorum F0 c).bind fun r40 => some (decide ((q.2.2.length : Int) ≥ r40.1), ())) (some (false, ()))) (some (false, ()))) (some (false, ()))) (some (false, ())))) := by kernel_rfl
noncomputable def impl_QcOk_con : Any := .one ⟨[(K1, true), (K11, true)], [(.bool, false)], 1, fun x => impl_QcOk F0 x.1 x.2.1⟩
theorem impl_QcOk_ok : AnyOk Tryz.prog TB 93 impl_QcOk_con := ok1 (show AllOk Tryz.prog TB impl_QcOk_C from ⟨impl_ViewOf_ok, impl_QcSame_ok, impl_ConfOk_ok, impl_NameOk_ok, impl_QcFirst_ok, impl_SetOk_ok, impl_Quorum_ok, trivial⟩) Tryz.func93 (by kernel_rfl) (by kernel_rfl) impl_QcOk_H (by kernel_rfl)

/-! ### impl.PartQc -/
noncomputable def impl_PartQc_C : List (Nat × Any) := [(92, impl_copyQc_con), (93, impl_QcOk_con)]
noncomputable def impl_PartQc_H : Nat → Option Hint := look []
noncomputable def impl_PartQc (c : D1) (p : D11) : Option (Args [(K11, true), (.bool, false)]) := runF Tryz.prog (look impl_PartQc_C) F impl_PartQc_H Tryz.f50 [(K1, true), (K11, true)] [(K11, true), (.bool, false)] 2 (c, p, ())
theorem impl_PartQc_eq (c : D1) (p : D11) : impl_PartQc F c p = (impl_copyQc F0 p).bind fun r14 => (impl_QcOk F0 c r14.1).bind fun r17 => br (!r17.1) (some ((0, ((ByteArray.mk #[]), [])), false, ())) (br (r14.1.1 == 0) (some ((0, ((ByteArray.mk #[]), [])), false, ())) (some (r14.1, true, ()))) := by kernel_rfl
noncomputable def impl_PartQc_con : Any := .one ⟨[(K1, true), (K11, true)], [(K11, true), (.bool, false)], 2, fun x => impl_PartQc F0 x.1 x.2.1⟩
theorem impl_PartQc_ok : AnyOk Tryz.prog TB 50 impl_PartQc_con := ok1 (show AllOk Tryz.prog TB impl_PartQc_C from ⟨impl_copyQc_ok, impl_QcOk_ok, trivial⟩) Tryz.func50 (by kernel_rfl) (by kernel_rfl) impl_PartQc_H (by kernel_rfl)

/-! ### impl.Tree -/
noncomputable def impl_Tree_C : List (Nat × Any) := [(26, impl_ConfOk_con), (45, impl_Sits_con), (46, impl_SetHas_con), (47, impl_SetAdd_con), (48, impl_Up_con), (49, impl_SetJoin_con), (50, impl_PartQc_con), (51, impl_Root_con)]
noncomputable def impl_Tree_H : Nat → Option Hint := look [(5, { live := [1, 2, 3, 4, 8, 10, 11], matB := [(8, 2, 3, .int .i64)], xl := [1, 4, 8, 10], rl := [8, 9] })]
noncomputable def impl_Tree_1_s (view : Int) (name : ByteArray) (who : List Int) (seat : Int) (c : Int) (c1 : Int) (t8 : Int) (t81 : ByteArray) (xs : List D11) (xs1 : List Int) : St := { nt := 85, tm := [(1, .v (.c (.int .i64 view))), (2, .v (.c (.str name))), (3, .v (.c (.ro false 3 (.int .i64) who))), (4, .v (.c (.ptr 4 0))), (8, .v (.c (.ptr 8 0))), (10, .v (.c (.own 1000000 none))), (11, .v (.c (.int .i64 seat)))], bx := [(4, [.int .i64 c, .int .i64 c1]), (8, [.int .i64 t8, .str t81, .own 1000001 none])], bl := [(1000000, some ⟨81, K11, xs, true, true⟩), (1000001, some ⟨3, .int .i64, xs1, true, true⟩)] }
noncomputable def impl_Tree_1_e0 (view : Int) (c : Int) (c1 : Int) (t8 : Int) (t81 : ByteArray) (xs : List D11) (xs1 : List Int) : St := { nt := 85, tm := [(1, .v (.c (.int .i64 view))), (4, .v (.c (.ptr 4 0))), (8, .v (.c (.ptr 8 0))), (10, .v (.c (.own 1000000 none)))], bx := [(4, [.int .i64 c, .int .i64 c1]), (8, [.int .i64 t8, .str t81, .own 1000001 none])], bl := [(1000000, some ⟨81, K11, xs, true, true⟩), (1000001, some ⟨3, .int .i64, xs1, true, true⟩)] }
noncomputable def impl_Tree_1 (st : St) : Option α := lp Tryz.prog (look impl_Tree_C) F impl_Tree_H (sub [.r, .r, .r, .l, .r, .b, .i] (codeOf Tryz.f17)) κ n st
noncomputable def impl_Tree_1_k : Ex → St → Option (Args [(K11, true), (.bool, false)]) := cont Tryz.prog (look impl_Tree_C) F impl_Tree_H [.r, .r, .r, .l, .r, .b] (codeOf Tryz.f17) (fin Tryz.prog Tryz.f17 [(K11, true), (.bool, false)] 2)
theorem impl_Tree_1_step (view : Int) (name : ByteArray) (who : List Int) (seat : Int) (c : Int) (c1 : Int) (t8 : Int) (t81 : ByteArray) (xs : List D11) (xs1 : List Int) : impl_Tree_1 F κ (n + 1) (impl_Tree_1_s view name who seat c c1 t8 t81 xs xs1) = br (decide (seat ≥ 0)) ((impl_Sits F0 (c, c1) view seat).bind fun r36 => ck (okI r36.1 (xs.length : Int)) ((impl_SetHas F0 who r36.1).bind fun r47 => br r47.1 ((impl_SetAdd F0 (at_ xs r36.1 K11.dflt).2.2 r36.1).bind fun r51 => ck (okI r36.1 (xs.length : Int)) ((impl_Up F0 (c, c1) view r36.1).bind fun r60 => br (decide (r60.1 ≥ 0)) (ck (okI r60.1 ((xs.set r36.1.toNat (view, (name, r51.1))).length : Int)) ((impl_SetJoin F0 (at_ (xs.set r36.1.toNat (view, (name, r51.1))) r60.1 K11.dflt).2.2 r51.1).bind fun r72 => ck (okI r60.1 ((xs.set r36.1.toNat (view, (name, r51.1))).length : Int)) (impl_Tree_1 F κ n (impl_Tree_1_s view name who (w64 (seat - 1)) c c1 t8 t81 ((xs.set r36.1.toNat (view, (name, r51.1))).set r60.1.toNat ((at_ (xs.set r36.1.toNat (view, (name, r51.1))) r60.1 K11.dflt).1, ((at_ (xs.set r36.1.toNat (view, (name, r51.1))) r60.1 K11.dflt).2.1, r72.1))) xs1)))) (impl_Tree_1 F κ n (impl_Tree_1_s view name who (w64 (seat - 1)) c c1 t8 t81 (xs.set r36.1.toNat (view, (name, r51.1))) xs1)))) (ck (okI r36.1 (xs.length : Int)) ((impl_Up F0 (c, c1) view r36.1).bind fun r60 => br (decide (r60.1 ≥ 0)) (ck (okI r60.1 ((xs.set r36.1.toNat (view, (name, (at_ xs r36.1 K11.dflt).2.2))).length : Int)) ((impl_SetJoin F0 (at_ (xs.set r36.1.toNat (view, (name, (at_ xs r36.1 K11.dflt).2.2))) r60.1 K11.dflt).2.2 (at_ xs r36.1 K11.dflt).2.2).bind fun r72 => ck (okI r60.1 ((xs.set r36.1.toNat (view, (name, (at_ xs r36.1 K11.dflt).2.2))).length : Int)) (impl_Tree_1 F κ n (impl_Tree_1_s view name who (w64 (seat - 1)) c c1 t8 t81 ((xs.set r36.1.toNat (view, (name, (at_ xs r36.1 K11.dflt).2.2))).set r60.1.toNat ((at_ (xs.set r36.1.toNat (view, (name, (at_ xs r36.1 K11.dflt).2.2))) r60.1 K11.dflt).1, ((at_ (xs.set r36.1.toNat (view, (name, (at_ xs r36.1 K11.dflt).2.2))) r60.1 K11.dflt).2.1, r72.1))) xs1)))) (impl_Tree_1 F κ n (impl_Tree_1_s view name who (w64 (seat - 1)) c c1 t8 t81 (xs.set r36.1.toNat (view, (name, (at_ xs r36.1 K11.dflt).2.2))) xs1)))))) (κ (.exit 0) (impl_Tree_1_e0 view c c1 t8 t81 xs xs1)) := by kernel_rfl
theorem impl_Tree_1_ce0 (view : Int) (c : Int) (c1 : Int) (t8 : Int) (t81 : ByteArray) (xs : List D11) (xs1 : List Int) : impl_Tree_1_k F (.exit 0) (impl_Tree_1_e0 view c c1 t8 t81 xs xs1) = (impl_Root F0 (c, c1) view).bind fun r79 => ck (okI r79.1 (xs.length : Int)) ((impl_PartQc F0 (c, c1) (at_ xs r79.1 K11.dflt)).bind fun r82 => some (r82.1, r82.2.1, ())) := by kernel_rfl
noncomputable def impl_Tree (c : D1) (view : Int) (name : ByteArray) (who : List Int) : Option (Args [(K11, true), (.bool, false)]) := runF Tryz.prog (look impl_Tree_C) F impl_Tree_H Tryz.f17 [(K1, true), (.int .i64, false), (.str, false), (.sl 3 (.int .i64), false)] [(K11, true), (.bool, false)] 2 (c, view, name, who, ())
theorem impl_Tree_eq (c : D1) (view : Int) (name : ByteArray) (who : List Int) : impl_Tree F c view name who = (impl_ConfOk F0 c).bind fun r16 => br (!r16.1) (some ((0, ((ByteArray.mk #[]), [])), false, ())) (br (decide (view < 0)) (some ((0, ((ByteArray.mk #[]), [])), false, ())) (ck (okM F c.1 c.1 48) (impl_Tree_1 F (impl_Tree_1_k F) F.n (impl_Tree_1_s view name who (w64 (c.1 - 1)) c.1 c.2 0 (ByteArray.mk #[]) (List.replicate c.1.toNat (0, ((ByteArray.mk #[]), []))) [])))) := by kernel_rfl
noncomputable def impl_Tree_con : Any := .one ⟨[(K1, true), (.int .i64, false), (.str, false), (.sl 3 (.int .i64), false)], [(K11, true), (.bool, false)], 2, fun x => impl_Tree F0 x.1 x.2.1 x.2.2.1 x.2.2.2.1⟩
theorem impl_Tree_ok : AnyOk Tryz.prog TB 17 impl_Tree_con := ok1 (show AllOk Tryz.prog TB impl_Tree_C from ⟨impl_ConfOk_ok, impl_Sits_ok, impl_SetHas_ok, impl_SetAdd_ok, impl_Up_ok, impl_SetJoin_ok, impl_PartQc_ok, impl_Root_ok, trivial⟩) Tryz.func17 (by kernel_rfl) (by kernel_rfl) impl_Tree_H (by kernel_rfl)

/-! ### impl.replicasOf -/
noncomputable def impl_replicasOf_C : List (Nat × Any) := [(47, impl_SetAdd_con), (61, impl_within_con)]
noncomputable def impl_replicasOf_H : Nat → Option Hint := look [(3, { live := [2, 5, 8, 9, 10], mat := [(5, 3, .int .i64)], xl := [5], rl := [4] })]
noncomputable def impl_replicasOf_1_s (t8 : List Int) (t9 : Int) (t10 : Int) (c : Int) (c1 : Int) (xs : List Int) : St := { nt := 24, tm := [(2, .v (.c (.ptr 2 0))), (5, .v (.c (.own 1000000 none))), (8, .v (.c (.ro false 3 (.int .i64) t8))), (9, .v (.c (.int .i64 t9))), (10, .v (.c (.int .i64 t10)))], bx := [(2, [.int .i64 c, .int .i64 c1])], bl := [(1000000, some ⟨3, .int .i64, xs, true, true⟩)] }
noncomputable def impl_replicasOf_1_e0 (xs : List Int) : St := { nt := 24, tm := [(5, .v (.c (.own 1000000 none)))], bx := [], bl := [(1000000, some ⟨3, .int .i64, xs, true, true⟩)] }
noncomputable def impl_replicasOf_1 (st : St) : Option α := lp Tryz.prog (look impl_replicasOf_C) F impl_replicasOf_H (sub [.r, .r, .l, .r, .b, .i] (codeOf Tryz.f52)) κ n st
noncomputable def impl_replicasOf_1_k : Ex → St → Option (Args [(.sl 3 (.int .i64), false)]) := cont Tryz.prog (look impl_replicasOf_C) F impl_replicasOf_H [.r, .r, .l, .r, .b] (codeOf Tryz.f52) (fin Tryz.prog Tryz.f52 [(.sl 3 (.int .i64), false)] 2)
theorem impl_replicasOf_1_step (t8 : List Int) (t9 : Int) (t10 : Int) (c : Int) (c1 : Int) (xs : List Int) : impl_replicasOf_1 F κ (n + 1) (impl_replicasOf_1_s t8 t9 t10 c c1 xs) = br (decide (t10 < t9)) (ck (okI t10 (t8.length : Int)) ((impl_within F0 (at_ t8 t10 0) 0 (w64 (c - 1))).bind fun r18 => br r18.1 ((impl_SetAdd F0 xs (at_ t8 t10 0)).bind fun r21 => impl_replicasOf_1 F κ n (impl_replicasOf_1_s t8 t9 (w64 (t10 + 1)) c c1 r21.1)) (impl_replicasOf_1 F κ n (impl_replicasOf_1_s t8 t9 (w64 (t10 + 1)) c c1 xs)))) (κ (.exit 0) (impl_replicasOf_1_e0 xs)) := by kernel_rfl
theorem impl_replicasOf_1_ce0 (xs : List Int) : impl_replicasOf_1_k F (.exit 0) (impl_replicasOf_1_e0 xs) = some (xs, ()) := by kernel_rfl
noncomputable def impl_replicasOf (c : D1) (who : List Int) : Option (Args [(.sl 3 (.int .i64), false)]) := runF Tryz.prog (look impl_replicasOf_C) F impl_replicasOf_H Tryz.f52 [(K1, true), (.sl 3 (.int .i64), false)] [(.sl 3 (.int .i64), false)] 2 (c, who, ())
theorem impl_replicasOf_eq (c : D1) (who : List Int) : impl_replicasOf F c who = impl_replicasOf_1 F (impl_replicasOf_1_k F) F.n (impl_replicasOf_1_s who (who.length : Int) 0 c.1 c.2 []) := by kernel_rfl
noncomputable def impl_replicasOf_con : Any := .one ⟨[(K1, true), (.sl 3 (.int .i64), false)], [(.sl 3 (.int .i64), false)], 2, fun x => impl_replicasOf F0 x.1 x.2.1⟩
theorem impl_replicasOf_ok : AnyOk Tryz.prog TB 52 impl_replicasOf_con := ok1 (show AllOk Tryz.prog TB impl_replicasOf_C from ⟨impl_SetAdd_ok, impl_within_ok, trivial⟩) Tryz.func52 (by kernel_rfl) (by kernel_rfl) impl_replicasOf_H (by kernel_rfl)

/-! ### impl.Star -/
noncomputable def impl_Star_C : List (Nat × Any) := [(26, impl_ConfOk_con), (50, impl_PartQc_con), (52, impl_replicasOf_con)]
noncomputable def impl_Star_H : Nat → Option Hint := look []
noncomputable def impl_Star (c : D1) (view : Int) (name : ByteArray) (who : List Int) : Option (Args [(K11, true), (.bool, false)]) := runF Tryz.prog (look impl_Star_C) F impl_Star_H Tryz.f18 [(K1, true), (.int .i64, false), (.str, false), (.sl 3 (.int .i64), false)] [(K11, true), (.bool, false)] 2 (c, view, name, who, ())
theorem impl_Star_eq (c : D1) (view : Int) (name : ByteArray) (who : List Int) : impl_Star F c view name who = (impl_ConfOk F0 c).bind fun r11 => br (!r11.1) (some ((0, ((ByteArray.mk #[]), [])), false, ())) (br (decide (view < 0)) (some ((0, ((ByteArray.mk #[]), [])), false, ())) ((impl_replicasOf F0 c who).bind fun r23 => (impl_PartQc F0 c (view, (name, r23.1))).bind fun r25 => some (r25.1, r25.2.1, ()))) := by kernel_rfl
noncomputable def impl_Star_con : Any := .one ⟨[(K1, true), (.int .i64, false), (.str, false), (.sl 3 (.int .i64), false)], [(K11, true), (.bool, false)], 2, fun x => impl_Star F0 x.1 x.2.1 x.2.2.1 x.2.2.2.1⟩
theorem impl_Star_ok : AnyOk Tryz.prog TB 18 impl_Star_con := ok1 (show AllOk Tryz.prog TB impl_Star_C from ⟨impl_ConfOk_ok, impl_PartQc_ok, impl_replicasOf_ok, trivial⟩) Tryz.func18 (by kernel_rfl) (by kernel_rfl) impl_Star_H (by kernel_rfl)

/-! ### spec.ConfOk -/
noncomputable def spec_ConfOk_C : List (Nat × Any) := [(94, spec_l1In_con)]
noncomputable def spec_ConfOk_H : Nat → Option Hint := look []
noncomputable def spec_ConfOk (c : D1) : Option (Args [(.bool, false)]) := runF Tryz.prog (look spec_ConfOk_C) F spec_ConfOk_H Tryz.f53 [(K1, true)] [(.bool, false)] 1 (c, ())
theorem spec_ConfOk_eq (c : D1) : spec_ConfOk F c = (spec_l1In F0 c.1 4 7).bind fun r5 => br r5.1 ((spec_l1In F0 c.2 1 6).bind fun r9 => some (r9.1, ())) (some (false, ())) := by kernel_rfl
noncomputable def spec_ConfOk_con : Any := .one ⟨[(K1, true)], [(.bool, false)], 1, fun x => spec_ConfOk F0 x.1⟩
theorem spec_ConfOk_ok : AnyOk Tryz.prog TB 53 spec_ConfOk_con := ok1 (show AllOk Tryz.prog TB spec_ConfOk_C from ⟨spec_l1In_ok, trivial⟩) Tryz.func53 (by kernel_rfl) (by kernel_rfl) spec_ConfOk_H (by kernel_rfl)

/-! ### spec.l22Some -/
noncomputable def spec_l22Some_C : List (Nat × Any) := [(94, spec_l1In_con), (96, spec_SetAdd_con)]
noncomputable def spec_l22Some_H : Nat → Option Hint := look [(3, { live := [1, 2, 5, 6], xl := [5], rl := [4] })]
noncomputable def spec_l22Some_1_s (who : List Int) (i : Int) (c : Int) (c1 : Int) (xs : List Int) : St := { nt := 29, tm := [(1, .v (.c (.ro false 3 (.int .i64) who))), (2, .v (.c (.ptr 2 0))), (5, .v (.c (.own 1000000 none))), (6, .v (.c (.int .i64 i)))], bx := [(2, [.int .i64 c, .int .i64 c1])], bl := [(1000000, some ⟨3, .int .i64, xs, true, true⟩)] }
noncomputable def spec_l22Some_1_e0 (xs : List Int) : St := { nt := 29, tm := [(5, .v (.c (.own 1000000 none)))], bx := [], bl := [(1000000, some ⟨3, .int .i64, xs, true, true⟩)] }
noncomputable def spec_l22Some_1 (st : St) : Option α := lp Tryz.prog (look spec_l22Some_C) F spec_l22Some_H (sub [.r, .r, .l, .r, .b, .i] (codeOf Tryz.f55)) κ n st
noncomputable def spec_l22Some_1_k : Ex → St → Option (Args [(.sl 3 (.int .i64), false)]) := cont Tryz.prog (look spec_l22Some_C) F spec_l22Some_H [.r, .r, .l, .r, .b] (codeOf Tryz.f55) (fin Tryz.prog Tryz.f55 [(.sl 3 (.int .i64), false)] 2)
theorem spec_l22Some_1_step (who : List Int) (i : Int) (c : Int) (c1 : Int) (xs : List Int) : spec_l22Some_1 F κ (n + 1) (spec_l22Some_1_s who i c c1 xs) = br (decide (i < (who.length : Int))) (ck (okI i (who.length : Int)) ((spec_l1In F0 (at_ who i 0) 0 (w64 (c - 1))).bind fun r21 => br r21.1 (ck (okI i (who.length : Int)) ((spec_SetAdd F0 xs (at_ who i 0)).bind fun r27 => spec_l22Some_1 F κ n (spec_l22Some_1_s who (w64 (i + 1)) c c1 r27.1))) (spec_l22Some_1 F κ n (spec_l22Some_1_s who (w64 (i + 1)) c c1 xs)))) (κ (.exit 0) (spec_l22Some_1_e0 xs)) := by kernel_rfl
theorem spec_l22Some_1_ce0 (xs : List Int) : spec_l22Some_1_k F (.exit 0) (spec_l22Some_1_e0 xs) = some (xs, ()) := by kernel_rfl
noncomputable def spec_l22Some (c : D1) (who : List Int) : Option (Args [(.sl 3 (.int .i64), false)]) := runF Tryz.prog (look spec_l22Some_C) F spec_l22Some_H Tryz.f55 [(K1, true), (.sl 3 (.int .i64), false)] [(.sl 3 (.int .i64), false)] 2 (c, who, ())
theorem spec_l22Some_eq (c : D1) (who : List Int) : spec_l22Some F c who = spec_l22Some_1 F (spec_l22Some_1_k F) F.n (spec_l22Some_1_s who 0 c.1 c.2 []) := by kernel_rfl
noncomputable def spec_l22Some_con : Any := .one ⟨[(K1, true), (.sl 3 (.int .i64), false)], [(.sl 3 (.int .i64), false)], 2, fun x => spec_l22Some F0 x.1 x.2.1⟩
theorem spec_l22Some_ok : AnyOk Tryz.prog TB 55 spec_l22Some_con := ok1 (show AllOk Tryz.prog TB spec_l22Some_C from ⟨spec_l1In_ok, spec_SetAdd_ok, trivial⟩) Tryz.func55 (by kernel_rfl) (by kernel_rfl) spec_l22Some_H (by kernel_rfl)

/-! ### spec.SetOk -/
noncomputable def spec_SetOk_C : List (Nat × Any) := []
noncomputable def spec_SetOk_H : Nat → Option Hint := look [(2, { live := [0, 1, 5], rl := [4] })]
noncomputable def spec_SetOk_1_s (n1 : Int) (s : List Int) (i : Int) : St := { nt := 41, tm := [(0, .v (.c (.int .i64 n1))), (1, .v (.c (.ro false 3 (.int .i64) s))), (5, .v (.c (.int .i64 i)))], bx := [], bl := [] }
noncomputable def spec_SetOk_1_r (t4 : Bool) : St := { nt := 41, tm := [(4, .v (.c (.bool t4)))], bx := [], bl := [] }
noncomputable def spec_SetOk_1_e0  : St := { nt := 41, tm := [], bx := [], bl := [] }
noncomputable def spec_SetOk_1 (st : St) : Option α := lp Tryz.prog (look spec_SetOk_C) F spec_SetOk_H (sub [.r, .l, .r, .b, .i] (codeOf Tryz.f123)) κ n st
noncomputable def spec_SetOk_1_k : Ex → St → Option (Args [(.bool, false)]) := cont Tryz.prog (look spec_SetOk_C) F spec_SetOk_H [.r, .l, .r, .b] (codeOf Tryz.f123) (fin Tryz.prog Tryz.f123 [(.bool, false)] 1)
theorem spec_SetOk_1_step (n1 : Int) (s : List Int) (i : Int) : spec_SetOk_1 F κ (n + 1) (spec_SetOk_1_s n1 s i) = br (decide (i < (s.length : Int))) (ck (okI i (s.length : Int)) (br (decide ((at_ s i 0) < 0)) (κ .ret (spec_SetOk_1_r false)) (ck (okI i (s.length : Int)) (br (decide ((at_ s i 0) ≥ n1)) (κ .ret (spec_SetOk_1_r false)) (br (decide (i > 0)) (ck (okI (w64 (i - 1)) (s.length : Int)) (ck (okI i (s.length : Int)) (br (decide ((at_ s (w64 (i - 1)) 0) ≥ (at_ s i 0))) (κ .ret (spec_SetOk_1_r false)) (spec_SetOk_1 F κ n (spec_SetOk_1_s n1 s (w64 (i + 1))))))) (spec_SetOk_1 F κ n (spec_SetOk_1_s n1 s (w64 (i + 1))))))))) (κ (.exit 0) (spec_SetOk_1_e0 )) := by kernel_rfl
theorem spec_SetOk_1_cr (t4 : Bool) : spec_SetOk_1_k F .ret (spec_SetOk_1_r t4) = some (t4, ()) := by kernel_rfl
theorem spec_SetOk_1_ce0  : spec_SetOk_1_k F (.exit 0) (spec_SetOk_1_e0 ) = some (true, ()) := by kernel_rfl
noncomputable def spec_SetOk (n1 : Int) (s : List Int) : Option (Args [(.bool, false)]) := runF Tryz.prog (look spec_SetOk_C) F spec_SetOk_H Tryz.f123 [(.int .i64, false), (.sl 3 (.int .i64), false)] [(.bool, false)] 1 (n1, s, ())
theorem spec_SetOk_eq (n1 : Int) (s : List Int) : spec_SetOk F n1 s = spec_SetOk_1 F (spec_SetOk_1_k F) F.n (spec_SetOk_1_s n1 s 0) := by kernel_rfl
noncomputable def spec_SetOk_con : Any := .one ⟨[(.int .i64, false), (.sl 3 (.int .i64), false)], [(.bool, false)], 1, fun x => spec_SetOk F0 x.1 x.2.1⟩
theorem spec_SetOk_ok : AnyOk Tryz.prog TB 123 spec_SetOk_con := ok1 (show AllOk Tryz.prog TB spec_SetOk_C from trivial) Tryz.func123 (by kernel_rfl) (by kernel_rfl) spec_SetOk_H (by kernel_rfl)

/-! ### spec.Quorum -/
noncomputable def spec_Quorum_C : List (Nat × Any) := [(53, spec_ConfOk_con)]
noncomputable def spec_Quorum_H : Nat → Option Hint := look []
noncomputable def spec_Quorum (c : D1) : Option (Args [(.int .i64, false)]) := runF Tryz.prog (look spec_Quorum_C) F spec_Quorum_H Tryz.f124 [(K1, true)] [(.int .i64, false)] 1 (c, ())
theorem spec_Quorum_eq (c : D1) : spec_Quorum F c = (spec_ConfOk F0 c).bind fun r4 => br (!r4.1) (some (0, ())) (some (w64 (c.1 - (w64 (Int.tdiv (w64 (c.1 - 1)) 3))), ())) := by kernel_rfl
noncomputable def spec_Quorum_con : Any := .one ⟨[(K1, true)], [(.int .i64, false)], 1, fun x => spec_Quorum F0 x.1⟩
theorem spec_Quorum_ok : AnyOk Tryz.prog TB 124 spec_Quorum_con := ok1 (show AllOk Tryz.prog TB spec_Quorum_C from ⟨spec_ConfOk_ok, trivial⟩) Tryz.func124 (by kernel_rfl) (by kernel_rfl) spec_Quorum_H (by kernel_rfl)

/-! ### spec.QcOk -/
noncomputable def spec_QcOk_C : List (Nat × Any) := [(53, spec_ConfOk_con), (83, spec_ViewOf_con), (122, spec_NameOk_con), (123, spec_SetOk_con), (124, spec_Quorum_con)]
noncomputable def spec_QcOk_H : Nat → Option Hint := look []
noncomputable def spec_QcOk (c : D1) (q : D11) : Option (Args [(.bool, false)]) := runF Tryz.prog (look spec_QcOk_C) F spec_QcOk_H Tryz.f95 [(K1, true), (K11, true)] [(.bool, false)] 1 (c, q, ())
theorem spec_QcOk_eq (c : D1) (q : D11) : spec_QcOk F c q = (spec_ConfOk F0 c).bind fun r6 => br (!r6.1) (some (false, ())) ((spec_NameOk F0 q.2.1).bind fun r11 => br (!r11.1) (some (false, ())) ((spec_ViewOf F0 q.2.1).bind fun r17 => br (r17.1 != q.1) (some (false, ())) (br (q.2.1.toList == (ByteArray.mk #[]).toList) (some (((q.2.2.length : Int) == 0), ())) ((spec_SetOk F0 c.1 q.2.2).bind fun r33 => br r33.1 ((spec_Quorum F0 c).bind fun r39 => some (decide ((q.2.2.length : Int) ≥ r39.1), ())) (some (false, ())))))) := by kernel_rfl
noncomputable def spec_QcOk_con : Any := .one ⟨[(K1, true), (K11, true)], [(.bool, false)], 1, fun x => spec_QcOk F0 x.1 x.2.1⟩
theorem spec_QcOk_ok : AnyOk Tryz.prog TB 95 spec_QcOk_con := ok1 (show AllOk Tryz.prog TB spec_QcOk_C from ⟨spec_ConfOk_ok, spec_ViewOf_ok, spec_NameOk_ok, spec_SetOk_ok, spec_Quorum_ok, trivial⟩) Tryz.func95 (by kernel_rfl) (by kernel_rfl) spec_QcOk_H (by kernel_rfl)

/-! ### spec.PartQc -/
noncomputable def spec_PartQc_C : List (Nat × Any) := [(95, spec_QcOk_con)]
noncomputable def spec_PartQc_H : Nat → Option Hint := look [(900001, { live := [], mat := [(3, 0, K11)] })]
noncomputable def spec_PartQc (c : D1) (p : D11) : Option (Args [(K11, true), (.bool, false)]) := runF Tryz.prog (look spec_PartQc_C) F spec_PartQc_H Tryz.f54 [(K1, true), (K11, true)] [(K11, true), (.bool, false)] 2 (c, p, ())
theorem spec_PartQc_eq (c : D1) (p : D11) : spec_PartQc F c p = ck (okA F 0 p.2.2.length 8) (br (p.2.1.toList == (ByteArray.mk #[]).toList) (some ((0, ((ByteArray.mk #[]), [])), false, ())) ((spec_QcOk F0 c (p.1, (p.2.1, [] ++ p.2.2))).bind fun r22 => br (!r22.1) (some ((0, ((ByteArray.mk #[]), [])), false, ())) (some ((p.1, (p.2.1, [] ++ p.2.2)), true, ())))) := by kernel_rfl
noncomputable def spec_PartQc_con : Any := .one ⟨[(K1, true), (K11, true)], [(K11, true), (.bool, false)], 2, fun x => spec_PartQc F0 x.1 x.2.1⟩
theorem spec_PartQc_ok : AnyOk Tryz.prog TB 54 spec_PartQc_con := ok1 (show AllOk Tryz.prog TB spec_PartQc_C from ⟨spec_QcOk_ok, trivial⟩) Tryz.func54 (by kernel_rfl) (by kernel_rfl) spec_PartQc_H (by kernel_rfl)

/-! ### spec.Star -/
noncomputable def spec_Star_C : List (Nat × Any) := [(53, spec_ConfOk_con), (54, spec_PartQc_con), (55, spec_l22Some_con)]
noncomputable def spec_Star_H : Nat → Option Hint := look []
noncomputable def spec_Star (c : D1) (view : Int) (name : ByteArray) (who : List Int) : Option (Args [(K11, true), (.bool, false)]) := runF Tryz.prog (look spec_Star_C) F spec_Star_H Tryz.f19 [(K1, true), (.int .i64, false), (.str, false), (.sl 3 (.int .i64), false)] [(K11, true), (.bool, false)] 2 (c, view, name, who, ())
theorem spec_Star_eq (c : D1) (view : Int) (name : ByteArray) (who : List Int) : spec_Star F c view name who = (spec_ConfOk F0 c).bind fun r13 => br (!r13.1) (some ((0, ((ByteArray.mk #[]), [])), false, ())) (br (decide (view < 0)) (some ((0, ((ByteArray.mk #[]), [])), false, ())) ((spec_l22Some F0 c who).bind fun r26 => (spec_PartQc F0 c (view, (name, r26.1))).bind fun r28 => some (r28.1, r28.2.1, ()))) := by kernel_rfl
noncomputable def spec_Star_con : Any := .one ⟨[(K1, true), (.int .i64, false), (.str, false), (.sl 3 (.int .i64), false)], [(K11, true), (.bool, false)], 2, fun x => spec_Star F0 x.1 x.2.1 x.2.2.1 x.2.2.2.1⟩
theorem spec_Star_ok : AnyOk Tryz.prog TB 19 spec_Star_con := ok1 (show AllOk Tryz.prog TB spec_Star_C from ⟨spec_ConfOk_ok, spec_PartQc_ok, spec_l22Some_ok, trivial⟩) Tryz.func19 (by kernel_rfl) (by kernel_rfl) spec_Star_H (by kernel_rfl)

/-! ### spec.DrawCut -/
noncomputable def spec_DrawCut_C : List (Nat × Any) := [(27, spec_l1New_con), (32, spec_l1Below_con), (44, spec_l22Draw_con)]
noncomputable def spec_DrawCut_H : Nat → Option Hint := look [(900002, { live := [], mat := [(6, 0, K1)] })]
noncomputable def spec_DrawCut (code : List Int) : Option (Args [(K1, true), (.int .i64, false), (.sl 3 (.int .i64), false), (.sl 3 (.int .i64), false)]) := runF Tryz.prog (look spec_DrawCut_C) F spec_DrawCut_H Tryz.f20 [(.sl 5 (.int .u8), false)] [(K1, true), (.int .i64, false), (.sl 3 (.int .i64), false), (.sl 3 (.int .i64), false)] 0 (code, ())
theorem spec_DrawCut_eq (code : List Int) : spec_DrawCut F code = (spec_l22Draw F0 code).bind fun r12 => (spec_l1New F0 code).bind fun r21 => (spec_l1Below F0 r21.1.1 7).bind fun r22 => some (r12.1, r12.2.1, r12.2.2.2.1, [r22.1.1], ()) := by kernel_rfl
noncomputable def spec_DrawCut_con : Any := .one ⟨[(.sl 5 (.int .u8), false)], [(K1, true), (.int .i64, false), (.sl 3 (.int .i64), false), (.sl 3 (.int .i64), false)], 0, fun x => spec_DrawCut F0 x.1⟩
theorem spec_DrawCut_ok : AnyOk Tryz.prog TB 20 spec_DrawCut_con := ok1 (show AllOk Tryz.prog TB spec_DrawCut_C from ⟨spec_l1New_ok, spec_l1Below_ok, spec_l22Draw_ok, trivial⟩) Tryz.func20 (by kernel_rfl) (by kernel_rfl) spec_DrawCut_H (by kernel_rfl)

/-! ### impl.Way -/
noncomputable def impl_Way_C : List (Nat × Any) := [(48, impl_Up_con), (91, impl_Seat_con)]
noncomputable def impl_Way_H : Nat → Option Hint := look [(2, { live := [1, 2, 3, 7], mat := [(7, 3, .int .i64)], xl := [7], rl := [6] })]
noncomputable def impl_Way_1_s (view : Int) (i : Int) (c : Int) (c1 : Int) (xs : List Int) : St := { nt := 22, tm := [(1, .v (.c (.int .i64 view))), (2, .v (.c (.int .i64 i))), (3, .v (.c (.ptr 3 0))), (7, .v (.c (.own 1000000 none)))], bx := [(3, [.int .i64 c, .int .i64 c1])], bl := [(1000000, some ⟨3, .int .i64, xs, true, true⟩)] }
noncomputable def impl_Way_1_e0 (xs : List Int) : St := { nt := 22, tm := [(7, .v (.c (.own 1000000 none)))], bx := [], bl := [(1000000, some ⟨3, .int .i64, xs, true, true⟩)] }
noncomputable def impl_Way_1 (st : St) : Option α := lp Tryz.prog (look impl_Way_C) F impl_Way_H (sub [.r, .r, .l, .b, .i] (codeOf Tryz.f56)) κ n st
noncomputable def impl_Way_1_k : Ex → St → Option (Args [(.sl 3 (.int .i64), false)]) := cont Tryz.prog (look impl_Way_C) F impl_Way_H [.r, .r, .l, .b] (codeOf Tryz.f56) (fin Tryz.prog Tryz.f56 [(.sl 3 (.int .i64), false)] 2)
theorem impl_Way_1_step (view : Int) (i : Int) (c : Int) (c1 : Int) (xs : List Int) : impl_Way_1 F κ (n + 1) (impl_Way_1_s view i c c1 xs) = (impl_Seat F0 (c, c1) view i).bind fun r11 => br (decide (r11.1 ≥ 0)) (ck (okA F xs.length [i].length 8) ((impl_Up F0 (c, c1) view i).bind fun r16 => impl_Way_1 F κ n (impl_Way_1_s view r16.1 c c1 (xs ++ [i])))) (κ (.exit 0) (impl_Way_1_e0 xs)) := by kernel_rfl
theorem impl_Way_1_ce0 (xs : List Int) : impl_Way_1_k F (.exit 0) (impl_Way_1_e0 xs) = some (xs, ()) := by kernel_rfl
noncomputable def impl_Way (c : D1) (view : Int) (i : Int) : Option (Args [(.sl 3 (.int .i64), false)]) := runF Tryz.prog (look impl_Way_C) F impl_Way_H Tryz.f56 [(K1, true), (.int .i64, false), (.int .i64, false)] [(.sl 3 (.int .i64), false)] 2 (c, view, i, ())
theorem impl_Way_eq (c : D1) (view : Int) (i : Int) : impl_Way F c view i = impl_Way_1 F (impl_Way_1_k F) F.n (impl_Way_1_s view i c.1 c.2 []) := by kernel_rfl
noncomputable def impl_Way_con : Any := .one ⟨[(K1, true), (.int .i64, false), (.int .i64, false)], [(.sl 3 (.int .i64), false)], 2, fun x => impl_Way F0 x.1 x.2.1 x.2.2.1⟩
theorem impl_Way_ok : AnyOk Tryz.prog TB 56 impl_Way_con := ok1 (show AllOk Tryz.prog TB impl_Way_C from ⟨impl_Up_ok, impl_Seat_ok, trivial⟩) Tryz.func56 (by kernel_rfl) (by kernel_rfl) impl_Way_H (by kernel_rfl)

/-! ### impl.Common -/
noncomputable def impl_Common_C : List (Nat × Any) := [(46, impl_SetHas_con)]
noncomputable def impl_Common_H : Nat → Option Hint := look [(3, { live := [1, 5, 8, 9, 10], xl := [5], rl := [4] })]
noncomputable def impl_Common_1_s (b : List Int) (n1 : Int) (t8 : List Int) (t9 : Int) (t10 : Int) : St := { nt := 21, tm := [(1, .v (.c (.ro false 3 (.int .i64) b))), (5, .v (.c (.int .i64 n1))), (8, .v (.c (.ro false 3 (.int .i64) t8))), (9, .v (.c (.int .i64 t9))), (10, .v (.c (.int .i64 t10)))], bx := [], bl := [] }
noncomputable def impl_Common_1_e0 (n1 : Int) : St := { nt := 21, tm := [(5, .v (.c (.int .i64 n1)))], bx := [], bl := [] }
noncomputable def impl_Common_1 (st : St) : Option α := lp Tryz.prog (look impl_Common_C) F impl_Common_H (sub [.r, .r, .l, .r, .b, .i] (codeOf Tryz.f57)) κ n st
noncomputable def impl_Common_1_k : Ex → St → Option (Args [(.int .i64, false)]) := cont Tryz.prog (look impl_Common_C) F impl_Common_H [.r, .r, .l, .r, .b] (codeOf Tryz.f57) (fin Tryz.prog Tryz.f57 [(.int .i64, false)] 1)
theorem impl_Common_1_step (b : List Int) (n1 : Int) (t8 : List Int) (t9 : Int) (t10 : Int) : impl_Common_1 F κ (n + 1) (impl_Common_1_s b n1 t8 t9 t10) = br (decide (t10 < t9)) (ck (okI t10 (t8.length : Int)) ((impl_SetHas F0 b (at_ t8 t10 0)).bind fun r16 => br r16.1 (impl_Common_1 F κ n (impl_Common_1_s b (w64 (n1 + 1)) t8 t9 (w64 (t10 + 1)))) (impl_Common_1 F κ n (impl_Common_1_s b n1 t8 t9 (w64 (t10 + 1)))))) (κ (.exit 0) (impl_Common_1_e0 n1)) := by kernel_rfl
theorem impl_Common_1_ce0 (n1 : Int) : impl_Common_1_k F (.exit 0) (impl_Common_1_e0 n1) = some (n1, ()) := by kernel_rfl
noncomputable def impl_Common (a : List Int) (b : List Int) : Option (Args [(.int .i64, false)]) := runF Tryz.prog (look impl_Common_C) F impl_Common_H Tryz.f57 [(.sl 3 (.int .i64), false), (.sl 3 (.int .i64), false)] [(.int .i64, false)] 1 (a, b, ())
theorem impl_Common_eq (a : List Int) (b : List Int) : impl_Common F a b = impl_Common_1 F (impl_Common_1_k F) F.n (impl_Common_1_s b 0 a (a.length : Int) 0) := by kernel_rfl
noncomputable def impl_Common_con : Any := .one ⟨[(.sl 3 (.int .i64), false), (.sl 3 (.int .i64), false)], [(.int .i64, false)], 1, fun x => impl_Common F0 x.1 x.2.1⟩
theorem impl_Common_ok : AnyOk Tryz.prog TB 57 impl_Common_con := ok1 (show AllOk Tryz.prog TB impl_Common_C from ⟨impl_SetHas_ok, trivial⟩) Tryz.func57 (by kernel_rfl) (by kernel_rfl) impl_Common_H (by kernel_rfl)

/-! ### impl.Cut -/
noncomputable def impl_Cut_C : List (Nat × Any) := [(52, impl_replicasOf_con), (56, impl_Way_con), (57, impl_Common_con)]
noncomputable def impl_Cut_H : Nat → Option Hint := look [(3, { live := [1, 3, 4, 9, 15, 16, 17], mat := [(9, 3, .int .i64)], xl := [9], rl := [8] })]
noncomputable def impl_Cut_1_s (view : Int) (off : List Int) (t16 : Int) (t17 : Int) (c : Int) (c1 : Int) (xs : List Int) (xs1 : List Int) : St := { nt := 40, tm := [(1, .v (.c (.int .i64 view))), (3, .v (.c (.ro false 3 (.int .i64) off))), (4, .v (.c (.ptr 4 0))), (9, .v (.c (.own 1000000 none))), (15, .v (.c (.own 1000001 none))), (16, .v (.c (.int .i64 t16))), (17, .v (.c (.int .i64 t17)))], bx := [(4, [.int .i64 c, .int .i64 c1])], bl := [(1000000, some ⟨3, .int .i64, xs, true, true⟩), (1000001, some ⟨3, .int .i64, xs1, true, true⟩)] }
noncomputable def impl_Cut_1_e0 (xs : List Int) : St := { nt := 40, tm := [(9, .v (.c (.own 1000000 none)))], bx := [], bl := [(1000000, some ⟨3, .int .i64, xs, true, true⟩)] }
noncomputable def impl_Cut_1 (st : St) : Option α := lp Tryz.prog (look impl_Cut_C) F impl_Cut_H (sub [.r, .r, .l, .r, .b, .i] (codeOf Tryz.f21)) κ n st
noncomputable def impl_Cut_1_k : Ex → St → Option (Args [(.sl 3 (.int .i64), false)]) := cont Tryz.prog (look impl_Cut_C) F impl_Cut_H [.r, .r, .l, .r, .b] (codeOf Tryz.f21) (fin Tryz.prog Tryz.f21 [(.sl 3 (.int .i64), false)] 2)
theorem impl_Cut_1_step (view : Int) (off : List Int) (t16 : Int) (t17 : Int) (c : Int) (c1 : Int) (xs : List Int) (xs1 : List Int) : impl_Cut_1 F κ (n + 1) (impl_Cut_1_s view off t16 t17 c c1 xs xs1) = br (decide (t17 < t16)) (ck (okI t17 (xs1.length : Int)) ((impl_Way F0 (c, c1) view (at_ xs1 t17 0)).bind fun r24 => br (decide ((r24.1.length : Int) > 0)) ((impl_Common F0 r24.1 off).bind fun r31 => br (r31.1 == 0) (ck (okA F xs.length [at_ xs1 t17 0].length 8) (impl_Cut_1 F κ n (impl_Cut_1_s view off t16 (w64 (t17 + 1)) c c1 (xs ++ [at_ xs1 t17 0]) xs1))) (impl_Cut_1 F κ n (impl_Cut_1_s view off t16 (w64 (t17 + 1)) c c1 xs xs1))) (impl_Cut_1 F κ n (impl_Cut_1_s view off t16 (w64 (t17 + 1)) c c1 xs xs1)))) (κ (.exit 0) (impl_Cut_1_e0 xs)) := by kernel_rfl
theorem impl_Cut_1_ce0 (xs : List Int) : impl_Cut_1_k F (.exit 0) (impl_Cut_1_e0 xs) = some (xs, ()) := by kernel_rfl
noncomputable def impl_Cut (c : D1) (view : Int) (who : List Int) (off : List Int) : Option (Args [(.sl 3 (.int .i64), false)]) := runF Tryz.prog (look impl_Cut_C) F impl_Cut_H Tryz.f21 [(K1, true), (.int .i64, false), (.sl 3 (.int .i64), false), (.sl 3 (.int .i64), false)] [(.sl 3 (.int .i64), false)] 2 (c, view, who, off, ())
theorem impl_Cut_eq (c : D1) (view : Int) (who : List Int) (off : List Int) : impl_Cut F c view who off = (impl_replicasOf F0 c who).bind fun r15 => impl_Cut_1 F (impl_Cut_1_k F) F.n (impl_Cut_1_s view off (r15.1.length : Int) 0 c.1 c.2 [] r15.1) := by kernel_rfl
noncomputable def impl_Cut_con : Any := .one ⟨[(K1, true), (.int .i64, false), (.sl 3 (.int .i64), false), (.sl 3 (.int .i64), false)], [(.sl 3 (.int .i64), false)], 2, fun x => impl_Cut F0 x.1 x.2.1 x.2.2.1 x.2.2.2.1⟩
theorem impl_Cut_ok : AnyOk Tryz.prog TB 21 impl_Cut_con := ok1 (show AllOk Tryz.prog TB impl_Cut_C from ⟨impl_replicasOf_ok, impl_Way_ok, impl_Common_ok, trivial⟩) Tryz.func21 (by kernel_rfl) (by kernel_rfl) impl_Cut_H (by kernel_rfl)

/-! ### spec.Seat -/
noncomputable def spec_Seat_C : List (Nat × Any) := [(53, spec_ConfOk_con), (94, spec_l1In_con)]
noncomputable def spec_Seat_H : Nat → Option Hint := look []
noncomputable def spec_Seat (c : D1) (view : Int) (i : Int) : Option (Args [(.int .i64, false)]) := runF Tryz.prog (look spec_Seat_C) F spec_Seat_H Tryz.f97 [(K1, true), (.int .i64, false), (.int .i64, false)] [(.int .i64, false)] 1 (c, view, i, ())
theorem spec_Seat_eq (c : D1) (view : Int) (i : Int) : spec_Seat F c view i = (spec_ConfOk F0 c).bind fun r8 => br (!r8.1) (some ((-1), ())) (br (decide (view < 0)) (some ((-1), ())) ((spec_l1In F0 i 0 (w64 (c.1 - 1))).bind fun r19 => br (!r19.1) (some ((-1), ())) (ck (!(c.1 == 0)) (ck (!(c.1 == 0)) (some (Int.tmod (w64 ((w64 (i + c.1)) - (Int.tmod view c.1))) c.1, ())))))) := by kernel_rfl
noncomputable def spec_Seat_con : Any := .one ⟨[(K1, true), (.int .i64, false), (.int .i64, false)], [(.int .i64, false)], 1, fun x => spec_Seat F0 x.1 x.2.1 x.2.2.1⟩
theorem spec_Seat_ok : AnyOk Tryz.prog TB 97 spec_Seat_con := ok1 (show AllOk Tryz.prog TB spec_Seat_C from ⟨spec_ConfOk_ok, spec_l1In_ok, trivial⟩) Tryz.func97 (by kernel_rfl) (by kernel_rfl) spec_Seat_H (by kernel_rfl)

/-! ### spec.Sits -/
noncomputable def spec_Sits_C : List (Nat × Any) := [(53, spec_ConfOk_con), (94, spec_l1In_con)]
noncomputable def spec_Sits_H : Nat → Option Hint := look []
noncomputable def spec_Sits (c : D1) (view : Int) (seat : Int) : Option (Args [(.int .i64, false)]) := runF Tryz.prog (look spec_Sits_C) F spec_Sits_H Tryz.f125 [(K1, true), (.int .i64, false), (.int .i64, false)] [(.int .i64, false)] 1 (c, view, seat, ())
theorem spec_Sits_eq (c : D1) (view : Int) (seat : Int) : spec_Sits F c view seat = (spec_ConfOk F0 c).bind fun r8 => br (!r8.1) (some ((-1), ())) (br (decide (view < 0)) (some ((-1), ())) ((spec_l1In F0 seat 0 (w64 (c.1 - 1))).bind fun r19 => br (!r19.1) (some ((-1), ())) (ck (!(c.1 == 0)) (ck (!(c.1 == 0)) (some (Int.tmod (w64 ((Int.tmod view c.1) + seat)) c.1, ())))))) := by kernel_rfl
noncomputable def spec_Sits_con : Any := .one ⟨[(K1, true), (.int .i64, false), (.int .i64, false)], [(.int .i64, false)], 1, fun x => spec_Sits F0 x.1 x.2.1 x.2.2.1⟩
theorem spec_Sits_ok : AnyOk Tryz.prog TB 125 spec_Sits_con := ok1 (show AllOk Tryz.prog TB spec_Sits_C from ⟨spec_ConfOk_ok, spec_l1In_ok, trivial⟩) Tryz.func125 (by kernel_rfl) (by kernel_rfl) spec_Sits_H (by kernel_rfl)

/-! ### spec.Up -/
noncomputable def spec_Up_C : List (Nat × Any) := [(97, spec_Seat_con), (125, spec_Sits_con)]
noncomputable def spec_Up_H : Nat → Option Hint := look []
noncomputable def spec_Up (c : D1) (view : Int) (i : Int) : Option (Args [(.int .i64, false)]) := runF Tryz.prog (look spec_Up_C) F spec_Up_H Tryz.f98 [(K1, true), (.int .i64, false), (.int .i64, false)] [(.int .i64, false)] 1 (c, view, i, ())
theorem spec_Up_eq (c : D1) (view : Int) (i : Int) : spec_Up F c view i = (spec_Seat F0 c view i).bind fun r11 => br (decide (r11.1 ≤ 0)) (some ((-1), ())) (ck (!(c.2 == 0)) ((spec_Sits F0 c view (w64 (Int.tdiv (w64 (r11.1 - 1)) c.2))).bind fun r21 => some (r21.1, ()))) := by kernel_rfl
noncomputable def spec_Up_con : Any := .one ⟨[(K1, true), (.int .i64, false), (.int .i64, false)], [(.int .i64, false)], 1, fun x => spec_Up F0 x.1 x.2.1 x.2.2.1⟩
theorem spec_Up_ok : AnyOk Tryz.prog TB 98 spec_Up_con := ok1 (show AllOk Tryz.prog TB spec_Up_C from ⟨spec_Seat_ok, spec_Sits_ok, trivial⟩) Tryz.func98 (by kernel_rfl) (by kernel_rfl) spec_Up_H (by kernel_rfl)

/-! ### spec.Way -/
noncomputable def spec_Way_C : List (Nat × Any) := [(97, spec_Seat_con), (98, spec_Up_con)]
noncomputable def spec_Way_H : Nat → Option Hint := look [(2, { live := [1, 2, 3, 7], xl := [7], rl := [6] })]
noncomputable def spec_Way_1_s (view : Int) (i : Int) (c : Int) (c1 : Int) (xs : List Int) : St := { nt := 23, tm := [(1, .v (.c (.int .i64 view))), (2, .v (.c (.int .i64 i))), (3, .v (.c (.ptr 3 0))), (7, .v (.c (.own 1000000 none)))], bx := [(3, [.int .i64 c, .int .i64 c1])], bl := [(1000000, some ⟨3, .int .i64, xs, true, true⟩)] }
noncomputable def spec_Way_1_e0 (xs : List Int) : St := { nt := 23, tm := [(7, .v (.c (.own 1000000 none)))], bx := [], bl := [(1000000, some ⟨3, .int .i64, xs, true, true⟩)] }
noncomputable def spec_Way_1 (st : St) : Option α := lp Tryz.prog (look spec_Way_C) F spec_Way_H (sub [.r, .r, .l, .b, .i] (codeOf Tryz.f59)) κ n st
noncomputable def spec_Way_1_k : Ex → St → Option (Args [(.sl 3 (.int .i64), false)]) := cont Tryz.prog (look spec_Way_C) F spec_Way_H [.r, .r, .l, .b] (codeOf Tryz.f59) (fin Tryz.prog Tryz.f59 [(.sl 3 (.int .i64), false)] 2)
theorem spec_Way_1_step (view : Int) (i : Int) (c : Int) (c1 : Int) (xs : List Int) : spec_Way_1 F κ (n + 1) (spec_Way_1_s view i c c1 xs) = (spec_Seat F0 (c, c1) view i).bind fun r12 => br (decide (r12.1 ≥ 0)) (ck (okA F xs.length [i].length 8) ((spec_Up F0 (c, c1) view i).bind fun r21 => spec_Way_1 F κ n (spec_Way_1_s view r21.1 c c1 (xs ++ [i])))) (κ (.exit 0) (spec_Way_1_e0 xs)) := by kernel_rfl
theorem spec_Way_1_ce0 (xs : List Int) : spec_Way_1_k F (.exit 0) (spec_Way_1_e0 xs) = some (xs, ()) := by kernel_rfl
noncomputable def spec_Way (c : D1) (view : Int) (i : Int) : Option (Args [(.sl 3 (.int .i64), false)]) := runF Tryz.prog (look spec_Way_C) F spec_Way_H Tryz.f59 [(K1, true), (.int .i64, false), (.int .i64, false)] [(.sl 3 (.int .i64), false)] 2 (c, view, i, ())
theorem spec_Way_eq (c : D1) (view : Int) (i : Int) : spec_Way F c view i = spec_Way_1 F (spec_Way_1_k F) F.n (spec_Way_1_s view i c.1 c.2 []) := by kernel_rfl
noncomputable def spec_Way_con : Any := .one ⟨[(K1, true), (.int .i64, false), (.int .i64, false)], [(.sl 3 (.int .i64), false)], 2, fun x => spec_Way F0 x.1 x.2.1 x.2.2.1⟩
theorem spec_Way_ok : AnyOk Tryz.prog TB 59 spec_Way_con := ok1 (show AllOk Tryz.prog TB spec_Way_C from ⟨spec_Seat_ok, spec_Up_ok, trivial⟩) Tryz.func59 (by kernel_rfl) (by kernel_rfl) spec_Way_H (by kernel_rfl)

/-! ### spec.l1Bit -/
noncomputable def spec_l1Bit_C : List (Nat × Any) := []
noncomputable def spec_l1Bit_H : Nat → Option Hint := look []
noncomputable def spec_l1Bit (on : Bool) : Option (Args [(.int .i64, false)]) := runF Tryz.prog (look spec_l1Bit_C) F spec_l1Bit_H Tryz.f99 [(.bool, false)] [(.int .i64, false)] 1 (on, ())
theorem spec_l1Bit_eq (on : Bool) : spec_l1Bit F on = br on (some (1, ())) (some (0, ())) := by kernel_rfl
noncomputable def spec_l1Bit_con : Any := .one ⟨[(.bool, false)], [(.int .i64, false)], 1, fun x => spec_l1Bit F0 x.1⟩
theorem spec_l1Bit_ok : AnyOk Tryz.prog TB 99 spec_l1Bit_con := ok1 (show AllOk Tryz.prog TB spec_l1Bit_C from trivial) Tryz.func99 (by kernel_rfl) (by kernel_rfl) spec_l1Bit_H (by kernel_rfl)

/-! ### spec.Common -/
noncomputable def spec_Common_C : List (Nat × Any) := [(99, spec_l1Bit_con), (100, spec_SetHas_con)]
noncomputable def spec_Common_H : Nat → Option Hint := look [(3, { live := [0, 1, 5, 6], xl := [5], rl := [4] })]
noncomputable def spec_Common_1_s (a : List Int) (b : List Int) (n1 : Int) (i : Int) : St := { nt := 23, tm := [(0, .v (.c (.ro false 3 (.int .i64) a))), (1, .v (.c (.ro false 3 (.int .i64) b))), (5, .v (.c (.int .i64 n1))), (6, .v (.c (.int .i64 i)))], bx := [], bl := [] }
noncomputable def spec_Common_1_e0 (n1 : Int) : St := { nt := 23, tm := [(5, .v (.c (.int .i64 n1)))], bx := [], bl := [] }
noncomputable def spec_Common_1 (st : St) : Option α := lp Tryz.prog (look spec_Common_C) F spec_Common_H (sub [.r, .r, .l, .r, .b, .i] (codeOf Tryz.f60)) κ n st
noncomputable def spec_Common_1_k : Ex → St → Option (Args [(.int .i64, false)]) := cont Tryz.prog (look spec_Common_C) F spec_Common_H [.r, .r, .l, .r, .b] (codeOf Tryz.f60) (fin Tryz.prog Tryz.f60 [(.int .i64, false)] 1)
theorem spec_Common_1_step (a : List Int) (b : List Int) (n1 : Int) (i : Int) : spec_Common_1 F κ (n + 1) (spec_Common_1_s a b n1 i) = br (decide (i < (a.length : Int))) (ck (okI i (a.length : Int)) ((spec_SetHas F0 b (at_ a i 0)).bind fun r19 => (spec_l1Bit F0 r19.1).bind fun r20 => spec_Common_1 F κ n (spec_Common_1_s a b (w64 (n1 + r20.1)) (w64 (i + 1))))) (κ (.exit 0) (spec_Common_1_e0 n1)) := by kernel_rfl
theorem spec_Common_1_ce0 (n1 : Int) : spec_Common_1_k F (.exit 0) (spec_Common_1_e0 n1) = some (n1, ()) := by kernel_rfl
noncomputable def spec_Common (a : List Int) (b : List Int) : Option (Args [(.int .i64, false)]) := runF Tryz.prog (look spec_Common_C) F spec_Common_H Tryz.f60 [(.sl 3 (.int .i64), false), (.sl 3 (.int .i64), false)] [(.int .i64, false)] 1 (a, b, ())
theorem spec_Common_eq (a : List Int) (b : List Int) : spec_Common F a b = spec_Common_1 F (spec_Common_1_k F) F.n (spec_Common_1_s a b 0 0) := by kernel_rfl
noncomputable def spec_Common_con : Any := .one ⟨[(.sl 3 (.int .i64), false), (.sl 3 (.int .i64), false)], [(.int .i64, false)], 1, fun x => spec_Common F0 x.1 x.2.1⟩
theorem spec_Common_ok : AnyOk Tryz.prog TB 60 spec_Common_con := ok1 (show AllOk Tryz.prog TB spec_Common_C from ⟨spec_l1Bit_ok, spec_SetHas_ok, trivial⟩) Tryz.func60 (by kernel_rfl) (by kernel_rfl) spec_Common_H (by kernel_rfl)

/-! ### spec.Cut -/
noncomputable def spec_Cut_C : List (Nat × Any) := [(53, spec_ConfOk_con), (55, spec_l22Some_con), (59, spec_Way_con), (60, spec_Common_con)]
noncomputable def spec_Cut_H : Nat → Option Hint := look [(4, { live := [1, 3, 4, 9, 10, 11], xl := [9], rl := [8] })]
noncomputable def spec_Cut_1_s (view : Int) (off : List Int) (i : Int) (c : Int) (c1 : Int) (xs : List Int) (xs1 : List Int) : St := { nt := 51, tm := [(1, .v (.c (.int .i64 view))), (3, .v (.c (.ro false 3 (.int .i64) off))), (4, .v (.c (.ptr 4 0))), (9, .v (.c (.own 1000000 none))), (10, .v (.c (.own 1000001 none))), (11, .v (.c (.int .i64 i)))], bx := [(4, [.int .i64 c, .int .i64 c1])], bl := [(1000000, some ⟨3, .int .i64, xs, true, true⟩), (1000001, some ⟨3, .int .i64, xs1, true, true⟩)] }
noncomputable def spec_Cut_1_e0 (xs : List Int) : St := { nt := 51, tm := [(9, .v (.c (.own 1000000 none)))], bx := [], bl := [(1000000, some ⟨3, .int .i64, xs, true, true⟩)] }
noncomputable def spec_Cut_1 (st : St) : Option α := lp Tryz.prog (look spec_Cut_C) F spec_Cut_H (sub [.r, .r, .r, .l, .r, .b, .i] (codeOf Tryz.f24)) κ n st
noncomputable def spec_Cut_1_k : Ex → St → Option (Args [(.sl 3 (.int .i64), false)]) := cont Tryz.prog (look spec_Cut_C) F spec_Cut_H [.r, .r, .r, .l, .r, .b] (codeOf Tryz.f24) (fin Tryz.prog Tryz.f24 [(.sl 3 (.int .i64), false)] 2)
theorem spec_Cut_1_step (view : Int) (off : List Int) (i : Int) (c : Int) (c1 : Int) (xs : List Int) (xs1 : List Int) : spec_Cut_1 F κ (n + 1) (spec_Cut_1_s view off i c c1 xs xs1) = br (decide (i < (xs1.length : Int))) ((spec_ConfOk F0 (c, c1)).bind fun r23 => br r23.1 (ck (okI i (xs1.length : Int)) ((spec_Way F0 (c, c1) view (at_ xs1 i 0)).bind fun r33 => br (decide ((r33.1.length : Int) > 0)) ((spec_Common F0 r33.1 off).bind fun r40 => br (r40.1 == 0) (ck (okI i (xs1.length : Int)) (ck (okA F xs.length [at_ xs1 i 0].length 8) (spec_Cut_1 F κ n (spec_Cut_1_s view off (w64 (i + 1)) c c1 (xs ++ [at_ xs1 i 0]) xs1)))) (spec_Cut_1 F κ n (spec_Cut_1_s view off (w64 (i + 1)) c c1 xs xs1))) (spec_Cut_1 F κ n (spec_Cut_1_s view off (w64 (i + 1)) c c1 xs xs1)))) (κ (.exit 0) (spec_Cut_1_e0 xs))) (κ (.exit 0) (spec_Cut_1_e0 xs)) := by kernel_rfl
theorem spec_Cut_1_ce0 (xs : List Int) : spec_Cut_1_k F (.exit 0) (spec_Cut_1_e0 xs) = some (xs, ()) := by kernel_rfl
noncomputable def spec_Cut (c : D1) (view : Int) (who : List Int) (off : List Int) : Option (Args [(.sl 3 (.int .i64), false)]) := runF Tryz.prog (look spec_Cut_C) F spec_Cut_H Tryz.f24 [(K1, true), (.int .i64, false), (.sl 3 (.int .i64), false), (.sl 3 (.int .i64), false)] [(.sl 3 (.int .i64), false)] 2 (c, view, who, off, ())
theorem spec_Cut_eq (c : D1) (view : Int) (who : List Int) (off : List Int) : spec_Cut F c view who off = (spec_l22Some F0 c who).bind fun r16 => spec_Cut_1 F (spec_Cut_1_k F) F.n (spec_Cut_1_s view off 0 c.1 c.2 [] r16.1) := by kernel_rfl
noncomputable def spec_Cut_con : Any := .one ⟨[(K1, true), (.int .i64, false), (.sl 3 (.int .i64), false), (.sl 3 (.int .i64), false)], [(.sl 3 (.int .i64), false)], 2, fun x => spec_Cut F0 x.1 x.2.1 x.2.2.1 x.2.2.2.1⟩
theorem spec_Cut_ok : AnyOk Tryz.prog TB 24 spec_Cut_con := ok1 (show AllOk Tryz.prog TB spec_Cut_C from ⟨spec_ConfOk_ok, spec_l22Some_ok, spec_Way_ok, spec_Common_ok, trivial⟩) Tryz.func24 (by kernel_rfl) (by kernel_rfl) spec_Cut_H (by kernel_rfl)

/-! ### laws.sameInts -/
noncomputable def laws_sameInts_C : List (Nat × Any) := []
noncomputable def laws_sameInts_H : Nat → Option Hint := look [(4, { live := [0, 1, 5], rl := [4] })]
noncomputable def laws_sameInts_1_s (a : List Int) (b : List Int) (i : Int) : St := { nt := 26, tm := [(0, .v (.c (.ro false 3 (.int .i64) a))), (1, .v (.c (.ro false 3 (.int .i64) b))), (5, .v (.c (.int .i64 i)))], bx := [], bl := [] }
noncomputable def laws_sameInts_1_r (t4 : Bool) : St := { nt := 26, tm := [(4, .v (.c (.bool t4)))], bx := [], bl := [] }
noncomputable def laws_sameInts_1_e0  : St := { nt := 26, tm := [], bx := [], bl := [] }
noncomputable def laws_sameInts_1 (st : St) : Option α := lp Tryz.prog (look laws_sameInts_C) F laws_sameInts_H (sub [.r, .r, .l, .r, .b, .i] (codeOf Tryz.f23)) κ n st
noncomputable def laws_sameInts_1_k : Ex → St → Option (Args [(.bool, false)]) := cont Tryz.prog (look laws_sameInts_C) F laws_sameInts_H [.r, .r, .l, .r, .b] (codeOf Tryz.f23) (fin Tryz.prog Tryz.f23 [(.bool, false)] 1)
theorem laws_sameInts_1_step (a : List Int) (b : List Int) (i : Int) : laws_sameInts_1 F κ (n + 1) (laws_sameInts_1_s a b i) = br (decide (i < (a.length : Int))) (ck (okI i (a.length : Int)) (ck (okI i (b.length : Int)) (br ((at_ a i 0) != (at_ b i 0)) (κ .ret (laws_sameInts_1_r false)) (laws_sameInts_1 F κ n (laws_sameInts_1_s a b (w64 (i + 1))))))) (κ (.exit 0) (laws_sameInts_1_e0 )) := by kernel_rfl
theorem laws_sameInts_1_ce0  : laws_sameInts_1_k F (.exit 0) (laws_sameInts_1_e0 ) = some (true, ()) := by kernel_rfl
noncomputable def laws_sameInts (a : List Int) (b : List Int) : Option (Args [(.bool, false)]) := runF Tryz.prog (look laws_sameInts_C) F laws_sameInts_H Tryz.f23 [(.sl 3 (.int .i64), false), (.sl 3 (.int .i64), false)] [(.bool, false)] 1 (a, b, ())
theorem laws_sameInts_eq (a : List Int) (b : List Int) : laws_sameInts F a b = br ((a.length : Int) != (b.length : Int)) (some (false, ())) (laws_sameInts_1 F (laws_sameInts_1_k F) F.n (laws_sameInts_1_s a b 0)) := by kernel_rfl
noncomputable def laws_sameInts_con : Any := .one ⟨[(.sl 3 (.int .i64), false), (.sl 3 (.int .i64), false)], [(.bool, false)], 1, fun x => laws_sameInts F0 x.1 x.2.1⟩
theorem laws_sameInts_ok : AnyOk Tryz.prog TB 23 laws_sameInts_con := ok1 (show AllOk Tryz.prog TB laws_sameInts_C from trivial) Tryz.func23 (by kernel_rfl) (by kernel_rfl) laws_sameInts_H (by kernel_rfl)

/-! ### laws.within -/
noncomputable def laws_within_C : List (Nat × Any) := []
noncomputable def laws_within_H : Nat → Option Hint := look [(2, { live := [0, 1, 5], rl := [4] })]
noncomputable def laws_within_1_s (list : List Int) (x : Int) (i : Int) : St := { nt := 18, tm := [(0, .v (.c (.ro false 3 (.int .i64) list))), (1, .v (.c (.int .i64 x))), (5, .v (.c (.int .i64 i)))], bx := [], bl := [] }
noncomputable def laws_within_1_r (t4 : Bool) : St := { nt := 18, tm := [(4, .v (.c (.bool t4)))], bx := [], bl := [] }
noncomputable def laws_within_1_e0  : St := { nt := 18, tm := [], bx := [], bl := [] }
noncomputable def laws_within_1 (st : St) : Option α := lp Tryz.prog (look laws_within_C) F laws_within_H (sub [.r, .l, .r, .b, .i] (codeOf Tryz.f25)) κ n st
noncomputable def laws_within_1_k : Ex → St → Option (Args [(.bool, false)]) := cont Tryz.prog (look laws_within_C) F laws_within_H [.r, .l, .r, .b] (codeOf Tryz.f25) (fin Tryz.prog Tryz.f25 [(.bool, false)] 1)
theorem laws_within_1_step (list : List Int) (x : Int) (i : Int) : laws_within_1 F κ (n + 1) (laws_within_1_s list x i) = br (decide (i < (list.length : Int))) (ck (okI i (list.length : Int)) (br ((at_ list i 0) == x) (κ .ret (laws_within_1_r true)) (laws_within_1 F κ n (laws_within_1_s list x (w64 (i + 1)))))) (κ (.exit 0) (laws_within_1_e0 )) := by kernel_rfl
theorem laws_within_1_cr (t4 : Bool) : laws_within_1_k F .ret (laws_within_1_r t4) = some (t4, ()) := by kernel_rfl
theorem laws_within_1_ce0  : laws_within_1_k F (.exit 0) (laws_within_1_e0 ) = some (false, ()) := by kernel_rfl
noncomputable def laws_within (list : List Int) (x : Int) : Option (Args [(.bool, false)]) := runF Tryz.prog (look laws_within_C) F laws_within_H Tryz.f25 [(.sl 3 (.int .i64), false), (.int .i64, false)] [(.bool, false)] 1 (list, x, ())
theorem laws_within_eq (list : List Int) (x : Int) : laws_within F list x = laws_within_1 F (laws_within_1_k F) F.n (laws_within_1_s list x 0) := by kernel_rfl
noncomputable def laws_within_con : Any := .one ⟨[(.sl 3 (.int .i64), false), (.int .i64, false)], [(.bool, false)], 1, fun x => laws_within F0 x.1 x.2.1⟩
theorem laws_within_ok : AnyOk Tryz.prog TB 25 laws_within_con := ok1 (show AllOk Tryz.prog TB laws_within_C from trivial) Tryz.func25 (by kernel_rfl) (by kernel_rfl) laws_within_H (by kernel_rfl)

/-! ### laws.FnTreeStar -/
noncomputable def laws_FnTreeStar_C : List (Nat × Any) := [(5, laws_big_con), (16, spec_DrawTree_con), (17, impl_Tree_con), (18, impl_Star_con), (19, spec_Star_con), (20, spec_DrawCut_con), (21, impl_Cut_con), (22, impl_QcSame_con), (23, laws_sameInts_con), (24, spec_Cut_con), (25, laws_within_con), (26, impl_ConfOk_con)]
noncomputable def laws_FnTreeStar_H : Nat → Option Hint := look [(12, { live := [3, 4, 5, 6, 7, 8, 15, 16, 17, 18], xl := [3, 4, 5, 6, 7, 8], rl := [2] }), (900016, { live := [], mat := [(3, 0, K1)] })]
noncomputable def laws_FnTreeStar_1_s (view : Int) (name : ByteArray) (who : List Int) (ok : Bool) (all : List Int) (off : List Int) (i : Int) (c : Int) (c1 : Int) (a : Int) (a1 : ByteArray) (xs : List Int) (xs1 : List Int) : St := { nt := 164, tm := [(3, .v (.c (.ptr 3 0))), (4, .v (.c (.int .i64 view))), (5, .v (.c (.str name))), (6, .v (.c (.ro false 3 (.int .i64) who))), (7, .v (.c (.ptr 7 0))), (8, .v (.c (.bool ok))), (15, .v (.c (.ro false 3 (.int .i64) all))), (16, .v (.c (.ro false 3 (.int .i64) off))), (17, .v (.c (.own 1000000 none))), (18, .v (.c (.int .i64 i)))], bx := [(3, [.int .i64 c, .int .i64 c1]), (7, [.int .i64 a, .str a1, .own 1000001 none])], bl := [(1000000, some ⟨3, .int .i64, xs, true, true⟩), (1000001, some ⟨3, .int .i64, xs1, true, true⟩)] }
noncomputable def laws_FnTreeStar_1_r (t2 : Bool) : St := { nt := 164, tm := [(2, .v (.c (.bool t2)))], bx := [], bl := [] }
noncomputable def laws_FnTreeStar_1_e0 (view : Int) (name : ByteArray) (who : List Int) (ok : Bool) (c : Int) (c1 : Int) (a : Int) (a1 : ByteArray) (xs : List Int) : St := { nt := 164, tm := [(3, .v (.c (.ptr 3 0))), (4, .v (.c (.int .i64 view))), (5, .v (.c (.str name))), (6, .v (.c (.ro false 3 (.int .i64) who))), (7, .v (.c (.ptr 7 0))), (8, .v (.c (.bool ok)))], bx := [(3, [.int .i64 c, .int .i64 c1]), (7, [.int .i64 a, .str a1, .own 1000000 none])], bl := [(1000000, some ⟨3, .int .i64, xs, true, true⟩)] }
noncomputable def laws_FnTreeStar_1 (st : St) : Option α := lp Tryz.prog (look laws_FnTreeStar_C) F laws_FnTreeStar_H (sub [.r, .r, .r, .r, .r, .r, .r, .r, .r, .l, .r, .b, .i] (codeOf Tryz.f4)) κ n st
noncomputable def laws_FnTreeStar_1_k : Ex → St → Option (Args [(.bool, false)]) := cont Tryz.prog (look laws_FnTreeStar_C) F laws_FnTreeStar_H [.r, .r, .r, .r, .r, .r, .r, .r, .r, .l, .r, .b] (codeOf Tryz.f4) (fin Tryz.prog Tryz.f4 [(.bool, false)] 1)
theorem laws_FnTreeStar_1_step (view : Int) (name : ByteArray) (who : List Int) (ok : Bool) (all : List Int) (off : List Int) (i : Int) (c : Int) (c1 : Int) (a : Int) (a1 : ByteArray) (xs : List Int) (xs1 : List Int) : laws_FnTreeStar_1 F κ (n + 1) (laws_FnTreeStar_1_s view name who ok all off i c c1 a a1 xs xs1) = br (decide (i < (xs.length : Int))) (ck (okI i (xs.length : Int)) ((laws_within F0 off (at_ xs i 0)).bind fun r111 => br r111.1 (κ .ret (laws_FnTreeStar_1_r false)) (ck (okI i (xs.length : Int)) ((laws_within F0 all (at_ xs i 0)).bind fun r118 => br (!r118.1) (κ .ret (laws_FnTreeStar_1_r false)) (laws_FnTreeStar_1 F κ n (laws_FnTreeStar_1_s view name who ok all off (w64 (i + 1)) c c1 a a1 xs xs1)))))) (κ (.exit 0) (laws_FnTreeStar_1_e0 view name who ok c c1 a a1 xs1)) := by kernel_rfl
theorem laws_FnTreeStar_1_ce0 (view : Int) (name : ByteArray) (who : List Int) (ok : Bool) (c : Int) (c1 : Int) (a : Int) (a1 : ByteArray) (xs : List Int) : laws_FnTreeStar_1_k F (.exit 0) (laws_FnTreeStar_1_e0 view name who ok c c1 a a1 xs) = (impl_Tree F0 (c, 1) view name who).bind fun r130 => (impl_Tree F0 (c, 6) view name who).bind fun r138 => (impl_ConfOk F0 (c, c1)).bind fun r142 => br (!r142.1) (some (true, ())) (br (r130.2.1 == ok) (br (r138.2.1 == ok) ((impl_QcSame F0 r130.1 r138.1).bind fun r156 => br r156.1 ((impl_QcSame F0 r130.1 (a, (a1, xs))).bind fun r161 => some (r161.1, ())) (some (false, ()))) (some (false, ()))) (some (false, ()))) := by kernel_rfl
noncomputable def laws_FnTreeStar (code : List Int) : Option (Args [(.bool, false)]) := runF Tryz.prog (look laws_FnTreeStar_C) F laws_FnTreeStar_H Tryz.f4 [(.sl 5 (.int .u8), false)] [(.bool, false)] 1 (code, ())
theorem laws_FnTreeStar_eq (code : List Int) : laws_FnTreeStar F code = (laws_big F0 code).bind fun r26 => br r26.1 (some (true, ())) ((spec_DrawTree F0 code).bind fun r29 => (impl_Tree F0 r29.1 r29.2.1 r29.2.2.1 r29.2.2.2.1).bind fun r39 => (impl_Star F0 r29.1 r29.2.1 r29.2.2.1 r29.2.2.2.1).bind fun r47 => (spec_Star F0 r29.1 r29.2.1 r29.2.2.1 r29.2.2.2.1).bind fun r55 => (spec_DrawCut F0 code).bind fun r60 => (impl_Cut F0 r60.1 r60.2.1 r60.2.2.1 r60.2.2.2.1).bind fun r69 => br (!(r39.2.1 == r47.2.1)) (some (false, ())) (br (!(r39.2.1 == r55.2.1)) (some (false, ())) ((impl_QcSame F0 r39.1 r47.1).bind fun r81 => br (!r81.1) (some (false, ())) ((impl_QcSame F0 r47.1 r55.1).bind fun r87 => br (!r87.1) (some (false, ())) ((spec_Cut F0 r60.1 r60.2.1 r60.2.2.1 r60.2.2.2.1).bind fun r96 => (laws_sameInts F0 r69.1 r96.1).bind fun r97 => br (!r97.1) (some (false, ())) (laws_FnTreeStar_1 F (laws_FnTreeStar_1_k F) F.n (laws_FnTreeStar_1_s r29.2.1 r29.2.2.1 r29.2.2.2.1 r39.2.1 r60.2.2.1 r60.2.2.2.1 0 r29.1.1 r29.1.2 r39.1.1 r39.1.2.1 r69.1 r39.1.2.2))))))) := by kernel_rfl
noncomputable def laws_FnTreeStar_con : Any := .one ⟨[(.sl 5 (.int .u8), false)], [(.bool, false)], 1, fun x => laws_FnTreeStar F0 x.1⟩
theorem laws_FnTreeStar_ok : AnyOk Tryz.prog TB 4 laws_FnTreeStar_con := ok1 (show AllOk Tryz.prog TB laws_FnTreeStar_C from ⟨laws_big_ok, spec_DrawTree_ok, impl_Tree_ok, impl_Star_ok, spec_Star_ok, spec_DrawCut_ok, impl_Cut_ok, impl_QcSame_ok, laws_sameInts_ok, spec_Cut_ok, laws_within_ok, impl_ConfOk_ok, trivial⟩) Tryz.func4 (by kernel_rfl) (by kernel_rfl) laws_FnTreeStar_H (by kernel_rfl)

end
end Go.Am.Tryz
