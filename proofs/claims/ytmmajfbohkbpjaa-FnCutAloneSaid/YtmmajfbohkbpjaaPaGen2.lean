/- What Go's functions compute, as plain functions, and that they do. No condition. -/
import Derived.Test.YtmmajfbohkbpjaaPaGen1
set_option linter.unusedVariables false
set_option maxRecDepth 100000
namespace Go.Am.Try
open Go.Am Go.Proofs

noncomputable section
variable {α : Type} (F : Par) (κ : Ex → St → Option α) (n : Nat)
/-! ### spec.ConfOk -/
noncomputable def spec_ConfOk_C : List (Nat × Any) := [(50, spec_l1In_con)]
noncomputable def spec_ConfOk_H : Nat → Option Hint := look []
noncomputable def spec_ConfOk (c : D1) : Option (Args [(.bool, false)]) := runF Try.prog (look spec_ConfOk_C) F spec_ConfOk_H Try.f25 [(K1, true)] [(.bool, false)] 1 (c, ())
theorem spec_ConfOk_eq (c : D1) : spec_ConfOk F c = (spec_l1In F0 c.1 4 7).bind fun r5 => br r5.1 ((spec_l1In F0 c.2 1 6).bind fun r9 => some (r9.1, ())) (some (false, ())) := by kernel_rfl
noncomputable def spec_ConfOk_con : Any := .one ⟨[(K1, true)], [(.bool, false)], 1, fun x => spec_ConfOk F0 x.1⟩
theorem spec_ConfOk_ok : AnyOk Try.prog TB 25 spec_ConfOk_con := ok1 (show AllOk Try.prog TB spec_ConfOk_C from ⟨spec_l1In_ok, trivial⟩) Try.func25 (by kernel_rfl) (by kernel_rfl) spec_ConfOk_H (by kernel_rfl)

/-! ### spec.Seat -/
noncomputable def spec_Seat_C : List (Nat × Any) := [(25, spec_ConfOk_con), (50, spec_l1In_con)]
noncomputable def spec_Seat_H : Nat → Option Hint := look []
noncomputable def spec_Seat (c : D1) (view : Int) (i : Int) : Option (Args [(.int .i64, false)]) := runF Try.prog (look spec_Seat_C) F spec_Seat_H Try.f52 [(K1, true), (.int .i64, false), (.int .i64, false)] [(.int .i64, false)] 1 (c, view, i, ())
theorem spec_Seat_eq (c : D1) (view : Int) (i : Int) : spec_Seat F c view i = (spec_ConfOk F0 c).bind fun r8 => br (!r8.1) (some ((-1), ())) (br (decide (view < 0)) (some ((-1), ())) ((spec_l1In F0 i 0 (w64 (c.1 - 1))).bind fun r19 => br (!r19.1) (some ((-1), ())) (ck (!(c.1 == 0)) (ck (!(c.1 == 0)) (some (Int.tmod (w64 ((w64 (i + c.1)) - (Int.tmod view c.1))) c.1, ())))))) := by kernel_rfl
noncomputable def spec_Seat_con : Any := .one ⟨[(K1, true), (.int .i64, false), (.int .i64, false)], [(.int .i64, false)], 1, fun x => spec_Seat F0 x.1 x.2.1 x.2.2.1⟩
theorem spec_Seat_ok : AnyOk Try.prog TB 52 spec_Seat_con := ok1 (show AllOk Try.prog TB spec_Seat_C from ⟨spec_ConfOk_ok, spec_l1In_ok, trivial⟩) Try.func52 (by kernel_rfl) (by kernel_rfl) spec_Seat_H (by kernel_rfl)

/-! ### spec.Sits -/
noncomputable def spec_Sits_C : List (Nat × Any) := [(25, spec_ConfOk_con), (50, spec_l1In_con)]
noncomputable def spec_Sits_H : Nat → Option Hint := look []
noncomputable def spec_Sits (c : D1) (view : Int) (seat : Int) : Option (Args [(.int .i64, false)]) := runF Try.prog (look spec_Sits_C) F spec_Sits_H Try.f81 [(K1, true), (.int .i64, false), (.int .i64, false)] [(.int .i64, false)] 1 (c, view, seat, ())
theorem spec_Sits_eq (c : D1) (view : Int) (seat : Int) : spec_Sits F c view seat = (spec_ConfOk F0 c).bind fun r8 => br (!r8.1) (some ((-1), ())) (br (decide (view < 0)) (some ((-1), ())) ((spec_l1In F0 seat 0 (w64 (c.1 - 1))).bind fun r19 => br (!r19.1) (some ((-1), ())) (ck (!(c.1 == 0)) (ck (!(c.1 == 0)) (some (Int.tmod (w64 ((Int.tmod view c.1) + seat)) c.1, ())))))) := by kernel_rfl
noncomputable def spec_Sits_con : Any := .one ⟨[(K1, true), (.int .i64, false), (.int .i64, false)], [(.int .i64, false)], 1, fun x => spec_Sits F0 x.1 x.2.1 x.2.2.1⟩
theorem spec_Sits_ok : AnyOk Try.prog TB 81 spec_Sits_con := ok1 (show AllOk Try.prog TB spec_Sits_C from ⟨spec_ConfOk_ok, spec_l1In_ok, trivial⟩) Try.func81 (by kernel_rfl) (by kernel_rfl) spec_Sits_H (by kernel_rfl)

/-! ### spec.Up -/
noncomputable def spec_Up_C : List (Nat × Any) := [(52, spec_Seat_con), (81, spec_Sits_con)]
noncomputable def spec_Up_H : Nat → Option Hint := look []
noncomputable def spec_Up (c : D1) (view : Int) (i : Int) : Option (Args [(.int .i64, false)]) := runF Try.prog (look spec_Up_C) F spec_Up_H Try.f53 [(K1, true), (.int .i64, false), (.int .i64, false)] [(.int .i64, false)] 1 (c, view, i, ())
theorem spec_Up_eq (c : D1) (view : Int) (i : Int) : spec_Up F c view i = (spec_Seat F0 c view i).bind fun r11 => br (decide (r11.1 ≤ 0)) (some ((-1), ())) (ck (!(c.2 == 0)) ((spec_Sits F0 c view (w64 (Int.tdiv (w64 (r11.1 - 1)) c.2))).bind fun r21 => some (r21.1, ()))) := by kernel_rfl
noncomputable def spec_Up_con : Any := .one ⟨[(K1, true), (.int .i64, false), (.int .i64, false)], [(.int .i64, false)], 1, fun x => spec_Up F0 x.1 x.2.1 x.2.2.1⟩
theorem spec_Up_ok : AnyOk Try.prog TB 53 spec_Up_con := ok1 (show AllOk Try.prog TB spec_Up_C from ⟨spec_Seat_ok, spec_Sits_ok, trivial⟩) Try.func53 (by kernel_rfl) (by kernel_rfl) spec_Up_H (by kernel_rfl)

/-! ### spec.Way -/
noncomputable def spec_Way_C : List (Nat × Any) := [(52, spec_Seat_con), (53, spec_Up_con)]
noncomputable def spec_Way_H : Nat → Option Hint := look [(2, { live := [1, 2, 3, 7], xl := [7], rl := [6] })]
noncomputable def spec_Way_1_s (view : Int) (i : Int) (c : Int) (c1 : Int) (xs : List Int) : St := { nt := 23, tm := [(1, .v (.c (.int .i64 view))), (2, .v (.c (.int .i64 i))), (3, .v (.c (.ptr 3 0))), (7, .v (.c (.own 1000000 none)))], bx := [(3, [.int .i64 c, .int .i64 c1])], bl := [(1000000, some ⟨3, .int .i64, xs, true, true⟩)] }
noncomputable def spec_Way_1_e0 (xs : List Int) : St := { nt := 23, tm := [(7, .v (.c (.own 1000000 none)))], bx := [], bl := [(1000000, some ⟨3, .int .i64, xs, true, true⟩)] }
noncomputable def spec_Way_1 (st : St) : Option α := lp Try.prog (look spec_Way_C) F spec_Way_H (sub [.r, .r, .l, .b, .i] (codeOf Try.f26)) κ n st
noncomputable def spec_Way_1_k : Ex → St → Option (Args [(.sl 3 (.int .i64), false)]) := cont Try.prog (look spec_Way_C) F spec_Way_H [.r, .r, .l, .b] (codeOf Try.f26) (fin Try.prog Try.f26 [(.sl 3 (.int .i64), false)] 2)
theorem spec_Way_1_step (view : Int) (i : Int) (c : Int) (c1 : Int) (xs : List Int) : spec_Way_1 F κ (n + 1) (spec_Way_1_s view i c c1 xs) = (spec_Seat F0 (c, c1) view i).bind fun r12 => br (decide (r12.1 ≥ 0)) (ck (okA F xs.length [i].length 8) ((spec_Up F0 (c, c1) view i).bind fun r21 => spec_Way_1 F κ n (spec_Way_1_s view r21.1 c c1 (xs ++ [i])))) (κ (.exit 0) (spec_Way_1_e0 xs)) := by kernel_rfl
theorem spec_Way_1_ce0 (xs : List Int) : spec_Way_1_k F (.exit 0) (spec_Way_1_e0 xs) = some (xs, ()) := by kernel_rfl
noncomputable def spec_Way (c : D1) (view : Int) (i : Int) : Option (Args [(.sl 3 (.int .i64), false)]) := runF Try.prog (look spec_Way_C) F spec_Way_H Try.f26 [(K1, true), (.int .i64, false), (.int .i64, false)] [(.sl 3 (.int .i64), false)] 2 (c, view, i, ())
theorem spec_Way_eq (c : D1) (view : Int) (i : Int) : spec_Way F c view i = spec_Way_1 F (spec_Way_1_k F) F.n (spec_Way_1_s view i c.1 c.2 []) := by kernel_rfl
noncomputable def spec_Way_con : Any := .one ⟨[(K1, true), (.int .i64, false), (.int .i64, false)], [(.sl 3 (.int .i64), false)], 2, fun x => spec_Way F0 x.1 x.2.1 x.2.2.1⟩
theorem spec_Way_ok : AnyOk Try.prog TB 26 spec_Way_con := ok1 (show AllOk Try.prog TB spec_Way_C from ⟨spec_Seat_ok, spec_Up_ok, trivial⟩) Try.func26 (by kernel_rfl) (by kernel_rfl) spec_Way_H (by kernel_rfl)

/-! ### spec.l1Bit -/
noncomputable def spec_l1Bit_C : List (Nat × Any) := []
noncomputable def spec_l1Bit_H : Nat → Option Hint := look []
noncomputable def spec_l1Bit (on : Bool) : Option (Args [(.int .i64, false)]) := runF Try.prog (look spec_l1Bit_C) F spec_l1Bit_H Try.f54 [(.bool, false)] [(.int .i64, false)] 1 (on, ())
theorem spec_l1Bit_eq (on : Bool) : spec_l1Bit F on = br on (some (1, ())) (some (0, ())) := by kernel_rfl
noncomputable def spec_l1Bit_con : Any := .one ⟨[(.bool, false)], [(.int .i64, false)], 1, fun x => spec_l1Bit F0 x.1⟩
theorem spec_l1Bit_ok : AnyOk Try.prog TB 54 spec_l1Bit_con := ok1 (show AllOk Try.prog TB spec_l1Bit_C from trivial) Try.func54 (by kernel_rfl) (by kernel_rfl) spec_l1Bit_H (by kernel_rfl)

/-! ### spec.Common -/
noncomputable def spec_Common_C : List (Nat × Any) := [(54, spec_l1Bit_con), (55, spec_SetHas_con)]
noncomputable def spec_Common_H : Nat → Option Hint := look [(3, { live := [0, 1, 5, 6], xl := [5], rl := [4] })]
noncomputable def spec_Common_1_s (a : List Int) (b : List Int) (n1 : Int) (i : Int) : St := { nt := 23, tm := [(0, .v (.c (.ro false 3 (.int .i64) a))), (1, .v (.c (.ro false 3 (.int .i64) b))), (5, .v (.c (.int .i64 n1))), (6, .v (.c (.int .i64 i)))], bx := [], bl := [] }
noncomputable def spec_Common_1_e0 (n1 : Int) : St := { nt := 23, tm := [(5, .v (.c (.int .i64 n1)))], bx := [], bl := [] }
noncomputable def spec_Common_1 (st : St) : Option α := lp Try.prog (look spec_Common_C) F spec_Common_H (sub [.r, .r, .l, .r, .b, .i] (codeOf Try.f27)) κ n st
noncomputable def spec_Common_1_k : Ex → St → Option (Args [(.int .i64, false)]) := cont Try.prog (look spec_Common_C) F spec_Common_H [.r, .r, .l, .r, .b] (codeOf Try.f27) (fin Try.prog Try.f27 [(.int .i64, false)] 1)
theorem spec_Common_1_step (a : List Int) (b : List Int) (n1 : Int) (i : Int) : spec_Common_1 F κ (n + 1) (spec_Common_1_s a b n1 i) = br (decide (i < (a.length : Int))) (ck (okI i (a.length : Int)) ((spec_SetHas F0 b (at_ a i 0)).bind fun r19 => (spec_l1Bit F0 r19.1).bind fun r20 => spec_Common_1 F κ n (spec_Common_1_s a b (w64 (n1 + r20.1)) (w64 (i + 1))))) (κ (.exit 0) (spec_Common_1_e0 n1)) := by kernel_rfl
theorem spec_Common_1_ce0 (n1 : Int) : spec_Common_1_k F (.exit 0) (spec_Common_1_e0 n1) = some (n1, ()) := by kernel_rfl
noncomputable def spec_Common (a : List Int) (b : List Int) : Option (Args [(.int .i64, false)]) := runF Try.prog (look spec_Common_C) F spec_Common_H Try.f27 [(.sl 3 (.int .i64), false), (.sl 3 (.int .i64), false)] [(.int .i64, false)] 1 (a, b, ())
theorem spec_Common_eq (a : List Int) (b : List Int) : spec_Common F a b = spec_Common_1 F (spec_Common_1_k F) F.n (spec_Common_1_s a b 0 0) := by kernel_rfl
noncomputable def spec_Common_con : Any := .one ⟨[(.sl 3 (.int .i64), false), (.sl 3 (.int .i64), false)], [(.int .i64, false)], 1, fun x => spec_Common F0 x.1 x.2.1⟩
theorem spec_Common_ok : AnyOk Try.prog TB 27 spec_Common_con := ok1 (show AllOk Try.prog TB spec_Common_C from ⟨spec_l1Bit_ok, spec_SetHas_ok, trivial⟩) Try.func27 (by kernel_rfl) (by kernel_rfl) spec_Common_H (by kernel_rfl)

/-! ### spec.Cut -/
noncomputable def spec_Cut_C : List (Nat × Any) := [(24, spec_l22Some_con), (25, spec_ConfOk_con), (26, spec_Way_con), (27, spec_Common_con)]
noncomputable def spec_Cut_H : Nat → Option Hint := look [(4, { live := [1, 3, 4, 9, 10, 11], xl := [9], rl := [8] })]
noncomputable def spec_Cut_1_s (view : Int) (off : List Int) (i : Int) (c : Int) (c1 : Int) (xs : List Int) (xs1 : List Int) : St := { nt := 51, tm := [(1, .v (.c (.int .i64 view))), (3, .v (.c (.ro false 3 (.int .i64) off))), (4, .v (.c (.ptr 4 0))), (9, .v (.c (.own 1000000 none))), (10, .v (.c (.own 1000001 none))), (11, .v (.c (.int .i64 i)))], bx := [(4, [.int .i64 c, .int .i64 c1])], bl := [(1000000, some ⟨3, .int .i64, xs, true, true⟩), (1000001, some ⟨3, .int .i64, xs1, true, true⟩)] }
noncomputable def spec_Cut_1_e0 (xs : List Int) : St := { nt := 51, tm := [(9, .v (.c (.own 1000000 none)))], bx := [], bl := [(1000000, some ⟨3, .int .i64, xs, true, true⟩)] }
noncomputable def spec_Cut_1 (st : St) : Option α := lp Try.prog (look spec_Cut_C) F spec_Cut_H (sub [.r, .r, .r, .l, .r, .b, .i] (codeOf Try.f6)) κ n st
noncomputable def spec_Cut_1_k : Ex → St → Option (Args [(.sl 3 (.int .i64), false)]) := cont Try.prog (look spec_Cut_C) F spec_Cut_H [.r, .r, .r, .l, .r, .b] (codeOf Try.f6) (fin Try.prog Try.f6 [(.sl 3 (.int .i64), false)] 2)
theorem spec_Cut_1_step (view : Int) (off : List Int) (i : Int) (c : Int) (c1 : Int) (xs : List Int) (xs1 : List Int) : spec_Cut_1 F κ (n + 1) (spec_Cut_1_s view off i c c1 xs xs1) = br (decide (i < (xs1.length : Int))) ((spec_ConfOk F0 (c, c1)).bind fun r23 => br r23.1 (ck (okI i (xs1.length : Int)) ((spec_Way F0 (c, c1) view (at_ xs1 i 0)).bind fun r33 => br (decide ((r33.1.length : Int) > 0)) ((spec_Common F0 r33.1 off).bind fun r40 => br (r40.1 == 0) (ck (okI i (xs1.length : Int)) (ck (okA F xs.length [at_ xs1 i 0].length 8) (spec_Cut_1 F κ n (spec_Cut_1_s view off (w64 (i + 1)) c c1 (xs ++ [at_ xs1 i 0]) xs1)))) (spec_Cut_1 F κ n (spec_Cut_1_s view off (w64 (i + 1)) c c1 xs xs1))) (spec_Cut_1 F κ n (spec_Cut_1_s view off (w64 (i + 1)) c c1 xs xs1)))) (κ (.exit 0) (spec_Cut_1_e0 xs))) (κ (.exit 0) (spec_Cut_1_e0 xs)) := by kernel_rfl
theorem spec_Cut_1_ce0 (xs : List Int) : spec_Cut_1_k F (.exit 0) (spec_Cut_1_e0 xs) = some (xs, ()) := by kernel_rfl
noncomputable def spec_Cut (c : D1) (view : Int) (who : List Int) (off : List Int) : Option (Args [(.sl 3 (.int .i64), false)]) := runF Try.prog (look spec_Cut_C) F spec_Cut_H Try.f6 [(K1, true), (.int .i64, false), (.sl 3 (.int .i64), false), (.sl 3 (.int .i64), false)] [(.sl 3 (.int .i64), false)] 2 (c, view, who, off, ())
theorem spec_Cut_eq (c : D1) (view : Int) (who : List Int) (off : List Int) : spec_Cut F c view who off = (spec_l22Some F0 c who).bind fun r16 => spec_Cut_1 F (spec_Cut_1_k F) F.n (spec_Cut_1_s view off 0 c.1 c.2 [] r16.1) := by kernel_rfl
noncomputable def spec_Cut_con : Any := .one ⟨[(K1, true), (.int .i64, false), (.sl 3 (.int .i64), false), (.sl 3 (.int .i64), false)], [(.sl 3 (.int .i64), false)], 2, fun x => spec_Cut F0 x.1 x.2.1 x.2.2.1 x.2.2.2.1⟩
theorem spec_Cut_ok : AnyOk Try.prog TB 6 spec_Cut_con := ok1 (show AllOk Try.prog TB spec_Cut_C from ⟨spec_l22Some_ok, spec_ConfOk_ok, spec_Way_ok, spec_Common_ok, trivial⟩) Try.func6 (by kernel_rfl) (by kernel_rfl) spec_Cut_H (by kernel_rfl)

/-! ### laws.sameInts -/
noncomputable def laws_sameInts_C : List (Nat × Any) := []
noncomputable def laws_sameInts_H : Nat → Option Hint := look [(4, { live := [0, 1, 5], rl := [4] })]
noncomputable def laws_sameInts_1_s (a : List Int) (b : List Int) (i : Int) : St := { nt := 26, tm := [(0, .v (.c (.ro false 3 (.int .i64) a))), (1, .v (.c (.ro false 3 (.int .i64) b))), (5, .v (.c (.int .i64 i)))], bx := [], bl := [] }
noncomputable def laws_sameInts_1_r (t4 : Bool) : St := { nt := 26, tm := [(4, .v (.c (.bool t4)))], bx := [], bl := [] }
noncomputable def laws_sameInts_1_e0  : St := { nt := 26, tm := [], bx := [], bl := [] }
noncomputable def laws_sameInts_1 (st : St) : Option α := lp Try.prog (look laws_sameInts_C) F laws_sameInts_H (sub [.r, .r, .l, .r, .b, .i] (codeOf Try.f21)) κ n st
noncomputable def laws_sameInts_1_k : Ex → St → Option (Args [(.bool, false)]) := cont Try.prog (look laws_sameInts_C) F laws_sameInts_H [.r, .r, .l, .r, .b] (codeOf Try.f21) (fin Try.prog Try.f21 [(.bool, false)] 1)
theorem laws_sameInts_1_step (a : List Int) (b : List Int) (i : Int) : laws_sameInts_1 F κ (n + 1) (laws_sameInts_1_s a b i) = br (decide (i < (a.length : Int))) (ck (okI i (a.length : Int)) (ck (okI i (b.length : Int)) (br ((at_ a i 0) != (at_ b i 0)) (κ .ret (laws_sameInts_1_r false)) (laws_sameInts_1 F κ n (laws_sameInts_1_s a b (w64 (i + 1))))))) (κ (.exit 0) (laws_sameInts_1_e0 )) := by kernel_rfl
theorem laws_sameInts_1_cr (t4 : Bool) : laws_sameInts_1_k F .ret (laws_sameInts_1_r t4) = some (t4, ()) := by kernel_rfl
theorem laws_sameInts_1_ce0  : laws_sameInts_1_k F (.exit 0) (laws_sameInts_1_e0 ) = some (true, ()) := by kernel_rfl
noncomputable def laws_sameInts (a : List Int) (b : List Int) : Option (Args [(.bool, false)]) := runF Try.prog (look laws_sameInts_C) F laws_sameInts_H Try.f21 [(.sl 3 (.int .i64), false), (.sl 3 (.int .i64), false)] [(.bool, false)] 1 (a, b, ())
theorem laws_sameInts_eq (a : List Int) (b : List Int) : laws_sameInts F a b = br ((a.length : Int) != (b.length : Int)) (some (false, ())) (laws_sameInts_1 F (laws_sameInts_1_k F) F.n (laws_sameInts_1_s a b 0)) := by kernel_rfl
noncomputable def laws_sameInts_con : Any := .one ⟨[(.sl 3 (.int .i64), false), (.sl 3 (.int .i64), false)], [(.bool, false)], 1, fun x => laws_sameInts F0 x.1 x.2.1⟩
theorem laws_sameInts_ok : AnyOk Try.prog TB 21 laws_sameInts_con := ok1 (show AllOk Try.prog TB laws_sameInts_C from trivial) Try.func21 (by kernel_rfl) (by kernel_rfl) laws_sameInts_H (by kernel_rfl)

/-! ### laws.within -/
noncomputable def laws_within_C : List (Nat × Any) := []
noncomputable def laws_within_H : Nat → Option Hint := look [(2, { live := [0, 1, 5], rl := [4] })]
noncomputable def laws_within_1_s (list : List Int) (x : Int) (i : Int) : St := { nt := 18, tm := [(0, .v (.c (.ro false 3 (.int .i64) list))), (1, .v (.c (.int .i64 x))), (5, .v (.c (.int .i64 i)))], bx := [], bl := [] }
noncomputable def laws_within_1_r (t4 : Bool) : St := { nt := 18, tm := [(4, .v (.c (.bool t4)))], bx := [], bl := [] }
noncomputable def laws_within_1_e0  : St := { nt := 18, tm := [], bx := [], bl := [] }
noncomputable def laws_within_1 (st : St) : Option α := lp Try.prog (look laws_within_C) F laws_within_H (sub [.r, .l, .r, .b, .i] (codeOf Try.f23)) κ n st
noncomputable def laws_within_1_k : Ex → St → Option (Args [(.bool, false)]) := cont Try.prog (look laws_within_C) F laws_within_H [.r, .l, .r, .b] (codeOf Try.f23) (fin Try.prog Try.f23 [(.bool, false)] 1)
theorem laws_within_1_step (list : List Int) (x : Int) (i : Int) : laws_within_1 F κ (n + 1) (laws_within_1_s list x i) = br (decide (i < (list.length : Int))) (ck (okI i (list.length : Int)) (br ((at_ list i 0) == x) (κ .ret (laws_within_1_r true)) (laws_within_1 F κ n (laws_within_1_s list x (w64 (i + 1)))))) (κ (.exit 0) (laws_within_1_e0 )) := by kernel_rfl
theorem laws_within_1_cr (t4 : Bool) : laws_within_1_k F .ret (laws_within_1_r t4) = some (t4, ()) := by kernel_rfl
theorem laws_within_1_ce0  : laws_within_1_k F (.exit 0) (laws_within_1_e0 ) = some (false, ()) := by kernel_rfl
noncomputable def laws_within (list : List Int) (x : Int) : Option (Args [(.bool, false)]) := runF Try.prog (look laws_within_C) F laws_within_H Try.f23 [(.sl 3 (.int .i64), false), (.int .i64, false)] [(.bool, false)] 1 (list, x, ())
theorem laws_within_eq (list : List Int) (x : Int) : laws_within F list x = laws_within_1 F (laws_within_1_k F) F.n (laws_within_1_s list x 0) := by kernel_rfl
noncomputable def laws_within_con : Any := .one ⟨[(.sl 3 (.int .i64), false), (.int .i64, false)], [(.bool, false)], 1, fun x => laws_within F0 x.1 x.2.1⟩
theorem laws_within_ok : AnyOk Try.prog TB 23 laws_within_con := ok1 (show AllOk Try.prog TB laws_within_C from trivial) Try.func23 (by kernel_rfl) (by kernel_rfl) laws_within_H (by kernel_rfl)

/-! ### laws.FnCutAlone -/
noncomputable def laws_FnCutAlone_C : List (Nat × Any) := [(6, spec_Cut_con), (9, impl_Cut_con), (18, laws_big_con), (19, spec_DrawCut_con), (20, impl_Root_con), (21, laws_sameInts_con), (22, impl_ConfOk_con), (23, laws_within_con)]
noncomputable def laws_FnCutAlone_H : Nat → Option Hint := look [(11, { live := [3, 5, 7, 8, 9], xl := [8], rl := [2] })]
noncomputable def laws_FnCutAlone_1_s (i : Int) (c : Int) (c1 : Int) (xs : List Int) (xs1 : List Int) (xs2 : List Int) : St := { nt := 80, tm := [(3, .v (.c (.ptr 3 0))), (5, .v (.c (.own 1000000 none))), (7, .v (.c (.own 1000001 none))), (8, .v (.c (.own 1000002 none))), (9, .v (.c (.int .i64 i)))], bx := [(3, [.int .i64 c, .int .i64 c1])], bl := [(1000000, some ⟨3, .int .i64, xs, true, true⟩), (1000001, some ⟨3, .int .i64, xs1, true, true⟩), (1000002, some ⟨3, .int .i64, xs2, true, true⟩)] }
noncomputable def laws_FnCutAlone_1_r (t2 : Bool) : St := { nt := 80, tm := [(2, .v (.c (.bool t2)))], bx := [], bl := [] }
noncomputable def laws_FnCutAlone_1_e0 (xs : List Int) : St := { nt := 80, tm := [(8, .v (.c (.own 1000000 none)))], bx := [], bl := [(1000000, some ⟨3, .int .i64, xs, true, true⟩)] }
noncomputable def laws_FnCutAlone_1 (st : St) : Option α := lp Try.prog (look laws_FnCutAlone_C) F laws_FnCutAlone_H (sub [.r, .r, .r, .r, .r, .r, .r, .l, .r, .b, .i] (codeOf Try.f5)) κ n st
noncomputable def laws_FnCutAlone_1_k : Ex → St → Option (Args [(.bool, false)]) := cont Try.prog (look laws_FnCutAlone_C) F laws_FnCutAlone_H [.r, .r, .r, .r, .r, .r, .r, .l, .r, .b] (codeOf Try.f5) (fin Try.prog Try.f5 [(.bool, false)] 1)
theorem laws_FnCutAlone_1_step (i : Int) (c : Int) (c1 : Int) (xs : List Int) (xs1 : List Int) (xs2 : List Int) : laws_FnCutAlone_1 F κ (n + 1) (laws_FnCutAlone_1_s i c c1 xs xs1 xs2) = br (decide (i < (xs.length : Int))) (ck (okI i (xs.length : Int)) (br (decide ((at_ xs i 0) ≥ 0)) (ck (okI i (xs.length : Int)) (br (decide ((at_ xs i 0) < c)) (ck (okI i (xs.length : Int)) ((laws_within F0 xs1 (at_ xs i 0)).bind fun r74 => br (!r74.1) (κ .ret (laws_FnCutAlone_1_r false)) (laws_FnCutAlone_1 F κ n (laws_FnCutAlone_1_s (w64 (i + 1)) c c1 xs xs1 xs2)))) (laws_FnCutAlone_1 F κ n (laws_FnCutAlone_1_s (w64 (i + 1)) c c1 xs xs1 xs2)))) (laws_FnCutAlone_1 F κ n (laws_FnCutAlone_1_s (w64 (i + 1)) c c1 xs xs1 xs2)))) (κ (.exit 0) (laws_FnCutAlone_1_e0 xs2)) := by kernel_rfl
theorem laws_FnCutAlone_1_cr (t2 : Bool) : laws_FnCutAlone_1_k F .ret (laws_FnCutAlone_1_r t2) = some (t2, ()) := by kernel_rfl
theorem laws_FnCutAlone_1_ce0 (xs : List Int) : laws_FnCutAlone_1_k F (.exit 0) (laws_FnCutAlone_1_e0 xs) = some (((xs.length : Int) == 0), ()) := by kernel_rfl
noncomputable def laws_FnCutAlone (code : List Int) : Option (Args [(.bool, false)]) := runF Try.prog (look laws_FnCutAlone_C) F laws_FnCutAlone_H Try.f5 [(.sl 5 (.int .u8), false)] [(.bool, false)] 1 (code, ())
theorem laws_FnCutAlone_eq (code : List Int) : laws_FnCutAlone F code = (laws_big F0 code).bind fun r11 => br r11.1 (some (true, ())) ((spec_DrawCut F0 code).bind fun r14 => (impl_Cut F0 r14.1 r14.2.1 r14.2.2.1 []).bind fun r22 => (impl_Root F0 r14.1 r14.2.1).bind fun r28 => (impl_Cut F0 r14.1 r14.2.1 r14.2.2.1 [r28.1]).bind fun r30 => (spec_Cut F0 r14.1 r14.2.1 r14.2.2.1 []).bind fun r35 => (laws_sameInts F0 r22.1 r35.1).bind fun r36 => br (!r36.1) (some (false, ())) ((impl_ConfOk F0 r14.1).bind fun r39 => br (!r39.1) (some (((r22.1.length : Int) == 0), ())) (br (decide (r14.2.1 < 0)) (some (((r22.1.length : Int) == 0), ())) (laws_FnCutAlone_1 F (laws_FnCutAlone_1_k F) F.n (laws_FnCutAlone_1_s 0 r14.1.1 r14.1.2 r14.2.2.1 r22.1 r30.1))))) := by kernel_rfl
noncomputable def laws_FnCutAlone_con : Any := .one ⟨[(.sl 5 (.int .u8), false)], [(.bool, false)], 1, fun x => laws_FnCutAlone F0 x.1⟩
theorem laws_FnCutAlone_ok : AnyOk Try.prog TB 5 laws_FnCutAlone_con := ok1 (show AllOk Try.prog TB laws_FnCutAlone_C from ⟨spec_Cut_ok, impl_Cut_ok, laws_big_ok, spec_DrawCut_ok, impl_Root_ok, laws_sameInts_ok, impl_ConfOk_ok, laws_within_ok, trivial⟩) Try.func5 (by kernel_rfl) (by kernel_rfl) laws_FnCutAlone_H (by kernel_rfl)

end
end Go.Am.Try
