/- What Go's functions compute, as plain functions, and that they do. No condition. -/
import Derived.Test.YtmmajfbohkbpjaaAmUse
import Derived.Test.YtmmajfbohkbpjaaProg
import Derived.Test.YtmmajfbohkbpjaaPShelfD
import Derived.Test.YtmmajfbohkbpjaaPShelfF
set_option linter.unusedVariables false
set_option maxRecDepth 100000
namespace Go.Am.Try
open Go.Am Go.Proofs


abbrev K1 : Ty := .pair (.int .i64) (.int .i64)
abbrev D1 := Int × Int
abbrev K2 : Ty := .pair (.sl 5 (.int .u8)) (K1)
abbrev D2 := List Int × D1
abbrev K3 : Ty := .pair (.int .i64) (K1)
abbrev D3 := Int × D1
abbrev K4 : Ty := .pair (.int .i64) (K3)
abbrev D4 := Int × D3
abbrev K5 : Ty := .sl 105 (K4)
abbrev D5 := List D4
abbrev K6 : Ty := .pair (.int .i64) (K5)
abbrev D6 := Int × D5
abbrev K7 : Ty := .sl 143 (K6)
abbrev D7 := List D6
noncomputable section
variable {α : Type} (F : Par) (κ : Ex → St → Option α) (n : Nat)
/-! ### laws.toConf -/
noncomputable def laws_toConf_C : List (Nat × Any) := []
noncomputable def laws_toConf_H : Nat → Option Hint := look []
noncomputable def laws_toConf (a : D1) : Option (Args [(K1, true)]) := runF Try.prog (look laws_toConf_C) F laws_toConf_H Try.f7 [(K1, true)] [(K1, true)] 1 (a, ())
theorem laws_toConf_eq (a : D1) : laws_toConf F a = some (a, ()) := by kernel_rfl
noncomputable def laws_toConf_con : Any := .one ⟨[(K1, true)], [(K1, true)], 1, fun x => laws_toConf F0 x.1⟩
theorem laws_toConf_ok : AnyOk Try.prog TB 7 laws_toConf_con := ok1 (show AllOk Try.prog TB laws_toConf_C from trivial) Try.func7 (by kernel_rfl) (by kernel_rfl) laws_toConf_H (by kernel_rfl)

/-! ### laws.toIntS -/
noncomputable def laws_toIntS_C : List (Nat × Any) := []
noncomputable def laws_toIntS_H : Nat → Option Hint := look [(3, { live := [0, 3, 4], xl := [3], rl := [2] })]
noncomputable def laws_toIntS_1_s (a : List Int) (i : Int) (xs : List Int) : St := { nt := 22, tm := [(0, .v (.c (.ro false 3 (.int .i64) a))), (3, .v (.c (.own 1000000 none))), (4, .v (.c (.int .i64 i)))], bx := [], bl := [(1000000, some ⟨3, .int .i64, xs, true, true⟩)] }
noncomputable def laws_toIntS_1_e0 (xs : List Int) : St := { nt := 22, tm := [(3, .v (.c (.own 1000000 none)))], bx := [], bl := [(1000000, some ⟨3, .int .i64, xs, true, true⟩)] }
noncomputable def laws_toIntS_1 (st : St) : Option α := lp Try.prog (look laws_toIntS_C) F laws_toIntS_H (sub [.r, .r, .l, .r, .b, .i] (codeOf Try.f8)) κ n st
noncomputable def laws_toIntS_1_k : Ex → St → Option (Args [(.sl 3 (.int .i64), false)]) := cont Try.prog (look laws_toIntS_C) F laws_toIntS_H [.r, .r, .l, .r, .b] (codeOf Try.f8) (fin Try.prog Try.f8 [(.sl 3 (.int .i64), false)] 2)
theorem laws_toIntS_1_step (a : List Int) (i : Int) (xs : List Int) : laws_toIntS_1 F κ (n + 1) (laws_toIntS_1_s a i xs) = br (decide (i < (a.length : Int))) (ck (okI i (a.length : Int)) (ck (okI i (xs.length : Int)) (laws_toIntS_1 F κ n (laws_toIntS_1_s a (w64 (i + 1)) (xs.set i.toNat (at_ a i 0)))))) (κ (.exit 0) (laws_toIntS_1_e0 xs)) := by kernel_rfl
theorem laws_toIntS_1_ce0 (xs : List Int) : laws_toIntS_1_k F (.exit 0) (laws_toIntS_1_e0 xs) = some (xs, ()) := by kernel_rfl
noncomputable def laws_toIntS (a : List Int) : Option (Args [(.sl 3 (.int .i64), false)]) := runF Try.prog (look laws_toIntS_C) F laws_toIntS_H Try.f8 [(.sl 3 (.int .i64), false)] [(.sl 3 (.int .i64), false)] 2 (a, ())
theorem laws_toIntS_eq (a : List Int) : laws_toIntS F a = ck (okM F (a.length : Int) (a.length : Int) 8) (laws_toIntS_1 F (laws_toIntS_1_k F) F.n (laws_toIntS_1_s a 0 (List.replicate (a.length : Int).toNat 0))) := by kernel_rfl
noncomputable def laws_toIntS_con : Any := .one ⟨[(.sl 3 (.int .i64), false)], [(.sl 3 (.int .i64), false)], 2, fun x => laws_toIntS F0 x.1⟩
theorem laws_toIntS_ok : AnyOk Try.prog TB 8 laws_toIntS_con := ok1 (show AllOk Try.prog TB laws_toIntS_C from trivial) Try.func8 (by kernel_rfl) (by kernel_rfl) laws_toIntS_H (by kernel_rfl)

/-! ### spec.l1In -/
noncomputable def spec_l1In_C : List (Nat × Any) := []
noncomputable def spec_l1In_H : Nat → Option Hint := look []
noncomputable def spec_l1In (x : Int) (lo : Int) (hi : Int) : Option (Args [(.bool, false)]) := runF Try.prog (look spec_l1In_C) F spec_l1In_H Try.f50 [(.int .i64, false), (.int .i64, false), (.int .i64, false)] [(.bool, false)] 1 (x, lo, hi, ())
theorem spec_l1In_eq (x : Int) (lo : Int) (hi : Int) : spec_l1In F x lo hi = br (decide (x ≥ lo)) (some (decide (x ≤ hi), ())) (some (false, ())) := by kernel_rfl
noncomputable def spec_l1In_con : Any := .one ⟨[(.int .i64, false), (.int .i64, false), (.int .i64, false)], [(.bool, false)], 1, fun x => spec_l1In F0 x.1 x.2.1 x.2.2.1⟩
theorem spec_l1In_ok : AnyOk Try.prog TB 50 spec_l1In_con := ok1 (show AllOk Try.prog TB spec_l1In_C from trivial) Try.func50 (by kernel_rfl) (by kernel_rfl) spec_l1In_H (by kernel_rfl)

/-! ### spec.SetHas -/
noncomputable def spec_SetHas_C : List (Nat × Any) := []
noncomputable def spec_SetHas_H : Nat → Option Hint := look [(2, { live := [0, 1, 5], rl := [4] })]
noncomputable def spec_SetHas_1_s (s : List Int) (i : Int) (k : Int) : St := { nt := 18, tm := [(0, .v (.c (.ro false 3 (.int .i64) s))), (1, .v (.c (.int .i64 i))), (5, .v (.c (.int .i64 k)))], bx := [], bl := [] }
noncomputable def spec_SetHas_1_r (t4 : Bool) : St := { nt := 18, tm := [(4, .v (.c (.bool t4)))], bx := [], bl := [] }
noncomputable def spec_SetHas_1_e0  : St := { nt := 18, tm := [], bx := [], bl := [] }
noncomputable def spec_SetHas_1 (st : St) : Option α := lp Try.prog (look spec_SetHas_C) F spec_SetHas_H (sub [.r, .l, .r, .b, .i] (codeOf Try.f55)) κ n st
noncomputable def spec_SetHas_1_k : Ex → St → Option (Args [(.bool, false)]) := cont Try.prog (look spec_SetHas_C) F spec_SetHas_H [.r, .l, .r, .b] (codeOf Try.f55) (fin Try.prog Try.f55 [(.bool, false)] 1)
theorem spec_SetHas_1_step (s : List Int) (i : Int) (k : Int) : spec_SetHas_1 F κ (n + 1) (spec_SetHas_1_s s i k) = br (decide (k < (s.length : Int))) (ck (okI k (s.length : Int)) (br ((at_ s k 0) == i) (κ .ret (spec_SetHas_1_r true)) (spec_SetHas_1 F κ n (spec_SetHas_1_s s i (w64 (k + 1)))))) (κ (.exit 0) (spec_SetHas_1_e0 )) := by kernel_rfl
theorem spec_SetHas_1_cr (t4 : Bool) : spec_SetHas_1_k F .ret (spec_SetHas_1_r t4) = some (t4, ()) := by kernel_rfl
theorem spec_SetHas_1_ce0  : spec_SetHas_1_k F (.exit 0) (spec_SetHas_1_e0 ) = some (false, ()) := by kernel_rfl
noncomputable def spec_SetHas (s : List Int) (i : Int) : Option (Args [(.bool, false)]) := runF Try.prog (look spec_SetHas_C) F spec_SetHas_H Try.f55 [(.sl 3 (.int .i64), false), (.int .i64, false)] [(.bool, false)] 1 (s, i, ())
theorem spec_SetHas_eq (s : List Int) (i : Int) : spec_SetHas F s i = spec_SetHas_1 F (spec_SetHas_1_k F) F.n (spec_SetHas_1_s s i 0) := by kernel_rfl
noncomputable def spec_SetHas_con : Any := .one ⟨[(.sl 3 (.int .i64), false), (.int .i64, false)], [(.bool, false)], 1, fun x => spec_SetHas F0 x.1 x.2.1⟩
theorem spec_SetHas_ok : AnyOk Try.prog TB 55 spec_SetHas_con := ok1 (show AllOk Try.prog TB spec_SetHas_C from trivial) Try.func55 (by kernel_rfl) (by kernel_rfl) spec_SetHas_H (by kernel_rfl)

/-! ### spec.SetAdd -/
noncomputable def spec_SetAdd_C : List (Nat × Any) := [(55, spec_SetHas_con)]
noncomputable def spec_SetAdd_H : Nat → Option Hint := look [(4, { live := [0, 1, 5], xl := [0, 1, 5], rl := [4] })]
noncomputable def spec_SetAdd_1_s (s : List Int) (i : Int) (at1 : Int) : St := { nt := 41, tm := [(0, .v (.c (.ro false 3 (.int .i64) s))), (1, .v (.c (.int .i64 i))), (5, .v (.c (.int .i64 at1)))], bx := [], bl := [] }
noncomputable def spec_SetAdd_1_e0 (s : List Int) (i : Int) (at1 : Int) : St := { nt := 41, tm := [(0, .v (.c (.ro false 3 (.int .i64) s))), (1, .v (.c (.int .i64 i))), (5, .v (.c (.int .i64 at1)))], bx := [], bl := [] }
noncomputable def spec_SetAdd_1 (st : St) : Option α := lp Try.prog (look spec_SetAdd_C) F spec_SetAdd_H (sub [.r, .r, .r, .l, .b, .i] (codeOf Try.f51)) κ n st
noncomputable def spec_SetAdd_1_k : Ex → St → Option (Args [(.sl 3 (.int .i64), false)]) := cont Try.prog (look spec_SetAdd_C) F spec_SetAdd_H [.r, .r, .r, .l, .b] (codeOf Try.f51) (fin Try.prog Try.f51 [(.sl 3 (.int .i64), false)] 2)
theorem spec_SetAdd_1_step (s : List Int) (i : Int) (at1 : Int) : spec_SetAdd_1 F κ (n + 1) (spec_SetAdd_1_s s i at1) = br (decide (at1 < (s.length : Int))) (ck (okI at1 (s.length : Int)) (br (decide ((at_ s at1 0) < i)) (spec_SetAdd_1 F κ n (spec_SetAdd_1_s s i (w64 (at1 + 1)))) (κ (.exit 0) (spec_SetAdd_1_e0 s i at1)))) (κ (.exit 0) (spec_SetAdd_1_e0 s i at1)) := by kernel_rfl
theorem spec_SetAdd_1_ce0 (s : List Int) (i : Int) (at1 : Int) : spec_SetAdd_1_k F (.exit 0) (spec_SetAdd_1_e0 s i at1) = ck (okS 0 at1 (s.length : Int)) (ck (okA F 0 ((s.take at1.toNat).drop (0 : Int).toNat).length 8) (ck (okA F ([] ++ ((s.take at1.toNat).drop (0 : Int).toNat)).length [i].length 8) (ck (okS at1 (s.length : Int) (s.length : Int)) (ck (okA F (([] ++ ((s.take at1.toNat).drop (0 : Int).toNat)) ++ [i]).length ((s.take (s.length : Int).toNat).drop at1.toNat).length 8) (some ((([] ++ ((s.take at1.toNat).drop (0 : Int).toNat)) ++ [i]) ++ ((s.take (s.length : Int).toNat).drop at1.toNat), ())))))) := by kernel_rfl
noncomputable def spec_SetAdd (s : List Int) (i : Int) : Option (Args [(.sl 3 (.int .i64), false)]) := runF Try.prog (look spec_SetAdd_C) F spec_SetAdd_H Try.f51 [(.sl 3 (.int .i64), false), (.int .i64, false)] [(.sl 3 (.int .i64), false)] 2 (s, i, ())
theorem spec_SetAdd_eq (s : List Int) (i : Int) : spec_SetAdd F s i = (spec_SetHas F0 s i).bind fun r9 => br r9.1 (ck (okA F 0 s.length 8) (some ([] ++ s, ()))) (spec_SetAdd_1 F (spec_SetAdd_1_k F) F.n (spec_SetAdd_1_s s i 0)) := by kernel_rfl
noncomputable def spec_SetAdd_con : Any := .one ⟨[(.sl 3 (.int .i64), false), (.int .i64, false)], [(.sl 3 (.int .i64), false)], 2, fun x => spec_SetAdd F0 x.1 x.2.1⟩
theorem spec_SetAdd_ok : AnyOk Try.prog TB 51 spec_SetAdd_con := ok1 (show AllOk Try.prog TB spec_SetAdd_C from ⟨spec_SetHas_ok, trivial⟩) Try.func51 (by kernel_rfl) (by kernel_rfl) spec_SetAdd_H (by kernel_rfl)

/-! ### spec.l22Some -/
noncomputable def spec_l22Some_C : List (Nat × Any) := [(50, spec_l1In_con), (51, spec_SetAdd_con)]
noncomputable def spec_l22Some_H : Nat → Option Hint := look [(3, { live := [1, 2, 5, 6], xl := [5], rl := [4] })]
noncomputable def spec_l22Some_1_s (who : List Int) (i : Int) (c : Int) (c1 : Int) (xs : List Int) : St := { nt := 29, tm := [(1, .v (.c (.ro false 3 (.int .i64) who))), (2, .v (.c (.ptr 2 0))), (5, .v (.c (.own 1000000 none))), (6, .v (.c (.int .i64 i)))], bx := [(2, [.int .i64 c, .int .i64 c1])], bl := [(1000000, some ⟨3, .int .i64, xs, true, true⟩)] }
noncomputable def spec_l22Some_1_e0 (xs : List Int) : St := { nt := 29, tm := [(5, .v (.c (.own 1000000 none)))], bx := [], bl := [(1000000, some ⟨3, .int .i64, xs, true, true⟩)] }
noncomputable def spec_l22Some_1 (st : St) : Option α := lp Try.prog (look spec_l22Some_C) F spec_l22Some_H (sub [.r, .r, .l, .r, .b, .i] (codeOf Try.f24)) κ n st
noncomputable def spec_l22Some_1_k : Ex → St → Option (Args [(.sl 3 (.int .i64), false)]) := cont Try.prog (look spec_l22Some_C) F spec_l22Some_H [.r, .r, .l, .r, .b] (codeOf Try.f24) (fin Try.prog Try.f24 [(.sl 3 (.int .i64), false)] 2)
theorem spec_l22Some_1_step (who : List Int) (i : Int) (c : Int) (c1 : Int) (xs : List Int) : spec_l22Some_1 F κ (n + 1) (spec_l22Some_1_s who i c c1 xs) = br (decide (i < (who.length : Int))) (ck (okI i (who.length : Int)) ((spec_l1In F0 (at_ who i 0) 0 (w64 (c - 1))).bind fun r21 => br r21.1 (ck (okI i (who.length : Int)) ((spec_SetAdd F0 xs (at_ who i 0)).bind fun r27 => spec_l22Some_1 F κ n (spec_l22Some_1_s who (w64 (i + 1)) c c1 r27.1))) (spec_l22Some_1 F κ n (spec_l22Some_1_s who (w64 (i + 1)) c c1 xs)))) (κ (.exit 0) (spec_l22Some_1_e0 xs)) := by kernel_rfl
theorem spec_l22Some_1_ce0 (xs : List Int) : spec_l22Some_1_k F (.exit 0) (spec_l22Some_1_e0 xs) = some (xs, ()) := by kernel_rfl
noncomputable def spec_l22Some (c : D1) (who : List Int) : Option (Args [(.sl 3 (.int .i64), false)]) := runF Try.prog (look spec_l22Some_C) F spec_l22Some_H Try.f24 [(K1, true), (.sl 3 (.int .i64), false)] [(.sl 3 (.int .i64), false)] 2 (c, who, ())
theorem spec_l22Some_eq (c : D1) (who : List Int) : spec_l22Some F c who = spec_l22Some_1 F (spec_l22Some_1_k F) F.n (spec_l22Some_1_s who 0 c.1 c.2 []) := by kernel_rfl
noncomputable def spec_l22Some_con : Any := .one ⟨[(K1, true), (.sl 3 (.int .i64), false)], [(.sl 3 (.int .i64), false)], 2, fun x => spec_l22Some F0 x.1 x.2.1⟩
theorem spec_l22Some_ok : AnyOk Try.prog TB 24 spec_l22Some_con := ok1 (show AllOk Try.prog TB spec_l22Some_C from ⟨spec_l1In_ok, spec_SetAdd_ok, trivial⟩) Try.func24 (by kernel_rfl) (by kernel_rfl) spec_l22Some_H (by kernel_rfl)

/-! ### spec.ConfOk -/
noncomputable def spec_ConfOk_C : List (Nat × Any) := [(50, spec_l1In_con)]
noncomputable def spec_ConfOk_H : Nat → Option Hint := look []
noncomputable def spec_ConfOk (c : D1) : Option (Args [(.bool, false)]) := runF Try.prog (look spec_ConfOk_C) F spec_ConfOk_H Try.f25 [(K1, true)] [(.bool, false)] 1 (c, ())
theorem spec_ConfOk_eq (c : D1) : spec_ConfOk F c = (spec_l1In F0 c.1 4 7).bind fun r5 => br r5.1 ((spec_l1In F0 c.2 1 6).bind fun r9 => some (r9.1, ())) (some (false, ())) := by kernel_rfl
noncomputable def spec_ConfOk_con : Any := .one ⟨[(K1, true)], [(.bool, false)], 1, fun x => spec_ConfOk F0 x.1⟩
theorem spec_ConfOk_ok : AnyOk Try.prog TB 25 spec_ConfOk_con := ok1 (show AllOk Try.prog TB spec_ConfOk_C from ⟨spec_l1In_ok, trivial⟩) Try.func25 (by kernel_rfl) (by kernel_rfl) spec_ConfOk_H (by kernel_rfl)

/-! ### spec.Seat -/
noncomputable def spec_Seat_C : List (Nat × Any) := [(25, spec_ConfOk_con), (50, spec_l1In_con)]
noncomputable def spec_Seat_H : Nat → Option Hint := look []
noncomputable def spec_Seat (c : D1) (view : Int) (i : Int) : Option (Args [(.int .i64, false)]) := runF Try.prog (look spec_Seat_C) F spec_Seat_H Try.f52 [(K1, true), (.int .i64, false), (.int .i64, false)] [(.int .i64, false)] 1 (c, view, i, ())
theorem spec_Seat_eq (c : D1) (view : Int) (i : Int) : spec_Seat F c view i = (spec_ConfOk F0 c).bind fun r8 => br (!r8.1) (some ((-1), ())) (br (decide (view < 0)) (some ((-1), ())) ((spec_l1In F0 i 0 (w64 (c.1 - 1))).bind fun r19 => br (!r19.1) (some ((-1), ())) (ck (!(c.1 == 0)) (ck (!(c.1 == 0)) (some (Int.tmod (w64 ((w64 (i + c.1)) - (Int.tmod view c.1))) c.1, ())))))) := by kernel_rfl
noncomputable def spec_Seat_con : Any := .one ⟨[(K1, true), (.int .i64, false), (.int .i64, false)], [(.int .i64, false)], 1, fun x => spec_Seat F0 x.1 x.2.1 x.2.2.1⟩
theorem spec_Seat_ok : AnyOk Try.prog TB 52 spec_Seat_con := ok1 (show AllOk Try.prog TB spec_Seat_C from ⟨spec_ConfOk_ok, spec_l1In_ok, trivial⟩) Try.func52 (by kernel_rfl) (by kernel_rfl) spec_Seat_H (by kernel_rfl)

/-! ### spec.Sits -/
noncomputable def spec_Sits_C : List (Nat × Any) := [(25, spec_ConfOk_con), (50, spec_l1In_con)]
noncomputable def spec_Sits_H : Nat → Option Hint := look []
noncomputable def spec_Sits (c : D1) (view : Int) (seat : Int) : Option (Args [(.int .i64, false)]) := runF Try.prog (look spec_Sits_C) F spec_Sits_H Try.f81 [(K1, true), (.int .i64, false), (.int .i64, false)] [(.int .i64, false)] 1 (c, view, seat, ())
theorem spec_Sits_eq (c : D1) (view : Int) (seat : Int) : spec_Sits F c view seat = (spec_ConfOk F0 c).bind fun r8 => br (!r8.1) (some ((-1), ())) (br (decide (view < 0)) (some ((-1), ())) ((spec_l1In F0 seat 0 (w64 (c.1 - 1))).bind fun r19 => br (!r19.1) (some ((-1), ())) (ck (!(c.1 == 0)) (ck (!(c.1 == 0)) (some (Int.tmod (w64 ((Int.tmod view c.1) + seat)) c.1, ())))))) := by kernel_rfl
noncomputable def spec_Sits_con : Any := .one ⟨[(K1, true), (.int .i64, false), (.int .i64, false)], [(.int .i64, false)], 1, fun x => spec_Sits F0 x.1 x.2.1 x.2.2.1⟩
theorem spec_Sits_ok : AnyOk Try.prog TB 81 spec_Sits_con := ok1 (show AllOk Try.prog TB spec_Sits_C from ⟨spec_ConfOk_ok, spec_l1In_ok, trivial⟩) Try.func81 (by kernel_rfl) (by kernel_rfl) spec_Sits_H (by kernel_rfl)

/-! ### spec.Up -/
noncomputable def spec_Up_C : List (Nat × Any) := [(52, spec_Seat_con), (81, spec_Sits_con)]
noncomputable def spec_Up_H : Nat → Option Hint := look []
noncomputable def spec_Up (c : D1) (view : Int) (i : Int) : Option (Args [(.int .i64, false)]) := runF Try.prog (look spec_Up_C) F spec_Up_H Try.f53 [(K1, true), (.int .i64, false), (.int .i64, false)] [(.int .i64, false)] 1 (c, view, i, ())
theorem spec_Up_eq (c : D1) (view : Int) (i : Int) : spec_Up F c view i = (spec_Seat F0 c view i).bind fun r11 => br (decide (r11.1 ≤ 0)) (some ((-1), ())) (ck (!(c.2 == 0)) ((spec_Sits F0 c view (w64 (Int.tdiv (w64 (r11.1 - 1)) c.2))).bind fun r21 => some (r21.1, ()))) := by kernel_rfl
noncomputable def spec_Up_con : Any := .one ⟨[(K1, true), (.int .i64, false), (.int .i64, false)], [(.int .i64, false)], 1, fun x => spec_Up F0 x.1 x.2.1 x.2.2.1⟩
theorem spec_Up_ok : AnyOk Try.prog TB 53 spec_Up_con := ok1 (show AllOk Try.prog TB spec_Up_C from ⟨spec_Seat_ok, spec_Sits_ok, trivial⟩) Try.func53 (by kernel_rfl) (by kernel_rfl) spec_Up_H (by kernel_rfl)

/-! ### spec.Way -/
noncomputable def spec_Way_C : List (Nat × Any) := [(52, spec_Seat_con), (53, spec_Up_con)]
noncomputable def spec_Way_H : Nat → Option Hint := look [(2, { live := [1, 2, 3, 7], xl := [7], rl := [6] })]
noncomputable def spec_Way_1_s (view : Int) (i : Int) (c : Int) (c1 : Int) (xs : List Int) : St := { nt := 23, tm := [(1, .v (.c (.int .i64 view))), (2, .v (.c (.int .i64 i))), (3, .v (.c (.ptr 3 0))), (7, .v (.c (.own 1000000 none)))], bx := [(3, [.int .i64 c, .int .i64 c1])], bl := [(1000000, some ⟨3, .int .i64, xs, true, true⟩)] }
noncomputable def spec_Way_1_e0 (xs : List Int) : St := { nt := 23, tm := [(7, .v (.c (.own 1000000 none)))], bx := [], bl := [(1000000, some ⟨3, .int .i64, xs, true, true⟩)] }
noncomputable def spec_Way_1 (st : St) : Option α := lp Try.prog (look spec_Way_C) F spec_Way_H (sub [.r, .r, .l, .b, .i] (codeOf Try.f26)) κ n st
noncomputable def spec_Way_1_k : Ex → St → Option (Args [(.sl 3 (.int .i64), false)]) := cont Try.prog (look spec_Way_C) F spec_Way_H [.r, .r, .l, .b] (codeOf Try.f26) (fin Try.prog Try.f26 [(.sl 3 (.int .i64), false)] 2)
theorem spec_Way_1_step (view : Int) (i : Int) (c : Int) (c1 : Int) (xs : List Int) : spec_Way_1 F κ (n + 1) (spec_Way_1_s view i c c1 xs) = (spec_Seat F0 (c, c1) view i).bind fun r12 => br (decide (r12.1 ≥ 0)) (ck (okA F xs.length [i].length 8) ((spec_Up F0 (c, c1) view i).bind fun r21 => spec_Way_1 F κ n (spec_Way_1_s view r21.1 c c1 (xs ++ [i])))) (κ (.exit 0) (spec_Way_1_e0 xs)) := by kernel_rfl
theorem spec_Way_1_ce0 (xs : List Int) : spec_Way_1_k F (.exit 0) (spec_Way_1_e0 xs) = some (xs, ()) := by kernel_rfl
noncomputable def spec_Way (c : D1) (view : Int) (i : Int) : Option (Args [(.sl 3 (.int .i64), false)]) := runF Try.prog (look spec_Way_C) F spec_Way_H Try.f26 [(K1, true), (.int .i64, false), (.int .i64, false)] [(.sl 3 (.int .i64), false)] 2 (c, view, i, ())
theorem spec_Way_eq (c : D1) (view : Int) (i : Int) : spec_Way F c view i = spec_Way_1 F (spec_Way_1_k F) F.n (spec_Way_1_s view i c.1 c.2 []) := by kernel_rfl
noncomputable def spec_Way_con : Any := .one ⟨[(K1, true), (.int .i64, false), (.int .i64, false)], [(.sl 3 (.int .i64), false)], 2, fun x => spec_Way F0 x.1 x.2.1 x.2.2.1⟩
theorem spec_Way_ok : AnyOk Try.prog TB 26 spec_Way_con := ok1 (show AllOk Try.prog TB spec_Way_C from ⟨spec_Seat_ok, spec_Up_ok, trivial⟩) Try.func26 (by kernel_rfl) (by kernel_rfl) spec_Way_H (by kernel_rfl)

/-! ### spec.l1Bit -/
noncomputable def spec_l1Bit_C : List (Nat × Any) := []
noncomputable def spec_l1Bit_H : Nat → Option Hint := look []
noncomputable def spec_l1Bit (on : Bool) : Option (Args [(.int .i64, false)]) := runF Try.prog (look spec_l1Bit_C) F spec_l1Bit_H Try.f54 [(.bool, false)] [(.int .i64, false)] 1 (on, ())
theorem spec_l1Bit_eq (on : Bool) : spec_l1Bit F on = br on (some (1, ())) (some (0, ())) := by kernel_rfl
noncomputable def spec_l1Bit_con : Any := .one ⟨[(.bool, false)], [(.int .i64, false)], 1, fun x => spec_l1Bit F0 x.1⟩
theorem spec_l1Bit_ok : AnyOk Try.prog TB 54 spec_l1Bit_con := ok1 (show AllOk Try.prog TB spec_l1Bit_C from trivial) Try.func54 (by kernel_rfl) (by kernel_rfl) spec_l1Bit_H (by kernel_rfl)

/-! ### spec.Common -/
noncomputable def spec_Common_C : List (Nat × Any) := [(54, spec_l1Bit_con), (55, spec_SetHas_con)]
noncomputable def spec_Common_H : Nat → Option Hint := look [(3, { live := [0, 1, 5, 6], xl := [5], rl := [4] })]
noncomputable def spec_Common_1_s (a : List Int) (b : List Int) (n1 : Int) (i : Int) : St := { nt := 23, tm := [(0, .v (.c (.ro false 3 (.int .i64) a))), (1, .v (.c (.ro false 3 (.int .i64) b))), (5, .v (.c (.int .i64 n1))), (6, .v (.c (.int .i64 i)))], bx := [], bl := [] }
noncomputable def spec_Common_1_e0 (n1 : Int) : St := { nt := 23, tm := [(5, .v (.c (.int .i64 n1)))], bx := [], bl := [] }
noncomputable def spec_Common_1 (st : St) : Option α := lp Try.prog (look spec_Common_C) F spec_Common_H (sub [.r, .r, .l, .r, .b, .i] (codeOf Try.f27)) κ n st
noncomputable def spec_Common_1_k : Ex → St → Option (Args [(.int .i64, false)]) := cont Try.prog (look spec_Common_C) F spec_Common_H [.r, .r, .l, .r, .b] (codeOf Try.f27) (fin Try.prog Try.f27 [(.int .i64, false)] 1)
theorem spec_Common_1_step (a : List Int) (b : List Int) (n1 : Int) (i : Int) : spec_Common_1 F κ (n + 1) (spec_Common_1_s a b n1 i) = br (decide (i < (a.length : Int))) (ck (okI i (a.length : Int)) ((spec_SetHas F0 b (at_ a i 0)).bind fun r19 => (spec_l1Bit F0 r19.1).bind fun r20 => spec_Common_1 F κ n (spec_Common_1_s a b (w64 (n1 + r20.1)) (w64 (i + 1))))) (κ (.exit 0) (spec_Common_1_e0 n1)) := by kernel_rfl
theorem spec_Common_1_ce0 (n1 : Int) : spec_Common_1_k F (.exit 0) (spec_Common_1_e0 n1) = some (n1, ()) := by kernel_rfl
noncomputable def spec_Common (a : List Int) (b : List Int) : Option (Args [(.int .i64, false)]) := runF Try.prog (look spec_Common_C) F spec_Common_H Try.f27 [(.sl 3 (.int .i64), false), (.sl 3 (.int .i64), false)] [(.int .i64, false)] 1 (a, b, ())
theorem spec_Common_eq (a : List Int) (b : List Int) : spec_Common F a b = spec_Common_1 F (spec_Common_1_k F) F.n (spec_Common_1_s a b 0 0) := by kernel_rfl
noncomputable def spec_Common_con : Any := .one ⟨[(.sl 3 (.int .i64), false), (.sl 3 (.int .i64), false)], [(.int .i64, false)], 1, fun x => spec_Common F0 x.1 x.2.1⟩
theorem spec_Common_ok : AnyOk Try.prog TB 27 spec_Common_con := ok1 (show AllOk Try.prog TB spec_Common_C from ⟨spec_l1Bit_ok, spec_SetHas_ok, trivial⟩) Try.func27 (by kernel_rfl) (by kernel_rfl) spec_Common_H (by kernel_rfl)

/-! ### spec.Cut -/
noncomputable def spec_Cut_C : List (Nat × Any) := [(24, spec_l22Some_con), (25, spec_ConfOk_con), (26, spec_Way_con), (27, spec_Common_con)]
noncomputable def spec_Cut_H : Nat → Option Hint := look [(4, { live := [1, 3, 4, 9, 10, 11], xl := [9], rl := [8] })]
noncomputable def spec_Cut_1_s (view : Int) (off : List Int) (i : Int) (c : Int) (c1 : Int) (xs : List Int) (xs1 : List Int) : St := { nt := 51, tm := [(1, .v (.c (.int .i64 view))), (3, .v (.c (.ro false 3 (.int .i64) off))), (4, .v (.c (.ptr 4 0))), (9, .v (.c (.own 1000000 none))), (10, .v (.c (.own 1000001 none))), (11, .v (.c (.int .i64 i)))], bx := [(4, [.int .i64 c, .int .i64 c1])], bl := [(1000000, some ⟨3, .int .i64, xs, true, true⟩), (1000001, some ⟨3, .int .i64, xs1, true, true⟩)] }
noncomputable def spec_Cut_1_e0 (xs : List Int) : St := { nt := 51, tm := [(9, .v (.c (.own 1000000 none)))], bx := [], bl := [(1000000, some ⟨3, .int .i64, xs, true, true⟩)] }
noncomputable def spec_Cut_1 (st : St) : Option α := lp Try.prog (look spec_Cut_C) F spec_Cut_H (sub [.r, .r, .r, .l, .r, .b, .i] (codeOf Try.f6)) κ n st
noncomputable def spec_Cut_1_k : Ex → St → Option (Args [(.sl 3 (.int .i64), false)]) := cont Try.prog (look spec_Cut_C) F spec_Cut_H [.r, .r, .r, .l, .r, .b] (codeOf Try.f6) (fin Try.prog Try.f6 [(.sl 3 (.int .i64), false)] 2)
theorem spec_Cut_1_step (view : Int) (off : List Int) (i : Int) (c : Int) (c1 : Int) (xs : List Int) (xs1 : List Int) : spec_Cut_1 F κ (n + 1) (spec_Cut_1_s view off i c c1 xs xs1) = br (decide (i < (xs1.length : Int))) ((spec_ConfOk F0 (c, c1)).bind fun r23 => br r23.1 (ck (okI i (xs1.length : Int)) ((spec_Way F0 (c, c1) view (at_ xs1 i 0)).bind fun r33 => br (decide ((r33.1.length : Int) > 0)) ((spec_Common F0 r33.1 off).bind fun r40 => br (r40.1 == 0) (ck (okI i (xs1.length : Int)) (ck (okA F xs.length [at_ xs1 i 0].length 8) (spec_Cut_1 F κ n (spec_Cut_1_s view off (w64 (i + 1)) c c1 (xs ++ [at_ xs1 i 0]) xs1)))) (spec_Cut_1 F κ n (spec_Cut_1_s view off (w64 (i + 1)) c c1 xs xs1))) (spec_Cut_1 F κ n (spec_Cut_1_s view off (w64 (i + 1)) c c1 xs xs1)))) (κ (.exit 0) (spec_Cut_1_e0 xs))) (κ (.exit 0) (spec_Cut_1_e0 xs)) := by kernel_rfl
theorem spec_Cut_1_ce0 (xs : List Int) : spec_Cut_1_k F (.exit 0) (spec_Cut_1_e0 xs) = some (xs, ()) := by kernel_rfl
noncomputable def spec_Cut (c : D1) (view : Int) (who : List Int) (off : List Int) : Option (Args [(.sl 3 (.int .i64), false)]) := runF Try.prog (look spec_Cut_C) F spec_Cut_H Try.f6 [(K1, true), (.int .i64, false), (.sl 3 (.int .i64), false), (.sl 3 (.int .i64), false)] [(.sl 3 (.int .i64), false)] 2 (c, view, who, off, ())
theorem spec_Cut_eq (c : D1) (view : Int) (who : List Int) (off : List Int) : spec_Cut F c view who off = (spec_l22Some F0 c who).bind fun r16 => spec_Cut_1 F (spec_Cut_1_k F) F.n (spec_Cut_1_s view off 0 c.1 c.2 [] r16.1) := by kernel_rfl
noncomputable def spec_Cut_con : Any := .one ⟨[(K1, true), (.int .i64, false), (.sl 3 (.int .i64), false), (.sl 3 (.int .i64), false)], [(.sl 3 (.int .i64), false)], 2, fun x => spec_Cut F0 x.1 x.2.1 x.2.2.1 x.2.2.2.1⟩
theorem spec_Cut_ok : AnyOk Try.prog TB 6 spec_Cut_con := ok1 (show AllOk Try.prog TB spec_Cut_C from ⟨spec_l22Some_ok, spec_ConfOk_ok, spec_Way_ok, spec_Common_ok, trivial⟩) Try.func6 (by kernel_rfl) (by kernel_rfl) spec_Cut_H (by kernel_rfl)

/-! ### impl.within -/
noncomputable def impl_within_C : List (Nat × Any) := []
noncomputable def impl_within_H : Nat → Option Hint := look []
noncomputable def impl_within (n1 : Int) (low : Int) (high : Int) : Option (Args [(.bool, false)]) := runF Try.prog (look impl_within_C) F impl_within_H Try.f49 [(.int .i64, false), (.int .i64, false), (.int .i64, false)] [(.bool, false)] 1 (n1, low, high, ())
theorem impl_within_eq (n1 : Int) (low : Int) (high : Int) : impl_within F n1 low high = br (decide (n1 ≥ low)) (some (decide (n1 ≤ high), ())) (some (false, ())) := by kernel_rfl
noncomputable def impl_within_con : Any := .one ⟨[(.int .i64, false), (.int .i64, false), (.int .i64, false)], [(.bool, false)], 1, fun x => impl_within F0 x.1 x.2.1 x.2.2.1⟩
theorem impl_within_ok : AnyOk Try.prog TB 49 impl_within_con := ok1 (show AllOk Try.prog TB impl_within_C from trivial) Try.func49 (by kernel_rfl) (by kernel_rfl) impl_within_H (by kernel_rfl)

/-! ### slices.Index[[]int,int] -/
noncomputable def slices_Index_int_int_C : List (Nat × Any) := []
noncomputable def slices_Index_int_int_H : Nat → Option Hint := look [(2, { live := [0, 1, 7, 8], rl := [4] })]
noncomputable def slices_Index_int_int_1_s (s : List Int) (v : Int) (t7 : Int) (t8 : Int) : St := { nt := 19, tm := [(0, .v (.c (.ro false 3 (.int .i64) s))), (1, .v (.c (.int .i64 v))), (7, .v (.c (.int .i64 t7))), (8, .v (.c (.int .i64 t8)))], bx := [], bl := [] }
noncomputable def slices_Index_int_int_1_r (t4 : Int) : St := { nt := 19, tm := [(4, .v (.c (.int .i64 t4)))], bx := [], bl := [] }
noncomputable def slices_Index_int_int_1_e0  : St := { nt := 19, tm := [], bx := [], bl := [] }
noncomputable def slices_Index_int_int_1 (st : St) : Option α := lp Try.prog (look slices_Index_int_int_C) F slices_Index_int_int_H (sub [.r, .l, .r, .b, .i] (codeOf Try.f98)) κ n st
noncomputable def slices_Index_int_int_1_k : Ex → St → Option (Args [(.int .i64, false)]) := cont Try.prog (look slices_Index_int_int_C) F slices_Index_int_int_H [.r, .l, .r, .b] (codeOf Try.f98) (fin Try.prog Try.f98 [(.int .i64, false)] 1)
theorem slices_Index_int_int_1_step (s : List Int) (v : Int) (t7 : Int) (t8 : Int) : slices_Index_int_int_1 F κ (n + 1) (slices_Index_int_int_1_s s v t7 t8) = br (decide (t8 < t7)) (ck (okI t8 (s.length : Int)) (br (v == (at_ s t8 0)) (κ .ret (slices_Index_int_int_1_r t8)) (slices_Index_int_int_1 F κ n (slices_Index_int_int_1_s s v t7 (w64 (t8 + 1)))))) (κ (.exit 0) (slices_Index_int_int_1_e0 )) := by kernel_rfl
theorem slices_Index_int_int_1_cr (t4 : Int) : slices_Index_int_int_1_k F .ret (slices_Index_int_int_1_r t4) = some (t4, ()) := by kernel_rfl
theorem slices_Index_int_int_1_ce0  : slices_Index_int_int_1_k F (.exit 0) (slices_Index_int_int_1_e0 ) = some ((-1), ()) := by kernel_rfl
noncomputable def slices_Index_int_int (s : List Int) (v : Int) : Option (Args [(.int .i64, false)]) := runF Try.prog (look slices_Index_int_int_C) F slices_Index_int_int_H Try.f98 [(.sl 3 (.int .i64), false), (.int .i64, false)] [(.int .i64, false)] 1 (s, v, ())
theorem slices_Index_int_int_eq (s : List Int) (v : Int) : slices_Index_int_int F s v = slices_Index_int_int_1 F (slices_Index_int_int_1_k F) F.n (slices_Index_int_int_1_s s v (s.length : Int) 0) := by kernel_rfl
noncomputable def slices_Index_int_int_con : Any := .one ⟨[(.sl 3 (.int .i64), false), (.int .i64, false)], [(.int .i64, false)], 1, fun x => slices_Index_int_int F0 x.1 x.2.1⟩
theorem slices_Index_int_int_ok : AnyOk Try.prog TB 98 slices_Index_int_int_con := ok1 (show AllOk Try.prog TB slices_Index_int_int_C from trivial) Try.func98 (by kernel_rfl) (by kernel_rfl) slices_Index_int_int_H (by kernel_rfl)

/-! ### slices.Contains[[]int,int] -/
noncomputable def slices_Contains_int_int_C : List (Nat × Any) := [(98, slices_Index_int_int_con)]
noncomputable def slices_Contains_int_int_H : Nat → Option Hint := look []
noncomputable def slices_Contains_int_int (s : List Int) (v : Int) : Option (Args [(.bool, false)]) := runF Try.prog (look slices_Contains_int_int_C) F slices_Contains_int_int_H Try.f87 [(.sl 3 (.int .i64), false), (.int .i64, false)] [(.bool, false)] 1 (s, v, ())
theorem slices_Contains_int_int_eq (s : List Int) (v : Int) : slices_Contains_int_int F s v = (slices_Index_int_int F0 s v).bind fun r7 => some (decide (r7.1 ≥ 0), ()) := by kernel_rfl
noncomputable def slices_Contains_int_int_con : Any := .one ⟨[(.sl 3 (.int .i64), false), (.int .i64, false)], [(.bool, false)], 1, fun x => slices_Contains_int_int F0 x.1 x.2.1⟩
theorem slices_Contains_int_int_ok : AnyOk Try.prog TB 87 slices_Contains_int_int_con := ok1 (show AllOk Try.prog TB slices_Contains_int_int_C from ⟨slices_Index_int_int_ok, trivial⟩) Try.func87 (by kernel_rfl) (by kernel_rfl) slices_Contains_int_int_H (by kernel_rfl)

/-! ### impl.SetHas -/
noncomputable def impl_SetHas_C : List (Nat × Any) := [(87, slices_Contains_int_int_con)]
noncomputable def impl_SetHas_H : Nat → Option Hint := look []
noncomputable def impl_SetHas (s : List Int) (i : Int) : Option (Args [(.bool, false)]) := runF Try.prog (look impl_SetHas_C) F impl_SetHas_H Try.f59 [(.sl 3 (.int .i64), false), (.int .i64, false)] [(.bool, false)] 1 (s, i, ())
theorem impl_SetHas_eq (s : List Int) (i : Int) : impl_SetHas F s i = (slices_Contains_int_int F0 s i).bind fun r7 => some (r7.1, ()) := by kernel_rfl
noncomputable def impl_SetHas_con : Any := .one ⟨[(.sl 3 (.int .i64), false), (.int .i64, false)], [(.bool, false)], 1, fun x => impl_SetHas F0 x.1 x.2.1⟩
theorem impl_SetHas_ok : AnyOk Try.prog TB 59 impl_SetHas_con := ok1 (show AllOk Try.prog TB impl_SetHas_C from ⟨slices_Contains_int_int_ok, trivial⟩) Try.func59 (by kernel_rfl) (by kernel_rfl) impl_SetHas_H (by kernel_rfl)

/-! ### impl.copyInts -/
noncomputable def impl_copyInts_C : List (Nat × Any) := []
noncomputable def impl_copyInts_H : Nat → Option Hint := look []
noncomputable def impl_copyInts (l : List Int) : Option (Args [(.sl 3 (.int .i64), false)]) := runF Try.prog (look impl_copyInts_C) F impl_copyInts_H Try.f82 [(.sl 3 (.int .i64), false)] [(.sl 3 (.int .i64), false)] 2 (l, ())
theorem impl_copyInts_eq (l : List Int) : impl_copyInts F l = ck (okA F 0 l.length 8) (some ([] ++ l, ())) := by kernel_rfl
noncomputable def impl_copyInts_con : Any := .one ⟨[(.sl 3 (.int .i64), false)], [(.sl 3 (.int .i64), false)], 2, fun x => impl_copyInts F0 x.1⟩
theorem impl_copyInts_ok : AnyOk Try.prog TB 82 impl_copyInts_con := ok1 (show AllOk Try.prog TB impl_copyInts_C from trivial) Try.func82 (by kernel_rfl) (by kernel_rfl) impl_copyInts_H (by kernel_rfl)

/-! ### impl.SetAdd -/
noncomputable def impl_SetAdd_C : List (Nat × Any) := [(59, impl_SetHas_con), (82, impl_copyInts_con), (83, slices_IndexFunc_int_con), (85, slices_Insert_int_con)]
noncomputable def impl_SetAdd_H : Nat → Option Hint := look []
noncomputable def impl_SetAdd (s : List Int) (i : Int) : Option (Args [(.sl 3 (.int .i64), false)]) := runF Try.prog (look impl_SetAdd_C) F impl_SetAdd_H Try.f56 [(.sl 3 (.int .i64), false), (.int .i64, false)] [(.sl 3 (.int .i64), false)] 2 (s, i, ())
theorem impl_SetAdd_eq (s : List Int) (i : Int) : impl_SetAdd F s i = (impl_SetHas F0 s i).bind fun r8 => br r8.1 ((impl_copyInts F0 s).bind fun r10 => some (r10.1, ())) (br (decide ((idxL (fun e_ => geP e_ i) s 0) < 0)) ((impl_copyInts F0 s).bind fun r19 => ck (okIns (s.length : Int) r19.1.length [i].length) (some (r19.1.take (s.length : Int).toNat ++ [i] ++ r19.1.drop (s.length : Int).toNat, ()))) ((impl_copyInts F0 s).bind fun r19 => ck (okIns (idxL (fun e_ => geP e_ i) s 0) r19.1.length [i].length) (some (r19.1.take (idxL (fun e_ => geP e_ i) s 0).toNat ++ [i] ++ r19.1.drop (idxL (fun e_ => geP e_ i) s 0).toNat, ())))) := by kernel_rfl
noncomputable def impl_SetAdd_con : Any := .one ⟨[(.sl 3 (.int .i64), false), (.int .i64, false)], [(.sl 3 (.int .i64), false)], 2, fun x => impl_SetAdd F0 x.1 x.2.1⟩
theorem impl_SetAdd_ok : AnyOk Try.prog TB 56 impl_SetAdd_con := ok1 (show AllOk Try.prog TB impl_SetAdd_C from ⟨impl_SetHas_ok, impl_copyInts_ok, slices_IndexFunc_int_ok, slices_Insert_int_ok, trivial⟩) Try.func56 (by kernel_rfl) (by kernel_rfl) impl_SetAdd_H (by kernel_rfl)

/-! ### impl.replicasOf -/
noncomputable def impl_replicasOf_C : List (Nat × Any) := [(49, impl_within_con), (56, impl_SetAdd_con)]
noncomputable def impl_replicasOf_H : Nat → Option Hint := look [(3, { live := [2, 5, 8, 9, 10], mat := [(5, 3, .int .i64)], xl := [5], rl := [4] })]
noncomputable def impl_replicasOf_1_s (t8 : List Int) (t9 : Int) (t10 : Int) (c : Int) (c1 : Int) (xs : List Int) : St := { nt := 24, tm := [(2, .v (.c (.ptr 2 0))), (5, .v (.c (.own 1000000 none))), (8, .v (.c (.ro false 3 (.int .i64) t8))), (9, .v (.c (.int .i64 t9))), (10, .v (.c (.int .i64 t10)))], bx := [(2, [.int .i64 c, .int .i64 c1])], bl := [(1000000, some ⟨3, .int .i64, xs, true, true⟩)] }
noncomputable def impl_replicasOf_1_e0 (xs : List Int) : St := { nt := 24, tm := [(5, .v (.c (.own 1000000 none)))], bx := [], bl := [(1000000, some ⟨3, .int .i64, xs, true, true⟩)] }
noncomputable def impl_replicasOf_1 (st : St) : Option α := lp Try.prog (look impl_replicasOf_C) F impl_replicasOf_H (sub [.r, .r, .l, .r, .b, .i] (codeOf Try.f28)) κ n st
noncomputable def impl_replicasOf_1_k : Ex → St → Option (Args [(.sl 3 (.int .i64), false)]) := cont Try.prog (look impl_replicasOf_C) F impl_replicasOf_H [.r, .r, .l, .r, .b] (codeOf Try.f28) (fin Try.prog Try.f28 [(.sl 3 (.int .i64), false)] 2)
theorem impl_replicasOf_1_step (t8 : List Int) (t9 : Int) (t10 : Int) (c : Int) (c1 : Int) (xs : List Int) : impl_replicasOf_1 F κ (n + 1) (impl_replicasOf_1_s t8 t9 t10 c c1 xs) = br (decide (t10 < t9)) (ck (okI t10 (t8.length : Int)) ((impl_within F0 (at_ t8 t10 0) 0 (w64 (c - 1))).bind fun r18 => br r18.1 ((impl_SetAdd F0 xs (at_ t8 t10 0)).bind fun r21 => impl_replicasOf_1 F κ n (impl_replicasOf_1_s t8 t9 (w64 (t10 + 1)) c c1 r21.1)) (impl_replicasOf_1 F κ n (impl_replicasOf_1_s t8 t9 (w64 (t10 + 1)) c c1 xs)))) (κ (.exit 0) (impl_replicasOf_1_e0 xs)) := by kernel_rfl
theorem impl_replicasOf_1_ce0 (xs : List Int) : impl_replicasOf_1_k F (.exit 0) (impl_replicasOf_1_e0 xs) = some (xs, ()) := by kernel_rfl
noncomputable def impl_replicasOf (c : D1) (who : List Int) : Option (Args [(.sl 3 (.int .i64), false)]) := runF Try.prog (look impl_replicasOf_C) F impl_replicasOf_H Try.f28 [(K1, true), (.sl 3 (.int .i64), false)] [(.sl 3 (.int .i64), false)] 2 (c, who, ())
theorem impl_replicasOf_eq (c : D1) (who : List Int) : impl_replicasOf F c who = impl_replicasOf_1 F (impl_replicasOf_1_k F) F.n (impl_replicasOf_1_s who (who.length : Int) 0 c.1 c.2 []) := by kernel_rfl
noncomputable def impl_replicasOf_con : Any := .one ⟨[(K1, true), (.sl 3 (.int .i64), false)], [(.sl 3 (.int .i64), false)], 2, fun x => impl_replicasOf F0 x.1 x.2.1⟩
theorem impl_replicasOf_ok : AnyOk Try.prog TB 28 impl_replicasOf_con := ok1 (show AllOk Try.prog TB impl_replicasOf_C from ⟨impl_within_ok, impl_SetAdd_ok, trivial⟩) Try.func28 (by kernel_rfl) (by kernel_rfl) impl_replicasOf_H (by kernel_rfl)

/-! ### impl.ConfOk -/
noncomputable def impl_ConfOk_C : List (Nat × Any) := [(49, impl_within_con)]
noncomputable def impl_ConfOk_H : Nat → Option Hint := look []
noncomputable def impl_ConfOk (c : D1) : Option (Args [(.bool, false)]) := runF Try.prog (look impl_ConfOk_C) F impl_ConfOk_H Try.f22 [(K1, true)] [(.bool, false)] 1 (c, ())
theorem impl_ConfOk_eq (c : D1) : impl_ConfOk F c = (impl_within F0 c.1 4 7).bind fun r5 => br r5.1 ((impl_within F0 c.2 1 6).bind fun r9 => some (r9.1, ())) (some (false, ())) := by kernel_rfl
noncomputable def impl_ConfOk_con : Any := .one ⟨[(K1, true)], [(.bool, false)], 1, fun x => impl_ConfOk F0 x.1⟩
theorem impl_ConfOk_ok : AnyOk Try.prog TB 22 impl_ConfOk_con := ok1 (show AllOk Try.prog TB impl_ConfOk_C from ⟨impl_within_ok, trivial⟩) Try.func22 (by kernel_rfl) (by kernel_rfl) impl_ConfOk_H (by kernel_rfl)

/-! ### impl.Seat -/
noncomputable def impl_Seat_C : List (Nat × Any) := [(22, impl_ConfOk_con), (49, impl_within_con)]
noncomputable def impl_Seat_H : Nat → Option Hint := look []
noncomputable def impl_Seat (c : D1) (view : Int) (i : Int) : Option (Args [(.int .i64, false)]) := runF Try.prog (look impl_Seat_C) F impl_Seat_H Try.f57 [(K1, true), (.int .i64, false), (.int .i64, false)] [(.int .i64, false)] 1 (c, view, i, ())
theorem impl_Seat_eq (c : D1) (view : Int) (i : Int) : impl_Seat F c view i = (impl_ConfOk F0 c).bind fun r8 => br (!r8.1) (some ((-1), ())) (br (decide (view < 0)) (some ((-1), ())) ((impl_within F0 i 0 (w64 (c.1 - 1))).bind fun r19 => br (!r19.1) (some ((-1), ())) (ck (!(c.1 == 0)) (ck (!(c.1 == 0)) (some (Int.tmod (w64 ((w64 (i - (Int.tmod view c.1))) + c.1)) c.1, ())))))) := by kernel_rfl
noncomputable def impl_Seat_con : Any := .one ⟨[(K1, true), (.int .i64, false), (.int .i64, false)], [(.int .i64, false)], 1, fun x => impl_Seat F0 x.1 x.2.1 x.2.2.1⟩
theorem impl_Seat_ok : AnyOk Try.prog TB 57 impl_Seat_con := ok1 (show AllOk Try.prog TB impl_Seat_C from ⟨impl_ConfOk_ok, impl_within_ok, trivial⟩) Try.func57 (by kernel_rfl) (by kernel_rfl) impl_Seat_H (by kernel_rfl)

/-! ### impl.Sits -/
noncomputable def impl_Sits_C : List (Nat × Any) := [(22, impl_ConfOk_con), (49, impl_within_con)]
noncomputable def impl_Sits_H : Nat → Option Hint := look []
noncomputable def impl_Sits (c : D1) (view : Int) (seat : Int) : Option (Args [(.int .i64, false)]) := runF Try.prog (look impl_Sits_C) F impl_Sits_H Try.f86 [(K1, true), (.int .i64, false), (.int .i64, false)] [(.int .i64, false)] 1 (c, view, seat, ())
theorem impl_Sits_eq (c : D1) (view : Int) (seat : Int) : impl_Sits F c view seat = (impl_ConfOk F0 c).bind fun r8 => br (!r8.1) (some ((-1), ())) (br (decide (view < 0)) (some ((-1), ())) ((impl_within F0 seat 0 (w64 (c.1 - 1))).bind fun r19 => br (!r19.1) (some ((-1), ())) (ck (!(c.1 == 0)) (ck (!(c.1 == 0)) (some (Int.tmod (w64 ((Int.tmod view c.1) + seat)) c.1, ())))))) := by kernel_rfl
noncomputable def impl_Sits_con : Any := .one ⟨[(K1, true), (.int .i64, false), (.int .i64, false)], [(.int .i64, false)], 1, fun x => impl_Sits F0 x.1 x.2.1 x.2.2.1⟩
theorem impl_Sits_ok : AnyOk Try.prog TB 86 impl_Sits_con := ok1 (show AllOk Try.prog TB impl_Sits_C from ⟨impl_ConfOk_ok, impl_within_ok, trivial⟩) Try.func86 (by kernel_rfl) (by kernel_rfl) impl_Sits_H (by kernel_rfl)

/-! ### impl.Up -/
noncomputable def impl_Up_C : List (Nat × Any) := [(57, impl_Seat_con), (86, impl_Sits_con)]
noncomputable def impl_Up_H : Nat → Option Hint := look []
noncomputable def impl_Up (c : D1) (view : Int) (i : Int) : Option (Args [(.int .i64, false)]) := runF Try.prog (look impl_Up_C) F impl_Up_H Try.f58 [(K1, true), (.int .i64, false), (.int .i64, false)] [(.int .i64, false)] 1 (c, view, i, ())
theorem impl_Up_eq (c : D1) (view : Int) (i : Int) : impl_Up F c view i = (impl_Seat F0 c view i).bind fun r11 => br (decide (r11.1 < 1)) (some ((-1), ())) (ck (!(c.2 == 0)) ((impl_Sits F0 c view (w64 (Int.tdiv (w64 (r11.1 - 1)) c.2))).bind fun r21 => some (r21.1, ()))) := by kernel_rfl
noncomputable def impl_Up_con : Any := .one ⟨[(K1, true), (.int .i64, false), (.int .i64, false)], [(.int .i64, false)], 1, fun x => impl_Up F0 x.1 x.2.1 x.2.2.1⟩
theorem impl_Up_ok : AnyOk Try.prog TB 58 impl_Up_con := ok1 (show AllOk Try.prog TB impl_Up_C from ⟨impl_Seat_ok, impl_Sits_ok, trivial⟩) Try.func58 (by kernel_rfl) (by kernel_rfl) impl_Up_H (by kernel_rfl)

/-! ### impl.Way -/
noncomputable def impl_Way_C : List (Nat × Any) := [(57, impl_Seat_con), (58, impl_Up_con)]
noncomputable def impl_Way_H : Nat → Option Hint := look [(2, { live := [1, 2, 3, 7], mat := [(7, 3, .int .i64)], xl := [7], rl := [6] })]
noncomputable def impl_Way_1_s (view : Int) (i : Int) (c : Int) (c1 : Int) (xs : List Int) : St := { nt := 22, tm := [(1, .v (.c (.int .i64 view))), (2, .v (.c (.int .i64 i))), (3, .v (.c (.ptr 3 0))), (7, .v (.c (.own 1000000 none)))], bx := [(3, [.int .i64 c, .int .i64 c1])], bl := [(1000000, some ⟨3, .int .i64, xs, true, true⟩)] }
noncomputable def impl_Way_1_e0 (xs : List Int) : St := { nt := 22, tm := [(7, .v (.c (.own 1000000 none)))], bx := [], bl := [(1000000, some ⟨3, .int .i64, xs, true, true⟩)] }
noncomputable def impl_Way_1 (st : St) : Option α := lp Try.prog (look impl_Way_C) F impl_Way_H (sub [.r, .r, .l, .b, .i] (codeOf Try.f29)) κ n st
noncomputable def impl_Way_1_k : Ex → St → Option (Args [(.sl 3 (.int .i64), false)]) := cont Try.prog (look impl_Way_C) F impl_Way_H [.r, .r, .l, .b] (codeOf Try.f29) (fin Try.prog Try.f29 [(.sl 3 (.int .i64), false)] 2)
theorem impl_Way_1_step (view : Int) (i : Int) (c : Int) (c1 : Int) (xs : List Int) : impl_Way_1 F κ (n + 1) (impl_Way_1_s view i c c1 xs) = (impl_Seat F0 (c, c1) view i).bind fun r11 => br (decide (r11.1 ≥ 0)) (ck (okA F xs.length [i].length 8) ((impl_Up F0 (c, c1) view i).bind fun r16 => impl_Way_1 F κ n (impl_Way_1_s view r16.1 c c1 (xs ++ [i])))) (κ (.exit 0) (impl_Way_1_e0 xs)) := by kernel_rfl
theorem impl_Way_1_ce0 (xs : List Int) : impl_Way_1_k F (.exit 0) (impl_Way_1_e0 xs) = some (xs, ()) := by kernel_rfl
noncomputable def impl_Way (c : D1) (view : Int) (i : Int) : Option (Args [(.sl 3 (.int .i64), false)]) := runF Try.prog (look impl_Way_C) F impl_Way_H Try.f29 [(K1, true), (.int .i64, false), (.int .i64, false)] [(.sl 3 (.int .i64), false)] 2 (c, view, i, ())
theorem impl_Way_eq (c : D1) (view : Int) (i : Int) : impl_Way F c view i = impl_Way_1 F (impl_Way_1_k F) F.n (impl_Way_1_s view i c.1 c.2 []) := by kernel_rfl
noncomputable def impl_Way_con : Any := .one ⟨[(K1, true), (.int .i64, false), (.int .i64, false)], [(.sl 3 (.int .i64), false)], 2, fun x => impl_Way F0 x.1 x.2.1 x.2.2.1⟩
theorem impl_Way_ok : AnyOk Try.prog TB 29 impl_Way_con := ok1 (show AllOk Try.prog TB impl_Way_C from ⟨impl_Seat_ok, impl_Up_ok, trivial⟩) Try.func29 (by kernel_rfl) (by kernel_rfl) impl_Way_H (by kernel_rfl)

/-! ### impl.Common -/
noncomputable def impl_Common_C : List (Nat × Any) := [(59, impl_SetHas_con)]
noncomputable def impl_Common_H : Nat → Option Hint := look [(3, { live := [1, 5, 8, 9, 10], xl := [5], rl := [4] })]
noncomputable def impl_Common_1_s (b : List Int) (n1 : Int) (t8 : List Int) (t9 : Int) (t10 : Int) : St := { nt := 21, tm := [(1, .v (.c (.ro false 3 (.int .i64) b))), (5, .v (.c (.int .i64 n1))), (8, .v (.c (.ro false 3 (.int .i64) t8))), (9, .v (.c (.int .i64 t9))), (10, .v (.c (.int .i64 t10)))], bx := [], bl := [] }
noncomputable def impl_Common_1_e0 (n1 : Int) : St := { nt := 21, tm := [(5, .v (.c (.int .i64 n1)))], bx := [], bl := [] }
noncomputable def impl_Common_1 (st : St) : Option α := lp Try.prog (look impl_Common_C) F impl_Common_H (sub [.r, .r, .l, .r, .b, .i] (codeOf Try.f30)) κ n st
noncomputable def impl_Common_1_k : Ex → St → Option (Args [(.int .i64, false)]) := cont Try.prog (look impl_Common_C) F impl_Common_H [.r, .r, .l, .r, .b] (codeOf Try.f30) (fin Try.prog Try.f30 [(.int .i64, false)] 1)
theorem impl_Common_1_step (b : List Int) (n1 : Int) (t8 : List Int) (t9 : Int) (t10 : Int) : impl_Common_1 F κ (n + 1) (impl_Common_1_s b n1 t8 t9 t10) = br (decide (t10 < t9)) (ck (okI t10 (t8.length : Int)) ((impl_SetHas F0 b (at_ t8 t10 0)).bind fun r16 => br r16.1 (impl_Common_1 F κ n (impl_Common_1_s b (w64 (n1 + 1)) t8 t9 (w64 (t10 + 1)))) (impl_Common_1 F κ n (impl_Common_1_s b n1 t8 t9 (w64 (t10 + 1)))))) (κ (.exit 0) (impl_Common_1_e0 n1)) := by kernel_rfl
theorem impl_Common_1_ce0 (n1 : Int) : impl_Common_1_k F (.exit 0) (impl_Common_1_e0 n1) = some (n1, ()) := by kernel_rfl
noncomputable def impl_Common (a : List Int) (b : List Int) : Option (Args [(.int .i64, false)]) := runF Try.prog (look impl_Common_C) F impl_Common_H Try.f30 [(.sl 3 (.int .i64), false), (.sl 3 (.int .i64), false)] [(.int .i64, false)] 1 (a, b, ())
theorem impl_Common_eq (a : List Int) (b : List Int) : impl_Common F a b = impl_Common_1 F (impl_Common_1_k F) F.n (impl_Common_1_s b 0 a (a.length : Int) 0) := by kernel_rfl
noncomputable def impl_Common_con : Any := .one ⟨[(.sl 3 (.int .i64), false), (.sl 3 (.int .i64), false)], [(.int .i64, false)], 1, fun x => impl_Common F0 x.1 x.2.1⟩
theorem impl_Common_ok : AnyOk Try.prog TB 30 impl_Common_con := ok1 (show AllOk Try.prog TB impl_Common_C from ⟨impl_SetHas_ok, trivial⟩) Try.func30 (by kernel_rfl) (by kernel_rfl) impl_Common_H (by kernel_rfl)

/-! ### impl.Cut -/
noncomputable def impl_Cut_C : List (Nat × Any) := [(28, impl_replicasOf_con), (29, impl_Way_con), (30, impl_Common_con)]
noncomputable def impl_Cut_H : Nat → Option Hint := look [(3, { live := [1, 3, 4, 9, 15, 16, 17], mat := [(9, 3, .int .i64)], xl := [9], rl := [8] })]
noncomputable def impl_Cut_1_s (view : Int) (off : List Int) (t16 : Int) (t17 : Int) (c : Int) (c1 : Int) (xs : List Int) (xs1 : List Int) : St := { nt := 40, tm := [(1, .v (.c (.int .i64 view))), (3, .v (.c (.ro false 3 (.int .i64) off))), (4, .v (.c (.ptr 4 0))), (9, .v (.c (.own 1000000 none))), (15, .v (.c (.own 1000001 none))), (16, .v (.c (.int .i64 t16))), (17, .v (.c (.int .i64 t17)))], bx := [(4, [.int .i64 c, .int .i64 c1])], bl := [(1000000, some ⟨3, .int .i64, xs, true, true⟩), (1000001, some ⟨3, .int .i64, xs1, true, true⟩)] }
noncomputable def impl_Cut_1_e0 (xs : List Int) : St := { nt := 40, tm := [(9, .v (.c (.own 1000000 none)))], bx := [], bl := [(1000000, some ⟨3, .int .i64, xs, true, true⟩)] }
noncomputable def impl_Cut_1 (st : St) : Option α := lp Try.prog (look impl_Cut_C) F impl_Cut_H (sub [.r, .r, .l, .r, .b, .i] (codeOf Try.f9)) κ n st
noncomputable def impl_Cut_1_k : Ex → St → Option (Args [(.sl 3 (.int .i64), false)]) := cont Try.prog (look impl_Cut_C) F impl_Cut_H [.r, .r, .l, .r, .b] (codeOf Try.f9) (fin Try.prog Try.f9 [(.sl 3 (.int .i64), false)] 2)
theorem impl_Cut_1_step (view : Int) (off : List Int) (t16 : Int) (t17 : Int) (c : Int) (c1 : Int) (xs : List Int) (xs1 : List Int) : impl_Cut_1 F κ (n + 1) (impl_Cut_1_s view off t16 t17 c c1 xs xs1) = br (decide (t17 < t16)) (ck (okI t17 (xs1.length : Int)) ((impl_Way F0 (c, c1) view (at_ xs1 t17 0)).bind fun r24 => br (decide ((r24.1.length : Int) > 0)) ((impl_Common F0 r24.1 off).bind fun r31 => br (r31.1 == 0) (ck (okA F xs.length [at_ xs1 t17 0].length 8) (impl_Cut_1 F κ n (impl_Cut_1_s view off t16 (w64 (t17 + 1)) c c1 (xs ++ [at_ xs1 t17 0]) xs1))) (impl_Cut_1 F κ n (impl_Cut_1_s view off t16 (w64 (t17 + 1)) c c1 xs xs1))) (impl_Cut_1 F κ n (impl_Cut_1_s view off t16 (w64 (t17 + 1)) c c1 xs xs1)))) (κ (.exit 0) (impl_Cut_1_e0 xs)) := by kernel_rfl
theorem impl_Cut_1_ce0 (xs : List Int) : impl_Cut_1_k F (.exit 0) (impl_Cut_1_e0 xs) = some (xs, ()) := by kernel_rfl
noncomputable def impl_Cut (c : D1) (view : Int) (who : List Int) (off : List Int) : Option (Args [(.sl 3 (.int .i64), false)]) := runF Try.prog (look impl_Cut_C) F impl_Cut_H Try.f9 [(K1, true), (.int .i64, false), (.sl 3 (.int .i64), false), (.sl 3 (.int .i64), false)] [(.sl 3 (.int .i64), false)] 2 (c, view, who, off, ())
theorem impl_Cut_eq (c : D1) (view : Int) (who : List Int) (off : List Int) : impl_Cut F c view who off = (impl_replicasOf F0 c who).bind fun r15 => impl_Cut_1 F (impl_Cut_1_k F) F.n (impl_Cut_1_s view off (r15.1.length : Int) 0 c.1 c.2 [] r15.1) := by kernel_rfl
noncomputable def impl_Cut_con : Any := .one ⟨[(K1, true), (.int .i64, false), (.sl 3 (.int .i64), false), (.sl 3 (.int .i64), false)], [(.sl 3 (.int .i64), false)], 2, fun x => impl_Cut F0 x.1 x.2.1 x.2.2.1 x.2.2.2.1⟩
theorem impl_Cut_ok : AnyOk Try.prog TB 9 impl_Cut_con := ok1 (show AllOk Try.prog TB impl_Cut_C from ⟨impl_replicasOf_ok, impl_Way_ok, impl_Common_ok, trivial⟩) Try.func9 (by kernel_rfl) (by kernel_rfl) impl_Cut_H (by kernel_rfl)

/-! ### laws.eqIntS -/
noncomputable def laws_eqIntS_C : List (Nat × Any) := []
noncomputable def laws_eqIntS_H : Nat → Option Hint := look [(4, { live := [0, 1, 5], rl := [4] })]
noncomputable def laws_eqIntS_1_s (a : List Int) (b : List Int) (i : Int) : St := { nt := 26, tm := [(0, .v (.c (.ro false 3 (.int .i64) a))), (1, .v (.c (.ro false 3 (.int .i64) b))), (5, .v (.c (.int .i64 i)))], bx := [], bl := [] }
noncomputable def laws_eqIntS_1_r (t4 : Bool) : St := { nt := 26, tm := [(4, .v (.c (.bool t4)))], bx := [], bl := [] }
noncomputable def laws_eqIntS_1_e0  : St := { nt := 26, tm := [], bx := [], bl := [] }
noncomputable def laws_eqIntS_1 (st : St) : Option α := lp Try.prog (look laws_eqIntS_C) F laws_eqIntS_H (sub [.r, .r, .l, .r, .b, .i] (codeOf Try.f10)) κ n st
noncomputable def laws_eqIntS_1_k : Ex → St → Option (Args [(.bool, false)]) := cont Try.prog (look laws_eqIntS_C) F laws_eqIntS_H [.r, .r, .l, .r, .b] (codeOf Try.f10) (fin Try.prog Try.f10 [(.bool, false)] 1)
theorem laws_eqIntS_1_step (a : List Int) (b : List Int) (i : Int) : laws_eqIntS_1 F κ (n + 1) (laws_eqIntS_1_s a b i) = br (decide (i < (a.length : Int))) (ck (okI i (a.length : Int)) (ck (okI i (b.length : Int)) (br ((at_ a i 0) != (at_ b i 0)) (κ .ret (laws_eqIntS_1_r false)) (laws_eqIntS_1 F κ n (laws_eqIntS_1_s a b (w64 (i + 1))))))) (κ (.exit 0) (laws_eqIntS_1_e0 )) := by kernel_rfl
theorem laws_eqIntS_1_cr (t4 : Bool) : laws_eqIntS_1_k F .ret (laws_eqIntS_1_r t4) = some (t4, ()) := by kernel_rfl
theorem laws_eqIntS_1_ce0  : laws_eqIntS_1_k F (.exit 0) (laws_eqIntS_1_e0 ) = some (true, ()) := by kernel_rfl
noncomputable def laws_eqIntS (a : List Int) (b : List Int) : Option (Args [(.bool, false)]) := runF Try.prog (look laws_eqIntS_C) F laws_eqIntS_H Try.f10 [(.sl 3 (.int .i64), false), (.sl 3 (.int .i64), false)] [(.bool, false)] 1 (a, b, ())
theorem laws_eqIntS_eq (a : List Int) (b : List Int) : laws_eqIntS F a b = br ((a.length : Int) != (b.length : Int)) (some (false, ())) (laws_eqIntS_1 F (laws_eqIntS_1_k F) F.n (laws_eqIntS_1_s a b 0)) := by kernel_rfl
noncomputable def laws_eqIntS_con : Any := .one ⟨[(.sl 3 (.int .i64), false), (.sl 3 (.int .i64), false)], [(.bool, false)], 1, fun x => laws_eqIntS F0 x.1 x.2.1⟩
theorem laws_eqIntS_ok : AnyOk Try.prog TB 10 laws_eqIntS_con := ok1 (show AllOk Try.prog TB laws_eqIntS_C from trivial) Try.func10 (by kernel_rfl) (by kernel_rfl) laws_eqIntS_H (by kernel_rfl)

/-! ### laws.markIntS -/
noncomputable def laws_markIntS_C : List (Nat × Any) := []
noncomputable def laws_markIntS_H : Nat → Option Hint := look [(2, { live := [0, 1, 5], xl := [1], rl := [4] })]
noncomputable def laws_markIntS_1_s (k : Int) (i : Int) (xs : List Int) : St := { nt := 19, tm := [(0, .v (.c (.own 1000000 none))), (1, .v (.c (.int .i64 k))), (5, .v (.c (.int .i64 i)))], bx := [], bl := [(1000000, some ⟨3, .int .i64, xs, true, true⟩)], sp := .v (.c (.own 1000000 none)) }
noncomputable def laws_markIntS_1_e0 (k : Int) (xs : List Int) : St := { nt := 19, tm := [(1, .v (.c (.int .i64 k)))], bx := [], bl := [(1000000, some ⟨3, .int .i64, xs, true, true⟩)], sp := .v (.c (.own 1000000 none)) }
noncomputable def laws_markIntS_1 (st : St) : Option α := lp Try.prog (look laws_markIntS_C) F laws_markIntS_H (sub [.r, .l, .r, .b, .i] (codeOf Try.f11)) κ n st
noncomputable def laws_markIntS_1_k : Ex → St → Option (Args [(.int .i64, false)] × Args [(.sl 3 (.int .i64), false)]) := cont Try.prog (look laws_markIntS_C) F laws_markIntS_H [.r, .l, .r, .b] (codeOf Try.f11) (fin2 Try.prog Try.f11 (.own true) [(.int .i64, false)] [(.sl 3 (.int .i64), false)] 2)
theorem laws_markIntS_1_step (k : Int) (i : Int) (xs : List Int) : laws_markIntS_1 F κ (n + 1) (laws_markIntS_1_s k i xs) = br (decide (i < (xs.length : Int))) (ck (okI i (xs.length : Int)) (laws_markIntS_1 F κ n (laws_markIntS_1_s (w64 (k + 1)) (w64 (i + 1)) (xs.set i.toNat k)))) (κ (.exit 0) (laws_markIntS_1_e0 k xs)) := by kernel_rfl
theorem laws_markIntS_1_ce0 (k : Int) (xs : List Int) : laws_markIntS_1_k F (.exit 0) (laws_markIntS_1_e0 k xs) = some ((k, ()), (xs, ())) := by kernel_rfl
noncomputable def laws_markIntS (a : List Int) (k : Int) : Option (Args [(.int .i64, false)] × Args [(.sl 3 (.int .i64), false)]) := runF2 Try.prog (look laws_markIntS_C) F laws_markIntS_H Try.f11 [(.sl 3 (.int .i64), false), (.int .i64, false)] 0 (.own true) [(.int .i64, false)] [(.sl 3 (.int .i64), false)] 2 (a, k, ())
theorem laws_markIntS_eq (a : List Int) (k : Int) : laws_markIntS F a k = laws_markIntS_1 F (laws_markIntS_1_k F) F.n (laws_markIntS_1_s k 0 a) := by kernel_rfl
noncomputable def laws_markIntS_con : Any := .two ⟨[(.sl 3 (.int .i64), false), (.int .i64, false)], 0, (.own true), [(.int .i64, false)], 2, [(.sl 3 (.int .i64), false)], fun x => laws_markIntS F0 x.1 x.2.1⟩
theorem laws_markIntS_ok : AnyOk Try.prog TB 11 laws_markIntS_con := ok3 (show AllOk Try.prog TB laws_markIntS_C from trivial) Try.func11 (by kernel_rfl) (by kernel_rfl) laws_markIntS_H (by kernel_rfl) (by kernel_rfl)

/-! ### laws.heldIntS -/
noncomputable def laws_heldIntS_C : List (Nat × Any) := []
noncomputable def laws_heldIntS_H : Nat → Option Hint := look [(2, { live := [0, 1, 5], xl := [1], rl := [4] })]
noncomputable def laws_heldIntS_1_s (a : List Int) (k : Int) (i : Int) : St := { nt := 21, tm := [(0, .v (.c (.ro false 3 (.int .i64) a))), (1, .v (.c (.int .i64 k))), (5, .v (.c (.int .i64 i)))], bx := [], bl := [] }
noncomputable def laws_heldIntS_1_r (t4 : Int) : St := { nt := 21, tm := [(4, .v (.c (.int .i64 t4)))], bx := [], bl := [] }
noncomputable def laws_heldIntS_1_e0 (k : Int) : St := { nt := 21, tm := [(1, .v (.c (.int .i64 k)))], bx := [], bl := [] }
noncomputable def laws_heldIntS_1 (st : St) : Option α := lp Try.prog (look laws_heldIntS_C) F laws_heldIntS_H (sub [.r, .l, .r, .b, .i] (codeOf Try.f12)) κ n st
noncomputable def laws_heldIntS_1_k : Ex → St → Option (Args [(.int .i64, false)]) := cont Try.prog (look laws_heldIntS_C) F laws_heldIntS_H [.r, .l, .r, .b] (codeOf Try.f12) (fin Try.prog Try.f12 [(.int .i64, false)] 1)
theorem laws_heldIntS_1_step (a : List Int) (k : Int) (i : Int) : laws_heldIntS_1 F κ (n + 1) (laws_heldIntS_1_s a k i) = br (decide (i < (a.length : Int))) (ck (okI i (a.length : Int)) (br ((at_ a i 0) != k) (κ .ret (laws_heldIntS_1_r (-1))) (laws_heldIntS_1 F κ n (laws_heldIntS_1_s a (w64 (k + 1)) (w64 (i + 1)))))) (κ (.exit 0) (laws_heldIntS_1_e0 k)) := by kernel_rfl
theorem laws_heldIntS_1_cr (t4 : Int) : laws_heldIntS_1_k F .ret (laws_heldIntS_1_r t4) = some (t4, ()) := by kernel_rfl
theorem laws_heldIntS_1_ce0 (k : Int) : laws_heldIntS_1_k F (.exit 0) (laws_heldIntS_1_e0 k) = some (k, ()) := by kernel_rfl
noncomputable def laws_heldIntS (a : List Int) (k : Int) : Option (Args [(.int .i64, false)]) := runF Try.prog (look laws_heldIntS_C) F laws_heldIntS_H Try.f12 [(.sl 3 (.int .i64), false), (.int .i64, false)] [(.int .i64, false)] 1 (a, k, ())
theorem laws_heldIntS_eq (a : List Int) (k : Int) : laws_heldIntS F a k = laws_heldIntS_1 F (laws_heldIntS_1_k F) F.n (laws_heldIntS_1_s a k 0) := by kernel_rfl
noncomputable def laws_heldIntS_con : Any := .one ⟨[(.sl 3 (.int .i64), false), (.int .i64, false)], [(.int .i64, false)], 1, fun x => laws_heldIntS F0 x.1 x.2.1⟩
theorem laws_heldIntS_ok : AnyOk Try.prog TB 12 laws_heldIntS_con := ok1 (show AllOk Try.prog TB laws_heldIntS_C from trivial) Try.func12 (by kernel_rfl) (by kernel_rfl) laws_heldIntS_H (by kernel_rfl)

/-! ### laws.FnExactCut -/
noncomputable def laws_FnExactCut_C : List (Nat × Any) := [(6, spec_Cut_con), (7, laws_toConf_con), (8, laws_toIntS_con), (9, impl_Cut_con), (10, laws_eqIntS_con), (11, laws_markIntS_con), (12, laws_heldIntS_con)]
noncomputable def laws_FnExactCut_H : Nat → Option Hint := look []
noncomputable def laws_FnExactCut (aC : D1) (aView : Int) (aWho : List Int) (aOff : List Int) : Option (Args [(.bool, false)]) := runF Try.prog (look laws_FnExactCut_C) F laws_FnExactCut_H Try.f3 [(K1, true), (.int .i64, false), (.sl 3 (.int .i64), false), (.sl 3 (.int .i64), false)] [(.bool, false)] 1 (aC, aView, aWho, aOff, ())
theorem laws_FnExactCut_eq (aC : D1) (aView : Int) (aWho : List Int) (aOff : List Int) : laws_FnExactCut F aC aView aWho aOff = br (decide ((aWho.length : Int) > 1048576)) (some (true, ())) (br (decide ((aOff.length : Int) > 1048576)) (some (true, ())) ((laws_toConf F0 aC).bind fun r24 => (laws_toIntS F0 aWho).bind fun r27 => (laws_toIntS F0 aOff).bind fun r29 => (spec_Cut F0 r24.1 aView r27.1 r29.1).bind fun r30 => (laws_toIntS F0 aWho).bind fun r32 => (laws_toIntS F0 aOff).bind fun r34 => (laws_toConf F0 aC).bind fun r36 => (impl_Cut F0 r36.1 aView r32.1 r34.1).bind fun r40 => (laws_eqIntS F0 r40.1 r30.1).bind fun r43 => br (!r43.1) (some (false, ())) ((laws_toIntS F0 aWho).bind fun r47 => (laws_eqIntS F0 r32.1 r47.1).bind fun r48 => br (!r48.1) (some (false, ())) ((laws_toIntS F0 aOff).bind fun r52 => (laws_eqIntS F0 r34.1 r52.1).bind fun r53 => br (!r53.1) (some (false, ())) ((laws_markIntS F0 r32.1 1).bind fun r57 => (laws_markIntS F0 r34.1 r57.1.1).bind fun r60 => br (decide (r60.1.1 < 0)) (some (false, ())) ((laws_eqIntS F0 r40.1 r30.1).bind fun r66 => br (!r66.1) (some (false, ())) ((laws_markIntS F0 r40.1 1).bind fun r71 => (laws_heldIntS F0 r71.2.1 1).bind fun r74 => br (decide (r74.1 < 0)) (some (false, ())) (br (r74.1 != r71.1.1) (some (false, ())) ((laws_toConf F0 aC).bind fun r81 => (laws_toIntS F0 aWho).bind fun r84 => (laws_toIntS F0 aOff).bind fun r86 => (impl_Cut F0 r81.1 aView r84.1 r86.1).bind fun r87 => (laws_eqIntS F0 r87.1 r30.1).bind fun r90 => br (!r90.1) (some (false, ())) ((laws_heldIntS F0 r71.2.1 1).bind fun r94 => br (decide (r94.1 < 0)) (some (false, ())) (br (r94.1 != r71.1.1) (some (false, ())) (some (true, ()))))))))))))) := by kernel_rfl
noncomputable def laws_FnExactCut_con : Any := .one ⟨[(K1, true), (.int .i64, false), (.sl 3 (.int .i64), false), (.sl 3 (.int .i64), false)], [(.bool, false)], 1, fun x => laws_FnExactCut F0 x.1 x.2.1 x.2.2.1 x.2.2.2.1⟩
theorem laws_FnExactCut_ok : AnyOk Try.prog TB 3 laws_FnExactCut_con := ok1 (show AllOk Try.prog TB laws_FnExactCut_C from ⟨spec_Cut_ok, laws_toConf_ok, laws_toIntS_ok, impl_Cut_ok, laws_eqIntS_ok, laws_markIntS_ok, laws_heldIntS_ok, trivial⟩) Try.func3 (by kernel_rfl) (by kernel_rfl) laws_FnExactCut_H (by kernel_rfl)

end
end Go.Am.Try
