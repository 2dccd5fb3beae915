/- What Go's functions compute, as plain functions, and that they do. No condition. -/
import Derived.Test.YtmmajfbohkbpjaaAmUse
import Derived.Test.YtmmajfbohkbpjaaProg
import Derived.Test.YtmmajfbohkbpjaaPShelfD
import Derived.Test.YtmmajfbohkbpjaaPShelfF
set_option linter.unusedVariables false
set_option maxRecDepth 100000
namespace Go.Am.Try
open Go.Am Go.Proofs


abbrev K1 : Ty := .pair (.int .i64) (.int .i64)
abbrev D1 := Int × Int
abbrev K2 : Ty := .pair (.sl 5 (.int .u8)) (K1)
abbrev D2 := List Int × D1
abbrev K3 : Ty := .pair (.int .i64) (K1)
abbrev D3 := Int × D1
abbrev K4 : Ty := .pair (.int .i64) (K3)
abbrev D4 := Int × D3
abbrev K5 : Ty := .sl 105 (K4)
abbrev D5 := List D4
abbrev K6 : Ty := .pair (.int .i64) (K5)
abbrev D6 := Int × D5
abbrev K7 : Ty := .sl 143 (K6)
abbrev D7 := List D6
noncomputable section
variable {α : Type} (F : Par) (κ : Ex → St → Option α) (n : Nat)
/-! ### laws.big -/
noncomputable def laws_big_C : List (Nat × Any) := []
noncomputable def laws_big_H : Nat → Option Hint := look []
noncomputable def laws_big (code : List Int) : Option (Args [(.bool, false)]) := runF Try.prog (look laws_big_C) F laws_big_H Try.f18 [(.sl 5 (.int .u8), false)] [(.bool, false)] 1 (code, ())
theorem laws_big_eq (code : List Int) : laws_big F code = some (decide ((code.length : Int) > 1048576), ()) := by kernel_rfl
noncomputable def laws_big_con : Any := .one ⟨[(.sl 5 (.int .u8), false)], [(.bool, false)], 1, fun x => laws_big F0 x.1⟩
theorem laws_big_ok : AnyOk Try.prog TB 18 laws_big_con := ok1 (show AllOk Try.prog TB laws_big_C from trivial) Try.func18 (by kernel_rfl) (by kernel_rfl) laws_big_H (by kernel_rfl)

/-! ### spec.l1New -/
noncomputable def spec_l1New_C : List (Nat × Any) := []
noncomputable def spec_l1New_H : Nat → Option Hint := look [(3, { live := [0, 3, 4], xl := [0, 3], rl := [2] })]
noncomputable def spec_l1New_1_s (code : List Int) (h : Int) (i : Int) (p : List Int) : St := { nt := 32, tm := [(0, .v (.c (.ro false 5 (.int .u8) code))), (3, .v (.c (.int .i64 h))), (4, .v (.c (.int .i64 i)))], bx := [], bl := [], sp := .v (.c (.ro false 5 (.int .u8) p)) }
noncomputable def spec_l1New_1_e0 (code : List Int) (h : Int) (p : List Int) : St := { nt := 32, tm := [(0, .v (.c (.ro false 5 (.int .u8) code))), (3, .v (.c (.int .i64 h)))], bx := [], bl := [], sp := .v (.c (.ro false 5 (.int .u8) p)) }
noncomputable def spec_l1New_1 (st : St) : Option α := lp Try.prog (look spec_l1New_C) F spec_l1New_H (sub [.r, .r, .l, .r, .b, .i] (codeOf Try.f48)) κ n st
noncomputable def spec_l1New_1_k : Ex → St → Option (Args [(K2, true)] × Args []) := cont Try.prog (look spec_l1New_C) F spec_l1New_H [.r, .r, .l, .r, .b] (codeOf Try.f48) (fin2 Try.prog Try.f48 .rd [(K2, true)] [] 5)
theorem spec_l1New_1_step (code : List Int) (h : Int) (i : Int) (p : List Int) : spec_l1New_1 F κ (n + 1) (spec_l1New_1_s code h i p) = br (decide (i < (code.length : Int))) (br (decide (i < 4000)) (ck (okI i (code.length : Int)) (spec_l1New_1 F κ n (spec_l1New_1_s code (w64 (((BitVec.ofInt 64 (w64 ((w64 ((w64 (h * 131)) + (w64 (at_ code i 0)))) + 7)) &&& BitVec.ofInt 64 1073741823).toNat : Int))) (w64 (i + 1)) p))) (κ (.exit 0) (spec_l1New_1_e0 code h p))) (κ (.exit 0) (spec_l1New_1_e0 code h p)) := by kernel_rfl
theorem spec_l1New_1_ce0 (code : List Int) (h : Int) (p : List Int) : spec_l1New_1_k F (.exit 0) (spec_l1New_1_e0 code h p) = some (((code, (0, h)), ()), ()) := by kernel_rfl
noncomputable def spec_l1New (code : List Int) : Option (Args [(K2, true)] × Args []) := runF2 Try.prog (look spec_l1New_C) F spec_l1New_H Try.f48 [(.sl 5 (.int .u8), false)] 0 .rd [(K2, true)] [] 5 (code, ())
theorem spec_l1New_eq (code : List Int) : spec_l1New F code = spec_l1New_1 F (spec_l1New_1_k F) F.n (spec_l1New_1_s code (w64 (26583 + (code.length : Int))) 0 code) := by kernel_rfl
noncomputable def spec_l1New_con : Any := .two ⟨[(.sl 5 (.int .u8), false)], 0, .rd, [(K2, true)], 5, [], fun x => spec_l1New F0 x.1⟩
theorem spec_l1New_ok : AnyOk Try.prog TB 48 spec_l1New_con := ok2 (show AllOk Try.prog TB spec_l1New_C from trivial) Try.func48 (by kernel_rfl) (by kernel_rfl) spec_l1New_H (by kernel_rfl)

/-! ### spec.l1Byte -/
noncomputable def spec_l1Byte_C : List (Nat × Any) := []
noncomputable def spec_l1Byte_H : Nat → Option Hint := look []
noncomputable def spec_l1Byte (c : D2) : Option (Args [(.int .i64, false)] × Args [(K2, true)]) := runF2 Try.prog (look spec_l1Byte_C) F spec_l1Byte_H Try.f80 [(K2, true)] 0 .box [(.int .i64, false)] [(K2, true)] 1 (c, ())
theorem spec_l1Byte_eq (c : D2) : spec_l1Byte F c = br (decide (c.2.1 < (c.1.length : Int))) (ck (okI c.2.1 (c.1.length : Int)) (some ((w64 (((BitVec.ofInt 64 (w64 ((w64 (((BitVec.ofInt 64 (w64 (((BitVec.ofInt 64 (Int.fdiv (w64 ((w64 (c.2.2 * 6364136223846793005)) + 1442695040888963407)) (2 ^ (min (33 : Int).toNat 64))) ^^^ BitVec.ofInt 64 (Int.fdiv (w64 ((w64 (c.2.2 * 6364136223846793005)) + 1442695040888963407)) (2 ^ (min (45 : Int).toNat 64)))).toNat : Int))) &&& BitVec.ofInt 64 255).toNat : Int))) + (w64 (at_ c.1 c.2.1 0)))) &&& BitVec.ofInt 64 255).toNat : Int)), ()), ((c.1, (w64 (c.2.1 + 1), w64 ((w64 (c.2.2 * 6364136223846793005)) + 1442695040888963407))), ())))) (some ((w64 (((BitVec.ofInt 64 (w64 (((BitVec.ofInt 64 (Int.fdiv (w64 ((w64 (c.2.2 * 6364136223846793005)) + 1442695040888963407)) (2 ^ (min (33 : Int).toNat 64))) ^^^ BitVec.ofInt 64 (Int.fdiv (w64 ((w64 (c.2.2 * 6364136223846793005)) + 1442695040888963407)) (2 ^ (min (45 : Int).toNat 64)))).toNat : Int))) &&& BitVec.ofInt 64 255).toNat : Int)), ()), ((c.1, (c.2.1, w64 ((w64 (c.2.2 * 6364136223846793005)) + 1442695040888963407))), ()))) := by kernel_rfl
noncomputable def spec_l1Byte_con : Any := .two ⟨[(K2, true)], 0, .box, [(.int .i64, false)], 1, [(K2, true)], fun x => spec_l1Byte F0 x.1⟩
theorem spec_l1Byte_ok : AnyOk Try.prog TB 80 spec_l1Byte_con := ok3 (show AllOk Try.prog TB spec_l1Byte_C from trivial) Try.func80 (by kernel_rfl) (by kernel_rfl) spec_l1Byte_H (by kernel_rfl) (by kernel_rfl)

/-! ### spec.l1Below -/
noncomputable def spec_l1Below_C : List (Nat × Any) := [(80, spec_l1Byte_con)]
noncomputable def spec_l1Below_H : Nat → Option Hint := look []
noncomputable def spec_l1Below (c : D2) (n1 : Int) : Option (Args [(.int .i64, false)] × Args [(K2, true)]) := runF2 Try.prog (look spec_l1Below_C) F spec_l1Below_H Try.f47 [(K2, true), (.int .i64, false)] 0 .box [(.int .i64, false)] [(K2, true)] 1 (c, n1, ())
theorem spec_l1Below_eq (c : D2) (n1 : Int) : spec_l1Below F c n1 = br (decide (n1 ≤ 0)) (some ((0, ()), (c, ()))) (br (decide (n1 ≤ 256)) ((spec_l1Byte F0 c).bind fun r14 => ck (!(n1 == 0)) (some ((Int.tmod r14.1.1 n1, ()), (r14.2.1, ())))) ((spec_l1Byte F0 c).bind fun r18 => (spec_l1Byte F0 r18.2.1).bind fun r20 => (spec_l1Byte F0 r20.2.1).bind fun r22 => (spec_l1Byte F0 r22.2.1).bind fun r24 => ck (!(n1 == 0)) (some ((Int.tmod (w64 ((w64 ((w64 ((w64 (r18.1.1 * 16777216)) + (w64 (r20.1.1 * 65536)))) + (w64 (r22.1.1 * 256)))) + r24.1.1)) n1, ()), (r24.2.1, ()))))) := by kernel_rfl
noncomputable def spec_l1Below_con : Any := .two ⟨[(K2, true), (.int .i64, false)], 0, .box, [(.int .i64, false)], 1, [(K2, true)], fun x => spec_l1Below F0 x.1 x.2.1⟩
theorem spec_l1Below_ok : AnyOk Try.prog TB 47 spec_l1Below_con := ok3 (show AllOk Try.prog TB spec_l1Below_C from ⟨spec_l1Byte_ok, trivial⟩) Try.func47 (by kernel_rfl) (by kernel_rfl) spec_l1Below_H (by kernel_rfl) (by kernel_rfl)

/-! ### spec.l7DrawConf -/
noncomputable def spec_l7DrawConf_C : List (Nat × Any) := [(47, spec_l1Below_con)]
noncomputable def spec_l7DrawConf_H : Nat → Option Hint := look []
noncomputable def spec_l7DrawConf (c : D2) : Option (Args [(K1, true)] × Args [(K2, true)]) := runF2 Try.prog (look spec_l7DrawConf_C) F spec_l7DrawConf_H Try.f92 [(K2, true)] 0 .box [(K1, true)] [(K2, true)] 1 (c, ())
theorem spec_l7DrawConf_eq (c : D2) : spec_l7DrawConf F c = (spec_l1Below F0 c 4).bind fun r4 => (spec_l1Below F0 r4.2.1 3).bind fun r7 => some (((w64 (4 + r4.1.1), w64 (1 + r7.1.1)), ()), (r7.2.1, ())) := by kernel_rfl
noncomputable def spec_l7DrawConf_con : Any := .two ⟨[(K2, true)], 0, .box, [(K1, true)], 1, [(K2, true)], fun x => spec_l7DrawConf F0 x.1⟩
theorem spec_l7DrawConf_ok : AnyOk Try.prog TB 92 spec_l7DrawConf_con := ok3 (show AllOk Try.prog TB spec_l7DrawConf_C from ⟨spec_l1Below_ok, trivial⟩) Try.func92 (by kernel_rfl) (by kernel_rfl) spec_l7DrawConf_H (by kernel_rfl) (by kernel_rfl)

/-! ### spec.l1PickInt -/
noncomputable def spec_l1PickInt_C : List (Nat × Any) := [(47, spec_l1Below_con)]
noncomputable def spec_l1PickInt_H : Nat → Option Hint := look []
noncomputable def spec_l1PickInt (c : D2) (list : List Int) : Option (Args [(.int .i64, false)] × Args [(K2, true)]) := runF2 Try.prog (look spec_l1PickInt_C) F spec_l1PickInt_H Try.f78 [(K2, true), (.sl 3 (.int .i64), false)] 0 .box [(.int .i64, false)] [(K2, true)] 1 (c, list, ())
theorem spec_l1PickInt_eq (c : D2) (list : List Int) : spec_l1PickInt F c list = (spec_l1Below F0 c (list.length : Int)).bind fun r9 => ck (okI r9.1.1 (list.length : Int)) (some ((at_ list r9.1.1 0, ()), (r9.2.1, ()))) := by kernel_rfl
noncomputable def spec_l1PickInt_con : Any := .two ⟨[(K2, true), (.sl 3 (.int .i64), false)], 0, .box, [(.int .i64, false)], 1, [(K2, true)], fun x => spec_l1PickInt F0 x.1 x.2.1⟩
theorem spec_l1PickInt_ok : AnyOk Try.prog TB 78 spec_l1PickInt_con := ok3 (show AllOk Try.prog TB spec_l1PickInt_C from ⟨spec_l1Below_ok, trivial⟩) Try.func78 (by kernel_rfl) (by kernel_rfl) spec_l1PickInt_H (by kernel_rfl) (by kernel_rfl)

/-! ### spec.l7DrawBent -/
noncomputable def spec_l7DrawBent_C : List (Nat × Any) := [(47, spec_l1Below_con), (78, spec_l1PickInt_con), (92, spec_l7DrawConf_con)]
noncomputable def spec_l7DrawBent_H : Nat → Option Hint := look []
noncomputable def spec_l7DrawBent (c : D2) : Option (Args [(K1, true)] × Args [(K2, true)]) := runF2 Try.prog (look spec_l7DrawBent_C) F spec_l7DrawBent_H Try.f74 [(K2, true)] 0 .box [(K1, true)] [(K2, true)] 1 (c, ())
theorem spec_l7DrawBent_eq (c : D2) : spec_l7DrawBent F c = (spec_l7DrawConf F0 c).bind fun r5 => (spec_l1Below F0 r5.2.1 12).bind fun r7 => br (r7.1.1 == 0) ((spec_l1PickInt F0 r7.2.1 [0, 3, 8, (-1)]).bind fun r12 => some (((r12.1.1, r5.1.1.2), ()), (r12.2.1, ()))) (br (r7.1.1 == 1) ((spec_l1PickInt F0 r7.2.1 [0, 6, 7]).bind fun r18 => some (((r5.1.1.1, r18.1.1), ()), (r18.2.1, ()))) (some ((r5.1.1, ()), (r7.2.1, ())))) := by kernel_rfl
noncomputable def spec_l7DrawBent_con : Any := .two ⟨[(K2, true)], 0, .box, [(K1, true)], 1, [(K2, true)], fun x => spec_l7DrawBent F0 x.1⟩
theorem spec_l7DrawBent_ok : AnyOk Try.prog TB 74 spec_l7DrawBent_con := ok3 (show AllOk Try.prog TB spec_l7DrawBent_C from ⟨spec_l1Below_ok, spec_l1PickInt_ok, spec_l7DrawConf_ok, trivial⟩) Try.func74 (by kernel_rfl) (by kernel_rfl) spec_l7DrawBent_H (by kernel_rfl) (by kernel_rfl)

/-! ### spec.l2DrawRight -/
noncomputable def spec_l2DrawRight_C : List (Nat × Any) := [(47, spec_l1Below_con), (78, spec_l1PickInt_con)]
noncomputable def spec_l2DrawRight_H : Nat → Option Hint := look []
noncomputable def spec_l2DrawRight (c : D2) : Option (Args [(K4, true)] × Args [(K2, true)]) := runF2 Try.prog (look spec_l2DrawRight_C) F spec_l2DrawRight_H Try.f93 [(K2, true)] 0 .box [(K4, true)] [(K2, true)] 1 (c, ())
theorem spec_l2DrawRight_eq (c : D2) : spec_l2DrawRight F c = (spec_l1Below F0 c 4).bind fun r4 => (spec_l1Below F0 r4.2.1 4).bind fun r6 => (spec_l1PickInt F0 r6.2.1 [0, 5, 60, 100, 1000]).bind fun r9 => (spec_l1Below F0 r9.2.1 3).bind fun r11 => some (((r4.1.1, (r6.1.1, (r9.1.1, r11.1.1))), ()), (r11.2.1, ())) := by kernel_rfl
noncomputable def spec_l2DrawRight_con : Any := .two ⟨[(K2, true)], 0, .box, [(K4, true)], 1, [(K2, true)], fun x => spec_l2DrawRight F0 x.1⟩
theorem spec_l2DrawRight_ok : AnyOk Try.prog TB 93 spec_l2DrawRight_con := ok3 (show AllOk Try.prog TB spec_l2DrawRight_C from ⟨spec_l1Below_ok, spec_l1PickInt_ok, trivial⟩) Try.func93 (by kernel_rfl) (by kernel_rfl) spec_l2DrawRight_H (by kernel_rfl) (by kernel_rfl)

/-! ### spec.l1In -/
noncomputable def spec_l1In_C : List (Nat × Any) := []
noncomputable def spec_l1In_H : Nat → Option Hint := look []
noncomputable def spec_l1In (x : Int) (lo : Int) (hi : Int) : Option (Args [(.bool, false)]) := runF Try.prog (look spec_l1In_C) F spec_l1In_H Try.f50 [(.int .i64, false), (.int .i64, false), (.int .i64, false)] [(.bool, false)] 1 (x, lo, hi, ())
theorem spec_l1In_eq (x : Int) (lo : Int) (hi : Int) : spec_l1In F x lo hi = br (decide (x ≥ lo)) (some (decide (x ≤ hi), ())) (some (false, ())) := by kernel_rfl
noncomputable def spec_l1In_con : Any := .one ⟨[(.int .i64, false), (.int .i64, false), (.int .i64, false)], [(.bool, false)], 1, fun x => spec_l1In F0 x.1 x.2.1 x.2.2.1⟩
theorem spec_l1In_ok : AnyOk Try.prog TB 50 spec_l1In_con := ok1 (show AllOk Try.prog TB spec_l1In_C from trivial) Try.func50 (by kernel_rfl) (by kernel_rfl) spec_l1In_H (by kernel_rfl)

/-! ### spec.TxOk -/
noncomputable def spec_TxOk_C : List (Nat × Any) := [(50, spec_l1In_con)]
noncomputable def spec_TxOk_H : Nat → Option Hint := look []
noncomputable def spec_TxOk (x : D4) : Option (Args [(.bool, false)]) := runF Try.prog (look spec_TxOk_C) F spec_TxOk_H Try.f102 [(K4, true)] [(.bool, false)] 1 (x, ())
theorem spec_TxOk_eq (x : D4) : spec_TxOk F x = (spec_l1In F0 x.1 0 3).bind fun r5 => br r5.1 ((spec_l1In F0 x.2.1 0 3).bind fun r9 => br r9.1 ((spec_l1In F0 x.2.2.1 0 1000).bind fun r14 => br r14.1 ((spec_l1In F0 x.2.2.2 0 99).bind fun r19 => some (r19.1, ())) (some (false, ()))) (some (false, ()))) (some (false, ())) := by kernel_rfl
noncomputable def spec_TxOk_con : Any := .one ⟨[(K4, true)], [(.bool, false)], 1, fun x => spec_TxOk F0 x.1⟩
theorem spec_TxOk_ok : AnyOk Try.prog TB 102 spec_TxOk_con := ok1 (show AllOk Try.prog TB spec_TxOk_C from ⟨spec_l1In_ok, trivial⟩) Try.func102 (by kernel_rfl) (by kernel_rfl) spec_TxOk_H (by kernel_rfl)

/-! ### spec.Digits -/
noncomputable def spec_Digits_C : List (Nat × Any) := []
noncomputable def spec_Digits_H : Nat → Option Hint := look [(5, { live := [0, 3, 4], xl := [3, 4], rl := [2] })]
noncomputable def spec_Digits_1_s (n1 : Int) (below : Bool) (out : ByteArray) : St := { nt := 31, tm := [(0, .v (.c (.int .i64 n1))), (3, .v (.c (.bool below))), (4, .v (.c (.str out)))], bx := [], bl := [] }
noncomputable def spec_Digits_1_e0 (below : Bool) (out : ByteArray) : St := { nt := 31, tm := [(3, .v (.c (.bool below))), (4, .v (.c (.str out)))], bx := [], bl := [] }
noncomputable def spec_Digits_1 (st : St) : Option α := lp Try.prog (look spec_Digits_C) F spec_Digits_H (sub [.r, .r, .r, .r, .l, .b, .i] (codeOf Try.f103)) κ n st
noncomputable def spec_Digits_1_k : Ex → St → Option (Args [(.str, false)]) := cont Try.prog (look spec_Digits_C) F spec_Digits_H [.r, .r, .r, .r, .l, .b] (codeOf Try.f103) (fin Try.prog Try.f103 [(.str, false)] 1)
theorem spec_Digits_1_step (n1 : Int) (below : Bool) (out : ByteArray) : spec_Digits_1 F κ (n + 1) (spec_Digits_1_s n1 below out) = br (n1 != 0) (br (decide ((Int.tmod n1 10) < 0)) (ck (okC F (strOf [IntKind.wrap .u8 (w64 (48 + (w64 (0 - (Int.tmod n1 10)))))]).size out.size) (spec_Digits_1 F κ n (spec_Digits_1_s (w64 (Int.tdiv n1 10)) below ((strOf [IntKind.wrap .u8 (w64 (48 + (w64 (0 - (Int.tmod n1 10)))))]) ++ out)))) (ck (okC F (strOf [IntKind.wrap .u8 (w64 (48 + (Int.tmod n1 10)))]).size out.size) (spec_Digits_1 F κ n (spec_Digits_1_s (w64 (Int.tdiv n1 10)) below ((strOf [IntKind.wrap .u8 (w64 (48 + (Int.tmod n1 10)))]) ++ out))))) (κ (.exit 0) (spec_Digits_1_e0 below out)) := by kernel_rfl
theorem spec_Digits_1_ce0 (below : Bool) (out : ByteArray) : spec_Digits_1_k F (.exit 0) (spec_Digits_1_e0 below out) = br below (ck (okC F (ByteArray.mk #[45]).size out.size) (some ((ByteArray.mk #[45]) ++ out, ()))) (some (out, ())) := by kernel_rfl
noncomputable def spec_Digits (n1 : Int) : Option (Args [(.str, false)]) := runF Try.prog (look spec_Digits_C) F spec_Digits_H Try.f103 [(.int .i64, false)] [(.str, false)] 1 (n1, ())
theorem spec_Digits_eq (n1 : Int) : spec_Digits F n1 = br (n1 == 0) (some ((ByteArray.mk #[48]), ())) (spec_Digits_1 F (spec_Digits_1_k F) F.n (spec_Digits_1_s n1 (decide (n1 < 0)) (ByteArray.mk #[]))) := by kernel_rfl
noncomputable def spec_Digits_con : Any := .one ⟨[(.int .i64, false)], [(.str, false)], 1, fun x => spec_Digits F0 x.1⟩
theorem spec_Digits_ok : AnyOk Try.prog TB 103 spec_Digits_con := ok1 (show AllOk Try.prog TB spec_Digits_C from trivial) Try.func103 (by kernel_rfl) (by kernel_rfl) spec_Digits_H (by kernel_rfl)

/-! ### spec.TxText -/
noncomputable def spec_TxText_C : List (Nat × Any) := [(102, spec_TxOk_con), (103, spec_Digits_con)]
noncomputable def spec_TxText_H : Nat → Option Hint := look []
noncomputable def spec_TxText (x : D4) : Option (Args [(.str, false)]) := runF Try.prog (look spec_TxText_C) F spec_TxText_H Try.f111 [(K4, true)] [(.str, false)] 1 (x, ())
theorem spec_TxText_eq (x : D4) : spec_TxText F x = (spec_TxOk F0 x).bind fun r4 => br (!r4.1) (some ((ByteArray.mk #[]), ())) ((spec_Digits F0 x.1).bind fun r8 => ck (okC F r8.1.size (ByteArray.mk #[62]).size) ((spec_Digits F0 x.2.1).bind fun r12 => ck (okC F (r8.1 ++ (ByteArray.mk #[62])).size r12.1.size) (ck (okC F ((r8.1 ++ (ByteArray.mk #[62])) ++ r12.1).size (ByteArray.mk #[58]).size) ((spec_Digits F0 x.2.2.1).bind fun r17 => ck (okC F (((r8.1 ++ (ByteArray.mk #[62])) ++ r12.1) ++ (ByteArray.mk #[58])).size r17.1.size) (ck (okC F ((((r8.1 ++ (ByteArray.mk #[62])) ++ r12.1) ++ (ByteArray.mk #[58])) ++ r17.1).size (ByteArray.mk #[35]).size) ((spec_Digits F0 x.2.2.2).bind fun r22 => ck (okC F (((((r8.1 ++ (ByteArray.mk #[62])) ++ r12.1) ++ (ByteArray.mk #[58])) ++ r17.1) ++ (ByteArray.mk #[35])).size r22.1.size) (some ((((((r8.1 ++ (ByteArray.mk #[62])) ++ r12.1) ++ (ByteArray.mk #[58])) ++ r17.1) ++ (ByteArray.mk #[35])) ++ r22.1, ())))))))) := by kernel_rfl
noncomputable def spec_TxText_con : Any := .one ⟨[(K4, true)], [(.str, false)], 1, fun x => spec_TxText F0 x.1⟩
theorem spec_TxText_ok : AnyOk Try.prog TB 111 spec_TxText_con := ok1 (show AllOk Try.prog TB spec_TxText_C from ⟨spec_TxOk_ok, spec_Digits_ok, trivial⟩) Try.func111 (by kernel_rfl) (by kernel_rfl) spec_TxText_H (by kernel_rfl)

/-! ### spec.TxsText -/
noncomputable def spec_TxsText_C : List (Nat × Any) := [(102, spec_TxOk_con), (111, spec_TxText_con)]
noncomputable def spec_TxsText_H : Nat → Option Hint := look [(3, { live := [0, 3, 4], xl := [3], rl := [2] })]
noncomputable def spec_TxsText_1_s (list : List D4) (out : ByteArray) (i : Int) : St := { nt := 29, tm := [(0, .v (.c (.ro false 105 (K4) list))), (3, .v (.c (.str out))), (4, .v (.c (.int .i64 i)))], bx := [], bl := [] }
noncomputable def spec_TxsText_1_r (t2 : ByteArray) : St := { nt := 29, tm := [(2, .v (.c (.str t2)))], bx := [], bl := [] }
noncomputable def spec_TxsText_1_e0 (out : ByteArray) : St := { nt := 29, tm := [(3, .v (.c (.str out)))], bx := [], bl := [] }
noncomputable def spec_TxsText_1 (st : St) : Option α := lp Try.prog (look spec_TxsText_C) F spec_TxsText_H (sub [.r, .r, .l, .r, .b, .i] (codeOf Try.f104)) κ n st
noncomputable def spec_TxsText_1_k : Ex → St → Option (Args [(.str, false)]) := cont Try.prog (look spec_TxsText_C) F spec_TxsText_H [.r, .r, .l, .r, .b] (codeOf Try.f104) (fin Try.prog Try.f104 [(.str, false)] 1)
theorem spec_TxsText_1_step (list : List D4) (out : ByteArray) (i : Int) : spec_TxsText_1 F κ (n + 1) (spec_TxsText_1_s list out i) = br (decide (i < (list.length : Int))) (ck (okI i (list.length : Int)) ((spec_TxOk F0 (at_ list i K4.dflt)).bind fun r15 => br (!r15.1) (κ .ret (spec_TxsText_1_r (ByteArray.mk #[]))) (br (decide (i > 0)) (ck (okC F out.size (ByteArray.mk #[44]).size) (ck (okI i (list.length : Int)) ((spec_TxText F0 (at_ list i K4.dflt)).bind fun r26 => ck (okC F (out ++ (ByteArray.mk #[44])).size r26.1.size) (spec_TxsText_1 F κ n (spec_TxsText_1_s list ((out ++ (ByteArray.mk #[44])) ++ r26.1) (w64 (i + 1))))))) (ck (okI i (list.length : Int)) ((spec_TxText F0 (at_ list i K4.dflt)).bind fun r26 => ck (okC F out.size r26.1.size) (spec_TxsText_1 F κ n (spec_TxsText_1_s list (out ++ r26.1) (w64 (i + 1))))))))) (κ (.exit 0) (spec_TxsText_1_e0 out)) := by kernel_rfl
theorem spec_TxsText_1_cr (t2 : ByteArray) : spec_TxsText_1_k F .ret (spec_TxsText_1_r t2) = some (t2, ()) := by kernel_rfl
theorem spec_TxsText_1_ce0 (out : ByteArray) : spec_TxsText_1_k F (.exit 0) (spec_TxsText_1_e0 out) = some (out, ()) := by kernel_rfl
noncomputable def spec_TxsText (list : D5) : Option (Args [(.str, false)]) := runF Try.prog (look spec_TxsText_C) F spec_TxsText_H Try.f104 [(K5, false)] [(.str, false)] 1 (list, ())
theorem spec_TxsText_eq (list : D5) : spec_TxsText F list = spec_TxsText_1 F (spec_TxsText_1_k F) F.n (spec_TxsText_1_s list (ByteArray.mk #[]) 0) := by kernel_rfl
noncomputable def spec_TxsText_con : Any := .one ⟨[(K5, false)], [(.str, false)], 1, fun x => spec_TxsText F0 x.1⟩
theorem spec_TxsText_ok : AnyOk Try.prog TB 104 spec_TxsText_con := ok1 (show AllOk Try.prog TB spec_TxsText_C from ⟨spec_TxOk_ok, spec_TxText_ok, trivial⟩) Try.func104 (by kernel_rfl) (by kernel_rfl) spec_TxsText_H (by kernel_rfl)

/-! ### spec.Split -/
noncomputable def spec_Split_C : List (Nat × Any) := []
noncomputable def spec_Split_H : Nat → Option Hint := look [(4, { live := [0, 1, 5, 6, 7], xl := [5], rl := [4] })]
noncomputable def spec_Split_1_s (s : ByteArray) (by1 : Int) (from1 : Int) (i : Int) (xs : List ByteArray) : St := { nt := 36, tm := [(0, .v (.c (.str s))), (1, .v (.c (.int .u8 by1))), (5, .v (.c (.own 1000000 none))), (6, .v (.c (.int .i64 from1))), (7, .v (.c (.int .i64 i)))], bx := [], bl := [(1000000, some ⟨9, .str, xs, true, true⟩)] }
noncomputable def spec_Split_1_e0 (xs : List ByteArray) : St := { nt := 36, tm := [(5, .v (.c (.own 1000000 none)))], bx := [], bl := [(1000000, some ⟨9, .str, xs, true, true⟩)] }
noncomputable def spec_Split_1 (st : St) : Option α := lp Try.prog (look spec_Split_C) F spec_Split_H (sub [.r, .r, .r, .l, .r, .b, .i] (codeOf Try.f106)) κ n st
noncomputable def spec_Split_1_k : Ex → St → Option (Args [(.sl 9 (.str), false)]) := cont Try.prog (look spec_Split_C) F spec_Split_H [.r, .r, .r, .l, .r, .b] (codeOf Try.f106) (fin Try.prog Try.f106 [(.sl 9 (.str), false)] 2)
theorem spec_Split_1_step (s : ByteArray) (by1 : Int) (from1 : Int) (i : Int) (xs : List ByteArray) : spec_Split_1 F κ (n + 1) (spec_Split_1_s s by1 from1 i xs) = br (decide (i ≤ (s.size : Int))) (br (i == (s.size : Int)) (ck (okS from1 i (s.size : Int)) (ck (okA F xs.length [s.extract from1.toNat i.toNat].length 16) (spec_Split_1 F κ n (spec_Split_1_s s by1 (w64 (i + 1)) (w64 (i + 1)) (xs ++ [s.extract from1.toNat i.toNat]))))) (ck (okI i (s.size : Int)) (br ((byteAt s i) == by1) (ck (okS from1 i (s.size : Int)) (ck (okA F xs.length [s.extract from1.toNat i.toNat].length 16) (spec_Split_1 F κ n (spec_Split_1_s s by1 (w64 (i + 1)) (w64 (i + 1)) (xs ++ [s.extract from1.toNat i.toNat]))))) (spec_Split_1 F κ n (spec_Split_1_s s by1 from1 (w64 (i + 1)) xs))))) (κ (.exit 0) (spec_Split_1_e0 xs)) := by kernel_rfl
theorem spec_Split_1_ce0 (xs : List ByteArray) : spec_Split_1_k F (.exit 0) (spec_Split_1_e0 xs) = some (xs, ()) := by kernel_rfl
noncomputable def spec_Split (s : ByteArray) (by1 : Int) : Option (Args [(.sl 9 (.str), false)]) := runF Try.prog (look spec_Split_C) F spec_Split_H Try.f106 [(.str, false), (.int .u8, false)] [(.sl 9 (.str), false)] 2 (s, by1, ())
theorem spec_Split_eq (s : ByteArray) (by1 : Int) : spec_Split F s by1 = spec_Split_1 F (spec_Split_1_k F) F.n (spec_Split_1_s s by1 0 0 []) := by kernel_rfl
noncomputable def spec_Split_con : Any := .one ⟨[(.str, false), (.int .u8, false)], [(.sl 9 (.str), false)], 2, fun x => spec_Split F0 x.1 x.2.1⟩
theorem spec_Split_ok : AnyOk Try.prog TB 106 spec_Split_con := ok1 (show AllOk Try.prog TB spec_Split_C from trivial) Try.func106 (by kernel_rfl) (by kernel_rfl) spec_Split_H (by kernel_rfl)

/-! ### spec.l2Cut -/
noncomputable def spec_l2Cut_C : List (Nat × Any) := []
noncomputable def spec_l2Cut_H : Nat → Option Hint := look [(2, { live := [0, 1, 7], rl := [4, 5, 6] })]
noncomputable def spec_l2Cut_1_s (s : ByteArray) (by1 : Int) (i : Int) : St := { nt := 26, tm := [(0, .v (.c (.str s))), (1, .v (.c (.int .u8 by1))), (7, .v (.c (.int .i64 i)))], bx := [], bl := [] }
noncomputable def spec_l2Cut_1_r (t4 : ByteArray) (t5 : ByteArray) (t6 : Bool) : St := { nt := 26, tm := [(4, .v (.c (.str t4))), (5, .v (.c (.str t5))), (6, .v (.c (.bool t6)))], bx := [], bl := [] }
noncomputable def spec_l2Cut_1_e0  : St := { nt := 26, tm := [], bx := [], bl := [] }
noncomputable def spec_l2Cut_1 (st : St) : Option α := lp Try.prog (look spec_l2Cut_C) F spec_l2Cut_H (sub [.r, .l, .r, .b, .i] (codeOf Try.f107)) κ n st
noncomputable def spec_l2Cut_1_k : Ex → St → Option (Args [(.str, false), (.str, false), (.bool, false)]) := cont Try.prog (look spec_l2Cut_C) F spec_l2Cut_H [.r, .l, .r, .b] (codeOf Try.f107) (fin Try.prog Try.f107 [(.str, false), (.str, false), (.bool, false)] 1)
theorem spec_l2Cut_1_step (s : ByteArray) (by1 : Int) (i : Int) : spec_l2Cut_1 F κ (n + 1) (spec_l2Cut_1_s s by1 i) = br (decide (i < (s.size : Int))) (ck (okI i (s.size : Int)) (br ((byteAt s i) == by1) (ck (okS 0 i (s.size : Int)) (ck (okS (w64 (i + 1)) (s.size : Int) (s.size : Int)) (κ .ret (spec_l2Cut_1_r (s.extract (0 : Int).toNat i.toNat) (s.extract (w64 (i + 1)).toNat (s.size : Int).toNat) true)))) (spec_l2Cut_1 F κ n (spec_l2Cut_1_s s by1 (w64 (i + 1)))))) (κ (.exit 0) (spec_l2Cut_1_e0 )) := by kernel_rfl
theorem spec_l2Cut_1_cr (t4 : ByteArray) (t5 : ByteArray) (t6 : Bool) : spec_l2Cut_1_k F .ret (spec_l2Cut_1_r t4 t5 t6) = some (t4, t5, t6, ()) := by kernel_rfl
theorem spec_l2Cut_1_ce0  : spec_l2Cut_1_k F (.exit 0) (spec_l2Cut_1_e0 ) = some ((ByteArray.mk #[]), (ByteArray.mk #[]), false, ()) := by kernel_rfl
noncomputable def spec_l2Cut (s : ByteArray) (by1 : Int) : Option (Args [(.str, false), (.str, false), (.bool, false)]) := runF Try.prog (look spec_l2Cut_C) F spec_l2Cut_H Try.f107 [(.str, false), (.int .u8, false)] [(.str, false), (.str, false), (.bool, false)] 1 (s, by1, ())
theorem spec_l2Cut_eq (s : ByteArray) (by1 : Int) : spec_l2Cut F s by1 = spec_l2Cut_1 F (spec_l2Cut_1_k F) F.n (spec_l2Cut_1_s s by1 0) := by kernel_rfl
noncomputable def spec_l2Cut_con : Any := .one ⟨[(.str, false), (.int .u8, false)], [(.str, false), (.str, false), (.bool, false)], 1, fun x => spec_l2Cut F0 x.1 x.2.1⟩
theorem spec_l2Cut_ok : AnyOk Try.prog TB 107 spec_l2Cut_con := ok1 (show AllOk Try.prog TB spec_l2Cut_C from trivial) Try.func107 (by kernel_rfl) (by kernel_rfl) spec_l2Cut_H (by kernel_rfl)

/-! ### spec.Number -/
noncomputable def spec_Number_C : List (Nat × Any) := [(103, spec_Digits_con)]
noncomputable def spec_Number_H : Nat → Option Hint := look [(5, { live := [0, 4, 5], xl := [0, 4], rl := [2, 3] })]
noncomputable def spec_Number_1_s (s : ByteArray) (n1 : Int) (i : Int) : St := { nt := 43, tm := [(0, .v (.c (.str s))), (4, .v (.c (.int .i64 n1))), (5, .v (.c (.int .i64 i)))], bx := [], bl := [] }
noncomputable def spec_Number_1_r (t2 : Int) (t3 : Bool) : St := { nt := 43, tm := [(2, .v (.c (.int .i64 t2))), (3, .v (.c (.bool t3)))], bx := [], bl := [] }
noncomputable def spec_Number_1_e0 (s : ByteArray) (n1 : Int) : St := { nt := 43, tm := [(0, .v (.c (.str s))), (4, .v (.c (.int .i64 n1)))], bx := [], bl := [] }
noncomputable def spec_Number_1 (st : St) : Option α := lp Try.prog (look spec_Number_C) F spec_Number_H (sub [.r, .r, .r, .l, .r, .b, .i] (codeOf Try.f108)) κ n st
noncomputable def spec_Number_1_k : Ex → St → Option (Args [(.int .i64, false), (.bool, false)]) := cont Try.prog (look spec_Number_C) F spec_Number_H [.r, .r, .r, .l, .r, .b] (codeOf Try.f108) (fin Try.prog Try.f108 [(.int .i64, false), (.bool, false)] 1)
theorem spec_Number_1_step (s : ByteArray) (n1 : Int) (i : Int) : spec_Number_1 F κ (n + 1) (spec_Number_1_s s n1 i) = br (decide (i < (s.size : Int))) (ck (okI i (s.size : Int)) (br (decide ((byteAt s i) < 48)) (κ .ret (spec_Number_1_r 0 false)) (ck (okI i (s.size : Int)) (br (decide ((byteAt s i) > 57)) (κ .ret (spec_Number_1_r 0 false)) (ck (okI i (s.size : Int)) (spec_Number_1 F κ n (spec_Number_1_s s (w64 ((w64 ((w64 (10 * n1)) + (w64 (byteAt s i)))) - 48)) (w64 (i + 1))))))))) (κ (.exit 0) (spec_Number_1_e0 s n1)) := by kernel_rfl
theorem spec_Number_1_cr (t2 : Int) (t3 : Bool) : spec_Number_1_k F .ret (spec_Number_1_r t2 t3) = some (t2, t3, ()) := by kernel_rfl
theorem spec_Number_1_ce0 (s : ByteArray) (n1 : Int) : spec_Number_1_k F (.exit 0) (spec_Number_1_e0 s n1) = (spec_Digits F0 n1).bind fun r39 => br (!(r39.1.toList == s.toList)) (some (0, false, ())) (some (n1, true, ())) := by kernel_rfl
noncomputable def spec_Number (s : ByteArray) : Option (Args [(.int .i64, false), (.bool, false)]) := runF Try.prog (look spec_Number_C) F spec_Number_H Try.f108 [(.str, false)] [(.int .i64, false), (.bool, false)] 1 (s, ())
theorem spec_Number_eq (s : ByteArray) : spec_Number F s = br (decide ((s.size : Int) < 1)) (some (0, false, ())) (br (decide ((s.size : Int) > 6)) (some (0, false, ())) (spec_Number_1 F (spec_Number_1_k F) F.n (spec_Number_1_s s 0 0))) := by kernel_rfl
noncomputable def spec_Number_con : Any := .one ⟨[(.str, false)], [(.int .i64, false), (.bool, false)], 1, fun x => spec_Number F0 x.1⟩
theorem spec_Number_ok : AnyOk Try.prog TB 108 spec_Number_con := ok1 (show AllOk Try.prog TB spec_Number_C from ⟨spec_Digits_ok, trivial⟩) Try.func108 (by kernel_rfl) (by kernel_rfl) spec_Number_H (by kernel_rfl)

/-! ### spec.TxOf -/
noncomputable def spec_TxOf_C : List (Nat × Any) := [(107, spec_l2Cut_con), (108, spec_Number_con), (111, spec_TxText_con)]
noncomputable def spec_TxOf_H : Nat → Option Hint := look []
noncomputable def spec_TxOf (s : ByteArray) : Option (Args [(K4, true), (.bool, false)]) := runF Try.prog (look spec_TxOf_C) F spec_TxOf_H Try.f112 [(.str, false)] [(K4, true), (.bool, false)] 1 (s, ())
theorem spec_TxOf_eq (s : ByteArray) : spec_TxOf F s = (spec_l2Cut F0 s 62).bind fun r16 => (spec_l2Cut F0 r16.2.1 58).bind fun r22 => (spec_l2Cut F0 r22.2.1 35).bind fun r28 => (spec_Number F0 r16.1).bind fun r35 => (spec_Number F0 r22.1).bind fun r41 => (spec_Number F0 r28.1).bind fun r47 => (spec_Number F0 r28.2.1).bind fun r53 => br (s.toList == (ByteArray.mk #[]).toList) (some ((0, (0, (0, 0))), false, ())) ((spec_TxText F0 (r35.1, (r41.1, (r47.1, r53.1)))).bind fun r61 => br (!(r61.1.toList == s.toList)) (some ((0, (0, (0, 0))), false, ())) (some ((r35.1, (r41.1, (r47.1, r53.1))), true, ()))) := by kernel_rfl
noncomputable def spec_TxOf_con : Any := .one ⟨[(.str, false)], [(K4, true), (.bool, false)], 1, fun x => spec_TxOf F0 x.1⟩
theorem spec_TxOf_ok : AnyOk Try.prog TB 112 spec_TxOf_con := ok1 (show AllOk Try.prog TB spec_TxOf_C from ⟨spec_l2Cut_ok, spec_Number_ok, spec_TxText_ok, trivial⟩) Try.func112 (by kernel_rfl) (by kernel_rfl) spec_TxOf_H (by kernel_rfl)

/-! ### spec.TxsOf -/
noncomputable def spec_TxsOf_C : List (Nat × Any) := [(106, spec_Split_con), (112, spec_TxOf_con)]
noncomputable def spec_TxsOf_H : Nat → Option Hint := look [(6, { live := [4, 5, 6], xl := [4], rl := [2, 3] })]
noncomputable def spec_TxsOf_1_s (i : Int) (xs : List D4) (xs1 : List ByteArray) : St := { nt := 37, tm := [(4, .v (.c (.own 1000000 none))), (5, .v (.c (.own 1000001 none))), (6, .v (.c (.int .i64 i)))], bx := [], bl := [(1000000, some ⟨105, K4, xs, true, true⟩), (1000001, some ⟨9, .str, xs1, true, true⟩)] }
noncomputable def spec_TxsOf_1_r (t3 : Bool) (xs : List D4) : St := { nt := 37, tm := [(2, .v (.c (.own 1000000 none))), (3, .v (.c (.bool t3)))], bx := [], bl := [(1000000, some ⟨105, K4, xs, true, true⟩)] }
noncomputable def spec_TxsOf_1_e0 (xs : List D4) : St := { nt := 37, tm := [(4, .v (.c (.own 1000000 none)))], bx := [], bl := [(1000000, some ⟨105, K4, xs, true, true⟩)] }
noncomputable def spec_TxsOf_1 (st : St) : Option α := lp Try.prog (look spec_TxsOf_C) F spec_TxsOf_H (sub [.r, .r, .r, .r, .l, .r, .b, .i] (codeOf Try.f109)) κ n st
noncomputable def spec_TxsOf_1_k : Ex → St → Option (Args [(K5, false), (.bool, false)]) := cont Try.prog (look spec_TxsOf_C) F spec_TxsOf_H [.r, .r, .r, .r, .l, .r, .b] (codeOf Try.f109) (fin Try.prog Try.f109 [(K5, false), (.bool, false)] 2)
theorem spec_TxsOf_1_step (i : Int) (xs : List D4) (xs1 : List ByteArray) : spec_TxsOf_1 F κ (n + 1) (spec_TxsOf_1_s i xs xs1) = br (decide (i < (xs1.length : Int))) (ck (okI i (xs1.length : Int)) ((spec_TxOf F0 (at_ xs1 i ByteArray.empty)).bind fun r26 => br (!r26.2.1) (κ .ret (spec_TxsOf_1_r false [])) (ck (okA F xs.length [r26.1].length 32) (spec_TxsOf_1 F κ n (spec_TxsOf_1_s (w64 (i + 1)) (xs ++ [r26.1]) xs1))))) (κ (.exit 0) (spec_TxsOf_1_e0 xs)) := by kernel_rfl
theorem spec_TxsOf_1_cr (t3 : Bool) (xs : List D4) : spec_TxsOf_1_k F .ret (spec_TxsOf_1_r t3 xs) = some (xs, t3, ()) := by kernel_rfl
theorem spec_TxsOf_1_ce0 (xs : List D4) : spec_TxsOf_1_k F (.exit 0) (spec_TxsOf_1_e0 xs) = some (xs, true, ()) := by kernel_rfl
noncomputable def spec_TxsOf (s : ByteArray) : Option (Args [(K5, false), (.bool, false)]) := runF Try.prog (look spec_TxsOf_C) F spec_TxsOf_H Try.f109 [(.str, false)] [(K5, false), (.bool, false)] 2 (s, ())
theorem spec_TxsOf_eq (s : ByteArray) : spec_TxsOf F s = br (s.toList == (ByteArray.mk #[]).toList) (some ([], true, ())) ((spec_Split F0 s 44).bind fun r14 => spec_TxsOf_1 F (spec_TxsOf_1_k F) F.n (spec_TxsOf_1_s 0 [] r14.1)) := by kernel_rfl
noncomputable def spec_TxsOf_con : Any := .one ⟨[(.str, false)], [(K5, false), (.bool, false)], 2, fun x => spec_TxsOf F0 x.1⟩
theorem spec_TxsOf_ok : AnyOk Try.prog TB 109 spec_TxsOf_con := ok1 (show AllOk Try.prog TB spec_TxsOf_C from ⟨spec_Split_ok, spec_TxOf_ok, trivial⟩) Try.func109 (by kernel_rfl) (by kernel_rfl) spec_TxsOf_H (by kernel_rfl)

/-! ### spec.Steps -/
noncomputable def spec_Steps_C : List (Nat × Any) := [(106, spec_Split_con), (107, spec_l2Cut_con), (108, spec_Number_con), (109, spec_TxsOf_con)]
noncomputable def spec_Steps_H : Nat → Option Hint := look [(10, { live := [4, 5, 6, 7, 8], xl := [5], rl := [2, 3] })]
noncomputable def spec_Steps_1_s (last : Int) (i : Int) (xs : List D6) (xs1 : List D6) (xs2 : List ByteArray) : St := { nt := 91, tm := [(4, .v (.c (.own 1000000 none))), (5, .v (.c (.own 1000001 none))), (6, .v (.c (.own 1000002 none))), (7, .v (.c (.int .i64 last))), (8, .v (.c (.int .i64 i)))], bx := [], bl := [(1000000, some ⟨143, K6, xs, true, true⟩), (1000001, some ⟨143, K6, xs1, true, true⟩), (1000002, some ⟨9, .str, xs2, true, true⟩)] }
noncomputable def spec_Steps_1_r (t3 : Bool) (xs : List D6) : St := { nt := 91, tm := [(2, .v (.c (.own 1000000 none))), (3, .v (.c (.bool t3)))], bx := [], bl := [(1000000, some ⟨143, K6, xs, true, true⟩)] }
noncomputable def spec_Steps_1_e0 (xs : List D6) : St := { nt := 91, tm := [(5, .v (.c (.own 1000000 none)))], bx := [], bl := [(1000000, some ⟨143, K6, xs, true, true⟩)] }
noncomputable def spec_Steps_1 (st : St) : Option α := lp Try.prog (look spec_Steps_C) F spec_Steps_H (sub [.r, .r, .r, .r, .r, .r, .r, .l, .r, .b, .i] (codeOf Try.f95)) κ n st
noncomputable def spec_Steps_1_k : Ex → St → Option (Args [(K7, false), (.bool, false)]) := cont Try.prog (look spec_Steps_C) F spec_Steps_H [.r, .r, .r, .r, .r, .r, .r, .l, .r, .b] (codeOf Try.f95) (fin Try.prog Try.f95 [(K7, false), (.bool, false)] 2)
theorem spec_Steps_1_step (last : Int) (i : Int) (xs : List D6) (xs1 : List D6) (xs2 : List ByteArray) : spec_Steps_1 F κ (n + 1) (spec_Steps_1_s last i xs xs1 xs2) = br (decide (i < (xs2.length : Int))) (ck (okI i (xs2.length : Int)) ((spec_l2Cut F0 (at_ xs2 i ByteArray.empty) 124).bind fun r44 => (spec_Number F0 r44.1).bind fun r50 => (spec_TxsOf F0 r44.2.1).bind fun r55 => br (!r44.2.2.1) (κ .ret (spec_Steps_1_r false xs)) (br (!r50.2.1) (κ .ret (spec_Steps_1_r false xs)) (br (!r55.2.1) (κ .ret (spec_Steps_1_r false xs)) (br (decide (r50.1 ≤ last)) (κ .ret (spec_Steps_1_r false xs)) (br (decide (r50.1 > 60)) (κ .ret (spec_Steps_1_r false xs)) (br (decide ((r55.1.length : Int) > 2)) (κ .ret (spec_Steps_1_r false xs)) (ck (okA F xs1.length [(r50.1, r55.1)].length 32) (spec_Steps_1 F κ n (spec_Steps_1_s r50.1 (w64 (i + 1)) xs (xs1 ++ [(r50.1, r55.1)]) xs2)))))))))) (κ (.exit 0) (spec_Steps_1_e0 xs1)) := by kernel_rfl
theorem spec_Steps_1_cr (t3 : Bool) (xs : List D6) : spec_Steps_1_k F .ret (spec_Steps_1_r t3 xs) = some (xs, t3, ()) := by kernel_rfl
theorem spec_Steps_1_ce0 (xs : List D6) : spec_Steps_1_k F (.exit 0) (spec_Steps_1_e0 xs) = some (xs, true, ()) := by kernel_rfl
noncomputable def spec_Steps (s : ByteArray) : Option (Args [(K7, false), (.bool, false)]) := runF Try.prog (look spec_Steps_C) F spec_Steps_H Try.f95 [(.str, false)] [(K7, false), (.bool, false)] 2 (s, ())
theorem spec_Steps_eq (s : ByteArray) : spec_Steps F s = br (s.toList == (ByteArray.mk #[]).toList) (some ([], true, ())) ((spec_Split F0 s 47).bind fun r22 => ck (okI 0 (r22.1.length : Int)) (br (!((at_ r22.1 0 ByteArray.empty).toList == (ByteArray.mk #[]).toList)) (some ([], false, ())) (br (decide ((r22.1.length : Int) > 31)) (some ([], false, ())) (spec_Steps_1 F (spec_Steps_1_k F) F.n (spec_Steps_1_s 0 1 [] [] r22.1))))) := by kernel_rfl
noncomputable def spec_Steps_con : Any := .one ⟨[(.str, false)], [(K7, false), (.bool, false)], 2, fun x => spec_Steps F0 x.1⟩
theorem spec_Steps_ok : AnyOk Try.prog TB 95 spec_Steps_con := ok1 (show AllOk Try.prog TB spec_Steps_C from ⟨spec_Split_ok, spec_l2Cut_ok, spec_Number_ok, spec_TxsOf_ok, trivial⟩) Try.func95 (by kernel_rfl) (by kernel_rfl) spec_Steps_H (by kernel_rfl)

/-! ### spec.NameOk -/
noncomputable def spec_NameOk_C : List (Nat × Any) := [(95, spec_Steps_con)]
noncomputable def spec_NameOk_H : Nat → Option Hint := look []
noncomputable def spec_NameOk (s : ByteArray) : Option (Args [(.bool, false)]) := runF Try.prog (look spec_NameOk_C) F spec_NameOk_H Try.f105 [(.str, false)] [(.bool, false)] 1 (s, ())
theorem spec_NameOk_eq (s : ByteArray) : spec_NameOk F s = (spec_Steps F0 s).bind fun r7 => some (r7.2.1, ()) := by kernel_rfl
noncomputable def spec_NameOk_con : Any := .one ⟨[(.str, false)], [(.bool, false)], 1, fun x => spec_NameOk F0 x.1⟩
theorem spec_NameOk_ok : AnyOk Try.prog TB 105 spec_NameOk_con := ok1 (show AllOk Try.prog TB spec_NameOk_C from ⟨spec_Steps_ok, trivial⟩) Try.func105 (by kernel_rfl) (by kernel_rfl) spec_NameOk_H (by kernel_rfl)

/-! ### spec.NameOf -/
noncomputable def spec_NameOf_C : List (Nat × Any) := [(102, spec_TxOk_con), (103, spec_Digits_con), (104, spec_TxsText_con), (105, spec_NameOk_con)]
noncomputable def spec_NameOf_H : Nat → Option Hint := look [(2, { live := [0, 1, 2, 7], xl := [0, 1, 2], rl := [6] })]
noncomputable def spec_NameOf_1_s (up : ByteArray) (view : Int) (list : List D4) (i : Int) : St := { nt := 34, tm := [(0, .v (.c (.str up))), (1, .v (.c (.int .i64 view))), (2, .v (.c (.ro false 105 (K4) list))), (7, .v (.c (.int .i64 i)))], bx := [], bl := [] }
noncomputable def spec_NameOf_1_r (t6 : ByteArray) : St := { nt := 34, tm := [(6, .v (.c (.str t6)))], bx := [], bl := [] }
noncomputable def spec_NameOf_1_e0 (up : ByteArray) (view : Int) (list : List D4) : St := { nt := 34, tm := [(0, .v (.c (.str up))), (1, .v (.c (.int .i64 view))), (2, .v (.c (.ro false 105 (K4) list)))], bx := [], bl := [] }
noncomputable def spec_NameOf_1 (st : St) : Option α := lp Try.prog (look spec_NameOf_C) F spec_NameOf_H (sub [.r, .l, .r, .b, .i] (codeOf Try.f94)) κ n st
noncomputable def spec_NameOf_1_k : Ex → St → Option (Args [(.str, false)]) := cont Try.prog (look spec_NameOf_C) F spec_NameOf_H [.r, .l, .r, .b] (codeOf Try.f94) (fin Try.prog Try.f94 [(.str, false)] 1)
theorem spec_NameOf_1_step (up : ByteArray) (view : Int) (list : List D4) (i : Int) : spec_NameOf_1 F κ (n + 1) (spec_NameOf_1_s up view list i) = br (decide (i < (list.length : Int))) (ck (okI i (list.length : Int)) ((spec_TxOk F0 (at_ list i K4.dflt)).bind fun r19 => br (!r19.1) (κ .ret (spec_NameOf_1_r (ByteArray.mk #[]))) (spec_NameOf_1 F κ n (spec_NameOf_1_s up view list (w64 (i + 1)))))) (κ (.exit 0) (spec_NameOf_1_e0 up view list)) := by kernel_rfl
theorem spec_NameOf_1_cr (t6 : ByteArray) : spec_NameOf_1_k F .ret (spec_NameOf_1_r t6) = some (t6, ()) := by kernel_rfl
theorem spec_NameOf_1_ce0 (up : ByteArray) (view : Int) (list : List D4) : spec_NameOf_1_k F (.exit 0) (spec_NameOf_1_e0 up view list) = ck (okC F up.size (ByteArray.mk #[47]).size) ((spec_Digits F0 view).bind fun r24 => ck (okC F (up ++ (ByteArray.mk #[47])).size r24.1.size) (ck (okC F ((up ++ (ByteArray.mk #[47])) ++ r24.1).size (ByteArray.mk #[124]).size) ((spec_TxsText F0 list).bind fun r28 => ck (okC F (((up ++ (ByteArray.mk #[47])) ++ r24.1) ++ (ByteArray.mk #[124])).size r28.1.size) ((spec_NameOk F0 ((((up ++ (ByteArray.mk #[47])) ++ r24.1) ++ (ByteArray.mk #[124])) ++ r28.1)).bind fun r31 => br (!r31.1) (some ((ByteArray.mk #[]), ())) (some ((((up ++ (ByteArray.mk #[47])) ++ r24.1) ++ (ByteArray.mk #[124])) ++ r28.1, ())))))) := by kernel_rfl
noncomputable def spec_NameOf (up : ByteArray) (view : Int) (list : D5) : Option (Args [(.str, false)]) := runF Try.prog (look spec_NameOf_C) F spec_NameOf_H Try.f94 [(.str, false), (.int .i64, false), (K5, false)] [(.str, false)] 1 (up, view, list, ())
theorem spec_NameOf_eq (up : ByteArray) (view : Int) (list : D5) : spec_NameOf F up view list = spec_NameOf_1 F (spec_NameOf_1_k F) F.n (spec_NameOf_1_s up view list 0) := by kernel_rfl
noncomputable def spec_NameOf_con : Any := .one ⟨[(.str, false), (.int .i64, false), (K5, false)], [(.str, false)], 1, fun x => spec_NameOf F0 x.1 x.2.1 x.2.2.1⟩
theorem spec_NameOf_ok : AnyOk Try.prog TB 94 spec_NameOf_con := ok1 (show AllOk Try.prog TB spec_NameOf_C from ⟨spec_TxOk_ok, spec_Digits_ok, spec_TxsText_ok, spec_NameOk_ok, trivial⟩) Try.func94 (by kernel_rfl) (by kernel_rfl) spec_NameOf_H (by kernel_rfl)

/-! ### spec.l5DrawRight -/
noncomputable def spec_l5DrawRight_C : List (Nat × Any) := [(47, spec_l1Below_con), (93, spec_l2DrawRight_con), (94, spec_NameOf_con)]
noncomputable def spec_l5DrawRight_H : Nat → Option Hint := look [(4, { live := [0, 3, 4, 5], xl := [3], rl := [2] }), (9, { live := [0, 3, 4, 5, 6, 7], xl := [0, 3, 4, 5, 6], rl := [2] })]
noncomputable def spec_l5DrawRight_2_s (s : ByteArray) (view : Int) (i : Int) (k : Int) (t4000000 : List Int) (t40000001 : Int) (t40000002 : Int) (xs : List D4) : St := { nt := 37, tm := [(0, .v (.c (.ptr 4000000 0))), (3, .v (.c (.str s))), (4, .v (.c (.int .i64 view))), (5, .v (.c (.int .i64 i))), (6, .v (.c (.own 1000000 none))), (7, .v (.c (.int .i64 k)))], bx := [(4000000, [.ro false 5 (.int .u8) t4000000, .int .i64 t40000001, .int .i64 t40000002])], bl := [(1000000, some ⟨105, K4, xs, true, true⟩)], sp := .v (.c (.ptr 4000000 0)) }
noncomputable def spec_l5DrawRight_2_e2 (s : ByteArray) (view : Int) (i : Int) (t4000000 : List Int) (t40000001 : Int) (t40000002 : Int) (xs : List D4) : St := { nt := 37, tm := [(0, .v (.c (.ptr 4000000 0))), (3, .v (.c (.str s))), (4, .v (.c (.int .i64 view))), (5, .v (.c (.int .i64 i))), (6, .v (.c (.own 1000000 none)))], bx := [(4000000, [.ro false 5 (.int .u8) t4000000, .int .i64 t40000001, .int .i64 t40000002])], bl := [(1000000, some ⟨105, K4, xs, true, true⟩)], sp := .v (.c (.ptr 4000000 0)) }
noncomputable def spec_l5DrawRight_2 (st : St) : Option α := lp Try.prog (look spec_l5DrawRight_C) F spec_l5DrawRight_H (sub [.r, .r, .r, .l, .r, .b, .i, .r, .l, .b, .r, .r, .l, .r, .b, .i] (codeOf Try.f75)) κ n st
noncomputable def spec_l5DrawRight_2_k : Ex → St → Option α := cont Try.prog (look spec_l5DrawRight_C) F spec_l5DrawRight_H [.r, .l, .b, .r, .r, .l, .r, .b] (sub [.r, .r, .r, .l, .r, .b, .i] (codeOf Try.f75)) (itk Try.prog (look spec_l5DrawRight_C) F spec_l5DrawRight_H (sub [.r, .r, .r, .l, .r, .b, .i] (codeOf Try.f75)) κ n)
noncomputable def spec_l5DrawRight_1_s (s : ByteArray) (view : Int) (i : Int) (t4000000 : List Int) (t40000001 : Int) (t40000002 : Int) : St := { nt := 37, tm := [(0, .v (.c (.ptr 4000000 0))), (3, .v (.c (.str s))), (4, .v (.c (.int .i64 view))), (5, .v (.c (.int .i64 i)))], bx := [(4000000, [.ro false 5 (.int .u8) t4000000, .int .i64 t40000001, .int .i64 t40000002])], bl := [], sp := .v (.c (.ptr 4000000 0)) }
noncomputable def spec_l5DrawRight_1_e0 (s : ByteArray) (t4000000 : List Int) (t40000001 : Int) (t40000002 : Int) : St := { nt := 37, tm := [(3, .v (.c (.str s)))], bx := [(4000000, [.ro false 5 (.int .u8) t4000000, .int .i64 t40000001, .int .i64 t40000002])], bl := [], sp := .v (.c (.ptr 4000000 0)) }
noncomputable def spec_l5DrawRight_1 (st : St) : Option α := lp Try.prog (look spec_l5DrawRight_C) F spec_l5DrawRight_H (sub [.r, .r, .r, .l, .r, .b, .i] (codeOf Try.f75)) κ n st
noncomputable def spec_l5DrawRight_1_k : Ex → St → Option (Args [(.str, false)] × Args [(K2, true)]) := cont Try.prog (look spec_l5DrawRight_C) F spec_l5DrawRight_H [.r, .r, .r, .l, .r, .b] (codeOf Try.f75) (fin2 Try.prog Try.f75 .box [(.str, false)] [(K2, true)] 1)
theorem spec_l5DrawRight_2_step (s : ByteArray) (view : Int) (i : Int) (k : Int) (t4000000 : List Int) (t40000001 : Int) (t40000002 : Int) (xs : List D4) : spec_l5DrawRight_2 F κ (n + 1) (spec_l5DrawRight_2_s s view i k t4000000 t40000001 t40000002 xs) = (spec_l1Below F0 (t4000000, (t40000001, t40000002)) 3).bind fun r23 => br (decide (k < r23.1.1)) ((spec_l2DrawRight F0 r23.2.1).bind fun r29 => ck (okA F xs.length [r29.1.1].length 32) (spec_l5DrawRight_2 F κ n (spec_l5DrawRight_2_s s view i (w64 (k + 1)) r29.2.1.1 r29.2.1.2.1 r29.2.1.2.2 (xs ++ [r29.1.1])))) (κ (.exit 2) (spec_l5DrawRight_2_e2 s view i r23.2.1.1 r23.2.1.2.1 r23.2.1.2.2 xs)) := by kernel_rfl
theorem spec_l5DrawRight_1_step (s : ByteArray) (view : Int) (i : Int) (t4000000 : List Int) (t40000001 : Int) (t40000002 : Int) : spec_l5DrawRight_1 F κ (n + 1) (spec_l5DrawRight_1_s s view i t4000000 t40000001 t40000002) = (spec_l1Below F0 (t4000000, (t40000001, t40000002)) 6).bind fun r10 => br (decide (i < r10.1.1)) ((spec_l1Below F0 r10.2.1 4).bind fun r17 => spec_l5DrawRight_2 F (spec_l5DrawRight_2_k F κ n) F.n (spec_l5DrawRight_2_s s (w64 ((w64 (view + 1)) + (w64 (Int.tdiv r17.1.1 3)))) i 0 r17.2.1.1 r17.2.1.2.1 r17.2.1.2.2 [])) (κ (.exit 0) (spec_l5DrawRight_1_e0 s r10.2.1.1 r10.2.1.2.1 r10.2.1.2.2)) := by kernel_rfl
theorem spec_l5DrawRight_2_ce2 (s : ByteArray) (view : Int) (i : Int) (t4000000 : List Int) (t40000001 : Int) (t40000002 : Int) (xs : List D4) : spec_l5DrawRight_2_k F κ n (.exit 2) (spec_l5DrawRight_2_e2 s view i t4000000 t40000001 t40000002 xs) = (spec_NameOf F0 s view xs).bind fun r35 => spec_l5DrawRight_1 F κ n (spec_l5DrawRight_1_s r35.1 view (w64 (i + 1)) t4000000 t40000001 t40000002) := by kernel_rfl
theorem spec_l5DrawRight_1_ce0 (s : ByteArray) (t4000000 : List Int) (t40000001 : Int) (t40000002 : Int) : spec_l5DrawRight_1_k F (.exit 0) (spec_l5DrawRight_1_e0 s t4000000 t40000001 t40000002) = some ((s, ()), ((t4000000, (t40000001, t40000002)), ())) := by kernel_rfl
noncomputable def spec_l5DrawRight (c : D2) : Option (Args [(.str, false)] × Args [(K2, true)]) := runF2 Try.prog (look spec_l5DrawRight_C) F spec_l5DrawRight_H Try.f75 [(K2, true)] 0 .box [(.str, false)] [(K2, true)] 1 (c, ())
theorem spec_l5DrawRight_eq (c : D2) : spec_l5DrawRight F c = spec_l5DrawRight_1 F (spec_l5DrawRight_1_k F) F.n (spec_l5DrawRight_1_s (ByteArray.mk #[]) 0 0 c.1 c.2.1 c.2.2) := by kernel_rfl
noncomputable def spec_l5DrawRight_con : Any := .two ⟨[(K2, true)], 0, .box, [(.str, false)], 1, [(K2, true)], fun x => spec_l5DrawRight F0 x.1⟩
theorem spec_l5DrawRight_ok : AnyOk Try.prog TB 75 spec_l5DrawRight_con := ok3 (show AllOk Try.prog TB spec_l5DrawRight_C from ⟨spec_l1Below_ok, spec_l2DrawRight_ok, spec_NameOf_ok, trivial⟩) Try.func75 (by kernel_rfl) (by kernel_rfl) spec_l5DrawRight_H (by kernel_rfl) (by kernel_rfl)

/-! ### spec.ViewOf -/
noncomputable def spec_ViewOf_C : List (Nat × Any) := [(95, spec_Steps_con)]
noncomputable def spec_ViewOf_H : Nat → Option Hint := look []
noncomputable def spec_ViewOf (s : ByteArray) : Option (Args [(.int .i64, false)]) := runF Try.prog (look spec_ViewOf_C) F spec_ViewOf_H Try.f76 [(.str, false)] [(.int .i64, false)] 1 (s, ())
theorem spec_ViewOf_eq (s : ByteArray) : spec_ViewOf F s = (spec_Steps F0 s).bind fun r7 => br (!r7.2.1) (some (0, ())) (br ((r7.1.length : Int) == 0) (some (0, ())) (ck (okI (w64 ((r7.1.length : Int) - 1)) (r7.1.length : Int)) (some ((at_ r7.1 (w64 ((r7.1.length : Int) - 1)) (0, [])).1, ())))) := by kernel_rfl
noncomputable def spec_ViewOf_con : Any := .one ⟨[(.str, false)], [(.int .i64, false)], 1, fun x => spec_ViewOf F0 x.1⟩
theorem spec_ViewOf_ok : AnyOk Try.prog TB 76 spec_ViewOf_con := ok1 (show AllOk Try.prog TB spec_ViewOf_C from ⟨spec_Steps_ok, trivial⟩) Try.func76 (by kernel_rfl) (by kernel_rfl) spec_ViewOf_H (by kernel_rfl)

/-! ### spec.l1Once -/
noncomputable def spec_l1Once_C : List (Nat × Any) := [(47, spec_l1Below_con)]
noncomputable def spec_l1Once_H : Nat → Option Hint := look []
noncomputable def spec_l1Once (c : D2) (n1 : Int) : Option (Args [(.bool, false)] × Args [(K2, true)]) := runF2 Try.prog (look spec_l1Once_C) F spec_l1Once_H Try.f77 [(K2, true), (.int .i64, false)] 0 .box [(.bool, false)] [(K2, true)] 1 (c, n1, ())
theorem spec_l1Once_eq (c : D2) (n1 : Int) : spec_l1Once F c n1 = (spec_l1Below F0 c n1).bind fun r7 => some (((r7.1.1 == 0), ()), (r7.2.1, ())) := by kernel_rfl
noncomputable def spec_l1Once_con : Any := .two ⟨[(K2, true), (.int .i64, false)], 0, .box, [(.bool, false)], 1, [(K2, true)], fun x => spec_l1Once F0 x.1 x.2.1⟩
theorem spec_l1Once_ok : AnyOk Try.prog TB 77 spec_l1Once_con := ok3 (show AllOk Try.prog TB spec_l1Once_C from ⟨spec_l1Below_ok, trivial⟩) Try.func77 (by kernel_rfl) (by kernel_rfl) spec_l1Once_H (by kernel_rfl) (by kernel_rfl)

/-! ### spec.SetHas -/
noncomputable def spec_SetHas_C : List (Nat × Any) := []
noncomputable def spec_SetHas_H : Nat → Option Hint := look [(2, { live := [0, 1, 5], rl := [4] })]
noncomputable def spec_SetHas_1_s (s : List Int) (i : Int) (k : Int) : St := { nt := 18, tm := [(0, .v (.c (.ro false 3 (.int .i64) s))), (1, .v (.c (.int .i64 i))), (5, .v (.c (.int .i64 k)))], bx := [], bl := [] }
noncomputable def spec_SetHas_1_r (t4 : Bool) : St := { nt := 18, tm := [(4, .v (.c (.bool t4)))], bx := [], bl := [] }
noncomputable def spec_SetHas_1_e0  : St := { nt := 18, tm := [], bx := [], bl := [] }
noncomputable def spec_SetHas_1 (st : St) : Option α := lp Try.prog (look spec_SetHas_C) F spec_SetHas_H (sub [.r, .l, .r, .b, .i] (codeOf Try.f55)) κ n st
noncomputable def spec_SetHas_1_k : Ex → St → Option (Args [(.bool, false)]) := cont Try.prog (look spec_SetHas_C) F spec_SetHas_H [.r, .l, .r, .b] (codeOf Try.f55) (fin Try.prog Try.f55 [(.bool, false)] 1)
theorem spec_SetHas_1_step (s : List Int) (i : Int) (k : Int) : spec_SetHas_1 F κ (n + 1) (spec_SetHas_1_s s i k) = br (decide (k < (s.length : Int))) (ck (okI k (s.length : Int)) (br ((at_ s k 0) == i) (κ .ret (spec_SetHas_1_r true)) (spec_SetHas_1 F κ n (spec_SetHas_1_s s i (w64 (k + 1)))))) (κ (.exit 0) (spec_SetHas_1_e0 )) := by kernel_rfl
theorem spec_SetHas_1_cr (t4 : Bool) : spec_SetHas_1_k F .ret (spec_SetHas_1_r t4) = some (t4, ()) := by kernel_rfl
theorem spec_SetHas_1_ce0  : spec_SetHas_1_k F (.exit 0) (spec_SetHas_1_e0 ) = some (false, ()) := by kernel_rfl
noncomputable def spec_SetHas (s : List Int) (i : Int) : Option (Args [(.bool, false)]) := runF Try.prog (look spec_SetHas_C) F spec_SetHas_H Try.f55 [(.sl 3 (.int .i64), false), (.int .i64, false)] [(.bool, false)] 1 (s, i, ())
theorem spec_SetHas_eq (s : List Int) (i : Int) : spec_SetHas F s i = spec_SetHas_1 F (spec_SetHas_1_k F) F.n (spec_SetHas_1_s s i 0) := by kernel_rfl
noncomputable def spec_SetHas_con : Any := .one ⟨[(.sl 3 (.int .i64), false), (.int .i64, false)], [(.bool, false)], 1, fun x => spec_SetHas F0 x.1 x.2.1⟩
theorem spec_SetHas_ok : AnyOk Try.prog TB 55 spec_SetHas_con := ok1 (show AllOk Try.prog TB spec_SetHas_C from trivial) Try.func55 (by kernel_rfl) (by kernel_rfl) spec_SetHas_H (by kernel_rfl)

/-! ### spec.SetAdd -/
noncomputable def spec_SetAdd_C : List (Nat × Any) := [(55, spec_SetHas_con)]
noncomputable def spec_SetAdd_H : Nat → Option Hint := look [(4, { live := [0, 1, 5], xl := [0, 1, 5], rl := [4] })]
noncomputable def spec_SetAdd_1_s (s : List Int) (i : Int) (at1 : Int) : St := { nt := 41, tm := [(0, .v (.c (.ro false 3 (.int .i64) s))), (1, .v (.c (.int .i64 i))), (5, .v (.c (.int .i64 at1)))], bx := [], bl := [] }
noncomputable def spec_SetAdd_1_e0 (s : List Int) (i : Int) (at1 : Int) : St := { nt := 41, tm := [(0, .v (.c (.ro false 3 (.int .i64) s))), (1, .v (.c (.int .i64 i))), (5, .v (.c (.int .i64 at1)))], bx := [], bl := [] }
noncomputable def spec_SetAdd_1 (st : St) : Option α := lp Try.prog (look spec_SetAdd_C) F spec_SetAdd_H (sub [.r, .r, .r, .l, .b, .i] (codeOf Try.f51)) κ n st
noncomputable def spec_SetAdd_1_k : Ex → St → Option (Args [(.sl 3 (.int .i64), false)]) := cont Try.prog (look spec_SetAdd_C) F spec_SetAdd_H [.r, .r, .r, .l, .b] (codeOf Try.f51) (fin Try.prog Try.f51 [(.sl 3 (.int .i64), false)] 2)
theorem spec_SetAdd_1_step (s : List Int) (i : Int) (at1 : Int) : spec_SetAdd_1 F κ (n + 1) (spec_SetAdd_1_s s i at1) = br (decide (at1 < (s.length : Int))) (ck (okI at1 (s.length : Int)) (br (decide ((at_ s at1 0) < i)) (spec_SetAdd_1 F κ n (spec_SetAdd_1_s s i (w64 (at1 + 1)))) (κ (.exit 0) (spec_SetAdd_1_e0 s i at1)))) (κ (.exit 0) (spec_SetAdd_1_e0 s i at1)) := by kernel_rfl
theorem spec_SetAdd_1_ce0 (s : List Int) (i : Int) (at1 : Int) : spec_SetAdd_1_k F (.exit 0) (spec_SetAdd_1_e0 s i at1) = ck (okS 0 at1 (s.length : Int)) (ck (okA F 0 ((s.take at1.toNat).drop (0 : Int).toNat).length 8) (ck (okA F ([] ++ ((s.take at1.toNat).drop (0 : Int).toNat)).length [i].length 8) (ck (okS at1 (s.length : Int) (s.length : Int)) (ck (okA F (([] ++ ((s.take at1.toNat).drop (0 : Int).toNat)) ++ [i]).length ((s.take (s.length : Int).toNat).drop at1.toNat).length 8) (some ((([] ++ ((s.take at1.toNat).drop (0 : Int).toNat)) ++ [i]) ++ ((s.take (s.length : Int).toNat).drop at1.toNat), ())))))) := by kernel_rfl
noncomputable def spec_SetAdd (s : List Int) (i : Int) : Option (Args [(.sl 3 (.int .i64), false)]) := runF Try.prog (look spec_SetAdd_C) F spec_SetAdd_H Try.f51 [(.sl 3 (.int .i64), false), (.int .i64, false)] [(.sl 3 (.int .i64), false)] 2 (s, i, ())
theorem spec_SetAdd_eq (s : List Int) (i : Int) : spec_SetAdd F s i = (spec_SetHas F0 s i).bind fun r9 => br r9.1 (ck (okA F 0 s.length 8) (some ([] ++ s, ()))) (spec_SetAdd_1 F (spec_SetAdd_1_k F) F.n (spec_SetAdd_1_s s i 0)) := by kernel_rfl
noncomputable def spec_SetAdd_con : Any := .one ⟨[(.sl 3 (.int .i64), false), (.int .i64, false)], [(.sl 3 (.int .i64), false)], 2, fun x => spec_SetAdd F0 x.1 x.2.1⟩
theorem spec_SetAdd_ok : AnyOk Try.prog TB 51 spec_SetAdd_con := ok1 (show AllOk Try.prog TB spec_SetAdd_C from ⟨spec_SetHas_ok, trivial⟩) Try.func51 (by kernel_rfl) (by kernel_rfl) spec_SetAdd_H (by kernel_rfl)

/-! ### spec.l6DrawSet -/
noncomputable def spec_l6DrawSet_C : List (Nat × Any) := [(47, spec_l1Below_con), (51, spec_SetAdd_con), (77, spec_l1Once_con), (78, spec_l1PickInt_con)]
noncomputable def spec_l6DrawSet_H : Nat → Option Hint := look [(3, { live := [0, 1, 5, 6], xl := [0, 5], rl := [4] })]
noncomputable def spec_l6DrawSet_1_s (n1 : Int) (i : Int) (t4000000 : List Int) (t40000001 : Int) (t40000002 : Int) (xs : List Int) : St := { nt := 28, tm := [(0, .v (.c (.ptr 4000000 0))), (1, .v (.c (.int .i64 n1))), (5, .v (.c (.own 1000000 none))), (6, .v (.c (.int .i64 i)))], bx := [(4000000, [.ro false 5 (.int .u8) t4000000, .int .i64 t40000001, .int .i64 t40000002])], bl := [(1000000, some ⟨3, .int .i64, xs, true, true⟩)], sp := .v (.c (.ptr 4000000 0)) }
noncomputable def spec_l6DrawSet_1_e0 (t4000000 : List Int) (t40000001 : Int) (t40000002 : Int) (xs : List Int) : St := { nt := 28, tm := [(0, .v (.c (.ptr 4000000 0))), (5, .v (.c (.own 1000000 none)))], bx := [(4000000, [.ro false 5 (.int .u8) t4000000, .int .i64 t40000001, .int .i64 t40000002])], bl := [(1000000, some ⟨3, .int .i64, xs, true, true⟩)], sp := .v (.c (.ptr 4000000 0)) }
noncomputable def spec_l6DrawSet_1 (st : St) : Option α := lp Try.prog (look spec_l6DrawSet_C) F spec_l6DrawSet_H (sub [.r, .r, .l, .r, .b, .i] (codeOf Try.f79)) κ n st
noncomputable def spec_l6DrawSet_1_k : Ex → St → Option (Args [(.sl 3 (.int .i64), false)] × Args [(K2, true)]) := cont Try.prog (look spec_l6DrawSet_C) F spec_l6DrawSet_H [.r, .r, .l, .r, .b] (codeOf Try.f79) (fin2 Try.prog Try.f79 .box [(.sl 3 (.int .i64), false)] [(K2, true)] 2)
theorem spec_l6DrawSet_1_step (n1 : Int) (i : Int) (t4000000 : List Int) (t40000001 : Int) (t40000002 : Int) (xs : List Int) : spec_l6DrawSet_1 F κ (n + 1) (spec_l6DrawSet_1_s n1 i t4000000 t40000001 t40000002 xs) = (spec_l1Below F0 (t4000000, (t40000001, t40000002)) 8).bind fun r10 => br (decide (i < r10.1.1)) ((spec_l1Below F0 r10.2.1 n1).bind fun r17 => (spec_SetAdd F0 xs r17.1.1).bind fun r18 => spec_l6DrawSet_1 F κ n (spec_l6DrawSet_1_s n1 (w64 (i + 1)) r17.2.1.1 r17.2.1.2.1 r17.2.1.2.2 r18.1)) (κ (.exit 0) (spec_l6DrawSet_1_e0 r10.2.1.1 r10.2.1.2.1 r10.2.1.2.2 xs)) := by kernel_rfl
theorem spec_l6DrawSet_1_ce0 (t4000000 : List Int) (t40000001 : Int) (t40000002 : Int) (xs : List Int) : spec_l6DrawSet_1_k F (.exit 0) (spec_l6DrawSet_1_e0 t4000000 t40000001 t40000002 xs) = (spec_l1Once F0 (t4000000, (t40000001, t40000002)) 12).bind fun r20 => br r20.1.1 ((spec_l1PickInt F0 r20.2.1 [(-1), 0, 3, 9]).bind fun r24 => ck (okA F xs.length [r24.1.1].length 8) (some ((xs ++ [r24.1.1], ()), (r24.2.1, ())))) (some ((xs, ()), (r20.2.1, ()))) := by kernel_rfl
noncomputable def spec_l6DrawSet (c : D2) (n1 : Int) : Option (Args [(.sl 3 (.int .i64), false)] × Args [(K2, true)]) := runF2 Try.prog (look spec_l6DrawSet_C) F spec_l6DrawSet_H Try.f79 [(K2, true), (.int .i64, false)] 0 .box [(.sl 3 (.int .i64), false)] [(K2, true)] 2 (c, n1, ())
theorem spec_l6DrawSet_eq (c : D2) (n1 : Int) : spec_l6DrawSet F c n1 = spec_l6DrawSet_1 F (spec_l6DrawSet_1_k F) F.n (spec_l6DrawSet_1_s n1 0 c.1 c.2.1 c.2.2 []) := by kernel_rfl
noncomputable def spec_l6DrawSet_con : Any := .two ⟨[(K2, true), (.int .i64, false)], 0, .box, [(.sl 3 (.int .i64), false)], 2, [(K2, true)], fun x => spec_l6DrawSet F0 x.1 x.2.1⟩
theorem spec_l6DrawSet_ok : AnyOk Try.prog TB 79 spec_l6DrawSet_con := ok3 (show AllOk Try.prog TB spec_l6DrawSet_C from ⟨spec_l1Below_ok, spec_SetAdd_ok, spec_l1Once_ok, spec_l1PickInt_ok, trivial⟩) Try.func79 (by kernel_rfl) (by kernel_rfl) spec_l6DrawSet_H (by kernel_rfl) (by kernel_rfl)

/-! ### spec.l22Draw -/
noncomputable def spec_l22Draw_C : List (Nat × Any) := [(48, spec_l1New_con), (74, spec_l7DrawBent_con), (75, spec_l5DrawRight_con), (76, spec_ViewOf_con), (77, spec_l1Once_con), (78, spec_l1PickInt_con), (79, spec_l6DrawSet_con)]
noncomputable def spec_l22Draw_H : Nat → Option Hint := look []
noncomputable def spec_l22Draw (code : List Int) : Option (Args [(K1, true), (.int .i64, false), (.str, false), (.sl 3 (.int .i64), false)]) := runF Try.prog (look spec_l22Draw_C) F spec_l22Draw_H Try.f46 [(.sl 5 (.int .u8), false)] [(K1, true), (.int .i64, false), (.str, false), (.sl 3 (.int .i64), false)] 2 (code, ())
theorem spec_l22Draw_eq (code : List Int) : spec_l22Draw F code = (spec_l1New F0 code).bind fun r12 => (spec_l7DrawBent F0 r12.1.1).bind fun r14 => (spec_l5DrawRight F0 r14.2.1).bind fun r16 => (spec_ViewOf F0 r16.1.1).bind fun r18 => (spec_l1Once F0 r16.2.1 8).bind fun r20 => br r20.1.1 ((spec_l1PickInt F0 r20.2.1 [(-1), 0, 5, 61]).bind fun r23 => (spec_l1Once F0 r23.2.1 2).bind fun r26 => br r26.1.1 ((spec_l6DrawSet F0 r26.2.1 7).bind fun r28 => some (r14.1.1, r23.1.1, r16.1.1, r28.1.1, ())) (some (r14.1.1, r23.1.1, r16.1.1, [0, 1, 2, 3, 4, 5, 6], ()))) ((spec_l1Once F0 r20.2.1 2).bind fun r26 => br r26.1.1 ((spec_l6DrawSet F0 r26.2.1 7).bind fun r28 => some (r14.1.1, r18.1, r16.1.1, r28.1.1, ())) (some (r14.1.1, r18.1, r16.1.1, [0, 1, 2, 3, 4, 5, 6], ()))) := by kernel_rfl
noncomputable def spec_l22Draw_con : Any := .one ⟨[(.sl 5 (.int .u8), false)], [(K1, true), (.int .i64, false), (.str, false), (.sl 3 (.int .i64), false)], 2, fun x => spec_l22Draw F0 x.1⟩
theorem spec_l22Draw_ok : AnyOk Try.prog TB 46 spec_l22Draw_con := ok1 (show AllOk Try.prog TB spec_l22Draw_C from ⟨spec_l1New_ok, spec_l7DrawBent_ok, spec_l5DrawRight_ok, spec_ViewOf_ok, spec_l1Once_ok, spec_l1PickInt_ok, spec_l6DrawSet_ok, trivial⟩) Try.func46 (by kernel_rfl) (by kernel_rfl) spec_l22Draw_H (by kernel_rfl)

/-! ### spec.DrawCut -/
noncomputable def spec_DrawCut_C : List (Nat × Any) := [(46, spec_l22Draw_con), (47, spec_l1Below_con), (48, spec_l1New_con)]
noncomputable def spec_DrawCut_H : Nat → Option Hint := look [(900002, { live := [], mat := [(6, 0, K1)] })]
noncomputable def spec_DrawCut (code : List Int) : Option (Args [(K1, true), (.int .i64, false), (.sl 3 (.int .i64), false), (.sl 3 (.int .i64), false)]) := runF Try.prog (look spec_DrawCut_C) F spec_DrawCut_H Try.f19 [(.sl 5 (.int .u8), false)] [(K1, true), (.int .i64, false), (.sl 3 (.int .i64), false), (.sl 3 (.int .i64), false)] 2 (code, ())
theorem spec_DrawCut_eq (code : List Int) : spec_DrawCut F code = (spec_l22Draw F0 code).bind fun r12 => (spec_l1New F0 code).bind fun r21 => (spec_l1Below F0 r21.1.1 7).bind fun r22 => some (r12.1, r12.2.1, r12.2.2.2.1, [r22.1.1], ()) := by kernel_rfl
noncomputable def spec_DrawCut_con : Any := .one ⟨[(.sl 5 (.int .u8), false)], [(K1, true), (.int .i64, false), (.sl 3 (.int .i64), false), (.sl 3 (.int .i64), false)], 2, fun x => spec_DrawCut F0 x.1⟩
theorem spec_DrawCut_ok : AnyOk Try.prog TB 19 spec_DrawCut_con := ok1 (show AllOk Try.prog TB spec_DrawCut_C from ⟨spec_l22Draw_ok, spec_l1Below_ok, spec_l1New_ok, trivial⟩) Try.func19 (by kernel_rfl) (by kernel_rfl) spec_DrawCut_H (by kernel_rfl)

/-! ### impl.within -/
noncomputable def impl_within_C : List (Nat × Any) := []
noncomputable def impl_within_H : Nat → Option Hint := look []
noncomputable def impl_within (n1 : Int) (low : Int) (high : Int) : Option (Args [(.bool, false)]) := runF Try.prog (look impl_within_C) F impl_within_H Try.f49 [(.int .i64, false), (.int .i64, false), (.int .i64, false)] [(.bool, false)] 1 (n1, low, high, ())
theorem impl_within_eq (n1 : Int) (low : Int) (high : Int) : impl_within F n1 low high = br (decide (n1 ≥ low)) (some (decide (n1 ≤ high), ())) (some (false, ())) := by kernel_rfl
noncomputable def impl_within_con : Any := .one ⟨[(.int .i64, false), (.int .i64, false), (.int .i64, false)], [(.bool, false)], 1, fun x => impl_within F0 x.1 x.2.1 x.2.2.1⟩
theorem impl_within_ok : AnyOk Try.prog TB 49 impl_within_con := ok1 (show AllOk Try.prog TB impl_within_C from trivial) Try.func49 (by kernel_rfl) (by kernel_rfl) impl_within_H (by kernel_rfl)

/-! ### slices.Index[[]int,int] -/
noncomputable def slices_Index_int_int_C : List (Nat × Any) := []
noncomputable def slices_Index_int_int_H : Nat → Option Hint := look [(2, { live := [0, 1, 7, 8], rl := [4] })]
noncomputable def slices_Index_int_int_1_s (s : List Int) (v : Int) (t7 : Int) (t8 : Int) : St := { nt := 19, tm := [(0, .v (.c (.ro false 3 (.int .i64) s))), (1, .v (.c (.int .i64 v))), (7, .v (.c (.int .i64 t7))), (8, .v (.c (.int .i64 t8)))], bx := [], bl := [] }
noncomputable def slices_Index_int_int_1_r (t4 : Int) : St := { nt := 19, tm := [(4, .v (.c (.int .i64 t4)))], bx := [], bl := [] }
noncomputable def slices_Index_int_int_1_e0  : St := { nt := 19, tm := [], bx := [], bl := [] }
noncomputable def slices_Index_int_int_1 (st : St) : Option α := lp Try.prog (look slices_Index_int_int_C) F slices_Index_int_int_H (sub [.r, .l, .r, .b, .i] (codeOf Try.f98)) κ n st
noncomputable def slices_Index_int_int_1_k : Ex → St → Option (Args [(.int .i64, false)]) := cont Try.prog (look slices_Index_int_int_C) F slices_Index_int_int_H [.r, .l, .r, .b] (codeOf Try.f98) (fin Try.prog Try.f98 [(.int .i64, false)] 1)
theorem slices_Index_int_int_1_step (s : List Int) (v : Int) (t7 : Int) (t8 : Int) : slices_Index_int_int_1 F κ (n + 1) (slices_Index_int_int_1_s s v t7 t8) = br (decide (t8 < t7)) (ck (okI t8 (s.length : Int)) (br (v == (at_ s t8 0)) (κ .ret (slices_Index_int_int_1_r t8)) (slices_Index_int_int_1 F κ n (slices_Index_int_int_1_s s v t7 (w64 (t8 + 1)))))) (κ (.exit 0) (slices_Index_int_int_1_e0 )) := by kernel_rfl
theorem slices_Index_int_int_1_cr (t4 : Int) : slices_Index_int_int_1_k F .ret (slices_Index_int_int_1_r t4) = some (t4, ()) := by kernel_rfl
theorem slices_Index_int_int_1_ce0  : slices_Index_int_int_1_k F (.exit 0) (slices_Index_int_int_1_e0 ) = some ((-1), ()) := by kernel_rfl
noncomputable def slices_Index_int_int (s : List Int) (v : Int) : Option (Args [(.int .i64, false)]) := runF Try.prog (look slices_Index_int_int_C) F slices_Index_int_int_H Try.f98 [(.sl 3 (.int .i64), false), (.int .i64, false)] [(.int .i64, false)] 1 (s, v, ())
theorem slices_Index_int_int_eq (s : List Int) (v : Int) : slices_Index_int_int F s v = slices_Index_int_int_1 F (slices_Index_int_int_1_k F) F.n (slices_Index_int_int_1_s s v (s.length : Int) 0) := by kernel_rfl
noncomputable def slices_Index_int_int_con : Any := .one ⟨[(.sl 3 (.int .i64), false), (.int .i64, false)], [(.int .i64, false)], 1, fun x => slices_Index_int_int F0 x.1 x.2.1⟩
theorem slices_Index_int_int_ok : AnyOk Try.prog TB 98 slices_Index_int_int_con := ok1 (show AllOk Try.prog TB slices_Index_int_int_C from trivial) Try.func98 (by kernel_rfl) (by kernel_rfl) slices_Index_int_int_H (by kernel_rfl)

/-! ### slices.Contains[[]int,int] -/
noncomputable def slices_Contains_int_int_C : List (Nat × Any) := [(98, slices_Index_int_int_con)]
noncomputable def slices_Contains_int_int_H : Nat → Option Hint := look []
noncomputable def slices_Contains_int_int (s : List Int) (v : Int) : Option (Args [(.bool, false)]) := runF Try.prog (look slices_Contains_int_int_C) F slices_Contains_int_int_H Try.f87 [(.sl 3 (.int .i64), false), (.int .i64, false)] [(.bool, false)] 1 (s, v, ())
theorem slices_Contains_int_int_eq (s : List Int) (v : Int) : slices_Contains_int_int F s v = (slices_Index_int_int F0 s v).bind fun r7 => some (decide (r7.1 ≥ 0), ()) := by kernel_rfl
noncomputable def slices_Contains_int_int_con : Any := .one ⟨[(.sl 3 (.int .i64), false), (.int .i64, false)], [(.bool, false)], 1, fun x => slices_Contains_int_int F0 x.1 x.2.1⟩
theorem slices_Contains_int_int_ok : AnyOk Try.prog TB 87 slices_Contains_int_int_con := ok1 (show AllOk Try.prog TB slices_Contains_int_int_C from ⟨slices_Index_int_int_ok, trivial⟩) Try.func87 (by kernel_rfl) (by kernel_rfl) slices_Contains_int_int_H (by kernel_rfl)

/-! ### impl.SetHas -/
noncomputable def impl_SetHas_C : List (Nat × Any) := [(87, slices_Contains_int_int_con)]
noncomputable def impl_SetHas_H : Nat → Option Hint := look []
noncomputable def impl_SetHas (s : List Int) (i : Int) : Option (Args [(.bool, false)]) := runF Try.prog (look impl_SetHas_C) F impl_SetHas_H Try.f59 [(.sl 3 (.int .i64), false), (.int .i64, false)] [(.bool, false)] 1 (s, i, ())
theorem impl_SetHas_eq (s : List Int) (i : Int) : impl_SetHas F s i = (slices_Contains_int_int F0 s i).bind fun r7 => some (r7.1, ()) := by kernel_rfl
noncomputable def impl_SetHas_con : Any := .one ⟨[(.sl 3 (.int .i64), false), (.int .i64, false)], [(.bool, false)], 1, fun x => impl_SetHas F0 x.1 x.2.1⟩
theorem impl_SetHas_ok : AnyOk Try.prog TB 59 impl_SetHas_con := ok1 (show AllOk Try.prog TB impl_SetHas_C from ⟨slices_Contains_int_int_ok, trivial⟩) Try.func59 (by kernel_rfl) (by kernel_rfl) impl_SetHas_H (by kernel_rfl)

/-! ### impl.copyInts -/
noncomputable def impl_copyInts_C : List (Nat × Any) := []
noncomputable def impl_copyInts_H : Nat → Option Hint := look []
noncomputable def impl_copyInts (l : List Int) : Option (Args [(.sl 3 (.int .i64), false)]) := runF Try.prog (look impl_copyInts_C) F impl_copyInts_H Try.f82 [(.sl 3 (.int .i64), false)] [(.sl 3 (.int .i64), false)] 2 (l, ())
theorem impl_copyInts_eq (l : List Int) : impl_copyInts F l = ck (okA F 0 l.length 8) (some ([] ++ l, ())) := by kernel_rfl
noncomputable def impl_copyInts_con : Any := .one ⟨[(.sl 3 (.int .i64), false)], [(.sl 3 (.int .i64), false)], 2, fun x => impl_copyInts F0 x.1⟩
theorem impl_copyInts_ok : AnyOk Try.prog TB 82 impl_copyInts_con := ok1 (show AllOk Try.prog TB impl_copyInts_C from trivial) Try.func82 (by kernel_rfl) (by kernel_rfl) impl_copyInts_H (by kernel_rfl)

/-! ### impl.SetAdd -/
noncomputable def impl_SetAdd_C : List (Nat × Any) := [(59, impl_SetHas_con), (82, impl_copyInts_con), (83, slices_IndexFunc_int_con), (85, slices_Insert_int_con)]
noncomputable def impl_SetAdd_H : Nat → Option Hint := look []
noncomputable def impl_SetAdd (s : List Int) (i : Int) : Option (Args [(.sl 3 (.int .i64), false)]) := runF Try.prog (look impl_SetAdd_C) F impl_SetAdd_H Try.f56 [(.sl 3 (.int .i64), false), (.int .i64, false)] [(.sl 3 (.int .i64), false)] 2 (s, i, ())
theorem impl_SetAdd_eq (s : List Int) (i : Int) : impl_SetAdd F s i = (impl_SetHas F0 s i).bind fun r8 => br r8.1 ((impl_copyInts F0 s).bind fun r10 => some (r10.1, ())) (br (decide ((idxL (fun e_ => geP e_ i) s 0) < 0)) ((impl_copyInts F0 s).bind fun r19 => ck (okIns (s.length : Int) r19.1.length [i].length) (some (r19.1.take (s.length : Int).toNat ++ [i] ++ r19.1.drop (s.length : Int).toNat, ()))) ((impl_copyInts F0 s).bind fun r19 => ck (okIns (idxL (fun e_ => geP e_ i) s 0) r19.1.length [i].length) (some (r19.1.take (idxL (fun e_ => geP e_ i) s 0).toNat ++ [i] ++ r19.1.drop (idxL (fun e_ => geP e_ i) s 0).toNat, ())))) := by kernel_rfl
noncomputable def impl_SetAdd_con : Any := .one ⟨[(.sl 3 (.int .i64), false), (.int .i64, false)], [(.sl 3 (.int .i64), false)], 2, fun x => impl_SetAdd F0 x.1 x.2.1⟩
theorem impl_SetAdd_ok : AnyOk Try.prog TB 56 impl_SetAdd_con := ok1 (show AllOk Try.prog TB impl_SetAdd_C from ⟨impl_SetHas_ok, impl_copyInts_ok, slices_IndexFunc_int_ok, slices_Insert_int_ok, trivial⟩) Try.func56 (by kernel_rfl) (by kernel_rfl) impl_SetAdd_H (by kernel_rfl)

/-! ### impl.replicasOf -/
noncomputable def impl_replicasOf_C : List (Nat × Any) := [(49, impl_within_con), (56, impl_SetAdd_con)]
noncomputable def impl_replicasOf_H : Nat → Option Hint := look [(3, { live := [2, 5, 8, 9, 10], mat := [(5, 3, .int .i64)], xl := [5], rl := [4] })]
noncomputable def impl_replicasOf_1_s (t8 : List Int) (t9 : Int) (t10 : Int) (c : Int) (c1 : Int) (xs : List Int) : St := { nt := 24, tm := [(2, .v (.c (.ptr 2 0))), (5, .v (.c (.own 1000000 none))), (8, .v (.c (.ro false 3 (.int .i64) t8))), (9, .v (.c (.int .i64 t9))), (10, .v (.c (.int .i64 t10)))], bx := [(2, [.int .i64 c, .int .i64 c1])], bl := [(1000000, some ⟨3, .int .i64, xs, true, true⟩)] }
noncomputable def impl_replicasOf_1_e0 (xs : List Int) : St := { nt := 24, tm := [(5, .v (.c (.own 1000000 none)))], bx := [], bl := [(1000000, some ⟨3, .int .i64, xs, true, true⟩)] }
noncomputable def impl_replicasOf_1 (st : St) : Option α := lp Try.prog (look impl_replicasOf_C) F impl_replicasOf_H (sub [.r, .r, .l, .r, .b, .i] (codeOf Try.f28)) κ n st
noncomputable def impl_replicasOf_1_k : Ex → St → Option (Args [(.sl 3 (.int .i64), false)]) := cont Try.prog (look impl_replicasOf_C) F impl_replicasOf_H [.r, .r, .l, .r, .b] (codeOf Try.f28) (fin Try.prog Try.f28 [(.sl 3 (.int .i64), false)] 2)
theorem impl_replicasOf_1_step (t8 : List Int) (t9 : Int) (t10 : Int) (c : Int) (c1 : Int) (xs : List Int) : impl_replicasOf_1 F κ (n + 1) (impl_replicasOf_1_s t8 t9 t10 c c1 xs) = br (decide (t10 < t9)) (ck (okI t10 (t8.length : Int)) ((impl_within F0 (at_ t8 t10 0) 0 (w64 (c - 1))).bind fun r18 => br r18.1 ((impl_SetAdd F0 xs (at_ t8 t10 0)).bind fun r21 => impl_replicasOf_1 F κ n (impl_replicasOf_1_s t8 t9 (w64 (t10 + 1)) c c1 r21.1)) (impl_replicasOf_1 F κ n (impl_replicasOf_1_s t8 t9 (w64 (t10 + 1)) c c1 xs)))) (κ (.exit 0) (impl_replicasOf_1_e0 xs)) := by kernel_rfl
theorem impl_replicasOf_1_ce0 (xs : List Int) : impl_replicasOf_1_k F (.exit 0) (impl_replicasOf_1_e0 xs) = some (xs, ()) := by kernel_rfl
noncomputable def impl_replicasOf (c : D1) (who : List Int) : Option (Args [(.sl 3 (.int .i64), false)]) := runF Try.prog (look impl_replicasOf_C) F impl_replicasOf_H Try.f28 [(K1, true), (.sl 3 (.int .i64), false)] [(.sl 3 (.int .i64), false)] 2 (c, who, ())
theorem impl_replicasOf_eq (c : D1) (who : List Int) : impl_replicasOf F c who = impl_replicasOf_1 F (impl_replicasOf_1_k F) F.n (impl_replicasOf_1_s who (who.length : Int) 0 c.1 c.2 []) := by kernel_rfl
noncomputable def impl_replicasOf_con : Any := .one ⟨[(K1, true), (.sl 3 (.int .i64), false)], [(.sl 3 (.int .i64), false)], 2, fun x => impl_replicasOf F0 x.1 x.2.1⟩
theorem impl_replicasOf_ok : AnyOk Try.prog TB 28 impl_replicasOf_con := ok1 (show AllOk Try.prog TB impl_replicasOf_C from ⟨impl_within_ok, impl_SetAdd_ok, trivial⟩) Try.func28 (by kernel_rfl) (by kernel_rfl) impl_replicasOf_H (by kernel_rfl)

/-! ### impl.ConfOk -/
noncomputable def impl_ConfOk_C : List (Nat × Any) := [(49, impl_within_con)]
noncomputable def impl_ConfOk_H : Nat → Option Hint := look []
noncomputable def impl_ConfOk (c : D1) : Option (Args [(.bool, false)]) := runF Try.prog (look impl_ConfOk_C) F impl_ConfOk_H Try.f22 [(K1, true)] [(.bool, false)] 1 (c, ())
theorem impl_ConfOk_eq (c : D1) : impl_ConfOk F c = (impl_within F0 c.1 4 7).bind fun r5 => br r5.1 ((impl_within F0 c.2 1 6).bind fun r9 => some (r9.1, ())) (some (false, ())) := by kernel_rfl
noncomputable def impl_ConfOk_con : Any := .one ⟨[(K1, true)], [(.bool, false)], 1, fun x => impl_ConfOk F0 x.1⟩
theorem impl_ConfOk_ok : AnyOk Try.prog TB 22 impl_ConfOk_con := ok1 (show AllOk Try.prog TB impl_ConfOk_C from ⟨impl_within_ok, trivial⟩) Try.func22 (by kernel_rfl) (by kernel_rfl) impl_ConfOk_H (by kernel_rfl)

/-! ### impl.Seat -/
noncomputable def impl_Seat_C : List (Nat × Any) := [(22, impl_ConfOk_con), (49, impl_within_con)]
noncomputable def impl_Seat_H : Nat → Option Hint := look []
noncomputable def impl_Seat (c : D1) (view : Int) (i : Int) : Option (Args [(.int .i64, false)]) := runF Try.prog (look impl_Seat_C) F impl_Seat_H Try.f57 [(K1, true), (.int .i64, false), (.int .i64, false)] [(.int .i64, false)] 1 (c, view, i, ())
theorem impl_Seat_eq (c : D1) (view : Int) (i : Int) : impl_Seat F c view i = (impl_ConfOk F0 c).bind fun r8 => br (!r8.1) (some ((-1), ())) (br (decide (view < 0)) (some ((-1), ())) ((impl_within F0 i 0 (w64 (c.1 - 1))).bind fun r19 => br (!r19.1) (some ((-1), ())) (ck (!(c.1 == 0)) (ck (!(c.1 == 0)) (some (Int.tmod (w64 ((w64 (i - (Int.tmod view c.1))) + c.1)) c.1, ())))))) := by kernel_rfl
noncomputable def impl_Seat_con : Any := .one ⟨[(K1, true), (.int .i64, false), (.int .i64, false)], [(.int .i64, false)], 1, fun x => impl_Seat F0 x.1 x.2.1 x.2.2.1⟩
theorem impl_Seat_ok : AnyOk Try.prog TB 57 impl_Seat_con := ok1 (show AllOk Try.prog TB impl_Seat_C from ⟨impl_ConfOk_ok, impl_within_ok, trivial⟩) Try.func57 (by kernel_rfl) (by kernel_rfl) impl_Seat_H (by kernel_rfl)

/-! ### impl.Sits -/
noncomputable def impl_Sits_C : List (Nat × Any) := [(22, impl_ConfOk_con), (49, impl_within_con)]
noncomputable def impl_Sits_H : Nat → Option Hint := look []
noncomputable def impl_Sits (c : D1) (view : Int) (seat : Int) : Option (Args [(.int .i64, false)]) := runF Try.prog (look impl_Sits_C) F impl_Sits_H Try.f86 [(K1, true), (.int .i64, false), (.int .i64, false)] [(.int .i64, false)] 1 (c, view, seat, ())
theorem impl_Sits_eq (c : D1) (view : Int) (seat : Int) : impl_Sits F c view seat = (impl_ConfOk F0 c).bind fun r8 => br (!r8.1) (some ((-1), ())) (br (decide (view < 0)) (some ((-1), ())) ((impl_within F0 seat 0 (w64 (c.1 - 1))).bind fun r19 => br (!r19.1) (some ((-1), ())) (ck (!(c.1 == 0)) (ck (!(c.1 == 0)) (some (Int.tmod (w64 ((Int.tmod view c.1) + seat)) c.1, ())))))) := by kernel_rfl
noncomputable def impl_Sits_con : Any := .one ⟨[(K1, true), (.int .i64, false), (.int .i64, false)], [(.int .i64, false)], 1, fun x => impl_Sits F0 x.1 x.2.1 x.2.2.1⟩
theorem impl_Sits_ok : AnyOk Try.prog TB 86 impl_Sits_con := ok1 (show AllOk Try.prog TB impl_Sits_C from ⟨impl_ConfOk_ok, impl_within_ok, trivial⟩) Try.func86 (by kernel_rfl) (by kernel_rfl) impl_Sits_H (by kernel_rfl)

/-! ### impl.Up -/
noncomputable def impl_Up_C : List (Nat × Any) := [(57, impl_Seat_con), (86, impl_Sits_con)]
noncomputable def impl_Up_H : Nat → Option Hint := look []
noncomputable def impl_Up (c : D1) (view : Int) (i : Int) : Option (Args [(.int .i64, false)]) := runF Try.prog (look impl_Up_C) F impl_Up_H Try.f58 [(K1, true), (.int .i64, false), (.int .i64, false)] [(.int .i64, false)] 1 (c, view, i, ())
theorem impl_Up_eq (c : D1) (view : Int) (i : Int) : impl_Up F c view i = (impl_Seat F0 c view i).bind fun r11 => br (decide (r11.1 < 1)) (some ((-1), ())) (ck (!(c.2 == 0)) ((impl_Sits F0 c view (w64 (Int.tdiv (w64 (r11.1 - 1)) c.2))).bind fun r21 => some (r21.1, ()))) := by kernel_rfl
noncomputable def impl_Up_con : Any := .one ⟨[(K1, true), (.int .i64, false), (.int .i64, false)], [(.int .i64, false)], 1, fun x => impl_Up F0 x.1 x.2.1 x.2.2.1⟩
theorem impl_Up_ok : AnyOk Try.prog TB 58 impl_Up_con := ok1 (show AllOk Try.prog TB impl_Up_C from ⟨impl_Seat_ok, impl_Sits_ok, trivial⟩) Try.func58 (by kernel_rfl) (by kernel_rfl) impl_Up_H (by kernel_rfl)

/-! ### impl.Way -/
noncomputable def impl_Way_C : List (Nat × Any) := [(57, impl_Seat_con), (58, impl_Up_con)]
noncomputable def impl_Way_H : Nat → Option Hint := look [(2, { live := [1, 2, 3, 7], mat := [(7, 3, .int .i64)], xl := [7], rl := [6] })]
noncomputable def impl_Way_1_s (view : Int) (i : Int) (c : Int) (c1 : Int) (xs : List Int) : St := { nt := 22, tm := [(1, .v (.c (.int .i64 view))), (2, .v (.c (.int .i64 i))), (3, .v (.c (.ptr 3 0))), (7, .v (.c (.own 1000000 none)))], bx := [(3, [.int .i64 c, .int .i64 c1])], bl := [(1000000, some ⟨3, .int .i64, xs, true, true⟩)] }
noncomputable def impl_Way_1_e0 (xs : List Int) : St := { nt := 22, tm := [(7, .v (.c (.own 1000000 none)))], bx := [], bl := [(1000000, some ⟨3, .int .i64, xs, true, true⟩)] }
noncomputable def impl_Way_1 (st : St) : Option α := lp Try.prog (look impl_Way_C) F impl_Way_H (sub [.r, .r, .l, .b, .i] (codeOf Try.f29)) κ n st
noncomputable def impl_Way_1_k : Ex → St → Option (Args [(.sl 3 (.int .i64), false)]) := cont Try.prog (look impl_Way_C) F impl_Way_H [.r, .r, .l, .b] (codeOf Try.f29) (fin Try.prog Try.f29 [(.sl 3 (.int .i64), false)] 2)
theorem impl_Way_1_step (view : Int) (i : Int) (c : Int) (c1 : Int) (xs : List Int) : impl_Way_1 F κ (n + 1) (impl_Way_1_s view i c c1 xs) = (impl_Seat F0 (c, c1) view i).bind fun r11 => br (decide (r11.1 ≥ 0)) (ck (okA F xs.length [i].length 8) ((impl_Up F0 (c, c1) view i).bind fun r16 => impl_Way_1 F κ n (impl_Way_1_s view r16.1 c c1 (xs ++ [i])))) (κ (.exit 0) (impl_Way_1_e0 xs)) := by kernel_rfl
theorem impl_Way_1_ce0 (xs : List Int) : impl_Way_1_k F (.exit 0) (impl_Way_1_e0 xs) = some (xs, ()) := by kernel_rfl
noncomputable def impl_Way (c : D1) (view : Int) (i : Int) : Option (Args [(.sl 3 (.int .i64), false)]) := runF Try.prog (look impl_Way_C) F impl_Way_H Try.f29 [(K1, true), (.int .i64, false), (.int .i64, false)] [(.sl 3 (.int .i64), false)] 2 (c, view, i, ())
theorem impl_Way_eq (c : D1) (view : Int) (i : Int) : impl_Way F c view i = impl_Way_1 F (impl_Way_1_k F) F.n (impl_Way_1_s view i c.1 c.2 []) := by kernel_rfl
noncomputable def impl_Way_con : Any := .one ⟨[(K1, true), (.int .i64, false), (.int .i64, false)], [(.sl 3 (.int .i64), false)], 2, fun x => impl_Way F0 x.1 x.2.1 x.2.2.1⟩
theorem impl_Way_ok : AnyOk Try.prog TB 29 impl_Way_con := ok1 (show AllOk Try.prog TB impl_Way_C from ⟨impl_Seat_ok, impl_Up_ok, trivial⟩) Try.func29 (by kernel_rfl) (by kernel_rfl) impl_Way_H (by kernel_rfl)

/-! ### impl.Common -/
noncomputable def impl_Common_C : List (Nat × Any) := [(59, impl_SetHas_con)]
noncomputable def impl_Common_H : Nat → Option Hint := look [(3, { live := [1, 5, 8, 9, 10], xl := [5], rl := [4] })]
noncomputable def impl_Common_1_s (b : List Int) (n1 : Int) (t8 : List Int) (t9 : Int) (t10 : Int) : St := { nt := 21, tm := [(1, .v (.c (.ro false 3 (.int .i64) b))), (5, .v (.c (.int .i64 n1))), (8, .v (.c (.ro false 3 (.int .i64) t8))), (9, .v (.c (.int .i64 t9))), (10, .v (.c (.int .i64 t10)))], bx := [], bl := [] }
noncomputable def impl_Common_1_e0 (n1 : Int) : St := { nt := 21, tm := [(5, .v (.c (.int .i64 n1)))], bx := [], bl := [] }
noncomputable def impl_Common_1 (st : St) : Option α := lp Try.prog (look impl_Common_C) F impl_Common_H (sub [.r, .r, .l, .r, .b, .i] (codeOf Try.f30)) κ n st
noncomputable def impl_Common_1_k : Ex → St → Option (Args [(.int .i64, false)]) := cont Try.prog (look impl_Common_C) F impl_Common_H [.r, .r, .l, .r, .b] (codeOf Try.f30) (fin Try.prog Try.f30 [(.int .i64, false)] 1)
theorem impl_Common_1_step (b : List Int) (n1 : Int) (t8 : List Int) (t9 : Int) (t10 : Int) : impl_Common_1 F κ (n + 1) (impl_Common_1_s b n1 t8 t9 t10) = br (decide (t10 < t9)) (ck (okI t10 (t8.length : Int)) ((impl_SetHas F0 b (at_ t8 t10 0)).bind fun r16 => br r16.1 (impl_Common_1 F κ n (impl_Common_1_s b (w64 (n1 + 1)) t8 t9 (w64 (t10 + 1)))) (impl_Common_1 F κ n (impl_Common_1_s b n1 t8 t9 (w64 (t10 + 1)))))) (κ (.exit 0) (impl_Common_1_e0 n1)) := by kernel_rfl
theorem impl_Common_1_ce0 (n1 : Int) : impl_Common_1_k F (.exit 0) (impl_Common_1_e0 n1) = some (n1, ()) := by kernel_rfl
noncomputable def impl_Common (a : List Int) (b : List Int) : Option (Args [(.int .i64, false)]) := runF Try.prog (look impl_Common_C) F impl_Common_H Try.f30 [(.sl 3 (.int .i64), false), (.sl 3 (.int .i64), false)] [(.int .i64, false)] 1 (a, b, ())
theorem impl_Common_eq (a : List Int) (b : List Int) : impl_Common F a b = impl_Common_1 F (impl_Common_1_k F) F.n (impl_Common_1_s b 0 a (a.length : Int) 0) := by kernel_rfl
noncomputable def impl_Common_con : Any := .one ⟨[(.sl 3 (.int .i64), false), (.sl 3 (.int .i64), false)], [(.int .i64, false)], 1, fun x => impl_Common F0 x.1 x.2.1⟩
theorem impl_Common_ok : AnyOk Try.prog TB 30 impl_Common_con := ok1 (show AllOk Try.prog TB impl_Common_C from ⟨impl_SetHas_ok, trivial⟩) Try.func30 (by kernel_rfl) (by kernel_rfl) impl_Common_H (by kernel_rfl)

/-! ### impl.Cut -/
noncomputable def impl_Cut_C : List (Nat × Any) := [(28, impl_replicasOf_con), (29, impl_Way_con), (30, impl_Common_con)]
noncomputable def impl_Cut_H : Nat → Option Hint := look [(3, { live := [1, 3, 4, 9, 15, 16, 17], mat := [(9, 3, .int .i64)], xl := [9], rl := [8] })]
noncomputable def impl_Cut_1_s (view : Int) (off : List Int) (t16 : Int) (t17 : Int) (c : Int) (c1 : Int) (xs : List Int) (xs1 : List Int) : St := { nt := 40, tm := [(1, .v (.c (.int .i64 view))), (3, .v (.c (.ro false 3 (.int .i64) off))), (4, .v (.c (.ptr 4 0))), (9, .v (.c (.own 1000000 none))), (15, .v (.c (.own 1000001 none))), (16, .v (.c (.int .i64 t16))), (17, .v (.c (.int .i64 t17)))], bx := [(4, [.int .i64 c, .int .i64 c1])], bl := [(1000000, some ⟨3, .int .i64, xs, true, true⟩), (1000001, some ⟨3, .int .i64, xs1, true, true⟩)] }
noncomputable def impl_Cut_1_e0 (xs : List Int) : St := { nt := 40, tm := [(9, .v (.c (.own 1000000 none)))], bx := [], bl := [(1000000, some ⟨3, .int .i64, xs, true, true⟩)] }
noncomputable def impl_Cut_1 (st : St) : Option α := lp Try.prog (look impl_Cut_C) F impl_Cut_H (sub [.r, .r, .l, .r, .b, .i] (codeOf Try.f9)) κ n st
noncomputable def impl_Cut_1_k : Ex → St → Option (Args [(.sl 3 (.int .i64), false)]) := cont Try.prog (look impl_Cut_C) F impl_Cut_H [.r, .r, .l, .r, .b] (codeOf Try.f9) (fin Try.prog Try.f9 [(.sl 3 (.int .i64), false)] 2)
theorem impl_Cut_1_step (view : Int) (off : List Int) (t16 : Int) (t17 : Int) (c : Int) (c1 : Int) (xs : List Int) (xs1 : List Int) : impl_Cut_1 F κ (n + 1) (impl_Cut_1_s view off t16 t17 c c1 xs xs1) = br (decide (t17 < t16)) (ck (okI t17 (xs1.length : Int)) ((impl_Way F0 (c, c1) view (at_ xs1 t17 0)).bind fun r24 => br (decide ((r24.1.length : Int) > 0)) ((impl_Common F0 r24.1 off).bind fun r31 => br (r31.1 == 0) (ck (okA F xs.length [at_ xs1 t17 0].length 8) (impl_Cut_1 F κ n (impl_Cut_1_s view off t16 (w64 (t17 + 1)) c c1 (xs ++ [at_ xs1 t17 0]) xs1))) (impl_Cut_1 F κ n (impl_Cut_1_s view off t16 (w64 (t17 + 1)) c c1 xs xs1))) (impl_Cut_1 F κ n (impl_Cut_1_s view off t16 (w64 (t17 + 1)) c c1 xs xs1)))) (κ (.exit 0) (impl_Cut_1_e0 xs)) := by kernel_rfl
theorem impl_Cut_1_ce0 (xs : List Int) : impl_Cut_1_k F (.exit 0) (impl_Cut_1_e0 xs) = some (xs, ()) := by kernel_rfl
noncomputable def impl_Cut (c : D1) (view : Int) (who : List Int) (off : List Int) : Option (Args [(.sl 3 (.int .i64), false)]) := runF Try.prog (look impl_Cut_C) F impl_Cut_H Try.f9 [(K1, true), (.int .i64, false), (.sl 3 (.int .i64), false), (.sl 3 (.int .i64), false)] [(.sl 3 (.int .i64), false)] 2 (c, view, who, off, ())
theorem impl_Cut_eq (c : D1) (view : Int) (who : List Int) (off : List Int) : impl_Cut F c view who off = (impl_replicasOf F0 c who).bind fun r15 => impl_Cut_1 F (impl_Cut_1_k F) F.n (impl_Cut_1_s view off (r15.1.length : Int) 0 c.1 c.2 [] r15.1) := by kernel_rfl
noncomputable def impl_Cut_con : Any := .one ⟨[(K1, true), (.int .i64, false), (.sl 3 (.int .i64), false), (.sl 3 (.int .i64), false)], [(.sl 3 (.int .i64), false)], 2, fun x => impl_Cut F0 x.1 x.2.1 x.2.2.1 x.2.2.2.1⟩
theorem impl_Cut_ok : AnyOk Try.prog TB 9 impl_Cut_con := ok1 (show AllOk Try.prog TB impl_Cut_C from ⟨impl_replicasOf_ok, impl_Way_ok, impl_Common_ok, trivial⟩) Try.func9 (by kernel_rfl) (by kernel_rfl) impl_Cut_H (by kernel_rfl)

/-! ### impl.Root -/
noncomputable def impl_Root_C : List (Nat × Any) := [(22, impl_ConfOk_con)]
noncomputable def impl_Root_H : Nat → Option Hint := look []
noncomputable def impl_Root (c : D1) (view : Int) : Option (Args [(.int .i64, false)]) := runF Try.prog (look impl_Root_C) F impl_Root_H Try.f20 [(K1, true), (.int .i64, false)] [(.int .i64, false)] 1 (c, view, ())
theorem impl_Root_eq (c : D1) (view : Int) : impl_Root F c view = (impl_ConfOk F0 c).bind fun r6 => br (!r6.1) (some ((-1), ())) (br (decide (view < 0)) (some ((-1), ())) (ck (!(c.1 == 0)) (some (Int.tmod view c.1, ())))) := by kernel_rfl
noncomputable def impl_Root_con : Any := .one ⟨[(K1, true), (.int .i64, false)], [(.int .i64, false)], 1, fun x => impl_Root F0 x.1 x.2.1⟩
theorem impl_Root_ok : AnyOk Try.prog TB 20 impl_Root_con := ok1 (show AllOk Try.prog TB impl_Root_C from ⟨impl_ConfOk_ok, trivial⟩) Try.func20 (by kernel_rfl) (by kernel_rfl) impl_Root_H (by kernel_rfl)

/-! ### spec.l22Some -/
noncomputable def spec_l22Some_C : List (Nat × Any) := [(50, spec_l1In_con), (51, spec_SetAdd_con)]
noncomputable def spec_l22Some_H : Nat → Option Hint := look [(3, { live := [1, 2, 5, 6], xl := [5], rl := [4] })]
noncomputable def spec_l22Some_1_s (who : List Int) (i : Int) (c : Int) (c1 : Int) (xs : List Int) : St := { nt := 29, tm := [(1, .v (.c (.ro false 3 (.int .i64) who))), (2, .v (.c (.ptr 2 0))), (5, .v (.c (.own 1000000 none))), (6, .v (.c (.int .i64 i)))], bx := [(2, [.int .i64 c, .int .i64 c1])], bl := [(1000000, some ⟨3, .int .i64, xs, true, true⟩)] }
noncomputable def spec_l22Some_1_e0 (xs : List Int) : St := { nt := 29, tm := [(5, .v (.c (.own 1000000 none)))], bx := [], bl := [(1000000, some ⟨3, .int .i64, xs, true, true⟩)] }
noncomputable def spec_l22Some_1 (st : St) : Option α := lp Try.prog (look spec_l22Some_C) F spec_l22Some_H (sub [.r, .r, .l, .r, .b, .i] (codeOf Try.f24)) κ n st
noncomputable def spec_l22Some_1_k : Ex → St → Option (Args [(.sl 3 (.int .i64), false)]) := cont Try.prog (look spec_l22Some_C) F spec_l22Some_H [.r, .r, .l, .r, .b] (codeOf Try.f24) (fin Try.prog Try.f24 [(.sl 3 (.int .i64), false)] 2)
theorem spec_l22Some_1_step (who : List Int) (i : Int) (c : Int) (c1 : Int) (xs : List Int) : spec_l22Some_1 F κ (n + 1) (spec_l22Some_1_s who i c c1 xs) = br (decide (i < (who.length : Int))) (ck (okI i (who.length : Int)) ((spec_l1In F0 (at_ who i 0) 0 (w64 (c - 1))).bind fun r21 => br r21.1 (ck (okI i (who.length : Int)) ((spec_SetAdd F0 xs (at_ who i 0)).bind fun r27 => spec_l22Some_1 F κ n (spec_l22Some_1_s who (w64 (i + 1)) c c1 r27.1))) (spec_l22Some_1 F κ n (spec_l22Some_1_s who (w64 (i + 1)) c c1 xs)))) (κ (.exit 0) (spec_l22Some_1_e0 xs)) := by kernel_rfl
theorem spec_l22Some_1_ce0 (xs : List Int) : spec_l22Some_1_k F (.exit 0) (spec_l22Some_1_e0 xs) = some (xs, ()) := by kernel_rfl
noncomputable def spec_l22Some (c : D1) (who : List Int) : Option (Args [(.sl 3 (.int .i64), false)]) := runF Try.prog (look spec_l22Some_C) F spec_l22Some_H Try.f24 [(K1, true), (.sl 3 (.int .i64), false)] [(.sl 3 (.int .i64), false)] 2 (c, who, ())
theorem spec_l22Some_eq (c : D1) (who : List Int) : spec_l22Some F c who = spec_l22Some_1 F (spec_l22Some_1_k F) F.n (spec_l22Some_1_s who 0 c.1 c.2 []) := by kernel_rfl
noncomputable def spec_l22Some_con : Any := .one ⟨[(K1, true), (.sl 3 (.int .i64), false)], [(.sl 3 (.int .i64), false)], 2, fun x => spec_l22Some F0 x.1 x.2.1⟩
theorem spec_l22Some_ok : AnyOk Try.prog TB 24 spec_l22Some_con := ok1 (show AllOk Try.prog TB spec_l22Some_C from ⟨spec_l1In_ok, spec_SetAdd_ok, trivial⟩) Try.func24 (by kernel_rfl) (by kernel_rfl) spec_l22Some_H (by kernel_rfl)

end
end Go.Am.Try
