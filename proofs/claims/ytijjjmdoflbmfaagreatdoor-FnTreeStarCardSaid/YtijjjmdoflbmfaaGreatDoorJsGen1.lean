/- What Go's functions compute, as plain functions, and that they do. No condition. -/
import Derived.Test.YtijjjmdoflbmfaaGreatDoorAmUse
import Derived.Test.YtijjjmdoflbmfaaGreatDoorProg
import Derived.Test.YtijjjmdoflbmfaaGreatDoorJShelfD
import Derived.Test.YtijjjmdoflbmfaaGreatDoorJShelfF
set_option linter.unusedVariables false
set_option maxRecDepth 100000
namespace Go.Am.Tryz
open Go.Am Go.Proofs


abbrev K1 : Ty := .pair (.int .i64) (.int .i64)
abbrev D1 := Int × Int
abbrev K2 : Ty := .pair (.sl 5 (.int .u8)) (K1)
abbrev D2 := List Int × D1
abbrev K3 : Ty := .pair (.int .i64) (K1)
abbrev D3 := Int × D1
abbrev K4 : Ty := .pair (.int .i64) (K3)
abbrev D4 := Int × D3
abbrev K5 : Ty := .sl 35 (K4)
abbrev D5 := List D4
abbrev K6 : Ty := .pair (.int .i64) (K5)
abbrev D6 := Int × D5
abbrev K7 : Ty := .sl 69 (K6)
abbrev K10 : Ty := .pair (.str) (.sl 3 (.int .i64))
abbrev D10 := ByteArray × List Int
abbrev K11 : Ty := .pair (.int .i64) (K10)
abbrev D11 := Int × D10
noncomputable section
variable {α : Type} (F : Par) (κ : Ex → St → Option α) (n : Nat)
/-! ### laws.big -/
noncomputable def laws_big_C : List (Nat × Any) := []
noncomputable def laws_big_H : Nat → Option Hint := look []
noncomputable def laws_big (code : List Int) : Option (Args [(.bool, false)]) := runF Tryz.prog (look laws_big_C) F laws_big_H Tryz.f5 [(.sl 5 (.int .u8), false)] [(.bool, false)] 1 (code, ())
theorem laws_big_eq (code : List Int) : laws_big F code = some (decide ((code.length : Int) > 1048576), ()) := by kernel_rfl
noncomputable def laws_big_con : Any := .one ⟨[(.sl 5 (.int .u8), false)], [(.bool, false)], 1, fun x => laws_big F0 x.1⟩
theorem laws_big_ok : AnyOk Tryz.prog TB 5 laws_big_con := ok1 (show AllOk Tryz.prog TB laws_big_C from trivial) Tryz.func5 (by kernel_rfl) (by kernel_rfl) laws_big_H (by kernel_rfl)

/-! ### spec.l1New -/
noncomputable def spec_l1New_C : List (Nat × Any) := []
noncomputable def spec_l1New_H : Nat → Option Hint := look [(3, { live := [0, 3, 4], xl := [0, 3], rl := [2] })]
noncomputable def spec_l1New_1_s (code : List Int) (h : Int) (i : Int) (p : List Int) : St := { nt := 32, tm := [(0, .v (.c (.ro false 5 (.int .u8) code))), (3, .v (.c (.int .i64 h))), (4, .v (.c (.int .i64 i)))], bx := [], bl := [], sp := .v (.c (.ro false 5 (.int .u8) p)) }
noncomputable def spec_l1New_1_e0 (code : List Int) (h : Int) (p : List Int) : St := { nt := 32, tm := [(0, .v (.c (.ro false 5 (.int .u8) code))), (3, .v (.c (.int .i64 h)))], bx := [], bl := [], sp := .v (.c (.ro false 5 (.int .u8) p)) }
noncomputable def spec_l1New_1 (st : St) : Option α := lp Tryz.prog (look spec_l1New_C) F spec_l1New_H (sub [.r, .r, .l, .r, .b, .i] (codeOf Tryz.f27)) κ n st
noncomputable def spec_l1New_1_k : Ex → St → Option (Args [(K2, true)] × Args []) := cont Tryz.prog (look spec_l1New_C) F spec_l1New_H [.r, .r, .l, .r, .b] (codeOf Tryz.f27) (fin2 Tryz.prog Tryz.f27 .rd [(K2, true)] [] 5)
theorem spec_l1New_1_step (code : List Int) (h : Int) (i : Int) (p : List Int) : spec_l1New_1 F κ (n + 1) (spec_l1New_1_s code h i p) = br (decide (i < (code.length : Int))) (br (decide (i < 4000)) (ck (okI i (code.length : Int)) (spec_l1New_1 F κ n (spec_l1New_1_s code (w64 (((BitVec.ofInt 64 (w64 ((w64 ((w64 (h * 131)) + (w64 (at_ code i 0)))) + 7)) &&& BitVec.ofInt 64 1073741823).toNat : Int))) (w64 (i + 1)) p))) (κ (.exit 0) (spec_l1New_1_e0 code h p))) (κ (.exit 0) (spec_l1New_1_e0 code h p)) := by kernel_rfl
theorem spec_l1New_1_ce0 (code : List Int) (h : Int) (p : List Int) : spec_l1New_1_k F (.exit 0) (spec_l1New_1_e0 code h p) = some (((code, (0, h)), ()), ()) := by kernel_rfl
noncomputable def spec_l1New (code : List Int) : Option (Args [(K2, true)] × Args []) := runF2 Tryz.prog (look spec_l1New_C) F spec_l1New_H Tryz.f27 [(.sl 5 (.int .u8), false)] 0 .rd [(K2, true)] [] 5 (code, ())
theorem spec_l1New_eq (code : List Int) : spec_l1New F code = spec_l1New_1 F (spec_l1New_1_k F) F.n (spec_l1New_1_s code (w64 (26583 + (code.length : Int))) 0 code) := by kernel_rfl
noncomputable def spec_l1New_con : Any := .two ⟨[(.sl 5 (.int .u8), false)], 0, .rd, [(K2, true)], 5, [], fun x => spec_l1New F0 x.1⟩
theorem spec_l1New_ok : AnyOk Tryz.prog TB 27 spec_l1New_con := ok2 (show AllOk Tryz.prog TB spec_l1New_C from trivial) Tryz.func27 (by kernel_rfl) (by kernel_rfl) spec_l1New_H (by kernel_rfl)

/-! ### spec.l1Byte -/
noncomputable def spec_l1Byte_C : List (Nat × Any) := []
noncomputable def spec_l1Byte_H : Nat → Option Hint := look []
noncomputable def spec_l1Byte (c : D2) : Option (Args [(.int .i64, false)] × Args [(K2, true)]) := runF2 Tryz.prog (look spec_l1Byte_C) F spec_l1Byte_H Tryz.f66 [(K2, true)] 0 .cur [(.int .i64, false)] [(K2, true)] 1 (c, ())
theorem spec_l1Byte_eq (c : D2) : spec_l1Byte F c = br (decide (c.2.1 < (c.1.length : Int))) (ck (okI c.2.1 (c.1.length : Int)) (some ((w64 (((BitVec.ofInt 64 (w64 ((w64 (((BitVec.ofInt 64 (w64 (((BitVec.ofInt 64 (Int.fdiv (w64 ((w64 (c.2.2 * 6364136223846793005)) + 1442695040888963407)) (2 ^ (min (33 : Int).toNat 64))) ^^^ BitVec.ofInt 64 (Int.fdiv (w64 ((w64 (c.2.2 * 6364136223846793005)) + 1442695040888963407)) (2 ^ (min (45 : Int).toNat 64)))).toNat : Int))) &&& BitVec.ofInt 64 255).toNat : Int))) + (w64 (at_ c.1 c.2.1 0)))) &&& BitVec.ofInt 64 255).toNat : Int)), ()), ((c.1, (w64 (c.2.1 + 1), w64 ((w64 (c.2.2 * 6364136223846793005)) + 1442695040888963407))), ())))) (some ((w64 (((BitVec.ofInt 64 (w64 (((BitVec.ofInt 64 (Int.fdiv (w64 ((w64 (c.2.2 * 6364136223846793005)) + 1442695040888963407)) (2 ^ (min (33 : Int).toNat 64))) ^^^ BitVec.ofInt 64 (Int.fdiv (w64 ((w64 (c.2.2 * 6364136223846793005)) + 1442695040888963407)) (2 ^ (min (45 : Int).toNat 64)))).toNat : Int))) &&& BitVec.ofInt 64 255).toNat : Int)), ()), ((c.1, (c.2.1, w64 ((w64 (c.2.2 * 6364136223846793005)) + 1442695040888963407))), ()))) := by kernel_rfl
noncomputable def spec_l1Byte_con : Any := .two ⟨[(K2, true)], 0, .cur, [(.int .i64, false)], 1, [(K2, true)], fun x => spec_l1Byte F0 x.1⟩
theorem spec_l1Byte_ok : AnyOk Tryz.prog TB 66 spec_l1Byte_con := ok3 (show AllOk Tryz.prog TB spec_l1Byte_C from trivial) Tryz.func66 (by kernel_rfl) (by kernel_rfl) spec_l1Byte_H (by kernel_rfl) (by kernel_rfl)

/-! ### spec.l1Below -/
noncomputable def spec_l1Below_C : List (Nat × Any) := [(66, spec_l1Byte_con)]
noncomputable def spec_l1Below_H : Nat → Option Hint := look []
noncomputable def spec_l1Below (c : D2) (n1 : Int) : Option (Args [(.int .i64, false)] × Args [(K2, true)]) := runF2 Tryz.prog (look spec_l1Below_C) F spec_l1Below_H Tryz.f32 [(K2, true), (.int .i64, false)] 0 .cur [(.int .i64, false)] [(K2, true)] 1 (c, n1, ())
theorem spec_l1Below_eq (c : D2) (n1 : Int) : spec_l1Below F c n1 = br (decide (n1 ≤ 0)) (some ((0, ()), (c, ()))) (br (decide (n1 ≤ 256)) ((spec_l1Byte F0 c).bind fun r14 => ck (!(n1 == 0)) (some ((Int.tmod r14.1.1 n1, ()), (r14.2.1, ())))) ((spec_l1Byte F0 c).bind fun r18 => (spec_l1Byte F0 r18.2.1).bind fun r20 => (spec_l1Byte F0 r20.2.1).bind fun r22 => (spec_l1Byte F0 r22.2.1).bind fun r24 => ck (!(n1 == 0)) (some ((Int.tmod (w64 ((w64 ((w64 ((w64 (r18.1.1 * 16777216)) + (w64 (r20.1.1 * 65536)))) + (w64 (r22.1.1 * 256)))) + r24.1.1)) n1, ()), (r24.2.1, ()))))) := by kernel_rfl
noncomputable def spec_l1Below_con : Any := .two ⟨[(K2, true), (.int .i64, false)], 0, .cur, [(.int .i64, false)], 1, [(K2, true)], fun x => spec_l1Below F0 x.1 x.2.1⟩
theorem spec_l1Below_ok : AnyOk Tryz.prog TB 32 spec_l1Below_con := ok3 (show AllOk Tryz.prog TB spec_l1Below_C from ⟨spec_l1Byte_ok, trivial⟩) Tryz.func32 (by kernel_rfl) (by kernel_rfl) spec_l1Below_H (by kernel_rfl) (by kernel_rfl)

/-! ### spec.l1Once -/
noncomputable def spec_l1Once_C : List (Nat × Any) := [(32, spec_l1Below_con)]
noncomputable def spec_l1Once_H : Nat → Option Hint := look []
noncomputable def spec_l1Once (c : D2) (n1 : Int) : Option (Args [(.bool, false)] × Args [(K2, true)]) := runF2 Tryz.prog (look spec_l1Once_C) F spec_l1Once_H Tryz.f29 [(K2, true), (.int .i64, false)] 0 .cur [(.bool, false)] [(K2, true)] 1 (c, n1, ())
theorem spec_l1Once_eq (c : D2) (n1 : Int) : spec_l1Once F c n1 = (spec_l1Below F0 c n1).bind fun r7 => some (((r7.1.1 == 0), ()), (r7.2.1, ())) := by kernel_rfl
noncomputable def spec_l1Once_con : Any := .two ⟨[(K2, true), (.int .i64, false)], 0, .cur, [(.bool, false)], 1, [(K2, true)], fun x => spec_l1Once F0 x.1 x.2.1⟩
theorem spec_l1Once_ok : AnyOk Tryz.prog TB 29 spec_l1Once_con := ok3 (show AllOk Tryz.prog TB spec_l1Once_C from ⟨spec_l1Below_ok, trivial⟩) Tryz.func29 (by kernel_rfl) (by kernel_rfl) spec_l1Once_H (by kernel_rfl) (by kernel_rfl)

/-! ### spec.Digits -/
noncomputable def spec_Digits_C : List (Nat × Any) := []
noncomputable def spec_Digits_H : Nat → Option Hint := look [(5, { live := [0, 3, 4], xl := [3, 4], rl := [2] })]
noncomputable def spec_Digits_1_s (n1 : Int) (below : Bool) (out : ByteArray) : St := { nt := 31, tm := [(0, .v (.c (.int .i64 n1))), (3, .v (.c (.bool below))), (4, .v (.c (.str out)))], bx := [], bl := [] }
noncomputable def spec_Digits_1_e0 (below : Bool) (out : ByteArray) : St := { nt := 31, tm := [(3, .v (.c (.bool below))), (4, .v (.c (.str out)))], bx := [], bl := [] }
noncomputable def spec_Digits_1 (st : St) : Option α := lp Tryz.prog (look spec_Digits_C) F spec_Digits_H (sub [.r, .r, .r, .r, .l, .b, .i] (codeOf Tryz.f62)) κ n st
noncomputable def spec_Digits_1_k : Ex → St → Option (Args [(.str, false)]) := cont Tryz.prog (look spec_Digits_C) F spec_Digits_H [.r, .r, .r, .r, .l, .b] (codeOf Tryz.f62) (fin Tryz.prog Tryz.f62 [(.str, false)] 1)
theorem spec_Digits_1_step (n1 : Int) (below : Bool) (out : ByteArray) : spec_Digits_1 F κ (n + 1) (spec_Digits_1_s n1 below out) = br (n1 != 0) (br (decide ((Int.tmod n1 10) < 0)) (ck (okC F (strOf [IntKind.wrap .u8 (w64 (48 + (w64 (0 - (Int.tmod n1 10)))))]).size out.size) (spec_Digits_1 F κ n (spec_Digits_1_s (w64 (Int.tdiv n1 10)) below ((strOf [IntKind.wrap .u8 (w64 (48 + (w64 (0 - (Int.tmod n1 10)))))]) ++ out)))) (ck (okC F (strOf [IntKind.wrap .u8 (w64 (48 + (Int.tmod n1 10)))]).size out.size) (spec_Digits_1 F κ n (spec_Digits_1_s (w64 (Int.tdiv n1 10)) below ((strOf [IntKind.wrap .u8 (w64 (48 + (Int.tmod n1 10)))]) ++ out))))) (κ (.exit 0) (spec_Digits_1_e0 below out)) := by kernel_rfl
theorem spec_Digits_1_ce0 (below : Bool) (out : ByteArray) : spec_Digits_1_k F (.exit 0) (spec_Digits_1_e0 below out) = br below (ck (okC F (ByteArray.mk #[45]).size out.size) (some ((ByteArray.mk #[45]) ++ out, ()))) (some (out, ())) := by kernel_rfl
noncomputable def spec_Digits (n1 : Int) : Option (Args [(.str, false)]) := runF Tryz.prog (look spec_Digits_C) F spec_Digits_H Tryz.f62 [(.int .i64, false)] [(.str, false)] 1 (n1, ())
theorem spec_Digits_eq (n1 : Int) : spec_Digits F n1 = br (n1 == 0) (some ((ByteArray.mk #[48]), ())) (spec_Digits_1 F (spec_Digits_1_k F) F.n (spec_Digits_1_s n1 (decide (n1 < 0)) (ByteArray.mk #[]))) := by kernel_rfl
noncomputable def spec_Digits_con : Any := .one ⟨[(.int .i64, false)], [(.str, false)], 1, fun x => spec_Digits F0 x.1⟩
theorem spec_Digits_ok : AnyOk Tryz.prog TB 62 spec_Digits_con := ok1 (show AllOk Tryz.prog TB spec_Digits_C from trivial) Tryz.func62 (by kernel_rfl) (by kernel_rfl) spec_Digits_H (by kernel_rfl)

/-! ### spec.l1PickInt -/
noncomputable def spec_l1PickInt_C : List (Nat × Any) := [(32, spec_l1Below_con)]
noncomputable def spec_l1PickInt_H : Nat → Option Hint := look []
noncomputable def spec_l1PickInt (c : D2) (list : List Int) : Option (Args [(.int .i64, false)] × Args [(K2, true)]) := runF2 Tryz.prog (look spec_l1PickInt_C) F spec_l1PickInt_H Tryz.f84 [(K2, true), (.sl 3 (.int .i64), false)] 0 .cur [(.int .i64, false)] [(K2, true)] 1 (c, list, ())
theorem spec_l1PickInt_eq (c : D2) (list : List Int) : spec_l1PickInt F c list = (spec_l1Below F0 c (list.length : Int)).bind fun r9 => ck (okI r9.1.1 (list.length : Int)) (some ((at_ list r9.1.1 0, ()), (r9.2.1, ()))) := by kernel_rfl
noncomputable def spec_l1PickInt_con : Any := .two ⟨[(K2, true), (.sl 3 (.int .i64), false)], 0, .cur, [(.int .i64, false)], 1, [(K2, true)], fun x => spec_l1PickInt F0 x.1 x.2.1⟩
theorem spec_l1PickInt_ok : AnyOk Tryz.prog TB 84 spec_l1PickInt_con := ok3 (show AllOk Tryz.prog TB spec_l1PickInt_C from ⟨spec_l1Below_ok, trivial⟩) Tryz.func84 (by kernel_rfl) (by kernel_rfl) spec_l1PickInt_H (by kernel_rfl) (by kernel_rfl)

/-! ### spec.l2DrawRight -/
noncomputable def spec_l2DrawRight_C : List (Nat × Any) := [(32, spec_l1Below_con), (84, spec_l1PickInt_con)]
noncomputable def spec_l2DrawRight_H : Nat → Option Hint := look []
noncomputable def spec_l2DrawRight (c : D2) : Option (Args [(K4, true)] × Args [(K2, true)]) := runF2 Tryz.prog (look spec_l2DrawRight_C) F spec_l2DrawRight_H Tryz.f102 [(K2, true)] 0 .cur [(K4, true)] [(K2, true)] 1 (c, ())
theorem spec_l2DrawRight_eq (c : D2) : spec_l2DrawRight F c = (spec_l1Below F0 c 4).bind fun r4 => (spec_l1Below F0 r4.2.1 4).bind fun r6 => (spec_l1PickInt F0 r6.2.1 [0, 5, 60, 100, 1000]).bind fun r9 => (spec_l1Below F0 r9.2.1 3).bind fun r11 => some (((r4.1.1, (r6.1.1, (r9.1.1, r11.1.1))), ()), (r11.2.1, ())) := by kernel_rfl
noncomputable def spec_l2DrawRight_con : Any := .two ⟨[(K2, true)], 0, .cur, [(K4, true)], 1, [(K2, true)], fun x => spec_l2DrawRight F0 x.1⟩
theorem spec_l2DrawRight_ok : AnyOk Tryz.prog TB 102 spec_l2DrawRight_con := ok3 (show AllOk Tryz.prog TB spec_l2DrawRight_C from ⟨spec_l1Below_ok, spec_l1PickInt_ok, trivial⟩) Tryz.func102 (by kernel_rfl) (by kernel_rfl) spec_l2DrawRight_H (by kernel_rfl) (by kernel_rfl)

/-! ### spec.l1In -/
noncomputable def spec_l1In_C : List (Nat × Any) := []
noncomputable def spec_l1In_H : Nat → Option Hint := look []
noncomputable def spec_l1In (x : Int) (lo : Int) (hi : Int) : Option (Args [(.bool, false)]) := runF Tryz.prog (look spec_l1In_C) F spec_l1In_H Tryz.f94 [(.int .i64, false), (.int .i64, false), (.int .i64, false)] [(.bool, false)] 1 (x, lo, hi, ())
theorem spec_l1In_eq (x : Int) (lo : Int) (hi : Int) : spec_l1In F x lo hi = br (decide (x ≥ lo)) (some (decide (x ≤ hi), ())) (some (false, ())) := by kernel_rfl
noncomputable def spec_l1In_con : Any := .one ⟨[(.int .i64, false), (.int .i64, false), (.int .i64, false)], [(.bool, false)], 1, fun x => spec_l1In F0 x.1 x.2.1 x.2.2.1⟩
theorem spec_l1In_ok : AnyOk Tryz.prog TB 94 spec_l1In_con := ok1 (show AllOk Tryz.prog TB spec_l1In_C from trivial) Tryz.func94 (by kernel_rfl) (by kernel_rfl) spec_l1In_H (by kernel_rfl)

/-! ### spec.TxOk -/
noncomputable def spec_TxOk_C : List (Nat × Any) := [(94, spec_l1In_con)]
noncomputable def spec_TxOk_H : Nat → Option Hint := look []
noncomputable def spec_TxOk (x : D4) : Option (Args [(.bool, false)]) := runF Tryz.prog (look spec_TxOk_C) F spec_TxOk_H Tryz.f110 [(K4, true)] [(.bool, false)] 1 (x, ())
theorem spec_TxOk_eq (x : D4) : spec_TxOk F x = (spec_l1In F0 x.1 0 3).bind fun r5 => br r5.1 ((spec_l1In F0 x.2.1 0 3).bind fun r9 => br r9.1 ((spec_l1In F0 x.2.2.1 0 1000).bind fun r14 => br r14.1 ((spec_l1In F0 x.2.2.2 0 99).bind fun r19 => some (r19.1, ())) (some (false, ()))) (some (false, ()))) (some (false, ())) := by kernel_rfl
noncomputable def spec_TxOk_con : Any := .one ⟨[(K4, true)], [(.bool, false)], 1, fun x => spec_TxOk F0 x.1⟩
theorem spec_TxOk_ok : AnyOk Tryz.prog TB 110 spec_TxOk_con := ok1 (show AllOk Tryz.prog TB spec_TxOk_C from ⟨spec_l1In_ok, trivial⟩) Tryz.func110 (by kernel_rfl) (by kernel_rfl) spec_TxOk_H (by kernel_rfl)

/-! ### spec.TxText -/
noncomputable def spec_TxText_C : List (Nat × Any) := [(62, spec_Digits_con), (110, spec_TxOk_con)]
noncomputable def spec_TxText_H : Nat → Option Hint := look []
noncomputable def spec_TxText (x : D4) : Option (Args [(.str, false)]) := runF Tryz.prog (look spec_TxText_C) F spec_TxText_H Tryz.f129 [(K4, true)] [(.str, false)] 1 (x, ())
theorem spec_TxText_eq (x : D4) : spec_TxText F x = (spec_TxOk F0 x).bind fun r4 => br (!r4.1) (some ((ByteArray.mk #[]), ())) ((spec_Digits F0 x.1).bind fun r8 => ck (okC F r8.1.size (ByteArray.mk #[62]).size) ((spec_Digits F0 x.2.1).bind fun r12 => ck (okC F (r8.1 ++ (ByteArray.mk #[62])).size r12.1.size) (ck (okC F ((r8.1 ++ (ByteArray.mk #[62])) ++ r12.1).size (ByteArray.mk #[58]).size) ((spec_Digits F0 x.2.2.1).bind fun r17 => ck (okC F (((r8.1 ++ (ByteArray.mk #[62])) ++ r12.1) ++ (ByteArray.mk #[58])).size r17.1.size) (ck (okC F ((((r8.1 ++ (ByteArray.mk #[62])) ++ r12.1) ++ (ByteArray.mk #[58])) ++ r17.1).size (ByteArray.mk #[35]).size) ((spec_Digits F0 x.2.2.2).bind fun r22 => ck (okC F (((((r8.1 ++ (ByteArray.mk #[62])) ++ r12.1) ++ (ByteArray.mk #[58])) ++ r17.1) ++ (ByteArray.mk #[35])).size r22.1.size) (some ((((((r8.1 ++ (ByteArray.mk #[62])) ++ r12.1) ++ (ByteArray.mk #[58])) ++ r17.1) ++ (ByteArray.mk #[35])) ++ r22.1, ())))))))) := by kernel_rfl
noncomputable def spec_TxText_con : Any := .one ⟨[(K4, true)], [(.str, false)], 1, fun x => spec_TxText F0 x.1⟩
theorem spec_TxText_ok : AnyOk Tryz.prog TB 129 spec_TxText_con := ok1 (show AllOk Tryz.prog TB spec_TxText_C from ⟨spec_Digits_ok, spec_TxOk_ok, trivial⟩) Tryz.func129 (by kernel_rfl) (by kernel_rfl) spec_TxText_H (by kernel_rfl)

/-! ### spec.TxsText -/
noncomputable def spec_TxsText_C : List (Nat × Any) := [(110, spec_TxOk_con), (129, spec_TxText_con)]
noncomputable def spec_TxsText_H : Nat → Option Hint := look [(3, { live := [0, 3, 4], xl := [3], rl := [2] })]
noncomputable def spec_TxsText_1_s (list : List D4) (out : ByteArray) (i : Int) : St := { nt := 29, tm := [(0, .v (.c (.ro false 35 (K4) list))), (3, .v (.c (.str out))), (4, .v (.c (.int .i64 i)))], bx := [], bl := [] }
noncomputable def spec_TxsText_1_r (t2 : ByteArray) : St := { nt := 29, tm := [(2, .v (.c (.str t2)))], bx := [], bl := [] }
noncomputable def spec_TxsText_1_e0 (out : ByteArray) : St := { nt := 29, tm := [(3, .v (.c (.str out)))], bx := [], bl := [] }
noncomputable def spec_TxsText_1 (st : St) : Option α := lp Tryz.prog (look spec_TxsText_C) F spec_TxsText_H (sub [.r, .r, .l, .r, .b, .i] (codeOf Tryz.f126)) κ n st
noncomputable def spec_TxsText_1_k : Ex → St → Option (Args [(.str, false)]) := cont Tryz.prog (look spec_TxsText_C) F spec_TxsText_H [.r, .r, .l, .r, .b] (codeOf Tryz.f126) (fin Tryz.prog Tryz.f126 [(.str, false)] 1)
theorem spec_TxsText_1_step (list : List D4) (out : ByteArray) (i : Int) : spec_TxsText_1 F κ (n + 1) (spec_TxsText_1_s list out i) = br (decide (i < (list.length : Int))) (ck (okI i (list.length : Int)) ((spec_TxOk F0 (at_ list i K4.dflt)).bind fun r15 => br (!r15.1) (κ .ret (spec_TxsText_1_r (ByteArray.mk #[]))) (br (decide (i > 0)) (ck (okC F out.size (ByteArray.mk #[44]).size) (ck (okI i (list.length : Int)) ((spec_TxText F0 (at_ list i K4.dflt)).bind fun r26 => ck (okC F (out ++ (ByteArray.mk #[44])).size r26.1.size) (spec_TxsText_1 F κ n (spec_TxsText_1_s list ((out ++ (ByteArray.mk #[44])) ++ r26.1) (w64 (i + 1))))))) (ck (okI i (list.length : Int)) ((spec_TxText F0 (at_ list i K4.dflt)).bind fun r26 => ck (okC F out.size r26.1.size) (spec_TxsText_1 F κ n (spec_TxsText_1_s list (out ++ r26.1) (w64 (i + 1))))))))) (κ (.exit 0) (spec_TxsText_1_e0 out)) := by kernel_rfl
theorem spec_TxsText_1_cr (t2 : ByteArray) : spec_TxsText_1_k F .ret (spec_TxsText_1_r t2) = some (t2, ()) := by kernel_rfl
theorem spec_TxsText_1_ce0 (out : ByteArray) : spec_TxsText_1_k F (.exit 0) (spec_TxsText_1_e0 out) = some (out, ()) := by kernel_rfl
noncomputable def spec_TxsText (list : D5) : Option (Args [(.str, false)]) := runF Tryz.prog (look spec_TxsText_C) F spec_TxsText_H Tryz.f126 [(K5, false)] [(.str, false)] 1 (list, ())
theorem spec_TxsText_eq (list : D5) : spec_TxsText F list = spec_TxsText_1 F (spec_TxsText_1_k F) F.n (spec_TxsText_1_s list (ByteArray.mk #[]) 0) := by kernel_rfl
noncomputable def spec_TxsText_con : Any := .one ⟨[(K5, false)], [(.str, false)], 1, fun x => spec_TxsText F0 x.1⟩
theorem spec_TxsText_ok : AnyOk Tryz.prog TB 126 spec_TxsText_con := ok1 (show AllOk Tryz.prog TB spec_TxsText_C from ⟨spec_TxOk_ok, spec_TxText_ok, trivial⟩) Tryz.func126 (by kernel_rfl) (by kernel_rfl) spec_TxsText_H (by kernel_rfl)

/-! ### spec.Split -/
noncomputable def spec_Split_C : List (Nat × Any) := []
noncomputable def spec_Split_H : Nat → Option Hint := look [(4, { live := [0, 1, 5, 6, 7], xl := [5], rl := [4] })]
noncomputable def spec_Split_1_s (s : ByteArray) (by1 : Int) (from1 : Int) (i : Int) (xs : List ByteArray) : St := { nt := 36, tm := [(0, .v (.c (.str s))), (1, .v (.c (.int .u8 by1))), (5, .v (.c (.own 1000000 none))), (6, .v (.c (.int .i64 from1))), (7, .v (.c (.int .i64 i)))], bx := [], bl := [(1000000, some ⟨9, .str, xs, true, true⟩)] }
noncomputable def spec_Split_1_e0 (xs : List ByteArray) : St := { nt := 36, tm := [(5, .v (.c (.own 1000000 none)))], bx := [], bl := [(1000000, some ⟨9, .str, xs, true, true⟩)] }
noncomputable def spec_Split_1 (st : St) : Option α := lp Tryz.prog (look spec_Split_C) F spec_Split_H (sub [.r, .r, .r, .l, .r, .b, .i] (codeOf Tryz.f73)) κ n st
noncomputable def spec_Split_1_k : Ex → St → Option (Args [(.sl 9 (.str), false)]) := cont Tryz.prog (look spec_Split_C) F spec_Split_H [.r, .r, .r, .l, .r, .b] (codeOf Tryz.f73) (fin Tryz.prog Tryz.f73 [(.sl 9 (.str), false)] 2)
theorem spec_Split_1_step (s : ByteArray) (by1 : Int) (from1 : Int) (i : Int) (xs : List ByteArray) : spec_Split_1 F κ (n + 1) (spec_Split_1_s s by1 from1 i xs) = br (decide (i ≤ (s.size : Int))) (br (i == (s.size : Int)) (ck (okS from1 i (s.size : Int)) (ck (okA F xs.length [s.extract from1.toNat i.toNat].length 16) (spec_Split_1 F κ n (spec_Split_1_s s by1 (w64 (i + 1)) (w64 (i + 1)) (xs ++ [s.extract from1.toNat i.toNat]))))) (ck (okI i (s.size : Int)) (br ((byteAt s i) == by1) (ck (okS from1 i (s.size : Int)) (ck (okA F xs.length [s.extract from1.toNat i.toNat].length 16) (spec_Split_1 F κ n (spec_Split_1_s s by1 (w64 (i + 1)) (w64 (i + 1)) (xs ++ [s.extract from1.toNat i.toNat]))))) (spec_Split_1 F κ n (spec_Split_1_s s by1 from1 (w64 (i + 1)) xs))))) (κ (.exit 0) (spec_Split_1_e0 xs)) := by kernel_rfl
theorem spec_Split_1_ce0 (xs : List ByteArray) : spec_Split_1_k F (.exit 0) (spec_Split_1_e0 xs) = some (xs, ()) := by kernel_rfl
noncomputable def spec_Split (s : ByteArray) (by1 : Int) : Option (Args [(.sl 9 (.str), false)]) := runF Tryz.prog (look spec_Split_C) F spec_Split_H Tryz.f73 [(.str, false), (.int .u8, false)] [(.sl 9 (.str), false)] 2 (s, by1, ())
theorem spec_Split_eq (s : ByteArray) (by1 : Int) : spec_Split F s by1 = spec_Split_1 F (spec_Split_1_k F) F.n (spec_Split_1_s s by1 0 0 []) := by kernel_rfl
noncomputable def spec_Split_con : Any := .one ⟨[(.str, false), (.int .u8, false)], [(.sl 9 (.str), false)], 2, fun x => spec_Split F0 x.1 x.2.1⟩
theorem spec_Split_ok : AnyOk Tryz.prog TB 73 spec_Split_con := ok1 (show AllOk Tryz.prog TB spec_Split_C from trivial) Tryz.func73 (by kernel_rfl) (by kernel_rfl) spec_Split_H (by kernel_rfl)

/-! ### spec.l2Cut -/
noncomputable def spec_l2Cut_C : List (Nat × Any) := []
noncomputable def spec_l2Cut_H : Nat → Option Hint := look [(2, { live := [0, 1, 7], rl := [4, 5, 6] })]
noncomputable def spec_l2Cut_1_s (s : ByteArray) (by1 : Int) (i : Int) : St := { nt := 26, tm := [(0, .v (.c (.str s))), (1, .v (.c (.int .u8 by1))), (7, .v (.c (.int .i64 i)))], bx := [], bl := [] }
noncomputable def spec_l2Cut_1_r (t4 : ByteArray) (t5 : ByteArray) (t6 : Bool) : St := { nt := 26, tm := [(4, .v (.c (.str t4))), (5, .v (.c (.str t5))), (6, .v (.c (.bool t6)))], bx := [], bl := [] }
noncomputable def spec_l2Cut_1_e0  : St := { nt := 26, tm := [], bx := [], bl := [] }
noncomputable def spec_l2Cut_1 (st : St) : Option α := lp Tryz.prog (look spec_l2Cut_C) F spec_l2Cut_H (sub [.r, .l, .r, .b, .i] (codeOf Tryz.f74)) κ n st
noncomputable def spec_l2Cut_1_k : Ex → St → Option (Args [(.str, false), (.str, false), (.bool, false)]) := cont Tryz.prog (look spec_l2Cut_C) F spec_l2Cut_H [.r, .l, .r, .b] (codeOf Tryz.f74) (fin Tryz.prog Tryz.f74 [(.str, false), (.str, false), (.bool, false)] 1)
theorem spec_l2Cut_1_step (s : ByteArray) (by1 : Int) (i : Int) : spec_l2Cut_1 F κ (n + 1) (spec_l2Cut_1_s s by1 i) = br (decide (i < (s.size : Int))) (ck (okI i (s.size : Int)) (br ((byteAt s i) == by1) (ck (okS 0 i (s.size : Int)) (ck (okS (w64 (i + 1)) (s.size : Int) (s.size : Int)) (κ .ret (spec_l2Cut_1_r (s.extract (0 : Int).toNat i.toNat) (s.extract (w64 (i + 1)).toNat (s.size : Int).toNat) true)))) (spec_l2Cut_1 F κ n (spec_l2Cut_1_s s by1 (w64 (i + 1)))))) (κ (.exit 0) (spec_l2Cut_1_e0 )) := by kernel_rfl
theorem spec_l2Cut_1_cr (t4 : ByteArray) (t5 : ByteArray) (t6 : Bool) : spec_l2Cut_1_k F .ret (spec_l2Cut_1_r t4 t5 t6) = some (t4, t5, t6, ()) := by kernel_rfl
theorem spec_l2Cut_1_ce0  : spec_l2Cut_1_k F (.exit 0) (spec_l2Cut_1_e0 ) = some ((ByteArray.mk #[]), (ByteArray.mk #[]), false, ()) := by kernel_rfl
noncomputable def spec_l2Cut (s : ByteArray) (by1 : Int) : Option (Args [(.str, false), (.str, false), (.bool, false)]) := runF Tryz.prog (look spec_l2Cut_C) F spec_l2Cut_H Tryz.f74 [(.str, false), (.int .u8, false)] [(.str, false), (.str, false), (.bool, false)] 1 (s, by1, ())
theorem spec_l2Cut_eq (s : ByteArray) (by1 : Int) : spec_l2Cut F s by1 = spec_l2Cut_1 F (spec_l2Cut_1_k F) F.n (spec_l2Cut_1_s s by1 0) := by kernel_rfl
noncomputable def spec_l2Cut_con : Any := .one ⟨[(.str, false), (.int .u8, false)], [(.str, false), (.str, false), (.bool, false)], 1, fun x => spec_l2Cut F0 x.1 x.2.1⟩
theorem spec_l2Cut_ok : AnyOk Tryz.prog TB 74 spec_l2Cut_con := ok1 (show AllOk Tryz.prog TB spec_l2Cut_C from trivial) Tryz.func74 (by kernel_rfl) (by kernel_rfl) spec_l2Cut_H (by kernel_rfl)

/-! ### spec.Number -/
noncomputable def spec_Number_C : List (Nat × Any) := [(62, spec_Digits_con)]
noncomputable def spec_Number_H : Nat → Option Hint := look [(5, { live := [0, 4, 5], xl := [0, 4], rl := [2, 3] })]
noncomputable def spec_Number_1_s (s : ByteArray) (n1 : Int) (i : Int) : St := { nt := 43, tm := [(0, .v (.c (.str s))), (4, .v (.c (.int .i64 n1))), (5, .v (.c (.int .i64 i)))], bx := [], bl := [] }
noncomputable def spec_Number_1_r (t2 : Int) (t3 : Bool) : St := { nt := 43, tm := [(2, .v (.c (.int .i64 t2))), (3, .v (.c (.bool t3)))], bx := [], bl := [] }
noncomputable def spec_Number_1_e0 (s : ByteArray) (n1 : Int) : St := { nt := 43, tm := [(0, .v (.c (.str s))), (4, .v (.c (.int .i64 n1)))], bx := [], bl := [] }
noncomputable def spec_Number_1 (st : St) : Option α := lp Tryz.prog (look spec_Number_C) F spec_Number_H (sub [.r, .r, .r, .l, .r, .b, .i] (codeOf Tryz.f75)) κ n st
noncomputable def spec_Number_1_k : Ex → St → Option (Args [(.int .i64, false), (.bool, false)]) := cont Tryz.prog (look spec_Number_C) F spec_Number_H [.r, .r, .r, .l, .r, .b] (codeOf Tryz.f75) (fin Tryz.prog Tryz.f75 [(.int .i64, false), (.bool, false)] 1)
theorem spec_Number_1_step (s : ByteArray) (n1 : Int) (i : Int) : spec_Number_1 F κ (n + 1) (spec_Number_1_s s n1 i) = br (decide (i < (s.size : Int))) (ck (okI i (s.size : Int)) (br (decide ((byteAt s i) < 48)) (κ .ret (spec_Number_1_r 0 false)) (ck (okI i (s.size : Int)) (br (decide ((byteAt s i) > 57)) (κ .ret (spec_Number_1_r 0 false)) (ck (okI i (s.size : Int)) (spec_Number_1 F κ n (spec_Number_1_s s (w64 ((w64 ((w64 (10 * n1)) + (w64 (byteAt s i)))) - 48)) (w64 (i + 1))))))))) (κ (.exit 0) (spec_Number_1_e0 s n1)) := by kernel_rfl
theorem spec_Number_1_cr (t2 : Int) (t3 : Bool) : spec_Number_1_k F .ret (spec_Number_1_r t2 t3) = some (t2, t3, ()) := by kernel_rfl
theorem spec_Number_1_ce0 (s : ByteArray) (n1 : Int) : spec_Number_1_k F (.exit 0) (spec_Number_1_e0 s n1) = (spec_Digits F0 n1).bind fun r39 => br (!(r39.1.toList == s.toList)) (some (0, false, ())) (some (n1, true, ())) := by kernel_rfl
noncomputable def spec_Number (s : ByteArray) : Option (Args [(.int .i64, false), (.bool, false)]) := runF Tryz.prog (look spec_Number_C) F spec_Number_H Tryz.f75 [(.str, false)] [(.int .i64, false), (.bool, false)] 1 (s, ())
theorem spec_Number_eq (s : ByteArray) : spec_Number F s = br (decide ((s.size : Int) < 1)) (some (0, false, ())) (br (decide ((s.size : Int) > 6)) (some (0, false, ())) (spec_Number_1 F (spec_Number_1_k F) F.n (spec_Number_1_s s 0 0))) := by kernel_rfl
noncomputable def spec_Number_con : Any := .one ⟨[(.str, false)], [(.int .i64, false), (.bool, false)], 1, fun x => spec_Number F0 x.1⟩
theorem spec_Number_ok : AnyOk Tryz.prog TB 75 spec_Number_con := ok1 (show AllOk Tryz.prog TB spec_Number_C from ⟨spec_Digits_ok, trivial⟩) Tryz.func75 (by kernel_rfl) (by kernel_rfl) spec_Number_H (by kernel_rfl)

/-! ### spec.TxOf -/
noncomputable def spec_TxOf_C : List (Nat × Any) := [(74, spec_l2Cut_con), (75, spec_Number_con), (129, spec_TxText_con)]
noncomputable def spec_TxOf_H : Nat → Option Hint := look []
noncomputable def spec_TxOf (s : ByteArray) : Option (Args [(K4, true), (.bool, false)]) := runF Tryz.prog (look spec_TxOf_C) F spec_TxOf_H Tryz.f108 [(.str, false)] [(K4, true), (.bool, false)] 1 (s, ())
theorem spec_TxOf_eq (s : ByteArray) : spec_TxOf F s = (spec_l2Cut F0 s 62).bind fun r16 => (spec_l2Cut F0 r16.2.1 58).bind fun r22 => (spec_l2Cut F0 r22.2.1 35).bind fun r28 => (spec_Number F0 r16.1).bind fun r35 => (spec_Number F0 r22.1).bind fun r41 => (spec_Number F0 r28.1).bind fun r47 => (spec_Number F0 r28.2.1).bind fun r53 => br (s.toList == (ByteArray.mk #[]).toList) (some ((0, (0, (0, 0))), false, ())) ((spec_TxText F0 (r35.1, (r41.1, (r47.1, r53.1)))).bind fun r61 => br (!(r61.1.toList == s.toList)) (some ((0, (0, (0, 0))), false, ())) (some ((r35.1, (r41.1, (r47.1, r53.1))), true, ()))) := by kernel_rfl
noncomputable def spec_TxOf_con : Any := .one ⟨[(.str, false)], [(K4, true), (.bool, false)], 1, fun x => spec_TxOf F0 x.1⟩
theorem spec_TxOf_ok : AnyOk Tryz.prog TB 108 spec_TxOf_con := ok1 (show AllOk Tryz.prog TB spec_TxOf_C from ⟨spec_l2Cut_ok, spec_Number_ok, spec_TxText_ok, trivial⟩) Tryz.func108 (by kernel_rfl) (by kernel_rfl) spec_TxOf_H (by kernel_rfl)

/-! ### spec.TxsOf -/
noncomputable def spec_TxsOf_C : List (Nat × Any) := [(73, spec_Split_con), (108, spec_TxOf_con)]
noncomputable def spec_TxsOf_H : Nat → Option Hint := look [(6, { live := [4, 5, 6], xl := [4], rl := [2, 3] })]
noncomputable def spec_TxsOf_1_s (i : Int) (xs : List D4) (xs1 : List ByteArray) : St := { nt := 37, tm := [(4, .v (.c (.own 1000000 none))), (5, .v (.c (.own 1000001 none))), (6, .v (.c (.int .i64 i)))], bx := [], bl := [(1000000, some ⟨35, K4, xs, true, true⟩), (1000001, some ⟨9, .str, xs1, true, true⟩)] }
noncomputable def spec_TxsOf_1_r (t3 : Bool) (xs : List D4) : St := { nt := 37, tm := [(2, .v (.c (.own 1000000 none))), (3, .v (.c (.bool t3)))], bx := [], bl := [(1000000, some ⟨35, K4, xs, true, true⟩)] }
noncomputable def spec_TxsOf_1_e0 (xs : List D4) : St := { nt := 37, tm := [(4, .v (.c (.own 1000000 none)))], bx := [], bl := [(1000000, some ⟨35, K4, xs, true, true⟩)] }
noncomputable def spec_TxsOf_1 (st : St) : Option α := lp Tryz.prog (look spec_TxsOf_C) F spec_TxsOf_H (sub [.r, .r, .r, .r, .l, .r, .b, .i] (codeOf Tryz.f76)) κ n st
noncomputable def spec_TxsOf_1_k : Ex → St → Option (Args [(K5, false), (.bool, false)]) := cont Tryz.prog (look spec_TxsOf_C) F spec_TxsOf_H [.r, .r, .r, .r, .l, .r, .b] (codeOf Tryz.f76) (fin Tryz.prog Tryz.f76 [(K5, false), (.bool, false)] 2)
theorem spec_TxsOf_1_step (i : Int) (xs : List D4) (xs1 : List ByteArray) : spec_TxsOf_1 F κ (n + 1) (spec_TxsOf_1_s i xs xs1) = br (decide (i < (xs1.length : Int))) (ck (okI i (xs1.length : Int)) ((spec_TxOf F0 (at_ xs1 i ByteArray.empty)).bind fun r26 => br (!r26.2.1) (κ .ret (spec_TxsOf_1_r false [])) (ck (okA F xs.length [r26.1].length 32) (spec_TxsOf_1 F κ n (spec_TxsOf_1_s (w64 (i + 1)) (xs ++ [r26.1]) xs1))))) (κ (.exit 0) (spec_TxsOf_1_e0 xs)) := by kernel_rfl
theorem spec_TxsOf_1_cr (t3 : Bool) (xs : List D4) : spec_TxsOf_1_k F .ret (spec_TxsOf_1_r t3 xs) = some (xs, t3, ()) := by kernel_rfl
theorem spec_TxsOf_1_ce0 (xs : List D4) : spec_TxsOf_1_k F (.exit 0) (spec_TxsOf_1_e0 xs) = some (xs, true, ()) := by kernel_rfl
noncomputable def spec_TxsOf (s : ByteArray) : Option (Args [(K5, false), (.bool, false)]) := runF Tryz.prog (look spec_TxsOf_C) F spec_TxsOf_H Tryz.f76 [(.str, false)] [(K5, false), (.bool, false)] 2 (s, ())
theorem spec_TxsOf_eq (s : ByteArray) : spec_TxsOf F s = br (s.toList == (ByteArray.mk #[]).toList) (some ([], true, ())) ((spec_Split F0 s 44).bind fun r14 => spec_TxsOf_1 F (spec_TxsOf_1_k F) F.n (spec_TxsOf_1_s 0 [] r14.1)) := by kernel_rfl
noncomputable def spec_TxsOf_con : Any := .one ⟨[(.str, false)], [(K5, false), (.bool, false)], 2, fun x => spec_TxsOf F0 x.1⟩
theorem spec_TxsOf_ok : AnyOk Tryz.prog TB 76 spec_TxsOf_con := ok1 (show AllOk Tryz.prog TB spec_TxsOf_C from ⟨spec_Split_ok, spec_TxOf_ok, trivial⟩) Tryz.func76 (by kernel_rfl) (by kernel_rfl) spec_TxsOf_H (by kernel_rfl)

/-! ### spec.Steps -/
noncomputable def spec_Steps_C : List (Nat × Any) := [(73, spec_Split_con), (74, spec_l2Cut_con), (75, spec_Number_con), (76, spec_TxsOf_con)]
noncomputable def spec_Steps_H : Nat → Option Hint := look [(10, { live := [4, 5, 6, 7, 8], xl := [5], rl := [2, 3] })]
noncomputable def spec_Steps_1_s (last : Int) (i : Int) (xs : List D6) (xs1 : List D6) (xs2 : List ByteArray) : St := { nt := 91, tm := [(4, .v (.c (.own 1000000 none))), (5, .v (.c (.own 1000001 none))), (6, .v (.c (.own 1000002 none))), (7, .v (.c (.int .i64 last))), (8, .v (.c (.int .i64 i)))], bx := [], bl := [(1000000, some ⟨69, K6, xs, true, true⟩), (1000001, some ⟨69, K6, xs1, true, true⟩), (1000002, some ⟨9, .str, xs2, true, true⟩)] }
noncomputable def spec_Steps_1_r (t3 : Bool) (xs : List D6) : St := { nt := 91, tm := [(2, .v (.c (.own 1000000 none))), (3, .v (.c (.bool t3)))], bx := [], bl := [(1000000, some ⟨69, K6, xs, true, true⟩)] }
noncomputable def spec_Steps_1_e0 (xs : List D6) : St := { nt := 91, tm := [(5, .v (.c (.own 1000000 none)))], bx := [], bl := [(1000000, some ⟨69, K6, xs, true, true⟩)] }
noncomputable def spec_Steps_1 (st : St) : Option α := lp Tryz.prog (look spec_Steps_C) F spec_Steps_H (sub [.r, .r, .r, .r, .r, .r, .r, .l, .r, .b, .i] (codeOf Tryz.f37)) κ n st
noncomputable def spec_Steps_1_k : Ex → St → Option (Args [(K7, false), (.bool, false)]) := cont Tryz.prog (look spec_Steps_C) F spec_Steps_H [.r, .r, .r, .r, .r, .r, .r, .l, .r, .b] (codeOf Tryz.f37) (fin Tryz.prog Tryz.f37 [(K7, false), (.bool, false)] 2)
theorem spec_Steps_1_step (last : Int) (i : Int) (xs : List D6) (xs1 : List D6) (xs2 : List ByteArray) : spec_Steps_1 F κ (n + 1) (spec_Steps_1_s last i xs xs1 xs2) = br (decide (i < (xs2.length : Int))) (ck (okI i (xs2.length : Int)) ((spec_l2Cut F0 (at_ xs2 i ByteArray.empty) 124).bind fun r44 => (spec_Number F0 r44.1).bind fun r50 => (spec_TxsOf F0 r44.2.1).bind fun r55 => br (!r44.2.2.1) (κ .ret (spec_Steps_1_r false xs)) (br (!r50.2.1) (κ .ret (spec_Steps_1_r false xs)) (br (!r55.2.1) (κ .ret (spec_Steps_1_r false xs)) (br (decide (r50.1 ≤ last)) (κ .ret (spec_Steps_1_r false xs)) (br (decide (r50.1 > 60)) (κ .ret (spec_Steps_1_r false xs)) (br (decide ((r55.1.length : Int) > 2)) (κ .ret (spec_Steps_1_r false xs)) (ck (okA F xs1.length [(r50.1, r55.1)].length 32) (spec_Steps_1 F κ n (spec_Steps_1_s r50.1 (w64 (i + 1)) xs (xs1 ++ [(r50.1, r55.1)]) xs2)))))))))) (κ (.exit 0) (spec_Steps_1_e0 xs1)) := by kernel_rfl
theorem spec_Steps_1_cr (t3 : Bool) (xs : List D6) : spec_Steps_1_k F .ret (spec_Steps_1_r t3 xs) = some (xs, t3, ()) := by kernel_rfl
theorem spec_Steps_1_ce0 (xs : List D6) : spec_Steps_1_k F (.exit 0) (spec_Steps_1_e0 xs) = some (xs, true, ()) := by kernel_rfl
noncomputable def spec_Steps (s : ByteArray) : Option (Args [(K7, false), (.bool, false)]) := runF Tryz.prog (look spec_Steps_C) F spec_Steps_H Tryz.f37 [(.str, false)] [(K7, false), (.bool, false)] 2 (s, ())
theorem spec_Steps_eq (s : ByteArray) : spec_Steps F s = br (s.toList == (ByteArray.mk #[]).toList) (some ([], true, ())) ((spec_Split F0 s 47).bind fun r22 => ck (okI 0 (r22.1.length : Int)) (br (!((at_ r22.1 0 ByteArray.empty).toList == (ByteArray.mk #[]).toList)) (some ([], false, ())) (br (decide ((r22.1.length : Int) > 31)) (some ([], false, ())) (spec_Steps_1 F (spec_Steps_1_k F) F.n (spec_Steps_1_s 0 1 [] [] r22.1))))) := by kernel_rfl
noncomputable def spec_Steps_con : Any := .one ⟨[(.str, false)], [(K7, false), (.bool, false)], 2, fun x => spec_Steps F0 x.1⟩
theorem spec_Steps_ok : AnyOk Tryz.prog TB 37 spec_Steps_con := ok1 (show AllOk Tryz.prog TB spec_Steps_C from ⟨spec_Split_ok, spec_l2Cut_ok, spec_Number_ok, spec_TxsOf_ok, trivial⟩) Tryz.func37 (by kernel_rfl) (by kernel_rfl) spec_Steps_H (by kernel_rfl)

/-! ### spec.NameOk -/
noncomputable def spec_NameOk_C : List (Nat × Any) := [(37, spec_Steps_con)]
noncomputable def spec_NameOk_H : Nat → Option Hint := look []
noncomputable def spec_NameOk (s : ByteArray) : Option (Args [(.bool, false)]) := runF Tryz.prog (look spec_NameOk_C) F spec_NameOk_H Tryz.f122 [(.str, false)] [(.bool, false)] 1 (s, ())
theorem spec_NameOk_eq (s : ByteArray) : spec_NameOk F s = (spec_Steps F0 s).bind fun r7 => some (r7.2.1, ()) := by kernel_rfl
noncomputable def spec_NameOk_con : Any := .one ⟨[(.str, false)], [(.bool, false)], 1, fun x => spec_NameOk F0 x.1⟩
theorem spec_NameOk_ok : AnyOk Tryz.prog TB 122 spec_NameOk_con := ok1 (show AllOk Tryz.prog TB spec_NameOk_C from ⟨spec_Steps_ok, trivial⟩) Tryz.func122 (by kernel_rfl) (by kernel_rfl) spec_NameOk_H (by kernel_rfl)

/-! ### spec.NameOf -/
noncomputable def spec_NameOf_C : List (Nat × Any) := [(62, spec_Digits_con), (110, spec_TxOk_con), (122, spec_NameOk_con), (126, spec_TxsText_con)]
noncomputable def spec_NameOf_H : Nat → Option Hint := look [(2, { live := [0, 1, 2, 7], xl := [0, 1, 2], rl := [6] })]
noncomputable def spec_NameOf_1_s (up : ByteArray) (view : Int) (list : List D4) (i : Int) : St := { nt := 34, tm := [(0, .v (.c (.str up))), (1, .v (.c (.int .i64 view))), (2, .v (.c (.ro false 35 (K4) list))), (7, .v (.c (.int .i64 i)))], bx := [], bl := [] }
noncomputable def spec_NameOf_1_r (t6 : ByteArray) : St := { nt := 34, tm := [(6, .v (.c (.str t6)))], bx := [], bl := [] }
noncomputable def spec_NameOf_1_e0 (up : ByteArray) (view : Int) (list : List D4) : St := { nt := 34, tm := [(0, .v (.c (.str up))), (1, .v (.c (.int .i64 view))), (2, .v (.c (.ro false 35 (K4) list)))], bx := [], bl := [] }
noncomputable def spec_NameOf_1 (st : St) : Option α := lp Tryz.prog (look spec_NameOf_C) F spec_NameOf_H (sub [.r, .l, .r, .b, .i] (codeOf Tryz.f103)) κ n st
noncomputable def spec_NameOf_1_k : Ex → St → Option (Args [(.str, false)]) := cont Tryz.prog (look spec_NameOf_C) F spec_NameOf_H [.r, .l, .r, .b] (codeOf Tryz.f103) (fin Tryz.prog Tryz.f103 [(.str, false)] 1)
theorem spec_NameOf_1_step (up : ByteArray) (view : Int) (list : List D4) (i : Int) : spec_NameOf_1 F κ (n + 1) (spec_NameOf_1_s up view list i) = br (decide (i < (list.length : Int))) (ck (okI i (list.length : Int)) ((spec_TxOk F0 (at_ list i K4.dflt)).bind fun r19 => br (!r19.1) (κ .ret (spec_NameOf_1_r (ByteArray.mk #[]))) (spec_NameOf_1 F κ n (spec_NameOf_1_s up view list (w64 (i + 1)))))) (κ (.exit 0) (spec_NameOf_1_e0 up view list)) := by kernel_rfl
theorem spec_NameOf_1_cr (t6 : ByteArray) : spec_NameOf_1_k F .ret (spec_NameOf_1_r t6) = some (t6, ()) := by kernel_rfl
theorem spec_NameOf_1_ce0 (up : ByteArray) (view : Int) (list : List D4) : spec_NameOf_1_k F (.exit 0) (spec_NameOf_1_e0 up view list) = ck (okC F up.size (ByteArray.mk #[47]).size) ((spec_Digits F0 view).bind fun r24 => ck (okC F (up ++ (ByteArray.mk #[47])).size r24.1.size) (ck (okC F ((up ++ (ByteArray.mk #[47])) ++ r24.1).size (ByteArray.mk #[124]).size) ((spec_TxsText F0 list).bind fun r28 => ck (okC F (((up ++ (ByteArray.mk #[47])) ++ r24.1) ++ (ByteArray.mk #[124])).size r28.1.size) ((spec_NameOk F0 ((((up ++ (ByteArray.mk #[47])) ++ r24.1) ++ (ByteArray.mk #[124])) ++ r28.1)).bind fun r31 => br (!r31.1) (some ((ByteArray.mk #[]), ())) (some ((((up ++ (ByteArray.mk #[47])) ++ r24.1) ++ (ByteArray.mk #[124])) ++ r28.1, ())))))) := by kernel_rfl
noncomputable def spec_NameOf (up : ByteArray) (view : Int) (list : D5) : Option (Args [(.str, false)]) := runF Tryz.prog (look spec_NameOf_C) F spec_NameOf_H Tryz.f103 [(.str, false), (.int .i64, false), (K5, false)] [(.str, false)] 1 (up, view, list, ())
theorem spec_NameOf_eq (up : ByteArray) (view : Int) (list : D5) : spec_NameOf F up view list = spec_NameOf_1 F (spec_NameOf_1_k F) F.n (spec_NameOf_1_s up view list 0) := by kernel_rfl
noncomputable def spec_NameOf_con : Any := .one ⟨[(.str, false), (.int .i64, false), (K5, false)], [(.str, false)], 1, fun x => spec_NameOf F0 x.1 x.2.1 x.2.2.1⟩
theorem spec_NameOf_ok : AnyOk Tryz.prog TB 103 spec_NameOf_con := ok1 (show AllOk Tryz.prog TB spec_NameOf_C from ⟨spec_Digits_ok, spec_TxOk_ok, spec_NameOk_ok, spec_TxsText_ok, trivial⟩) Tryz.func103 (by kernel_rfl) (by kernel_rfl) spec_NameOf_H (by kernel_rfl)

/-! ### spec.l5DrawRight -/
noncomputable def spec_l5DrawRight_C : List (Nat × Any) := [(32, spec_l1Below_con), (102, spec_l2DrawRight_con), (103, spec_NameOf_con)]
noncomputable def spec_l5DrawRight_H : Nat → Option Hint := look [(4, { live := [0, 3, 4, 5], xl := [3], rl := [2] }), (9, { live := [0, 3, 4, 5, 6, 7], xl := [0, 3, 4, 5, 6], rl := [2] })]
noncomputable def spec_l5DrawRight_2_s (s : ByteArray) (view : Int) (i : Int) (k : Int) (t4000000 : List Int) (t40000001 : Int) (t40000002 : Int) (xs : List D4) : St := { nt := 37, tm := [(0, .v (.c (.ptr 4000000 0))), (3, .v (.c (.str s))), (4, .v (.c (.int .i64 view))), (5, .v (.c (.int .i64 i))), (6, .v (.c (.own 1000000 none))), (7, .v (.c (.int .i64 k)))], bx := [(4000000, [.ro true 5 (.int .u8) t4000000, .int .i64 t40000001, .int .i64 t40000002])], bl := [(1000000, some ⟨35, K4, xs, true, true⟩)], sp := .v (.c (.ptr 4000000 0)) }
noncomputable def spec_l5DrawRight_2_e2 (s : ByteArray) (view : Int) (i : Int) (t4000000 : List Int) (t40000001 : Int) (t40000002 : Int) (xs : List D4) : St := { nt := 37, tm := [(0, .v (.c (.ptr 4000000 0))), (3, .v (.c (.str s))), (4, .v (.c (.int .i64 view))), (5, .v (.c (.int .i64 i))), (6, .v (.c (.own 1000000 none)))], bx := [(4000000, [.ro true 5 (.int .u8) t4000000, .int .i64 t40000001, .int .i64 t40000002])], bl := [(1000000, some ⟨35, K4, xs, true, true⟩)], sp := .v (.c (.ptr 4000000 0)) }
noncomputable def spec_l5DrawRight_2 (st : St) : Option α := lp Tryz.prog (look spec_l5DrawRight_C) F spec_l5DrawRight_H (sub [.r, .r, .r, .l, .r, .b, .i, .r, .l, .b, .r, .r, .l, .r, .b, .i] (codeOf Tryz.f64)) κ n st
noncomputable def spec_l5DrawRight_2_k : Ex → St → Option α := cont Tryz.prog (look spec_l5DrawRight_C) F spec_l5DrawRight_H [.r, .l, .b, .r, .r, .l, .r, .b] (sub [.r, .r, .r, .l, .r, .b, .i] (codeOf Tryz.f64)) (itk Tryz.prog (look spec_l5DrawRight_C) F spec_l5DrawRight_H (sub [.r, .r, .r, .l, .r, .b, .i] (codeOf Tryz.f64)) κ n)
noncomputable def spec_l5DrawRight_1_s (s : ByteArray) (view : Int) (i : Int) (t4000000 : List Int) (t40000001 : Int) (t40000002 : Int) : St := { nt := 37, tm := [(0, .v (.c (.ptr 4000000 0))), (3, .v (.c (.str s))), (4, .v (.c (.int .i64 view))), (5, .v (.c (.int .i64 i)))], bx := [(4000000, [.ro true 5 (.int .u8) t4000000, .int .i64 t40000001, .int .i64 t40000002])], bl := [], sp := .v (.c (.ptr 4000000 0)) }
noncomputable def spec_l5DrawRight_1_e0 (s : ByteArray) (t4000000 : List Int) (t40000001 : Int) (t40000002 : Int) : St := { nt := 37, tm := [(3, .v (.c (.str s)))], bx := [(4000000, [.ro true 5 (.int .u8) t4000000, .int .i64 t40000001, .int .i64 t40000002])], bl := [], sp := .v (.c (.ptr 4000000 0)) }
noncomputable def spec_l5DrawRight_1 (st : St) : Option α := lp Tryz.prog (look spec_l5DrawRight_C) F spec_l5DrawRight_H (sub [.r, .r, .r, .l, .r, .b, .i] (codeOf Tryz.f64)) κ n st
noncomputable def spec_l5DrawRight_1_k : Ex → St → Option (Args [(.str, false)] × Args [(K2, true)]) := cont Tryz.prog (look spec_l5DrawRight_C) F spec_l5DrawRight_H [.r, .r, .r, .l, .r, .b] (codeOf Tryz.f64) (fin2 Tryz.prog Tryz.f64 .cur [(.str, false)] [(K2, true)] 1)
theorem spec_l5DrawRight_2_step (s : ByteArray) (view : Int) (i : Int) (k : Int) (t4000000 : List Int) (t40000001 : Int) (t40000002 : Int) (xs : List D4) : spec_l5DrawRight_2 F κ (n + 1) (spec_l5DrawRight_2_s s view i k t4000000 t40000001 t40000002 xs) = (spec_l1Below F0 (t4000000, (t40000001, t40000002)) 3).bind fun r23 => br (decide (k < r23.1.1)) ((spec_l2DrawRight F0 r23.2.1).bind fun r29 => ck (okA F xs.length [r29.1.1].length 32) (spec_l5DrawRight_2 F κ n (spec_l5DrawRight_2_s s view i (w64 (k + 1)) r29.2.1.1 r29.2.1.2.1 r29.2.1.2.2 (xs ++ [r29.1.1])))) (κ (.exit 2) (spec_l5DrawRight_2_e2 s view i r23.2.1.1 r23.2.1.2.1 r23.2.1.2.2 xs)) := by kernel_rfl
theorem spec_l5DrawRight_1_step (s : ByteArray) (view : Int) (i : Int) (t4000000 : List Int) (t40000001 : Int) (t40000002 : Int) : spec_l5DrawRight_1 F κ (n + 1) (spec_l5DrawRight_1_s s view i t4000000 t40000001 t40000002) = (spec_l1Below F0 (t4000000, (t40000001, t40000002)) 6).bind fun r10 => br (decide (i < r10.1.1)) ((spec_l1Below F0 r10.2.1 4).bind fun r17 => spec_l5DrawRight_2 F (spec_l5DrawRight_2_k F κ n) F.n (spec_l5DrawRight_2_s s (w64 ((w64 (view + 1)) + (w64 (Int.tdiv r17.1.1 3)))) i 0 r17.2.1.1 r17.2.1.2.1 r17.2.1.2.2 [])) (κ (.exit 0) (spec_l5DrawRight_1_e0 s r10.2.1.1 r10.2.1.2.1 r10.2.1.2.2)) := by kernel_rfl
theorem spec_l5DrawRight_2_ce2 (s : ByteArray) (view : Int) (i : Int) (t4000000 : List Int) (t40000001 : Int) (t40000002 : Int) (xs : List D4) : spec_l5DrawRight_2_k F κ n (.exit 2) (spec_l5DrawRight_2_e2 s view i t4000000 t40000001 t40000002 xs) = (spec_NameOf F0 s view xs).bind fun r35 => spec_l5DrawRight_1 F κ n (spec_l5DrawRight_1_s r35.1 view (w64 (i + 1)) t4000000 t40000001 t40000002) := by kernel_rfl
theorem spec_l5DrawRight_1_ce0 (s : ByteArray) (t4000000 : List Int) (t40000001 : Int) (t40000002 : Int) : spec_l5DrawRight_1_k F (.exit 0) (spec_l5DrawRight_1_e0 s t4000000 t40000001 t40000002) = some ((s, ()), ((t4000000, (t40000001, t40000002)), ())) := by kernel_rfl
noncomputable def spec_l5DrawRight (c : D2) : Option (Args [(.str, false)] × Args [(K2, true)]) := runF2 Tryz.prog (look spec_l5DrawRight_C) F spec_l5DrawRight_H Tryz.f64 [(K2, true)] 0 .cur [(.str, false)] [(K2, true)] 1 (c, ())
theorem spec_l5DrawRight_eq (c : D2) : spec_l5DrawRight F c = spec_l5DrawRight_1 F (spec_l5DrawRight_1_k F) F.n (spec_l5DrawRight_1_s (ByteArray.mk #[]) 0 0 c.1 c.2.1 c.2.2) := by kernel_rfl
noncomputable def spec_l5DrawRight_con : Any := .two ⟨[(K2, true)], 0, .cur, [(.str, false)], 1, [(K2, true)], fun x => spec_l5DrawRight F0 x.1⟩
theorem spec_l5DrawRight_ok : AnyOk Tryz.prog TB 64 spec_l5DrawRight_con := ok3 (show AllOk Tryz.prog TB spec_l5DrawRight_C from ⟨spec_l1Below_ok, spec_l2DrawRight_ok, spec_NameOf_ok, trivial⟩) Tryz.func64 (by kernel_rfl) (by kernel_rfl) spec_l5DrawRight_H (by kernel_rfl) (by kernel_rfl)

/-! ### impl.Split -/
noncomputable def impl_Split_C : List (Nat × Any) := [(104, strings_Split_con)]
noncomputable def impl_Split_H : Nat → Option Hint := look []
noncomputable def impl_Split (s : ByteArray) (by1 : Int) : Option (Args [(.sl 9 (.str), false)]) := runF Tryz.prog (look impl_Split_C) F impl_Split_H Tryz.f67 [(.str, false), (.int .u8, false)] [(.sl 9 (.str), false)] 1 (s, by1, ())
theorem impl_Split_eq (s : ByteArray) (by1 : Int) : impl_Split F s by1 = (strings_Split F0 s (strOf [by1])).bind fun r9 => some (r9.1, ()) := by kernel_rfl
noncomputable def impl_Split_con : Any := .one ⟨[(.str, false), (.int .u8, false)], [(.sl 9 (.str), false)], 1, fun x => impl_Split F0 x.1 x.2.1⟩
theorem impl_Split_ok : AnyOk Tryz.prog TB 67 impl_Split_con := ok1 (show AllOk Tryz.prog TB impl_Split_C from ⟨strings_Split_ok, trivial⟩) Tryz.func67 (by kernel_rfl) (by kernel_rfl) impl_Split_H (by kernel_rfl)

/-! ### impl.Digits -/
noncomputable def impl_Digits_C : List (Nat × Any) := [(79, strconv_Itoa_con)]
noncomputable def impl_Digits_H : Nat → Option Hint := look []
noncomputable def impl_Digits (n1 : Int) : Option (Args [(.str, false)]) := runF Tryz.prog (look impl_Digits_C) F impl_Digits_H Tryz.f41 [(.int .i64, false)] [(.str, false)] 1 (n1, ())
theorem impl_Digits_eq (n1 : Int) : impl_Digits F n1 = (strconv_Itoa F0 n1).bind fun r4 => some (r4.1, ()) := by kernel_rfl
noncomputable def impl_Digits_con : Any := .one ⟨[(.int .i64, false)], [(.str, false)], 1, fun x => impl_Digits F0 x.1⟩
theorem impl_Digits_ok : AnyOk Tryz.prog TB 41 impl_Digits_con := ok1 (show AllOk Tryz.prog TB impl_Digits_C from ⟨strconv_Itoa_ok, trivial⟩) Tryz.func41 (by kernel_rfl) (by kernel_rfl) impl_Digits_H (by kernel_rfl)

/-! ### impl.Number -/
noncomputable def impl_Number_C : List (Nat × Any) := [(41, impl_Digits_con)]
noncomputable def impl_Number_H : Nat → Option Hint := look [(5, { live := [0, 4, 5], xl := [0, 4], rl := [2, 3] })]
noncomputable def impl_Number_1_s (s : ByteArray) (n1 : Int) (i : Int) : St := { nt := 43, tm := [(0, .v (.c (.str s))), (4, .v (.c (.int .i64 n1))), (5, .v (.c (.int .i64 i)))], bx := [], bl := [] }
noncomputable def impl_Number_1_r (t2 : Int) (t3 : Bool) : St := { nt := 43, tm := [(2, .v (.c (.int .i64 t2))), (3, .v (.c (.bool t3)))], bx := [], bl := [] }
noncomputable def impl_Number_1_e0 (s : ByteArray) (n1 : Int) : St := { nt := 43, tm := [(0, .v (.c (.str s))), (4, .v (.c (.int .i64 n1)))], bx := [], bl := [] }
noncomputable def impl_Number_1 (st : St) : Option α := lp Tryz.prog (look impl_Number_C) F impl_Number_H (sub [.r, .r, .r, .l, .r, .b, .i] (codeOf Tryz.f69)) κ n st
noncomputable def impl_Number_1_k : Ex → St → Option (Args [(.int .i64, false), (.bool, false)]) := cont Tryz.prog (look impl_Number_C) F impl_Number_H [.r, .r, .r, .l, .r, .b] (codeOf Tryz.f69) (fin Tryz.prog Tryz.f69 [(.int .i64, false), (.bool, false)] 1)
theorem impl_Number_1_step (s : ByteArray) (n1 : Int) (i : Int) : impl_Number_1 F κ (n + 1) (impl_Number_1_s s n1 i) = br (decide (i < (s.size : Int))) (ck (okI i (s.size : Int)) (br (decide ((byteAt s i) < 48)) (κ .ret (impl_Number_1_r 0 false)) (ck (okI i (s.size : Int)) (br (decide ((byteAt s i) > 57)) (κ .ret (impl_Number_1_r 0 false)) (ck (okI i (s.size : Int)) (impl_Number_1 F κ n (impl_Number_1_s s (w64 ((w64 (10 * n1)) + (w64 (IntKind.wrap .u8 ((byteAt s i) - 48))))) (w64 (i + 1))))))))) (κ (.exit 0) (impl_Number_1_e0 s n1)) := by kernel_rfl
theorem impl_Number_1_cr (t2 : Int) (t3 : Bool) : impl_Number_1_k F .ret (impl_Number_1_r t2 t3) = some (t2, t3, ()) := by kernel_rfl
theorem impl_Number_1_ce0 (s : ByteArray) (n1 : Int) : impl_Number_1_k F (.exit 0) (impl_Number_1_e0 s n1) = (impl_Digits F0 n1).bind fun r39 => br (!(r39.1.toList == s.toList)) (some (0, false, ())) (some (n1, true, ())) := by kernel_rfl
noncomputable def impl_Number (s : ByteArray) : Option (Args [(.int .i64, false), (.bool, false)]) := runF Tryz.prog (look impl_Number_C) F impl_Number_H Tryz.f69 [(.str, false)] [(.int .i64, false), (.bool, false)] 1 (s, ())
theorem impl_Number_eq (s : ByteArray) : impl_Number F s = br (decide ((s.size : Int) < 1)) (some (0, false, ())) (br (decide ((s.size : Int) > 6)) (some (0, false, ())) (impl_Number_1 F (impl_Number_1_k F) F.n (impl_Number_1_s s 0 0))) := by kernel_rfl
noncomputable def impl_Number_con : Any := .one ⟨[(.str, false)], [(.int .i64, false), (.bool, false)], 1, fun x => impl_Number F0 x.1⟩
theorem impl_Number_ok : AnyOk Tryz.prog TB 69 impl_Number_con := ok1 (show AllOk Tryz.prog TB impl_Number_C from ⟨impl_Digits_ok, trivial⟩) Tryz.func69 (by kernel_rfl) (by kernel_rfl) impl_Number_H (by kernel_rfl)

/-! ### impl.within -/
noncomputable def impl_within_C : List (Nat × Any) := []
noncomputable def impl_within_H : Nat → Option Hint := look []
noncomputable def impl_within (n1 : Int) (low : Int) (high : Int) : Option (Args [(.bool, false)]) := runF Tryz.prog (look impl_within_C) F impl_within_H Tryz.f61 [(.int .i64, false), (.int .i64, false), (.int .i64, false)] [(.bool, false)] 1 (n1, low, high, ())
theorem impl_within_eq (n1 : Int) (low : Int) (high : Int) : impl_within F n1 low high = br (decide (n1 ≥ low)) (some (decide (n1 ≤ high), ())) (some (false, ())) := by kernel_rfl
noncomputable def impl_within_con : Any := .one ⟨[(.int .i64, false), (.int .i64, false), (.int .i64, false)], [(.bool, false)], 1, fun x => impl_within F0 x.1 x.2.1 x.2.2.1⟩
theorem impl_within_ok : AnyOk Tryz.prog TB 61 impl_within_con := ok1 (show AllOk Tryz.prog TB impl_within_C from trivial) Tryz.func61 (by kernel_rfl) (by kernel_rfl) impl_within_H (by kernel_rfl)

/-! ### impl.TxOk -/
noncomputable def impl_TxOk_C : List (Nat × Any) := [(61, impl_within_con)]
noncomputable def impl_TxOk_H : Nat → Option Hint := look []
noncomputable def impl_TxOk (x : D4) : Option (Args [(.bool, false)]) := runF Tryz.prog (look impl_TxOk_C) F impl_TxOk_H Tryz.f40 [(K4, true)] [(.bool, false)] 1 (x, ())
theorem impl_TxOk_eq (x : D4) : impl_TxOk F x = (impl_within F0 x.1 0 3).bind fun r5 => br r5.1 ((impl_within F0 x.2.1 0 3).bind fun r9 => br r9.1 ((impl_within F0 x.2.2.1 0 1000).bind fun r14 => br r14.1 ((impl_within F0 x.2.2.2 0 99).bind fun r19 => some (r19.1, ())) (some (false, ()))) (some (false, ()))) (some (false, ())) := by kernel_rfl
noncomputable def impl_TxOk_con : Any := .one ⟨[(K4, true)], [(.bool, false)], 1, fun x => impl_TxOk F0 x.1⟩
theorem impl_TxOk_ok : AnyOk Tryz.prog TB 40 impl_TxOk_con := ok1 (show AllOk Tryz.prog TB impl_TxOk_C from ⟨impl_within_ok, trivial⟩) Tryz.func40 (by kernel_rfl) (by kernel_rfl) impl_TxOk_H (by kernel_rfl)

/-! ### impl.TxText -/
noncomputable def impl_TxText_C : List (Nat × Any) := [(40, impl_TxOk_con), (41, impl_Digits_con)]
noncomputable def impl_TxText_H : Nat → Option Hint := look []
noncomputable def impl_TxText (x : D4) : Option (Args [(.str, false)]) := runF Tryz.prog (look impl_TxText_C) F impl_TxText_H Tryz.f80 [(K4, true)] [(.str, false)] 1 (x, ())
theorem impl_TxText_eq (x : D4) : impl_TxText F x = (impl_TxOk F0 x).bind fun r4 => br (!r4.1) (some ((ByteArray.mk #[]), ())) ((impl_Digits F0 x.1).bind fun r8 => ck (okC F r8.1.size (ByteArray.mk #[62]).size) ((impl_Digits F0 x.2.1).bind fun r12 => ck (okC F (r8.1 ++ (ByteArray.mk #[62])).size r12.1.size) (ck (okC F ((r8.1 ++ (ByteArray.mk #[62])) ++ r12.1).size (ByteArray.mk #[58]).size) ((impl_Digits F0 x.2.2.1).bind fun r17 => ck (okC F (((r8.1 ++ (ByteArray.mk #[62])) ++ r12.1) ++ (ByteArray.mk #[58])).size r17.1.size) (ck (okC F ((((r8.1 ++ (ByteArray.mk #[62])) ++ r12.1) ++ (ByteArray.mk #[58])) ++ r17.1).size (ByteArray.mk #[35]).size) ((impl_Digits F0 x.2.2.2).bind fun r22 => ck (okC F (((((r8.1 ++ (ByteArray.mk #[62])) ++ r12.1) ++ (ByteArray.mk #[58])) ++ r17.1) ++ (ByteArray.mk #[35])).size r22.1.size) (some ((((((r8.1 ++ (ByteArray.mk #[62])) ++ r12.1) ++ (ByteArray.mk #[58])) ++ r17.1) ++ (ByteArray.mk #[35])) ++ r22.1, ())))))))) := by kernel_rfl
noncomputable def impl_TxText_con : Any := .one ⟨[(K4, true)], [(.str, false)], 1, fun x => impl_TxText F0 x.1⟩
theorem impl_TxText_ok : AnyOk Tryz.prog TB 80 impl_TxText_con := ok1 (show AllOk Tryz.prog TB impl_TxText_C from ⟨impl_TxOk_ok, impl_Digits_ok, trivial⟩) Tryz.func80 (by kernel_rfl) (by kernel_rfl) impl_TxText_H (by kernel_rfl)

/-! ### impl.TxOf -/
noncomputable def impl_TxOf_C : List (Nat × Any) := [(40, impl_TxOk_con), (68, strings_Cut_con), (69, impl_Number_con), (80, impl_TxText_con)]
noncomputable def impl_TxOf_H : Nat → Option Hint := look []
noncomputable def impl_TxOf (s : ByteArray) : Option (Args [(K4, true), (.bool, false)]) := runF Tryz.prog (look impl_TxOf_C) F impl_TxOf_H Tryz.f106 [(.str, false)] [(K4, true), (.bool, false)] 1 (s, ())
theorem impl_TxOf_eq (s : ByteArray) : impl_TxOf F0 s = (strings_Cut F0 s (ByteArray.mk #[62])).bind fun r18_0 => (strings_Cut F0 r18_0.2.1 (ByteArray.mk #[58])).bind fun r24_0 => (strings_Cut F0 r24_0.2.1 (ByteArray.mk #[35])).bind fun r30_0 => ck (okI 0 4) ((impl_Number F0 (at_ [r18_0.1, r24_0.1, r30_0.1, r30_0.2.1] 0 ByteArray.empty)).bind fun r48_1 => ck (okI 1 4) ((impl_Number F0 (at_ [r18_0.1, r24_0.1, r30_0.1, r30_0.2.1] 1 ByteArray.empty)).bind fun r48_2 => ck (okI 2 4) ((impl_Number F0 (at_ [r18_0.1, r24_0.1, r30_0.1, r30_0.2.1] 2 ByteArray.empty)).bind fun r48_3 => ck (okI 3 4) ((impl_Number F0 (at_ [r18_0.1, r24_0.1, r30_0.1, r30_0.2.1] 3 ByteArray.empty)).bind fun r48_4 => (impl_TxOk F0 (r48_1.1, (r48_2.1, (r48_3.1, r48_4.1)))).bind fun r63_5 => br (!r63_5.1) (some ((0, (0, (0, 0))), false, ())) ((impl_TxText F0 (r48_1.1, (r48_2.1, (r48_3.1, r48_4.1)))).bind fun r67_5 => br (!(r67_5.1.toList == s.toList)) (some ((0, (0, (0, 0))), false, ())) (some ((r48_1.1, (r48_2.1, (r48_3.1, r48_4.1))), true, ()))))))) := by kernel_rfl
noncomputable def impl_TxOf_con : Any := .one ⟨[(.str, false)], [(K4, true), (.bool, false)], 1, fun x => impl_TxOf F0 x.1⟩
theorem impl_TxOf_ok : AnyOk Tryz.prog TB 106 impl_TxOf_con := ok1 (show AllOk Tryz.prog TB impl_TxOf_C from ⟨impl_TxOk_ok, strings_Cut_ok, impl_Number_ok, impl_TxText_ok, trivial⟩) Tryz.func106 (by kernel_rfl) (by kernel_rfl) impl_TxOf_H (by kernel_rfl)

/-! ### impl.TxsOf -/
noncomputable def impl_TxsOf_C : List (Nat × Any) := [(67, impl_Split_con), (106, impl_TxOf_con)]
noncomputable def impl_TxsOf_H : Nat → Option Hint := look [(5, { live := [4, 12, 13, 14], mat := [(4, 35, K4)], xl := [4], rl := [2, 3] })]
noncomputable def impl_TxsOf_1_s (t12 : List ByteArray) (t13 : Int) (t14 : Int) (xs : List D4) : St := { nt := 31, tm := [(4, .v (.c (.own 1000000 none))), (12, .v (.c (.ro true 9 (.str) t12))), (13, .v (.c (.int .i64 t13))), (14, .v (.c (.int .i64 t14)))], bx := [], bl := [(1000000, some ⟨35, K4, xs, true, true⟩)] }
noncomputable def impl_TxsOf_1_r (t3 : Bool) : St := { nt := 31, tm := [(2, .v (.c (.nil))), (3, .v (.c (.bool t3)))], bx := [], bl := [] }
noncomputable def impl_TxsOf_1_e0 (xs : List D4) : St := { nt := 31, tm := [(4, .v (.c (.own 1000000 none)))], bx := [], bl := [(1000000, some ⟨35, K4, xs, true, true⟩)] }
noncomputable def impl_TxsOf_1 (st : St) : Option α := lp Tryz.prog (look impl_TxsOf_C) F impl_TxsOf_H (sub [.r, .r, .r, .l, .r, .b, .i] (codeOf Tryz.f70)) κ n st
noncomputable def impl_TxsOf_1_k : Ex → St → Option (Args [(K5, false), (.bool, false)]) := cont Tryz.prog (look impl_TxsOf_C) F impl_TxsOf_H [.r, .r, .r, .l, .r, .b] (codeOf Tryz.f70) (fin Tryz.prog Tryz.f70 [(K5, false), (.bool, false)] 2)
theorem impl_TxsOf_1_step (t12 : List ByteArray) (t13 : Int) (t14 : Int) (xs : List D4) : impl_TxsOf_1 F κ (n + 1) (impl_TxsOf_1_s t12 t13 t14 xs) = br (decide (t14 < t13)) (ck (okI t14 (t12.length : Int)) ((impl_TxOf F0 (at_ t12 t14 ByteArray.empty)).bind fun r20 => br (!r20.2.1) (κ .ret (impl_TxsOf_1_r false)) (ck (okA F xs.length [r20.1].length 32) (impl_TxsOf_1 F κ n (impl_TxsOf_1_s t12 t13 (w64 (t14 + 1)) (xs ++ [r20.1])))))) (κ (.exit 0) (impl_TxsOf_1_e0 xs)) := by kernel_rfl
theorem impl_TxsOf_1_cr (t3 : Bool) : impl_TxsOf_1_k F .ret (impl_TxsOf_1_r t3) = some ([], t3, ()) := by kernel_rfl
theorem impl_TxsOf_1_ce0 (xs : List D4) : impl_TxsOf_1_k F (.exit 0) (impl_TxsOf_1_e0 xs) = some (xs, true, ()) := by kernel_rfl
noncomputable def impl_TxsOf (s : ByteArray) : Option (Args [(K5, false), (.bool, false)]) := runF Tryz.prog (look impl_TxsOf_C) F impl_TxsOf_H Tryz.f70 [(.str, false)] [(K5, false), (.bool, false)] 2 (s, ())
theorem impl_TxsOf_eq (s : ByteArray) : impl_TxsOf F s = br (s.toList == (ByteArray.mk #[]).toList) (some ([], true, ())) ((impl_Split F0 s 44).bind fun r12 => impl_TxsOf_1 F (impl_TxsOf_1_k F) F.n (impl_TxsOf_1_s r12.1 (r12.1.length : Int) 0 [])) := by kernel_rfl
noncomputable def impl_TxsOf_con : Any := .one ⟨[(.str, false)], [(K5, false), (.bool, false)], 2, fun x => impl_TxsOf F0 x.1⟩
theorem impl_TxsOf_ok : AnyOk Tryz.prog TB 70 impl_TxsOf_con := ok1 (show AllOk Tryz.prog TB impl_TxsOf_C from ⟨impl_Split_ok, impl_TxOf_ok, trivial⟩) Tryz.func70 (by kernel_rfl) (by kernel_rfl) impl_TxsOf_H (by kernel_rfl)

/-! ### impl.Steps -/
noncomputable def impl_Steps_C : List (Nat × Any) := [(61, impl_within_con), (67, impl_Split_con), (68, strings_Cut_con), (69, impl_Number_con), (70, impl_TxsOf_con)]
noncomputable def impl_Steps_H : Nat → Option Hint := look [(9, { live := [5, 6, 31, 32, 33], mat := [(5, 69, K6)], xl := [5], rl := [2, 3] })]
noncomputable def impl_Steps_1_s (last : Int) (t31 : List ByteArray) (t32 : Int) (t33 : Int) (xs : List D6) : St := { nt := 84, tm := [(5, .v (.c (.own 1000000 none))), (6, .v (.c (.int .i64 last))), (31, .v (.c (.ro true 9 (.str) t31))), (32, .v (.c (.int .i64 t32))), (33, .v (.c (.int .i64 t33)))], bx := [], bl := [(1000000, some ⟨69, K6, xs, true, true⟩)] }
noncomputable def impl_Steps_1_r (t3 : Bool) : St := { nt := 84, tm := [(2, .v (.c (.nil))), (3, .v (.c (.bool t3)))], bx := [], bl := [] }
noncomputable def impl_Steps_1_e0 (xs : List D6) : St := { nt := 84, tm := [(5, .v (.c (.own 1000000 none)))], bx := [], bl := [(1000000, some ⟨69, K6, xs, true, true⟩)] }
noncomputable def impl_Steps_1 (st : St) : Option α := lp Tryz.prog (look impl_Steps_C) F impl_Steps_H (sub [.r, .r, .r, .r, .r, .r, .l, .r, .b, .i] (codeOf Tryz.f33)) κ n st
noncomputable def impl_Steps_1_k : Ex → St → Option (Args [(K7, false), (.bool, false)]) := cont Tryz.prog (look impl_Steps_C) F impl_Steps_H [.r, .r, .r, .r, .r, .r, .l, .r, .b] (codeOf Tryz.f33) (fin Tryz.prog Tryz.f33 [(K7, false), (.bool, false)] 2)
theorem impl_Steps_1_step (last : Int) (t31 : List ByteArray) (t32 : Int) (t33 : Int) (xs : List D6) : impl_Steps_1 F κ (n + 1) (impl_Steps_1_s last t31 t32 t33 xs) = br (decide (t33 < t32)) (ck (okI t33 (t31.length : Int)) ((strings_Cut F0 (at_ t31 t33 ByteArray.empty) (ByteArray.mk #[124])).bind fun r39 => (impl_Number F0 r39.1).bind fun r45 => (impl_TxsOf F0 r39.2.1).bind fun r50 => br (!r39.2.2.1) (κ .ret (impl_Steps_1_r false)) (br (!r45.2.1) (κ .ret (impl_Steps_1_r false)) (br (!r50.2.1) (κ .ret (impl_Steps_1_r false)) ((impl_within F0 r45.1 (w64 (last + 1)) 60).bind fun r67 => br (!r67.1) (κ .ret (impl_Steps_1_r false)) (br (decide ((r50.1.length : Int) > 2)) (κ .ret (impl_Steps_1_r false)) (ck (okA F xs.length [(r45.1, r50.1)].length 32) (impl_Steps_1 F κ n (impl_Steps_1_s r45.1 t31 t32 (w64 (t33 + 1)) (xs ++ [(r45.1, r50.1)])))))))))) (κ (.exit 0) (impl_Steps_1_e0 xs)) := by kernel_rfl
theorem impl_Steps_1_cr (t3 : Bool) : impl_Steps_1_k F .ret (impl_Steps_1_r t3) = some ([], t3, ()) := by kernel_rfl
theorem impl_Steps_1_ce0 (xs : List D6) : impl_Steps_1_k F (.exit 0) (impl_Steps_1_e0 xs) = some (xs, true, ()) := by kernel_rfl
noncomputable def impl_Steps (s : ByteArray) : Option (Args [(K7, false), (.bool, false)]) := runF Tryz.prog (look impl_Steps_C) F impl_Steps_H Tryz.f33 [(.str, false)] [(K7, false), (.bool, false)] 2 (s, ())
theorem impl_Steps_eq (s : ByteArray) : impl_Steps F s = br (s.toList == (ByteArray.mk #[]).toList) (some ([], true, ())) ((impl_Split F0 s 47).bind fun r19 => ck (okI 0 (r19.1.length : Int)) (br (!((at_ r19.1 0 ByteArray.empty).toList == (ByteArray.mk #[]).toList)) (some ([], false, ())) (br (decide ((w64 ((r19.1.length : Int) - 1)) > 30)) (some ([], false, ())) (ck (okS 1 (r19.1.length : Int) (r19.1.length : Int)) (impl_Steps_1 F (impl_Steps_1_k F) F.n (impl_Steps_1_s 0 ((r19.1.take (r19.1.length : Int).toNat).drop (1 : Int).toNat) (((r19.1.take (r19.1.length : Int).toNat).drop (1 : Int).toNat).length : Int) 0 [])))))) := by kernel_rfl
noncomputable def impl_Steps_con : Any := .one ⟨[(.str, false)], [(K7, false), (.bool, false)], 2, fun x => impl_Steps F0 x.1⟩
theorem impl_Steps_ok : AnyOk Tryz.prog TB 33 impl_Steps_con := ok1 (show AllOk Tryz.prog TB impl_Steps_C from ⟨impl_within_ok, impl_Split_ok, strings_Cut_ok, impl_Number_ok, impl_TxsOf_ok, trivial⟩) Tryz.func33 (by kernel_rfl) (by kernel_rfl) impl_Steps_H (by kernel_rfl)

/-! ### impl.copyInts -/
noncomputable def impl_copyInts_C : List (Nat × Any) := []
noncomputable def impl_copyInts_H : Nat → Option Hint := look []
noncomputable def impl_copyInts (l : List Int) : Option (Args [(.sl 3 (.int .i64), false)]) := runF Tryz.prog (look impl_copyInts_C) F impl_copyInts_H Tryz.f87 [(.sl 3 (.int .i64), false)] [(.sl 3 (.int .i64), false)] 2 (l, ())
theorem impl_copyInts_eq (l : List Int) : impl_copyInts F l = ck (okA F 0 l.length 8) (some ([] ++ l, ())) := by kernel_rfl
noncomputable def impl_copyInts_con : Any := .one ⟨[(.sl 3 (.int .i64), false)], [(.sl 3 (.int .i64), false)], 2, fun x => impl_copyInts F0 x.1⟩
theorem impl_copyInts_ok : AnyOk Tryz.prog TB 87 impl_copyInts_con := ok1 (show AllOk Tryz.prog TB impl_copyInts_C from trivial) Tryz.func87 (by kernel_rfl) (by kernel_rfl) impl_copyInts_H (by kernel_rfl)

/-! ### impl.ViewOf -/
noncomputable def impl_ViewOf_C : List (Nat × Any) := [(33, impl_Steps_con)]
noncomputable def impl_ViewOf_H : Nat → Option Hint := look []
noncomputable def impl_ViewOf (s : ByteArray) : Option (Args [(.int .i64, false)]) := runF Tryz.prog (look impl_ViewOf_C) F impl_ViewOf_H Tryz.f13 [(.str, false)] [(.int .i64, false)] 1 (s, ())
theorem impl_ViewOf_eq (s : ByteArray) : impl_ViewOf F s = (impl_Steps F0 s).bind fun r7 => br ((r7.1.length : Int) == 0) (some (0, ())) (ck (okI (w64 ((r7.1.length : Int) - 1)) (r7.1.length : Int)) (some ((at_ r7.1 (w64 ((r7.1.length : Int) - 1)) (0, [])).1, ()))) := by kernel_rfl
noncomputable def impl_ViewOf_con : Any := .one ⟨[(.str, false)], [(.int .i64, false)], 1, fun x => impl_ViewOf F0 x.1⟩
theorem impl_ViewOf_ok : AnyOk Tryz.prog TB 13 impl_ViewOf_con := ok1 (show AllOk Tryz.prog TB impl_ViewOf_C from ⟨impl_Steps_ok, trivial⟩) Tryz.func13 (by kernel_rfl) (by kernel_rfl) impl_ViewOf_H (by kernel_rfl)

/-! ### impl.NameOk -/
noncomputable def impl_NameOk_C : List (Nat × Any) := [(33, impl_Steps_con)]
noncomputable def impl_NameOk_H : Nat → Option Hint := look []
noncomputable def impl_NameOk (s : ByteArray) : Option (Args [(.bool, false)]) := runF Tryz.prog (look impl_NameOk_C) F impl_NameOk_H Tryz.f43 [(.str, false)] [(.bool, false)] 1 (s, ())
theorem impl_NameOk_eq (s : ByteArray) : impl_NameOk F s = (impl_Steps F0 s).bind fun r7 => some (r7.2.1, ()) := by kernel_rfl
noncomputable def impl_NameOk_con : Any := .one ⟨[(.str, false)], [(.bool, false)], 1, fun x => impl_NameOk F0 x.1⟩
theorem impl_NameOk_ok : AnyOk Tryz.prog TB 43 impl_NameOk_con := ok1 (show AllOk Tryz.prog TB impl_NameOk_C from ⟨impl_Steps_ok, trivial⟩) Tryz.func43 (by kernel_rfl) (by kernel_rfl) impl_NameOk_H (by kernel_rfl)

/-! ### spec.l7DrawConf -/
noncomputable def spec_l7DrawConf_C : List (Nat × Any) := [(32, spec_l1Below_con)]
noncomputable def spec_l7DrawConf_H : Nat → Option Hint := look []
noncomputable def spec_l7DrawConf (c : D2) : Option (Args [(K1, true)] × Args [(K2, true)]) := runF2 Tryz.prog (look spec_l7DrawConf_C) F spec_l7DrawConf_H Tryz.f115 [(K2, true)] 0 .cur [(K1, true)] [(K2, true)] 1 (c, ())
theorem spec_l7DrawConf_eq (c : D2) : spec_l7DrawConf F c = (spec_l1Below F0 c 4).bind fun r4 => (spec_l1Below F0 r4.2.1 3).bind fun r7 => some (((w64 (4 + r4.1.1), w64 (1 + r7.1.1)), ()), (r7.2.1, ())) := by kernel_rfl
noncomputable def spec_l7DrawConf_con : Any := .two ⟨[(K2, true)], 0, .cur, [(K1, true)], 1, [(K2, true)], fun x => spec_l7DrawConf F0 x.1⟩
theorem spec_l7DrawConf_ok : AnyOk Tryz.prog TB 115 spec_l7DrawConf_con := ok3 (show AllOk Tryz.prog TB spec_l7DrawConf_C from ⟨spec_l1Below_ok, trivial⟩) Tryz.func115 (by kernel_rfl) (by kernel_rfl) spec_l7DrawConf_H (by kernel_rfl) (by kernel_rfl)

/-! ### spec.l7DrawBent -/
noncomputable def spec_l7DrawBent_C : List (Nat × Any) := [(32, spec_l1Below_con), (84, spec_l1PickInt_con), (115, spec_l7DrawConf_con)]
noncomputable def spec_l7DrawBent_H : Nat → Option Hint := look []
noncomputable def spec_l7DrawBent (c : D2) : Option (Args [(K1, true)] × Args [(K2, true)]) := runF2 Tryz.prog (look spec_l7DrawBent_C) F spec_l7DrawBent_H Tryz.f82 [(K2, true)] 0 .cur [(K1, true)] [(K2, true)] 1 (c, ())
theorem spec_l7DrawBent_eq (c : D2) : spec_l7DrawBent F c = (spec_l7DrawConf F0 c).bind fun r5 => (spec_l1Below F0 r5.2.1 12).bind fun r7 => br (r7.1.1 == 0) ((spec_l1PickInt F0 r7.2.1 [0, 3, 8, (-1)]).bind fun r12 => some (((r12.1.1, r5.1.1.2), ()), (r12.2.1, ()))) (br (r7.1.1 == 1) ((spec_l1PickInt F0 r7.2.1 [0, 6, 7]).bind fun r18 => some (((r5.1.1.1, r18.1.1), ()), (r18.2.1, ()))) (some ((r5.1.1, ()), (r7.2.1, ())))) := by kernel_rfl
noncomputable def spec_l7DrawBent_con : Any := .two ⟨[(K2, true)], 0, .cur, [(K1, true)], 1, [(K2, true)], fun x => spec_l7DrawBent F0 x.1⟩
theorem spec_l7DrawBent_ok : AnyOk Tryz.prog TB 82 spec_l7DrawBent_con := ok3 (show AllOk Tryz.prog TB spec_l7DrawBent_C from ⟨spec_l1Below_ok, spec_l1PickInt_ok, spec_l7DrawConf_ok, trivial⟩) Tryz.func82 (by kernel_rfl) (by kernel_rfl) spec_l7DrawBent_H (by kernel_rfl) (by kernel_rfl)

/-! ### spec.ViewOf -/
noncomputable def spec_ViewOf_C : List (Nat × Any) := [(37, spec_Steps_con)]
noncomputable def spec_ViewOf_H : Nat → Option Hint := look []
noncomputable def spec_ViewOf (s : ByteArray) : Option (Args [(.int .i64, false)]) := runF Tryz.prog (look spec_ViewOf_C) F spec_ViewOf_H Tryz.f83 [(.str, false)] [(.int .i64, false)] 1 (s, ())
theorem spec_ViewOf_eq (s : ByteArray) : spec_ViewOf F s = (spec_Steps F0 s).bind fun r7 => br (!r7.2.1) (some (0, ())) (br ((r7.1.length : Int) == 0) (some (0, ())) (ck (okI (w64 ((r7.1.length : Int) - 1)) (r7.1.length : Int)) (some ((at_ r7.1 (w64 ((r7.1.length : Int) - 1)) (0, [])).1, ())))) := by kernel_rfl
noncomputable def spec_ViewOf_con : Any := .one ⟨[(.str, false)], [(.int .i64, false)], 1, fun x => spec_ViewOf F0 x.1⟩
theorem spec_ViewOf_ok : AnyOk Tryz.prog TB 83 spec_ViewOf_con := ok1 (show AllOk Tryz.prog TB spec_ViewOf_C from ⟨spec_Steps_ok, trivial⟩) Tryz.func83 (by kernel_rfl) (by kernel_rfl) spec_ViewOf_H (by kernel_rfl)

/-! ### spec.SetHas -/
noncomputable def spec_SetHas_C : List (Nat × Any) := []
noncomputable def spec_SetHas_H : Nat → Option Hint := look [(2, { live := [0, 1, 5], rl := [4] })]
noncomputable def spec_SetHas_1_s (s : List Int) (i : Int) (k : Int) : St := { nt := 18, tm := [(0, .v (.c (.ro false 3 (.int .i64) s))), (1, .v (.c (.int .i64 i))), (5, .v (.c (.int .i64 k)))], bx := [], bl := [] }
noncomputable def spec_SetHas_1_r (t4 : Bool) : St := { nt := 18, tm := [(4, .v (.c (.bool t4)))], bx := [], bl := [] }
noncomputable def spec_SetHas_1_e0  : St := { nt := 18, tm := [], bx := [], bl := [] }
noncomputable def spec_SetHas_1 (st : St) : Option α := lp Tryz.prog (look spec_SetHas_C) F spec_SetHas_H (sub [.r, .l, .r, .b, .i] (codeOf Tryz.f100)) κ n st
noncomputable def spec_SetHas_1_k : Ex → St → Option (Args [(.bool, false)]) := cont Tryz.prog (look spec_SetHas_C) F spec_SetHas_H [.r, .l, .r, .b] (codeOf Tryz.f100) (fin Tryz.prog Tryz.f100 [(.bool, false)] 1)
theorem spec_SetHas_1_step (s : List Int) (i : Int) (k : Int) : spec_SetHas_1 F κ (n + 1) (spec_SetHas_1_s s i k) = br (decide (k < (s.length : Int))) (ck (okI k (s.length : Int)) (br ((at_ s k 0) == i) (κ .ret (spec_SetHas_1_r true)) (spec_SetHas_1 F κ n (spec_SetHas_1_s s i (w64 (k + 1)))))) (κ (.exit 0) (spec_SetHas_1_e0 )) := by kernel_rfl
theorem spec_SetHas_1_cr (t4 : Bool) : spec_SetHas_1_k F .ret (spec_SetHas_1_r t4) = some (t4, ()) := by kernel_rfl
theorem spec_SetHas_1_ce0  : spec_SetHas_1_k F (.exit 0) (spec_SetHas_1_e0 ) = some (false, ()) := by kernel_rfl
noncomputable def spec_SetHas (s : List Int) (i : Int) : Option (Args [(.bool, false)]) := runF Tryz.prog (look spec_SetHas_C) F spec_SetHas_H Tryz.f100 [(.sl 3 (.int .i64), false), (.int .i64, false)] [(.bool, false)] 1 (s, i, ())
theorem spec_SetHas_eq (s : List Int) (i : Int) : spec_SetHas F s i = spec_SetHas_1 F (spec_SetHas_1_k F) F.n (spec_SetHas_1_s s i 0) := by kernel_rfl
noncomputable def spec_SetHas_con : Any := .one ⟨[(.sl 3 (.int .i64), false), (.int .i64, false)], [(.bool, false)], 1, fun x => spec_SetHas F0 x.1 x.2.1⟩
theorem spec_SetHas_ok : AnyOk Tryz.prog TB 100 spec_SetHas_con := ok1 (show AllOk Tryz.prog TB spec_SetHas_C from trivial) Tryz.func100 (by kernel_rfl) (by kernel_rfl) spec_SetHas_H (by kernel_rfl)

/-! ### spec.SetAdd -/
noncomputable def spec_SetAdd_C : List (Nat × Any) := [(100, spec_SetHas_con)]
noncomputable def spec_SetAdd_H : Nat → Option Hint := look [(4, { live := [0, 1, 5], xl := [0, 1, 5], rl := [4] })]
noncomputable def spec_SetAdd_1_s (s : List Int) (i : Int) (at1 : Int) : St := { nt := 41, tm := [(0, .v (.c (.ro false 3 (.int .i64) s))), (1, .v (.c (.int .i64 i))), (5, .v (.c (.int .i64 at1)))], bx := [], bl := [] }
noncomputable def spec_SetAdd_1_e0 (s : List Int) (i : Int) (at1 : Int) : St := { nt := 41, tm := [(0, .v (.c (.ro false 3 (.int .i64) s))), (1, .v (.c (.int .i64 i))), (5, .v (.c (.int .i64 at1)))], bx := [], bl := [] }
noncomputable def spec_SetAdd_1 (st : St) : Option α := lp Tryz.prog (look spec_SetAdd_C) F spec_SetAdd_H (sub [.r, .r, .r, .l, .b, .i] (codeOf Tryz.f96)) κ n st
noncomputable def spec_SetAdd_1_k : Ex → St → Option (Args [(.sl 3 (.int .i64), false)]) := cont Tryz.prog (look spec_SetAdd_C) F spec_SetAdd_H [.r, .r, .r, .l, .b] (codeOf Tryz.f96) (fin Tryz.prog Tryz.f96 [(.sl 3 (.int .i64), false)] 2)
theorem spec_SetAdd_1_step (s : List Int) (i : Int) (at1 : Int) : spec_SetAdd_1 F κ (n + 1) (spec_SetAdd_1_s s i at1) = br (decide (at1 < (s.length : Int))) (ck (okI at1 (s.length : Int)) (br (decide ((at_ s at1 0) < i)) (spec_SetAdd_1 F κ n (spec_SetAdd_1_s s i (w64 (at1 + 1)))) (κ (.exit 0) (spec_SetAdd_1_e0 s i at1)))) (κ (.exit 0) (spec_SetAdd_1_e0 s i at1)) := by kernel_rfl
theorem spec_SetAdd_1_ce0 (s : List Int) (i : Int) (at1 : Int) : spec_SetAdd_1_k F (.exit 0) (spec_SetAdd_1_e0 s i at1) = ck (okS 0 at1 (s.length : Int)) (ck (okA F 0 ((s.take at1.toNat).drop (0 : Int).toNat).length 8) (ck (okA F ([] ++ ((s.take at1.toNat).drop (0 : Int).toNat)).length [i].length 8) (ck (okS at1 (s.length : Int) (s.length : Int)) (ck (okA F (([] ++ ((s.take at1.toNat).drop (0 : Int).toNat)) ++ [i]).length ((s.take (s.length : Int).toNat).drop at1.toNat).length 8) (some ((([] ++ ((s.take at1.toNat).drop (0 : Int).toNat)) ++ [i]) ++ ((s.take (s.length : Int).toNat).drop at1.toNat), ())))))) := by kernel_rfl
noncomputable def spec_SetAdd (s : List Int) (i : Int) : Option (Args [(.sl 3 (.int .i64), false)]) := runF Tryz.prog (look spec_SetAdd_C) F spec_SetAdd_H Tryz.f96 [(.sl 3 (.int .i64), false), (.int .i64, false)] [(.sl 3 (.int .i64), false)] 2 (s, i, ())
theorem spec_SetAdd_eq (s : List Int) (i : Int) : spec_SetAdd F s i = (spec_SetHas F0 s i).bind fun r9 => br r9.1 (ck (okA F 0 s.length 8) (some ([] ++ s, ()))) (spec_SetAdd_1 F (spec_SetAdd_1_k F) F.n (spec_SetAdd_1_s s i 0)) := by kernel_rfl
noncomputable def spec_SetAdd_con : Any := .one ⟨[(.sl 3 (.int .i64), false), (.int .i64, false)], [(.sl 3 (.int .i64), false)], 2, fun x => spec_SetAdd F0 x.1 x.2.1⟩
theorem spec_SetAdd_ok : AnyOk Tryz.prog TB 96 spec_SetAdd_con := ok1 (show AllOk Tryz.prog TB spec_SetAdd_C from ⟨spec_SetHas_ok, trivial⟩) Tryz.func96 (by kernel_rfl) (by kernel_rfl) spec_SetAdd_H (by kernel_rfl)

/-! ### spec.l6DrawSet -/
noncomputable def spec_l6DrawSet_C : List (Nat × Any) := [(29, spec_l1Once_con), (32, spec_l1Below_con), (84, spec_l1PickInt_con), (96, spec_SetAdd_con)]
noncomputable def spec_l6DrawSet_H : Nat → Option Hint := look [(3, { live := [0, 1, 5, 6], xl := [0, 5], rl := [4] })]
noncomputable def spec_l6DrawSet_1_s (n1 : Int) (i : Int) (t4000000 : List Int) (t40000001 : Int) (t40000002 : Int) (xs : List Int) : St := { nt := 28, tm := [(0, .v (.c (.ptr 4000000 0))), (1, .v (.c (.int .i64 n1))), (5, .v (.c (.own 1000000 none))), (6, .v (.c (.int .i64 i)))], bx := [(4000000, [.ro true 5 (.int .u8) t4000000, .int .i64 t40000001, .int .i64 t40000002])], bl := [(1000000, some ⟨3, .int .i64, xs, true, true⟩)], sp := .v (.c (.ptr 4000000 0)) }
noncomputable def spec_l6DrawSet_1_e0 (t4000000 : List Int) (t40000001 : Int) (t40000002 : Int) (xs : List Int) : St := { nt := 28, tm := [(0, .v (.c (.ptr 4000000 0))), (5, .v (.c (.own 1000000 none)))], bx := [(4000000, [.ro true 5 (.int .u8) t4000000, .int .i64 t40000001, .int .i64 t40000002])], bl := [(1000000, some ⟨3, .int .i64, xs, true, true⟩)], sp := .v (.c (.ptr 4000000 0)) }
noncomputable def spec_l6DrawSet_1 (st : St) : Option α := lp Tryz.prog (look spec_l6DrawSet_C) F spec_l6DrawSet_H (sub [.r, .r, .l, .r, .b, .i] (codeOf Tryz.f85)) κ n st
noncomputable def spec_l6DrawSet_1_k : Ex → St → Option (Args [(.sl 3 (.int .i64), false)] × Args [(K2, true)]) := cont Tryz.prog (look spec_l6DrawSet_C) F spec_l6DrawSet_H [.r, .r, .l, .r, .b] (codeOf Tryz.f85) (fin2 Tryz.prog Tryz.f85 .cur [(.sl 3 (.int .i64), false)] [(K2, true)] 2)
theorem spec_l6DrawSet_1_step (n1 : Int) (i : Int) (t4000000 : List Int) (t40000001 : Int) (t40000002 : Int) (xs : List Int) : spec_l6DrawSet_1 F κ (n + 1) (spec_l6DrawSet_1_s n1 i t4000000 t40000001 t40000002 xs) = (spec_l1Below F0 (t4000000, (t40000001, t40000002)) 8).bind fun r10 => br (decide (i < r10.1.1)) ((spec_l1Below F0 r10.2.1 n1).bind fun r17 => (spec_SetAdd F0 xs r17.1.1).bind fun r18 => spec_l6DrawSet_1 F κ n (spec_l6DrawSet_1_s n1 (w64 (i + 1)) r17.2.1.1 r17.2.1.2.1 r17.2.1.2.2 r18.1)) (κ (.exit 0) (spec_l6DrawSet_1_e0 r10.2.1.1 r10.2.1.2.1 r10.2.1.2.2 xs)) := by kernel_rfl
theorem spec_l6DrawSet_1_ce0 (t4000000 : List Int) (t40000001 : Int) (t40000002 : Int) (xs : List Int) : spec_l6DrawSet_1_k F (.exit 0) (spec_l6DrawSet_1_e0 t4000000 t40000001 t40000002 xs) = (spec_l1Once F0 (t4000000, (t40000001, t40000002)) 12).bind fun r20 => br r20.1.1 ((spec_l1PickInt F0 r20.2.1 [(-1), 0, 3, 9]).bind fun r24 => ck (okA F xs.length [r24.1.1].length 8) (some ((xs ++ [r24.1.1], ()), (r24.2.1, ())))) (some ((xs, ()), (r20.2.1, ()))) := by kernel_rfl
noncomputable def spec_l6DrawSet (c : D2) (n1 : Int) : Option (Args [(.sl 3 (.int .i64), false)] × Args [(K2, true)]) := runF2 Tryz.prog (look spec_l6DrawSet_C) F spec_l6DrawSet_H Tryz.f85 [(K2, true), (.int .i64, false)] 0 .cur [(.sl 3 (.int .i64), false)] [(K2, true)] 2 (c, n1, ())
theorem spec_l6DrawSet_eq (c : D2) (n1 : Int) : spec_l6DrawSet F c n1 = spec_l6DrawSet_1 F (spec_l6DrawSet_1_k F) F.n (spec_l6DrawSet_1_s n1 0 c.1 c.2.1 c.2.2 []) := by kernel_rfl
noncomputable def spec_l6DrawSet_con : Any := .two ⟨[(K2, true), (.int .i64, false)], 0, .cur, [(.sl 3 (.int .i64), false)], 2, [(K2, true)], fun x => spec_l6DrawSet F0 x.1 x.2.1⟩
theorem spec_l6DrawSet_ok : AnyOk Tryz.prog TB 85 spec_l6DrawSet_con := ok3 (show AllOk Tryz.prog TB spec_l6DrawSet_C from ⟨spec_l1Once_ok, spec_l1Below_ok, spec_l1PickInt_ok, spec_SetAdd_ok, trivial⟩) Tryz.func85 (by kernel_rfl) (by kernel_rfl) spec_l6DrawSet_H (by kernel_rfl) (by kernel_rfl)

/-! ### spec.l22Draw -/
noncomputable def spec_l22Draw_C : List (Nat × Any) := [(27, spec_l1New_con), (29, spec_l1Once_con), (64, spec_l5DrawRight_con), (82, spec_l7DrawBent_con), (83, spec_ViewOf_con), (84, spec_l1PickInt_con), (85, spec_l6DrawSet_con)]
noncomputable def spec_l22Draw_H : Nat → Option Hint := look []
noncomputable def spec_l22Draw (code : List Int) : Option (Args [(K1, true), (.int .i64, false), (.str, false), (.sl 3 (.int .i64), false)]) := runF Tryz.prog (look spec_l22Draw_C) F spec_l22Draw_H Tryz.f44 [(.sl 5 (.int .u8), false)] [(K1, true), (.int .i64, false), (.str, false), (.sl 3 (.int .i64), false)] 0 (code, ())
theorem spec_l22Draw_eq (code : List Int) : spec_l22Draw F code = (spec_l1New F0 code).bind fun r12 => (spec_l7DrawBent F0 r12.1.1).bind fun r14 => (spec_l5DrawRight F0 r14.2.1).bind fun r16 => (spec_ViewOf F0 r16.1.1).bind fun r18 => (spec_l1Once F0 r16.2.1 8).bind fun r20 => br r20.1.1 ((spec_l1PickInt F0 r20.2.1 [(-1), 0, 5, 61]).bind fun r23 => (spec_l1Once F0 r23.2.1 2).bind fun r26 => br r26.1.1 ((spec_l6DrawSet F0 r26.2.1 7).bind fun r28 => some (r14.1.1, r23.1.1, r16.1.1, r28.1.1, ())) (some (r14.1.1, r23.1.1, r16.1.1, [0, 1, 2, 3, 4, 5, 6], ()))) ((spec_l1Once F0 r20.2.1 2).bind fun r26 => br r26.1.1 ((spec_l6DrawSet F0 r26.2.1 7).bind fun r28 => some (r14.1.1, r18.1, r16.1.1, r28.1.1, ())) (some (r14.1.1, r18.1, r16.1.1, [0, 1, 2, 3, 4, 5, 6], ()))) := by kernel_rfl
noncomputable def spec_l22Draw_con : Any := .one ⟨[(.sl 5 (.int .u8), false)], [(K1, true), (.int .i64, false), (.str, false), (.sl 3 (.int .i64), false)], 0, fun x => spec_l22Draw F0 x.1⟩
theorem spec_l22Draw_ok : AnyOk Tryz.prog TB 44 spec_l22Draw_con := ok1 (show AllOk Tryz.prog TB spec_l22Draw_C from ⟨spec_l1New_ok, spec_l1Once_ok, spec_l5DrawRight_ok, spec_l7DrawBent_ok, spec_ViewOf_ok, spec_l1PickInt_ok, spec_l6DrawSet_ok, trivial⟩) Tryz.func44 (by kernel_rfl) (by kernel_rfl) spec_l22Draw_H (by kernel_rfl)

/-! ### spec.DrawTree -/
noncomputable def spec_DrawTree_C : List (Nat × Any) := [(44, spec_l22Draw_con)]
noncomputable def spec_DrawTree_H : Nat → Option Hint := look []
noncomputable def spec_DrawTree (code : List Int) : Option (Args [(K1, true), (.int .i64, false), (.str, false), (.sl 3 (.int .i64), false)]) := runF Tryz.prog (look spec_DrawTree_C) F spec_DrawTree_H Tryz.f16 [(.sl 5 (.int .u8), false)] [(K1, true), (.int .i64, false), (.str, false), (.sl 3 (.int .i64), false)] 0 (code, ())
theorem spec_DrawTree_eq (code : List Int) : spec_DrawTree F code = (spec_l22Draw F0 code).bind fun r12 => some (r12.1, r12.2.1, r12.2.2.1, r12.2.2.2.1, ()) := by kernel_rfl
noncomputable def spec_DrawTree_con : Any := .one ⟨[(.sl 5 (.int .u8), false)], [(K1, true), (.int .i64, false), (.str, false), (.sl 3 (.int .i64), false)], 0, fun x => spec_DrawTree F0 x.1⟩
theorem spec_DrawTree_ok : AnyOk Tryz.prog TB 16 spec_DrawTree_con := ok1 (show AllOk Tryz.prog TB spec_DrawTree_C from ⟨spec_l22Draw_ok, trivial⟩) Tryz.func16 (by kernel_rfl) (by kernel_rfl) spec_DrawTree_H (by kernel_rfl)

/-! ### impl.ConfOk -/
noncomputable def impl_ConfOk_C : List (Nat × Any) := [(61, impl_within_con)]
noncomputable def impl_ConfOk_H : Nat → Option Hint := look []
noncomputable def impl_ConfOk (c : D1) : Option (Args [(.bool, false)]) := runF Tryz.prog (look impl_ConfOk_C) F impl_ConfOk_H Tryz.f26 [(K1, true)] [(.bool, false)] 1 (c, ())
theorem impl_ConfOk_eq (c : D1) : impl_ConfOk F c = (impl_within F0 c.1 4 7).bind fun r5 => br r5.1 ((impl_within F0 c.2 1 6).bind fun r9 => some (r9.1, ())) (some (false, ())) := by kernel_rfl
noncomputable def impl_ConfOk_con : Any := .one ⟨[(K1, true)], [(.bool, false)], 1, fun x => impl_ConfOk F0 x.1⟩
theorem impl_ConfOk_ok : AnyOk Tryz.prog TB 26 impl_ConfOk_con := ok1 (show AllOk Tryz.prog TB impl_ConfOk_C from ⟨impl_within_ok, trivial⟩) Tryz.func26 (by kernel_rfl) (by kernel_rfl) impl_ConfOk_H (by kernel_rfl)

/-! ### impl.Sits -/
noncomputable def impl_Sits_C : List (Nat × Any) := [(26, impl_ConfOk_con), (61, impl_within_con)]
noncomputable def impl_Sits_H : Nat → Option Hint := look []
noncomputable def impl_Sits (c : D1) (view : Int) (seat : Int) : Option (Args [(.int .i64, false)]) := runF Tryz.prog (look impl_Sits_C) F impl_Sits_H Tryz.f45 [(K1, true), (.int .i64, false), (.int .i64, false)] [(.int .i64, false)] 1 (c, view, seat, ())
theorem impl_Sits_eq (c : D1) (view : Int) (seat : Int) : impl_Sits F c view seat = (impl_ConfOk F0 c).bind fun r8 => br (!r8.1) (some ((-1), ())) (br (decide (view < 0)) (some ((-1), ())) ((impl_within F0 seat 0 (w64 (c.1 - 1))).bind fun r19 => br (!r19.1) (some ((-1), ())) (ck (!(c.1 == 0)) (ck (!(c.1 == 0)) (some (Int.tmod (w64 ((Int.tmod view c.1) + seat)) c.1, ())))))) := by kernel_rfl
noncomputable def impl_Sits_con : Any := .one ⟨[(K1, true), (.int .i64, false), (.int .i64, false)], [(.int .i64, false)], 1, fun x => impl_Sits F0 x.1 x.2.1 x.2.2.1⟩
theorem impl_Sits_ok : AnyOk Tryz.prog TB 45 impl_Sits_con := ok1 (show AllOk Tryz.prog TB impl_Sits_C from ⟨impl_ConfOk_ok, impl_within_ok, trivial⟩) Tryz.func45 (by kernel_rfl) (by kernel_rfl) impl_Sits_H (by kernel_rfl)

/-! ### slices.Index[[]int,int] -/
noncomputable def slices_Index_int_int_C : List (Nat × Any) := []
noncomputable def slices_Index_int_int_H : Nat → Option Hint := look [(2, { live := [0, 1, 7, 8], rl := [4] })]
noncomputable def slices_Index_int_int_1_s (s : List Int) (v : Int) (t7 : Int) (t8 : Int) : St := { nt := 19, tm := [(0, .v (.c (.ro false 3 (.int .i64) s))), (1, .v (.c (.int .i64 v))), (7, .v (.c (.int .i64 t7))), (8, .v (.c (.int .i64 t8)))], bx := [], bl := [] }
noncomputable def slices_Index_int_int_1_r (t4 : Int) : St := { nt := 19, tm := [(4, .v (.c (.int .i64 t4)))], bx := [], bl := [] }
noncomputable def slices_Index_int_int_1_e0  : St := { nt := 19, tm := [], bx := [], bl := [] }
noncomputable def slices_Index_int_int_1 (st : St) : Option α := lp Tryz.prog (look slices_Index_int_int_C) F slices_Index_int_int_H (sub [.r, .l, .r, .b, .i] (codeOf Tryz.f116)) κ n st
noncomputable def slices_Index_int_int_1_k : Ex → St → Option (Args [(.int .i64, false)]) := cont Tryz.prog (look slices_Index_int_int_C) F slices_Index_int_int_H [.r, .l, .r, .b] (codeOf Tryz.f116) (fin Tryz.prog Tryz.f116 [(.int .i64, false)] 1)
theorem slices_Index_int_int_1_step (s : List Int) (v : Int) (t7 : Int) (t8 : Int) : slices_Index_int_int_1 F κ (n + 1) (slices_Index_int_int_1_s s v t7 t8) = br (decide (t8 < t7)) (ck (okI t8 (s.length : Int)) (br (v == (at_ s t8 0)) (κ .ret (slices_Index_int_int_1_r t8)) (slices_Index_int_int_1 F κ n (slices_Index_int_int_1_s s v t7 (w64 (t8 + 1)))))) (κ (.exit 0) (slices_Index_int_int_1_e0 )) := by kernel_rfl
theorem slices_Index_int_int_1_cr (t4 : Int) : slices_Index_int_int_1_k F .ret (slices_Index_int_int_1_r t4) = some (t4, ()) := by kernel_rfl
theorem slices_Index_int_int_1_ce0  : slices_Index_int_int_1_k F (.exit 0) (slices_Index_int_int_1_e0 ) = some ((-1), ()) := by kernel_rfl
noncomputable def slices_Index_int_int (s : List Int) (v : Int) : Option (Args [(.int .i64, false)]) := runF Tryz.prog (look slices_Index_int_int_C) F slices_Index_int_int_H Tryz.f116 [(.sl 3 (.int .i64), false), (.int .i64, false)] [(.int .i64, false)] 1 (s, v, ())
theorem slices_Index_int_int_eq (s : List Int) (v : Int) : slices_Index_int_int F s v = slices_Index_int_int_1 F (slices_Index_int_int_1_k F) F.n (slices_Index_int_int_1_s s v (s.length : Int) 0) := by kernel_rfl
noncomputable def slices_Index_int_int_con : Any := .one ⟨[(.sl 3 (.int .i64), false), (.int .i64, false)], [(.int .i64, false)], 1, fun x => slices_Index_int_int F0 x.1 x.2.1⟩
theorem slices_Index_int_int_ok : AnyOk Tryz.prog TB 116 slices_Index_int_int_con := ok1 (show AllOk Tryz.prog TB slices_Index_int_int_C from trivial) Tryz.func116 (by kernel_rfl) (by kernel_rfl) slices_Index_int_int_H (by kernel_rfl)

/-! ### slices.Contains[[]int,int] -/
noncomputable def slices_Contains_int_int_C : List (Nat × Any) := [(116, slices_Index_int_int_con)]
noncomputable def slices_Contains_int_int_H : Nat → Option Hint := look []
noncomputable def slices_Contains_int_int (s : List Int) (v : Int) : Option (Args [(.bool, false)]) := runF Tryz.prog (look slices_Contains_int_int_C) F slices_Contains_int_int_H Tryz.f86 [(.sl 3 (.int .i64), false), (.int .i64, false)] [(.bool, false)] 1 (s, v, ())
theorem slices_Contains_int_int_eq (s : List Int) (v : Int) : slices_Contains_int_int F s v = (slices_Index_int_int F0 s v).bind fun r7 => some (decide (r7.1 ≥ 0), ()) := by kernel_rfl
noncomputable def slices_Contains_int_int_con : Any := .one ⟨[(.sl 3 (.int .i64), false), (.int .i64, false)], [(.bool, false)], 1, fun x => slices_Contains_int_int F0 x.1 x.2.1⟩
theorem slices_Contains_int_int_ok : AnyOk Tryz.prog TB 86 slices_Contains_int_int_con := ok1 (show AllOk Tryz.prog TB slices_Contains_int_int_C from ⟨slices_Index_int_int_ok, trivial⟩) Tryz.func86 (by kernel_rfl) (by kernel_rfl) slices_Contains_int_int_H (by kernel_rfl)

/-! ### impl.SetHas -/
noncomputable def impl_SetHas_C : List (Nat × Any) := [(86, slices_Contains_int_int_con)]
noncomputable def impl_SetHas_H : Nat → Option Hint := look []
noncomputable def impl_SetHas (s : List Int) (i : Int) : Option (Args [(.bool, false)]) := runF Tryz.prog (look impl_SetHas_C) F impl_SetHas_H Tryz.f46 [(.sl 3 (.int .i64), false), (.int .i64, false)] [(.bool, false)] 1 (s, i, ())
theorem impl_SetHas_eq (s : List Int) (i : Int) : impl_SetHas F s i = (slices_Contains_int_int F0 s i).bind fun r7 => some (r7.1, ()) := by kernel_rfl
noncomputable def impl_SetHas_con : Any := .one ⟨[(.sl 3 (.int .i64), false), (.int .i64, false)], [(.bool, false)], 1, fun x => impl_SetHas F0 x.1 x.2.1⟩
theorem impl_SetHas_ok : AnyOk Tryz.prog TB 46 impl_SetHas_con := ok1 (show AllOk Tryz.prog TB impl_SetHas_C from ⟨slices_Contains_int_int_ok, trivial⟩) Tryz.func46 (by kernel_rfl) (by kernel_rfl) impl_SetHas_H (by kernel_rfl)

end
end Go.Am.Tryz
