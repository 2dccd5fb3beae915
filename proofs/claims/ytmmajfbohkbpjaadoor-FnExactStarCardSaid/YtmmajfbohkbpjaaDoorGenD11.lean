import Derived.Test.YtmmajfbohkbpjaaDoorAmUse
import Derived.Test.YtmmajfbohkbpjaaDoorProg
import Derived.Test.YtmmajfbohkbpjaaDoorShelfD
import Derived.Test.YtmmajfbohkbpjaaDoorShelfF
set_option linter.unusedVariables false
set_option maxRecDepth 100000
namespace Go.Am.Tryd
open Go.Am Go.Proofs


abbrev K1 : Ty := .pair (.sl 3 (.int .i64)) (.sl 3 (.int .i64))
abbrev D1 := List Int × List Int
abbrev K2 : Ty := .pair (.str) (.sl 3 (.int .i64))
abbrev D2 := ByteArray × List Int
abbrev K3 : Ty := .pair (.int .i64) (K2)
abbrev D3 := Int × D2
abbrev K4 : Ty := .pair (.int .i64) (.int .i64)
abbrev D4 := Int × Int
abbrev K5 : Ty := .pair (.int .i64) (K4)
abbrev D5 := Int × D4
abbrev K6 : Ty := .pair (.int .i64) (K5)
abbrev D6 := Int × D5
abbrev K7 : Ty := .sl 89 (K6)
abbrev D7 := List D6
abbrev K8 : Ty := .pair (.int .i64) (K7)
abbrev D8 := Int × D7
abbrev K9 : Ty := .sl 87 (K8)
abbrev D9 := List D8
abbrev K10 : Ty := .sl 94 (K6)
abbrev D10 := List D6
abbrev K11 : Ty := .sl 51 (K4)
abbrev D11 := List D4
noncomputable section
variable {α : Type} (F : Par) (κ : Ex → St → Option α) (n : Nat)
/-! ### laws.toIntS -/
noncomputable def laws_toIntS_C : List (Nat × Any) := []
noncomputable def laws_toIntS_H : Nat → Option Hint := look [(3, { live := [0, 3, 4], xl := [3], rl := [2] })]
noncomputable def laws_toIntS_1_s (a : List Int) (i : Int) (xs : List Int) : St := { nt := 22, tm := [(0, .v (.c (.ro false 3 (.int .i64) a))), (3, .v (.c (.own 1000000 none))), (4, .v (.c (.int .i64 i)))], bx := [], bl := [(1000000, some ⟨3, .int .i64, xs, true, true⟩)] }
noncomputable def laws_toIntS_1_e0 (xs : List Int) : St := { nt := 22, tm := [(3, .v (.c (.own 1000000 none)))], bx := [], bl := [(1000000, some ⟨3, .int .i64, xs, true, true⟩)] }
noncomputable def laws_toIntS_1 (st : St) : Option α := lp Tryd.prog (look laws_toIntS_C) F laws_toIntS_H (sub [.r, .r, .l, .r, .b, .i] (codeOf Tryd.f11)) κ n st
noncomputable def laws_toIntS_1_k : Ex → St → Option (Args [(.sl 3 (.int .i64), false)]) := cont Tryd.prog (look laws_toIntS_C) F laws_toIntS_H [.r, .r, .l, .r, .b] (codeOf Tryd.f11) (fin Tryd.prog Tryd.f11 [(.sl 3 (.int .i64), false)] 2)
theorem laws_toIntS_1_step (a : List Int) (i : Int) (xs : List Int) : laws_toIntS_1 F κ (n + 1) (laws_toIntS_1_s a i xs) = br (decide (i < (a.length : Int))) (ck (okI i (a.length : Int)) (ck (okI i (xs.length : Int)) (laws_toIntS_1 F κ n (laws_toIntS_1_s a (w64 (i + 1)) (xs.set i.toNat (at_ a i 0)))))) (κ (.exit 0) (laws_toIntS_1_e0 xs)) := by kernel_rfl
theorem laws_toIntS_1_ce0 (xs : List Int) : laws_toIntS_1_k F (.exit 0) (laws_toIntS_1_e0 xs) = some (xs, ()) := by kernel_rfl
noncomputable def laws_toIntS (a : List Int) : Option (Args [(.sl 3 (.int .i64), false)]) := runF Tryd.prog (look laws_toIntS_C) F laws_toIntS_H Tryd.f11 [(.sl 3 (.int .i64), false)] [(.sl 3 (.int .i64), false)] 2 (a, ())
theorem laws_toIntS_eq (a : List Int) : laws_toIntS F a = ck (okM F (a.length : Int) (a.length : Int) 8) (laws_toIntS_1 F (laws_toIntS_1_k F) F.n (laws_toIntS_1_s a 0 (List.replicate (a.length : Int).toNat 0))) := by kernel_rfl
noncomputable def laws_toIntS_con : Any := .one ⟨[(.sl 3 (.int .i64), false)], [(.sl 3 (.int .i64), false)], 2, fun x => laws_toIntS F0 x.1⟩
theorem laws_toIntS_ok : AnyOk Tryd.prog TB 11 laws_toIntS_con := ok1 (show AllOk Tryd.prog TB laws_toIntS_C from trivial) Tryd.func11 (by kernel_rfl) (by kernel_rfl) laws_toIntS_H (by kernel_rfl)

/-! ### spec.Digits -/
noncomputable def spec_Digits_C : List (Nat × Any) := []
noncomputable def spec_Digits_H : Nat → Option Hint := look [(5, { live := [0, 3, 4], xl := [3, 4], rl := [2] })]
noncomputable def spec_Digits_1_s (n1 : Int) (below : Bool) (out : ByteArray) : St := { nt := 31, tm := [(0, .v (.c (.int .i64 n1))), (3, .v (.c (.bool below))), (4, .v (.c (.str out)))], bx := [], bl := [] }
noncomputable def spec_Digits_1_e0 (below : Bool) (out : ByteArray) : St := { nt := 31, tm := [(3, .v (.c (.bool below))), (4, .v (.c (.str out)))], bx := [], bl := [] }
noncomputable def spec_Digits_1 (st : St) : Option α := lp Tryd.prog (look spec_Digits_C) F spec_Digits_H (sub [.r, .r, .r, .r, .l, .b, .i] (codeOf Tryd.f47)) κ n st
noncomputable def spec_Digits_1_k : Ex → St → Option (Args [(.str, false)]) := cont Tryd.prog (look spec_Digits_C) F spec_Digits_H [.r, .r, .r, .r, .l, .b] (codeOf Tryd.f47) (fin Tryd.prog Tryd.f47 [(.str, false)] 1)
theorem spec_Digits_1_step (n1 : Int) (below : Bool) (out : ByteArray) : spec_Digits_1 F κ (n + 1) (spec_Digits_1_s n1 below out) = br (n1 != 0) (br (decide ((Int.tmod n1 10) < 0)) (ck (okC F (strOf [IntKind.wrap .u8 (w64 (48 + (w64 (0 - (Int.tmod n1 10)))))]).size out.size) (spec_Digits_1 F κ n (spec_Digits_1_s (w64 (Int.tdiv n1 10)) below ((strOf [IntKind.wrap .u8 (w64 (48 + (w64 (0 - (Int.tmod n1 10)))))]) ++ out)))) (ck (okC F (strOf [IntKind.wrap .u8 (w64 (48 + (Int.tmod n1 10)))]).size out.size) (spec_Digits_1 F κ n (spec_Digits_1_s (w64 (Int.tdiv n1 10)) below ((strOf [IntKind.wrap .u8 (w64 (48 + (Int.tmod n1 10)))]) ++ out))))) (κ (.exit 0) (spec_Digits_1_e0 below out)) := by kernel_rfl
theorem spec_Digits_1_ce0 (below : Bool) (out : ByteArray) : spec_Digits_1_k F (.exit 0) (spec_Digits_1_e0 below out) = br below (ck (okC F (ByteArray.mk #[45]).size out.size) (some ((ByteArray.mk #[45]) ++ out, ()))) (some (out, ())) := by kernel_rfl
noncomputable def spec_Digits (n1 : Int) : Option (Args [(.str, false)]) := runF Tryd.prog (look spec_Digits_C) F spec_Digits_H Tryd.f47 [(.int .i64, false)] [(.str, false)] 1 (n1, ())
theorem spec_Digits_eq (n1 : Int) : spec_Digits F n1 = br (n1 == 0) (some ((ByteArray.mk #[48]), ())) (spec_Digits_1 F (spec_Digits_1_k F) F.n (spec_Digits_1_s n1 (decide (n1 < 0)) (ByteArray.mk #[]))) := by kernel_rfl
noncomputable def spec_Digits_con : Any := .one ⟨[(.int .i64, false)], [(.str, false)], 1, fun x => spec_Digits F0 x.1⟩
theorem spec_Digits_ok : AnyOk Tryd.prog TB 47 spec_Digits_con := ok1 (show AllOk Tryd.prog TB spec_Digits_C from trivial) Tryd.func47 (by kernel_rfl) (by kernel_rfl) spec_Digits_H (by kernel_rfl)

/-! ### spec.WhoText -/
noncomputable def spec_WhoText_C : List (Nat × Any) := [(47, spec_Digits_con)]
noncomputable def spec_WhoText_H : Nat → Option Hint := look [(3, { live := [0, 3, 4], xl := [3], rl := [2] })]
noncomputable def spec_WhoText_1_s (s : List Int) (out : ByteArray) (i : Int) : St := { nt := 24, tm := [(0, .v (.c (.ro false 3 (.int .i64) s))), (3, .v (.c (.str out))), (4, .v (.c (.int .i64 i)))], bx := [], bl := [] }
noncomputable def spec_WhoText_1_e0 (out : ByteArray) : St := { nt := 24, tm := [(3, .v (.c (.str out)))], bx := [], bl := [] }
noncomputable def spec_WhoText_1 (st : St) : Option α := lp Tryd.prog (look spec_WhoText_C) F spec_WhoText_H (sub [.r, .r, .l, .r, .b, .i] (codeOf Tryd.f10)) κ n st
noncomputable def spec_WhoText_1_k : Ex → St → Option (Args [(.str, false)]) := cont Tryd.prog (look spec_WhoText_C) F spec_WhoText_H [.r, .r, .l, .r, .b] (codeOf Tryd.f10) (fin Tryd.prog Tryd.f10 [(.str, false)] 1)
theorem spec_WhoText_1_step (s : List Int) (out : ByteArray) (i : Int) : spec_WhoText_1 F κ (n + 1) (spec_WhoText_1_s s out i) = br (decide (i < (s.length : Int))) (br (decide (i > 0)) (ck (okC F out.size (ByteArray.mk #[44]).size) (ck (okI i (s.length : Int)) ((spec_Digits F0 (at_ s i 0)).bind fun r20 => ck (okC F (out ++ (ByteArray.mk #[44])).size r20.1.size) (spec_WhoText_1 F κ n (spec_WhoText_1_s s ((out ++ (ByteArray.mk #[44])) ++ r20.1) (w64 (i + 1))))))) (ck (okI i (s.length : Int)) ((spec_Digits F0 (at_ s i 0)).bind fun r20 => ck (okC F out.size r20.1.size) (spec_WhoText_1 F κ n (spec_WhoText_1_s s (out ++ r20.1) (w64 (i + 1))))))) (κ (.exit 0) (spec_WhoText_1_e0 out)) := by kernel_rfl
theorem spec_WhoText_1_ce0 (out : ByteArray) : spec_WhoText_1_k F (.exit 0) (spec_WhoText_1_e0 out) = ck (okC F out.size (ByteArray.mk #[125]).size) (some (out ++ (ByteArray.mk #[125]), ())) := by kernel_rfl
noncomputable def spec_WhoText (s : List Int) : Option (Args [(.str, false)]) := runF Tryd.prog (look spec_WhoText_C) F spec_WhoText_H Tryd.f10 [(.sl 3 (.int .i64), false)] [(.str, false)] 1 (s, ())
theorem spec_WhoText_eq (s : List Int) : spec_WhoText F s = spec_WhoText_1 F (spec_WhoText_1_k F) F.n (spec_WhoText_1_s s (ByteArray.mk #[123]) 0) := by kernel_rfl
noncomputable def spec_WhoText_con : Any := .one ⟨[(.sl 3 (.int .i64), false)], [(.str, false)], 1, fun x => spec_WhoText F0 x.1⟩
theorem spec_WhoText_ok : AnyOk Tryd.prog TB 10 spec_WhoText_con := ok1 (show AllOk Tryd.prog TB spec_WhoText_C from ⟨spec_Digits_ok, trivial⟩) Tryd.func10 (by kernel_rfl) (by kernel_rfl) spec_WhoText_H (by kernel_rfl)

/-! ### strconv.small -/
noncomputable def strconv_small_C : List (Nat × Any) := []
noncomputable def strconv_small_H : Nat → Option Hint := look []
noncomputable def strconv_small (i : Int) : Option (Args [(.str, false)]) := runF Tryd.prog (look strconv_small_C) F strconv_small_H Tryd.f131 [(.int .i64, false)] [(.str, false)] 1 (i, ())
theorem strconv_small_eq (i : Int) : strconv_small F i = br (decide (i < 10)) (ck (okS i (w64 (i + 1)) ((ByteArray.mk #[48, 49, 50, 51, 52, 53, 54, 55, 56, 57, 97, 98, 99, 100, 101, 102, 103, 104, 105, 106, 107, 108, 109, 110, 111, 112, 113, 114, 115, 116, 117, 118, 119, 120, 121, 122]).size : Int)) (some ((ByteArray.mk #[48, 49, 50, 51, 52, 53, 54, 55, 56, 57, 97, 98, 99, 100, 101, 102, 103, 104, 105, 106, 107, 108, 109, 110, 111, 112, 113, 114, 115, 116, 117, 118, 119, 120, 121, 122]).extract i.toNat (w64 (i + 1)).toNat, ()))) (ck (okS (w64 (i * 2)) (w64 ((w64 (i * 2)) + 2)) ((ByteArray.mk #[48, 48, 48, 49, 48, 50, 48, 51, 48, 52, 48, 53, 48, 54, 48, 55, 48, 56, 48, 57, 49, 48, 49, 49, 49, 50, 49, 51, 49, 52, 49, 53, 49, 54, 49, 55, 49, 56, 49, 57, 50, 48, 50, 49, 50, 50, 50, 51, 50, 52, 50, 53, 50, 54, 50, 55, 50, 56, 50, 57, 51, 48, 51, 49, 51, 50, 51, 51, 51, 52, 51, 53, 51, 54, 51, 55, 51, 56, 51, 57, 52, 48, 52, 49, 52, 50, 52, 51, 52, 52, 52, 53, 52, 54, 52, 55, 52, 56, 52, 57, 53, 48, 53, 49, 53, 50, 53, 51, 53, 52, 53, 53, 53, 54, 53, 55, 53, 56, 53, 57, 54, 48, 54, 49, 54, 50, 54, 51, 54, 52, 54, 53, 54, 54, 54, 55, 54, 56, 54, 57, 55, 48, 55, 49, 55, 50, 55, 51, 55, 52, 55, 53, 55, 54, 55, 55, 55, 56, 55, 57, 56, 48, 56, 49, 56, 50, 56, 51, 56, 52, 56, 53, 56, 54, 56, 55, 56, 56, 56, 57, 57, 48, 57, 49, 57, 50, 57, 51, 57, 52, 57, 53, 57, 54, 57, 55, 57, 56, 57, 57]).size : Int)) (some ((ByteArray.mk #[48, 48, 48, 49, 48, 50, 48, 51, 48, 52, 48, 53, 48, 54, 48, 55, 48, 56, 48, 57, 49, 48, 49, 49, 49, 50, 49, 51, 49, 52, 49, 53, 49, 54, 49, 55, 49, 56, 49, 57, 50, 48, 50, 49, 50, 50, 50, 51, 50, 52, 50, 53, 50, 54, 50, 55, 50, 56, 50, 57, 51, 48, 51, 49, 51, 50, 51, 51, 51, 52, 51, 53, 51, 54, 51, 55, 51, 56, 51, 57, 52, 48, 52, 49, 52, 50, 52, 51, 52, 52, 52, 53, 52, 54, 52, 55, 52, 56, 52, 57, 53, 48, 53, 49, 53, 50, 53, 51, 53, 52, 53, 53, 53, 54, 53, 55, 53, 56, 53, 57, 54, 48, 54, 49, 54, 50, 54, 51, 54, 52, 54, 53, 54, 54, 54, 55, 54, 56, 54, 57, 55, 48, 55, 49, 55, 50, 55, 51, 55, 52, 55, 53, 55, 54, 55, 55, 55, 56, 55, 57, 56, 48, 56, 49, 56, 50, 56, 51, 56, 52, 56, 53, 56, 54, 56, 55, 56, 56, 56, 57, 57, 48, 57, 49, 57, 50, 57, 51, 57, 52, 57, 53, 57, 54, 57, 55, 57, 56, 57, 57]).extract (w64 (i * 2)).toNat (w64 ((w64 (i * 2)) + 2)).toNat, ()))) := by kernel_rfl
noncomputable def strconv_small_con : Any := .one ⟨[(.int .i64, false)], [(.str, false)], 1, fun x => strconv_small F0 x.1⟩
theorem strconv_small_ok : AnyOk Tryd.prog TB 131 strconv_small_con := ok1 (show AllOk Tryd.prog TB strconv_small_C from trivial) Tryd.func131 (by kernel_rfl) (by kernel_rfl) strconv_small_H (by kernel_rfl)

/-! ### bits.Len64 -/
noncomputable def bits_Len64_C : List (Nat × Any) := []
noncomputable def bits_Len64_H : Nat → Option Hint := look []
noncomputable def bits_Len64 (x : Int) : Option (Args [(.int .i64, false)]) := runF Tryd.prog (look bits_Len64_C) F bits_Len64_H Tryd.f145 [(.int .u64, false)] [(.int .i64, false)] 1 (x, ())
theorem bits_Len64_eq (x : Int) : bits_Len64 F x = br (decide (x ≥ 4294967296)) (br (decide ((Int.fdiv x (2 ^ (min (32 : Int).toNat 64))) ≥ 65536)) (br (decide ((Int.fdiv (Int.fdiv x (2 ^ (min (32 : Int).toNat 64))) (2 ^ (min (16 : Int).toNat 64))) ≥ 256)) (ck (okI (IntKind.wrap .u8 (Int.fdiv (Int.fdiv (Int.fdiv x (2 ^ (min (32 : Int).toNat 64))) (2 ^ (min (16 : Int).toNat 64))) (2 ^ (min (8 : Int).toNat 64)))) ((ByteArray.mk #[0, 1, 2, 2, 3, 3, 3, 3, 4, 4, 4, 4, 4, 4, 4, 4, 5, 5, 5, 5, 5, 5, 5, 5, 5, 5, 5, 5, 5, 5, 5, 5, 6, 6, 6, 6, 6, 6, 6, 6, 6, 6, 6, 6, 6, 6, 6, 6, 6, 6, 6, 6, 6, 6, 6, 6, 6, 6, 6, 6, 6, 6, 6, 6, 7, 7, 7, 7, 7, 7, 7, 7, 7, 7, 7, 7, 7, 7, 7, 7, 7, 7, 7, 7, 7, 7, 7, 7, 7, 7, 7, 7, 7, 7, 7, 7, 7, 7, 7, 7, 7, 7, 7, 7, 7, 7, 7, 7, 7, 7, 7, 7, 7, 7, 7, 7, 7, 7, 7, 7, 7, 7, 7, 7, 7, 7, 7, 7, 8, 8, 8, 8, 8, 8, 8, 8, 8, 8, 8, 8, 8, 8, 8, 8, 8, 8, 8, 8, 8, 8, 8, 8, 8, 8, 8, 8, 8, 8, 8, 8, 8, 8, 8, 8, 8, 8, 8, 8, 8, 8, 8, 8, 8, 8, 8, 8, 8, 8, 8, 8, 8, 8, 8, 8, 8, 8, 8, 8, 8, 8, 8, 8, 8, 8, 8, 8, 8, 8, 8, 8, 8, 8, 8, 8, 8, 8, 8, 8, 8, 8, 8, 8, 8, 8, 8, 8, 8, 8, 8, 8, 8, 8, 8, 8, 8, 8, 8, 8, 8, 8, 8, 8, 8, 8, 8, 8, 8, 8, 8, 8, 8, 8, 8, 8, 8, 8, 8, 8, 8, 8, 8, 8, 8, 8, 8, 8]).size : Int)) (some (w64 ((w64 ((w64 (32 + 16)) + 8)) + (w64 (byteAt (ByteArray.mk #[0, 1, 2, 2, 3, 3, 3, 3, 4, 4, 4, 4, 4, 4, 4, 4, 5, 5, 5, 5, 5, 5, 5, 5, 5, 5, 5, 5, 5, 5, 5, 5, 6, 6, 6, 6, 6, 6, 6, 6, 6, 6, 6, 6, 6, 6, 6, 6, 6, 6, 6, 6, 6, 6, 6, 6, 6, 6, 6, 6, 6, 6, 6, 6, 7, 7, 7, 7, 7, 7, 7, 7, 7, 7, 7, 7, 7, 7, 7, 7, 7, 7, 7, 7, 7, 7, 7, 7, 7, 7, 7, 7, 7, 7, 7, 7, 7, 7, 7, 7, 7, 7, 7, 7, 7, 7, 7, 7, 7, 7, 7, 7, 7, 7, 7, 7, 7, 7, 7, 7, 7, 7, 7, 7, 7, 7, 7, 7, 8, 8, 8, 8, 8, 8, 8, 8, 8, 8, 8, 8, 8, 8, 8, 8, 8, 8, 8, 8, 8, 8, 8, 8, 8, 8, 8, 8, 8, 8, 8, 8, 8, 8, 8, 8, 8, 8, 8, 8, 8, 8, 8, 8, 8, 8, 8, 8, 8, 8, 8, 8, 8, 8, 8, 8, 8, 8, 8, 8, 8, 8, 8, 8, 8, 8, 8, 8, 8, 8, 8, 8, 8, 8, 8, 8, 8, 8, 8, 8, 8, 8, 8, 8, 8, 8, 8, 8, 8, 8, 8, 8, 8, 8, 8, 8, 8, 8, 8, 8, 8, 8, 8, 8, 8, 8, 8, 8, 8, 8, 8, 8, 8, 8, 8, 8, 8, 8, 8, 8, 8, 8, 8, 8, 8, 8, 8, 8]) (IntKind.wrap .u8 (Int.fdiv (Int.fdiv (Int.fdiv x (2 ^ (min (32 : Int).toNat 64))) (2 ^ (min (16 : Int).toNat 64))) (2 ^ (min (8 : Int).toNat 64))))))), ()))) (ck (okI (IntKind.wrap .u8 (Int.fdiv (Int.fdiv x (2 ^ (min (32 : Int).toNat 64))) (2 ^ (min (16 : Int).toNat 64)))) ((ByteArray.mk #[0, 1, 2, 2, 3, 3, 3, 3, 4, 4, 4, 4, 4, 4, 4, 4, 5, 5, 5, 5, 5, 5, 5, 5, 5, 5, 5, 5, 5, 5, 5, 5, 6, 6, 6, 6, 6, 6, 6, 6, 6, 6, 6, 6, 6, 6, 6, 6, 6, 6, 6, 6, 6, 6, 6, 6, 6, 6, 6, 6, 6, 6, 6, 6, 7, 7, 7, 7, 7, 7, 7, 7, 7, 7, 7, 7, 7, 7, 7, 7, 7, 7, 7, 7, 7, 7, 7, 7, 7, 7, 7, 7, 7, 7, 7, 7, 7, 7, 7, 7, 7, 7, 7, 7, 7, 7, 7, 7, 7, 7, 7, 7, 7, 7, 7, 7, 7, 7, 7, 7, 7, 7, 7, 7, 7, 7, 7, 7, 8, 8, 8, 8, 8, 8, 8, 8, 8, 8, 8, 8, 8, 8, 8, 8, 8, 8, 8, 8, 8, 8, 8, 8, 8, 8, 8, 8, 8, 8, 8, 8, 8, 8, 8, 8, 8, 8, 8, 8, 8, 8, 8, 8, 8, 8, 8, 8, 8, 8, 8, 8, 8, 8, 8, 8, 8, 8, 8, 8, 8, 8, 8, 8, 8, 8, 8, 8, 8, 8, 8, 8, 8, 8, 8, 8, 8, 8, 8, 8, 8, 8, 8, 8, 8, 8, 8, 8, 8, 8, 8, 8, 8, 8, 8, 8, 8, 8, 8, 8, 8, 8, 8, 8, 8, 8, 8, 8, 8, 8, 8, 8, 8, 8, 8, 8, 8, 8, 8, 8, 8, 8, 8, 8, 8, 8, 8, 8]).size : Int)) (some (w64 ((w64 (32 + 16)) + (w64 (byteAt (ByteArray.mk #[0, 1, 2, 2, 3, 3, 3, 3, 4, 4, 4, 4, 4, 4, 4, 4, 5, 5, 5, 5, 5, 5, 5, 5, 5, 5, 5, 5, 5, 5, 5, 5, 6, 6, 6, 6, 6, 6, 6, 6, 6, 6, 6, 6, 6, 6, 6, 6, 6, 6, 6, 6, 6, 6, 6, 6, 6, 6, 6, 6, 6, 6, 6, 6, 7, 7, 7, 7, 7, 7, 7, 7, 7, 7, 7, 7, 7, 7, 7, 7, 7, 7, 7, 7, 7, 7, 7, 7, 7, 7, 7, 7, 7, 7, 7, 7, 7, 7, 7, 7, 7, 7, 7, 7, 7, 7, 7, 7, 7, 7, 7, 7, 7, 7, 7, 7, 7, 7, 7, 7, 7, 7, 7, 7, 7, 7, 7, 7, 8, 8, 8, 8, 8, 8, 8, 8, 8, 8, 8, 8, 8, 8, 8, 8, 8, 8, 8, 8, 8, 8, 8, 8, 8, 8, 8, 8, 8, 8, 8, 8, 8, 8, 8, 8, 8, 8, 8, 8, 8, 8, 8, 8, 8, 8, 8, 8, 8, 8, 8, 8, 8, 8, 8, 8, 8, 8, 8, 8, 8, 8, 8, 8, 8, 8, 8, 8, 8, 8, 8, 8, 8, 8, 8, 8, 8, 8, 8, 8, 8, 8, 8, 8, 8, 8, 8, 8, 8, 8, 8, 8, 8, 8, 8, 8, 8, 8, 8, 8, 8, 8, 8, 8, 8, 8, 8, 8, 8, 8, 8, 8, 8, 8, 8, 8, 8, 8, 8, 8, 8, 8, 8, 8, 8, 8, 8, 8]) (IntKind.wrap .u8 (Int.fdiv (Int.fdiv x (2 ^ (min (32 : Int).toNat 64))) (2 ^ (min (16 : Int).toNat 64))))))), ())))) (br (decide ((Int.fdiv x (2 ^ (min (32 : Int).toNat 64))) ≥ 256)) (ck (okI (IntKind.wrap .u8 (Int.fdiv (Int.fdiv x (2 ^ (min (32 : Int).toNat 64))) (2 ^ (min (8 : Int).toNat 64)))) ((ByteArray.mk #[0, 1, 2, 2, 3, 3, 3, 3, 4, 4, 4, 4, 4, 4, 4, 4, 5, 5, 5, 5, 5, 5, 5, 5, 5, 5, 5, 5, 5, 5, 5, 5, 6, 6, 6, 6, 6, 6, 6, 6, 6, 6, 6, 6, 6, 6, 6, 6, 6, 6, 6, 6, 6, 6, 6, 6, 6, 6, 6, 6, 6, 6, 6, 6, 7, 7, 7, 7, 7, 7, 7, 7, 7, 7, 7, 7, 7, 7, 7, 7, 7, 7, 7, 7, 7, 7, 7, 7, 7, 7, 7, 7, 7, 7, 7, 7, 7, 7, 7, 7, 7, 7, 7, 7, 7, 7, 7, 7, 7, 7, 7, 7, 7, 7, 7, 7, 7, 7, 7, 7, 7, 7, 7, 7, 7, 7, 7, 7, 8, 8, 8, 8, 8, 8, 8, 8, 8, 8, 8, 8, 8, 8, 8, 8, 8, 8, 8, 8, 8, 8, 8, 8, 8, 8, 8, 8, 8, 8, 8, 8, 8, 8, 8, 8, 8, 8, 8, 8, 8, 8, 8, 8, 8, 8, 8, 8, 8, 8, 8, 8, 8, 8, 8, 8, 8, 8, 8, 8, 8, 8, 8, 8, 8, 8, 8, 8, 8, 8, 8, 8, 8, 8, 8, 8, 8, 8, 8, 8, 8, 8, 8, 8, 8, 8, 8, 8, 8, 8, 8, 8, 8, 8, 8, 8, 8, 8, 8, 8, 8, 8, 8, 8, 8, 8, 8, 8, 8, 8, 8, 8, 8, 8, 8, 8, 8, 8, 8, 8, 8, 8, 8, 8, 8, 8, 8, 8]).size : Int)) (some (w64 ((w64 (32 + 8)) + (w64 (byteAt (ByteArray.mk #[0, 1, 2, 2, 3, 3, 3, 3, 4, 4, 4, 4, 4, 4, 4, 4, 5, 5, 5, 5, 5, 5, 5, 5, 5, 5, 5, 5, 5, 5, 5, 5, 6, 6, 6, 6, 6, 6, 6, 6, 6, 6, 6, 6, 6, 6, 6, 6, 6, 6, 6, 6, 6, 6, 6, 6, 6, 6, 6, 6, 6, 6, 6, 6, 7, 7, 7, 7, 7, 7, 7, 7, 7, 7, 7, 7, 7, 7, 7, 7, 7, 7, 7, 7, 7, 7, 7, 7, 7, 7, 7, 7, 7, 7, 7, 7, 7, 7, 7, 7, 7, 7, 7, 7, 7, 7, 7, 7, 7, 7, 7, 7, 7, 7, 7, 7, 7, 7, 7, 7, 7, 7, 7, 7, 7, 7, 7, 7, 8, 8, 8, 8, 8, 8, 8, 8, 8, 8, 8, 8, 8, 8, 8, 8, 8, 8, 8, 8, 8, 8, 8, 8, 8, 8, 8, 8, 8, 8, 8, 8, 8, 8, 8, 8, 8, 8, 8, 8, 8, 8, 8, 8, 8, 8, 8, 8, 8, 8, 8, 8, 8, 8, 8, 8, 8, 8, 8, 8, 8, 8, 8, 8, 8, 8, 8, 8, 8, 8, 8, 8, 8, 8, 8, 8, 8, 8, 8, 8, 8, 8, 8, 8, 8, 8, 8, 8, 8, 8, 8, 8, 8, 8, 8, 8, 8, 8, 8, 8, 8, 8, 8, 8, 8, 8, 8, 8, 8, 8, 8, 8, 8, 8, 8, 8, 8, 8, 8, 8, 8, 8, 8, 8, 8, 8, 8, 8]) (IntKind.wrap .u8 (Int.fdiv (Int.fdiv x (2 ^ (min (32 : Int).toNat 64))) (2 ^ (min (8 : Int).toNat 64))))))), ()))) (ck (okI (IntKind.wrap .u8 (Int.fdiv x (2 ^ (min (32 : Int).toNat 64)))) ((ByteArray.mk #[0, 1, 2, 2, 3, 3, 3, 3, 4, 4, 4, 4, 4, 4, 4, 4, 5, 5, 5, 5, 5, 5, 5, 5, 5, 5, 5, 5, 5, 5, 5, 5, 6, 6, 6, 6, 6, 6, 6, 6, 6, 6, 6, 6, 6, 6, 6, 6, 6, 6, 6, 6, 6, 6, 6, 6, 6, 6, 6, 6, 6, 6, 6, 6, 7, 7, 7, 7, 7, 7, 7, 7, 7, 7, 7, 7, 7, 7, 7, 7, 7, 7, 7, 7, 7, 7, 7, 7, 7, 7, 7, 7, 7, 7, 7, 7, 7, 7, 7, 7, 7, 7, 7, 7, 7, 7, 7, 7, 7, 7, 7, 7, 7, 7, 7, 7, 7, 7, 7, 7, 7, 7, 7, 7, 7, 7, 7, 7, 8, 8, 8, 8, 8, 8, 8, 8, 8, 8, 8, 8, 8, 8, 8, 8, 8, 8, 8, 8, 8, 8, 8, 8, 8, 8, 8, 8, 8, 8, 8, 8, 8, 8, 8, 8, 8, 8, 8, 8, 8, 8, 8, 8, 8, 8, 8, 8, 8, 8, 8, 8, 8, 8, 8, 8, 8, 8, 8, 8, 8, 8, 8, 8, 8, 8, 8, 8, 8, 8, 8, 8, 8, 8, 8, 8, 8, 8, 8, 8, 8, 8, 8, 8, 8, 8, 8, 8, 8, 8, 8, 8, 8, 8, 8, 8, 8, 8, 8, 8, 8, 8, 8, 8, 8, 8, 8, 8, 8, 8, 8, 8, 8, 8, 8, 8, 8, 8, 8, 8, 8, 8, 8, 8, 8, 8, 8, 8]).size : Int)) (some (w64 (32 + (w64 (byteAt (ByteArray.mk #[0, 1, 2, 2, 3, 3, 3, 3, 4, 4, 4, 4, 4, 4, 4, 4, 5, 5, 5, 5, 5, 5, 5, 5, 5, 5, 5, 5, 5, 5, 5, 5, 6, 6, 6, 6, 6, 6, 6, 6, 6, 6, 6, 6, 6, 6, 6, 6, 6, 6, 6, 6, 6, 6, 6, 6, 6, 6, 6, 6, 6, 6, 6, 6, 7, 7, 7, 7, 7, 7, 7, 7, 7, 7, 7, 7, 7, 7, 7, 7, 7, 7, 7, 7, 7, 7, 7, 7, 7, 7, 7, 7, 7, 7, 7, 7, 7, 7, 7, 7, 7, 7, 7, 7, 7, 7, 7, 7, 7, 7, 7, 7, 7, 7, 7, 7, 7, 7, 7, 7, 7, 7, 7, 7, 7, 7, 7, 7, 8, 8, 8, 8, 8, 8, 8, 8, 8, 8, 8, 8, 8, 8, 8, 8, 8, 8, 8, 8, 8, 8, 8, 8, 8, 8, 8, 8, 8, 8, 8, 8, 8, 8, 8, 8, 8, 8, 8, 8, 8, 8, 8, 8, 8, 8, 8, 8, 8, 8, 8, 8, 8, 8, 8, 8, 8, 8, 8, 8, 8, 8, 8, 8, 8, 8, 8, 8, 8, 8, 8, 8, 8, 8, 8, 8, 8, 8, 8, 8, 8, 8, 8, 8, 8, 8, 8, 8, 8, 8, 8, 8, 8, 8, 8, 8, 8, 8, 8, 8, 8, 8, 8, 8, 8, 8, 8, 8, 8, 8, 8, 8, 8, 8, 8, 8, 8, 8, 8, 8, 8, 8, 8, 8, 8, 8, 8, 8]) (IntKind.wrap .u8 (Int.fdiv x (2 ^ (min (32 : Int).toNat 64))))))), ()))))) (br (decide (x ≥ 65536)) (br (decide ((Int.fdiv x (2 ^ (min (16 : Int).toNat 64))) ≥ 256)) (ck (okI (IntKind.wrap .u8 (Int.fdiv (Int.fdiv x (2 ^ (min (16 : Int).toNat 64))) (2 ^ (min (8 : Int).toNat 64)))) ((ByteArray.mk #[0, 1, 2, 2, 3, 3, 3, 3, 4, 4, 4, 4, 4, 4, 4, 4, 5, 5, 5, 5, 5, 5, 5, 5, 5, 5, 5, 5, 5, 5, 5, 5, 6, 6, 6, 6, 6, 6, 6, 6, 6, 6, 6, 6, 6, 6, 6, 6, 6, 6, 6, 6, 6, 6, 6, 6, 6, 6, 6, 6, 6, 6, 6, 6, 7, 7, 7, 7, 7, 7, 7, 7, 7, 7, 7, 7, 7, 7, 7, 7, 7, 7, 7, 7, 7, 7, 7, 7, 7, 7, 7, 7, 7, 7, 7, 7, 7, 7, 7, 7, 7, 7, 7, 7, 7, 7, 7, 7, 7, 7, 7, 7, 7, 7, 7, 7, 7, 7, 7, 7, 7, 7, 7, 7, 7, 7, 7, 7, 8, 8, 8, 8, 8, 8, 8, 8, 8, 8, 8, 8, 8, 8, 8, 8, 8, 8, 8, 8, 8, 8, 8, 8, 8, 8, 8, 8, 8, 8, 8, 8, 8, 8, 8, 8, 8, 8, 8, 8, 8, 8, 8, 8, 8, 8, 8, 8, 8, 8, 8, 8, 8, 8, 8, 8, 8, 8, 8, 8, 8, 8, 8, 8, 8, 8, 8, 8, 8, 8, 8, 8, 8, 8, 8, 8, 8, 8, 8, 8, 8, 8, 8, 8, 8, 8, 8, 8, 8, 8, 8, 8, 8, 8, 8, 8, 8, 8, 8, 8, 8, 8, 8, 8, 8, 8, 8, 8, 8, 8, 8, 8, 8, 8, 8, 8, 8, 8, 8, 8, 8, 8, 8, 8, 8, 8, 8, 8]).size : Int)) (some (w64 ((w64 ((w64 (0 + 16)) + 8)) + (w64 (byteAt (ByteArray.mk #[0, 1, 2, 2, 3, 3, 3, 3, 4, 4, 4, 4, 4, 4, 4, 4, 5, 5, 5, 5, 5, 5, 5, 5, 5, 5, 5, 5, 5, 5, 5, 5, 6, 6, 6, 6, 6, 6, 6, 6, 6, 6, 6, 6, 6, 6, 6, 6, 6, 6, 6, 6, 6, 6, 6, 6, 6, 6, 6, 6, 6, 6, 6, 6, 7, 7, 7, 7, 7, 7, 7, 7, 7, 7, 7, 7, 7, 7, 7, 7, 7, 7, 7, 7, 7, 7, 7, 7, 7, 7, 7, 7, 7, 7, 7, 7, 7, 7, 7, 7, 7, 7, 7, 7, 7, 7, 7, 7, 7, 7, 7, 7, 7, 7, 7, 7, 7, 7, 7, 7, 7, 7, 7, 7, 7, 7, 7, 7, 8, 8, 8, 8, 8, 8, 8, 8, 8, 8, 8, 8, 8, 8, 8, 8, 8, 8, 8, 8, 8, 8, 8, 8, 8, 8, 8, 8, 8, 8, 8, 8, 8, 8, 8, 8, 8, 8, 8, 8, 8, 8, 8, 8, 8, 8, 8, 8, 8, 8, 8, 8, 8, 8, 8, 8, 8, 8, 8, 8, 8, 8, 8, 8, 8, 8, 8, 8, 8, 8, 8, 8, 8, 8, 8, 8, 8, 8, 8, 8, 8, 8, 8, 8, 8, 8, 8, 8, 8, 8, 8, 8, 8, 8, 8, 8, 8, 8, 8, 8, 8, 8, 8, 8, 8, 8, 8, 8, 8, 8, 8, 8, 8, 8, 8, 8, 8, 8, 8, 8, 8, 8, 8, 8, 8, 8, 8, 8]) (IntKind.wrap .u8 (Int.fdiv (Int.fdiv x (2 ^ (min (16 : Int).toNat 64))) (2 ^ (min (8 : Int).toNat 64))))))), ()))) (ck (okI (IntKind.wrap .u8 (Int.fdiv x (2 ^ (min (16 : Int).toNat 64)))) ((ByteArray.mk #[0, 1, 2, 2, 3, 3, 3, 3, 4, 4, 4, 4, 4, 4, 4, 4, 5, 5, 5, 5, 5, 5, 5, 5, 5, 5, 5, 5, 5, 5, 5, 5, 6, 6, 6, 6, 6, 6, 6, 6, 6, 6, 6, 6, 6, 6, 6, 6, 6, 6, 6, 6, 6, 6, 6, 6, 6, 6, 6, 6, 6, 6, 6, 6, 7, 7, 7, 7, 7, 7, 7, 7, 7, 7, 7, 7, 7, 7, 7, 7, 7, 7, 7, 7, 7, 7, 7, 7, 7, 7, 7, 7, 7, 7, 7, 7, 7, 7, 7, 7, 7, 7, 7, 7, 7, 7, 7, 7, 7, 7, 7, 7, 7, 7, 7, 7, 7, 7, 7, 7, 7, 7, 7, 7, 7, 7, 7, 7, 8, 8, 8, 8, 8, 8, 8, 8, 8, 8, 8, 8, 8, 8, 8, 8, 8, 8, 8, 8, 8, 8, 8, 8, 8, 8, 8, 8, 8, 8, 8, 8, 8, 8, 8, 8, 8, 8, 8, 8, 8, 8, 8, 8, 8, 8, 8, 8, 8, 8, 8, 8, 8, 8, 8, 8, 8, 8, 8, 8, 8, 8, 8, 8, 8, 8, 8, 8, 8, 8, 8, 8, 8, 8, 8, 8, 8, 8, 8, 8, 8, 8, 8, 8, 8, 8, 8, 8, 8, 8, 8, 8, 8, 8, 8, 8, 8, 8, 8, 8, 8, 8, 8, 8, 8, 8, 8, 8, 8, 8, 8, 8, 8, 8, 8, 8, 8, 8, 8, 8, 8, 8, 8, 8, 8, 8, 8, 8]).size : Int)) (some (w64 ((w64 (0 + 16)) + (w64 (byteAt (ByteArray.mk #[0, 1, 2, 2, 3, 3, 3, 3, 4, 4, 4, 4, 4, 4, 4, 4, 5, 5, 5, 5, 5, 5, 5, 5, 5, 5, 5, 5, 5, 5, 5, 5, 6, 6, 6, 6, 6, 6, 6, 6, 6, 6, 6, 6, 6, 6, 6, 6, 6, 6, 6, 6, 6, 6, 6, 6, 6, 6, 6, 6, 6, 6, 6, 6, 7, 7, 7, 7, 7, 7, 7, 7, 7, 7, 7, 7, 7, 7, 7, 7, 7, 7, 7, 7, 7, 7, 7, 7, 7, 7, 7, 7, 7, 7, 7, 7, 7, 7, 7, 7, 7, 7, 7, 7, 7, 7, 7, 7, 7, 7, 7, 7, 7, 7, 7, 7, 7, 7, 7, 7, 7, 7, 7, 7, 7, 7, 7, 7, 8, 8, 8, 8, 8, 8, 8, 8, 8, 8, 8, 8, 8, 8, 8, 8, 8, 8, 8, 8, 8, 8, 8, 8, 8, 8, 8, 8, 8, 8, 8, 8, 8, 8, 8, 8, 8, 8, 8, 8, 8, 8, 8, 8, 8, 8, 8, 8, 8, 8, 8, 8, 8, 8, 8, 8, 8, 8, 8, 8, 8, 8, 8, 8, 8, 8, 8, 8, 8, 8, 8, 8, 8, 8, 8, 8, 8, 8, 8, 8, 8, 8, 8, 8, 8, 8, 8, 8, 8, 8, 8, 8, 8, 8, 8, 8, 8, 8, 8, 8, 8, 8, 8, 8, 8, 8, 8, 8, 8, 8, 8, 8, 8, 8, 8, 8, 8, 8, 8, 8, 8, 8, 8, 8, 8, 8, 8, 8]) (IntKind.wrap .u8 (Int.fdiv x (2 ^ (min (16 : Int).toNat 64))))))), ())))) (br (decide (x ≥ 256)) (ck (okI (IntKind.wrap .u8 (Int.fdiv x (2 ^ (min (8 : Int).toNat 64)))) ((ByteArray.mk #[0, 1, 2, 2, 3, 3, 3, 3, 4, 4, 4, 4, 4, 4, 4, 4, 5, 5, 5, 5, 5, 5, 5, 5, 5, 5, 5, 5, 5, 5, 5, 5, 6, 6, 6, 6, 6, 6, 6, 6, 6, 6, 6, 6, 6, 6, 6, 6, 6, 6, 6, 6, 6, 6, 6, 6, 6, 6, 6, 6, 6, 6, 6, 6, 7, 7, 7, 7, 7, 7, 7, 7, 7, 7, 7, 7, 7, 7, 7, 7, 7, 7, 7, 7, 7, 7, 7, 7, 7, 7, 7, 7, 7, 7, 7, 7, 7, 7, 7, 7, 7, 7, 7, 7, 7, 7, 7, 7, 7, 7, 7, 7, 7, 7, 7, 7, 7, 7, 7, 7, 7, 7, 7, 7, 7, 7, 7, 7, 8, 8, 8, 8, 8, 8, 8, 8, 8, 8, 8, 8, 8, 8, 8, 8, 8, 8, 8, 8, 8, 8, 8, 8, 8, 8, 8, 8, 8, 8, 8, 8, 8, 8, 8, 8, 8, 8, 8, 8, 8, 8, 8, 8, 8, 8, 8, 8, 8, 8, 8, 8, 8, 8, 8, 8, 8, 8, 8, 8, 8, 8, 8, 8, 8, 8, 8, 8, 8, 8, 8, 8, 8, 8, 8, 8, 8, 8, 8, 8, 8, 8, 8, 8, 8, 8, 8, 8, 8, 8, 8, 8, 8, 8, 8, 8, 8, 8, 8, 8, 8, 8, 8, 8, 8, 8, 8, 8, 8, 8, 8, 8, 8, 8, 8, 8, 8, 8, 8, 8, 8, 8, 8, 8, 8, 8, 8, 8]).size : Int)) (some (w64 ((w64 (0 + 8)) + (w64 (byteAt (ByteArray.mk #[0, 1, 2, 2, 3, 3, 3, 3, 4, 4, 4, 4, 4, 4, 4, 4, 5, 5, 5, 5, 5, 5, 5, 5, 5, 5, 5, 5, 5, 5, 5, 5, 6, 6, 6, 6, 6, 6, 6, 6, 6, 6, 6, 6, 6, 6, 6, 6, 6, 6, 6, 6, 6, 6, 6, 6, 6, 6, 6, 6, 6, 6, 6, 6, 7, 7, 7, 7, 7, 7, 7, 7, 7, 7, 7, 7, 7, 7, 7, 7, 7, 7, 7, 7, 7, 7, 7, 7, 7, 7, 7, 7, 7, 7, 7, 7, 7, 7, 7, 7, 7, 7, 7, 7, 7, 7, 7, 7, 7, 7, 7, 7, 7, 7, 7, 7, 7, 7, 7, 7, 7, 7, 7, 7, 7, 7, 7, 7, 8, 8, 8, 8, 8, 8, 8, 8, 8, 8, 8, 8, 8, 8, 8, 8, 8, 8, 8, 8, 8, 8, 8, 8, 8, 8, 8, 8, 8, 8, 8, 8, 8, 8, 8, 8, 8, 8, 8, 8, 8, 8, 8, 8, 8, 8, 8, 8, 8, 8, 8, 8, 8, 8, 8, 8, 8, 8, 8, 8, 8, 8, 8, 8, 8, 8, 8, 8, 8, 8, 8, 8, 8, 8, 8, 8, 8, 8, 8, 8, 8, 8, 8, 8, 8, 8, 8, 8, 8, 8, 8, 8, 8, 8, 8, 8, 8, 8, 8, 8, 8, 8, 8, 8, 8, 8, 8, 8, 8, 8, 8, 8, 8, 8, 8, 8, 8, 8, 8, 8, 8, 8, 8, 8, 8, 8, 8, 8]) (IntKind.wrap .u8 (Int.fdiv x (2 ^ (min (8 : Int).toNat 64))))))), ()))) (ck (okI (IntKind.wrap .u8 (x)) ((ByteArray.mk #[0, 1, 2, 2, 3, 3, 3, 3, 4, 4, 4, 4, 4, 4, 4, 4, 5, 5, 5, 5, 5, 5, 5, 5, 5, 5, 5, 5, 5, 5, 5, 5, 6, 6, 6, 6, 6, 6, 6, 6, 6, 6, 6, 6, 6, 6, 6, 6, 6, 6, 6, 6, 6, 6, 6, 6, 6, 6, 6, 6, 6, 6, 6, 6, 7, 7, 7, 7, 7, 7, 7, 7, 7, 7, 7, 7, 7, 7, 7, 7, 7, 7, 7, 7, 7, 7, 7, 7, 7, 7, 7, 7, 7, 7, 7, 7, 7, 7, 7, 7, 7, 7, 7, 7, 7, 7, 7, 7, 7, 7, 7, 7, 7, 7, 7, 7, 7, 7, 7, 7, 7, 7, 7, 7, 7, 7, 7, 7, 8, 8, 8, 8, 8, 8, 8, 8, 8, 8, 8, 8, 8, 8, 8, 8, 8, 8, 8, 8, 8, 8, 8, 8, 8, 8, 8, 8, 8, 8, 8, 8, 8, 8, 8, 8, 8, 8, 8, 8, 8, 8, 8, 8, 8, 8, 8, 8, 8, 8, 8, 8, 8, 8, 8, 8, 8, 8, 8, 8, 8, 8, 8, 8, 8, 8, 8, 8, 8, 8, 8, 8, 8, 8, 8, 8, 8, 8, 8, 8, 8, 8, 8, 8, 8, 8, 8, 8, 8, 8, 8, 8, 8, 8, 8, 8, 8, 8, 8, 8, 8, 8, 8, 8, 8, 8, 8, 8, 8, 8, 8, 8, 8, 8, 8, 8, 8, 8, 8, 8, 8, 8, 8, 8, 8, 8, 8, 8]).size : Int)) (some (w64 (0 + (w64 (byteAt (ByteArray.mk #[0, 1, 2, 2, 3, 3, 3, 3, 4, 4, 4, 4, 4, 4, 4, 4, 5, 5, 5, 5, 5, 5, 5, 5, 5, 5, 5, 5, 5, 5, 5, 5, 6, 6, 6, 6, 6, 6, 6, 6, 6, 6, 6, 6, 6, 6, 6, 6, 6, 6, 6, 6, 6, 6, 6, 6, 6, 6, 6, 6, 6, 6, 6, 6, 7, 7, 7, 7, 7, 7, 7, 7, 7, 7, 7, 7, 7, 7, 7, 7, 7, 7, 7, 7, 7, 7, 7, 7, 7, 7, 7, 7, 7, 7, 7, 7, 7, 7, 7, 7, 7, 7, 7, 7, 7, 7, 7, 7, 7, 7, 7, 7, 7, 7, 7, 7, 7, 7, 7, 7, 7, 7, 7, 7, 7, 7, 7, 7, 8, 8, 8, 8, 8, 8, 8, 8, 8, 8, 8, 8, 8, 8, 8, 8, 8, 8, 8, 8, 8, 8, 8, 8, 8, 8, 8, 8, 8, 8, 8, 8, 8, 8, 8, 8, 8, 8, 8, 8, 8, 8, 8, 8, 8, 8, 8, 8, 8, 8, 8, 8, 8, 8, 8, 8, 8, 8, 8, 8, 8, 8, 8, 8, 8, 8, 8, 8, 8, 8, 8, 8, 8, 8, 8, 8, 8, 8, 8, 8, 8, 8, 8, 8, 8, 8, 8, 8, 8, 8, 8, 8, 8, 8, 8, 8, 8, 8, 8, 8, 8, 8, 8, 8, 8, 8, 8, 8, 8, 8, 8, 8, 8, 8, 8, 8, 8, 8, 8, 8, 8, 8, 8, 8, 8, 8, 8, 8]) (IntKind.wrap .u8 (x))))), ()))))) := by kernel_rfl
noncomputable def bits_Len64_con : Any := .one ⟨[(.int .u64, false)], [(.int .i64, false)], 1, fun x => bits_Len64 F0 x.1⟩
theorem bits_Len64_ok : AnyOk Tryd.prog TB 145 bits_Len64_con := ok1 (show AllOk Tryd.prog TB bits_Len64_C from trivial) Tryd.func145 (by kernel_rfl) (by kernel_rfl) bits_Len64_H (by kernel_rfl)

/-! ### strconv.log10Pow2 -/
noncomputable def strconv_log10Pow2_C : List (Nat × Any) := []
noncomputable def strconv_log10Pow2_H : Nat → Option Hint := look []
noncomputable def strconv_log10Pow2 (x : Int) : Option (Args [(.int .i64, false)]) := runF Tryd.prog (look strconv_log10Pow2_C) F strconv_log10Pow2_H Tryd.f144 [(.int .i64, false)] [(.int .i64, false)] 1 (x, ())
theorem strconv_log10Pow2_eq (x : Int) : strconv_log10Pow2 F x = some (Int.fdiv (w64 (x * 78913)) (2 ^ (min (18 : Int).toNat 64)), ()) := by kernel_rfl
noncomputable def strconv_log10Pow2_con : Any := .one ⟨[(.int .i64, false)], [(.int .i64, false)], 1, fun x => strconv_log10Pow2 F0 x.1⟩
theorem strconv_log10Pow2_ok : AnyOk Tryd.prog TB 144 strconv_log10Pow2_con := ok1 (show AllOk Tryd.prog TB strconv_log10Pow2_C from trivial) Tryd.func144 (by kernel_rfl) (by kernel_rfl) strconv_log10Pow2_H (by kernel_rfl)

/-! ### strconv.bool2[int] -/
noncomputable def strconv_bool2_int_C : List (Nat × Any) := []
noncomputable def strconv_bool2_int_H : Nat → Option Hint := look []
noncomputable def strconv_bool2_int (b : Bool) : Option (Args [(.int .i64, false)]) := runF Tryd.prog (look strconv_bool2_int_C) F strconv_bool2_int_H Tryd.f146 [(.bool, false)] [(.int .i64, false)] 1 (b, ())
theorem strconv_bool2_int_eq (b : Bool) : strconv_bool2_int F b = br b (some (1, ())) (some (0, ())) := by kernel_rfl
noncomputable def strconv_bool2_int_con : Any := .one ⟨[(.bool, false)], [(.int .i64, false)], 1, fun x => strconv_bool2_int F0 x.1⟩
theorem strconv_bool2_int_ok : AnyOk Tryd.prog TB 146 strconv_bool2_int_con := ok1 (show AllOk Tryd.prog TB strconv_bool2_int_C from trivial) Tryd.func146 (by kernel_rfl) (by kernel_rfl) strconv_bool2_int_H (by kernel_rfl)

/-! ### strconv.isPowerOfTwo -/
noncomputable def strconv_isPowerOfTwo_C : List (Nat × Any) := []
noncomputable def strconv_isPowerOfTwo_H : Nat → Option Hint := look []
noncomputable def strconv_isPowerOfTwo (x : Int) : Option (Args [(.bool, false)]) := runF Tryd.prog (look strconv_isPowerOfTwo_C) F strconv_isPowerOfTwo_H Tryd.f147 [(.int .i64, false)] [(.bool, false)] 1 (x, ())
theorem strconv_isPowerOfTwo_eq (x : Int) : strconv_isPowerOfTwo F x = some (((w64 (((BitVec.ofInt 64 x &&& BitVec.ofInt 64 (w64 (x - 1))).toNat : Int))) == 0), ()) := by kernel_rfl
noncomputable def strconv_isPowerOfTwo_con : Any := .one ⟨[(.int .i64, false)], [(.bool, false)], 1, fun x => strconv_isPowerOfTwo F0 x.1⟩
theorem strconv_isPowerOfTwo_ok : AnyOk Tryd.prog TB 147 strconv_isPowerOfTwo_con := ok1 (show AllOk Tryd.prog TB strconv_isPowerOfTwo_C from trivial) Tryd.func147 (by kernel_rfl) (by kernel_rfl) strconv_isPowerOfTwo_H (by kernel_rfl)

/-! ### impl.Digits -/
noncomputable def impl_Digits_C : List (Nat × Any) := [(69, strconv_Itoa_con)]
noncomputable def impl_Digits_H : Nat → Option Hint := look []
noncomputable def impl_Digits (n1 : Int) : Option (Args [(.str, false)]) := runF Tryd.prog (look impl_Digits_C) F impl_Digits_H Tryd.f50 [(.int .i64, false)] [(.str, false)] 1 (n1, ())
theorem impl_Digits_eq (n1 : Int) : impl_Digits F n1 = (strconv_Itoa F0 n1).bind fun r4 => some (r4.1, ()) := by kernel_rfl
noncomputable def impl_Digits_con : Any := .one ⟨[(.int .i64, false)], [(.str, false)], 1, fun x => impl_Digits F0 x.1⟩
theorem impl_Digits_ok : AnyOk Tryd.prog TB 50 impl_Digits_con := ok1 (show AllOk Tryd.prog TB impl_Digits_C from ⟨strconv_Itoa_ok, trivial⟩) Tryd.func50 (by kernel_rfl) (by kernel_rfl) impl_Digits_H (by kernel_rfl)

/-! ### impl.joined -/
noncomputable def impl_joined_C : List (Nat × Any) := [(50, impl_Digits_con), (51, strings_Join_con)]
noncomputable def impl_joined_H : Nat → Option Hint := look [(3, { live := [1, 5, 8, 9, 10], mat := [(5, 9, .str)], xl := [1, 5], rl := [4] })]
noncomputable def impl_joined_1_s (between : ByteArray) (t8 : List Int) (t9 : Int) (t10 : Int) (xs : List ByteArray) : St := { nt := 23, tm := [(1, .v (.c (.str between))), (5, .v (.c (.own 1000000 none))), (8, .v (.c (.ro false 3 (.int .i64) t8))), (9, .v (.c (.int .i64 t9))), (10, .v (.c (.int .i64 t10)))], bx := [], bl := [(1000000, some ⟨9, .str, xs, true, true⟩)] }
noncomputable def impl_joined_1_e0 (between : ByteArray) (xs : List ByteArray) : St := { nt := 23, tm := [(1, .v (.c (.str between))), (5, .v (.c (.own 1000000 none)))], bx := [], bl := [(1000000, some ⟨9, .str, xs, true, true⟩)] }
noncomputable def impl_joined_1 (st : St) : Option α := lp Tryd.prog (look impl_joined_C) F impl_joined_H (sub [.r, .r, .l, .r, .b, .i] (codeOf Tryd.f48)) κ n st
noncomputable def impl_joined_1_k : Ex → St → Option (Args [(.str, false)]) := cont Tryd.prog (look impl_joined_C) F impl_joined_H [.r, .r, .l, .r, .b] (codeOf Tryd.f48) (fin Tryd.prog Tryd.f48 [(.str, false)] 1)
theorem impl_joined_1_step (between : ByteArray) (t8 : List Int) (t9 : Int) (t10 : Int) (xs : List ByteArray) : impl_joined_1 F κ (n + 1) (impl_joined_1_s between t8 t9 t10 xs) = br (decide (t10 < t9)) (ck (okI t10 (t8.length : Int)) ((impl_Digits F0 (at_ t8 t10 0)).bind fun r16 => ck (okA F xs.length [r16.1].length 16) (impl_joined_1 F κ n (impl_joined_1_s between t8 t9 (w64 (t10 + 1)) (xs ++ [r16.1]))))) (κ (.exit 0) (impl_joined_1_e0 between xs)) := by kernel_rfl
theorem impl_joined_1_ce0 (between : ByteArray) (xs : List ByteArray) : impl_joined_1_k F (.exit 0) (impl_joined_1_e0 between xs) = (strings_Join F0 xs between).bind fun r22 => some (r22.1, ()) := by kernel_rfl
noncomputable def impl_joined (list : List Int) (between : ByteArray) : Option (Args [(.str, false)]) := runF Tryd.prog (look impl_joined_C) F impl_joined_H Tryd.f48 [(.sl 3 (.int .i64), false), (.str, false)] [(.str, false)] 1 (list, between, ())
theorem impl_joined_eq (list : List Int) (between : ByteArray) : impl_joined F list between = impl_joined_1 F (impl_joined_1_k F) F.n (impl_joined_1_s between list (list.length : Int) 0 []) := by kernel_rfl
noncomputable def impl_joined_con : Any := .one ⟨[(.sl 3 (.int .i64), false), (.str, false)], [(.str, false)], 1, fun x => impl_joined F0 x.1 x.2.1⟩
theorem impl_joined_ok : AnyOk Tryd.prog TB 48 impl_joined_con := ok1 (show AllOk Tryd.prog TB impl_joined_C from ⟨impl_Digits_ok, strings_Join_ok, trivial⟩) Tryd.func48 (by kernel_rfl) (by kernel_rfl) impl_joined_H (by kernel_rfl)

/-! ### impl.WhoText -/
noncomputable def impl_WhoText_C : List (Nat × Any) := [(48, impl_joined_con)]
noncomputable def impl_WhoText_H : Nat → Option Hint := look []
noncomputable def impl_WhoText (s : List Int) : Option (Args [(.str, false)]) := runF Tryd.prog (look impl_WhoText_C) F impl_WhoText_H Tryd.f12 [(.sl 3 (.int .i64), false)] [(.str, false)] 1 (s, ())
theorem impl_WhoText_eq (s : List Int) : impl_WhoText F s = (impl_joined F0 s (ByteArray.mk #[44])).bind fun r4 => ck (okC F (ByteArray.mk #[123]).size r4.1.size) (ck (okC F ((ByteArray.mk #[123]) ++ r4.1).size (ByteArray.mk #[125]).size) (some (((ByteArray.mk #[123]) ++ r4.1) ++ (ByteArray.mk #[125]), ()))) := by kernel_rfl
noncomputable def impl_WhoText_con : Any := .one ⟨[(.sl 3 (.int .i64), false)], [(.str, false)], 1, fun x => impl_WhoText F0 x.1⟩
theorem impl_WhoText_ok : AnyOk Tryd.prog TB 12 impl_WhoText_con := ok1 (show AllOk Tryd.prog TB impl_WhoText_C from ⟨impl_joined_ok, trivial⟩) Tryd.func12 (by kernel_rfl) (by kernel_rfl) impl_WhoText_H (by kernel_rfl)

/-! ### laws.eqIntS -/
noncomputable def laws_eqIntS_C : List (Nat × Any) := []
noncomputable def laws_eqIntS_H : Nat → Option Hint := look [(4, { live := [0, 1, 5], rl := [4] })]
noncomputable def laws_eqIntS_1_s (a : List Int) (b : List Int) (i : Int) : St := { nt := 26, tm := [(0, .v (.c (.ro false 3 (.int .i64) a))), (1, .v (.c (.ro false 3 (.int .i64) b))), (5, .v (.c (.int .i64 i)))], bx := [], bl := [] }
noncomputable def laws_eqIntS_1_r (t4 : Bool) : St := { nt := 26, tm := [(4, .v (.c (.bool t4)))], bx := [], bl := [] }
noncomputable def laws_eqIntS_1_e0  : St := { nt := 26, tm := [], bx := [], bl := [] }
noncomputable def laws_eqIntS_1 (st : St) : Option α := lp Tryd.prog (look laws_eqIntS_C) F laws_eqIntS_H (sub [.r, .r, .l, .r, .b, .i] (codeOf Tryd.f13)) κ n st
noncomputable def laws_eqIntS_1_k : Ex → St → Option (Args [(.bool, false)]) := cont Tryd.prog (look laws_eqIntS_C) F laws_eqIntS_H [.r, .r, .l, .r, .b] (codeOf Tryd.f13) (fin Tryd.prog Tryd.f13 [(.bool, false)] 1)
theorem laws_eqIntS_1_step (a : List Int) (b : List Int) (i : Int) : laws_eqIntS_1 F κ (n + 1) (laws_eqIntS_1_s a b i) = br (decide (i < (a.length : Int))) (ck (okI i (a.length : Int)) (ck (okI i (b.length : Int)) (br ((at_ a i 0) != (at_ b i 0)) (κ .ret (laws_eqIntS_1_r false)) (laws_eqIntS_1 F κ n (laws_eqIntS_1_s a b (w64 (i + 1))))))) (κ (.exit 0) (laws_eqIntS_1_e0 )) := by kernel_rfl
theorem laws_eqIntS_1_cr (t4 : Bool) : laws_eqIntS_1_k F .ret (laws_eqIntS_1_r t4) = some (t4, ()) := by kernel_rfl
theorem laws_eqIntS_1_ce0  : laws_eqIntS_1_k F (.exit 0) (laws_eqIntS_1_e0 ) = some (true, ()) := by kernel_rfl
noncomputable def laws_eqIntS (a : List Int) (b : List Int) : Option (Args [(.bool, false)]) := runF Tryd.prog (look laws_eqIntS_C) F laws_eqIntS_H Tryd.f13 [(.sl 3 (.int .i64), false), (.sl 3 (.int .i64), false)] [(.bool, false)] 1 (a, b, ())
theorem laws_eqIntS_eq (a : List Int) (b : List Int) : laws_eqIntS F a b = br ((a.length : Int) != (b.length : Int)) (some (false, ())) (laws_eqIntS_1 F (laws_eqIntS_1_k F) F.n (laws_eqIntS_1_s a b 0)) := by kernel_rfl
noncomputable def laws_eqIntS_con : Any := .one ⟨[(.sl 3 (.int .i64), false), (.sl 3 (.int .i64), false)], [(.bool, false)], 1, fun x => laws_eqIntS F0 x.1 x.2.1⟩
theorem laws_eqIntS_ok : AnyOk Tryd.prog TB 13 laws_eqIntS_con := ok1 (show AllOk Tryd.prog TB laws_eqIntS_C from trivial) Tryd.func13 (by kernel_rfl) (by kernel_rfl) laws_eqIntS_H (by kernel_rfl)

/-! ### laws.FnExactWhoText -/
noncomputable def laws_FnExactWhoText_C : List (Nat × Any) := [(10, spec_WhoText_con), (11, laws_toIntS_con), (12, impl_WhoText_con), (13, laws_eqIntS_con)]
noncomputable def laws_FnExactWhoText_H : Nat → Option Hint := look []
noncomputable def laws_FnExactWhoText (aS : List Int) : Option (Args [(.bool, false)]) := runF Tryd.prog (look laws_FnExactWhoText_C) F laws_FnExactWhoText_H Tryd.f3 [(.sl 3 (.int .i64), false)] [(.bool, false)] 1 (aS, ())
theorem laws_FnExactWhoText_eq (aS : List Int) : laws_FnExactWhoText F aS = br (decide ((aS.length : Int) > 1048576)) (some (true, ())) ((laws_toIntS F0 aS).bind fun r10 => (spec_WhoText F0 r10.1).bind fun r11 => (laws_toIntS F0 aS).bind fun r13 => (impl_WhoText F0 r13.1).bind fun r15 => br (!(r15.1.toList == r11.1.toList)) (some (false, ())) ((laws_toIntS F0 aS).bind fun r21 => (laws_eqIntS F0 r13.1 r21.1).bind fun r22 => br (!r22.1) (some (false, ())) (some (true, ())))) := by kernel_rfl
noncomputable def laws_FnExactWhoText_con : Any := .one ⟨[(.sl 3 (.int .i64), false)], [(.bool, false)], 1, fun x => laws_FnExactWhoText F0 x.1⟩
theorem laws_FnExactWhoText_ok : AnyOk Tryd.prog TB 3 laws_FnExactWhoText_con := ok1 (show AllOk Tryd.prog TB laws_FnExactWhoText_C from ⟨spec_WhoText_ok, laws_toIntS_ok, impl_WhoText_ok, laws_eqIntS_ok, trivial⟩) Tryd.func3 (by kernel_rfl) (by kernel_rfl) laws_FnExactWhoText_H (by kernel_rfl)

/-! ### laws.szIntS -/
noncomputable def laws_szIntS_C : List (Nat × Any) := []
noncomputable def laws_szIntS_H : Nat → Option Hint := look []
noncomputable def laws_szIntS (a : List Int) (left : Int) : Option (Args [(.int .i64, false)]) := runF Tryd.prog (look laws_szIntS_C) F laws_szIntS_H Tryd.f49 [(.sl 3 (.int .i64), false), (.int .i64, false)] [(.int .i64, false)] 1 (a, left, ())
theorem laws_szIntS_eq (a : List Int) (left : Int) : laws_szIntS F a left = br (decide ((w64 (left - (a.length : Int))) < 0)) (some ((-1), ())) (some (w64 (left - (a.length : Int)), ())) := by kernel_rfl
noncomputable def laws_szIntS_con : Any := .one ⟨[(.sl 3 (.int .i64), false), (.int .i64, false)], [(.int .i64, false)], 1, fun x => laws_szIntS F0 x.1 x.2.1⟩
theorem laws_szIntS_ok : AnyOk Tryd.prog TB 49 laws_szIntS_con := ok1 (show AllOk Tryd.prog TB laws_szIntS_C from trivial) Tryd.func49 (by kernel_rfl) (by kernel_rfl) laws_szIntS_H (by kernel_rfl)

/-! ### laws.szLedger -/
noncomputable def laws_szLedger_C : List (Nat × Any) := [(49, laws_szIntS_con)]
noncomputable def laws_szLedger_H : Nat → Option Hint := look []
noncomputable def laws_szLedger (a : D1) (left : Int) : Option (Args [(.int .i64, false)]) := runF Tryd.prog (look laws_szLedger_C) F laws_szLedger_H Tryd.f14 [(K1, true), (.int .i64, false)] [(.int .i64, false)] 1 (a, left, ())
theorem laws_szLedger_eq (a : D1) (left : Int) : laws_szLedger F a left = (laws_szIntS F0 a.1 left).bind fun r8 => br (decide (r8.1 < 0)) (some ((-1), ())) ((laws_szIntS F0 a.2 r8.1).bind fun r14 => br (decide (r14.1 < 0)) (some ((-1), ())) (some (r14.1, ()))) := by kernel_rfl
noncomputable def laws_szLedger_con : Any := .one ⟨[(K1, true), (.int .i64, false)], [(.int .i64, false)], 1, fun x => laws_szLedger F0 x.1 x.2.1⟩
theorem laws_szLedger_ok : AnyOk Tryd.prog TB 14 laws_szLedger_con := ok1 (show AllOk Tryd.prog TB laws_szLedger_C from ⟨laws_szIntS_ok, trivial⟩) Tryd.func14 (by kernel_rfl) (by kernel_rfl) laws_szLedger_H (by kernel_rfl)

/-! ### laws.toLedger -/
noncomputable def laws_toLedger_C : List (Nat × Any) := [(11, laws_toIntS_con)]
noncomputable def laws_toLedger_H : Nat → Option Hint := look []
noncomputable def laws_toLedger (a : D1) : Option (Args [(K1, true)]) := runF Tryd.prog (look laws_toLedger_C) F laws_toLedger_H Tryd.f16 [(K1, true)] [(K1, true)] 2 (a, ())
theorem laws_toLedger_eq (a : D1) : laws_toLedger F a = (laws_toIntS F0 a.1).bind fun r6 => (laws_toIntS F0 a.2).bind fun r10 => some ((r6.1, r10.1), ()) := by kernel_rfl
noncomputable def laws_toLedger_con : Any := .one ⟨[(K1, true)], [(K1, true)], 2, fun x => laws_toLedger F0 x.1⟩
theorem laws_toLedger_ok : AnyOk Tryd.prog TB 16 laws_toLedger_con := ok1 (show AllOk Tryd.prog TB laws_toLedger_C from ⟨laws_toIntS_ok, trivial⟩) Tryd.func16 (by kernel_rfl) (by kernel_rfl) laws_toLedger_H (by kernel_rfl)

/-! ### spec.LedgerText -/
noncomputable def spec_LedgerText_C : List (Nat × Any) := [(47, spec_Digits_con)]
noncomputable def spec_LedgerText_H : Nat → Option Hint := look [(3, { live := [1, 3, 4], xl := [1, 3], rl := [2] }), (8, { live := [1, 3, 5], xl := [3], rl := [2] })]
noncomputable def spec_LedgerText_2_s (out : ByteArray) (i : Int) (l : List Int) (l1 : List Int) : St := { nt := 41, tm := [(1, .v (.c (.ptr 1 0))), (3, .v (.c (.str out))), (5, .v (.c (.int .i64 i)))], bx := [(1, [.ro false 3 (.int .i64) l, .ro false 3 (.int .i64) l1])], bl := [] }
noncomputable def spec_LedgerText_2_e2 (out : ByteArray) : St := { nt := 41, tm := [(3, .v (.c (.str out)))], bx := [], bl := [] }
noncomputable def spec_LedgerText_2 (st : St) : Option α := lp Tryd.prog (look spec_LedgerText_C) F spec_LedgerText_H (sub [.r, .r, .r, .r, .l, .r, .b, .i] (codeOf Tryd.f15)) κ n st
noncomputable def spec_LedgerText_2_k : Ex → St → Option (Args [(.str, false)]) := cont Tryd.prog (look spec_LedgerText_C) F spec_LedgerText_H [.r, .r, .r, .r, .l, .r, .b] (codeOf Tryd.f15) (fin Tryd.prog Tryd.f15 [(.str, false)] 1)
noncomputable def spec_LedgerText_1_s (out : ByteArray) (i : Int) (l : List Int) (l1 : List Int) : St := { nt := 41, tm := [(1, .v (.c (.ptr 1 0))), (3, .v (.c (.str out))), (4, .v (.c (.int .i64 i)))], bx := [(1, [.ro false 3 (.int .i64) l, .ro false 3 (.int .i64) l1])], bl := [] }
noncomputable def spec_LedgerText_1_e0 (out : ByteArray) (l : List Int) (l1 : List Int) : St := { nt := 41, tm := [(1, .v (.c (.ptr 1 0))), (3, .v (.c (.str out)))], bx := [(1, [.ro false 3 (.int .i64) l, .ro false 3 (.int .i64) l1])], bl := [] }
noncomputable def spec_LedgerText_1 (st : St) : Option α := lp Tryd.prog (look spec_LedgerText_C) F spec_LedgerText_H (sub [.r, .r, .l, .r, .b, .i] (codeOf Tryd.f15)) κ n st
noncomputable def spec_LedgerText_1_k : Ex → St → Option (Args [(.str, false)]) := cont Tryd.prog (look spec_LedgerText_C) F spec_LedgerText_H [.r, .r, .l, .r, .b] (codeOf Tryd.f15) (fin Tryd.prog Tryd.f15 [(.str, false)] 1)
theorem spec_LedgerText_2_step (out : ByteArray) (i : Int) (l : List Int) (l1 : List Int) : spec_LedgerText_2 F κ (n + 1) (spec_LedgerText_2_s out i l l1) = br (decide (i < (l1.length : Int))) (ck (okC F out.size (ByteArray.mk #[32]).size) (ck (okI i (l1.length : Int)) ((spec_Digits F0 (at_ l1 i 0)).bind fun r38 => ck (okC F (out ++ (ByteArray.mk #[32])).size r38.1.size) (spec_LedgerText_2 F κ n (spec_LedgerText_2_s ((out ++ (ByteArray.mk #[32])) ++ r38.1) (w64 (i + 1)) l l1))))) (κ (.exit 2) (spec_LedgerText_2_e2 out)) := by kernel_rfl
theorem spec_LedgerText_1_step (out : ByteArray) (i : Int) (l : List Int) (l1 : List Int) : spec_LedgerText_1 F κ (n + 1) (spec_LedgerText_1_s out i l l1) = br (decide (i < (l.length : Int))) (ck (okI i (l.length : Int)) ((spec_Digits F0 (at_ l i 0)).bind fun r19 => ck (okC F out.size r19.1.size) (ck (okC F (out ++ r19.1).size (ByteArray.mk #[32]).size) (spec_LedgerText_1 F κ n (spec_LedgerText_1_s ((out ++ r19.1) ++ (ByteArray.mk #[32])) (w64 (i + 1)) l l1))))) (κ (.exit 0) (spec_LedgerText_1_e0 out l l1)) := by kernel_rfl
theorem spec_LedgerText_2_ce2 (out : ByteArray) : spec_LedgerText_2_k F (.exit 2) (spec_LedgerText_2_e2 out) = some (out, ()) := by kernel_rfl
theorem spec_LedgerText_1_ce0 (out : ByteArray) (l : List Int) (l1 : List Int) : spec_LedgerText_1_k F (.exit 0) (spec_LedgerText_1_e0 out l l1) = ck (okC F out.size (ByteArray.mk #[47]).size) (spec_LedgerText_2 F (spec_LedgerText_2_k F) F.n (spec_LedgerText_2_s (out ++ (ByteArray.mk #[47])) 0 l l1)) := by kernel_rfl
noncomputable def spec_LedgerText (l : D1) : Option (Args [(.str, false)]) := runF Tryd.prog (look spec_LedgerText_C) F spec_LedgerText_H Tryd.f15 [(K1, true)] [(.str, false)] 1 (l, ())
theorem spec_LedgerText_eq (l : D1) : spec_LedgerText F l = spec_LedgerText_1 F (spec_LedgerText_1_k F) F.n (spec_LedgerText_1_s (ByteArray.mk #[]) 0 l.1 l.2) := by kernel_rfl
noncomputable def spec_LedgerText_con : Any := .one ⟨[(K1, true)], [(.str, false)], 1, fun x => spec_LedgerText F0 x.1⟩
theorem spec_LedgerText_ok : AnyOk Tryd.prog TB 15 spec_LedgerText_con := ok1 (show AllOk Tryd.prog TB spec_LedgerText_C from ⟨spec_Digits_ok, trivial⟩) Tryd.func15 (by kernel_rfl) (by kernel_rfl) spec_LedgerText_H (by kernel_rfl)

/-! ### impl.LedgerText -/
noncomputable def impl_LedgerText_C : List (Nat × Any) := [(50, impl_Digits_con), (51, strings_Join_con)]
noncomputable def impl_LedgerText_H : Nat → Option Hint := look [(3, { live := [1, 3, 9, 10, 11], mat := [(3, 9, .str)], xl := [1, 3], rl := [2] }), (9, { live := [3, 25, 26, 27], xl := [3], rl := [2] })]
noncomputable def impl_LedgerText_2_s (t25 : List Int) (t26 : Int) (t27 : Int) (xs : List ByteArray) : St := { nt := 39, tm := [(3, .v (.c (.own 1000000 none))), (25, .v (.c (.ro false 3 (.int .i64) t25))), (26, .v (.c (.int .i64 t26))), (27, .v (.c (.int .i64 t27)))], bx := [], bl := [(1000000, some ⟨9, .str, xs, true, true⟩)] }
noncomputable def impl_LedgerText_2_e2 (xs : List ByteArray) : St := { nt := 39, tm := [(3, .v (.c (.own 1000000 none)))], bx := [], bl := [(1000000, some ⟨9, .str, xs, true, true⟩)] }
noncomputable def impl_LedgerText_2 (st : St) : Option α := lp Tryd.prog (look impl_LedgerText_C) F impl_LedgerText_H (sub [.r, .r, .r, .r, .l, .r, .b, .i] (codeOf Tryd.f17)) κ n st
noncomputable def impl_LedgerText_2_k : Ex → St → Option (Args [(.str, false)]) := cont Tryd.prog (look impl_LedgerText_C) F impl_LedgerText_H [.r, .r, .r, .r, .l, .r, .b] (codeOf Tryd.f17) (fin Tryd.prog Tryd.f17 [(.str, false)] 1)
noncomputable def impl_LedgerText_1_s (t9 : List Int) (t10 : Int) (t11 : Int) (l : List Int) (l1 : List Int) (xs : List ByteArray) : St := { nt := 39, tm := [(1, .v (.c (.ptr 1 0))), (3, .v (.c (.own 1000000 none))), (9, .v (.c (.ro false 3 (.int .i64) t9))), (10, .v (.c (.int .i64 t10))), (11, .v (.c (.int .i64 t11)))], bx := [(1, [.ro false 3 (.int .i64) l, .ro false 3 (.int .i64) l1])], bl := [(1000000, some ⟨9, .str, xs, true, true⟩)] }
noncomputable def impl_LedgerText_1_e0 (l : List Int) (l1 : List Int) (xs : List ByteArray) : St := { nt := 39, tm := [(1, .v (.c (.ptr 1 0))), (3, .v (.c (.own 1000000 none)))], bx := [(1, [.ro false 3 (.int .i64) l, .ro false 3 (.int .i64) l1])], bl := [(1000000, some ⟨9, .str, xs, true, true⟩)] }
noncomputable def impl_LedgerText_1 (st : St) : Option α := lp Tryd.prog (look impl_LedgerText_C) F impl_LedgerText_H (sub [.r, .r, .l, .r, .b, .i] (codeOf Tryd.f17)) κ n st
noncomputable def impl_LedgerText_1_k : Ex → St → Option (Args [(.str, false)]) := cont Tryd.prog (look impl_LedgerText_C) F impl_LedgerText_H [.r, .r, .l, .r, .b] (codeOf Tryd.f17) (fin Tryd.prog Tryd.f17 [(.str, false)] 1)
theorem impl_LedgerText_2_step (t25 : List Int) (t26 : Int) (t27 : Int) (xs : List ByteArray) : impl_LedgerText_2 F κ (n + 1) (impl_LedgerText_2_s t25 t26 t27 xs) = br (decide (t27 < t26)) (ck (okI t27 (t25.length : Int)) ((impl_Digits F0 (at_ t25 t27 0)).bind fun r33 => ck (okA F xs.length [r33.1].length 16) (impl_LedgerText_2 F κ n (impl_LedgerText_2_s t25 t26 (w64 (t27 + 1)) (xs ++ [r33.1]))))) (κ (.exit 2) (impl_LedgerText_2_e2 xs)) := by kernel_rfl
theorem impl_LedgerText_1_step (t9 : List Int) (t10 : Int) (t11 : Int) (l : List Int) (l1 : List Int) (xs : List ByteArray) : impl_LedgerText_1 F κ (n + 1) (impl_LedgerText_1_s t9 t10 t11 l l1 xs) = br (decide (t11 < t10)) (ck (okI t11 (t9.length : Int)) ((impl_Digits F0 (at_ t9 t11 0)).bind fun r17 => ck (okA F xs.length [r17.1].length 16) (impl_LedgerText_1 F κ n (impl_LedgerText_1_s t9 t10 (w64 (t11 + 1)) l l1 (xs ++ [r17.1]))))) (κ (.exit 0) (impl_LedgerText_1_e0 l l1 xs)) := by kernel_rfl
theorem impl_LedgerText_2_ce2 (xs : List ByteArray) : impl_LedgerText_2_k F (.exit 2) (impl_LedgerText_2_e2 xs) = (strings_Join F0 xs (ByteArray.mk #[32])).bind fun r38 => some (r38.1, ()) := by kernel_rfl
theorem impl_LedgerText_1_ce0 (l : List Int) (l1 : List Int) (xs : List ByteArray) : impl_LedgerText_1_k F (.exit 0) (impl_LedgerText_1_e0 l l1 xs) = ck (okA F xs.length [(ByteArray.mk #[47])].length 16) (impl_LedgerText_2 F (impl_LedgerText_2_k F) F.n (impl_LedgerText_2_s l1 (l1.length : Int) 0 (xs ++ [(ByteArray.mk #[47])]))) := by kernel_rfl
noncomputable def impl_LedgerText (l : D1) : Option (Args [(.str, false)]) := runF Tryd.prog (look impl_LedgerText_C) F impl_LedgerText_H Tryd.f17 [(K1, true)] [(.str, false)] 1 (l, ())
theorem impl_LedgerText_eq (l : D1) : impl_LedgerText F l = impl_LedgerText_1 F (impl_LedgerText_1_k F) F.n (impl_LedgerText_1_s l.1 (l.1.length : Int) 0 l.1 l.2 []) := by kernel_rfl
noncomputable def impl_LedgerText_con : Any := .one ⟨[(K1, true)], [(.str, false)], 1, fun x => impl_LedgerText F0 x.1⟩
theorem impl_LedgerText_ok : AnyOk Tryd.prog TB 17 impl_LedgerText_con := ok1 (show AllOk Tryd.prog TB impl_LedgerText_C from ⟨impl_Digits_ok, strings_Join_ok, trivial⟩) Tryd.func17 (by kernel_rfl) (by kernel_rfl) impl_LedgerText_H (by kernel_rfl)

/-! ### laws.eqLedger -/
noncomputable def laws_eqLedger_C : List (Nat × Any) := [(13, laws_eqIntS_con)]
noncomputable def laws_eqLedger_H : Nat → Option Hint := look []
noncomputable def laws_eqLedger (a : D1) (b : D1) : Option (Args [(.bool, false)]) := runF Tryd.prog (look laws_eqLedger_C) F laws_eqLedger_H Tryd.f18 [(K1, true), (K1, true)] [(.bool, false)] 1 (a, b, ())
theorem laws_eqLedger_eq (a : D1) (b : D1) : laws_eqLedger F a b = (laws_eqIntS F0 a.1 b.1).bind fun r9 => br (!r9.1) (some (false, ())) ((laws_eqIntS F0 a.2 b.2).bind fun r15 => br (!r15.1) (some (false, ())) (some (true, ()))) := by kernel_rfl
noncomputable def laws_eqLedger_con : Any := .one ⟨[(K1, true), (K1, true)], [(.bool, false)], 1, fun x => laws_eqLedger F0 x.1 x.2.1⟩
theorem laws_eqLedger_ok : AnyOk Tryd.prog TB 18 laws_eqLedger_con := ok1 (show AllOk Tryd.prog TB laws_eqLedger_C from ⟨laws_eqIntS_ok, trivial⟩) Tryd.func18 (by kernel_rfl) (by kernel_rfl) laws_eqLedger_H (by kernel_rfl)

/-! ### laws.FnExactLedgerText -/
noncomputable def laws_FnExactLedgerText_C : List (Nat × Any) := [(14, laws_szLedger_con), (15, spec_LedgerText_con), (16, laws_toLedger_con), (17, impl_LedgerText_con), (18, laws_eqLedger_con)]
noncomputable def laws_FnExactLedgerText_H : Nat → Option Hint := look []
noncomputable def laws_FnExactLedgerText (aL : D1) : Option (Args [(.bool, false)]) := runF Tryd.prog (look laws_FnExactLedgerText_C) F laws_FnExactLedgerText_H Tryd.f4 [(K1, true)] [(.bool, false)] 1 (aL, ())
theorem laws_FnExactLedgerText_eq (aL : D1) : laws_FnExactLedgerText F aL = (laws_szLedger F0 aL 1048576).bind fun r9 => br (decide (r9.1 < 0)) (some (true, ())) ((laws_toLedger F0 aL).bind fun r13 => (spec_LedgerText F0 r13.1).bind fun r14 => (laws_toLedger F0 aL).bind fun r16 => (impl_LedgerText F0 r16.1).bind fun r18 => br (!(r18.1.toList == r14.1.toList)) (some (false, ())) ((laws_toLedger F0 aL).bind fun r24 => (laws_eqLedger F0 r16.1 r24.1).bind fun r25 => br (!r25.1) (some (false, ())) (some (true, ())))) := by kernel_rfl
noncomputable def laws_FnExactLedgerText_con : Any := .one ⟨[(K1, true)], [(.bool, false)], 1, fun x => laws_FnExactLedgerText F0 x.1⟩
theorem laws_FnExactLedgerText_ok : AnyOk Tryd.prog TB 4 laws_FnExactLedgerText_con := ok1 (show AllOk Tryd.prog TB laws_FnExactLedgerText_C from ⟨laws_szLedger_ok, spec_LedgerText_ok, laws_toLedger_ok, impl_LedgerText_ok, laws_eqLedger_ok, trivial⟩) Tryd.func4 (by kernel_rfl) (by kernel_rfl) laws_FnExactLedgerText_H (by kernel_rfl)

/-! ### laws.szPart -/
noncomputable def laws_szPart_C : List (Nat × Any) := [(49, laws_szIntS_con)]
noncomputable def laws_szPart_H : Nat → Option Hint := look []
noncomputable def laws_szPart (a : D3) (left : Int) : Option (Args [(.int .i64, false)]) := runF Tryd.prog (look laws_szPart_C) F laws_szPart_H Tryd.f19 [(K3, true), (.int .i64, false)] [(.int .i64, false)] 1 (a, left, ())
theorem laws_szPart_eq (a : D3) (left : Int) : laws_szPart F a left = br (decide ((w64 (left - (a.2.1.size : Int))) < 0)) (some ((-1), ())) ((laws_szIntS F0 a.2.2 (w64 (left - (a.2.1.size : Int)))).bind fun r15 => br (decide (r15.1 < 0)) (some ((-1), ())) (some (r15.1, ()))) := by kernel_rfl
noncomputable def laws_szPart_con : Any := .one ⟨[(K3, true), (.int .i64, false)], [(.int .i64, false)], 1, fun x => laws_szPart F0 x.1 x.2.1⟩
theorem laws_szPart_ok : AnyOk Tryd.prog TB 19 laws_szPart_con := ok1 (show AllOk Tryd.prog TB laws_szPart_C from ⟨laws_szIntS_ok, trivial⟩) Tryd.func19 (by kernel_rfl) (by kernel_rfl) laws_szPart_H (by kernel_rfl)

/-! ### laws.toPart -/
noncomputable def laws_toPart_C : List (Nat × Any) := [(11, laws_toIntS_con)]
noncomputable def laws_toPart_H : Nat → Option Hint := look []
noncomputable def laws_toPart (a : D3) : Option (Args [(K3, true)]) := runF Tryd.prog (look laws_toPart_C) F laws_toPart_H Tryd.f21 [(K3, true)] [(K3, true)] 2 (a, ())
theorem laws_toPart_eq (a : D3) : laws_toPart F a = (laws_toIntS F0 a.2.2).bind fun r12 => some ((a.1, (a.2.1, r12.1)), ()) := by kernel_rfl
noncomputable def laws_toPart_con : Any := .one ⟨[(K3, true)], [(K3, true)], 2, fun x => laws_toPart F0 x.1⟩
theorem laws_toPart_ok : AnyOk Tryd.prog TB 21 laws_toPart_con := ok1 (show AllOk Tryd.prog TB laws_toPart_C from ⟨laws_toIntS_ok, trivial⟩) Tryd.func21 (by kernel_rfl) (by kernel_rfl) laws_toPart_H (by kernel_rfl)

/-! ### spec.PartText -/
noncomputable def spec_PartText_C : List (Nat × Any) := [(10, spec_WhoText_con), (47, spec_Digits_con)]
noncomputable def spec_PartText_H : Nat → Option Hint := look []
noncomputable def spec_PartText (p : D3) : Option (Args [(.str, false)]) := runF Tryd.prog (look spec_PartText_C) F spec_PartText_H Tryd.f20 [(K3, true)] [(.str, false)] 1 (p, ())
theorem spec_PartText_eq (p : D3) : spec_PartText F p = br (p.2.1.toList == (ByteArray.mk #[]).toList) (ck (okC F (ByteArray.mk #[108, 97, 116, 101]).size (ByteArray.mk #[32]).size) ((spec_Digits F0 p.1).bind fun r11 => ck (okC F ((ByteArray.mk #[108, 97, 116, 101]) ++ (ByteArray.mk #[32])).size r11.1.size) (ck (okC F (((ByteArray.mk #[108, 97, 116, 101]) ++ (ByteArray.mk #[32])) ++ r11.1).size (ByteArray.mk #[32]).size) ((spec_WhoText F0 p.2.2).bind fun r16 => ck (okC F ((((ByteArray.mk #[108, 97, 116, 101]) ++ (ByteArray.mk #[32])) ++ r11.1) ++ (ByteArray.mk #[32])).size r16.1.size) (some (((((ByteArray.mk #[108, 97, 116, 101]) ++ (ByteArray.mk #[32])) ++ r11.1) ++ (ByteArray.mk #[32])) ++ r16.1, ())))))) (ck (okC F (ByteArray.mk #[118, 111, 116, 101]).size (ByteArray.mk #[32]).size) ((spec_Digits F0 p.1).bind fun r11 => ck (okC F ((ByteArray.mk #[118, 111, 116, 101]) ++ (ByteArray.mk #[32])).size r11.1.size) (ck (okC F (((ByteArray.mk #[118, 111, 116, 101]) ++ (ByteArray.mk #[32])) ++ r11.1).size (ByteArray.mk #[32]).size) ((spec_WhoText F0 p.2.2).bind fun r16 => ck (okC F ((((ByteArray.mk #[118, 111, 116, 101]) ++ (ByteArray.mk #[32])) ++ r11.1) ++ (ByteArray.mk #[32])).size r16.1.size) (some (((((ByteArray.mk #[118, 111, 116, 101]) ++ (ByteArray.mk #[32])) ++ r11.1) ++ (ByteArray.mk #[32])) ++ r16.1, ())))))) := by kernel_rfl
noncomputable def spec_PartText_con : Any := .one ⟨[(K3, true)], [(.str, false)], 1, fun x => spec_PartText F0 x.1⟩
theorem spec_PartText_ok : AnyOk Tryd.prog TB 20 spec_PartText_con := ok1 (show AllOk Tryd.prog TB spec_PartText_C from ⟨spec_WhoText_ok, spec_Digits_ok, trivial⟩) Tryd.func20 (by kernel_rfl) (by kernel_rfl) spec_PartText_H (by kernel_rfl)

/-! ### impl.PartText -/
noncomputable def impl_PartText_C : List (Nat × Any) := [(12, impl_WhoText_con), (50, impl_Digits_con)]
noncomputable def impl_PartText_H : Nat → Option Hint := look []
noncomputable def impl_PartText (p : D3) : Option (Args [(.str, false)]) := runF Tryd.prog (look impl_PartText_C) F impl_PartText_H Tryd.f22 [(K3, true)] [(.str, false)] 1 (p, ())
theorem impl_PartText_eq (p : D3) : impl_PartText F p = br (p.2.1.toList == (ByteArray.mk #[]).toList) (ck (okC F (ByteArray.mk #[108, 97, 116, 101]).size (ByteArray.mk #[32]).size) ((impl_Digits F0 p.1).bind fun r11 => ck (okC F ((ByteArray.mk #[108, 97, 116, 101]) ++ (ByteArray.mk #[32])).size r11.1.size) (ck (okC F (((ByteArray.mk #[108, 97, 116, 101]) ++ (ByteArray.mk #[32])) ++ r11.1).size (ByteArray.mk #[32]).size) ((impl_WhoText F0 p.2.2).bind fun r16 => ck (okC F ((((ByteArray.mk #[108, 97, 116, 101]) ++ (ByteArray.mk #[32])) ++ r11.1) ++ (ByteArray.mk #[32])).size r16.1.size) (some (((((ByteArray.mk #[108, 97, 116, 101]) ++ (ByteArray.mk #[32])) ++ r11.1) ++ (ByteArray.mk #[32])) ++ r16.1, ())))))) (ck (okC F (ByteArray.mk #[118, 111, 116, 101]).size (ByteArray.mk #[32]).size) ((impl_Digits F0 p.1).bind fun r11 => ck (okC F ((ByteArray.mk #[118, 111, 116, 101]) ++ (ByteArray.mk #[32])).size r11.1.size) (ck (okC F (((ByteArray.mk #[118, 111, 116, 101]) ++ (ByteArray.mk #[32])) ++ r11.1).size (ByteArray.mk #[32]).size) ((impl_WhoText F0 p.2.2).bind fun r16 => ck (okC F ((((ByteArray.mk #[118, 111, 116, 101]) ++ (ByteArray.mk #[32])) ++ r11.1) ++ (ByteArray.mk #[32])).size r16.1.size) (some (((((ByteArray.mk #[118, 111, 116, 101]) ++ (ByteArray.mk #[32])) ++ r11.1) ++ (ByteArray.mk #[32])) ++ r16.1, ())))))) := by kernel_rfl
noncomputable def impl_PartText_con : Any := .one ⟨[(K3, true)], [(.str, false)], 1, fun x => impl_PartText F0 x.1⟩
theorem impl_PartText_ok : AnyOk Tryd.prog TB 22 impl_PartText_con := ok1 (show AllOk Tryd.prog TB impl_PartText_C from ⟨impl_WhoText_ok, impl_Digits_ok, trivial⟩) Tryd.func22 (by kernel_rfl) (by kernel_rfl) impl_PartText_H (by kernel_rfl)

/-! ### laws.eqPart -/
noncomputable def laws_eqPart_C : List (Nat × Any) := [(13, laws_eqIntS_con)]
noncomputable def laws_eqPart_H : Nat → Option Hint := look []
noncomputable def laws_eqPart (a : D3) (b : D3) : Option (Args [(.bool, false)]) := runF Tryd.prog (look laws_eqPart_C) F laws_eqPart_H Tryd.f23 [(K3, true), (K3, true)] [(.bool, false)] 1 (a, b, ())
theorem laws_eqPart_eq (a : D3) (b : D3) : laws_eqPart F a b = br (a.1 != b.1) (some (false, ())) (br (!(a.2.1.toList == b.2.1.toList)) (some (false, ())) ((laws_eqIntS F0 a.2.2 b.2.2).bind fun r19 => br (!r19.1) (some (false, ())) (some (true, ())))) := by kernel_rfl
noncomputable def laws_eqPart_con : Any := .one ⟨[(K3, true), (K3, true)], [(.bool, false)], 1, fun x => laws_eqPart F0 x.1 x.2.1⟩
theorem laws_eqPart_ok : AnyOk Tryd.prog TB 23 laws_eqPart_con := ok1 (show AllOk Tryd.prog TB laws_eqPart_C from ⟨laws_eqIntS_ok, trivial⟩) Tryd.func23 (by kernel_rfl) (by kernel_rfl) laws_eqPart_H (by kernel_rfl)

/-! ### laws.FnExactPartText -/
noncomputable def laws_FnExactPartText_C : List (Nat × Any) := [(19, laws_szPart_con), (20, spec_PartText_con), (21, laws_toPart_con), (22, impl_PartText_con), (23, laws_eqPart_con)]
noncomputable def laws_FnExactPartText_H : Nat → Option Hint := look []
noncomputable def laws_FnExactPartText (aP : D3) : Option (Args [(.bool, false)]) := runF Tryd.prog (look laws_FnExactPartText_C) F laws_FnExactPartText_H Tryd.f5 [(K3, true)] [(.bool, false)] 1 (aP, ())
theorem laws_FnExactPartText_eq (aP : D3) : laws_FnExactPartText F aP = (laws_szPart F0 aP 1048576).bind fun r9 => br (decide (r9.1 < 0)) (some (true, ())) ((laws_toPart F0 aP).bind fun r13 => (spec_PartText F0 r13.1).bind fun r14 => (laws_toPart F0 aP).bind fun r16 => (impl_PartText F0 r16.1).bind fun r18 => br (!(r18.1.toList == r14.1.toList)) (some (false, ())) ((laws_toPart F0 aP).bind fun r24 => (laws_eqPart F0 r16.1 r24.1).bind fun r25 => br (!r25.1) (some (false, ())) (some (true, ())))) := by kernel_rfl
noncomputable def laws_FnExactPartText_con : Any := .one ⟨[(K3, true)], [(.bool, false)], 1, fun x => laws_FnExactPartText F0 x.1⟩
theorem laws_FnExactPartText_ok : AnyOk Tryd.prog TB 5 laws_FnExactPartText_con := ok1 (show AllOk Tryd.prog TB laws_FnExactPartText_C from ⟨laws_szPart_ok, spec_PartText_ok, laws_toPart_ok, impl_PartText_ok, laws_eqPart_ok, trivial⟩) Tryd.func5 (by kernel_rfl) (by kernel_rfl) laws_FnExactPartText_H (by kernel_rfl)

/-! ### laws.szQc -/
noncomputable def laws_szQc_C : List (Nat × Any) := [(49, laws_szIntS_con)]
noncomputable def laws_szQc_H : Nat → Option Hint := look []
noncomputable def laws_szQc (a : D3) (left : Int) : Option (Args [(.int .i64, false)]) := runF Tryd.prog (look laws_szQc_C) F laws_szQc_H Tryd.f24 [(K3, true), (.int .i64, false)] [(.int .i64, false)] 1 (a, left, ())
theorem laws_szQc_eq (a : D3) (left : Int) : laws_szQc F a left = br (decide ((w64 (left - (a.2.1.size : Int))) < 0)) (some ((-1), ())) ((laws_szIntS F0 a.2.2 (w64 (left - (a.2.1.size : Int)))).bind fun r15 => br (decide (r15.1 < 0)) (some ((-1), ())) (some (r15.1, ()))) := by kernel_rfl
noncomputable def laws_szQc_con : Any := .one ⟨[(K3, true), (.int .i64, false)], [(.int .i64, false)], 1, fun x => laws_szQc F0 x.1 x.2.1⟩
theorem laws_szQc_ok : AnyOk Tryd.prog TB 24 laws_szQc_con := ok1 (show AllOk Tryd.prog TB laws_szQc_C from ⟨laws_szIntS_ok, trivial⟩) Tryd.func24 (by kernel_rfl) (by kernel_rfl) laws_szQc_H (by kernel_rfl)

/-! ### laws.toQc -/
noncomputable def laws_toQc_C : List (Nat × Any) := [(11, laws_toIntS_con)]
noncomputable def laws_toQc_H : Nat → Option Hint := look []
noncomputable def laws_toQc (a : D3) : Option (Args [(K3, true)]) := runF Tryd.prog (look laws_toQc_C) F laws_toQc_H Tryd.f26 [(K3, true)] [(K3, true)] 2 (a, ())
theorem laws_toQc_eq (a : D3) : laws_toQc F a = (laws_toIntS F0 a.2.2).bind fun r12 => some ((a.1, (a.2.1, r12.1)), ()) := by kernel_rfl
noncomputable def laws_toQc_con : Any := .one ⟨[(K3, true)], [(K3, true)], 2, fun x => laws_toQc F0 x.1⟩
theorem laws_toQc_ok : AnyOk Tryd.prog TB 26 laws_toQc_con := ok1 (show AllOk Tryd.prog TB laws_toQc_C from ⟨laws_toIntS_ok, trivial⟩) Tryd.func26 (by kernel_rfl) (by kernel_rfl) laws_toQc_H (by kernel_rfl)

/-! ### spec.QcText -/
noncomputable def spec_QcText_C : List (Nat × Any) := [(10, spec_WhoText_con), (47, spec_Digits_con)]
noncomputable def spec_QcText_H : Nat → Option Hint := look []
noncomputable def spec_QcText (q : D3) : Option (Args [(.str, false)]) := runF Tryd.prog (look spec_QcText_C) F spec_QcText_H Tryd.f25 [(K3, true)] [(.str, false)] 1 (q, ())
theorem spec_QcText_eq (q : D3) : spec_QcText F q = br (q.2.1.toList == (ByteArray.mk #[]).toList) ((spec_Digits F0 q.1).bind fun r10 => ck (okC F r10.1.size (ByteArray.mk #[32]).size) (ck (okC F (r10.1 ++ (ByteArray.mk #[32])).size (ByteArray.mk #[115, 116, 97, 114, 116]).size) (ck (okC F ((r10.1 ++ (ByteArray.mk #[32])) ++ (ByteArray.mk #[115, 116, 97, 114, 116])).size (ByteArray.mk #[32]).size) ((spec_WhoText F0 q.2.2).bind fun r17 => ck (okC F (((r10.1 ++ (ByteArray.mk #[32])) ++ (ByteArray.mk #[115, 116, 97, 114, 116])) ++ (ByteArray.mk #[32])).size r17.1.size) (some ((((r10.1 ++ (ByteArray.mk #[32])) ++ (ByteArray.mk #[115, 116, 97, 114, 116])) ++ (ByteArray.mk #[32])) ++ r17.1, ())))))) ((spec_Digits F0 q.1).bind fun r10 => ck (okC F r10.1.size (ByteArray.mk #[32]).size) (ck (okC F (r10.1 ++ (ByteArray.mk #[32])).size q.2.1.size) (ck (okC F ((r10.1 ++ (ByteArray.mk #[32])) ++ q.2.1).size (ByteArray.mk #[32]).size) ((spec_WhoText F0 q.2.2).bind fun r17 => ck (okC F (((r10.1 ++ (ByteArray.mk #[32])) ++ q.2.1) ++ (ByteArray.mk #[32])).size r17.1.size) (some ((((r10.1 ++ (ByteArray.mk #[32])) ++ q.2.1) ++ (ByteArray.mk #[32])) ++ r17.1, ())))))) := by kernel_rfl
noncomputable def spec_QcText_con : Any := .one ⟨[(K3, true)], [(.str, false)], 1, fun x => spec_QcText F0 x.1⟩
theorem spec_QcText_ok : AnyOk Tryd.prog TB 25 spec_QcText_con := ok1 (show AllOk Tryd.prog TB spec_QcText_C from ⟨spec_WhoText_ok, spec_Digits_ok, trivial⟩) Tryd.func25 (by kernel_rfl) (by kernel_rfl) spec_QcText_H (by kernel_rfl)

/-! ### impl.QcText -/
noncomputable def impl_QcText_C : List (Nat × Any) := [(12, impl_WhoText_con), (50, impl_Digits_con)]
noncomputable def impl_QcText_H : Nat → Option Hint := look []
noncomputable def impl_QcText (q : D3) : Option (Args [(.str, false)]) := runF Tryd.prog (look impl_QcText_C) F impl_QcText_H Tryd.f27 [(K3, true)] [(.str, false)] 1 (q, ())
theorem impl_QcText_eq (q : D3) : impl_QcText F q = br (q.2.1.toList == (ByteArray.mk #[]).toList) ((impl_Digits F0 q.1).bind fun r10 => ck (okC F r10.1.size (ByteArray.mk #[32]).size) (ck (okC F (r10.1 ++ (ByteArray.mk #[32])).size (ByteArray.mk #[115, 116, 97, 114, 116]).size) (ck (okC F ((r10.1 ++ (ByteArray.mk #[32])) ++ (ByteArray.mk #[115, 116, 97, 114, 116])).size (ByteArray.mk #[32]).size) ((impl_WhoText F0 q.2.2).bind fun r17 => ck (okC F (((r10.1 ++ (ByteArray.mk #[32])) ++ (ByteArray.mk #[115, 116, 97, 114, 116])) ++ (ByteArray.mk #[32])).size r17.1.size) (some ((((r10.1 ++ (ByteArray.mk #[32])) ++ (ByteArray.mk #[115, 116, 97, 114, 116])) ++ (ByteArray.mk #[32])) ++ r17.1, ())))))) ((impl_Digits F0 q.1).bind fun r10 => ck (okC F r10.1.size (ByteArray.mk #[32]).size) (ck (okC F (r10.1 ++ (ByteArray.mk #[32])).size q.2.1.size) (ck (okC F ((r10.1 ++ (ByteArray.mk #[32])) ++ q.2.1).size (ByteArray.mk #[32]).size) ((impl_WhoText F0 q.2.2).bind fun r17 => ck (okC F (((r10.1 ++ (ByteArray.mk #[32])) ++ q.2.1) ++ (ByteArray.mk #[32])).size r17.1.size) (some ((((r10.1 ++ (ByteArray.mk #[32])) ++ q.2.1) ++ (ByteArray.mk #[32])) ++ r17.1, ())))))) := by kernel_rfl
noncomputable def impl_QcText_con : Any := .one ⟨[(K3, true)], [(.str, false)], 1, fun x => impl_QcText F0 x.1⟩
theorem impl_QcText_ok : AnyOk Tryd.prog TB 27 impl_QcText_con := ok1 (show AllOk Tryd.prog TB impl_QcText_C from ⟨impl_WhoText_ok, impl_Digits_ok, trivial⟩) Tryd.func27 (by kernel_rfl) (by kernel_rfl) impl_QcText_H (by kernel_rfl)

/-! ### laws.eqQc -/
noncomputable def laws_eqQc_C : List (Nat × Any) := [(13, laws_eqIntS_con)]
noncomputable def laws_eqQc_H : Nat → Option Hint := look []
noncomputable def laws_eqQc (a : D3) (b : D3) : Option (Args [(.bool, false)]) := runF Tryd.prog (look laws_eqQc_C) F laws_eqQc_H Tryd.f28 [(K3, true), (K3, true)] [(.bool, false)] 1 (a, b, ())
theorem laws_eqQc_eq (a : D3) (b : D3) : laws_eqQc F a b = br (a.1 != b.1) (some (false, ())) (br (!(a.2.1.toList == b.2.1.toList)) (some (false, ())) ((laws_eqIntS F0 a.2.2 b.2.2).bind fun r19 => br (!r19.1) (some (false, ())) (some (true, ())))) := by kernel_rfl
noncomputable def laws_eqQc_con : Any := .one ⟨[(K3, true), (K3, true)], [(.bool, false)], 1, fun x => laws_eqQc F0 x.1 x.2.1⟩
theorem laws_eqQc_ok : AnyOk Tryd.prog TB 28 laws_eqQc_con := ok1 (show AllOk Tryd.prog TB laws_eqQc_C from ⟨laws_eqIntS_ok, trivial⟩) Tryd.func28 (by kernel_rfl) (by kernel_rfl) laws_eqQc_H (by kernel_rfl)

/-! ### laws.FnExactQcText -/
noncomputable def laws_FnExactQcText_C : List (Nat × Any) := [(24, laws_szQc_con), (25, spec_QcText_con), (26, laws_toQc_con), (27, impl_QcText_con), (28, laws_eqQc_con)]
noncomputable def laws_FnExactQcText_H : Nat → Option Hint := look []
noncomputable def laws_FnExactQcText (aQ : D3) : Option (Args [(.bool, false)]) := runF Tryd.prog (look laws_FnExactQcText_C) F laws_FnExactQcText_H Tryd.f6 [(K3, true)] [(.bool, false)] 1 (aQ, ())
theorem laws_FnExactQcText_eq (aQ : D3) : laws_FnExactQcText F aQ = (laws_szQc F0 aQ 1048576).bind fun r9 => br (decide (r9.1 < 0)) (some (true, ())) ((laws_toQc F0 aQ).bind fun r13 => (spec_QcText F0 r13.1).bind fun r14 => (laws_toQc F0 aQ).bind fun r16 => (impl_QcText F0 r16.1).bind fun r18 => br (!(r18.1.toList == r14.1.toList)) (some (false, ())) ((laws_toQc F0 aQ).bind fun r24 => (laws_eqQc F0 r16.1 r24.1).bind fun r25 => br (!r25.1) (some (false, ())) (some (true, ())))) := by kernel_rfl
noncomputable def laws_FnExactQcText_con : Any := .one ⟨[(K3, true)], [(.bool, false)], 1, fun x => laws_FnExactQcText F0 x.1⟩
theorem laws_FnExactQcText_ok : AnyOk Tryd.prog TB 6 laws_FnExactQcText_con := ok1 (show AllOk Tryd.prog TB laws_FnExactQcText_C from ⟨laws_szQc_ok, spec_QcText_ok, laws_toQc_ok, impl_QcText_ok, laws_eqQc_ok, trivial⟩) Tryd.func6 (by kernel_rfl) (by kernel_rfl) laws_FnExactQcText_H (by kernel_rfl)

/-! ### spec.Split -/
noncomputable def spec_Split_C : List (Nat × Any) := []
noncomputable def spec_Split_H : Nat → Option Hint := look [(4, { live := [0, 1, 5, 6, 7], xl := [5], rl := [4] })]
noncomputable def spec_Split_1_s (s : ByteArray) (by1 : Int) (from1 : Int) (i : Int) (xs : List ByteArray) : St := { nt := 36, tm := [(0, .v (.c (.str s))), (1, .v (.c (.int .u8 by1))), (5, .v (.c (.own 1000000 none))), (6, .v (.c (.int .i64 from1))), (7, .v (.c (.int .i64 i)))], bx := [], bl := [(1000000, some ⟨9, .str, xs, true, true⟩)] }
noncomputable def spec_Split_1_e0 (xs : List ByteArray) : St := { nt := 36, tm := [(5, .v (.c (.own 1000000 none)))], bx := [], bl := [(1000000, some ⟨9, .str, xs, true, true⟩)] }
noncomputable def spec_Split_1 (st : St) : Option α := lp Tryd.prog (look spec_Split_C) F spec_Split_H (sub [.r, .r, .r, .l, .r, .b, .i] (codeOf Tryd.f73)) κ n st
noncomputable def spec_Split_1_k : Ex → St → Option (Args [(.sl 9 (.str), false)]) := cont Tryd.prog (look spec_Split_C) F spec_Split_H [.r, .r, .r, .l, .r, .b] (codeOf Tryd.f73) (fin Tryd.prog Tryd.f73 [(.sl 9 (.str), false)] 2)
theorem spec_Split_1_step (s : ByteArray) (by1 : Int) (from1 : Int) (i : Int) (xs : List ByteArray) : spec_Split_1 F κ (n + 1) (spec_Split_1_s s by1 from1 i xs) = br (decide (i ≤ (s.size : Int))) (br (i == (s.size : Int)) (ck (okS from1 i (s.size : Int)) (ck (okA F xs.length [s.extract from1.toNat i.toNat].length 16) (spec_Split_1 F κ n (spec_Split_1_s s by1 (w64 (i + 1)) (w64 (i + 1)) (xs ++ [s.extract from1.toNat i.toNat]))))) (ck (okI i (s.size : Int)) (br ((byteAt s i) == by1) (ck (okS from1 i (s.size : Int)) (ck (okA F xs.length [s.extract from1.toNat i.toNat].length 16) (spec_Split_1 F κ n (spec_Split_1_s s by1 (w64 (i + 1)) (w64 (i + 1)) (xs ++ [s.extract from1.toNat i.toNat]))))) (spec_Split_1 F κ n (spec_Split_1_s s by1 from1 (w64 (i + 1)) xs))))) (κ (.exit 0) (spec_Split_1_e0 xs)) := by kernel_rfl
theorem spec_Split_1_ce0 (xs : List ByteArray) : spec_Split_1_k F (.exit 0) (spec_Split_1_e0 xs) = some (xs, ()) := by kernel_rfl
noncomputable def spec_Split (s : ByteArray) (by1 : Int) : Option (Args [(.sl 9 (.str), false)]) := runF Tryd.prog (look spec_Split_C) F spec_Split_H Tryd.f73 [(.str, false), (.int .u8, false)] [(.sl 9 (.str), false)] 2 (s, by1, ())
theorem spec_Split_eq (s : ByteArray) (by1 : Int) : spec_Split F s by1 = spec_Split_1 F (spec_Split_1_k F) F.n (spec_Split_1_s s by1 0 0 []) := by kernel_rfl
noncomputable def spec_Split_con : Any := .one ⟨[(.str, false), (.int .u8, false)], [(.sl 9 (.str), false)], 2, fun x => spec_Split F0 x.1 x.2.1⟩
theorem spec_Split_ok : AnyOk Tryd.prog TB 73 spec_Split_con := ok1 (show AllOk Tryd.prog TB spec_Split_C from trivial) Tryd.func73 (by kernel_rfl) (by kernel_rfl) spec_Split_H (by kernel_rfl)

/-! ### spec.l2Cut -/
noncomputable def spec_l2Cut_C : List (Nat × Any) := []
noncomputable def spec_l2Cut_H : Nat → Option Hint := look [(2, { live := [0, 1, 7], rl := [4, 5, 6] })]
noncomputable def spec_l2Cut_1_s (s : ByteArray) (by1 : Int) (i : Int) : St := { nt := 26, tm := [(0, .v (.c (.str s))), (1, .v (.c (.int .u8 by1))), (7, .v (.c (.int .i64 i)))], bx := [], bl := [] }
noncomputable def spec_l2Cut_1_r (t4 : ByteArray) (t5 : ByteArray) (t6 : Bool) : St := { nt := 26, tm := [(4, .v (.c (.str t4))), (5, .v (.c (.str t5))), (6, .v (.c (.bool t6)))], bx := [], bl := [] }
noncomputable def spec_l2Cut_1_e0  : St := { nt := 26, tm := [], bx := [], bl := [] }
noncomputable def spec_l2Cut_1 (st : St) : Option α := lp Tryd.prog (look spec_l2Cut_C) F spec_l2Cut_H (sub [.r, .l, .r, .b, .i] (codeOf Tryd.f74)) κ n st
noncomputable def spec_l2Cut_1_k : Ex → St → Option (Args [(.str, false), (.str, false), (.bool, false)]) := cont Tryd.prog (look spec_l2Cut_C) F spec_l2Cut_H [.r, .l, .r, .b] (codeOf Tryd.f74) (fin Tryd.prog Tryd.f74 [(.str, false), (.str, false), (.bool, false)] 1)
theorem spec_l2Cut_1_step (s : ByteArray) (by1 : Int) (i : Int) : spec_l2Cut_1 F κ (n + 1) (spec_l2Cut_1_s s by1 i) = br (decide (i < (s.size : Int))) (ck (okI i (s.size : Int)) (br ((byteAt s i) == by1) (ck (okS 0 i (s.size : Int)) (ck (okS (w64 (i + 1)) (s.size : Int) (s.size : Int)) (κ .ret (spec_l2Cut_1_r (s.extract (0 : Int).toNat i.toNat) (s.extract (w64 (i + 1)).toNat (s.size : Int).toNat) true)))) (spec_l2Cut_1 F κ n (spec_l2Cut_1_s s by1 (w64 (i + 1)))))) (κ (.exit 0) (spec_l2Cut_1_e0 )) := by kernel_rfl
theorem spec_l2Cut_1_cr (t4 : ByteArray) (t5 : ByteArray) (t6 : Bool) : spec_l2Cut_1_k F .ret (spec_l2Cut_1_r t4 t5 t6) = some (t4, t5, t6, ()) := by kernel_rfl
theorem spec_l2Cut_1_ce0  : spec_l2Cut_1_k F (.exit 0) (spec_l2Cut_1_e0 ) = some ((ByteArray.mk #[]), (ByteArray.mk #[]), false, ()) := by kernel_rfl
noncomputable def spec_l2Cut (s : ByteArray) (by1 : Int) : Option (Args [(.str, false), (.str, false), (.bool, false)]) := runF Tryd.prog (look spec_l2Cut_C) F spec_l2Cut_H Tryd.f74 [(.str, false), (.int .u8, false)] [(.str, false), (.str, false), (.bool, false)] 1 (s, by1, ())
theorem spec_l2Cut_eq (s : ByteArray) (by1 : Int) : spec_l2Cut F s by1 = spec_l2Cut_1 F (spec_l2Cut_1_k F) F.n (spec_l2Cut_1_s s by1 0) := by kernel_rfl
noncomputable def spec_l2Cut_con : Any := .one ⟨[(.str, false), (.int .u8, false)], [(.str, false), (.str, false), (.bool, false)], 1, fun x => spec_l2Cut F0 x.1 x.2.1⟩
theorem spec_l2Cut_ok : AnyOk Tryd.prog TB 74 spec_l2Cut_con := ok1 (show AllOk Tryd.prog TB spec_l2Cut_C from trivial) Tryd.func74 (by kernel_rfl) (by kernel_rfl) spec_l2Cut_H (by kernel_rfl)

/-! ### spec.Number -/
noncomputable def spec_Number_C : List (Nat × Any) := [(47, spec_Digits_con)]
noncomputable def spec_Number_H : Nat → Option Hint := look [(5, { live := [0, 4, 5], xl := [0, 4], rl := [2, 3] })]
noncomputable def spec_Number_1_s (s : ByteArray) (n1 : Int) (i : Int) : St := { nt := 43, tm := [(0, .v (.c (.str s))), (4, .v (.c (.int .i64 n1))), (5, .v (.c (.int .i64 i)))], bx := [], bl := [] }
noncomputable def spec_Number_1_r (t2 : Int) (t3 : Bool) : St := { nt := 43, tm := [(2, .v (.c (.int .i64 t2))), (3, .v (.c (.bool t3)))], bx := [], bl := [] }
noncomputable def spec_Number_1_e0 (s : ByteArray) (n1 : Int) : St := { nt := 43, tm := [(0, .v (.c (.str s))), (4, .v (.c (.int .i64 n1)))], bx := [], bl := [] }
noncomputable def spec_Number_1 (st : St) : Option α := lp Tryd.prog (look spec_Number_C) F spec_Number_H (sub [.r, .r, .r, .l, .r, .b, .i] (codeOf Tryd.f75)) κ n st
noncomputable def spec_Number_1_k : Ex → St → Option (Args [(.int .i64, false), (.bool, false)]) := cont Tryd.prog (look spec_Number_C) F spec_Number_H [.r, .r, .r, .l, .r, .b] (codeOf Tryd.f75) (fin Tryd.prog Tryd.f75 [(.int .i64, false), (.bool, false)] 1)
theorem spec_Number_1_step (s : ByteArray) (n1 : Int) (i : Int) : spec_Number_1 F κ (n + 1) (spec_Number_1_s s n1 i) = br (decide (i < (s.size : Int))) (ck (okI i (s.size : Int)) (br (decide ((byteAt s i) < 48)) (κ .ret (spec_Number_1_r 0 false)) (ck (okI i (s.size : Int)) (br (decide ((byteAt s i) > 57)) (κ .ret (spec_Number_1_r 0 false)) (ck (okI i (s.size : Int)) (spec_Number_1 F κ n (spec_Number_1_s s (w64 ((w64 ((w64 (10 * n1)) + (w64 (byteAt s i)))) - 48)) (w64 (i + 1))))))))) (κ (.exit 0) (spec_Number_1_e0 s n1)) := by kernel_rfl
theorem spec_Number_1_cr (t2 : Int) (t3 : Bool) : spec_Number_1_k F .ret (spec_Number_1_r t2 t3) = some (t2, t3, ()) := by kernel_rfl
theorem spec_Number_1_ce0 (s : ByteArray) (n1 : Int) : spec_Number_1_k F (.exit 0) (spec_Number_1_e0 s n1) = (spec_Digits F0 n1).bind fun r39 => br (!(r39.1.toList == s.toList)) (some (0, false, ())) (some (n1, true, ())) := by kernel_rfl
noncomputable def spec_Number (s : ByteArray) : Option (Args [(.int .i64, false), (.bool, false)]) := runF Tryd.prog (look spec_Number_C) F spec_Number_H Tryd.f75 [(.str, false)] [(.int .i64, false), (.bool, false)] 1 (s, ())
theorem spec_Number_eq (s : ByteArray) : spec_Number F s = br (decide ((s.size : Int) < 1)) (some (0, false, ())) (br (decide ((s.size : Int) > 6)) (some (0, false, ())) (spec_Number_1 F (spec_Number_1_k F) F.n (spec_Number_1_s s 0 0))) := by kernel_rfl
noncomputable def spec_Number_con : Any := .one ⟨[(.str, false)], [(.int .i64, false), (.bool, false)], 1, fun x => spec_Number F0 x.1⟩
theorem spec_Number_ok : AnyOk Tryd.prog TB 75 spec_Number_con := ok1 (show AllOk Tryd.prog TB spec_Number_C from ⟨spec_Digits_ok, trivial⟩) Tryd.func75 (by kernel_rfl) (by kernel_rfl) spec_Number_H (by kernel_rfl)

/-! ### spec.l1In -/
noncomputable def spec_l1In_C : List (Nat × Any) := []
noncomputable def spec_l1In_H : Nat → Option Hint := look []
noncomputable def spec_l1In (x : Int) (lo : Int) (hi : Int) : Option (Args [(.bool, false)]) := runF Tryd.prog (look spec_l1In_C) F spec_l1In_H Tryd.f87 [(.int .i64, false), (.int .i64, false), (.int .i64, false)] [(.bool, false)] 1 (x, lo, hi, ())
theorem spec_l1In_eq (x : Int) (lo : Int) (hi : Int) : spec_l1In F x lo hi = br (decide (x ≥ lo)) (some (decide (x ≤ hi), ())) (some (false, ())) := by kernel_rfl
noncomputable def spec_l1In_con : Any := .one ⟨[(.int .i64, false), (.int .i64, false), (.int .i64, false)], [(.bool, false)], 1, fun x => spec_l1In F0 x.1 x.2.1 x.2.2.1⟩
theorem spec_l1In_ok : AnyOk Tryd.prog TB 87 spec_l1In_con := ok1 (show AllOk Tryd.prog TB spec_l1In_C from trivial) Tryd.func87 (by kernel_rfl) (by kernel_rfl) spec_l1In_H (by kernel_rfl)

/-! ### spec.TxOk -/
noncomputable def spec_TxOk_C : List (Nat × Any) := [(87, spec_l1In_con)]
noncomputable def spec_TxOk_H : Nat → Option Hint := look []
noncomputable def spec_TxOk (x : D6) : Option (Args [(.bool, false)]) := runF Tryd.prog (look spec_TxOk_C) F spec_TxOk_H Tryd.f98 [(K6, true)] [(.bool, false)] 1 (x, ())
theorem spec_TxOk_eq (x : D6) : spec_TxOk F x = (spec_l1In F0 x.1 0 3).bind fun r5 => br r5.1 ((spec_l1In F0 x.2.1 0 3).bind fun r9 => br r9.1 ((spec_l1In F0 x.2.2.1 0 1000).bind fun r14 => br r14.1 ((spec_l1In F0 x.2.2.2 0 99).bind fun r19 => some (r19.1, ())) (some (false, ()))) (some (false, ()))) (some (false, ())) := by kernel_rfl
noncomputable def spec_TxOk_con : Any := .one ⟨[(K6, true)], [(.bool, false)], 1, fun x => spec_TxOk F0 x.1⟩
theorem spec_TxOk_ok : AnyOk Tryd.prog TB 98 spec_TxOk_con := ok1 (show AllOk Tryd.prog TB spec_TxOk_C from ⟨spec_l1In_ok, trivial⟩) Tryd.func98 (by kernel_rfl) (by kernel_rfl) spec_TxOk_H (by kernel_rfl)

/-! ### spec.TxText -/
noncomputable def spec_TxText_C : List (Nat × Any) := [(47, spec_Digits_con), (98, spec_TxOk_con)]
noncomputable def spec_TxText_H : Nat → Option Hint := look []
noncomputable def spec_TxText (x : D6) : Option (Args [(.str, false)]) := runF Tryd.prog (look spec_TxText_C) F spec_TxText_H Tryd.f122 [(K6, true)] [(.str, false)] 1 (x, ())
theorem spec_TxText_eq (x : D6) : spec_TxText F x = (spec_TxOk F0 x).bind fun r4 => br (!r4.1) (some ((ByteArray.mk #[]), ())) ((spec_Digits F0 x.1).bind fun r8 => ck (okC F r8.1.size (ByteArray.mk #[62]).size) ((spec_Digits F0 x.2.1).bind fun r12 => ck (okC F (r8.1 ++ (ByteArray.mk #[62])).size r12.1.size) (ck (okC F ((r8.1 ++ (ByteArray.mk #[62])) ++ r12.1).size (ByteArray.mk #[58]).size) ((spec_Digits F0 x.2.2.1).bind fun r17 => ck (okC F (((r8.1 ++ (ByteArray.mk #[62])) ++ r12.1) ++ (ByteArray.mk #[58])).size r17.1.size) (ck (okC F ((((r8.1 ++ (ByteArray.mk #[62])) ++ r12.1) ++ (ByteArray.mk #[58])) ++ r17.1).size (ByteArray.mk #[35]).size) ((spec_Digits F0 x.2.2.2).bind fun r22 => ck (okC F (((((r8.1 ++ (ByteArray.mk #[62])) ++ r12.1) ++ (ByteArray.mk #[58])) ++ r17.1) ++ (ByteArray.mk #[35])).size r22.1.size) (some ((((((r8.1 ++ (ByteArray.mk #[62])) ++ r12.1) ++ (ByteArray.mk #[58])) ++ r17.1) ++ (ByteArray.mk #[35])) ++ r22.1, ())))))))) := by kernel_rfl
noncomputable def spec_TxText_con : Any := .one ⟨[(K6, true)], [(.str, false)], 1, fun x => spec_TxText F0 x.1⟩
theorem spec_TxText_ok : AnyOk Tryd.prog TB 122 spec_TxText_con := ok1 (show AllOk Tryd.prog TB spec_TxText_C from ⟨spec_Digits_ok, spec_TxOk_ok, trivial⟩) Tryd.func122 (by kernel_rfl) (by kernel_rfl) spec_TxText_H (by kernel_rfl)

/-! ### spec.TxOf -/
noncomputable def spec_TxOf_C : List (Nat × Any) := [(74, spec_l2Cut_con), (75, spec_Number_con), (122, spec_TxText_con)]
noncomputable def spec_TxOf_H : Nat → Option Hint := look []
noncomputable def spec_TxOf (s : ByteArray) : Option (Args [(K6, true), (.bool, false)]) := runF Tryd.prog (look spec_TxOf_C) F spec_TxOf_H Tryd.f96 [(.str, false)] [(K6, true), (.bool, false)] 1 (s, ())
theorem spec_TxOf_eq (s : ByteArray) : spec_TxOf F s = (spec_l2Cut F0 s 62).bind fun r16 => (spec_l2Cut F0 r16.2.1 58).bind fun r22 => (spec_l2Cut F0 r22.2.1 35).bind fun r28 => (spec_Number F0 r16.1).bind fun r35 => (spec_Number F0 r22.1).bind fun r41 => (spec_Number F0 r28.1).bind fun r47 => (spec_Number F0 r28.2.1).bind fun r53 => br (s.toList == (ByteArray.mk #[]).toList) (some ((0, (0, (0, 0))), false, ())) ((spec_TxText F0 (r35.1, (r41.1, (r47.1, r53.1)))).bind fun r61 => br (!(r61.1.toList == s.toList)) (some ((0, (0, (0, 0))), false, ())) (some ((r35.1, (r41.1, (r47.1, r53.1))), true, ()))) := by kernel_rfl
noncomputable def spec_TxOf_con : Any := .one ⟨[(.str, false)], [(K6, true), (.bool, false)], 1, fun x => spec_TxOf F0 x.1⟩
theorem spec_TxOf_ok : AnyOk Tryd.prog TB 96 spec_TxOf_con := ok1 (show AllOk Tryd.prog TB spec_TxOf_C from ⟨spec_l2Cut_ok, spec_Number_ok, spec_TxText_ok, trivial⟩) Tryd.func96 (by kernel_rfl) (by kernel_rfl) spec_TxOf_H (by kernel_rfl)

/-! ### spec.TxsOf -/
noncomputable def spec_TxsOf_C : List (Nat × Any) := [(73, spec_Split_con), (96, spec_TxOf_con)]
noncomputable def spec_TxsOf_H : Nat → Option Hint := look [(6, { live := [4, 5, 6], xl := [4], rl := [2, 3] })]
noncomputable def spec_TxsOf_1_s (i : Int) (xs : List D6) (xs1 : List ByteArray) : St := { nt := 37, tm := [(4, .v (.c (.own 1000000 none))), (5, .v (.c (.own 1000001 none))), (6, .v (.c (.int .i64 i)))], bx := [], bl := [(1000000, some ⟨89, K6, xs, true, true⟩), (1000001, some ⟨9, .str, xs1, true, true⟩)] }
noncomputable def spec_TxsOf_1_r (t3 : Bool) (xs : List D6) : St := { nt := 37, tm := [(2, .v (.c (.own 1000000 none))), (3, .v (.c (.bool t3)))], bx := [], bl := [(1000000, some ⟨89, K6, xs, true, true⟩)] }
noncomputable def spec_TxsOf_1_e0 (xs : List D6) : St := { nt := 37, tm := [(4, .v (.c (.own 1000000 none)))], bx := [], bl := [(1000000, some ⟨89, K6, xs, true, true⟩)] }
noncomputable def spec_TxsOf_1 (st : St) : Option α := lp Tryd.prog (look spec_TxsOf_C) F spec_TxsOf_H (sub [.r, .r, .r, .r, .l, .r, .b, .i] (codeOf Tryd.f76)) κ n st
noncomputable def spec_TxsOf_1_k : Ex → St → Option (Args [(K7, false), (.bool, false)]) := cont Tryd.prog (look spec_TxsOf_C) F spec_TxsOf_H [.r, .r, .r, .r, .l, .r, .b] (codeOf Tryd.f76) (fin Tryd.prog Tryd.f76 [(K7, false), (.bool, false)] 2)
theorem spec_TxsOf_1_step (i : Int) (xs : List D6) (xs1 : List ByteArray) : spec_TxsOf_1 F κ (n + 1) (spec_TxsOf_1_s i xs xs1) = br (decide (i < (xs1.length : Int))) (ck (okI i (xs1.length : Int)) ((spec_TxOf F0 (at_ xs1 i ByteArray.empty)).bind fun r26 => br (!r26.2.1) (κ .ret (spec_TxsOf_1_r false [])) (ck (okA F xs.length [r26.1].length 32) (spec_TxsOf_1 F κ n (spec_TxsOf_1_s (w64 (i + 1)) (xs ++ [r26.1]) xs1))))) (κ (.exit 0) (spec_TxsOf_1_e0 xs)) := by kernel_rfl
theorem spec_TxsOf_1_cr (t3 : Bool) (xs : List D6) : spec_TxsOf_1_k F .ret (spec_TxsOf_1_r t3 xs) = some (xs, t3, ()) := by kernel_rfl
theorem spec_TxsOf_1_ce0 (xs : List D6) : spec_TxsOf_1_k F (.exit 0) (spec_TxsOf_1_e0 xs) = some (xs, true, ()) := by kernel_rfl
noncomputable def spec_TxsOf (s : ByteArray) : Option (Args [(K7, false), (.bool, false)]) := runF Tryd.prog (look spec_TxsOf_C) F spec_TxsOf_H Tryd.f76 [(.str, false)] [(K7, false), (.bool, false)] 2 (s, ())
theorem spec_TxsOf_eq (s : ByteArray) : spec_TxsOf F s = br (s.toList == (ByteArray.mk #[]).toList) (some ([], true, ())) ((spec_Split F0 s 44).bind fun r14 => spec_TxsOf_1 F (spec_TxsOf_1_k F) F.n (spec_TxsOf_1_s 0 [] r14.1)) := by kernel_rfl
noncomputable def spec_TxsOf_con : Any := .one ⟨[(.str, false)], [(K7, false), (.bool, false)], 2, fun x => spec_TxsOf F0 x.1⟩
theorem spec_TxsOf_ok : AnyOk Tryd.prog TB 76 spec_TxsOf_con := ok1 (show AllOk Tryd.prog TB spec_TxsOf_C from ⟨spec_Split_ok, spec_TxOf_ok, trivial⟩) Tryd.func76 (by kernel_rfl) (by kernel_rfl) spec_TxsOf_H (by kernel_rfl)

/-! ### spec.Steps -/
noncomputable def spec_Steps_C : List (Nat × Any) := [(73, spec_Split_con), (74, spec_l2Cut_con), (75, spec_Number_con), (76, spec_TxsOf_con)]
noncomputable def spec_Steps_H : Nat → Option Hint := look [(10, { live := [4, 5, 6, 7, 8], xl := [5], rl := [2, 3] })]
noncomputable def spec_Steps_1_s (last : Int) (i : Int) (xs : List D8) (xs1 : List D8) (xs2 : List ByteArray) : St := { nt := 91, tm := [(4, .v (.c (.own 1000000 none))), (5, .v (.c (.own 1000001 none))), (6, .v (.c (.own 1000002 none))), (7, .v (.c (.int .i64 last))), (8, .v (.c (.int .i64 i)))], bx := [], bl := [(1000000, some ⟨87, K8, xs, true, true⟩), (1000001, some ⟨87, K8, xs1, true, true⟩), (1000002, some ⟨9, .str, xs2, true, true⟩)] }
noncomputable def spec_Steps_1_r (t3 : Bool) (xs : List D8) : St := { nt := 91, tm := [(2, .v (.c (.own 1000000 none))), (3, .v (.c (.bool t3)))], bx := [], bl := [(1000000, some ⟨87, K8, xs, true, true⟩)] }
noncomputable def spec_Steps_1_e0 (xs : List D8) : St := { nt := 91, tm := [(5, .v (.c (.own 1000000 none)))], bx := [], bl := [(1000000, some ⟨87, K8, xs, true, true⟩)] }
noncomputable def spec_Steps_1 (st : St) : Option α := lp Tryd.prog (look spec_Steps_C) F spec_Steps_H (sub [.r, .r, .r, .r, .r, .r, .r, .l, .r, .b, .i] (codeOf Tryd.f52)) κ n st
noncomputable def spec_Steps_1_k : Ex → St → Option (Args [(K9, false), (.bool, false)]) := cont Tryd.prog (look spec_Steps_C) F spec_Steps_H [.r, .r, .r, .r, .r, .r, .r, .l, .r, .b] (codeOf Tryd.f52) (fin Tryd.prog Tryd.f52 [(K9, false), (.bool, false)] 2)
theorem spec_Steps_1_step (last : Int) (i : Int) (xs : List D8) (xs1 : List D8) (xs2 : List ByteArray) : spec_Steps_1 F κ (n + 1) (spec_Steps_1_s last i xs xs1 xs2) = br (decide (i < (xs2.length : Int))) (ck (okI i (xs2.length : Int)) ((spec_l2Cut F0 (at_ xs2 i ByteArray.empty) 124).bind fun r44 => (spec_Number F0 r44.1).bind fun r50 => (spec_TxsOf F0 r44.2.1).bind fun r55 => br (!r44.2.2.1) (κ .ret (spec_Steps_1_r false xs)) (br (!r50.2.1) (κ .ret (spec_Steps_1_r false xs)) (br (!r55.2.1) (κ .ret (spec_Steps_1_r false xs)) (br (decide (r50.1 ≤ last)) (κ .ret (spec_Steps_1_r false xs)) (br (decide (r50.1 > 60)) (κ .ret (spec_Steps_1_r false xs)) (br (decide ((r55.1.length : Int) > 2)) (κ .ret (spec_Steps_1_r false xs)) (ck (okA F xs1.length [(r50.1, r55.1)].length 32) (spec_Steps_1 F κ n (spec_Steps_1_s r50.1 (w64 (i + 1)) xs (xs1 ++ [(r50.1, r55.1)]) xs2)))))))))) (κ (.exit 0) (spec_Steps_1_e0 xs1)) := by kernel_rfl
theorem spec_Steps_1_cr (t3 : Bool) (xs : List D8) : spec_Steps_1_k F .ret (spec_Steps_1_r t3 xs) = some (xs, t3, ()) := by kernel_rfl
theorem spec_Steps_1_ce0 (xs : List D8) : spec_Steps_1_k F (.exit 0) (spec_Steps_1_e0 xs) = some (xs, true, ()) := by kernel_rfl
noncomputable def spec_Steps (s : ByteArray) : Option (Args [(K9, false), (.bool, false)]) := runF Tryd.prog (look spec_Steps_C) F spec_Steps_H Tryd.f52 [(.str, false)] [(K9, false), (.bool, false)] 2 (s, ())
theorem spec_Steps_eq (s : ByteArray) : spec_Steps F s = br (s.toList == (ByteArray.mk #[]).toList) (some ([], true, ())) ((spec_Split F0 s 47).bind fun r22 => ck (okI 0 (r22.1.length : Int)) (br (!((at_ r22.1 0 ByteArray.empty).toList == (ByteArray.mk #[]).toList)) (some ([], false, ())) (br (decide ((r22.1.length : Int) > 31)) (some ([], false, ())) (spec_Steps_1 F (spec_Steps_1_k F) F.n (spec_Steps_1_s 0 1 [] [] r22.1))))) := by kernel_rfl
noncomputable def spec_Steps_con : Any := .one ⟨[(.str, false)], [(K9, false), (.bool, false)], 2, fun x => spec_Steps F0 x.1⟩
theorem spec_Steps_ok : AnyOk Tryd.prog TB 52 spec_Steps_con := ok1 (show AllOk Tryd.prog TB spec_Steps_C from ⟨spec_Split_ok, spec_l2Cut_ok, spec_Number_ok, spec_TxsOf_ok, trivial⟩) Tryd.func52 (by kernel_rfl) (by kernel_rfl) spec_Steps_H (by kernel_rfl)

/-! ### spec.LedgerNew -/
noncomputable def spec_LedgerNew_C : List (Nat × Any) := []
noncomputable def spec_LedgerNew_H : Nat → Option Hint := look [(3, { live := [0, 1, 2], matB := [(0, 0, 3, .int .i64), (0, 1, 3, .int .i64), (1, 0, 3, .int .i64)], xl := [0, 1], rl := [0] })]
noncomputable def spec_LedgerNew_1_s (i : Int) (xs : List Int) (xs1 : List Int) (xs2 : List Int) (xs3 : List Int) : St := { nt := 15, tm := [(0, .v (.c (.ptr 0 0))), (1, .v (.c (.ptr 1 0))), (2, .v (.c (.int .i64 i)))], bx := [(0, [.own 1000000 none, .own 1000001 none]), (1, [.own 1000002 none, .own 1000003 none])], bl := [(1000000, some ⟨3, .int .i64, xs, true, true⟩), (1000001, some ⟨3, .int .i64, xs1, true, true⟩), (1000002, some ⟨3, .int .i64, xs2, true, true⟩), (1000003, some ⟨3, .int .i64, xs3, true, true⟩)] }
noncomputable def spec_LedgerNew_1_e0 (xs : List Int) (xs1 : List Int) (xs2 : List Int) (xs3 : List Int) : St := { nt := 15, tm := [(0, .v (.c (.ptr 0 0))), (1, .v (.c (.ptr 1 0)))], bx := [(0, [.own 1000000 none, .own 1000001 none]), (1, [.own 1000002 none, .own 1000003 none])], bl := [(1000000, some ⟨3, .int .i64, xs, true, true⟩), (1000001, some ⟨3, .int .i64, xs1, true, true⟩), (1000002, some ⟨3, .int .i64, xs2, true, true⟩), (1000003, some ⟨3, .int .i64, xs3, true, true⟩)] }
noncomputable def spec_LedgerNew_1 (st : St) : Option α := lp Tryd.prog (look spec_LedgerNew_C) F spec_LedgerNew_H (sub [.r, .r, .l, .r, .b, .i] (codeOf Tryd.f54)) κ n st
noncomputable def spec_LedgerNew_1_k : Ex → St → Option (Args [(K1, true)]) := cont Tryd.prog (look spec_LedgerNew_C) F spec_LedgerNew_H [.r, .r, .l, .r, .b] (codeOf Tryd.f54) (fin Tryd.prog Tryd.f54 [(K1, true)] 2)
theorem spec_LedgerNew_1_step (i : Int) (xs : List Int) (xs1 : List Int) (xs2 : List Int) (xs3 : List Int) : spec_LedgerNew_1 F κ (n + 1) (spec_LedgerNew_1_s i xs xs1 xs2 xs3) = br (decide (i < 4)) (ck (okA F xs2.length [100].length 8) (spec_LedgerNew_1 F κ n (spec_LedgerNew_1_s (w64 (i + 1)) xs xs1 (xs2 ++ [100]) xs3))) (κ (.exit 0) (spec_LedgerNew_1_e0 xs xs1 xs2 xs3)) := by kernel_rfl
theorem spec_LedgerNew_1_ce0 (xs : List Int) (xs1 : List Int) (xs2 : List Int) (xs3 : List Int) : spec_LedgerNew_1_k F (.exit 0) (spec_LedgerNew_1_e0 xs xs1 xs2 xs3) = some ((xs2, xs3), ()) := by kernel_rfl
noncomputable def spec_LedgerNew  : Option (Args [(K1, true)]) := runF Tryd.prog (look spec_LedgerNew_C) F spec_LedgerNew_H Tryd.f54 [] [(K1, true)] 2 (())
theorem spec_LedgerNew_eq  : spec_LedgerNew F  = ck (okM F 4 4 8) (spec_LedgerNew_1 F (spec_LedgerNew_1_k F) F.n (spec_LedgerNew_1_s 0 [] [] [] (List.replicate (4 : Int).toNat 0))) := by kernel_rfl
noncomputable def spec_LedgerNew_con : Any := .one ⟨[], [(K1, true)], 2, fun x => spec_LedgerNew F0 ⟩
theorem spec_LedgerNew_ok : AnyOk Tryd.prog TB 54 spec_LedgerNew_con := ok1 (show AllOk Tryd.prog TB spec_LedgerNew_C from trivial) Tryd.func54 (by kernel_rfl) (by kernel_rfl) spec_LedgerNew_H (by kernel_rfl)

/-! ### spec.TxsIn -/
noncomputable def spec_TxsIn_C : List (Nat × Any) := [(52, spec_Steps_con)]
noncomputable def spec_TxsIn_H : Nat → Option Hint := look [(4, { live := [3, 4, 6], xl := [3], rl := [2] })]
noncomputable def spec_TxsIn_1_s (i : Int) (xs : List D6) (xs1 : List D8) : St := { nt := 27, tm := [(3, .v (.c (.own 1000000 none))), (4, .v (.c (.own 1000001 none))), (6, .v (.c (.int .i64 i)))], bx := [], bl := [(1000000, some ⟨89, K6, xs, true, true⟩), (1000001, some ⟨87, K8, xs1, true, true⟩)] }
noncomputable def spec_TxsIn_1_e0 (xs : List D6) : St := { nt := 27, tm := [(3, .v (.c (.own 1000000 none)))], bx := [], bl := [(1000000, some ⟨89, K6, xs, true, true⟩)] }
noncomputable def spec_TxsIn_1 (st : St) : Option α := lp Tryd.prog (look spec_TxsIn_C) F spec_TxsIn_H (sub [.r, .r, .r, .l, .r, .b, .i] (codeOf Tryd.f55)) κ n st
noncomputable def spec_TxsIn_1_k : Ex → St → Option (Args [(K7, false)]) := cont Tryd.prog (look spec_TxsIn_C) F spec_TxsIn_H [.r, .r, .r, .l, .r, .b] (codeOf Tryd.f55) (fin Tryd.prog Tryd.f55 [(K7, false)] 2)
theorem spec_TxsIn_1_step (i : Int) (xs : List D6) (xs1 : List D8) : spec_TxsIn_1 F κ (n + 1) (spec_TxsIn_1_s i xs xs1) = br (decide (i < (xs1.length : Int))) (ck (okI i (xs1.length : Int)) (ck (okA F xs.length (at_ xs1 i (0, [])).2.length 32) (spec_TxsIn_1 F κ n (spec_TxsIn_1_s (w64 (i + 1)) (xs ++ (at_ xs1 i (0, [])).2) xs1)))) (κ (.exit 0) (spec_TxsIn_1_e0 xs)) := by kernel_rfl
theorem spec_TxsIn_1_ce0 (xs : List D6) : spec_TxsIn_1_k F (.exit 0) (spec_TxsIn_1_e0 xs) = some (xs, ()) := by kernel_rfl
noncomputable def spec_TxsIn (s : ByteArray) : Option (Args [(K7, false)]) := runF Tryd.prog (look spec_TxsIn_C) F spec_TxsIn_H Tryd.f55 [(.str, false)] [(K7, false)] 2 (s, ())
theorem spec_TxsIn_eq (s : ByteArray) : spec_TxsIn F s = (spec_Steps F0 s).bind fun r10 => spec_TxsIn_1 F (spec_TxsIn_1_k F) F.n (spec_TxsIn_1_s 0 [] r10.1) := by kernel_rfl
noncomputable def spec_TxsIn_con : Any := .one ⟨[(.str, false)], [(K7, false)], 2, fun x => spec_TxsIn F0 x.1⟩
theorem spec_TxsIn_ok : AnyOk Tryd.prog TB 55 spec_TxsIn_con := ok1 (show AllOk Tryd.prog TB spec_TxsIn_C from ⟨spec_Steps_ok, trivial⟩) Tryd.func55 (by kernel_rfl) (by kernel_rfl) spec_TxsIn_H (by kernel_rfl)

/-! ### spec.l3Copy -/
noncomputable def spec_l3Copy_C : List (Nat × Any) := []
noncomputable def spec_l3Copy_H : Nat → Option Hint := look [(999999, { live := [1] })]
noncomputable def spec_l3Copy (l : D1) : Option (Args [(K1, true)]) := runF Tryd.prog (look spec_l3Copy_C) F spec_l3Copy_H Tryd.f77 [(K1, true)] [(K1, true)] 2 (l, ())
theorem spec_l3Copy_eq (l : D1) : spec_l3Copy F l = ck (okA F 0 l.1.length 8) (ck (okA F 0 l.2.length 8) (some (([] ++ l.1, [] ++ l.2), ()))) := by kernel_rfl
noncomputable def spec_l3Copy_con : Any := .one ⟨[(K1, true)], [(K1, true)], 2, fun x => spec_l3Copy F0 x.1⟩
theorem spec_l3Copy_ok : AnyOk Tryd.prog TB 77 spec_l3Copy_con := ok1 (show AllOk Tryd.prog TB spec_l3Copy_C from trivial) Tryd.func77 (by kernel_rfl) (by kernel_rfl) spec_l3Copy_H (by kernel_rfl)

/-! ### spec.LedgerOk -/
noncomputable def spec_LedgerOk_C : List (Nat × Any) := [(87, spec_l1In_con)]
noncomputable def spec_LedgerOk_H : Nat → Option Hint := look [(4, { live := [1, 3], rl := [2] })]
noncomputable def spec_LedgerOk_1_s (i : Int) (l : List Int) (l1 : List Int) : St := { nt := 34, tm := [(1, .v (.c (.ptr 1 0))), (3, .v (.c (.int .i64 i)))], bx := [(1, [.ro false 3 (.int .i64) l, .ro false 3 (.int .i64) l1])], bl := [] }
noncomputable def spec_LedgerOk_1_r (t2 : Bool) : St := { nt := 34, tm := [(2, .v (.c (.bool t2)))], bx := [], bl := [] }
noncomputable def spec_LedgerOk_1_e0  : St := { nt := 34, tm := [], bx := [], bl := [] }
noncomputable def spec_LedgerOk_1 (st : St) : Option α := lp Tryd.prog (look spec_LedgerOk_C) F spec_LedgerOk_H (sub [.r, .r, .l, .r, .b, .i] (codeOf Tryd.f97)) κ n st
noncomputable def spec_LedgerOk_1_k : Ex → St → Option (Args [(.bool, false)]) := cont Tryd.prog (look spec_LedgerOk_C) F spec_LedgerOk_H [.r, .r, .l, .r, .b] (codeOf Tryd.f97) (fin Tryd.prog Tryd.f97 [(.bool, false)] 1)
theorem spec_LedgerOk_1_step (i : Int) (l : List Int) (l1 : List Int) : spec_LedgerOk_1 F κ (n + 1) (spec_LedgerOk_1_s i l l1) = br (decide (i < 4)) (ck (okI i (l.length : Int)) ((spec_l1In F0 (at_ l i 0) 0 400).bind fun r23 => br (!r23.1) (κ .ret (spec_LedgerOk_1_r false)) (ck (okI i (l1.length : Int)) ((spec_l1In F0 (at_ l1 i 0) 0 100).bind fun r31 => br (!r31.1) (κ .ret (spec_LedgerOk_1_r false)) (spec_LedgerOk_1 F κ n (spec_LedgerOk_1_s (w64 (i + 1)) l l1)))))) (κ (.exit 0) (spec_LedgerOk_1_e0 )) := by kernel_rfl
theorem spec_LedgerOk_1_cr (t2 : Bool) : spec_LedgerOk_1_k F .ret (spec_LedgerOk_1_r t2) = some (t2, ()) := by kernel_rfl
theorem spec_LedgerOk_1_ce0  : spec_LedgerOk_1_k F (.exit 0) (spec_LedgerOk_1_e0 ) = some (true, ()) := by kernel_rfl
noncomputable def spec_LedgerOk (l : D1) : Option (Args [(.bool, false)]) := runF Tryd.prog (look spec_LedgerOk_C) F spec_LedgerOk_H Tryd.f97 [(K1, true)] [(.bool, false)] 1 (l, ())
theorem spec_LedgerOk_eq (l : D1) : spec_LedgerOk F l = br ((l.1.length : Int) != 4) (some (false, ())) (br ((l.2.length : Int) != 4) (some (false, ())) (spec_LedgerOk_1 F (spec_LedgerOk_1_k F) F.n (spec_LedgerOk_1_s 0 l.1 l.2))) := by kernel_rfl
noncomputable def spec_LedgerOk_con : Any := .one ⟨[(K1, true)], [(.bool, false)], 1, fun x => spec_LedgerOk F0 x.1⟩
theorem spec_LedgerOk_ok : AnyOk Tryd.prog TB 97 spec_LedgerOk_con := ok1 (show AllOk Tryd.prog TB spec_LedgerOk_C from ⟨spec_l1In_ok, trivial⟩) Tryd.func97 (by kernel_rfl) (by kernel_rfl) spec_LedgerOk_H (by kernel_rfl)

/-! ### spec.Pay -/
noncomputable def spec_Pay_C : List (Nat × Any) := [(77, spec_l3Copy_con), (97, spec_LedgerOk_con), (98, spec_TxOk_con)]
noncomputable def spec_Pay_H : Nat → Option Hint := look []
noncomputable def spec_Pay (l : D1) (x : D6) : Option (Args [(K1, true), (.int .i64, false)]) := runF Tryd.prog (look spec_Pay_C) F spec_Pay_H Tryd.f78 [(K1, true), (K6, true)] [(K1, true), (.int .i64, false)] 2 (l, x, ())
theorem spec_Pay_eq (l : D1) (x : D6) : spec_Pay F l x = (spec_l3Copy F0 l).bind fun r8 => (spec_LedgerOk F0 l).bind fun r11 => br (!r11.1) (some (r8.1, 1, ())) ((spec_TxOk F0 x).bind fun r15 => br (!r15.1) (some (r8.1, 1, ())) (ck (okI x.1 (l.2.length : Int)) (br (decide (x.2.2.2 < (at_ l.2 x.1 0))) (some (r8.1, 2, ())) (ck (okI x.1 (l.2.length : Int)) (br (decide (x.2.2.2 > (at_ l.2 x.1 0))) (some (r8.1, 3, ())) (ck (okI x.1 (r8.1.2.length : Int)) (ck (okI x.1 (l.1.length : Int)) (br (decide (x.2.2.1 > (at_ l.1 x.1 0))) (some ((r8.1.1, r8.1.2.set x.1.toNat (w64 (x.2.2.2 + 1))), 4, ())) (ck (okI x.1 (r8.1.1.length : Int)) (ck (okI x.1 (r8.1.1.length : Int)) (ck (okI x.2.1 ((r8.1.1.set x.1.toNat (w64 ((at_ r8.1.1 x.1 0) - x.2.2.1))).length : Int)) (ck (okI x.2.1 ((r8.1.1.set x.1.toNat (w64 ((at_ r8.1.1 x.1 0) - x.2.2.1))).length : Int)) ((spec_LedgerOk F0 ((r8.1.1.set x.1.toNat (w64 ((at_ r8.1.1 x.1 0) - x.2.2.1))).set x.2.1.toNat (w64 ((at_ (r8.1.1.set x.1.toNat (w64 ((at_ r8.1.1 x.1 0) - x.2.2.1))) x.2.1 0) + x.2.2.1)), r8.1.2.set x.1.toNat (w64 (x.2.2.2 + 1)))).bind fun r88 => br (!r88.1) ((spec_l3Copy F0 l).bind fun r91 => some (r91.1, 1, ())) (some (((r8.1.1.set x.1.toNat (w64 ((at_ r8.1.1 x.1 0) - x.2.2.1))).set x.2.1.toNat (w64 ((at_ (r8.1.1.set x.1.toNat (w64 ((at_ r8.1.1 x.1 0) - x.2.2.1))) x.2.1 0) + x.2.2.1)), r8.1.2.set x.1.toNat (w64 (x.2.2.2 + 1))), 0, ()))))))))))))))) := by kernel_rfl
noncomputable def spec_Pay_con : Any := .one ⟨[(K1, true), (K6, true)], [(K1, true), (.int .i64, false)], 2, fun x => spec_Pay F0 x.1 x.2.1⟩
theorem spec_Pay_ok : AnyOk Tryd.prog TB 78 spec_Pay_con := ok1 (show AllOk Tryd.prog TB spec_Pay_C from ⟨spec_l3Copy_ok, spec_LedgerOk_ok, spec_TxOk_ok, trivial⟩) Tryd.func78 (by kernel_rfl) (by kernel_rfl) spec_Pay_H (by kernel_rfl)

/-! ### spec.PayAll -/
noncomputable def spec_PayAll_C : List (Nat × Any) := [(77, spec_l3Copy_con), (78, spec_Pay_con)]
noncomputable def spec_PayAll_H : Nat → Option Hint := look [(4, { live := [1, 4, 6, 7, 8], matB := [(4, 0, 3, .int .i64), (4, 1, 3, .int .i64)], xl := [4, 6, 7], rl := [4, 5] })]
noncomputable def spec_PayAll_1_s (list : List D6) (i : Int) (xs : List Int) (xs1 : List Int) (xs2 : List Int) (xs3 : List Int) (xs4 : List Int) : St := { nt := 36, tm := [(1, .v (.c (.ro false 89 (K6) list))), (4, .v (.c (.ptr 4 0))), (6, .v (.c (.ptr 6 0))), (7, .v (.c (.own 1000000 none))), (8, .v (.c (.int .i64 i)))], bx := [(4, [.own 1000001 none, .own 1000002 none]), (6, [.own 1000003 none, .own 1000004 none])], bl := [(1000000, some ⟨3, .int .i64, xs, true, true⟩), (1000001, some ⟨3, .int .i64, xs1, true, true⟩), (1000002, some ⟨3, .int .i64, xs2, true, true⟩), (1000003, some ⟨3, .int .i64, xs3, true, true⟩), (1000004, some ⟨3, .int .i64, xs4, true, true⟩)] }
noncomputable def spec_PayAll_1_e0 (xs : List Int) (xs1 : List Int) (xs2 : List Int) (xs3 : List Int) (xs4 : List Int) : St := { nt := 36, tm := [(4, .v (.c (.ptr 4 0))), (6, .v (.c (.ptr 6 0))), (7, .v (.c (.own 1000000 none)))], bx := [(4, [.own 1000001 none, .own 1000002 none]), (6, [.own 1000003 none, .own 1000004 none])], bl := [(1000000, some ⟨3, .int .i64, xs, true, true⟩), (1000001, some ⟨3, .int .i64, xs1, true, true⟩), (1000002, some ⟨3, .int .i64, xs2, true, true⟩), (1000003, some ⟨3, .int .i64, xs3, true, true⟩), (1000004, some ⟨3, .int .i64, xs4, true, true⟩)] }
noncomputable def spec_PayAll_1 (st : St) : Option α := lp Tryd.prog (look spec_PayAll_C) F spec_PayAll_H (sub [.r, .r, .r, .l, .r, .b, .i] (codeOf Tryd.f53)) κ n st
noncomputable def spec_PayAll_1_k : Ex → St → Option (Args [(K1, true), (.sl 3 (.int .i64), false)]) := cont Tryd.prog (look spec_PayAll_C) F spec_PayAll_H [.r, .r, .r, .l, .r, .b] (codeOf Tryd.f53) (fin Tryd.prog Tryd.f53 [(K1, true), (.sl 3 (.int .i64), false)] 2)
theorem spec_PayAll_1_step (list : List D6) (i : Int) (xs : List Int) (xs1 : List Int) (xs2 : List Int) (xs3 : List Int) (xs4 : List Int) : spec_PayAll_1 F κ (n + 1) (spec_PayAll_1_s list i xs xs1 xs2 xs3 xs4) = br (decide (i < (list.length : Int))) (ck (okI i (list.length : Int)) ((spec_Pay F0 (xs3, xs4) ((at_ list i (0, (0, (0, 0)))).1, ((at_ list i (0, (0, (0, 0)))).2.1, ((at_ list i (0, (0, (0, 0)))).2.2.1, (at_ list i (0, (0, (0, 0)))).2.2.2)))).bind fun r26 => ck (okA F xs.length [r26.2.1].length 8) (spec_PayAll_1 F κ n (spec_PayAll_1_s list (w64 (i + 1)) (xs ++ [r26.2.1]) xs1 xs2 r26.1.1 r26.1.2)))) (κ (.exit 0) (spec_PayAll_1_e0 xs xs1 xs2 xs3 xs4)) := by kernel_rfl
theorem spec_PayAll_1_ce0 (xs : List Int) (xs1 : List Int) (xs2 : List Int) (xs3 : List Int) (xs4 : List Int) : spec_PayAll_1_k F (.exit 0) (spec_PayAll_1_e0 xs xs1 xs2 xs3 xs4) = some ((xs3, xs4), xs, ()) := by kernel_rfl
noncomputable def spec_PayAll (l : D1) (list : D7) : Option (Args [(K1, true), (.sl 3 (.int .i64), false)]) := runF Tryd.prog (look spec_PayAll_C) F spec_PayAll_H Tryd.f53 [(K1, true), (K7, false)] [(K1, true), (.sl 3 (.int .i64), false)] 2 (l, list, ())
theorem spec_PayAll_eq (l : D1) (list : D7) : spec_PayAll F l list = (spec_l3Copy F0 l).bind fun r12 => spec_PayAll_1 F (spec_PayAll_1_k F) F.n (spec_PayAll_1_s list 0 [] [] [] r12.1.1 r12.1.2) := by kernel_rfl
noncomputable def spec_PayAll_con : Any := .one ⟨[(K1, true), (K7, false)], [(K1, true), (.sl 3 (.int .i64), false)], 2, fun x => spec_PayAll F0 x.1 x.2.1⟩
theorem spec_PayAll_ok : AnyOk Tryd.prog TB 53 spec_PayAll_con := ok1 (show AllOk Tryd.prog TB spec_PayAll_C from ⟨spec_l3Copy_ok, spec_Pay_ok, trivial⟩) Tryd.func53 (by kernel_rfl) (by kernel_rfl) spec_PayAll_H (by kernel_rfl)

/-! ### spec.ReceiptOf -/
noncomputable def spec_ReceiptOf_C : List (Nat × Any) := [(52, spec_Steps_con), (53, spec_PayAll_con), (54, spec_LedgerNew_con), (55, spec_TxsIn_con)]
noncomputable def spec_ReceiptOf_H : Nat → Option Hint := look [(5, { live := [1, 2, 6, 7, 10, 11, 12], xl := [6], rl := [6] }), (8, { live := [1, 2, 6, 7, 10, 11, 12, 13], xl := [1, 2, 6, 7, 10, 11, 12], rl := [6] })]
noncomputable def spec_ReceiptOf_2_s (from1 : Int) (nonce : Int) (k : Int) (i : Int) (j : Int) (t6 : Int) (t61 : Int) (xs : List D8) (xs1 : List Int) : St := { nt := 85, tm := [(1, .v (.c (.int .i64 from1))), (2, .v (.c (.int .i64 nonce))), (6, .v (.c (.ptr 6 0))), (7, .v (.c (.own 1000000 none))), (10, .v (.c (.own 1000001 none))), (11, .v (.c (.int .i64 k))), (12, .v (.c (.int .i64 i))), (13, .v (.c (.int .i64 j)))], bx := [(6, [.int .i64 t6, .int .i64 t61])], bl := [(1000000, some ⟨87, K8, xs, true, true⟩), (1000001, some ⟨3, .int .i64, xs1, true, true⟩)] }
noncomputable def spec_ReceiptOf_2_r (t6 : Int) (t61 : Int) : St := { nt := 85, tm := [(6, .v (.c (.ptr 6 0)))], bx := [(6, [.int .i64 t6, .int .i64 t61])], bl := [] }
noncomputable def spec_ReceiptOf_2_e2 (from1 : Int) (nonce : Int) (k : Int) (i : Int) (t6 : Int) (t61 : Int) (xs : List D8) (xs1 : List Int) : St := { nt := 85, tm := [(1, .v (.c (.int .i64 from1))), (2, .v (.c (.int .i64 nonce))), (6, .v (.c (.ptr 6 0))), (7, .v (.c (.own 1000000 none))), (10, .v (.c (.own 1000001 none))), (11, .v (.c (.int .i64 k))), (12, .v (.c (.int .i64 i)))], bx := [(6, [.int .i64 t6, .int .i64 t61])], bl := [(1000000, some ⟨87, K8, xs, true, true⟩), (1000001, some ⟨3, .int .i64, xs1, true, true⟩)] }
noncomputable def spec_ReceiptOf_2 (st : St) : Option α := lp Tryd.prog (look spec_ReceiptOf_C) F spec_ReceiptOf_H (sub [.r, .r, .r, .r, .l, .r, .b, .i, .r, .l, .b, .r, .b, .i] (codeOf Tryd.f29)) κ n st
noncomputable def spec_ReceiptOf_2_k : Ex → St → Option α := cont Tryd.prog (look spec_ReceiptOf_C) F spec_ReceiptOf_H [.r, .l, .b, .r, .b] (sub [.r, .r, .r, .r, .l, .r, .b, .i] (codeOf Tryd.f29)) (itk Tryd.prog (look spec_ReceiptOf_C) F spec_ReceiptOf_H (sub [.r, .r, .r, .r, .l, .r, .b, .i] (codeOf Tryd.f29)) κ n)
noncomputable def spec_ReceiptOf_1_s (from1 : Int) (nonce : Int) (k : Int) (i : Int) (t6 : Int) (t61 : Int) (xs : List D8) (xs1 : List Int) : St := { nt := 85, tm := [(1, .v (.c (.int .i64 from1))), (2, .v (.c (.int .i64 nonce))), (6, .v (.c (.ptr 6 0))), (7, .v (.c (.own 1000000 none))), (10, .v (.c (.own 1000001 none))), (11, .v (.c (.int .i64 k))), (12, .v (.c (.int .i64 i)))], bx := [(6, [.int .i64 t6, .int .i64 t61])], bl := [(1000000, some ⟨87, K8, xs, true, true⟩), (1000001, some ⟨3, .int .i64, xs1, true, true⟩)] }
noncomputable def spec_ReceiptOf_1_r (t6 : Int) (t61 : Int) : St := { nt := 85, tm := [(6, .v (.c (.ptr 6 0)))], bx := [(6, [.int .i64 t6, .int .i64 t61])], bl := [] }
noncomputable def spec_ReceiptOf_1_e0 (t6 : Int) (t61 : Int) : St := { nt := 85, tm := [(6, .v (.c (.ptr 6 0)))], bx := [(6, [.int .i64 t6, .int .i64 t61])], bl := [] }
noncomputable def spec_ReceiptOf_1 (st : St) : Option α := lp Tryd.prog (look spec_ReceiptOf_C) F spec_ReceiptOf_H (sub [.r, .r, .r, .r, .l, .r, .b, .i] (codeOf Tryd.f29)) κ n st
noncomputable def spec_ReceiptOf_1_k : Ex → St → Option (Args [(K4, true)]) := cont Tryd.prog (look spec_ReceiptOf_C) F spec_ReceiptOf_H [.r, .r, .r, .r, .l, .r, .b] (codeOf Tryd.f29) (fin Tryd.prog Tryd.f29 [(K4, true)] 1)
theorem spec_ReceiptOf_2_step (from1 : Int) (nonce : Int) (k : Int) (i : Int) (j : Int) (t6 : Int) (t61 : Int) (xs : List D8) (xs1 : List Int) : spec_ReceiptOf_2 F κ (n + 1) (spec_ReceiptOf_2_s from1 nonce k i j t6 t61 xs xs1) = ck (okI i (xs.length : Int)) (br (decide (j < ((at_ xs i (0, [])).2.length : Int))) (ck (okI i (xs.length : Int)) (ck (okI j ((at_ xs i (0, [])).2.length : Int)) (br ((at_ (at_ xs i (0, [])).2 j (0, (0, (0, 0)))).1 == from1) (br ((at_ (at_ xs i (0, [])).2 j (0, (0, (0, 0)))).2.2.2 == nonce) (ck (okI k (xs1.length : Int)) (br ((at_ xs1 k 0) == 0) (ck (okI k (xs1.length : Int)) (κ .ret (spec_ReceiptOf_2_r (at_ xs1 k 0) (w64 (i + 1))))) (ck (okI k (xs1.length : Int)) (br ((at_ xs1 k 0) == 4) (ck (okI k (xs1.length : Int)) (κ .ret (spec_ReceiptOf_2_r (at_ xs1 k 0) (w64 (i + 1))))) (spec_ReceiptOf_2 F κ n (spec_ReceiptOf_2_s from1 nonce (w64 (k + 1)) i (w64 (j + 1)) t6 t61 xs xs1)))))) (spec_ReceiptOf_2 F κ n (spec_ReceiptOf_2_s from1 nonce (w64 (k + 1)) i (w64 (j + 1)) t6 t61 xs xs1))) (spec_ReceiptOf_2 F κ n (spec_ReceiptOf_2_s from1 nonce (w64 (k + 1)) i (w64 (j + 1)) t6 t61 xs xs1))))) (κ (.exit 2) (spec_ReceiptOf_2_e2 from1 nonce k i t6 t61 xs xs1))) := by kernel_rfl
theorem spec_ReceiptOf_1_step (from1 : Int) (nonce : Int) (k : Int) (i : Int) (t6 : Int) (t61 : Int) (xs : List D8) (xs1 : List Int) : spec_ReceiptOf_1 F κ (n + 1) (spec_ReceiptOf_1_s from1 nonce k i t6 t61 xs xs1) = br (decide (i < (xs.length : Int))) (spec_ReceiptOf_2 F (spec_ReceiptOf_2_k F κ n) F.n (spec_ReceiptOf_2_s from1 nonce k i 0 t6 t61 xs xs1)) (κ (.exit 0) (spec_ReceiptOf_1_e0 t6 t61)) := by kernel_rfl
theorem spec_ReceiptOf_2_cr (t6 : Int) (t61 : Int) : spec_ReceiptOf_2_k F κ n .ret (spec_ReceiptOf_2_r t6 t61) = κ .ret (spec_ReceiptOf_1_r t6 t61) := by kernel_rfl
theorem spec_ReceiptOf_2_ce2 (from1 : Int) (nonce : Int) (k : Int) (i : Int) (t6 : Int) (t61 : Int) (xs : List D8) (xs1 : List Int) : spec_ReceiptOf_2_k F κ n (.exit 2) (spec_ReceiptOf_2_e2 from1 nonce k i t6 t61 xs xs1) = spec_ReceiptOf_1 F κ n (spec_ReceiptOf_1_s from1 nonce k (w64 (i + 1)) t6 t61 xs xs1) := by kernel_rfl
theorem spec_ReceiptOf_1_cr (t6 : Int) (t61 : Int) : spec_ReceiptOf_1_k F .ret (spec_ReceiptOf_1_r t6 t61) = some ((t6, t61), ()) := by kernel_rfl
theorem spec_ReceiptOf_1_ce0 (t6 : Int) (t61 : Int) : spec_ReceiptOf_1_k F (.exit 0) (spec_ReceiptOf_1_e0 t6 t61) = some ((9, 0), ()) := by kernel_rfl
noncomputable def spec_ReceiptOf (name : ByteArray) (from1 : Int) (nonce : Int) : Option (Args [(K4, true)]) := runF Tryd.prog (look spec_ReceiptOf_C) F spec_ReceiptOf_H Tryd.f29 [(.str, false), (.int .i64, false), (.int .i64, false)] [(K4, true)] 1 (name, from1, nonce, ())
theorem spec_ReceiptOf_eq (name : ByteArray) (from1 : Int) (nonce : Int) : spec_ReceiptOf F name from1 nonce = (spec_Steps F0 name).bind fun r17 => (spec_LedgerNew F0 ).bind fun r21 => (spec_TxsIn F0 name).bind fun r23 => (spec_PayAll F0 r21.1 r23.1).bind fun r24 => spec_ReceiptOf_1 F (spec_ReceiptOf_1_k F) F.n (spec_ReceiptOf_1_s from1 nonce 0 0 0 0 r17.1 r24.2.1) := by kernel_rfl
noncomputable def spec_ReceiptOf_con : Any := .one ⟨[(.str, false), (.int .i64, false), (.int .i64, false)], [(K4, true)], 1, fun x => spec_ReceiptOf F0 x.1 x.2.1 x.2.2.1⟩
theorem spec_ReceiptOf_ok : AnyOk Tryd.prog TB 29 spec_ReceiptOf_con := ok1 (show AllOk Tryd.prog TB spec_ReceiptOf_C from ⟨spec_Steps_ok, spec_PayAll_ok, spec_LedgerNew_ok, spec_TxsIn_ok, trivial⟩) Tryd.func29 (by kernel_rfl) (by kernel_rfl) spec_ReceiptOf_H (by kernel_rfl)

/-! ### bytealg.Cutover -/
noncomputable def bytealg_Cutover_C : List (Nat × Any) := []
noncomputable def bytealg_Cutover_H : Nat → Option Hint := look []
noncomputable def bytealg_Cutover (n1 : Int) : Option (Args [(.int .i64, false)]) := runF Tryd.prog (look bytealg_Cutover_C) F bytealg_Cutover_H Tryd.f140 [(.int .i64, false)] [(.int .i64, false)] 1 (n1, ())
theorem bytealg_Cutover_eq (n1 : Int) : bytealg_Cutover F n1 = some (w64 (Int.tdiv (w64 (n1 + 16)) 8), ()) := by kernel_rfl
noncomputable def bytealg_Cutover_con : Any := .one ⟨[(.int .i64, false)], [(.int .i64, false)], 1, fun x => bytealg_Cutover F0 x.1⟩
theorem bytealg_Cutover_ok : AnyOk Tryd.prog TB 140 bytealg_Cutover_con := ok1 (show AllOk Tryd.prog TB bytealg_Cutover_C from trivial) Tryd.func140 (by kernel_rfl) (by kernel_rfl) bytealg_Cutover_H (by kernel_rfl)

/-! ### bytealg.hashStr[string] -/
noncomputable def bytealg_hashStr_string_C : List (Nat × Any) := []
noncomputable def bytealg_hashStr_string_H : Nat → Option Hint := look [(3, { live := [0, 4, 5], xl := [0, 4], rl := [2, 3] }), (8, { live := [4, 6, 7, 8], xl := [4, 6], rl := [2, 3] })]
noncomputable def bytealg_hashStr_string_2_s (hash : Int) (pow : Int) (sq : Int) (i : Int) : St := { nt := 39, tm := [(4, .v (.c (.int .u32 hash))), (6, .v (.c (.int .u32 pow))), (7, .v (.c (.int .u32 sq))), (8, .v (.c (.int .i64 i)))], bx := [], bl := [] }
noncomputable def bytealg_hashStr_string_2_e2 (hash : Int) (pow : Int) : St := { nt := 39, tm := [(4, .v (.c (.int .u32 hash))), (6, .v (.c (.int .u32 pow)))], bx := [], bl := [] }
noncomputable def bytealg_hashStr_string_2 (st : St) : Option α := lp Tryd.prog (look bytealg_hashStr_string_C) F bytealg_hashStr_string_H (sub [.r, .r, .r, .r, .l, .r, .b, .i] (codeOf Tryd.f153)) κ n st
noncomputable def bytealg_hashStr_string_2_k : Ex → St → Option (Args [(.int .u32, false), (.int .u32, false)]) := cont Tryd.prog (look bytealg_hashStr_string_C) F bytealg_hashStr_string_H [.r, .r, .r, .r, .l, .r, .b] (codeOf Tryd.f153) (fin Tryd.prog Tryd.f153 [(.int .u32, false), (.int .u32, false)] 1)
noncomputable def bytealg_hashStr_string_1_s (sep : ByteArray) (hash : Int) (i : Int) : St := { nt := 39, tm := [(0, .v (.c (.str sep))), (4, .v (.c (.int .u32 hash))), (5, .v (.c (.int .i64 i)))], bx := [], bl := [] }
noncomputable def bytealg_hashStr_string_1_e0 (sep : ByteArray) (hash : Int) : St := { nt := 39, tm := [(0, .v (.c (.str sep))), (4, .v (.c (.int .u32 hash)))], bx := [], bl := [] }
noncomputable def bytealg_hashStr_string_1 (st : St) : Option α := lp Tryd.prog (look bytealg_hashStr_string_C) F bytealg_hashStr_string_H (sub [.r, .r, .l, .r, .b, .i] (codeOf Tryd.f153)) κ n st
noncomputable def bytealg_hashStr_string_1_k : Ex → St → Option (Args [(.int .u32, false), (.int .u32, false)]) := cont Tryd.prog (look bytealg_hashStr_string_C) F bytealg_hashStr_string_H [.r, .r, .l, .r, .b] (codeOf Tryd.f153) (fin Tryd.prog Tryd.f153 [(.int .u32, false), (.int .u32, false)] 1)
theorem bytealg_hashStr_string_2_step (hash : Int) (pow : Int) (sq : Int) (i : Int) : bytealg_hashStr_string_2 F κ (n + 1) (bytealg_hashStr_string_2_s hash pow sq i) = br (decide (i > 0)) (br ((w64 (((BitVec.ofInt 64 i &&& BitVec.ofInt 64 1).toNat : Int))) != 0) (bytealg_hashStr_string_2 F κ n (bytealg_hashStr_string_2_s hash (IntKind.wrap .u32 (pow * sq)) (IntKind.wrap .u32 (sq * sq)) (Int.fdiv i (2 ^ (min (1 : Int).toNat 64))))) (bytealg_hashStr_string_2 F κ n (bytealg_hashStr_string_2_s hash pow (IntKind.wrap .u32 (sq * sq)) (Int.fdiv i (2 ^ (min (1 : Int).toNat 64)))))) (κ (.exit 2) (bytealg_hashStr_string_2_e2 hash pow)) := by kernel_rfl
theorem bytealg_hashStr_string_1_step (sep : ByteArray) (hash : Int) (i : Int) : bytealg_hashStr_string_1 F κ (n + 1) (bytealg_hashStr_string_1_s sep hash i) = br (decide (i < (sep.size : Int))) (ck (okI i (sep.size : Int)) (bytealg_hashStr_string_1 F κ n (bytealg_hashStr_string_1_s sep (IntKind.wrap .u32 ((IntKind.wrap .u32 (hash * 16777619)) + (IntKind.wrap .u32 (byteAt sep i)))) (w64 (i + 1))))) (κ (.exit 0) (bytealg_hashStr_string_1_e0 sep hash)) := by kernel_rfl
theorem bytealg_hashStr_string_2_ce2 (hash : Int) (pow : Int) : bytealg_hashStr_string_2_k F (.exit 2) (bytealg_hashStr_string_2_e2 hash pow) = some (hash, pow, ()) := by kernel_rfl
theorem bytealg_hashStr_string_1_ce0 (sep : ByteArray) (hash : Int) : bytealg_hashStr_string_1_k F (.exit 0) (bytealg_hashStr_string_1_e0 sep hash) = bytealg_hashStr_string_2 F (bytealg_hashStr_string_2_k F) F.n (bytealg_hashStr_string_2_s hash 1 16777619 (sep.size : Int)) := by kernel_rfl
noncomputable def bytealg_hashStr_string (sep : ByteArray) : Option (Args [(.int .u32, false), (.int .u32, false)]) := runF Tryd.prog (look bytealg_hashStr_string_C) F bytealg_hashStr_string_H Tryd.f153 [(.str, false)] [(.int .u32, false), (.int .u32, false)] 1 (sep, ())
theorem bytealg_hashStr_string_eq (sep : ByteArray) : bytealg_hashStr_string F sep = bytealg_hashStr_string_1 F (bytealg_hashStr_string_1_k F) F.n (bytealg_hashStr_string_1_s sep 0 0) := by kernel_rfl
noncomputable def bytealg_hashStr_string_con : Any := .one ⟨[(.str, false)], [(.int .u32, false), (.int .u32, false)], 1, fun x => bytealg_hashStr_string F0 x.1⟩
theorem bytealg_hashStr_string_ok : AnyOk Tryd.prog TB 153 bytealg_hashStr_string_con := ok1 (show AllOk Tryd.prog TB bytealg_hashStr_string_C from trivial) Tryd.func153 (by kernel_rfl) (by kernel_rfl) bytealg_hashStr_string_H (by kernel_rfl)

/-! ### bytealg.IndexRabinKarp[string] -/
noncomputable def bytealg_IndexRabinKarp_string_C : List (Nat × Any) := [(153, bytealg_hashStr_string_con)]
noncomputable def bytealg_IndexRabinKarp_string_H : Nat → Option Hint := look [(5, { live := [0, 1, 5, 6, 7, 8, 9], xl := [0, 1, 5, 6, 7, 8], rl := [4] }), (11, { live := [0, 1, 5, 6, 7, 8, 10], rl := [4] })]
noncomputable def bytealg_IndexRabinKarp_string_2_s (s : ByteArray) (sep : ByteArray) (hashss : Int) (pow : Int) (n1 : Int) (h : Int) (i : Int) : St := { nt := 81, tm := [(0, .v (.c (.str s))), (1, .v (.c (.str sep))), (5, .v (.c (.int .u32 hashss))), (6, .v (.c (.int .u32 pow))), (7, .v (.c (.int .i64 n1))), (8, .v (.c (.int .u32 h))), (10, .v (.c (.int .i64 i)))], bx := [], bl := [] }
noncomputable def bytealg_IndexRabinKarp_string_2_r (t4 : Int) : St := { nt := 81, tm := [(4, .v (.c (.int .i64 t4)))], bx := [], bl := [] }
noncomputable def bytealg_IndexRabinKarp_string_2_e2  : St := { nt := 81, tm := [], bx := [], bl := [] }
noncomputable def bytealg_IndexRabinKarp_string_2 (st : St) : Option α := lp Tryd.prog (look bytealg_IndexRabinKarp_string_C) F bytealg_IndexRabinKarp_string_H (sub [.r, .r, .r, .r, .r, .r, .l, .r, .b, .i] (codeOf Tryd.f141)) κ n st
noncomputable def bytealg_IndexRabinKarp_string_2_k : Ex → St → Option (Args [(.int .i64, false)]) := cont Tryd.prog (look bytealg_IndexRabinKarp_string_C) F bytealg_IndexRabinKarp_string_H [.r, .r, .r, .r, .r, .r, .l, .r, .b] (codeOf Tryd.f141) (fin Tryd.prog Tryd.f141 [(.int .i64, false)] 1)
noncomputable def bytealg_IndexRabinKarp_string_1_s (s : ByteArray) (sep : ByteArray) (hashss : Int) (pow : Int) (n1 : Int) (h : Int) (i : Int) : St := { nt := 81, tm := [(0, .v (.c (.str s))), (1, .v (.c (.str sep))), (5, .v (.c (.int .u32 hashss))), (6, .v (.c (.int .u32 pow))), (7, .v (.c (.int .i64 n1))), (8, .v (.c (.int .u32 h))), (9, .v (.c (.int .i64 i)))], bx := [], bl := [] }
noncomputable def bytealg_IndexRabinKarp_string_1_e0 (s : ByteArray) (sep : ByteArray) (hashss : Int) (pow : Int) (n1 : Int) (h : Int) : St := { nt := 81, tm := [(0, .v (.c (.str s))), (1, .v (.c (.str sep))), (5, .v (.c (.int .u32 hashss))), (6, .v (.c (.int .u32 pow))), (7, .v (.c (.int .i64 n1))), (8, .v (.c (.int .u32 h)))], bx := [], bl := [] }
noncomputable def bytealg_IndexRabinKarp_string_1 (st : St) : Option α := lp Tryd.prog (look bytealg_IndexRabinKarp_string_C) F bytealg_IndexRabinKarp_string_H (sub [.r, .r, .r, .r, .l, .r, .b, .i] (codeOf Tryd.f141)) κ n st
noncomputable def bytealg_IndexRabinKarp_string_1_k : Ex → St → Option (Args [(.int .i64, false)]) := cont Tryd.prog (look bytealg_IndexRabinKarp_string_C) F bytealg_IndexRabinKarp_string_H [.r, .r, .r, .r, .l, .r, .b] (codeOf Tryd.f141) (fin Tryd.prog Tryd.f141 [(.int .i64, false)] 1)
theorem bytealg_IndexRabinKarp_string_2_step (s : ByteArray) (sep : ByteArray) (hashss : Int) (pow : Int) (n1 : Int) (h : Int) (i : Int) : bytealg_IndexRabinKarp_string_2 F κ (n + 1) (bytealg_IndexRabinKarp_string_2_s s sep hashss pow n1 h i) = br (decide (i < (s.size : Int))) (ck (okI i (s.size : Int)) (ck (okI (w64 (i - n1)) (s.size : Int)) (br ((IntKind.wrap .u32 ((IntKind.wrap .u32 ((IntKind.wrap .u32 (h * 16777619)) + (IntKind.wrap .u32 (byteAt s i)))) - (IntKind.wrap .u32 (pow * (IntKind.wrap .u32 (byteAt s (w64 (i - n1)))))))) == hashss) (ck (okS (w64 ((w64 (i + 1)) - n1)) (w64 (i + 1)) (s.size : Int)) (br ((s.extract (w64 ((w64 (i + 1)) - n1)).toNat (w64 (i + 1)).toNat).toList == sep.toList) (κ .ret (bytealg_IndexRabinKarp_string_2_r (w64 ((w64 (i + 1)) - n1)))) (bytealg_IndexRabinKarp_string_2 F κ n (bytealg_IndexRabinKarp_string_2_s s sep hashss pow n1 (IntKind.wrap .u32 ((IntKind.wrap .u32 ((IntKind.wrap .u32 (h * 16777619)) + (IntKind.wrap .u32 (byteAt s i)))) - (IntKind.wrap .u32 (pow * (IntKind.wrap .u32 (byteAt s (w64 (i - n1)))))))) (w64 (i + 1)))))) (bytealg_IndexRabinKarp_string_2 F κ n (bytealg_IndexRabinKarp_string_2_s s sep hashss pow n1 (IntKind.wrap .u32 ((IntKind.wrap .u32 ((IntKind.wrap .u32 (h * 16777619)) + (IntKind.wrap .u32 (byteAt s i)))) - (IntKind.wrap .u32 (pow * (IntKind.wrap .u32 (byteAt s (w64 (i - n1)))))))) (w64 (i + 1))))))) (κ (.exit 2) (bytealg_IndexRabinKarp_string_2_e2 )) := by kernel_rfl
theorem bytealg_IndexRabinKarp_string_1_step (s : ByteArray) (sep : ByteArray) (hashss : Int) (pow : Int) (n1 : Int) (h : Int) (i : Int) : bytealg_IndexRabinKarp_string_1 F κ (n + 1) (bytealg_IndexRabinKarp_string_1_s s sep hashss pow n1 h i) = br (decide (i < n1)) (ck (okI i (s.size : Int)) (bytealg_IndexRabinKarp_string_1 F κ n (bytealg_IndexRabinKarp_string_1_s s sep hashss pow n1 (IntKind.wrap .u32 ((IntKind.wrap .u32 (h * 16777619)) + (IntKind.wrap .u32 (byteAt s i)))) (w64 (i + 1))))) (κ (.exit 0) (bytealg_IndexRabinKarp_string_1_e0 s sep hashss pow n1 h)) := by kernel_rfl
theorem bytealg_IndexRabinKarp_string_2_cr (t4 : Int) : bytealg_IndexRabinKarp_string_2_k F .ret (bytealg_IndexRabinKarp_string_2_r t4) = some (t4, ()) := by kernel_rfl
theorem bytealg_IndexRabinKarp_string_2_ce2  : bytealg_IndexRabinKarp_string_2_k F (.exit 2) (bytealg_IndexRabinKarp_string_2_e2 ) = some ((-1), ()) := by kernel_rfl
theorem bytealg_IndexRabinKarp_string_1_ce0 (s : ByteArray) (sep : ByteArray) (hashss : Int) (pow : Int) (n1 : Int) (h : Int) : bytealg_IndexRabinKarp_string_1_k F (.exit 0) (bytealg_IndexRabinKarp_string_1_e0 s sep hashss pow n1 h) = br (h == hashss) (ck (okS 0 n1 (s.size : Int)) (br ((s.extract (0 : Int).toNat n1.toNat).toList == sep.toList) (some (0, ())) (bytealg_IndexRabinKarp_string_2 F (bytealg_IndexRabinKarp_string_2_k F) F.n (bytealg_IndexRabinKarp_string_2_s s sep hashss pow n1 h n1)))) (bytealg_IndexRabinKarp_string_2 F (bytealg_IndexRabinKarp_string_2_k F) F.n (bytealg_IndexRabinKarp_string_2_s s sep hashss pow n1 h n1)) := by kernel_rfl
noncomputable def bytealg_IndexRabinKarp_string (s : ByteArray) (sep : ByteArray) : Option (Args [(.int .i64, false)]) := runF Tryd.prog (look bytealg_IndexRabinKarp_string_C) F bytealg_IndexRabinKarp_string_H Tryd.f141 [(.str, false), (.str, false)] [(.int .i64, false)] 1 (s, sep, ())
theorem bytealg_IndexRabinKarp_string_eq (s : ByteArray) (sep : ByteArray) : bytealg_IndexRabinKarp_string F s sep = (bytealg_hashStr_string F0 sep).bind fun r13 => bytealg_IndexRabinKarp_string_1 F (bytealg_IndexRabinKarp_string_1_k F) F.n (bytealg_IndexRabinKarp_string_1_s s sep r13.1 r13.2.1 (sep.size : Int) 0 0) := by kernel_rfl
noncomputable def bytealg_IndexRabinKarp_string_con : Any := .one ⟨[(.str, false), (.str, false)], [(.int .i64, false)], 1, fun x => bytealg_IndexRabinKarp_string F0 x.1 x.2.1⟩
theorem bytealg_IndexRabinKarp_string_ok : AnyOk Tryd.prog TB 141 bytealg_IndexRabinKarp_string_con := ok1 (show AllOk Tryd.prog TB bytealg_IndexRabinKarp_string_C from ⟨bytealg_hashStr_string_ok, trivial⟩) Tryd.func141 (by kernel_rfl) (by kernel_rfl) bytealg_IndexRabinKarp_string_H (by kernel_rfl)

/-! ### impl.Split -/
noncomputable def impl_Split_C : List (Nat × Any) := [(99, strings_Split_con)]
noncomputable def impl_Split_H : Nat → Option Hint := look []
noncomputable def impl_Split (s : ByteArray) (by1 : Int) : Option (Args [(.sl 9 (.str), false)]) := runF Tryd.prog (look impl_Split_C) F impl_Split_H Tryd.f79 [(.str, false), (.int .u8, false)] [(.sl 9 (.str), false)] 1 (s, by1, ())
theorem impl_Split_eq (s : ByteArray) (by1 : Int) : impl_Split F s by1 = (strings_Split F0 s (strOf [by1])).bind fun r9 => some (r9.1, ()) := by kernel_rfl
noncomputable def impl_Split_con : Any := .one ⟨[(.str, false), (.int .u8, false)], [(.sl 9 (.str), false)], 1, fun x => impl_Split F0 x.1 x.2.1⟩
theorem impl_Split_ok : AnyOk Tryd.prog TB 79 impl_Split_con := ok1 (show AllOk Tryd.prog TB impl_Split_C from ⟨strings_Split_ok, trivial⟩) Tryd.func79 (by kernel_rfl) (by kernel_rfl) impl_Split_H (by kernel_rfl)

/-! ### impl.Number -/
noncomputable def impl_Number_C : List (Nat × Any) := [(50, impl_Digits_con)]
noncomputable def impl_Number_H : Nat → Option Hint := look [(5, { live := [0, 4, 5], xl := [0, 4], rl := [2, 3] })]
noncomputable def impl_Number_1_s (s : ByteArray) (n1 : Int) (i : Int) : St := { nt := 43, tm := [(0, .v (.c (.str s))), (4, .v (.c (.int .i64 n1))), (5, .v (.c (.int .i64 i)))], bx := [], bl := [] }
noncomputable def impl_Number_1_r (t2 : Int) (t3 : Bool) : St := { nt := 43, tm := [(2, .v (.c (.int .i64 t2))), (3, .v (.c (.bool t3)))], bx := [], bl := [] }
noncomputable def impl_Number_1_e0 (s : ByteArray) (n1 : Int) : St := { nt := 43, tm := [(0, .v (.c (.str s))), (4, .v (.c (.int .i64 n1)))], bx := [], bl := [] }
noncomputable def impl_Number_1 (st : St) : Option α := lp Tryd.prog (look impl_Number_C) F impl_Number_H (sub [.r, .r, .r, .l, .r, .b, .i] (codeOf Tryd.f81)) κ n st
noncomputable def impl_Number_1_k : Ex → St → Option (Args [(.int .i64, false), (.bool, false)]) := cont Tryd.prog (look impl_Number_C) F impl_Number_H [.r, .r, .r, .l, .r, .b] (codeOf Tryd.f81) (fin Tryd.prog Tryd.f81 [(.int .i64, false), (.bool, false)] 1)
theorem impl_Number_1_step (s : ByteArray) (n1 : Int) (i : Int) : impl_Number_1 F κ (n + 1) (impl_Number_1_s s n1 i) = br (decide (i < (s.size : Int))) (ck (okI i (s.size : Int)) (br (decide ((byteAt s i) < 48)) (κ .ret (impl_Number_1_r 0 false)) (ck (okI i (s.size : Int)) (br (decide ((byteAt s i) > 57)) (κ .ret (impl_Number_1_r 0 false)) (ck (okI i (s.size : Int)) (impl_Number_1 F κ n (impl_Number_1_s s (w64 ((w64 (10 * n1)) + (w64 (IntKind.wrap .u8 ((byteAt s i) - 48))))) (w64 (i + 1))))))))) (κ (.exit 0) (impl_Number_1_e0 s n1)) := by kernel_rfl
theorem impl_Number_1_cr (t2 : Int) (t3 : Bool) : impl_Number_1_k F .ret (impl_Number_1_r t2 t3) = some (t2, t3, ()) := by kernel_rfl
theorem impl_Number_1_ce0 (s : ByteArray) (n1 : Int) : impl_Number_1_k F (.exit 0) (impl_Number_1_e0 s n1) = (impl_Digits F0 n1).bind fun r39 => br (!(r39.1.toList == s.toList)) (some (0, false, ())) (some (n1, true, ())) := by kernel_rfl
noncomputable def impl_Number (s : ByteArray) : Option (Args [(.int .i64, false), (.bool, false)]) := runF Tryd.prog (look impl_Number_C) F impl_Number_H Tryd.f81 [(.str, false)] [(.int .i64, false), (.bool, false)] 1 (s, ())
theorem impl_Number_eq (s : ByteArray) : impl_Number F s = br (decide ((s.size : Int) < 1)) (some (0, false, ())) (br (decide ((s.size : Int) > 6)) (some (0, false, ())) (impl_Number_1 F (impl_Number_1_k F) F.n (impl_Number_1_s s 0 0))) := by kernel_rfl
noncomputable def impl_Number_con : Any := .one ⟨[(.str, false)], [(.int .i64, false), (.bool, false)], 1, fun x => impl_Number F0 x.1⟩
theorem impl_Number_ok : AnyOk Tryd.prog TB 81 impl_Number_con := ok1 (show AllOk Tryd.prog TB impl_Number_C from ⟨impl_Digits_ok, trivial⟩) Tryd.func81 (by kernel_rfl) (by kernel_rfl) impl_Number_H (by kernel_rfl)

/-! ### impl.within -/
noncomputable def impl_within_C : List (Nat × Any) := []
noncomputable def impl_within_H : Nat → Option Hint := look []
noncomputable def impl_within (n1 : Int) (low : Int) (high : Int) : Option (Args [(.bool, false)]) := runF Tryd.prog (look impl_within_C) F impl_within_H Tryd.f83 [(.int .i64, false), (.int .i64, false), (.int .i64, false)] [(.bool, false)] 1 (n1, low, high, ())
theorem impl_within_eq (n1 : Int) (low : Int) (high : Int) : impl_within F n1 low high = br (decide (n1 ≥ low)) (some (decide (n1 ≤ high), ())) (some (false, ())) := by kernel_rfl
noncomputable def impl_within_con : Any := .one ⟨[(.int .i64, false), (.int .i64, false), (.int .i64, false)], [(.bool, false)], 1, fun x => impl_within F0 x.1 x.2.1 x.2.2.1⟩
theorem impl_within_ok : AnyOk Tryd.prog TB 83 impl_within_con := ok1 (show AllOk Tryd.prog TB impl_within_C from trivial) Tryd.func83 (by kernel_rfl) (by kernel_rfl) impl_within_H (by kernel_rfl)

/-! ### impl.TxOk -/
noncomputable def impl_TxOk_C : List (Nat × Any) := [(83, impl_within_con)]
noncomputable def impl_TxOk_H : Nat → Option Hint := look []
noncomputable def impl_TxOk (x : D6) : Option (Args [(.bool, false)]) := runF Tryd.prog (look impl_TxOk_C) F impl_TxOk_H Tryd.f86 [(K6, true)] [(.bool, false)] 1 (x, ())
theorem impl_TxOk_eq (x : D6) : impl_TxOk F x = (impl_within F0 x.1 0 3).bind fun r5 => br r5.1 ((impl_within F0 x.2.1 0 3).bind fun r9 => br r9.1 ((impl_within F0 x.2.2.1 0 1000).bind fun r14 => br r14.1 ((impl_within F0 x.2.2.2 0 99).bind fun r19 => some (r19.1, ())) (some (false, ()))) (some (false, ()))) (some (false, ())) := by kernel_rfl
noncomputable def impl_TxOk_con : Any := .one ⟨[(K6, true)], [(.bool, false)], 1, fun x => impl_TxOk F0 x.1⟩
theorem impl_TxOk_ok : AnyOk Tryd.prog TB 86 impl_TxOk_con := ok1 (show AllOk Tryd.prog TB impl_TxOk_C from ⟨impl_within_ok, trivial⟩) Tryd.func86 (by kernel_rfl) (by kernel_rfl) impl_TxOk_H (by kernel_rfl)

/-! ### impl.TxText -/
noncomputable def impl_TxText_C : List (Nat × Any) := [(50, impl_Digits_con), (86, impl_TxOk_con)]
noncomputable def impl_TxText_H : Nat → Option Hint := look []
noncomputable def impl_TxText (x : D6) : Option (Args [(.str, false)]) := runF Tryd.prog (look impl_TxText_C) F impl_TxText_H Tryd.f125 [(K6, true)] [(.str, false)] 1 (x, ())
theorem impl_TxText_eq (x : D6) : impl_TxText F x = (impl_TxOk F0 x).bind fun r4 => br (!r4.1) (some ((ByteArray.mk #[]), ())) ((impl_Digits F0 x.1).bind fun r8 => ck (okC F r8.1.size (ByteArray.mk #[62]).size) ((impl_Digits F0 x.2.1).bind fun r12 => ck (okC F (r8.1 ++ (ByteArray.mk #[62])).size r12.1.size) (ck (okC F ((r8.1 ++ (ByteArray.mk #[62])) ++ r12.1).size (ByteArray.mk #[58]).size) ((impl_Digits F0 x.2.2.1).bind fun r17 => ck (okC F (((r8.1 ++ (ByteArray.mk #[62])) ++ r12.1) ++ (ByteArray.mk #[58])).size r17.1.size) (ck (okC F ((((r8.1 ++ (ByteArray.mk #[62])) ++ r12.1) ++ (ByteArray.mk #[58])) ++ r17.1).size (ByteArray.mk #[35]).size) ((impl_Digits F0 x.2.2.2).bind fun r22 => ck (okC F (((((r8.1 ++ (ByteArray.mk #[62])) ++ r12.1) ++ (ByteArray.mk #[58])) ++ r17.1) ++ (ByteArray.mk #[35])).size r22.1.size) (some ((((((r8.1 ++ (ByteArray.mk #[62])) ++ r12.1) ++ (ByteArray.mk #[58])) ++ r17.1) ++ (ByteArray.mk #[35])) ++ r22.1, ())))))))) := by kernel_rfl
noncomputable def impl_TxText_con : Any := .one ⟨[(K6, true)], [(.str, false)], 1, fun x => impl_TxText F0 x.1⟩
theorem impl_TxText_ok : AnyOk Tryd.prog TB 125 impl_TxText_con := ok1 (show AllOk Tryd.prog TB impl_TxText_C from ⟨impl_Digits_ok, impl_TxOk_ok, trivial⟩) Tryd.func125 (by kernel_rfl) (by kernel_rfl) impl_TxText_H (by kernel_rfl)

/-! ### impl.TxOf -/
noncomputable def impl_TxOf_C : List (Nat × Any) := [(80, strings_Cut_con), (81, impl_Number_con), (86, impl_TxOk_con), (125, impl_TxText_con)]
noncomputable def impl_TxOf_H : Nat → Option Hint := look []
noncomputable def impl_TxOf (s : ByteArray) : Option (Args [(K6, true), (.bool, false)]) := runF Tryd.prog (look impl_TxOf_C) F impl_TxOf_H Tryd.f101 [(.str, false)] [(K6, true), (.bool, false)] 1 (s, ())
theorem impl_TxOf_eq (s : ByteArray) : impl_TxOf F0 s = (strings_Cut F0 s (ByteArray.mk #[62])).bind fun r18_0 => (strings_Cut F0 r18_0.2.1 (ByteArray.mk #[58])).bind fun r24_0 => (strings_Cut F0 r24_0.2.1 (ByteArray.mk #[35])).bind fun r30_0 => ck (okI 0 4) ((impl_Number F0 (at_ [r18_0.1, r24_0.1, r30_0.1, r30_0.2.1] 0 ByteArray.empty)).bind fun r48_1 => ck (okI 1 4) ((impl_Number F0 (at_ [r18_0.1, r24_0.1, r30_0.1, r30_0.2.1] 1 ByteArray.empty)).bind fun r48_2 => ck (okI 2 4) ((impl_Number F0 (at_ [r18_0.1, r24_0.1, r30_0.1, r30_0.2.1] 2 ByteArray.empty)).bind fun r48_3 => ck (okI 3 4) ((impl_Number F0 (at_ [r18_0.1, r24_0.1, r30_0.1, r30_0.2.1] 3 ByteArray.empty)).bind fun r48_4 => (impl_TxOk F0 (r48_1.1, (r48_2.1, (r48_3.1, r48_4.1)))).bind fun r63_5 => br (!r63_5.1) (some ((0, (0, (0, 0))), false, ())) ((impl_TxText F0 (r48_1.1, (r48_2.1, (r48_3.1, r48_4.1)))).bind fun r67_5 => br (!(r67_5.1.toList == s.toList)) (some ((0, (0, (0, 0))), false, ())) (some ((r48_1.1, (r48_2.1, (r48_3.1, r48_4.1))), true, ()))))))) := by kernel_rfl
noncomputable def impl_TxOf_con : Any := .one ⟨[(.str, false)], [(K6, true), (.bool, false)], 1, fun x => impl_TxOf F0 x.1⟩
theorem impl_TxOf_ok : AnyOk Tryd.prog TB 101 impl_TxOf_con := ok1 (show AllOk Tryd.prog TB impl_TxOf_C from ⟨strings_Cut_ok, impl_Number_ok, impl_TxOk_ok, impl_TxText_ok, trivial⟩) Tryd.func101 (by kernel_rfl) (by kernel_rfl) impl_TxOf_H (by kernel_rfl)

/-! ### impl.TxsOf -/
noncomputable def impl_TxsOf_C : List (Nat × Any) := [(79, impl_Split_con), (101, impl_TxOf_con)]
noncomputable def impl_TxsOf_H : Nat → Option Hint := look [(5, { live := [4, 12, 13, 14], mat := [(4, 89, K6)], xl := [4], rl := [2, 3] })]
noncomputable def impl_TxsOf_1_s (t12 : List ByteArray) (t13 : Int) (t14 : Int) (xs : List D6) : St := { nt := 31, tm := [(4, .v (.c (.own 1000000 none))), (12, .v (.c (.ro true 9 (.str) t12))), (13, .v (.c (.int .i64 t13))), (14, .v (.c (.int .i64 t14)))], bx := [], bl := [(1000000, some ⟨89, K6, xs, true, true⟩)] }
noncomputable def impl_TxsOf_1_r (t3 : Bool) : St := { nt := 31, tm := [(2, .v (.c (.nil))), (3, .v (.c (.bool t3)))], bx := [], bl := [] }
noncomputable def impl_TxsOf_1_e0 (xs : List D6) : St := { nt := 31, tm := [(4, .v (.c (.own 1000000 none)))], bx := [], bl := [(1000000, some ⟨89, K6, xs, true, true⟩)] }
noncomputable def impl_TxsOf_1 (st : St) : Option α := lp Tryd.prog (look impl_TxsOf_C) F impl_TxsOf_H (sub [.r, .r, .r, .l, .r, .b, .i] (codeOf Tryd.f82)) κ n st
noncomputable def impl_TxsOf_1_k : Ex → St → Option (Args [(K7, false), (.bool, false)]) := cont Tryd.prog (look impl_TxsOf_C) F impl_TxsOf_H [.r, .r, .r, .l, .r, .b] (codeOf Tryd.f82) (fin Tryd.prog Tryd.f82 [(K7, false), (.bool, false)] 2)
theorem impl_TxsOf_1_step (t12 : List ByteArray) (t13 : Int) (t14 : Int) (xs : List D6) : impl_TxsOf_1 F κ (n + 1) (impl_TxsOf_1_s t12 t13 t14 xs) = br (decide (t14 < t13)) (ck (okI t14 (t12.length : Int)) ((impl_TxOf F0 (at_ t12 t14 ByteArray.empty)).bind fun r20 => br (!r20.2.1) (κ .ret (impl_TxsOf_1_r false)) (ck (okA F xs.length [r20.1].length 32) (impl_TxsOf_1 F κ n (impl_TxsOf_1_s t12 t13 (w64 (t14 + 1)) (xs ++ [r20.1])))))) (κ (.exit 0) (impl_TxsOf_1_e0 xs)) := by kernel_rfl
theorem impl_TxsOf_1_cr (t3 : Bool) : impl_TxsOf_1_k F .ret (impl_TxsOf_1_r t3) = some ([], t3, ()) := by kernel_rfl
theorem impl_TxsOf_1_ce0 (xs : List D6) : impl_TxsOf_1_k F (.exit 0) (impl_TxsOf_1_e0 xs) = some (xs, true, ()) := by kernel_rfl
noncomputable def impl_TxsOf (s : ByteArray) : Option (Args [(K7, false), (.bool, false)]) := runF Tryd.prog (look impl_TxsOf_C) F impl_TxsOf_H Tryd.f82 [(.str, false)] [(K7, false), (.bool, false)] 2 (s, ())
theorem impl_TxsOf_eq (s : ByteArray) : impl_TxsOf F s = br (s.toList == (ByteArray.mk #[]).toList) (some ([], true, ())) ((impl_Split F0 s 44).bind fun r12 => impl_TxsOf_1 F (impl_TxsOf_1_k F) F.n (impl_TxsOf_1_s r12.1 (r12.1.length : Int) 0 [])) := by kernel_rfl
noncomputable def impl_TxsOf_con : Any := .one ⟨[(.str, false)], [(K7, false), (.bool, false)], 2, fun x => impl_TxsOf F0 x.1⟩
theorem impl_TxsOf_ok : AnyOk Tryd.prog TB 82 impl_TxsOf_con := ok1 (show AllOk Tryd.prog TB impl_TxsOf_C from ⟨impl_Split_ok, impl_TxOf_ok, trivial⟩) Tryd.func82 (by kernel_rfl) (by kernel_rfl) impl_TxsOf_H (by kernel_rfl)

/-! ### impl.Steps -/
noncomputable def impl_Steps_C : List (Nat × Any) := [(79, impl_Split_con), (80, strings_Cut_con), (81, impl_Number_con), (82, impl_TxsOf_con), (83, impl_within_con)]
noncomputable def impl_Steps_H : Nat → Option Hint := look [(9, { live := [5, 6, 31, 32, 33], mat := [(5, 87, K8)], xl := [5], rl := [2, 3] })]
noncomputable def impl_Steps_1_s (last : Int) (t31 : List ByteArray) (t32 : Int) (t33 : Int) (xs : List D8) : St := { nt := 84, tm := [(5, .v (.c (.own 1000000 none))), (6, .v (.c (.int .i64 last))), (31, .v (.c (.ro true 9 (.str) t31))), (32, .v (.c (.int .i64 t32))), (33, .v (.c (.int .i64 t33)))], bx := [], bl := [(1000000, some ⟨87, K8, xs, true, true⟩)] }
noncomputable def impl_Steps_1_r (t3 : Bool) : St := { nt := 84, tm := [(2, .v (.c (.nil))), (3, .v (.c (.bool t3)))], bx := [], bl := [] }
noncomputable def impl_Steps_1_e0 (xs : List D8) : St := { nt := 84, tm := [(5, .v (.c (.own 1000000 none)))], bx := [], bl := [(1000000, some ⟨87, K8, xs, true, true⟩)] }
noncomputable def impl_Steps_1 (st : St) : Option α := lp Tryd.prog (look impl_Steps_C) F impl_Steps_H (sub [.r, .r, .r, .r, .r, .r, .l, .r, .b, .i] (codeOf Tryd.f56)) κ n st
noncomputable def impl_Steps_1_k : Ex → St → Option (Args [(K9, false), (.bool, false)]) := cont Tryd.prog (look impl_Steps_C) F impl_Steps_H [.r, .r, .r, .r, .r, .r, .l, .r, .b] (codeOf Tryd.f56) (fin Tryd.prog Tryd.f56 [(K9, false), (.bool, false)] 2)
theorem impl_Steps_1_step (last : Int) (t31 : List ByteArray) (t32 : Int) (t33 : Int) (xs : List D8) : impl_Steps_1 F κ (n + 1) (impl_Steps_1_s last t31 t32 t33 xs) = br (decide (t33 < t32)) (ck (okI t33 (t31.length : Int)) ((strings_Cut F0 (at_ t31 t33 ByteArray.empty) (ByteArray.mk #[124])).bind fun r39 => (impl_Number F0 r39.1).bind fun r45 => (impl_TxsOf F0 r39.2.1).bind fun r50 => br (!r39.2.2.1) (κ .ret (impl_Steps_1_r false)) (br (!r45.2.1) (κ .ret (impl_Steps_1_r false)) (br (!r50.2.1) (κ .ret (impl_Steps_1_r false)) ((impl_within F0 r45.1 (w64 (last + 1)) 60).bind fun r67 => br (!r67.1) (κ .ret (impl_Steps_1_r false)) (br (decide ((r50.1.length : Int) > 2)) (κ .ret (impl_Steps_1_r false)) (ck (okA F xs.length [(r45.1, r50.1)].length 32) (impl_Steps_1 F κ n (impl_Steps_1_s r45.1 t31 t32 (w64 (t33 + 1)) (xs ++ [(r45.1, r50.1)])))))))))) (κ (.exit 0) (impl_Steps_1_e0 xs)) := by kernel_rfl
theorem impl_Steps_1_cr (t3 : Bool) : impl_Steps_1_k F .ret (impl_Steps_1_r t3) = some ([], t3, ()) := by kernel_rfl
theorem impl_Steps_1_ce0 (xs : List D8) : impl_Steps_1_k F (.exit 0) (impl_Steps_1_e0 xs) = some (xs, true, ()) := by kernel_rfl
noncomputable def impl_Steps (s : ByteArray) : Option (Args [(K9, false), (.bool, false)]) := runF Tryd.prog (look impl_Steps_C) F impl_Steps_H Tryd.f56 [(.str, false)] [(K9, false), (.bool, false)] 2 (s, ())
theorem impl_Steps_eq (s : ByteArray) : impl_Steps F s = br (s.toList == (ByteArray.mk #[]).toList) (some ([], true, ())) ((impl_Split F0 s 47).bind fun r19 => ck (okI 0 (r19.1.length : Int)) (br (!((at_ r19.1 0 ByteArray.empty).toList == (ByteArray.mk #[]).toList)) (some ([], false, ())) (br (decide ((w64 ((r19.1.length : Int) - 1)) > 30)) (some ([], false, ())) (ck (okS 1 (r19.1.length : Int) (r19.1.length : Int)) (impl_Steps_1 F (impl_Steps_1_k F) F.n (impl_Steps_1_s 0 ((r19.1.take (r19.1.length : Int).toNat).drop (1 : Int).toNat) (((r19.1.take (r19.1.length : Int).toNat).drop (1 : Int).toNat).length : Int) 0 [])))))) := by kernel_rfl
noncomputable def impl_Steps_con : Any := .one ⟨[(.str, false)], [(K9, false), (.bool, false)], 2, fun x => impl_Steps F0 x.1⟩
theorem impl_Steps_ok : AnyOk Tryd.prog TB 56 impl_Steps_con := ok1 (show AllOk Tryd.prog TB impl_Steps_C from ⟨impl_Split_ok, strings_Cut_ok, impl_Number_ok, impl_TxsOf_ok, impl_within_ok, trivial⟩) Tryd.func56 (by kernel_rfl) (by kernel_rfl) impl_Steps_H (by kernel_rfl)

/-! ### impl.LedgerNew -/
noncomputable def impl_LedgerNew_C : List (Nat × Any) := []
noncomputable def impl_LedgerNew_H : Nat → Option Hint := look [(3, { live := [0, 1, 2], matB := [(0, 0, 3, .int .i64), (0, 1, 3, .int .i64), (1, 0, 3, .int .i64)], xl := [0, 1], rl := [0] })]
noncomputable def impl_LedgerNew_1_s (i : Int) (xs : List Int) (xs1 : List Int) (xs2 : List Int) (xs3 : List Int) : St := { nt := 15, tm := [(0, .v (.c (.ptr 0 0))), (1, .v (.c (.ptr 1 0))), (2, .v (.c (.int .i64 i)))], bx := [(0, [.own 1000000 none, .own 1000001 none]), (1, [.own 1000002 none, .own 1000003 none])], bl := [(1000000, some ⟨3, .int .i64, xs, true, true⟩), (1000001, some ⟨3, .int .i64, xs1, true, true⟩), (1000002, some ⟨3, .int .i64, xs2, true, true⟩), (1000003, some ⟨3, .int .i64, xs3, true, true⟩)] }
noncomputable def impl_LedgerNew_1_e0 (xs : List Int) (xs1 : List Int) (xs2 : List Int) (xs3 : List Int) : St := { nt := 15, tm := [(0, .v (.c (.ptr 0 0))), (1, .v (.c (.ptr 1 0)))], bx := [(0, [.own 1000000 none, .own 1000001 none]), (1, [.own 1000002 none, .own 1000003 none])], bl := [(1000000, some ⟨3, .int .i64, xs, true, true⟩), (1000001, some ⟨3, .int .i64, xs1, true, true⟩), (1000002, some ⟨3, .int .i64, xs2, true, true⟩), (1000003, some ⟨3, .int .i64, xs3, true, true⟩)] }
noncomputable def impl_LedgerNew_1 (st : St) : Option α := lp Tryd.prog (look impl_LedgerNew_C) F impl_LedgerNew_H (sub [.r, .r, .l, .r, .b, .i] (codeOf Tryd.f57)) κ n st
noncomputable def impl_LedgerNew_1_k : Ex → St → Option (Args [(K1, true)]) := cont Tryd.prog (look impl_LedgerNew_C) F impl_LedgerNew_H [.r, .r, .l, .r, .b] (codeOf Tryd.f57) (fin Tryd.prog Tryd.f57 [(K1, true)] 2)
theorem impl_LedgerNew_1_step (i : Int) (xs : List Int) (xs1 : List Int) (xs2 : List Int) (xs3 : List Int) : impl_LedgerNew_1 F κ (n + 1) (impl_LedgerNew_1_s i xs xs1 xs2 xs3) = br (decide (i < 4)) (ck (okA F xs2.length [100].length 8) (impl_LedgerNew_1 F κ n (impl_LedgerNew_1_s (w64 (i + 1)) xs xs1 (xs2 ++ [100]) xs3))) (κ (.exit 0) (impl_LedgerNew_1_e0 xs xs1 xs2 xs3)) := by kernel_rfl
theorem impl_LedgerNew_1_ce0 (xs : List Int) (xs1 : List Int) (xs2 : List Int) (xs3 : List Int) : impl_LedgerNew_1_k F (.exit 0) (impl_LedgerNew_1_e0 xs xs1 xs2 xs3) = some ((xs2, xs3), ()) := by kernel_rfl
noncomputable def impl_LedgerNew  : Option (Args [(K1, true)]) := runF Tryd.prog (look impl_LedgerNew_C) F impl_LedgerNew_H Tryd.f57 [] [(K1, true)] 2 (())
theorem impl_LedgerNew_eq  : impl_LedgerNew F  = ck (okM F 4 4 8) (impl_LedgerNew_1 F (impl_LedgerNew_1_k F) F.n (impl_LedgerNew_1_s 0 [] [] [] (List.replicate (4 : Int).toNat 0))) := by kernel_rfl
noncomputable def impl_LedgerNew_con : Any := .one ⟨[], [(K1, true)], 2, fun x => impl_LedgerNew F0 ⟩
theorem impl_LedgerNew_ok : AnyOk Tryd.prog TB 57 impl_LedgerNew_con := ok1 (show AllOk Tryd.prog TB impl_LedgerNew_C from trivial) Tryd.func57 (by kernel_rfl) (by kernel_rfl) impl_LedgerNew_H (by kernel_rfl)

/-! ### impl.copyInts -/
noncomputable def impl_copyInts_C : List (Nat × Any) := []
noncomputable def impl_copyInts_H : Nat → Option Hint := look []
noncomputable def impl_copyInts (l : List Int) : Option (Args [(.sl 3 (.int .i64), false)]) := runF Tryd.prog (look impl_copyInts_C) F impl_copyInts_H Tryd.f102 [(.sl 3 (.int .i64), false)] [(.sl 3 (.int .i64), false)] 2 (l, ())
theorem impl_copyInts_eq (l : List Int) : impl_copyInts F l = ck (okA F 0 l.length 8) (some ([] ++ l, ())) := by kernel_rfl
noncomputable def impl_copyInts_con : Any := .one ⟨[(.sl 3 (.int .i64), false)], [(.sl 3 (.int .i64), false)], 2, fun x => impl_copyInts F0 x.1⟩
theorem impl_copyInts_ok : AnyOk Tryd.prog TB 102 impl_copyInts_con := ok1 (show AllOk Tryd.prog TB impl_copyInts_C from trivial) Tryd.func102 (by kernel_rfl) (by kernel_rfl) impl_copyInts_H (by kernel_rfl)

/-! ### impl.copyLedger -/
noncomputable def impl_copyLedger_C : List (Nat × Any) := [(102, impl_copyInts_con)]
noncomputable def impl_copyLedger_H : Nat → Option Hint := look []
noncomputable def impl_copyLedger (l : D1) : Option (Args [(K1, true)]) := runF Tryd.prog (look impl_copyLedger_C) F impl_copyLedger_H Tryd.f84 [(K1, true)] [(K1, true)] 2 (l, ())
theorem impl_copyLedger_eq (l : D1) : impl_copyLedger F l = (impl_copyInts F0 l.1).bind fun r5 => (impl_copyInts F0 l.2).bind fun r8 => some ((r5.1, r8.1), ()) := by kernel_rfl
noncomputable def impl_copyLedger_con : Any := .one ⟨[(K1, true)], [(K1, true)], 2, fun x => impl_copyLedger F0 x.1⟩
theorem impl_copyLedger_ok : AnyOk Tryd.prog TB 84 impl_copyLedger_con := ok1 (show AllOk Tryd.prog TB impl_copyLedger_C from ⟨impl_copyInts_ok, trivial⟩) Tryd.func84 (by kernel_rfl) (by kernel_rfl) impl_copyLedger_H (by kernel_rfl)

/-! ### impl.allWithin -/
noncomputable def impl_allWithin_C : List (Nat × Any) := [(83, impl_within_con)]
noncomputable def impl_allWithin_H : Nat → Option Hint := look [(2, { live := [1, 2, 9, 10, 11], rl := [6] })]
noncomputable def impl_allWithin_1_s (low : Int) (high : Int) (t9 : List Int) (t10 : Int) (t11 : Int) : St := { nt := 21, tm := [(1, .v (.c (.int .i64 low))), (2, .v (.c (.int .i64 high))), (9, .v (.c (.ro false 3 (.int .i64) t9))), (10, .v (.c (.int .i64 t10))), (11, .v (.c (.int .i64 t11)))], bx := [], bl := [] }
noncomputable def impl_allWithin_1_r (t6 : Bool) : St := { nt := 21, tm := [(6, .v (.c (.bool t6)))], bx := [], bl := [] }
noncomputable def impl_allWithin_1_e0  : St := { nt := 21, tm := [], bx := [], bl := [] }
noncomputable def impl_allWithin_1 (st : St) : Option α := lp Tryd.prog (look impl_allWithin_C) F impl_allWithin_H (sub [.r, .l, .r, .b, .i] (codeOf Tryd.f103)) κ n st
noncomputable def impl_allWithin_1_k : Ex → St → Option (Args [(.bool, false)]) := cont Tryd.prog (look impl_allWithin_C) F impl_allWithin_H [.r, .l, .r, .b] (codeOf Tryd.f103) (fin Tryd.prog Tryd.f103 [(.bool, false)] 1)
theorem impl_allWithin_1_step (low : Int) (high : Int) (t9 : List Int) (t10 : Int) (t11 : Int) : impl_allWithin_1 F κ (n + 1) (impl_allWithin_1_s low high t9 t10 t11) = br (decide (t11 < t10)) (ck (okI t11 (t9.length : Int)) ((impl_within F0 (at_ t9 t11 0) low high).bind fun r18 => br (!r18.1) (κ .ret (impl_allWithin_1_r false)) (impl_allWithin_1 F κ n (impl_allWithin_1_s low high t9 t10 (w64 (t11 + 1)))))) (κ (.exit 0) (impl_allWithin_1_e0 )) := by kernel_rfl
theorem impl_allWithin_1_cr (t6 : Bool) : impl_allWithin_1_k F .ret (impl_allWithin_1_r t6) = some (t6, ()) := by kernel_rfl
theorem impl_allWithin_1_ce0  : impl_allWithin_1_k F (.exit 0) (impl_allWithin_1_e0 ) = some (true, ()) := by kernel_rfl
noncomputable def impl_allWithin (list : List Int) (low : Int) (high : Int) : Option (Args [(.bool, false)]) := runF Tryd.prog (look impl_allWithin_C) F impl_allWithin_H Tryd.f103 [(.sl 3 (.int .i64), false), (.int .i64, false), (.int .i64, false)] [(.bool, false)] 1 (list, low, high, ())
theorem impl_allWithin_eq (list : List Int) (low : Int) (high : Int) : impl_allWithin F list low high = impl_allWithin_1 F (impl_allWithin_1_k F) F.n (impl_allWithin_1_s low high list (list.length : Int) 0) := by kernel_rfl
noncomputable def impl_allWithin_con : Any := .one ⟨[(.sl 3 (.int .i64), false), (.int .i64, false), (.int .i64, false)], [(.bool, false)], 1, fun x => impl_allWithin F0 x.1 x.2.1 x.2.2.1⟩
theorem impl_allWithin_ok : AnyOk Tryd.prog TB 103 impl_allWithin_con := ok1 (show AllOk Tryd.prog TB impl_allWithin_C from ⟨impl_within_ok, trivial⟩) Tryd.func103 (by kernel_rfl) (by kernel_rfl) impl_allWithin_H (by kernel_rfl)

/-! ### impl.LedgerOk -/
noncomputable def impl_LedgerOk_C : List (Nat × Any) := [(103, impl_allWithin_con)]
noncomputable def impl_LedgerOk_H : Nat → Option Hint := look []
noncomputable def impl_LedgerOk (l : D1) : Option (Args [(.bool, false)]) := runF Tryd.prog (look impl_LedgerOk_C) F impl_LedgerOk_H Tryd.f85 [(K1, true)] [(.bool, false)] 1 (l, ())
theorem impl_LedgerOk_eq (l : D1) : impl_LedgerOk F l = br ((l.1.length : Int) == 4) (br ((l.2.length : Int) == 4) ((impl_allWithin F0 l.1 0 400).bind fun r16 => br r16.1 ((impl_allWithin F0 l.2 0 100).bind fun r21 => some (r21.1, ())) (some (false, ()))) (some (false, ()))) (some (false, ())) := by kernel_rfl
noncomputable def impl_LedgerOk_con : Any := .one ⟨[(K1, true)], [(.bool, false)], 1, fun x => impl_LedgerOk F0 x.1⟩
theorem impl_LedgerOk_ok : AnyOk Tryd.prog TB 85 impl_LedgerOk_con := ok1 (show AllOk Tryd.prog TB impl_LedgerOk_C from ⟨impl_allWithin_ok, trivial⟩) Tryd.func85 (by kernel_rfl) (by kernel_rfl) impl_LedgerOk_H (by kernel_rfl)

/-! ### impl.Pay -/
noncomputable def impl_Pay_C : List (Nat × Any) := [(84, impl_copyLedger_con), (85, impl_LedgerOk_con), (86, impl_TxOk_con)]
noncomputable def impl_Pay_H : Nat → Option Hint := look []
noncomputable def impl_Pay (l : D1) (x : D6) : Option (Args [(K1, true), (.int .i64, false)]) := runF Tryd.prog (look impl_Pay_C) F impl_Pay_H Tryd.f58 [(K1, true), (K6, true)] [(K1, true), (.int .i64, false)] 2 (l, x, ())
theorem impl_Pay_eq (l : D1) (x : D6) : impl_Pay F l x = (impl_copyLedger F0 l).bind fun r8 => (impl_LedgerOk F0 l).bind fun r11 => br (!r11.1) (some (r8.1, 1, ())) ((impl_TxOk F0 x).bind fun r15 => br (!r15.1) (some (r8.1, 1, ())) (ck (okI x.1 (l.2.length : Int)) (br (decide (x.2.2.2 < (at_ l.2 x.1 0))) (some (r8.1, 2, ())) (ck (okI x.1 (l.2.length : Int)) (br (decide (x.2.2.2 > (at_ l.2 x.1 0))) (some (r8.1, 3, ())) (ck (okI x.1 (r8.1.2.length : Int)) (ck (okI x.1 (r8.1.2.length : Int)) (ck (okI x.1 (l.1.length : Int)) (br (decide (x.2.2.1 > (at_ l.1 x.1 0))) (some ((r8.1.1, r8.1.2.set x.1.toNat (w64 ((at_ r8.1.2 x.1 0) + 1))), 4, ())) (ck (okI x.1 (r8.1.1.length : Int)) (ck (okI x.1 (r8.1.1.length : Int)) (ck (okI x.2.1 ((r8.1.1.set x.1.toNat (w64 ((at_ r8.1.1 x.1 0) - x.2.2.1))).length : Int)) (ck (okI x.2.1 ((r8.1.1.set x.1.toNat (w64 ((at_ r8.1.1 x.1 0) - x.2.2.1))).length : Int)) ((impl_LedgerOk F0 ((r8.1.1.set x.1.toNat (w64 ((at_ r8.1.1 x.1 0) - x.2.2.1))).set x.2.1.toNat (w64 ((at_ (r8.1.1.set x.1.toNat (w64 ((at_ r8.1.1 x.1 0) - x.2.2.1))) x.2.1 0) + x.2.2.1)), r8.1.2.set x.1.toNat (w64 ((at_ r8.1.2 x.1 0) + 1)))).bind fun r80 => br (!r80.1) ((impl_copyLedger F0 l).bind fun r83 => some (r83.1, 1, ())) (some (((r8.1.1.set x.1.toNat (w64 ((at_ r8.1.1 x.1 0) - x.2.2.1))).set x.2.1.toNat (w64 ((at_ (r8.1.1.set x.1.toNat (w64 ((at_ r8.1.1 x.1 0) - x.2.2.1))) x.2.1 0) + x.2.2.1)), r8.1.2.set x.1.toNat (w64 ((at_ r8.1.2 x.1 0) + 1))), 0, ())))))))))))))))) := by kernel_rfl
noncomputable def impl_Pay_con : Any := .one ⟨[(K1, true), (K6, true)], [(K1, true), (.int .i64, false)], 2, fun x => impl_Pay F0 x.1 x.2.1⟩
theorem impl_Pay_ok : AnyOk Tryd.prog TB 58 impl_Pay_con := ok1 (show AllOk Tryd.prog TB impl_Pay_C from ⟨impl_copyLedger_ok, impl_LedgerOk_ok, impl_TxOk_ok, trivial⟩) Tryd.func58 (by kernel_rfl) (by kernel_rfl) impl_Pay_H (by kernel_rfl)

/-! ### impl.paid -/
noncomputable def impl_paid_C : List (Nat × Any) := []
noncomputable def impl_paid_H : Nat → Option Hint := look []
noncomputable def impl_paid (code : Int) : Option (Args [(.bool, false)]) := runF Tryd.prog (look impl_paid_C) F impl_paid_H Tryd.f59 [(.int .i64, false)] [(.bool, false)] 1 (code, ())
theorem impl_paid_eq (code : Int) : impl_paid F code = br (code == 0) (some (true, ())) (some ((code == 4), ())) := by kernel_rfl
noncomputable def impl_paid_con : Any := .one ⟨[(.int .i64, false)], [(.bool, false)], 1, fun x => impl_paid F0 x.1⟩
theorem impl_paid_ok : AnyOk Tryd.prog TB 59 impl_paid_con := ok1 (show AllOk Tryd.prog TB impl_paid_C from trivial) Tryd.func59 (by kernel_rfl) (by kernel_rfl) impl_paid_H (by kernel_rfl)

/-! ### impl.ReceiptOf -/
noncomputable def impl_ReceiptOf_C : List (Nat × Any) := [(56, impl_Steps_con), (57, impl_LedgerNew_con), (58, impl_Pay_con), (59, impl_paid_con)]
noncomputable def impl_ReceiptOf_H : Nat → Option Hint := look [(4, { live := [1, 2, 6, 9, 22, 23, 24], xl := [6], rl := [6] }), (7, { live := [1, 2, 6, 9, 10, 22, 23, 24, 30, 31, 32], xl := [1, 2, 6, 9, 22, 23, 24], rl := [6] })]
noncomputable def impl_ReceiptOf_2_s (from1 : Int) (nonce : Int) (i : Int) (t23 : Int) (t24 : Int) (t30 : List D6) (t31 : Int) (t32 : Int) (t6 : Int) (t61 : Int) (xs : List D8) (xs1 : List Int) (xs2 : List Int) : St := { nt := 64, tm := [(1, .v (.c (.int .i64 from1))), (2, .v (.c (.int .i64 nonce))), (6, .v (.c (.ptr 6 0))), (9, .v (.c (.ptr 9 0))), (10, .v (.c (.int .i64 i))), (22, .v (.c (.own 1000000 none))), (23, .v (.c (.int .i64 t23))), (24, .v (.c (.int .i64 t24))), (30, .v (.c (.ro true 89 (K6) t30))), (31, .v (.c (.int .i64 t31))), (32, .v (.c (.int .i64 t32)))], bx := [(6, [.int .i64 t6, .int .i64 t61]), (9, [.own 1000001 none, .own 1000002 none])], bl := [(1000000, some ⟨87, K8, xs, true, true⟩), (1000001, some ⟨3, .int .i64, xs1, true, true⟩), (1000002, some ⟨3, .int .i64, xs2, true, true⟩)] }
noncomputable def impl_ReceiptOf_2_r (t6 : Int) (t61 : Int) : St := { nt := 64, tm := [(6, .v (.c (.ptr 6 0)))], bx := [(6, [.int .i64 t6, .int .i64 t61])], bl := [] }
noncomputable def impl_ReceiptOf_2_e2 (from1 : Int) (nonce : Int) (t23 : Int) (t24 : Int) (t6 : Int) (t61 : Int) (xs : List D8) (xs1 : List Int) (xs2 : List Int) : St := { nt := 64, tm := [(1, .v (.c (.int .i64 from1))), (2, .v (.c (.int .i64 nonce))), (6, .v (.c (.ptr 6 0))), (9, .v (.c (.ptr 9 0))), (22, .v (.c (.own 1000000 none))), (23, .v (.c (.int .i64 t23))), (24, .v (.c (.int .i64 t24)))], bx := [(6, [.int .i64 t6, .int .i64 t61]), (9, [.own 1000001 none, .own 1000002 none])], bl := [(1000000, some ⟨87, K8, xs, true, true⟩), (1000001, some ⟨3, .int .i64, xs1, true, true⟩), (1000002, some ⟨3, .int .i64, xs2, true, true⟩)] }
noncomputable def impl_ReceiptOf_2 (st : St) : Option α := lp Tryd.prog (look impl_ReceiptOf_C) F impl_ReceiptOf_H (sub [.r, .r, .r, .l, .r, .b, .i, .r, .r, .l, .b, .r, .r, .b, .i] (codeOf Tryd.f30)) κ n st
noncomputable def impl_ReceiptOf_2_k : Ex → St → Option α := cont Tryd.prog (look impl_ReceiptOf_C) F impl_ReceiptOf_H [.r, .r, .l, .b, .r, .r, .b] (sub [.r, .r, .r, .l, .r, .b, .i] (codeOf Tryd.f30)) (itk Tryd.prog (look impl_ReceiptOf_C) F impl_ReceiptOf_H (sub [.r, .r, .r, .l, .r, .b, .i] (codeOf Tryd.f30)) κ n)
noncomputable def impl_ReceiptOf_1_s (from1 : Int) (nonce : Int) (t23 : Int) (t24 : Int) (t6 : Int) (t61 : Int) (xs : List D8) (xs1 : List Int) (xs2 : List Int) : St := { nt := 64, tm := [(1, .v (.c (.int .i64 from1))), (2, .v (.c (.int .i64 nonce))), (6, .v (.c (.ptr 6 0))), (9, .v (.c (.ptr 9 0))), (22, .v (.c (.own 1000000 none))), (23, .v (.c (.int .i64 t23))), (24, .v (.c (.int .i64 t24)))], bx := [(6, [.int .i64 t6, .int .i64 t61]), (9, [.own 1000001 none, .own 1000002 none])], bl := [(1000000, some ⟨87, K8, xs, true, true⟩), (1000001, some ⟨3, .int .i64, xs1, true, true⟩), (1000002, some ⟨3, .int .i64, xs2, true, true⟩)] }
noncomputable def impl_ReceiptOf_1_r (t6 : Int) (t61 : Int) : St := { nt := 64, tm := [(6, .v (.c (.ptr 6 0)))], bx := [(6, [.int .i64 t6, .int .i64 t61])], bl := [] }
noncomputable def impl_ReceiptOf_1_e0 (t6 : Int) (t61 : Int) : St := { nt := 64, tm := [(6, .v (.c (.ptr 6 0)))], bx := [(6, [.int .i64 t6, .int .i64 t61])], bl := [] }
noncomputable def impl_ReceiptOf_1 (st : St) : Option α := lp Tryd.prog (look impl_ReceiptOf_C) F impl_ReceiptOf_H (sub [.r, .r, .r, .l, .r, .b, .i] (codeOf Tryd.f30)) κ n st
noncomputable def impl_ReceiptOf_1_k : Ex → St → Option (Args [(K4, true)]) := cont Tryd.prog (look impl_ReceiptOf_C) F impl_ReceiptOf_H [.r, .r, .r, .l, .r, .b] (codeOf Tryd.f30) (fin Tryd.prog Tryd.f30 [(K4, true)] 1)
theorem impl_ReceiptOf_2_step (from1 : Int) (nonce : Int) (i : Int) (t23 : Int) (t24 : Int) (t30 : List D6) (t31 : Int) (t32 : Int) (t6 : Int) (t61 : Int) (xs : List D8) (xs1 : List Int) (xs2 : List Int) : impl_ReceiptOf_2 F κ (n + 1) (impl_ReceiptOf_2_s from1 nonce i t23 t24 t30 t31 t32 t6 t61 xs xs1 xs2) = br (decide (t32 < t31)) (ck (okI t32 (t30.length : Int)) ((impl_Pay F0 (xs1, xs2) ((at_ t30 t32 (0, (0, (0, 0)))).1, ((at_ t30 t32 (0, (0, (0, 0)))).2.1, ((at_ t30 t32 (0, (0, (0, 0)))).2.2.1, (at_ t30 t32 (0, (0, (0, 0)))).2.2.2)))).bind fun r39 => br ((at_ t30 t32 (0, (0, (0, 0)))).1 == from1) (br ((at_ t30 t32 (0, (0, (0, 0)))).2.2.2 == nonce) ((impl_paid F0 r39.2.1).bind fun r55 => br r55.1 (κ .ret (impl_ReceiptOf_2_r r39.2.1 (w64 (i + 1)))) (impl_ReceiptOf_2 F κ n (impl_ReceiptOf_2_s from1 nonce i t23 t24 t30 t31 (w64 (t32 + 1)) t6 t61 xs r39.1.1 r39.1.2))) (impl_ReceiptOf_2 F κ n (impl_ReceiptOf_2_s from1 nonce i t23 t24 t30 t31 (w64 (t32 + 1)) t6 t61 xs r39.1.1 r39.1.2))) (impl_ReceiptOf_2 F κ n (impl_ReceiptOf_2_s from1 nonce i t23 t24 t30 t31 (w64 (t32 + 1)) t6 t61 xs r39.1.1 r39.1.2)))) (κ (.exit 2) (impl_ReceiptOf_2_e2 from1 nonce t23 t24 t6 t61 xs xs1 xs2)) := by kernel_rfl
theorem impl_ReceiptOf_1_step (from1 : Int) (nonce : Int) (t23 : Int) (t24 : Int) (t6 : Int) (t61 : Int) (xs : List D8) (xs1 : List Int) (xs2 : List Int) : impl_ReceiptOf_1 F κ (n + 1) (impl_ReceiptOf_1_s from1 nonce t23 t24 t6 t61 xs xs1 xs2) = br (decide (t24 < t23)) (ck (okI t24 (xs.length : Int)) (impl_ReceiptOf_2 F (impl_ReceiptOf_2_k F κ n) F.n (impl_ReceiptOf_2_s from1 nonce t24 t23 t24 (at_ xs t24 (0, [])).2 ((at_ xs t24 (0, [])).2.length : Int) 0 t6 t61 xs xs1 xs2))) (κ (.exit 0) (impl_ReceiptOf_1_e0 t6 t61)) := by kernel_rfl
theorem impl_ReceiptOf_2_cr (t6 : Int) (t61 : Int) : impl_ReceiptOf_2_k F κ n .ret (impl_ReceiptOf_2_r t6 t61) = κ .ret (impl_ReceiptOf_1_r t6 t61) := by kernel_rfl
theorem impl_ReceiptOf_2_ce2 (from1 : Int) (nonce : Int) (t23 : Int) (t24 : Int) (t6 : Int) (t61 : Int) (xs : List D8) (xs1 : List Int) (xs2 : List Int) : impl_ReceiptOf_2_k F κ n (.exit 2) (impl_ReceiptOf_2_e2 from1 nonce t23 t24 t6 t61 xs xs1 xs2) = impl_ReceiptOf_1 F κ n (impl_ReceiptOf_1_s from1 nonce t23 (w64 (t24 + 1)) t6 t61 xs xs1 xs2) := by kernel_rfl
theorem impl_ReceiptOf_1_cr (t6 : Int) (t61 : Int) : impl_ReceiptOf_1_k F .ret (impl_ReceiptOf_1_r t6 t61) = some ((t6, t61), ()) := by kernel_rfl
theorem impl_ReceiptOf_1_ce0 (t6 : Int) (t61 : Int) : impl_ReceiptOf_1_k F (.exit 0) (impl_ReceiptOf_1_e0 t6 t61) = some ((9, 0), ()) := by kernel_rfl
noncomputable def impl_ReceiptOf (name : ByteArray) (from1 : Int) (nonce : Int) : Option (Args [(K4, true)]) := runF Tryd.prog (look impl_ReceiptOf_C) F impl_ReceiptOf_H Tryd.f30 [(.str, false), (.int .i64, false), (.int .i64, false)] [(K4, true)] 1 (name, from1, nonce, ())
theorem impl_ReceiptOf_eq (name : ByteArray) (from1 : Int) (nonce : Int) : impl_ReceiptOf F name from1 nonce = (impl_Steps F0 name).bind fun r18 => (impl_LedgerNew F0 ).bind fun r21 => impl_ReceiptOf_1 F (impl_ReceiptOf_1_k F) F.n (impl_ReceiptOf_1_s from1 nonce (r18.1.length : Int) 0 0 0 r18.1 r21.1.1 r21.1.2) := by kernel_rfl
noncomputable def impl_ReceiptOf_con : Any := .one ⟨[(.str, false), (.int .i64, false), (.int .i64, false)], [(K4, true)], 1, fun x => impl_ReceiptOf F0 x.1 x.2.1 x.2.2.1⟩
theorem impl_ReceiptOf_ok : AnyOk Tryd.prog TB 30 impl_ReceiptOf_con := ok1 (show AllOk Tryd.prog TB impl_ReceiptOf_C from ⟨impl_Steps_ok, impl_LedgerNew_ok, impl_Pay_ok, impl_paid_ok, trivial⟩) Tryd.func30 (by kernel_rfl) (by kernel_rfl) impl_ReceiptOf_H (by kernel_rfl)

/-! ### laws.eqReceipt -/
noncomputable def laws_eqReceipt_C : List (Nat × Any) := []
noncomputable def laws_eqReceipt_H : Nat → Option Hint := look []
noncomputable def laws_eqReceipt (a : D4) (b : D4) : Option (Args [(.bool, false)]) := runF Tryd.prog (look laws_eqReceipt_C) F laws_eqReceipt_H Tryd.f31 [(K4, true), (K4, true)] [(.bool, false)] 1 (a, b, ())
theorem laws_eqReceipt_eq (a : D4) (b : D4) : laws_eqReceipt F a b = br (a.1 != b.1) (some (false, ())) (br (a.2 != b.2) (some (false, ())) (some (true, ()))) := by kernel_rfl
noncomputable def laws_eqReceipt_con : Any := .one ⟨[(K4, true), (K4, true)], [(.bool, false)], 1, fun x => laws_eqReceipt F0 x.1 x.2.1⟩
theorem laws_eqReceipt_ok : AnyOk Tryd.prog TB 31 laws_eqReceipt_con := ok1 (show AllOk Tryd.prog TB laws_eqReceipt_C from trivial) Tryd.func31 (by kernel_rfl) (by kernel_rfl) laws_eqReceipt_H (by kernel_rfl)

/-! ### laws.FnExactReceiptOf -/
noncomputable def laws_FnExactReceiptOf_C : List (Nat × Any) := [(29, spec_ReceiptOf_con), (30, impl_ReceiptOf_con), (31, laws_eqReceipt_con)]
noncomputable def laws_FnExactReceiptOf_H : Nat → Option Hint := look []
noncomputable def laws_FnExactReceiptOf (aName : ByteArray) (aFrom : Int) (aNonce : Int) : Option (Args [(.bool, false)]) := runF Tryd.prog (look laws_FnExactReceiptOf_C) F laws_FnExactReceiptOf_H Tryd.f7 [(.str, false), (.int .i64, false), (.int .i64, false)] [(.bool, false)] 1 (aName, aFrom, aNonce, ())
theorem laws_FnExactReceiptOf_eq (aName : ByteArray) (aFrom : Int) (aNonce : Int) : laws_FnExactReceiptOf F aName aFrom aNonce = br (decide ((aName.size : Int) > 1048576)) (some (true, ())) ((spec_ReceiptOf F0 aName aFrom aNonce).bind fun r15 => (impl_ReceiptOf F0 aName aFrom aNonce).bind fun r19 => (laws_eqReceipt F0 r19.1 r15.1).bind fun r22 => br (!r22.1) (some (false, ())) (some (true, ()))) := by kernel_rfl
noncomputable def laws_FnExactReceiptOf_con : Any := .one ⟨[(.str, false), (.int .i64, false), (.int .i64, false)], [(.bool, false)], 1, fun x => laws_FnExactReceiptOf F0 x.1 x.2.1 x.2.2.1⟩
theorem laws_FnExactReceiptOf_ok : AnyOk Tryd.prog TB 7 laws_FnExactReceiptOf_con := ok1 (show AllOk Tryd.prog TB laws_FnExactReceiptOf_C from ⟨spec_ReceiptOf_ok, impl_ReceiptOf_ok, laws_eqReceipt_ok, trivial⟩) Tryd.func7 (by kernel_rfl) (by kernel_rfl) laws_FnExactReceiptOf_H (by kernel_rfl)

/-! ### laws.szTxS -/
noncomputable def laws_szTxS_C : List (Nat × Any) := []
noncomputable def laws_szTxS_H : Nat → Option Hint := look []
noncomputable def laws_szTxS (a : D10) (left : Int) : Option (Args [(.int .i64, false)]) := runF Tryd.prog (look laws_szTxS_C) F laws_szTxS_H Tryd.f32 [(K10, false), (.int .i64, false)] [(.int .i64, false)] 1 (a, left, ())
theorem laws_szTxS_eq (a : D10) (left : Int) : laws_szTxS F a left = br (decide ((w64 (left - (a.length : Int))) < 0)) (some ((-1), ())) (some (w64 (left - (a.length : Int)), ())) := by kernel_rfl
noncomputable def laws_szTxS_con : Any := .one ⟨[(K10, false), (.int .i64, false)], [(.int .i64, false)], 1, fun x => laws_szTxS F0 x.1 x.2.1⟩
theorem laws_szTxS_ok : AnyOk Tryd.prog TB 32 laws_szTxS_con := ok1 (show AllOk Tryd.prog TB laws_szTxS_C from trivial) Tryd.func32 (by kernel_rfl) (by kernel_rfl) laws_szTxS_H (by kernel_rfl)

/-! ### laws.toTx -/
noncomputable def laws_toTx_C : List (Nat × Any) := []
noncomputable def laws_toTx_H : Nat → Option Hint := look []
noncomputable def laws_toTx (a : D6) : Option (Args [(K6, true)]) := runF Tryd.prog (look laws_toTx_C) F laws_toTx_H Tryd.f60 [(K6, true)] [(K6, true)] 1 (a, ())
theorem laws_toTx_eq (a : D6) : laws_toTx F a = some (a, ()) := by kernel_rfl
noncomputable def laws_toTx_con : Any := .one ⟨[(K6, true)], [(K6, true)], 1, fun x => laws_toTx F0 x.1⟩
theorem laws_toTx_ok : AnyOk Tryd.prog TB 60 laws_toTx_con := ok1 (show AllOk Tryd.prog TB laws_toTx_C from trivial) Tryd.func60 (by kernel_rfl) (by kernel_rfl) laws_toTx_H (by kernel_rfl)

/-! ### laws.toTxS -/
noncomputable def laws_toTxS_C : List (Nat × Any) := [(60, laws_toTx_con)]
noncomputable def laws_toTxS_H : Nat → Option Hint := look [(3, { live := [0, 3, 4], xl := [3], rl := [2] })]
noncomputable def laws_toTxS_1_s (a : List D6) (i : Int) (xs : List D6) : St := { nt := 23, tm := [(0, .v (.c (.ro false 94 (K6) a))), (3, .v (.c (.own 1000000 none))), (4, .v (.c (.int .i64 i)))], bx := [], bl := [(1000000, some ⟨89, K6, xs, true, true⟩)] }
noncomputable def laws_toTxS_1_e0 (xs : List D6) : St := { nt := 23, tm := [(3, .v (.c (.own 1000000 none)))], bx := [], bl := [(1000000, some ⟨89, K6, xs, true, true⟩)] }
noncomputable def laws_toTxS_1 (st : St) : Option α := lp Tryd.prog (look laws_toTxS_C) F laws_toTxS_H (sub [.r, .r, .l, .r, .b, .i] (codeOf Tryd.f34)) κ n st
noncomputable def laws_toTxS_1_k : Ex → St → Option (Args [(K7, false)]) := cont Tryd.prog (look laws_toTxS_C) F laws_toTxS_H [.r, .r, .l, .r, .b] (codeOf Tryd.f34) (fin Tryd.prog Tryd.f34 [(K7, false)] 2)
theorem laws_toTxS_1_step (a : List D6) (i : Int) (xs : List D6) : laws_toTxS_1 F κ (n + 1) (laws_toTxS_1_s a i xs) = br (decide (i < (a.length : Int))) (ck (okI i (a.length : Int)) ((laws_toTx F0 ((at_ a i (0, (0, (0, 0)))).1, ((at_ a i (0, (0, (0, 0)))).2.1, ((at_ a i (0, (0, (0, 0)))).2.2.1, (at_ a i (0, (0, (0, 0)))).2.2.2)))).bind fun r20 => ck (okI i (xs.length : Int)) (laws_toTxS_1 F κ n (laws_toTxS_1_s a (w64 (i + 1)) (xs.set i.toNat r20.1))))) (κ (.exit 0) (laws_toTxS_1_e0 xs)) := by kernel_rfl
theorem laws_toTxS_1_ce0 (xs : List D6) : laws_toTxS_1_k F (.exit 0) (laws_toTxS_1_e0 xs) = some (xs, ()) := by kernel_rfl
noncomputable def laws_toTxS (a : D10) : Option (Args [(K7, false)]) := runF Tryd.prog (look laws_toTxS_C) F laws_toTxS_H Tryd.f34 [(K10, false)] [(K7, false)] 2 (a, ())
theorem laws_toTxS_eq (a : D10) : laws_toTxS F a = ck (okM F (a.length : Int) (a.length : Int) 32) (laws_toTxS_1 F (laws_toTxS_1_k F) F.n (laws_toTxS_1_s a 0 (List.replicate (a.length : Int).toNat (0, (0, (0, 0)))))) := by kernel_rfl
noncomputable def laws_toTxS_con : Any := .one ⟨[(K10, false)], [(K7, false)], 2, fun x => laws_toTxS F0 x.1⟩
theorem laws_toTxS_ok : AnyOk Tryd.prog TB 34 laws_toTxS_con := ok1 (show AllOk Tryd.prog TB laws_toTxS_C from ⟨laws_toTx_ok, trivial⟩) Tryd.func34 (by kernel_rfl) (by kernel_rfl) laws_toTxS_H (by kernel_rfl)

/-! ### spec.Receipts -/
noncomputable def spec_Receipts_C : List (Nat × Any) := [(29, spec_ReceiptOf_con)]
noncomputable def spec_Receipts_H : Nat → Option Hint := look [(3, { live := [0, 1, 5, 6], xl := [5], rl := [4] })]
noncomputable def spec_Receipts_1_s (name : ByteArray) (list : List D6) (i : Int) (xs : List D4) : St := { nt := 30, tm := [(0, .v (.c (.str name))), (1, .v (.c (.ro false 89 (K6) list))), (5, .v (.c (.own 1000000 none))), (6, .v (.c (.int .i64 i)))], bx := [], bl := [(1000000, some ⟨51, K4, xs, true, true⟩)] }
noncomputable def spec_Receipts_1_e0 (xs : List D4) : St := { nt := 30, tm := [(5, .v (.c (.own 1000000 none)))], bx := [], bl := [(1000000, some ⟨51, K4, xs, true, true⟩)] }
noncomputable def spec_Receipts_1 (st : St) : Option α := lp Tryd.prog (look spec_Receipts_C) F spec_Receipts_H (sub [.r, .r, .l, .r, .b, .i] (codeOf Tryd.f33)) κ n st
noncomputable def spec_Receipts_1_k : Ex → St → Option (Args [(K11, false)]) := cont Tryd.prog (look spec_Receipts_C) F spec_Receipts_H [.r, .r, .l, .r, .b] (codeOf Tryd.f33) (fin Tryd.prog Tryd.f33 [(K11, false)] 2)
theorem spec_Receipts_1_step (name : ByteArray) (list : List D6) (i : Int) (xs : List D4) : spec_Receipts_1 F κ (n + 1) (spec_Receipts_1_s name list i xs) = br (decide (i < (list.length : Int))) (ck (okI i (list.length : Int)) (ck (okI i (list.length : Int)) ((spec_ReceiptOf F0 name (at_ list i (0, (0, (0, 0)))).1 (at_ list i (0, (0, (0, 0)))).2.2.2).bind fun r26 => ck (okA F xs.length [r26.1].length 16) (spec_Receipts_1 F κ n (spec_Receipts_1_s name list (w64 (i + 1)) (xs ++ [r26.1])))))) (κ (.exit 0) (spec_Receipts_1_e0 xs)) := by kernel_rfl
theorem spec_Receipts_1_ce0 (xs : List D4) : spec_Receipts_1_k F (.exit 0) (spec_Receipts_1_e0 xs) = some (xs, ()) := by kernel_rfl
noncomputable def spec_Receipts (name : ByteArray) (list : D7) : Option (Args [(K11, false)]) := runF Tryd.prog (look spec_Receipts_C) F spec_Receipts_H Tryd.f33 [(.str, false), (K7, false)] [(K11, false)] 2 (name, list, ())
theorem spec_Receipts_eq (name : ByteArray) (list : D7) : spec_Receipts F name list = spec_Receipts_1 F (spec_Receipts_1_k F) F.n (spec_Receipts_1_s name list 0 []) := by kernel_rfl
noncomputable def spec_Receipts_con : Any := .one ⟨[(.str, false), (K7, false)], [(K11, false)], 2, fun x => spec_Receipts F0 x.1 x.2.1⟩
theorem spec_Receipts_ok : AnyOk Tryd.prog TB 33 spec_Receipts_con := ok1 (show AllOk Tryd.prog TB spec_Receipts_C from ⟨spec_ReceiptOf_ok, trivial⟩) Tryd.func33 (by kernel_rfl) (by kernel_rfl) spec_Receipts_H (by kernel_rfl)

/-! ### impl.Receipts -/
noncomputable def impl_Receipts_C : List (Nat × Any) := [(30, impl_ReceiptOf_con)]
noncomputable def impl_Receipts_H : Nat → Option Hint := look [(3, { live := [0, 5, 8, 9, 10], mat := [(5, 51, K4)], xl := [5], rl := [4] })]
noncomputable def impl_Receipts_1_s (name : ByteArray) (t8 : List D6) (t9 : Int) (t10 : Int) (xs : List D4) : St := { nt := 25, tm := [(0, .v (.c (.str name))), (5, .v (.c (.own 1000000 none))), (8, .v (.c (.ro false 89 (K6) t8))), (9, .v (.c (.int .i64 t9))), (10, .v (.c (.int .i64 t10)))], bx := [], bl := [(1000000, some ⟨51, K4, xs, true, true⟩)] }
noncomputable def impl_Receipts_1_e0 (xs : List D4) : St := { nt := 25, tm := [(5, .v (.c (.own 1000000 none)))], bx := [], bl := [(1000000, some ⟨51, K4, xs, true, true⟩)] }
noncomputable def impl_Receipts_1 (st : St) : Option α := lp Tryd.prog (look impl_Receipts_C) F impl_Receipts_H (sub [.r, .r, .l, .r, .b, .i] (codeOf Tryd.f35)) κ n st
noncomputable def impl_Receipts_1_k : Ex → St → Option (Args [(K11, false)]) := cont Tryd.prog (look impl_Receipts_C) F impl_Receipts_H [.r, .r, .l, .r, .b] (codeOf Tryd.f35) (fin Tryd.prog Tryd.f35 [(K11, false)] 2)
theorem impl_Receipts_1_step (name : ByteArray) (t8 : List D6) (t9 : Int) (t10 : Int) (xs : List D4) : impl_Receipts_1 F κ (n + 1) (impl_Receipts_1_s name t8 t9 t10 xs) = br (decide (t10 < t9)) (ck (okI t10 (t8.length : Int)) ((impl_ReceiptOf F0 name (at_ t8 t10 (0, (0, (0, 0)))).1 (at_ t8 t10 (0, (0, (0, 0)))).2.2.2).bind fun r20 => ck (okA F xs.length [r20.1].length 16) (impl_Receipts_1 F κ n (impl_Receipts_1_s name t8 t9 (w64 (t10 + 1)) (xs ++ [r20.1]))))) (κ (.exit 0) (impl_Receipts_1_e0 xs)) := by kernel_rfl
theorem impl_Receipts_1_ce0 (xs : List D4) : impl_Receipts_1_k F (.exit 0) (impl_Receipts_1_e0 xs) = some (xs, ()) := by kernel_rfl
noncomputable def impl_Receipts (name : ByteArray) (list : D7) : Option (Args [(K11, false)]) := runF Tryd.prog (look impl_Receipts_C) F impl_Receipts_H Tryd.f35 [(.str, false), (K7, false)] [(K11, false)] 2 (name, list, ())
theorem impl_Receipts_eq (name : ByteArray) (list : D7) : impl_Receipts F name list = impl_Receipts_1 F (impl_Receipts_1_k F) F.n (impl_Receipts_1_s name list (list.length : Int) 0 []) := by kernel_rfl
noncomputable def impl_Receipts_con : Any := .one ⟨[(.str, false), (K7, false)], [(K11, false)], 2, fun x => impl_Receipts F0 x.1 x.2.1⟩
theorem impl_Receipts_ok : AnyOk Tryd.prog TB 35 impl_Receipts_con := ok1 (show AllOk Tryd.prog TB impl_Receipts_C from ⟨impl_ReceiptOf_ok, trivial⟩) Tryd.func35 (by kernel_rfl) (by kernel_rfl) impl_Receipts_H (by kernel_rfl)

/-! ### laws.eqReceiptS -/
noncomputable def laws_eqReceiptS_C : List (Nat × Any) := [(31, laws_eqReceipt_con)]
noncomputable def laws_eqReceiptS_H : Nat → Option Hint := look [(4, { live := [0, 1, 5], rl := [4] })]
noncomputable def laws_eqReceiptS_1_s (a : List D4) (b : List D4) (i : Int) : St := { nt := 27, tm := [(0, .v (.c (.ro false 51 (K4) a))), (1, .v (.c (.ro false 51 (K4) b))), (5, .v (.c (.int .i64 i)))], bx := [], bl := [] }
noncomputable def laws_eqReceiptS_1_r (t4 : Bool) : St := { nt := 27, tm := [(4, .v (.c (.bool t4)))], bx := [], bl := [] }
noncomputable def laws_eqReceiptS_1_e0  : St := { nt := 27, tm := [], bx := [], bl := [] }
noncomputable def laws_eqReceiptS_1 (st : St) : Option α := lp Tryd.prog (look laws_eqReceiptS_C) F laws_eqReceiptS_H (sub [.r, .r, .l, .r, .b, .i] (codeOf Tryd.f36)) κ n st
noncomputable def laws_eqReceiptS_1_k : Ex → St → Option (Args [(.bool, false)]) := cont Tryd.prog (look laws_eqReceiptS_C) F laws_eqReceiptS_H [.r, .r, .l, .r, .b] (codeOf Tryd.f36) (fin Tryd.prog Tryd.f36 [(.bool, false)] 1)
theorem laws_eqReceiptS_1_step (a : List D4) (b : List D4) (i : Int) : laws_eqReceiptS_1 F κ (n + 1) (laws_eqReceiptS_1_s a b i) = br (decide (i < (a.length : Int))) (ck (okI i (a.length : Int)) (ck (okI i (b.length : Int)) ((laws_eqReceipt F0 (at_ a i (0, 0)) (at_ b i (0, 0))).bind fun r25 => br (!r25.1) (κ .ret (laws_eqReceiptS_1_r false)) (laws_eqReceiptS_1 F κ n (laws_eqReceiptS_1_s a b (w64 (i + 1))))))) (κ (.exit 0) (laws_eqReceiptS_1_e0 )) := by kernel_rfl
theorem laws_eqReceiptS_1_cr (t4 : Bool) : laws_eqReceiptS_1_k F .ret (laws_eqReceiptS_1_r t4) = some (t4, ()) := by kernel_rfl
theorem laws_eqReceiptS_1_ce0  : laws_eqReceiptS_1_k F (.exit 0) (laws_eqReceiptS_1_e0 ) = some (true, ()) := by kernel_rfl
noncomputable def laws_eqReceiptS (a : D11) (b : D11) : Option (Args [(.bool, false)]) := runF Tryd.prog (look laws_eqReceiptS_C) F laws_eqReceiptS_H Tryd.f36 [(K11, false), (K11, false)] [(.bool, false)] 1 (a, b, ())
theorem laws_eqReceiptS_eq (a : D11) (b : D11) : laws_eqReceiptS F a b = br ((a.length : Int) != (b.length : Int)) (some (false, ())) (laws_eqReceiptS_1 F (laws_eqReceiptS_1_k F) F.n (laws_eqReceiptS_1_s a b 0)) := by kernel_rfl
noncomputable def laws_eqReceiptS_con : Any := .one ⟨[(K11, false), (K11, false)], [(.bool, false)], 1, fun x => laws_eqReceiptS F0 x.1 x.2.1⟩
theorem laws_eqReceiptS_ok : AnyOk Tryd.prog TB 36 laws_eqReceiptS_con := ok1 (show AllOk Tryd.prog TB laws_eqReceiptS_C from ⟨laws_eqReceipt_ok, trivial⟩) Tryd.func36 (by kernel_rfl) (by kernel_rfl) laws_eqReceiptS_H (by kernel_rfl)

/-! ### laws.eqTx -/
noncomputable def laws_eqTx_C : List (Nat × Any) := []
noncomputable def laws_eqTx_H : Nat → Option Hint := look []
noncomputable def laws_eqTx (a : D6) (b : D6) : Option (Args [(.bool, false)]) := runF Tryd.prog (look laws_eqTx_C) F laws_eqTx_H Tryd.f61 [(K6, true), (K6, true)] [(.bool, false)] 1 (a, b, ())
theorem laws_eqTx_eq (a : D6) (b : D6) : laws_eqTx F a b = br (a.1 != b.1) (some (false, ())) (br (a.2.1 != b.2.1) (some (false, ())) (br (a.2.2.1 != b.2.2.1) (some (false, ())) (br (a.2.2.2 != b.2.2.2) (some (false, ())) (some (true, ()))))) := by kernel_rfl
noncomputable def laws_eqTx_con : Any := .one ⟨[(K6, true), (K6, true)], [(.bool, false)], 1, fun x => laws_eqTx F0 x.1 x.2.1⟩
theorem laws_eqTx_ok : AnyOk Tryd.prog TB 61 laws_eqTx_con := ok1 (show AllOk Tryd.prog TB laws_eqTx_C from trivial) Tryd.func61 (by kernel_rfl) (by kernel_rfl) laws_eqTx_H (by kernel_rfl)

/-! ### laws.eqTxS -/
noncomputable def laws_eqTxS_C : List (Nat × Any) := [(61, laws_eqTx_con)]
noncomputable def laws_eqTxS_H : Nat → Option Hint := look [(4, { live := [0, 1, 5], rl := [4] })]
noncomputable def laws_eqTxS_1_s (a : List D6) (b : List D6) (i : Int) : St := { nt := 27, tm := [(0, .v (.c (.ro false 89 (K6) a))), (1, .v (.c (.ro false 89 (K6) b))), (5, .v (.c (.int .i64 i)))], bx := [], bl := [] }
noncomputable def laws_eqTxS_1_r (t4 : Bool) : St := { nt := 27, tm := [(4, .v (.c (.bool t4)))], bx := [], bl := [] }
noncomputable def laws_eqTxS_1_e0  : St := { nt := 27, tm := [], bx := [], bl := [] }
noncomputable def laws_eqTxS_1 (st : St) : Option α := lp Tryd.prog (look laws_eqTxS_C) F laws_eqTxS_H (sub [.r, .r, .l, .r, .b, .i] (codeOf Tryd.f37)) κ n st
noncomputable def laws_eqTxS_1_k : Ex → St → Option (Args [(.bool, false)]) := cont Tryd.prog (look laws_eqTxS_C) F laws_eqTxS_H [.r, .r, .l, .r, .b] (codeOf Tryd.f37) (fin Tryd.prog Tryd.f37 [(.bool, false)] 1)
theorem laws_eqTxS_1_step (a : List D6) (b : List D6) (i : Int) : laws_eqTxS_1 F κ (n + 1) (laws_eqTxS_1_s a b i) = br (decide (i < (a.length : Int))) (ck (okI i (a.length : Int)) (ck (okI i (b.length : Int)) ((laws_eqTx F0 ((at_ a i (0, (0, (0, 0)))).1, ((at_ a i (0, (0, (0, 0)))).2.1, ((at_ a i (0, (0, (0, 0)))).2.2.1, (at_ a i (0, (0, (0, 0)))).2.2.2))) ((at_ b i (0, (0, (0, 0)))).1, ((at_ b i (0, (0, (0, 0)))).2.1, ((at_ b i (0, (0, (0, 0)))).2.2.1, (at_ b i (0, (0, (0, 0)))).2.2.2)))).bind fun r25 => br (!r25.1) (κ .ret (laws_eqTxS_1_r false)) (laws_eqTxS_1 F κ n (laws_eqTxS_1_s a b (w64 (i + 1))))))) (κ (.exit 0) (laws_eqTxS_1_e0 )) := by kernel_rfl
theorem laws_eqTxS_1_cr (t4 : Bool) : laws_eqTxS_1_k F .ret (laws_eqTxS_1_r t4) = some (t4, ()) := by kernel_rfl
theorem laws_eqTxS_1_ce0  : laws_eqTxS_1_k F (.exit 0) (laws_eqTxS_1_e0 ) = some (true, ()) := by kernel_rfl
noncomputable def laws_eqTxS (a : D7) (b : D7) : Option (Args [(.bool, false)]) := runF Tryd.prog (look laws_eqTxS_C) F laws_eqTxS_H Tryd.f37 [(K7, false), (K7, false)] [(.bool, false)] 1 (a, b, ())
theorem laws_eqTxS_eq (a : D7) (b : D7) : laws_eqTxS F a b = br ((a.length : Int) != (b.length : Int)) (some (false, ())) (laws_eqTxS_1 F (laws_eqTxS_1_k F) F.n (laws_eqTxS_1_s a b 0)) := by kernel_rfl
noncomputable def laws_eqTxS_con : Any := .one ⟨[(K7, false), (K7, false)], [(.bool, false)], 1, fun x => laws_eqTxS F0 x.1 x.2.1⟩
theorem laws_eqTxS_ok : AnyOk Tryd.prog TB 37 laws_eqTxS_con := ok1 (show AllOk Tryd.prog TB laws_eqTxS_C from ⟨laws_eqTx_ok, trivial⟩) Tryd.func37 (by kernel_rfl) (by kernel_rfl) laws_eqTxS_H (by kernel_rfl)

/-! ### laws.markTxS -/
noncomputable def laws_markTxS_C : List (Nat × Any) := []
noncomputable def laws_markTxS_H : Nat → Option Hint := look [(2, { live := [0, 1, 5], xl := [1], rl := [4] })]
noncomputable def laws_markTxS_1_s (k : Int) (i : Int) (xs : List D6) : St := { nt := 41, tm := [(0, .v (.c (.own 1000000 none))), (1, .v (.c (.int .i64 k))), (5, .v (.c (.int .i64 i)))], bx := [], bl := [(1000000, some ⟨89, K6, xs, true, true⟩)], sp := .v (.c (.own 1000000 none)) }
noncomputable def laws_markTxS_1_e0 (k : Int) (xs : List D6) : St := { nt := 41, tm := [(1, .v (.c (.int .i64 k)))], bx := [], bl := [(1000000, some ⟨89, K6, xs, true, true⟩)], sp := .v (.c (.own 1000000 none)) }
noncomputable def laws_markTxS_1 (st : St) : Option α := lp Tryd.prog (look laws_markTxS_C) F laws_markTxS_H (sub [.r, .l, .r, .b, .i] (codeOf Tryd.f38)) κ n st
noncomputable def laws_markTxS_1_k : Ex → St → Option (Args [(.int .i64, false)] × Args [(K7, false)]) := cont Tryd.prog (look laws_markTxS_C) F laws_markTxS_H [.r, .l, .r, .b] (codeOf Tryd.f38) (fin2 Tryd.prog Tryd.f38 (.own true) [(.int .i64, false)] [(K7, false)] 2)
theorem laws_markTxS_1_step (k : Int) (i : Int) (xs : List D6) : laws_markTxS_1 F κ (n + 1) (laws_markTxS_1_s k i xs) = br (decide (i < (xs.length : Int))) (ck (okI i (xs.length : Int)) (ck (okI i ((xs.set i.toNat (k, ((at_ xs i (0, (0, (0, 0)))).2.1, ((at_ xs i (0, (0, (0, 0)))).2.2.1, (at_ xs i (0, (0, (0, 0)))).2.2.2)))).length : Int)) (ck (okI i (((xs.set i.toNat (k, ((at_ xs i (0, (0, (0, 0)))).2.1, ((at_ xs i (0, (0, (0, 0)))).2.2.1, (at_ xs i (0, (0, (0, 0)))).2.2.2)))).set i.toNat ((at_ (xs.set i.toNat (k, ((at_ xs i (0, (0, (0, 0)))).2.1, ((at_ xs i (0, (0, (0, 0)))).2.2.1, (at_ xs i (0, (0, (0, 0)))).2.2.2)))) i (0, (0, (0, 0)))).1, (w64 (k + 1), ((at_ (xs.set i.toNat (k, ((at_ xs i (0, (0, (0, 0)))).2.1, ((at_ xs i (0, (0, (0, 0)))).2.2.1, (at_ xs i (0, (0, (0, 0)))).2.2.2)))) i (0, (0, (0, 0)))).2.2.1, (at_ (xs.set i.toNat (k, ((at_ xs i (0, (0, (0, 0)))).2.1, ((at_ xs i (0, (0, (0, 0)))).2.2.1, (at_ xs i (0, (0, (0, 0)))).2.2.2)))) i (0, (0, (0, 0)))).2.2.2)))).length : Int)) (ck (okI i ((((xs.set i.toNat (k, ((at_ xs i (0, (0, (0, 0)))).2.1, ((at_ xs i (0, (0, (0, 0)))).2.2.1, (at_ xs i (0, (0, (0, 0)))).2.2.2)))).set i.toNat ((at_ (xs.set i.toNat (k, ((at_ xs i (0, (0, (0, 0)))).2.1, ((at_ xs i (0, (0, (0, 0)))).2.2.1, (at_ xs i (0, (0, (0, 0)))).2.2.2)))) i (0, (0, (0, 0)))).1, (w64 (k + 1), ((at_ (xs.set i.toNat (k, ((at_ xs i (0, (0, (0, 0)))).2.1, ((at_ xs i (0, (0, (0, 0)))).2.2.1, (at_ xs i (0, (0, (0, 0)))).2.2.2)))) i (0, (0, (0, 0)))).2.2.1, (at_ (xs.set i.toNat (k, ((at_ xs i (0, (0, (0, 0)))).2.1, ((at_ xs i (0, (0, (0, 0)))).2.2.1, (at_ xs i (0, (0, (0, 0)))).2.2.2)))) i (0, (0, (0, 0)))).2.2.2)))).set i.toNat ((at_ ((xs.set i.toNat (k, ((at_ xs i (0, (0, (0, 0)))).2.1, ((at_ xs i (0, (0, (0, 0)))).2.2.1, (at_ xs i (0, (0, (0, 0)))).2.2.2)))).set i.toNat ((at_ (xs.set i.toNat (k, ((at_ xs i (0, (0, (0, 0)))).2.1, ((at_ xs i (0, (0, (0, 0)))).2.2.1, (at_ xs i (0, (0, (0, 0)))).2.2.2)))) i (0, (0, (0, 0)))).1, (w64 (k + 1), ((at_ (xs.set i.toNat (k, ((at_ xs i (0, (0, (0, 0)))).2.1, ((at_ xs i (0, (0, (0, 0)))).2.2.1, (at_ xs i (0, (0, (0, 0)))).2.2.2)))) i (0, (0, (0, 0)))).2.2.1, (at_ (xs.set i.toNat (k, ((at_ xs i (0, (0, (0, 0)))).2.1, ((at_ xs i (0, (0, (0, 0)))).2.2.1, (at_ xs i (0, (0, (0, 0)))).2.2.2)))) i (0, (0, (0, 0)))).2.2.2)))) i (0, (0, (0, 0)))).1, ((at_ ((xs.set i.toNat (k, ((at_ xs i (0, (0, (0, 0)))).2.1, ((at_ xs i (0, (0, (0, 0)))).2.2.1, (at_ xs i (0, (0, (0, 0)))).2.2.2)))).set i.toNat ((at_ (xs.set i.toNat (k, ((at_ xs i (0, (0, (0, 0)))).2.1, ((at_ xs i (0, (0, (0, 0)))).2.2.1, (at_ xs i (0, (0, (0, 0)))).2.2.2)))) i (0, (0, (0, 0)))).1, (w64 (k + 1), ((at_ (xs.set i.toNat (k, ((at_ xs i (0, (0, (0, 0)))).2.1, ((at_ xs i (0, (0, (0, 0)))).2.2.1, (at_ xs i (0, (0, (0, 0)))).2.2.2)))) i (0, (0, (0, 0)))).2.2.1, (at_ (xs.set i.toNat (k, ((at_ xs i (0, (0, (0, 0)))).2.1, ((at_ xs i (0, (0, (0, 0)))).2.2.1, (at_ xs i (0, (0, (0, 0)))).2.2.2)))) i (0, (0, (0, 0)))).2.2.2)))) i (0, (0, (0, 0)))).2.1, (w64 ((w64 (k + 1)) + 1), (at_ ((xs.set i.toNat (k, ((at_ xs i (0, (0, (0, 0)))).2.1, ((at_ xs i (0, (0, (0, 0)))).2.2.1, (at_ xs i (0, (0, (0, 0)))).2.2.2)))).set i.toNat ((at_ (xs.set i.toNat (k, ((at_ xs i (0, (0, (0, 0)))).2.1, ((at_ xs i (0, (0, (0, 0)))).2.2.1, (at_ xs i (0, (0, (0, 0)))).2.2.2)))) i (0, (0, (0, 0)))).1, (w64 (k + 1), ((at_ (xs.set i.toNat (k, ((at_ xs i (0, (0, (0, 0)))).2.1, ((at_ xs i (0, (0, (0, 0)))).2.2.1, (at_ xs i (0, (0, (0, 0)))).2.2.2)))) i (0, (0, (0, 0)))).2.2.1, (at_ (xs.set i.toNat (k, ((at_ xs i (0, (0, (0, 0)))).2.1, ((at_ xs i (0, (0, (0, 0)))).2.2.1, (at_ xs i (0, (0, (0, 0)))).2.2.2)))) i (0, (0, (0, 0)))).2.2.2)))) i (0, (0, (0, 0)))).2.2.2)))).length : Int)) (laws_markTxS_1 F κ n (laws_markTxS_1_s (w64 ((w64 ((w64 ((w64 (k + 1)) + 1)) + 1)) + 1)) (w64 (i + 1)) ((((xs.set i.toNat (k, ((at_ xs i (0, (0, (0, 0)))).2.1, ((at_ xs i (0, (0, (0, 0)))).2.2.1, (at_ xs i (0, (0, (0, 0)))).2.2.2)))).set i.toNat ((at_ (xs.set i.toNat (k, ((at_ xs i (0, (0, (0, 0)))).2.1, ((at_ xs i (0, (0, (0, 0)))).2.2.1, (at_ xs i (0, (0, (0, 0)))).2.2.2)))) i (0, (0, (0, 0)))).1, (w64 (k + 1), ((at_ (xs.set i.toNat (k, ((at_ xs i (0, (0, (0, 0)))).2.1, ((at_ xs i (0, (0, (0, 0)))).2.2.1, (at_ xs i (0, (0, (0, 0)))).2.2.2)))) i (0, (0, (0, 0)))).2.2.1, (at_ (xs.set i.toNat (k, ((at_ xs i (0, (0, (0, 0)))).2.1, ((at_ xs i (0, (0, (0, 0)))).2.2.1, (at_ xs i (0, (0, (0, 0)))).2.2.2)))) i (0, (0, (0, 0)))).2.2.2)))).set i.toNat ((at_ ((xs.set i.toNat (k, ((at_ xs i (0, (0, (0, 0)))).2.1, ((at_ xs i (0, (0, (0, 0)))).2.2.1, (at_ xs i (0, (0, (0, 0)))).2.2.2)))).set i.toNat ((at_ (xs.set i.toNat (k, ((at_ xs i (0, (0, (0, 0)))).2.1, ((at_ xs i (0, (0, (0, 0)))).2.2.1, (at_ xs i (0, (0, (0, 0)))).2.2.2)))) i (0, (0, (0, 0)))).1, (w64 (k + 1), ((at_ (xs.set i.toNat (k, ((at_ xs i (0, (0, (0, 0)))).2.1, ((at_ xs i (0, (0, (0, 0)))).2.2.1, (at_ xs i (0, (0, (0, 0)))).2.2.2)))) i (0, (0, (0, 0)))).2.2.1, (at_ (xs.set i.toNat (k, ((at_ xs i (0, (0, (0, 0)))).2.1, ((at_ xs i (0, (0, (0, 0)))).2.2.1, (at_ xs i (0, (0, (0, 0)))).2.2.2)))) i (0, (0, (0, 0)))).2.2.2)))) i (0, (0, (0, 0)))).1, ((at_ ((xs.set i.toNat (k, ((at_ xs i (0, (0, (0, 0)))).2.1, ((at_ xs i (0, (0, (0, 0)))).2.2.1, (at_ xs i (0, (0, (0, 0)))).2.2.2)))).set i.toNat ((at_ (xs.set i.toNat (k, ((at_ xs i (0, (0, (0, 0)))).2.1, ((at_ xs i (0, (0, (0, 0)))).2.2.1, (at_ xs i (0, (0, (0, 0)))).2.2.2)))) i (0, (0, (0, 0)))).1, (w64 (k + 1), ((at_ (xs.set i.toNat (k, ((at_ xs i (0, (0, (0, 0)))).2.1, ((at_ xs i (0, (0, (0, 0)))).2.2.1, (at_ xs i (0, (0, (0, 0)))).2.2.2)))) i (0, (0, (0, 0)))).2.2.1, (at_ (xs.set i.toNat (k, ((at_ xs i (0, (0, (0, 0)))).2.1, ((at_ xs i (0, (0, (0, 0)))).2.2.1, (at_ xs i (0, (0, (0, 0)))).2.2.2)))) i (0, (0, (0, 0)))).2.2.2)))) i (0, (0, (0, 0)))).2.1, (w64 ((w64 (k + 1)) + 1), (at_ ((xs.set i.toNat (k, ((at_ xs i (0, (0, (0, 0)))).2.1, ((at_ xs i (0, (0, (0, 0)))).2.2.1, (at_ xs i (0, (0, (0, 0)))).2.2.2)))).set i.toNat ((at_ (xs.set i.toNat (k, ((at_ xs i (0, (0, (0, 0)))).2.1, ((at_ xs i (0, (0, (0, 0)))).2.2.1, (at_ xs i (0, (0, (0, 0)))).2.2.2)))) i (0, (0, (0, 0)))).1, (w64 (k + 1), ((at_ (xs.set i.toNat (k, ((at_ xs i (0, (0, (0, 0)))).2.1, ((at_ xs i (0, (0, (0, 0)))).2.2.1, (at_ xs i (0, (0, (0, 0)))).2.2.2)))) i (0, (0, (0, 0)))).2.2.1, (at_ (xs.set i.toNat (k, ((at_ xs i (0, (0, (0, 0)))).2.1, ((at_ xs i (0, (0, (0, 0)))).2.2.1, (at_ xs i (0, (0, (0, 0)))).2.2.2)))) i (0, (0, (0, 0)))).2.2.2)))) i (0, (0, (0, 0)))).2.2.2)))).set i.toNat ((at_ (((xs.set i.toNat (k, ((at_ xs i (0, (0, (0, 0)))).2.1, ((at_ xs i (0, (0, (0, 0)))).2.2.1, (at_ xs i (0, (0, (0, 0)))).2.2.2)))).set i.toNat ((at_ (xs.set i.toNat (k, ((at_ xs i (0, (0, (0, 0)))).2.1, ((at_ xs i (0, (0, (0, 0)))).2.2.1, (at_ xs i (0, (0, (0, 0)))).2.2.2)))) i (0, (0, (0, 0)))).1, (w64 (k + 1), ((at_ (xs.set i.toNat (k, ((at_ xs i (0, (0, (0, 0)))).2.1, ((at_ xs i (0, (0, (0, 0)))).2.2.1, (at_ xs i (0, (0, (0, 0)))).2.2.2)))) i (0, (0, (0, 0)))).2.2.1, (at_ (xs.set i.toNat (k, ((at_ xs i (0, (0, (0, 0)))).2.1, ((at_ xs i (0, (0, (0, 0)))).2.2.1, (at_ xs i (0, (0, (0, 0)))).2.2.2)))) i (0, (0, (0, 0)))).2.2.2)))).set i.toNat ((at_ ((xs.set i.toNat (k, ((at_ xs i (0, (0, (0, 0)))).2.1, ((at_ xs i (0, (0, (0, 0)))).2.2.1, (at_ xs i (0, (0, (0, 0)))).2.2.2)))).set i.toNat ((at_ (xs.set i.toNat (k, ((at_ xs i (0, (0, (0, 0)))).2.1, ((at_ xs i (0, (0, (0, 0)))).2.2.1, (at_ xs i (0, (0, (0, 0)))).2.2.2)))) i (0, (0, (0, 0)))).1, (w64 (k + 1), ((at_ (xs.set i.toNat (k, ((at_ xs i (0, (0, (0, 0)))).2.1, ((at_ xs i (0, (0, (0, 0)))).2.2.1, (at_ xs i (0, (0, (0, 0)))).2.2.2)))) i (0, (0, (0, 0)))).2.2.1, (at_ (xs.set i.toNat (k, ((at_ xs i (0, (0, (0, 0)))).2.1, ((at_ xs i (0, (0, (0, 0)))).2.2.1, (at_ xs i (0, (0, (0, 0)))).2.2.2)))) i (0, (0, (0, 0)))).2.2.2)))) i (0, (0, (0, 0)))).1, ((at_ ((xs.set i.toNat (k, ((at_ xs i (0, (0, (0, 0)))).2.1, ((at_ xs i (0, (0, (0, 0)))).2.2.1, (at_ xs i (0, (0, (0, 0)))).2.2.2)))).set i.toNat ((at_ (xs.set i.toNat (k, ((at_ xs i (0, (0, (0, 0)))).2.1, ((at_ xs i (0, (0, (0, 0)))).2.2.1, (at_ xs i (0, (0, (0, 0)))).2.2.2)))) i (0, (0, (0, 0)))).1, (w64 (k + 1), ((at_ (xs.set i.toNat (k, ((at_ xs i (0, (0, (0, 0)))).2.1, ((at_ xs i (0, (0, (0, 0)))).2.2.1, (at_ xs i (0, (0, (0, 0)))).2.2.2)))) i (0, (0, (0, 0)))).2.2.1, (at_ (xs.set i.toNat (k, ((at_ xs i (0, (0, (0, 0)))).2.1, ((at_ xs i (0, (0, (0, 0)))).2.2.1, (at_ xs i (0, (0, (0, 0)))).2.2.2)))) i (0, (0, (0, 0)))).2.2.2)))) i (0, (0, (0, 0)))).2.1, (w64 ((w64 (k + 1)) + 1), (at_ ((xs.set i.toNat (k, ((at_ xs i (0, (0, (0, 0)))).2.1, ((at_ xs i (0, (0, (0, 0)))).2.2.1, (at_ xs i (0, (0, (0, 0)))).2.2.2)))).set i.toNat ((at_ (xs.set i.toNat (k, ((at_ xs i (0, (0, (0, 0)))).2.1, ((at_ xs i (0, (0, (0, 0)))).2.2.1, (at_ xs i (0, (0, (0, 0)))).2.2.2)))) i (0, (0, (0, 0)))).1, (w64 (k + 1), ((at_ (xs.set i.toNat (k, ((at_ xs i (0, (0, (0, 0)))).2.1, ((at_ xs i (0, (0, (0, 0)))).2.2.1, (at_ xs i (0, (0, (0, 0)))).2.2.2)))) i (0, (0, (0, 0)))).2.2.1, (at_ (xs.set i.toNat (k, ((at_ xs i (0, (0, (0, 0)))).2.1, ((at_ xs i (0, (0, (0, 0)))).2.2.1, (at_ xs i (0, (0, (0, 0)))).2.2.2)))) i (0, (0, (0, 0)))).2.2.2)))) i (0, (0, (0, 0)))).2.2.2)))) i (0, (0, (0, 0)))).1, ((at_ (((xs.set i.toNat (k, ((at_ xs i (0, (0, (0, 0)))).2.1, ((at_ xs i (0, (0, (0, 0)))).2.2.1, (at_ xs i (0, (0, (0, 0)))).2.2.2)))).set i.toNat ((at_ (xs.set i.toNat (k, ((at_ xs i (0, (0, (0, 0)))).2.1, ((at_ xs i (0, (0, (0, 0)))).2.2.1, (at_ xs i (0, (0, (0, 0)))).2.2.2)))) i (0, (0, (0, 0)))).1, (w64 (k + 1), ((at_ (xs.set i.toNat (k, ((at_ xs i (0, (0, (0, 0)))).2.1, ((at_ xs i (0, (0, (0, 0)))).2.2.1, (at_ xs i (0, (0, (0, 0)))).2.2.2)))) i (0, (0, (0, 0)))).2.2.1, (at_ (xs.set i.toNat (k, ((at_ xs i (0, (0, (0, 0)))).2.1, ((at_ xs i (0, (0, (0, 0)))).2.2.1, (at_ xs i (0, (0, (0, 0)))).2.2.2)))) i (0, (0, (0, 0)))).2.2.2)))).set i.toNat ((at_ ((xs.set i.toNat (k, ((at_ xs i (0, (0, (0, 0)))).2.1, ((at_ xs i (0, (0, (0, 0)))).2.2.1, (at_ xs i (0, (0, (0, 0)))).2.2.2)))).set i.toNat ((at_ (xs.set i.toNat (k, ((at_ xs i (0, (0, (0, 0)))).2.1, ((at_ xs i (0, (0, (0, 0)))).2.2.1, (at_ xs i (0, (0, (0, 0)))).2.2.2)))) i (0, (0, (0, 0)))).1, (w64 (k + 1), ((at_ (xs.set i.toNat (k, ((at_ xs i (0, (0, (0, 0)))).2.1, ((at_ xs i (0, (0, (0, 0)))).2.2.1, (at_ xs i (0, (0, (0, 0)))).2.2.2)))) i (0, (0, (0, 0)))).2.2.1, (at_ (xs.set i.toNat (k, ((at_ xs i (0, (0, (0, 0)))).2.1, ((at_ xs i (0, (0, (0, 0)))).2.2.1, (at_ xs i (0, (0, (0, 0)))).2.2.2)))) i (0, (0, (0, 0)))).2.2.2)))) i (0, (0, (0, 0)))).1, ((at_ ((xs.set i.toNat (k, ((at_ xs i (0, (0, (0, 0)))).2.1, ((at_ xs i (0, (0, (0, 0)))).2.2.1, (at_ xs i (0, (0, (0, 0)))).2.2.2)))).set i.toNat ((at_ (xs.set i.toNat (k, ((at_ xs i (0, (0, (0, 0)))).2.1, ((at_ xs i (0, (0, (0, 0)))).2.2.1, (at_ xs i (0, (0, (0, 0)))).2.2.2)))) i (0, (0, (0, 0)))).1, (w64 (k + 1), ((at_ (xs.set i.toNat (k, ((at_ xs i (0, (0, (0, 0)))).2.1, ((at_ xs i (0, (0, (0, 0)))).2.2.1, (at_ xs i (0, (0, (0, 0)))).2.2.2)))) i (0, (0, (0, 0)))).2.2.1, (at_ (xs.set i.toNat (k, ((at_ xs i (0, (0, (0, 0)))).2.1, ((at_ xs i (0, (0, (0, 0)))).2.2.1, (at_ xs i (0, (0, (0, 0)))).2.2.2)))) i (0, (0, (0, 0)))).2.2.2)))) i (0, (0, (0, 0)))).2.1, (w64 ((w64 (k + 1)) + 1), (at_ ((xs.set i.toNat (k, ((at_ xs i (0, (0, (0, 0)))).2.1, ((at_ xs i (0, (0, (0, 0)))).2.2.1, (at_ xs i (0, (0, (0, 0)))).2.2.2)))).set i.toNat ((at_ (xs.set i.toNat (k, ((at_ xs i (0, (0, (0, 0)))).2.1, ((at_ xs i (0, (0, (0, 0)))).2.2.1, (at_ xs i (0, (0, (0, 0)))).2.2.2)))) i (0, (0, (0, 0)))).1, (w64 (k + 1), ((at_ (xs.set i.toNat (k, ((at_ xs i (0, (0, (0, 0)))).2.1, ((at_ xs i (0, (0, (0, 0)))).2.2.1, (at_ xs i (0, (0, (0, 0)))).2.2.2)))) i (0, (0, (0, 0)))).2.2.1, (at_ (xs.set i.toNat (k, ((at_ xs i (0, (0, (0, 0)))).2.1, ((at_ xs i (0, (0, (0, 0)))).2.2.1, (at_ xs i (0, (0, (0, 0)))).2.2.2)))) i (0, (0, (0, 0)))).2.2.2)))) i (0, (0, (0, 0)))).2.2.2)))) i (0, (0, (0, 0)))).2.1, ((at_ (((xs.set i.toNat (k, ((at_ xs i (0, (0, (0, 0)))).2.1, ((at_ xs i (0, (0, (0, 0)))).2.2.1, (at_ xs i (0, (0, (0, 0)))).2.2.2)))).set i.toNat ((at_ (xs.set i.toNat (k, ((at_ xs i (0, (0, (0, 0)))).2.1, ((at_ xs i (0, (0, (0, 0)))).2.2.1, (at_ xs i (0, (0, (0, 0)))).2.2.2)))) i (0, (0, (0, 0)))).1, (w64 (k + 1), ((at_ (xs.set i.toNat (k, ((at_ xs i (0, (0, (0, 0)))).2.1, ((at_ xs i (0, (0, (0, 0)))).2.2.1, (at_ xs i (0, (0, (0, 0)))).2.2.2)))) i (0, (0, (0, 0)))).2.2.1, (at_ (xs.set i.toNat (k, ((at_ xs i (0, (0, (0, 0)))).2.1, ((at_ xs i (0, (0, (0, 0)))).2.2.1, (at_ xs i (0, (0, (0, 0)))).2.2.2)))) i (0, (0, (0, 0)))).2.2.2)))).set i.toNat ((at_ ((xs.set i.toNat (k, ((at_ xs i (0, (0, (0, 0)))).2.1, ((at_ xs i (0, (0, (0, 0)))).2.2.1, (at_ xs i (0, (0, (0, 0)))).2.2.2)))).set i.toNat ((at_ (xs.set i.toNat (k, ((at_ xs i (0, (0, (0, 0)))).2.1, ((at_ xs i (0, (0, (0, 0)))).2.2.1, (at_ xs i (0, (0, (0, 0)))).2.2.2)))) i (0, (0, (0, 0)))).1, (w64 (k + 1), ((at_ (xs.set i.toNat (k, ((at_ xs i (0, (0, (0, 0)))).2.1, ((at_ xs i (0, (0, (0, 0)))).2.2.1, (at_ xs i (0, (0, (0, 0)))).2.2.2)))) i (0, (0, (0, 0)))).2.2.1, (at_ (xs.set i.toNat (k, ((at_ xs i (0, (0, (0, 0)))).2.1, ((at_ xs i (0, (0, (0, 0)))).2.2.1, (at_ xs i (0, (0, (0, 0)))).2.2.2)))) i (0, (0, (0, 0)))).2.2.2)))) i (0, (0, (0, 0)))).1, ((at_ ((xs.set i.toNat (k, ((at_ xs i (0, (0, (0, 0)))).2.1, ((at_ xs i (0, (0, (0, 0)))).2.2.1, (at_ xs i (0, (0, (0, 0)))).2.2.2)))).set i.toNat ((at_ (xs.set i.toNat (k, ((at_ xs i (0, (0, (0, 0)))).2.1, ((at_ xs i (0, (0, (0, 0)))).2.2.1, (at_ xs i (0, (0, (0, 0)))).2.2.2)))) i (0, (0, (0, 0)))).1, (w64 (k + 1), ((at_ (xs.set i.toNat (k, ((at_ xs i (0, (0, (0, 0)))).2.1, ((at_ xs i (0, (0, (0, 0)))).2.2.1, (at_ xs i (0, (0, (0, 0)))).2.2.2)))) i (0, (0, (0, 0)))).2.2.1, (at_ (xs.set i.toNat (k, ((at_ xs i (0, (0, (0, 0)))).2.1, ((at_ xs i (0, (0, (0, 0)))).2.2.1, (at_ xs i (0, (0, (0, 0)))).2.2.2)))) i (0, (0, (0, 0)))).2.2.2)))) i (0, (0, (0, 0)))).2.1, (w64 ((w64 (k + 1)) + 1), (at_ ((xs.set i.toNat (k, ((at_ xs i (0, (0, (0, 0)))).2.1, ((at_ xs i (0, (0, (0, 0)))).2.2.1, (at_ xs i (0, (0, (0, 0)))).2.2.2)))).set i.toNat ((at_ (xs.set i.toNat (k, ((at_ xs i (0, (0, (0, 0)))).2.1, ((at_ xs i (0, (0, (0, 0)))).2.2.1, (at_ xs i (0, (0, (0, 0)))).2.2.2)))) i (0, (0, (0, 0)))).1, (w64 (k + 1), ((at_ (xs.set i.toNat (k, ((at_ xs i (0, (0, (0, 0)))).2.1, ((at_ xs i (0, (0, (0, 0)))).2.2.1, (at_ xs i (0, (0, (0, 0)))).2.2.2)))) i (0, (0, (0, 0)))).2.2.1, (at_ (xs.set i.toNat (k, ((at_ xs i (0, (0, (0, 0)))).2.1, ((at_ xs i (0, (0, (0, 0)))).2.2.1, (at_ xs i (0, (0, (0, 0)))).2.2.2)))) i (0, (0, (0, 0)))).2.2.2)))) i (0, (0, (0, 0)))).2.2.2)))) i (0, (0, (0, 0)))).2.2.1, w64 ((w64 ((w64 (k + 1)) + 1)) + 1))))))))))) (κ (.exit 0) (laws_markTxS_1_e0 k xs)) := by kernel_rfl
theorem laws_markTxS_1_ce0 (k : Int) (xs : List D6) : laws_markTxS_1_k F (.exit 0) (laws_markTxS_1_e0 k xs) = some ((k, ()), (xs, ())) := by kernel_rfl
noncomputable def laws_markTxS (a : D7) (k : Int) : Option (Args [(.int .i64, false)] × Args [(K7, false)]) := runF2 Tryd.prog (look laws_markTxS_C) F laws_markTxS_H Tryd.f38 [(K7, false), (.int .i64, false)] 0 (.own true) [(.int .i64, false)] [(K7, false)] 2 (a, k, ())
theorem laws_markTxS_eq (a : D7) (k : Int) : laws_markTxS F a k = laws_markTxS_1 F (laws_markTxS_1_k F) F.n (laws_markTxS_1_s k 0 a) := by kernel_rfl
noncomputable def laws_markTxS_con : Any := .two ⟨[(K7, false), (.int .i64, false)], 0, (.own true), [(.int .i64, false)], 2, [(K7, false)], fun x => laws_markTxS F0 x.1 x.2.1⟩
theorem laws_markTxS_ok : AnyOk Tryd.prog TB 38 laws_markTxS_con := ok3 (show AllOk Tryd.prog TB laws_markTxS_C from trivial) Tryd.func38 (by kernel_rfl) (by kernel_rfl) laws_markTxS_H (by kernel_rfl) (by kernel_rfl)

/-! ### laws.markReceiptS -/
noncomputable def laws_markReceiptS_C : List (Nat × Any) := []
noncomputable def laws_markReceiptS_H : Nat → Option Hint := look [(2, { live := [0, 1, 5], xl := [1], rl := [4] })]
noncomputable def laws_markReceiptS_1_s (k : Int) (i : Int) (xs : List D4) : St := { nt := 27, tm := [(0, .v (.c (.own 1000000 none))), (1, .v (.c (.int .i64 k))), (5, .v (.c (.int .i64 i)))], bx := [], bl := [(1000000, some ⟨51, K4, xs, true, true⟩)], sp := .v (.c (.own 1000000 none)) }
noncomputable def laws_markReceiptS_1_e0 (k : Int) (xs : List D4) : St := { nt := 27, tm := [(1, .v (.c (.int .i64 k)))], bx := [], bl := [(1000000, some ⟨51, K4, xs, true, true⟩)], sp := .v (.c (.own 1000000 none)) }
noncomputable def laws_markReceiptS_1 (st : St) : Option α := lp Tryd.prog (look laws_markReceiptS_C) F laws_markReceiptS_H (sub [.r, .l, .r, .b, .i] (codeOf Tryd.f39)) κ n st
noncomputable def laws_markReceiptS_1_k : Ex → St → Option (Args [(.int .i64, false)] × Args [(K11, false)]) := cont Tryd.prog (look laws_markReceiptS_C) F laws_markReceiptS_H [.r, .l, .r, .b] (codeOf Tryd.f39) (fin2 Tryd.prog Tryd.f39 (.own true) [(.int .i64, false)] [(K11, false)] 2)
theorem laws_markReceiptS_1_step (k : Int) (i : Int) (xs : List D4) : laws_markReceiptS_1 F κ (n + 1) (laws_markReceiptS_1_s k i xs) = br (decide (i < (xs.length : Int))) (ck (okI i (xs.length : Int)) (ck (okI i ((xs.set i.toNat (k, (at_ xs i (0, 0)).2)).length : Int)) (laws_markReceiptS_1 F κ n (laws_markReceiptS_1_s (w64 ((w64 (k + 1)) + 1)) (w64 (i + 1)) ((xs.set i.toNat (k, (at_ xs i (0, 0)).2)).set i.toNat ((at_ (xs.set i.toNat (k, (at_ xs i (0, 0)).2)) i (0, 0)).1, w64 (k + 1))))))) (κ (.exit 0) (laws_markReceiptS_1_e0 k xs)) := by kernel_rfl
theorem laws_markReceiptS_1_ce0 (k : Int) (xs : List D4) : laws_markReceiptS_1_k F (.exit 0) (laws_markReceiptS_1_e0 k xs) = some ((k, ()), (xs, ())) := by kernel_rfl
noncomputable def laws_markReceiptS (a : D11) (k : Int) : Option (Args [(.int .i64, false)] × Args [(K11, false)]) := runF2 Tryd.prog (look laws_markReceiptS_C) F laws_markReceiptS_H Tryd.f39 [(K11, false), (.int .i64, false)] 0 (.own true) [(.int .i64, false)] [(K11, false)] 2 (a, k, ())
theorem laws_markReceiptS_eq (a : D11) (k : Int) : laws_markReceiptS F a k = laws_markReceiptS_1 F (laws_markReceiptS_1_k F) F.n (laws_markReceiptS_1_s k 0 a) := by kernel_rfl
noncomputable def laws_markReceiptS_con : Any := .two ⟨[(K11, false), (.int .i64, false)], 0, (.own true), [(.int .i64, false)], 2, [(K11, false)], fun x => laws_markReceiptS F0 x.1 x.2.1⟩
theorem laws_markReceiptS_ok : AnyOk Tryd.prog TB 39 laws_markReceiptS_con := ok3 (show AllOk Tryd.prog TB laws_markReceiptS_C from trivial) Tryd.func39 (by kernel_rfl) (by kernel_rfl) laws_markReceiptS_H (by kernel_rfl) (by kernel_rfl)

/-! ### laws.heldReceiptS -/
noncomputable def laws_heldReceiptS_C : List (Nat × Any) := []
noncomputable def laws_heldReceiptS_H : Nat → Option Hint := look [(2, { live := [0, 1, 5], xl := [1], rl := [4] })]
noncomputable def laws_heldReceiptS_1_s (a : List D4) (k : Int) (i : Int) : St := { nt := 31, tm := [(0, .v (.c (.ro false 51 (K4) a))), (1, .v (.c (.int .i64 k))), (5, .v (.c (.int .i64 i)))], bx := [], bl := [] }
noncomputable def laws_heldReceiptS_1_r (t4 : Int) : St := { nt := 31, tm := [(4, .v (.c (.int .i64 t4)))], bx := [], bl := [] }
noncomputable def laws_heldReceiptS_1_e0 (k : Int) : St := { nt := 31, tm := [(1, .v (.c (.int .i64 k)))], bx := [], bl := [] }
noncomputable def laws_heldReceiptS_1 (st : St) : Option α := lp Tryd.prog (look laws_heldReceiptS_C) F laws_heldReceiptS_H (sub [.r, .l, .r, .b, .i] (codeOf Tryd.f40)) κ n st
noncomputable def laws_heldReceiptS_1_k : Ex → St → Option (Args [(.int .i64, false)]) := cont Tryd.prog (look laws_heldReceiptS_C) F laws_heldReceiptS_H [.r, .l, .r, .b] (codeOf Tryd.f40) (fin Tryd.prog Tryd.f40 [(.int .i64, false)] 1)
theorem laws_heldReceiptS_1_step (a : List D4) (k : Int) (i : Int) : laws_heldReceiptS_1 F κ (n + 1) (laws_heldReceiptS_1_s a k i) = br (decide (i < (a.length : Int))) (ck (okI i (a.length : Int)) (br ((at_ a i (0, 0)).1 != k) (κ .ret (laws_heldReceiptS_1_r (-1))) (ck (okI i (a.length : Int)) (br ((at_ a i (0, 0)).2 != (w64 (k + 1))) (κ .ret (laws_heldReceiptS_1_r (-1))) (laws_heldReceiptS_1 F κ n (laws_heldReceiptS_1_s a (w64 ((w64 (k + 1)) + 1)) (w64 (i + 1)))))))) (κ (.exit 0) (laws_heldReceiptS_1_e0 k)) := by kernel_rfl
theorem laws_heldReceiptS_1_cr (t4 : Int) : laws_heldReceiptS_1_k F .ret (laws_heldReceiptS_1_r t4) = some (t4, ()) := by kernel_rfl
theorem laws_heldReceiptS_1_ce0 (k : Int) : laws_heldReceiptS_1_k F (.exit 0) (laws_heldReceiptS_1_e0 k) = some (k, ()) := by kernel_rfl
noncomputable def laws_heldReceiptS (a : D11) (k : Int) : Option (Args [(.int .i64, false)]) := runF Tryd.prog (look laws_heldReceiptS_C) F laws_heldReceiptS_H Tryd.f40 [(K11, false), (.int .i64, false)] [(.int .i64, false)] 1 (a, k, ())
theorem laws_heldReceiptS_eq (a : D11) (k : Int) : laws_heldReceiptS F a k = laws_heldReceiptS_1 F (laws_heldReceiptS_1_k F) F.n (laws_heldReceiptS_1_s a k 0) := by kernel_rfl
noncomputable def laws_heldReceiptS_con : Any := .one ⟨[(K11, false), (.int .i64, false)], [(.int .i64, false)], 1, fun x => laws_heldReceiptS F0 x.1 x.2.1⟩
theorem laws_heldReceiptS_ok : AnyOk Tryd.prog TB 40 laws_heldReceiptS_con := ok1 (show AllOk Tryd.prog TB laws_heldReceiptS_C from trivial) Tryd.func40 (by kernel_rfl) (by kernel_rfl) laws_heldReceiptS_H (by kernel_rfl)

/-! ### laws.FnExactReceipts -/
noncomputable def laws_FnExactReceipts_C : List (Nat × Any) := [(32, laws_szTxS_con), (33, spec_Receipts_con), (34, laws_toTxS_con), (35, impl_Receipts_con), (36, laws_eqReceiptS_con), (37, laws_eqTxS_con), (38, laws_markTxS_con), (39, laws_markReceiptS_con), (40, laws_heldReceiptS_con)]
noncomputable def laws_FnExactReceipts_H : Nat → Option Hint := look []
noncomputable def laws_FnExactReceipts (aName : ByteArray) (aList : D10) : Option (Args [(.bool, false)]) := runF Tryd.prog (look laws_FnExactReceipts_C) F laws_FnExactReceipts_H Tryd.f8 [(.str, false), (K10, false)] [(.bool, false)] 1 (aName, aList, ())
theorem laws_FnExactReceipts_eq (aName : ByteArray) (aList : D10) : laws_FnExactReceipts F aName aList = br (decide ((aName.size : Int) > 1048576)) (some (true, ())) ((laws_szTxS F0 aList 1048576).bind fun r18 => br (decide (r18.1 < 0)) (some (true, ())) ((laws_toTxS F0 aList).bind fun r23 => (spec_Receipts F0 aName r23.1).bind fun r24 => (laws_toTxS F0 aList).bind fun r26 => (impl_Receipts F0 aName r26.1).bind fun r29 => (laws_eqReceiptS F0 r29.1 r24.1).bind fun r32 => br (!r32.1) (some (false, ())) ((laws_toTxS F0 aList).bind fun r36 => (laws_eqTxS F0 r26.1 r36.1).bind fun r37 => br (!r37.1) (some (false, ())) ((laws_markTxS F0 r26.1 1).bind fun r41 => br (decide (r41.1.1 < 0)) (some (false, ())) ((laws_eqReceiptS F0 r29.1 r24.1).bind fun r47 => br (!r47.1) (some (false, ())) ((laws_markReceiptS F0 r29.1 1).bind fun r52 => (laws_heldReceiptS F0 r52.2.1 1).bind fun r55 => br (decide (r55.1 < 0)) (some (false, ())) (br (r55.1 != r52.1.1) (some (false, ())) ((laws_toTxS F0 aList).bind fun r63 => (impl_Receipts F0 aName r63.1).bind fun r64 => (laws_eqReceiptS F0 r64.1 r24.1).bind fun r67 => br (!r67.1) (some (false, ())) ((laws_heldReceiptS F0 r52.2.1 1).bind fun r71 => br (decide (r71.1 < 0)) (some (false, ())) (br (r71.1 != r52.1.1) (some (false, ())) (some (true, ())))))))))))) := by kernel_rfl
noncomputable def laws_FnExactReceipts_con : Any := .one ⟨[(.str, false), (K10, false)], [(.bool, false)], 1, fun x => laws_FnExactReceipts F0 x.1 x.2.1⟩
theorem laws_FnExactReceipts_ok : AnyOk Tryd.prog TB 8 laws_FnExactReceipts_con := ok1 (show AllOk Tryd.prog TB laws_FnExactReceipts_C from ⟨laws_szTxS_ok, spec_Receipts_ok, laws_toTxS_ok, impl_Receipts_ok, laws_eqReceiptS_ok, laws_eqTxS_ok, laws_markTxS_ok, laws_markReceiptS_ok, laws_heldReceiptS_ok, trivial⟩) Tryd.func8 (by kernel_rfl) (by kernel_rfl) laws_FnExactReceipts_H (by kernel_rfl)

/-! ### laws.toConf -/
noncomputable def laws_toConf_C : List (Nat × Any) := []
noncomputable def laws_toConf_H : Nat → Option Hint := look []
noncomputable def laws_toConf (a : D4) : Option (Args [(K4, true)]) := runF Tryd.prog (look laws_toConf_C) F laws_toConf_H Tryd.f42 [(K4, true)] [(K4, true)] 1 (a, ())
theorem laws_toConf_eq (a : D4) : laws_toConf F a = some (a, ()) := by kernel_rfl
noncomputable def laws_toConf_con : Any := .one ⟨[(K4, true)], [(K4, true)], 1, fun x => laws_toConf F0 x.1⟩
theorem laws_toConf_ok : AnyOk Tryd.prog TB 42 laws_toConf_con := ok1 (show AllOk Tryd.prog TB laws_toConf_C from trivial) Tryd.func42 (by kernel_rfl) (by kernel_rfl) laws_toConf_H (by kernel_rfl)

/-! ### spec.ConfOk -/
noncomputable def spec_ConfOk_C : List (Nat × Any) := [(87, spec_l1In_con)]
noncomputable def spec_ConfOk_H : Nat → Option Hint := look []
noncomputable def spec_ConfOk (c : D4) : Option (Args [(.bool, false)]) := runF Tryd.prog (look spec_ConfOk_C) F spec_ConfOk_H Tryd.f62 [(K4, true)] [(.bool, false)] 1 (c, ())
theorem spec_ConfOk_eq (c : D4) : spec_ConfOk F c = (spec_l1In F0 c.1 4 7).bind fun r5 => br r5.1 ((spec_l1In F0 c.2 1 6).bind fun r9 => some (r9.1, ())) (some (false, ())) := by kernel_rfl
noncomputable def spec_ConfOk_con : Any := .one ⟨[(K4, true)], [(.bool, false)], 1, fun x => spec_ConfOk F0 x.1⟩
theorem spec_ConfOk_ok : AnyOk Tryd.prog TB 62 spec_ConfOk_con := ok1 (show AllOk Tryd.prog TB spec_ConfOk_C from ⟨spec_l1In_ok, trivial⟩) Tryd.func62 (by kernel_rfl) (by kernel_rfl) spec_ConfOk_H (by kernel_rfl)

/-! ### spec.SetHas -/
noncomputable def spec_SetHas_C : List (Nat × Any) := []
noncomputable def spec_SetHas_H : Nat → Option Hint := look [(2, { live := [0, 1, 5], rl := [4] })]
noncomputable def spec_SetHas_1_s (s : List Int) (i : Int) (k : Int) : St := { nt := 18, tm := [(0, .v (.c (.ro false 3 (.int .i64) s))), (1, .v (.c (.int .i64 i))), (5, .v (.c (.int .i64 k)))], bx := [], bl := [] }
noncomputable def spec_SetHas_1_r (t4 : Bool) : St := { nt := 18, tm := [(4, .v (.c (.bool t4)))], bx := [], bl := [] }
noncomputable def spec_SetHas_1_e0  : St := { nt := 18, tm := [], bx := [], bl := [] }
noncomputable def spec_SetHas_1 (st : St) : Option α := lp Tryd.prog (look spec_SetHas_C) F spec_SetHas_H (sub [.r, .l, .r, .b, .i] (codeOf Tryd.f108)) κ n st
noncomputable def spec_SetHas_1_k : Ex → St → Option (Args [(.bool, false)]) := cont Tryd.prog (look spec_SetHas_C) F spec_SetHas_H [.r, .l, .r, .b] (codeOf Tryd.f108) (fin Tryd.prog Tryd.f108 [(.bool, false)] 1)
theorem spec_SetHas_1_step (s : List Int) (i : Int) (k : Int) : spec_SetHas_1 F κ (n + 1) (spec_SetHas_1_s s i k) = br (decide (k < (s.length : Int))) (ck (okI k (s.length : Int)) (br ((at_ s k 0) == i) (κ .ret (spec_SetHas_1_r true)) (spec_SetHas_1 F κ n (spec_SetHas_1_s s i (w64 (k + 1)))))) (κ (.exit 0) (spec_SetHas_1_e0 )) := by kernel_rfl
theorem spec_SetHas_1_cr (t4 : Bool) : spec_SetHas_1_k F .ret (spec_SetHas_1_r t4) = some (t4, ()) := by kernel_rfl
theorem spec_SetHas_1_ce0  : spec_SetHas_1_k F (.exit 0) (spec_SetHas_1_e0 ) = some (false, ()) := by kernel_rfl
noncomputable def spec_SetHas (s : List Int) (i : Int) : Option (Args [(.bool, false)]) := runF Tryd.prog (look spec_SetHas_C) F spec_SetHas_H Tryd.f108 [(.sl 3 (.int .i64), false), (.int .i64, false)] [(.bool, false)] 1 (s, i, ())
theorem spec_SetHas_eq (s : List Int) (i : Int) : spec_SetHas F s i = spec_SetHas_1 F (spec_SetHas_1_k F) F.n (spec_SetHas_1_s s i 0) := by kernel_rfl
noncomputable def spec_SetHas_con : Any := .one ⟨[(.sl 3 (.int .i64), false), (.int .i64, false)], [(.bool, false)], 1, fun x => spec_SetHas F0 x.1 x.2.1⟩
theorem spec_SetHas_ok : AnyOk Tryd.prog TB 108 spec_SetHas_con := ok1 (show AllOk Tryd.prog TB spec_SetHas_C from trivial) Tryd.func108 (by kernel_rfl) (by kernel_rfl) spec_SetHas_H (by kernel_rfl)

/-! ### spec.SetAdd -/
noncomputable def spec_SetAdd_C : List (Nat × Any) := [(108, spec_SetHas_con)]
noncomputable def spec_SetAdd_H : Nat → Option Hint := look [(4, { live := [0, 1, 5], xl := [0, 1, 5], rl := [4] })]
noncomputable def spec_SetAdd_1_s (s : List Int) (i : Int) (at1 : Int) : St := { nt := 41, tm := [(0, .v (.c (.ro false 3 (.int .i64) s))), (1, .v (.c (.int .i64 i))), (5, .v (.c (.int .i64 at1)))], bx := [], bl := [] }
noncomputable def spec_SetAdd_1_e0 (s : List Int) (i : Int) (at1 : Int) : St := { nt := 41, tm := [(0, .v (.c (.ro false 3 (.int .i64) s))), (1, .v (.c (.int .i64 i))), (5, .v (.c (.int .i64 at1)))], bx := [], bl := [] }
noncomputable def spec_SetAdd_1 (st : St) : Option α := lp Tryd.prog (look spec_SetAdd_C) F spec_SetAdd_H (sub [.r, .r, .r, .l, .b, .i] (codeOf Tryd.f89)) κ n st
noncomputable def spec_SetAdd_1_k : Ex → St → Option (Args [(.sl 3 (.int .i64), false)]) := cont Tryd.prog (look spec_SetAdd_C) F spec_SetAdd_H [.r, .r, .r, .l, .b] (codeOf Tryd.f89) (fin Tryd.prog Tryd.f89 [(.sl 3 (.int .i64), false)] 2)
theorem spec_SetAdd_1_step (s : List Int) (i : Int) (at1 : Int) : spec_SetAdd_1 F κ (n + 1) (spec_SetAdd_1_s s i at1) = br (decide (at1 < (s.length : Int))) (ck (okI at1 (s.length : Int)) (br (decide ((at_ s at1 0) < i)) (spec_SetAdd_1 F κ n (spec_SetAdd_1_s s i (w64 (at1 + 1)))) (κ (.exit 0) (spec_SetAdd_1_e0 s i at1)))) (κ (.exit 0) (spec_SetAdd_1_e0 s i at1)) := by kernel_rfl
theorem spec_SetAdd_1_ce0 (s : List Int) (i : Int) (at1 : Int) : spec_SetAdd_1_k F (.exit 0) (spec_SetAdd_1_e0 s i at1) = ck (okS 0 at1 (s.length : Int)) (ck (okA F 0 ((s.take at1.toNat).drop (0 : Int).toNat).length 8) (ck (okA F ([] ++ ((s.take at1.toNat).drop (0 : Int).toNat)).length [i].length 8) (ck (okS at1 (s.length : Int) (s.length : Int)) (ck (okA F (([] ++ ((s.take at1.toNat).drop (0 : Int).toNat)) ++ [i]).length ((s.take (s.length : Int).toNat).drop at1.toNat).length 8) (some ((([] ++ ((s.take at1.toNat).drop (0 : Int).toNat)) ++ [i]) ++ ((s.take (s.length : Int).toNat).drop at1.toNat), ())))))) := by kernel_rfl
noncomputable def spec_SetAdd (s : List Int) (i : Int) : Option (Args [(.sl 3 (.int .i64), false)]) := runF Tryd.prog (look spec_SetAdd_C) F spec_SetAdd_H Tryd.f89 [(.sl 3 (.int .i64), false), (.int .i64, false)] [(.sl 3 (.int .i64), false)] 2 (s, i, ())
theorem spec_SetAdd_eq (s : List Int) (i : Int) : spec_SetAdd F s i = (spec_SetHas F0 s i).bind fun r9 => br r9.1 (ck (okA F 0 s.length 8) (some ([] ++ s, ()))) (spec_SetAdd_1 F (spec_SetAdd_1_k F) F.n (spec_SetAdd_1_s s i 0)) := by kernel_rfl
noncomputable def spec_SetAdd_con : Any := .one ⟨[(.sl 3 (.int .i64), false), (.int .i64, false)], [(.sl 3 (.int .i64), false)], 2, fun x => spec_SetAdd F0 x.1 x.2.1⟩
theorem spec_SetAdd_ok : AnyOk Tryd.prog TB 89 spec_SetAdd_con := ok1 (show AllOk Tryd.prog TB spec_SetAdd_C from ⟨spec_SetHas_ok, trivial⟩) Tryd.func89 (by kernel_rfl) (by kernel_rfl) spec_SetAdd_H (by kernel_rfl)

/-! ### spec.l22Some -/
noncomputable def spec_l22Some_C : List (Nat × Any) := [(87, spec_l1In_con), (89, spec_SetAdd_con)]
noncomputable def spec_l22Some_H : Nat → Option Hint := look [(3, { live := [1, 2, 5, 6], xl := [5], rl := [4] })]
noncomputable def spec_l22Some_1_s (who : List Int) (i : Int) (c : Int) (c1 : Int) (xs : List Int) : St := { nt := 29, tm := [(1, .v (.c (.ro false 3 (.int .i64) who))), (2, .v (.c (.ptr 2 0))), (5, .v (.c (.own 1000000 none))), (6, .v (.c (.int .i64 i)))], bx := [(2, [.int .i64 c, .int .i64 c1])], bl := [(1000000, some ⟨3, .int .i64, xs, true, true⟩)] }
noncomputable def spec_l22Some_1_e0 (xs : List Int) : St := { nt := 29, tm := [(5, .v (.c (.own 1000000 none)))], bx := [], bl := [(1000000, some ⟨3, .int .i64, xs, true, true⟩)] }
noncomputable def spec_l22Some_1 (st : St) : Option α := lp Tryd.prog (look spec_l22Some_C) F spec_l22Some_H (sub [.r, .r, .l, .r, .b, .i] (codeOf Tryd.f64)) κ n st
noncomputable def spec_l22Some_1_k : Ex → St → Option (Args [(.sl 3 (.int .i64), false)]) := cont Tryd.prog (look spec_l22Some_C) F spec_l22Some_H [.r, .r, .l, .r, .b] (codeOf Tryd.f64) (fin Tryd.prog Tryd.f64 [(.sl 3 (.int .i64), false)] 2)
theorem spec_l22Some_1_step (who : List Int) (i : Int) (c : Int) (c1 : Int) (xs : List Int) : spec_l22Some_1 F κ (n + 1) (spec_l22Some_1_s who i c c1 xs) = br (decide (i < (who.length : Int))) (ck (okI i (who.length : Int)) ((spec_l1In F0 (at_ who i 0) 0 (w64 (c - 1))).bind fun r21 => br r21.1 (ck (okI i (who.length : Int)) ((spec_SetAdd F0 xs (at_ who i 0)).bind fun r27 => spec_l22Some_1 F κ n (spec_l22Some_1_s who (w64 (i + 1)) c c1 r27.1))) (spec_l22Some_1 F κ n (spec_l22Some_1_s who (w64 (i + 1)) c c1 xs)))) (κ (.exit 0) (spec_l22Some_1_e0 xs)) := by kernel_rfl
theorem spec_l22Some_1_ce0 (xs : List Int) : spec_l22Some_1_k F (.exit 0) (spec_l22Some_1_e0 xs) = some (xs, ()) := by kernel_rfl
noncomputable def spec_l22Some (c : D4) (who : List Int) : Option (Args [(.sl 3 (.int .i64), false)]) := runF Tryd.prog (look spec_l22Some_C) F spec_l22Some_H Tryd.f64 [(K4, true), (.sl 3 (.int .i64), false)] [(.sl 3 (.int .i64), false)] 2 (c, who, ())
theorem spec_l22Some_eq (c : D4) (who : List Int) : spec_l22Some F c who = spec_l22Some_1 F (spec_l22Some_1_k F) F.n (spec_l22Some_1_s who 0 c.1 c.2 []) := by kernel_rfl
noncomputable def spec_l22Some_con : Any := .one ⟨[(K4, true), (.sl 3 (.int .i64), false)], [(.sl 3 (.int .i64), false)], 2, fun x => spec_l22Some F0 x.1 x.2.1⟩
theorem spec_l22Some_ok : AnyOk Tryd.prog TB 64 spec_l22Some_con := ok1 (show AllOk Tryd.prog TB spec_l22Some_C from ⟨spec_l1In_ok, spec_SetAdd_ok, trivial⟩) Tryd.func64 (by kernel_rfl) (by kernel_rfl) spec_l22Some_H (by kernel_rfl)

/-! ### spec.NameOk -/
noncomputable def spec_NameOk_C : List (Nat × Any) := [(52, spec_Steps_con)]
noncomputable def spec_NameOk_H : Nat → Option Hint := look []
noncomputable def spec_NameOk (s : ByteArray) : Option (Args [(.bool, false)]) := runF Tryd.prog (look spec_NameOk_C) F spec_NameOk_H Tryd.f104 [(.str, false)] [(.bool, false)] 1 (s, ())
theorem spec_NameOk_eq (s : ByteArray) : spec_NameOk F s = (spec_Steps F0 s).bind fun r7 => some (r7.2.1, ()) := by kernel_rfl
noncomputable def spec_NameOk_con : Any := .one ⟨[(.str, false)], [(.bool, false)], 1, fun x => spec_NameOk F0 x.1⟩
theorem spec_NameOk_ok : AnyOk Tryd.prog TB 104 spec_NameOk_con := ok1 (show AllOk Tryd.prog TB spec_NameOk_C from ⟨spec_Steps_ok, trivial⟩) Tryd.func104 (by kernel_rfl) (by kernel_rfl) spec_NameOk_H (by kernel_rfl)

/-! ### spec.ViewOf -/
noncomputable def spec_ViewOf_C : List (Nat × Any) := [(52, spec_Steps_con)]
noncomputable def spec_ViewOf_H : Nat → Option Hint := look []
noncomputable def spec_ViewOf (s : ByteArray) : Option (Args [(.int .i64, false)]) := runF Tryd.prog (look spec_ViewOf_C) F spec_ViewOf_H Tryd.f105 [(.str, false)] [(.int .i64, false)] 1 (s, ())
theorem spec_ViewOf_eq (s : ByteArray) : spec_ViewOf F s = (spec_Steps F0 s).bind fun r7 => br (!r7.2.1) (some (0, ())) (br ((r7.1.length : Int) == 0) (some (0, ())) (ck (okI (w64 ((r7.1.length : Int) - 1)) (r7.1.length : Int)) (some ((at_ r7.1 (w64 ((r7.1.length : Int) - 1)) (0, [])).1, ())))) := by kernel_rfl
noncomputable def spec_ViewOf_con : Any := .one ⟨[(.str, false)], [(.int .i64, false)], 1, fun x => spec_ViewOf F0 x.1⟩
theorem spec_ViewOf_ok : AnyOk Tryd.prog TB 105 spec_ViewOf_con := ok1 (show AllOk Tryd.prog TB spec_ViewOf_C from ⟨spec_Steps_ok, trivial⟩) Tryd.func105 (by kernel_rfl) (by kernel_rfl) spec_ViewOf_H (by kernel_rfl)

/-! ### spec.SetOk -/
noncomputable def spec_SetOk_C : List (Nat × Any) := []
noncomputable def spec_SetOk_H : Nat → Option Hint := look [(2, { live := [0, 1, 5], rl := [4] })]
noncomputable def spec_SetOk_1_s (n1 : Int) (s : List Int) (i : Int) : St := { nt := 41, tm := [(0, .v (.c (.int .i64 n1))), (1, .v (.c (.ro false 3 (.int .i64) s))), (5, .v (.c (.int .i64 i)))], bx := [], bl := [] }
noncomputable def spec_SetOk_1_r (t4 : Bool) : St := { nt := 41, tm := [(4, .v (.c (.bool t4)))], bx := [], bl := [] }
noncomputable def spec_SetOk_1_e0  : St := { nt := 41, tm := [], bx := [], bl := [] }
noncomputable def spec_SetOk_1 (st : St) : Option α := lp Tryd.prog (look spec_SetOk_C) F spec_SetOk_H (sub [.r, .l, .r, .b, .i] (codeOf Tryd.f106)) κ n st
noncomputable def spec_SetOk_1_k : Ex → St → Option (Args [(.bool, false)]) := cont Tryd.prog (look spec_SetOk_C) F spec_SetOk_H [.r, .l, .r, .b] (codeOf Tryd.f106) (fin Tryd.prog Tryd.f106 [(.bool, false)] 1)
theorem spec_SetOk_1_step (n1 : Int) (s : List Int) (i : Int) : spec_SetOk_1 F κ (n + 1) (spec_SetOk_1_s n1 s i) = br (decide (i < (s.length : Int))) (ck (okI i (s.length : Int)) (br (decide ((at_ s i 0) < 0)) (κ .ret (spec_SetOk_1_r false)) (ck (okI i (s.length : Int)) (br (decide ((at_ s i 0) ≥ n1)) (κ .ret (spec_SetOk_1_r false)) (br (decide (i > 0)) (ck (okI (w64 (i - 1)) (s.length : Int)) (ck (okI i (s.length : Int)) (br (decide ((at_ s (w64 (i - 1)) 0) ≥ (at_ s i 0))) (κ .ret (spec_SetOk_1_r false)) (spec_SetOk_1 F κ n (spec_SetOk_1_s n1 s (w64 (i + 1))))))) (spec_SetOk_1 F κ n (spec_SetOk_1_s n1 s (w64 (i + 1))))))))) (κ (.exit 0) (spec_SetOk_1_e0 )) := by kernel_rfl
theorem spec_SetOk_1_cr (t4 : Bool) : spec_SetOk_1_k F .ret (spec_SetOk_1_r t4) = some (t4, ()) := by kernel_rfl
theorem spec_SetOk_1_ce0  : spec_SetOk_1_k F (.exit 0) (spec_SetOk_1_e0 ) = some (true, ()) := by kernel_rfl
noncomputable def spec_SetOk (n1 : Int) (s : List Int) : Option (Args [(.bool, false)]) := runF Tryd.prog (look spec_SetOk_C) F spec_SetOk_H Tryd.f106 [(.int .i64, false), (.sl 3 (.int .i64), false)] [(.bool, false)] 1 (n1, s, ())
theorem spec_SetOk_eq (n1 : Int) (s : List Int) : spec_SetOk F n1 s = spec_SetOk_1 F (spec_SetOk_1_k F) F.n (spec_SetOk_1_s n1 s 0) := by kernel_rfl
noncomputable def spec_SetOk_con : Any := .one ⟨[(.int .i64, false), (.sl 3 (.int .i64), false)], [(.bool, false)], 1, fun x => spec_SetOk F0 x.1 x.2.1⟩
theorem spec_SetOk_ok : AnyOk Tryd.prog TB 106 spec_SetOk_con := ok1 (show AllOk Tryd.prog TB spec_SetOk_C from trivial) Tryd.func106 (by kernel_rfl) (by kernel_rfl) spec_SetOk_H (by kernel_rfl)

/-! ### spec.Quorum -/
noncomputable def spec_Quorum_C : List (Nat × Any) := [(62, spec_ConfOk_con)]
noncomputable def spec_Quorum_H : Nat → Option Hint := look []
noncomputable def spec_Quorum (c : D4) : Option (Args [(.int .i64, false)]) := runF Tryd.prog (look spec_Quorum_C) F spec_Quorum_H Tryd.f107 [(K4, true)] [(.int .i64, false)] 1 (c, ())
theorem spec_Quorum_eq (c : D4) : spec_Quorum F c = (spec_ConfOk F0 c).bind fun r4 => br (!r4.1) (some (0, ())) (some (w64 (c.1 - (w64 (Int.tdiv (w64 (c.1 - 1)) 3))), ())) := by kernel_rfl
noncomputable def spec_Quorum_con : Any := .one ⟨[(K4, true)], [(.int .i64, false)], 1, fun x => spec_Quorum F0 x.1⟩
theorem spec_Quorum_ok : AnyOk Tryd.prog TB 107 spec_Quorum_con := ok1 (show AllOk Tryd.prog TB spec_Quorum_C from ⟨spec_ConfOk_ok, trivial⟩) Tryd.func107 (by kernel_rfl) (by kernel_rfl) spec_Quorum_H (by kernel_rfl)

/-! ### spec.QcOk -/
noncomputable def spec_QcOk_C : List (Nat × Any) := [(62, spec_ConfOk_con), (104, spec_NameOk_con), (105, spec_ViewOf_con), (106, spec_SetOk_con), (107, spec_Quorum_con)]
noncomputable def spec_QcOk_H : Nat → Option Hint := look []
noncomputable def spec_QcOk (c : D4) (q : D3) : Option (Args [(.bool, false)]) := runF Tryd.prog (look spec_QcOk_C) F spec_QcOk_H Tryd.f88 [(K4, true), (K3, true)] [(.bool, false)] 1 (c, q, ())
theorem spec_QcOk_eq (c : D4) (q : D3) : spec_QcOk F c q = (spec_ConfOk F0 c).bind fun r6 => br (!r6.1) (some (false, ())) ((spec_NameOk F0 q.2.1).bind fun r11 => br (!r11.1) (some (false, ())) ((spec_ViewOf F0 q.2.1).bind fun r17 => br (r17.1 != q.1) (some (false, ())) (br (q.2.1.toList == (ByteArray.mk #[]).toList) (some (((q.2.2.length : Int) == 0), ())) ((spec_SetOk F0 c.1 q.2.2).bind fun r33 => br r33.1 ((spec_Quorum F0 c).bind fun r39 => some (decide ((q.2.2.length : Int) ≥ r39.1), ())) (some (false, ())))))) := by kernel_rfl
noncomputable def spec_QcOk_con : Any := .one ⟨[(K4, true), (K3, true)], [(.bool, false)], 1, fun x => spec_QcOk F0 x.1 x.2.1⟩
theorem spec_QcOk_ok : AnyOk Tryd.prog TB 88 spec_QcOk_con := ok1 (show AllOk Tryd.prog TB spec_QcOk_C from ⟨spec_ConfOk_ok, spec_NameOk_ok, spec_ViewOf_ok, spec_SetOk_ok, spec_Quorum_ok, trivial⟩) Tryd.func88 (by kernel_rfl) (by kernel_rfl) spec_QcOk_H (by kernel_rfl)

/-! ### spec.PartQc -/
noncomputable def spec_PartQc_C : List (Nat × Any) := [(88, spec_QcOk_con)]
noncomputable def spec_PartQc_H : Nat → Option Hint := look [(999999, { live := [2, 3] })]
noncomputable def spec_PartQc (c : D4) (p : D3) : Option (Args [(K3, true), (.bool, false)]) := runF Tryd.prog (look spec_PartQc_C) F spec_PartQc_H Tryd.f63 [(K4, true), (K3, true)] [(K3, true), (.bool, false)] 2 (c, p, ())
theorem spec_PartQc_eq (c : D4) (p : D3) : spec_PartQc F c p = ck (okA F 0 p.2.2.length 8) (br (p.2.1.toList == (ByteArray.mk #[]).toList) (some ((0, ((ByteArray.mk #[]), [])), false, ())) ((spec_QcOk F0 c (p.1, (p.2.1, [] ++ p.2.2))).bind fun r22 => br (!r22.1) (some ((0, ((ByteArray.mk #[]), [])), false, ())) (some ((p.1, (p.2.1, [] ++ p.2.2)), true, ())))) := by kernel_rfl
noncomputable def spec_PartQc_con : Any := .one ⟨[(K4, true), (K3, true)], [(K3, true), (.bool, false)], 2, fun x => spec_PartQc F0 x.1 x.2.1⟩
theorem spec_PartQc_ok : AnyOk Tryd.prog TB 63 spec_PartQc_con := ok1 (show AllOk Tryd.prog TB spec_PartQc_C from ⟨spec_QcOk_ok, trivial⟩) Tryd.func63 (by kernel_rfl) (by kernel_rfl) spec_PartQc_H (by kernel_rfl)

/-! ### spec.Star -/
noncomputable def spec_Star_C : List (Nat × Any) := [(62, spec_ConfOk_con), (63, spec_PartQc_con), (64, spec_l22Some_con)]
noncomputable def spec_Star_H : Nat → Option Hint := look []
noncomputable def spec_Star (c : D4) (view : Int) (name : ByteArray) (who : List Int) : Option (Args [(K3, true), (.bool, false)]) := runF Tryd.prog (look spec_Star_C) F spec_Star_H Tryd.f41 [(K4, true), (.int .i64, false), (.str, false), (.sl 3 (.int .i64), false)] [(K3, true), (.bool, false)] 2 (c, view, name, who, ())
theorem spec_Star_eq (c : D4) (view : Int) (name : ByteArray) (who : List Int) : spec_Star F c view name who = (spec_ConfOk F0 c).bind fun r13 => br (!r13.1) (some ((0, ((ByteArray.mk #[]), [])), false, ())) (br (decide (view < 0)) (some ((0, ((ByteArray.mk #[]), [])), false, ())) ((spec_l22Some F0 c who).bind fun r26 => (spec_PartQc F0 c (view, (name, r26.1))).bind fun r28 => some (r28.1, r28.2.1, ()))) := by kernel_rfl
noncomputable def spec_Star_con : Any := .one ⟨[(K4, true), (.int .i64, false), (.str, false), (.sl 3 (.int .i64), false)], [(K3, true), (.bool, false)], 2, fun x => spec_Star F0 x.1 x.2.1 x.2.2.1 x.2.2.2.1⟩
theorem spec_Star_ok : AnyOk Tryd.prog TB 41 spec_Star_con := ok1 (show AllOk Tryd.prog TB spec_Star_C from ⟨spec_ConfOk_ok, spec_PartQc_ok, spec_l22Some_ok, trivial⟩) Tryd.func41 (by kernel_rfl) (by kernel_rfl) spec_Star_H (by kernel_rfl)

/-! ### impl.ConfOk -/
noncomputable def impl_ConfOk_C : List (Nat × Any) := [(83, impl_within_con)]
noncomputable def impl_ConfOk_H : Nat → Option Hint := look []
noncomputable def impl_ConfOk (c : D4) : Option (Args [(.bool, false)]) := runF Tryd.prog (look impl_ConfOk_C) F impl_ConfOk_H Tryd.f65 [(K4, true)] [(.bool, false)] 1 (c, ())
theorem impl_ConfOk_eq (c : D4) : impl_ConfOk F c = (impl_within F0 c.1 4 7).bind fun r5 => br r5.1 ((impl_within F0 c.2 1 6).bind fun r9 => some (r9.1, ())) (some (false, ())) := by kernel_rfl
noncomputable def impl_ConfOk_con : Any := .one ⟨[(K4, true)], [(.bool, false)], 1, fun x => impl_ConfOk F0 x.1⟩
theorem impl_ConfOk_ok : AnyOk Tryd.prog TB 65 impl_ConfOk_con := ok1 (show AllOk Tryd.prog TB impl_ConfOk_C from ⟨impl_within_ok, trivial⟩) Tryd.func65 (by kernel_rfl) (by kernel_rfl) impl_ConfOk_H (by kernel_rfl)

/-! ### slices.Index[[]int,int] -/
noncomputable def slices_Index_int_int_C : List (Nat × Any) := []
noncomputable def slices_Index_int_int_H : Nat → Option Hint := look [(2, { live := [0, 1, 7, 8], rl := [4] })]
noncomputable def slices_Index_int_int_1_s (s : List Int) (v : Int) (t7 : Int) (t8 : Int) : St := { nt := 19, tm := [(0, .v (.c (.ro false 3 (.int .i64) s))), (1, .v (.c (.int .i64 v))), (7, .v (.c (.int .i64 t7))), (8, .v (.c (.int .i64 t8)))], bx := [], bl := [] }
noncomputable def slices_Index_int_int_1_r (t4 : Int) : St := { nt := 19, tm := [(4, .v (.c (.int .i64 t4)))], bx := [], bl := [] }
noncomputable def slices_Index_int_int_1_e0  : St := { nt := 19, tm := [], bx := [], bl := [] }
noncomputable def slices_Index_int_int_1 (st : St) : Option α := lp Tryd.prog (look slices_Index_int_int_C) F slices_Index_int_int_H (sub [.r, .l, .r, .b, .i] (codeOf Tryd.f142)) κ n st
noncomputable def slices_Index_int_int_1_k : Ex → St → Option (Args [(.int .i64, false)]) := cont Tryd.prog (look slices_Index_int_int_C) F slices_Index_int_int_H [.r, .l, .r, .b] (codeOf Tryd.f142) (fin Tryd.prog Tryd.f142 [(.int .i64, false)] 1)
theorem slices_Index_int_int_1_step (s : List Int) (v : Int) (t7 : Int) (t8 : Int) : slices_Index_int_int_1 F κ (n + 1) (slices_Index_int_int_1_s s v t7 t8) = br (decide (t8 < t7)) (ck (okI t8 (s.length : Int)) (br (v == (at_ s t8 0)) (κ .ret (slices_Index_int_int_1_r t8)) (slices_Index_int_int_1 F κ n (slices_Index_int_int_1_s s v t7 (w64 (t8 + 1)))))) (κ (.exit 0) (slices_Index_int_int_1_e0 )) := by kernel_rfl
theorem slices_Index_int_int_1_cr (t4 : Int) : slices_Index_int_int_1_k F .ret (slices_Index_int_int_1_r t4) = some (t4, ()) := by kernel_rfl
theorem slices_Index_int_int_1_ce0  : slices_Index_int_int_1_k F (.exit 0) (slices_Index_int_int_1_e0 ) = some ((-1), ()) := by kernel_rfl
noncomputable def slices_Index_int_int (s : List Int) (v : Int) : Option (Args [(.int .i64, false)]) := runF Tryd.prog (look slices_Index_int_int_C) F slices_Index_int_int_H Tryd.f142 [(.sl 3 (.int .i64), false), (.int .i64, false)] [(.int .i64, false)] 1 (s, v, ())
theorem slices_Index_int_int_eq (s : List Int) (v : Int) : slices_Index_int_int F s v = slices_Index_int_int_1 F (slices_Index_int_int_1_k F) F.n (slices_Index_int_int_1_s s v (s.length : Int) 0) := by kernel_rfl
noncomputable def slices_Index_int_int_con : Any := .one ⟨[(.sl 3 (.int .i64), false), (.int .i64, false)], [(.int .i64, false)], 1, fun x => slices_Index_int_int F0 x.1 x.2.1⟩
theorem slices_Index_int_int_ok : AnyOk Tryd.prog TB 142 slices_Index_int_int_con := ok1 (show AllOk Tryd.prog TB slices_Index_int_int_C from trivial) Tryd.func142 (by kernel_rfl) (by kernel_rfl) slices_Index_int_int_H (by kernel_rfl)

/-! ### slices.Contains[[]int,int] -/
noncomputable def slices_Contains_int_int_C : List (Nat × Any) := [(142, slices_Index_int_int_con)]
noncomputable def slices_Contains_int_int_H : Nat → Option Hint := look []
noncomputable def slices_Contains_int_int (s : List Int) (v : Int) : Option (Args [(.bool, false)]) := runF Tryd.prog (look slices_Contains_int_int_C) F slices_Contains_int_int_H Tryd.f128 [(.sl 3 (.int .i64), false), (.int .i64, false)] [(.bool, false)] 1 (s, v, ())
theorem slices_Contains_int_int_eq (s : List Int) (v : Int) : slices_Contains_int_int F s v = (slices_Index_int_int F0 s v).bind fun r7 => some (decide (r7.1 ≥ 0), ()) := by kernel_rfl
noncomputable def slices_Contains_int_int_con : Any := .one ⟨[(.sl 3 (.int .i64), false), (.int .i64, false)], [(.bool, false)], 1, fun x => slices_Contains_int_int F0 x.1 x.2.1⟩
theorem slices_Contains_int_int_ok : AnyOk Tryd.prog TB 128 slices_Contains_int_int_con := ok1 (show AllOk Tryd.prog TB slices_Contains_int_int_C from ⟨slices_Index_int_int_ok, trivial⟩) Tryd.func128 (by kernel_rfl) (by kernel_rfl) slices_Contains_int_int_H (by kernel_rfl)

/-! ### impl.SetHas -/
noncomputable def impl_SetHas_C : List (Nat × Any) := [(128, slices_Contains_int_int_con)]
noncomputable def impl_SetHas_H : Nat → Option Hint := look []
noncomputable def impl_SetHas (s : List Int) (i : Int) : Option (Args [(.bool, false)]) := runF Tryd.prog (look impl_SetHas_C) F impl_SetHas_H Tryd.f115 [(.sl 3 (.int .i64), false), (.int .i64, false)] [(.bool, false)] 1 (s, i, ())
theorem impl_SetHas_eq (s : List Int) (i : Int) : impl_SetHas F s i = (slices_Contains_int_int F0 s i).bind fun r7 => some (r7.1, ()) := by kernel_rfl
noncomputable def impl_SetHas_con : Any := .one ⟨[(.sl 3 (.int .i64), false), (.int .i64, false)], [(.bool, false)], 1, fun x => impl_SetHas F0 x.1 x.2.1⟩
theorem impl_SetHas_ok : AnyOk Tryd.prog TB 115 impl_SetHas_con := ok1 (show AllOk Tryd.prog TB impl_SetHas_C from ⟨slices_Contains_int_int_ok, trivial⟩) Tryd.func115 (by kernel_rfl) (by kernel_rfl) impl_SetHas_H (by kernel_rfl)

/-! ### impl.SetAdd -/
noncomputable def impl_SetAdd_C : List (Nat × Any) := [(102, impl_copyInts_con), (115, impl_SetHas_con), (116, slices_IndexFunc_int_con), (118, slices_Insert_int_con)]
noncomputable def impl_SetAdd_H : Nat → Option Hint := look []
noncomputable def impl_SetAdd (s : List Int) (i : Int) : Option (Args [(.sl 3 (.int .i64), false)]) := runF Tryd.prog (look impl_SetAdd_C) F impl_SetAdd_H Tryd.f92 [(.sl 3 (.int .i64), false), (.int .i64, false)] [(.sl 3 (.int .i64), false)] 2 (s, i, ())
theorem impl_SetAdd_eq (s : List Int) (i : Int) : impl_SetAdd F s i = (impl_SetHas F0 s i).bind fun r8 => br r8.1 ((impl_copyInts F0 s).bind fun r10 => some (r10.1, ())) (br (decide ((idxL (fun e_ => geP e_ i) s 0) < 0)) ((impl_copyInts F0 s).bind fun r19 => ck (okIns (s.length : Int) r19.1.length [i].length) (some (r19.1.take (s.length : Int).toNat ++ [i] ++ r19.1.drop (s.length : Int).toNat, ()))) ((impl_copyInts F0 s).bind fun r19 => ck (okIns (idxL (fun e_ => geP e_ i) s 0) r19.1.length [i].length) (some (r19.1.take (idxL (fun e_ => geP e_ i) s 0).toNat ++ [i] ++ r19.1.drop (idxL (fun e_ => geP e_ i) s 0).toNat, ())))) := by kernel_rfl
noncomputable def impl_SetAdd_con : Any := .one ⟨[(.sl 3 (.int .i64), false), (.int .i64, false)], [(.sl 3 (.int .i64), false)], 2, fun x => impl_SetAdd F0 x.1 x.2.1⟩
theorem impl_SetAdd_ok : AnyOk Tryd.prog TB 92 impl_SetAdd_con := ok1 (show AllOk Tryd.prog TB impl_SetAdd_C from ⟨impl_copyInts_ok, impl_SetHas_ok, slices_IndexFunc_int_ok, slices_Insert_int_ok, trivial⟩) Tryd.func92 (by kernel_rfl) (by kernel_rfl) impl_SetAdd_H (by kernel_rfl)

/-! ### impl.replicasOf -/
noncomputable def impl_replicasOf_C : List (Nat × Any) := [(83, impl_within_con), (92, impl_SetAdd_con)]
noncomputable def impl_replicasOf_H : Nat → Option Hint := look [(3, { live := [2, 5, 8, 9, 10], mat := [(5, 3, .int .i64)], xl := [5], rl := [4] })]
noncomputable def impl_replicasOf_1_s (t8 : List Int) (t9 : Int) (t10 : Int) (c : Int) (c1 : Int) (xs : List Int) : St := { nt := 24, tm := [(2, .v (.c (.ptr 2 0))), (5, .v (.c (.own 1000000 none))), (8, .v (.c (.ro false 3 (.int .i64) t8))), (9, .v (.c (.int .i64 t9))), (10, .v (.c (.int .i64 t10)))], bx := [(2, [.int .i64 c, .int .i64 c1])], bl := [(1000000, some ⟨3, .int .i64, xs, true, true⟩)] }
noncomputable def impl_replicasOf_1_e0 (xs : List Int) : St := { nt := 24, tm := [(5, .v (.c (.own 1000000 none)))], bx := [], bl := [(1000000, some ⟨3, .int .i64, xs, true, true⟩)] }
noncomputable def impl_replicasOf_1 (st : St) : Option α := lp Tryd.prog (look impl_replicasOf_C) F impl_replicasOf_H (sub [.r, .r, .l, .r, .b, .i] (codeOf Tryd.f67)) κ n st
noncomputable def impl_replicasOf_1_k : Ex → St → Option (Args [(.sl 3 (.int .i64), false)]) := cont Tryd.prog (look impl_replicasOf_C) F impl_replicasOf_H [.r, .r, .l, .r, .b] (codeOf Tryd.f67) (fin Tryd.prog Tryd.f67 [(.sl 3 (.int .i64), false)] 2)
theorem impl_replicasOf_1_step (t8 : List Int) (t9 : Int) (t10 : Int) (c : Int) (c1 : Int) (xs : List Int) : impl_replicasOf_1 F κ (n + 1) (impl_replicasOf_1_s t8 t9 t10 c c1 xs) = br (decide (t10 < t9)) (ck (okI t10 (t8.length : Int)) ((impl_within F0 (at_ t8 t10 0) 0 (w64 (c - 1))).bind fun r18 => br r18.1 ((impl_SetAdd F0 xs (at_ t8 t10 0)).bind fun r21 => impl_replicasOf_1 F κ n (impl_replicasOf_1_s t8 t9 (w64 (t10 + 1)) c c1 r21.1)) (impl_replicasOf_1 F κ n (impl_replicasOf_1_s t8 t9 (w64 (t10 + 1)) c c1 xs)))) (κ (.exit 0) (impl_replicasOf_1_e0 xs)) := by kernel_rfl
theorem impl_replicasOf_1_ce0 (xs : List Int) : impl_replicasOf_1_k F (.exit 0) (impl_replicasOf_1_e0 xs) = some (xs, ()) := by kernel_rfl
noncomputable def impl_replicasOf (c : D4) (who : List Int) : Option (Args [(.sl 3 (.int .i64), false)]) := runF Tryd.prog (look impl_replicasOf_C) F impl_replicasOf_H Tryd.f67 [(K4, true), (.sl 3 (.int .i64), false)] [(.sl 3 (.int .i64), false)] 2 (c, who, ())
theorem impl_replicasOf_eq (c : D4) (who : List Int) : impl_replicasOf F c who = impl_replicasOf_1 F (impl_replicasOf_1_k F) F.n (impl_replicasOf_1_s who (who.length : Int) 0 c.1 c.2 []) := by kernel_rfl
noncomputable def impl_replicasOf_con : Any := .one ⟨[(K4, true), (.sl 3 (.int .i64), false)], [(.sl 3 (.int .i64), false)], 2, fun x => impl_replicasOf F0 x.1 x.2.1⟩
theorem impl_replicasOf_ok : AnyOk Tryd.prog TB 67 impl_replicasOf_con := ok1 (show AllOk Tryd.prog TB impl_replicasOf_C from ⟨impl_within_ok, impl_SetAdd_ok, trivial⟩) Tryd.func67 (by kernel_rfl) (by kernel_rfl) impl_replicasOf_H (by kernel_rfl)

/-! ### impl.copyQc -/
noncomputable def impl_copyQc_C : List (Nat × Any) := [(102, impl_copyInts_con)]
noncomputable def impl_copyQc_H : Nat → Option Hint := look []
noncomputable def impl_copyQc (q : D3) : Option (Args [(K3, true)]) := runF Tryd.prog (look impl_copyQc_C) F impl_copyQc_H Tryd.f90 [(K3, true)] [(K3, true)] 2 (q, ())
theorem impl_copyQc_eq (q : D3) : impl_copyQc F q = (impl_copyInts F0 q.2.2).bind fun r5 => some ((q.1, (q.2.1, r5.1)), ()) := by kernel_rfl
noncomputable def impl_copyQc_con : Any := .one ⟨[(K3, true)], [(K3, true)], 2, fun x => impl_copyQc F0 x.1⟩
theorem impl_copyQc_ok : AnyOk Tryd.prog TB 90 impl_copyQc_con := ok1 (show AllOk Tryd.prog TB impl_copyQc_C from ⟨impl_copyInts_ok, trivial⟩) Tryd.func90 (by kernel_rfl) (by kernel_rfl) impl_copyQc_H (by kernel_rfl)

/-! ### impl.QcFirst -/
noncomputable def impl_QcFirst_C : List (Nat × Any) := []
noncomputable def impl_QcFirst_H : Nat → Option Hint := look []
noncomputable def impl_QcFirst  : Option (Args [(K3, true)]) := runF Tryd.prog (look impl_QcFirst_C) F impl_QcFirst_H Tryd.f110 [] [(K3, true)] 2 (())
theorem impl_QcFirst_eq  : impl_QcFirst F  = some ((0, ((ByteArray.mk #[]), [])), ()) := by kernel_rfl
noncomputable def impl_QcFirst_con : Any := .one ⟨[], [(K3, true)], 2, fun x => impl_QcFirst F0 ⟩
theorem impl_QcFirst_ok : AnyOk Tryd.prog TB 110 impl_QcFirst_con := ok1 (show AllOk Tryd.prog TB impl_QcFirst_C from trivial) Tryd.func110 (by kernel_rfl) (by kernel_rfl) impl_QcFirst_H (by kernel_rfl)

/-! ### slices.Equal[[]int,int] -/
noncomputable def slices_Equal_int_int_C : List (Nat × Any) := []
noncomputable def slices_Equal_int_int_H : Nat → Option Hint := look [(4, { live := [0, 1, 12, 13], rl := [4] })]
noncomputable def slices_Equal_int_int_1_s (s1 : List Int) (s2 : List Int) (t12 : Int) (t13 : Int) : St := { nt := 26, tm := [(0, .v (.c (.ro false 3 (.int .i64) s1))), (1, .v (.c (.ro false 3 (.int .i64) s2))), (12, .v (.c (.int .i64 t12))), (13, .v (.c (.int .i64 t13)))], bx := [], bl := [] }
noncomputable def slices_Equal_int_int_1_r (t4 : Bool) : St := { nt := 26, tm := [(4, .v (.c (.bool t4)))], bx := [], bl := [] }
noncomputable def slices_Equal_int_int_1_e0  : St := { nt := 26, tm := [], bx := [], bl := [] }
noncomputable def slices_Equal_int_int_1 (st : St) : Option α := lp Tryd.prog (look slices_Equal_int_int_C) F slices_Equal_int_int_H (sub [.r, .r, .l, .r, .b, .i] (codeOf Tryd.f126)) κ n st
noncomputable def slices_Equal_int_int_1_k : Ex → St → Option (Args [(.bool, false)]) := cont Tryd.prog (look slices_Equal_int_int_C) F slices_Equal_int_int_H [.r, .r, .l, .r, .b] (codeOf Tryd.f126) (fin Tryd.prog Tryd.f126 [(.bool, false)] 1)
theorem slices_Equal_int_int_1_step (s1 : List Int) (s2 : List Int) (t12 : Int) (t13 : Int) : slices_Equal_int_int_1 F κ (n + 1) (slices_Equal_int_int_1_s s1 s2 t12 t13) = br (decide (t13 < t12)) (ck (okI t13 (s1.length : Int)) (ck (okI t13 (s2.length : Int)) (br ((at_ s1 t13 0) != (at_ s2 t13 0)) (κ .ret (slices_Equal_int_int_1_r false)) (slices_Equal_int_int_1 F κ n (slices_Equal_int_int_1_s s1 s2 t12 (w64 (t13 + 1))))))) (κ (.exit 0) (slices_Equal_int_int_1_e0 )) := by kernel_rfl
theorem slices_Equal_int_int_1_cr (t4 : Bool) : slices_Equal_int_int_1_k F .ret (slices_Equal_int_int_1_r t4) = some (t4, ()) := by kernel_rfl
theorem slices_Equal_int_int_1_ce0  : slices_Equal_int_int_1_k F (.exit 0) (slices_Equal_int_int_1_e0 ) = some (true, ()) := by kernel_rfl
noncomputable def slices_Equal_int_int (s1 : List Int) (s2 : List Int) : Option (Args [(.bool, false)]) := runF Tryd.prog (look slices_Equal_int_int_C) F slices_Equal_int_int_H Tryd.f126 [(.sl 3 (.int .i64), false), (.sl 3 (.int .i64), false)] [(.bool, false)] 1 (s1, s2, ())
theorem slices_Equal_int_int_eq (s1 : List Int) (s2 : List Int) : slices_Equal_int_int F s1 s2 = br ((s1.length : Int) != (s2.length : Int)) (some (false, ())) (slices_Equal_int_int_1 F (slices_Equal_int_int_1_k F) F.n (slices_Equal_int_int_1_s s1 s2 (s1.length : Int) 0)) := by kernel_rfl
noncomputable def slices_Equal_int_int_con : Any := .one ⟨[(.sl 3 (.int .i64), false), (.sl 3 (.int .i64), false)], [(.bool, false)], 1, fun x => slices_Equal_int_int F0 x.1 x.2.1⟩
theorem slices_Equal_int_int_ok : AnyOk Tryd.prog TB 126 slices_Equal_int_int_con := ok1 (show AllOk Tryd.prog TB slices_Equal_int_int_C from trivial) Tryd.func126 (by kernel_rfl) (by kernel_rfl) slices_Equal_int_int_H (by kernel_rfl)

/-! ### impl.QcSame -/
noncomputable def impl_QcSame_C : List (Nat × Any) := [(126, slices_Equal_int_int_con)]
noncomputable def impl_QcSame_H : Nat → Option Hint := look []
noncomputable def impl_QcSame (a : D3) (b : D3) : Option (Args [(.bool, false)]) := runF Tryd.prog (look impl_QcSame_C) F impl_QcSame_H Tryd.f109 [(K3, true), (K3, true)] [(.bool, false)] 1 (a, b, ())
theorem impl_QcSame_eq (a : D3) (b : D3) : impl_QcSame F a b = br (a.1 == b.1) (br (a.2.1.toList == b.2.1.toList) ((slices_Equal_int_int F0 a.2.2 b.2.2).bind fun r22 => some (r22.1, ())) (some (false, ()))) (some (false, ())) := by kernel_rfl
noncomputable def impl_QcSame_con : Any := .one ⟨[(K3, true), (K3, true)], [(.bool, false)], 1, fun x => impl_QcSame F0 x.1 x.2.1⟩
theorem impl_QcSame_ok : AnyOk Tryd.prog TB 109 impl_QcSame_con := ok1 (show AllOk Tryd.prog TB impl_QcSame_C from ⟨slices_Equal_int_int_ok, trivial⟩) Tryd.func109 (by kernel_rfl) (by kernel_rfl) impl_QcSame_H (by kernel_rfl)

/-! ### impl.NameOk -/
noncomputable def impl_NameOk_C : List (Nat × Any) := [(56, impl_Steps_con)]
noncomputable def impl_NameOk_H : Nat → Option Hint := look []
noncomputable def impl_NameOk (s : ByteArray) : Option (Args [(.bool, false)]) := runF Tryd.prog (look impl_NameOk_C) F impl_NameOk_H Tryd.f111 [(.str, false)] [(.bool, false)] 1 (s, ())
theorem impl_NameOk_eq (s : ByteArray) : impl_NameOk F s = (impl_Steps F0 s).bind fun r7 => some (r7.2.1, ()) := by kernel_rfl
noncomputable def impl_NameOk_con : Any := .one ⟨[(.str, false)], [(.bool, false)], 1, fun x => impl_NameOk F0 x.1⟩
theorem impl_NameOk_ok : AnyOk Tryd.prog TB 111 impl_NameOk_con := ok1 (show AllOk Tryd.prog TB impl_NameOk_C from ⟨impl_Steps_ok, trivial⟩) Tryd.func111 (by kernel_rfl) (by kernel_rfl) impl_NameOk_H (by kernel_rfl)

/-! ### impl.ViewOf -/
noncomputable def impl_ViewOf_C : List (Nat × Any) := [(56, impl_Steps_con)]
noncomputable def impl_ViewOf_H : Nat → Option Hint := look []
noncomputable def impl_ViewOf (s : ByteArray) : Option (Args [(.int .i64, false)]) := runF Tryd.prog (look impl_ViewOf_C) F impl_ViewOf_H Tryd.f112 [(.str, false)] [(.int .i64, false)] 1 (s, ())
theorem impl_ViewOf_eq (s : ByteArray) : impl_ViewOf F s = (impl_Steps F0 s).bind fun r7 => br ((r7.1.length : Int) == 0) (some (0, ())) (ck (okI (w64 ((r7.1.length : Int) - 1)) (r7.1.length : Int)) (some ((at_ r7.1 (w64 ((r7.1.length : Int) - 1)) (0, [])).1, ()))) := by kernel_rfl
noncomputable def impl_ViewOf_con : Any := .one ⟨[(.str, false)], [(.int .i64, false)], 1, fun x => impl_ViewOf F0 x.1⟩
theorem impl_ViewOf_ok : AnyOk Tryd.prog TB 112 impl_ViewOf_con := ok1 (show AllOk Tryd.prog TB impl_ViewOf_C from ⟨impl_Steps_ok, trivial⟩) Tryd.func112 (by kernel_rfl) (by kernel_rfl) impl_ViewOf_H (by kernel_rfl)

/-! ### impl.SetOk -/
noncomputable def impl_SetOk_C : List (Nat × Any) := []
noncomputable def impl_SetOk_H : Nat → Option Hint := look [(2, { live := [0, 1, 7, 8, 9], rl := [4] })]
noncomputable def impl_SetOk_1_s (n1 : Int) (s : List Int) (t7 : List Int) (t8 : Int) (t9 : Int) : St := { nt := 35, tm := [(0, .v (.c (.int .i64 n1))), (1, .v (.c (.ro false 3 (.int .i64) s))), (7, .v (.c (.ro false 3 (.int .i64) t7))), (8, .v (.c (.int .i64 t8))), (9, .v (.c (.int .i64 t9)))], bx := [], bl := [] }
noncomputable def impl_SetOk_1_r (t4 : Bool) : St := { nt := 35, tm := [(4, .v (.c (.bool t4)))], bx := [], bl := [] }
noncomputable def impl_SetOk_1_e0  : St := { nt := 35, tm := [], bx := [], bl := [] }
noncomputable def impl_SetOk_1 (st : St) : Option α := lp Tryd.prog (look impl_SetOk_C) F impl_SetOk_H (sub [.r, .l, .r, .b, .i] (codeOf Tryd.f113)) κ n st
noncomputable def impl_SetOk_1_k : Ex → St → Option (Args [(.bool, false)]) := cont Tryd.prog (look impl_SetOk_C) F impl_SetOk_H [.r, .l, .r, .b] (codeOf Tryd.f113) (fin Tryd.prog Tryd.f113 [(.bool, false)] 1)
theorem impl_SetOk_1_step (n1 : Int) (s : List Int) (t7 : List Int) (t8 : Int) (t9 : Int) : impl_SetOk_1 F κ (n + 1) (impl_SetOk_1_s n1 s t7 t8 t9) = br (decide (t9 < t8)) (ck (okI t9 (t7.length : Int)) (br (decide ((at_ t7 t9 0) < 0)) (κ .ret (impl_SetOk_1_r false)) (br (decide ((at_ t7 t9 0) ≥ n1)) (κ .ret (impl_SetOk_1_r false)) (br (decide (t9 > 0)) (ck (okI (w64 (t9 - 1)) (s.length : Int)) (br (decide ((at_ s (w64 (t9 - 1)) 0) ≥ (at_ t7 t9 0))) (κ .ret (impl_SetOk_1_r false)) (impl_SetOk_1 F κ n (impl_SetOk_1_s n1 s t7 t8 (w64 (t9 + 1)))))) (impl_SetOk_1 F κ n (impl_SetOk_1_s n1 s t7 t8 (w64 (t9 + 1)))))))) (κ (.exit 0) (impl_SetOk_1_e0 )) := by kernel_rfl
theorem impl_SetOk_1_cr (t4 : Bool) : impl_SetOk_1_k F .ret (impl_SetOk_1_r t4) = some (t4, ()) := by kernel_rfl
theorem impl_SetOk_1_ce0  : impl_SetOk_1_k F (.exit 0) (impl_SetOk_1_e0 ) = some (true, ()) := by kernel_rfl
noncomputable def impl_SetOk (n1 : Int) (s : List Int) : Option (Args [(.bool, false)]) := runF Tryd.prog (look impl_SetOk_C) F impl_SetOk_H Tryd.f113 [(.int .i64, false), (.sl 3 (.int .i64), false)] [(.bool, false)] 1 (n1, s, ())
theorem impl_SetOk_eq (n1 : Int) (s : List Int) : impl_SetOk F n1 s = impl_SetOk_1 F (impl_SetOk_1_k F) F.n (impl_SetOk_1_s n1 s s (s.length : Int) 0) := by kernel_rfl
noncomputable def impl_SetOk_con : Any := .one ⟨[(.int .i64, false), (.sl 3 (.int .i64), false)], [(.bool, false)], 1, fun x => impl_SetOk F0 x.1 x.2.1⟩
theorem impl_SetOk_ok : AnyOk Tryd.prog TB 113 impl_SetOk_con := ok1 (show AllOk Tryd.prog TB impl_SetOk_C from trivial) Tryd.func113 (by kernel_rfl) (by kernel_rfl) impl_SetOk_H (by kernel_rfl)

/-! ### impl.Faults -/
noncomputable def impl_Faults_C : List (Nat × Any) := [(65, impl_ConfOk_con)]
noncomputable def impl_Faults_H : Nat → Option Hint := look []
noncomputable def impl_Faults (c : D4) : Option (Args [(.int .i64, false)]) := runF Tryd.prog (look impl_Faults_C) F impl_Faults_H Tryd.f127 [(K4, true)] [(.int .i64, false)] 1 (c, ())
theorem impl_Faults_eq (c : D4) : impl_Faults F c = (impl_ConfOk F0 c).bind fun r4 => br (!r4.1) (some (0, ())) (some (w64 (Int.tdiv (w64 (c.1 - 1)) 3), ())) := by kernel_rfl
noncomputable def impl_Faults_con : Any := .one ⟨[(K4, true)], [(.int .i64, false)], 1, fun x => impl_Faults F0 x.1⟩
theorem impl_Faults_ok : AnyOk Tryd.prog TB 127 impl_Faults_con := ok1 (show AllOk Tryd.prog TB impl_Faults_C from ⟨impl_ConfOk_ok, trivial⟩) Tryd.func127 (by kernel_rfl) (by kernel_rfl) impl_Faults_H (by kernel_rfl)

/-! ### impl.Quorum -/
noncomputable def impl_Quorum_C : List (Nat × Any) := [(65, impl_ConfOk_con), (127, impl_Faults_con)]
noncomputable def impl_Quorum_H : Nat → Option Hint := look []
noncomputable def impl_Quorum (c : D4) : Option (Args [(.int .i64, false)]) := runF Tryd.prog (look impl_Quorum_C) F impl_Quorum_H Tryd.f114 [(K4, true)] [(.int .i64, false)] 1 (c, ())
theorem impl_Quorum_eq (c : D4) : impl_Quorum F c = (impl_ConfOk F0 c).bind fun r4 => br (!r4.1) (some (0, ())) ((impl_Faults F0 c).bind fun r9 => some (w64 (c.1 - r9.1), ())) := by kernel_rfl
noncomputable def impl_Quorum_con : Any := .one ⟨[(K4, true)], [(.int .i64, false)], 1, fun x => impl_Quorum F0 x.1⟩
theorem impl_Quorum_ok : AnyOk Tryd.prog TB 114 impl_Quorum_con := ok1 (show AllOk Tryd.prog TB impl_Quorum_C from ⟨impl_ConfOk_ok, impl_Faults_ok, trivial⟩) Tryd.func114 (by kernel_rfl) (by kernel_rfl) impl_Quorum_H (by kernel_rfl)

/-! ### impl.QcOk -/
noncomputable def impl_QcOk_C : List (Nat × Any) := [(65, impl_ConfOk_con), (109, impl_QcSame_con), (110, impl_QcFirst_con), (111, impl_NameOk_con), (112, impl_ViewOf_con), (113, impl_SetOk_con), (114, impl_Quorum_con)]
noncomputable def impl_QcOk_H : Nat → Option Hint := look []
noncomputable def impl_QcOk (c : D4) (q : D3) : Option (Args [(.bool, false)]) := runF Tryd.prog (look impl_QcOk_C) F impl_QcOk_H Tryd.f91 [(K4, true), (K3, true)] [(.bool, false)] 1 (c, q, ())
theorem impl_QcOk_eq (c : D4) (q : D3) : impl_QcOk F c q = (impl_ConfOk F0 c).bind fun r6 => br (!r6.1) (some (false, ())) ((impl_QcFirst F0 ).bind fun r9 => (impl_QcSame F0 q r9.1).bind fun r10 => br r10.1 (some (true, ())) (br (decide (q.1 ≥ 1)) ((impl_NameOk F0 q.2.1).bind fun r18 => br r18.1 ((impl_ViewOf F0 q.2.1).bind fun r25 => br (q.1 == r25.1) ((impl_SetOk F0 c.1 q.2.2).bind fun r33 => br r33.1 ((impl_Quorum F0 c).bind fun r40 => some (decide ((q.2.2.length : Int) ≥ r40.1), ())) (some (false, ()))) (some (false, ()))) (some (false, ()))) (some (false, ())))) := by kernel_rfl
noncomputable def impl_QcOk_con : Any := .one ⟨[(K4, true), (K3, true)], [(.bool, false)], 1, fun x => impl_QcOk F0 x.1 x.2.1⟩
theorem impl_QcOk_ok : AnyOk Tryd.prog TB 91 impl_QcOk_con := ok1 (show AllOk Tryd.prog TB impl_QcOk_C from ⟨impl_ConfOk_ok, impl_QcSame_ok, impl_QcFirst_ok, impl_NameOk_ok, impl_ViewOf_ok, impl_SetOk_ok, impl_Quorum_ok, trivial⟩) Tryd.func91 (by kernel_rfl) (by kernel_rfl) impl_QcOk_H (by kernel_rfl)

/-! ### impl.PartQc -/
noncomputable def impl_PartQc_C : List (Nat × Any) := [(90, impl_copyQc_con), (91, impl_QcOk_con)]
noncomputable def impl_PartQc_H : Nat → Option Hint := look []
noncomputable def impl_PartQc (c : D4) (p : D3) : Option (Args [(K3, true), (.bool, false)]) := runF Tryd.prog (look impl_PartQc_C) F impl_PartQc_H Tryd.f66 [(K4, true), (K3, true)] [(K3, true), (.bool, false)] 2 (c, p, ())
theorem impl_PartQc_eq (c : D4) (p : D3) : impl_PartQc F c p = (impl_copyQc F0 p).bind fun r14 => (impl_QcOk F0 c r14.1).bind fun r17 => br (!r17.1) (some ((0, ((ByteArray.mk #[]), [])), false, ())) (br (r14.1.1 == 0) (some ((0, ((ByteArray.mk #[]), [])), false, ())) (some (r14.1, true, ()))) := by kernel_rfl
noncomputable def impl_PartQc_con : Any := .one ⟨[(K4, true), (K3, true)], [(K3, true), (.bool, false)], 2, fun x => impl_PartQc F0 x.1 x.2.1⟩
theorem impl_PartQc_ok : AnyOk Tryd.prog TB 66 impl_PartQc_con := ok1 (show AllOk Tryd.prog TB impl_PartQc_C from ⟨impl_copyQc_ok, impl_QcOk_ok, trivial⟩) Tryd.func66 (by kernel_rfl) (by kernel_rfl) impl_PartQc_H (by kernel_rfl)

/-! ### impl.Star -/
noncomputable def impl_Star_C : List (Nat × Any) := [(65, impl_ConfOk_con), (66, impl_PartQc_con), (67, impl_replicasOf_con)]
noncomputable def impl_Star_H : Nat → Option Hint := look []
noncomputable def impl_Star (c : D4) (view : Int) (name : ByteArray) (who : List Int) : Option (Args [(K3, true), (.bool, false)]) := runF Tryd.prog (look impl_Star_C) F impl_Star_H Tryd.f43 [(K4, true), (.int .i64, false), (.str, false), (.sl 3 (.int .i64), false)] [(K3, true), (.bool, false)] 2 (c, view, name, who, ())
theorem impl_Star_eq (c : D4) (view : Int) (name : ByteArray) (who : List Int) : impl_Star F c view name who = (impl_ConfOk F0 c).bind fun r11 => br (!r11.1) (some ((0, ((ByteArray.mk #[]), [])), false, ())) (br (decide (view < 0)) (some ((0, ((ByteArray.mk #[]), [])), false, ())) ((impl_replicasOf F0 c who).bind fun r23 => (impl_PartQc F0 c (view, (name, r23.1))).bind fun r25 => some (r25.1, r25.2.1, ()))) := by kernel_rfl
noncomputable def impl_Star_con : Any := .one ⟨[(K4, true), (.int .i64, false), (.str, false), (.sl 3 (.int .i64), false)], [(K3, true), (.bool, false)], 2, fun x => impl_Star F0 x.1 x.2.1 x.2.2.1 x.2.2.2.1⟩
theorem impl_Star_ok : AnyOk Tryd.prog TB 43 impl_Star_con := ok1 (show AllOk Tryd.prog TB impl_Star_C from ⟨impl_ConfOk_ok, impl_PartQc_ok, impl_replicasOf_ok, trivial⟩) Tryd.func43 (by kernel_rfl) (by kernel_rfl) impl_Star_H (by kernel_rfl)

/-! ### laws.markIntS -/
noncomputable def laws_markIntS_C : List (Nat × Any) := []
noncomputable def laws_markIntS_H : Nat → Option Hint := look [(2, { live := [0, 1, 5], xl := [1], rl := [4] })]
noncomputable def laws_markIntS_1_s (k : Int) (i : Int) (xs : List Int) : St := { nt := 19, tm := [(0, .v (.c (.own 1000000 none))), (1, .v (.c (.int .i64 k))), (5, .v (.c (.int .i64 i)))], bx := [], bl := [(1000000, some ⟨3, .int .i64, xs, true, true⟩)], sp := .v (.c (.own 1000000 none)) }
noncomputable def laws_markIntS_1_e0 (k : Int) (xs : List Int) : St := { nt := 19, tm := [(1, .v (.c (.int .i64 k)))], bx := [], bl := [(1000000, some ⟨3, .int .i64, xs, true, true⟩)], sp := .v (.c (.own 1000000 none)) }
noncomputable def laws_markIntS_1 (st : St) : Option α := lp Tryd.prog (look laws_markIntS_C) F laws_markIntS_H (sub [.r, .l, .r, .b, .i] (codeOf Tryd.f44)) κ n st
noncomputable def laws_markIntS_1_k : Ex → St → Option (Args [(.int .i64, false)] × Args [(.sl 3 (.int .i64), false)]) := cont Tryd.prog (look laws_markIntS_C) F laws_markIntS_H [.r, .l, .r, .b] (codeOf Tryd.f44) (fin2 Tryd.prog Tryd.f44 (.own true) [(.int .i64, false)] [(.sl 3 (.int .i64), false)] 2)
theorem laws_markIntS_1_step (k : Int) (i : Int) (xs : List Int) : laws_markIntS_1 F κ (n + 1) (laws_markIntS_1_s k i xs) = br (decide (i < (xs.length : Int))) (ck (okI i (xs.length : Int)) (laws_markIntS_1 F κ n (laws_markIntS_1_s (w64 (k + 1)) (w64 (i + 1)) (xs.set i.toNat k)))) (κ (.exit 0) (laws_markIntS_1_e0 k xs)) := by kernel_rfl
theorem laws_markIntS_1_ce0 (k : Int) (xs : List Int) : laws_markIntS_1_k F (.exit 0) (laws_markIntS_1_e0 k xs) = some ((k, ()), (xs, ())) := by kernel_rfl
noncomputable def laws_markIntS (a : List Int) (k : Int) : Option (Args [(.int .i64, false)] × Args [(.sl 3 (.int .i64), false)]) := runF2 Tryd.prog (look laws_markIntS_C) F laws_markIntS_H Tryd.f44 [(.sl 3 (.int .i64), false), (.int .i64, false)] 0 (.own true) [(.int .i64, false)] [(.sl 3 (.int .i64), false)] 2 (a, k, ())
theorem laws_markIntS_eq (a : List Int) (k : Int) : laws_markIntS F a k = laws_markIntS_1 F (laws_markIntS_1_k F) F.n (laws_markIntS_1_s k 0 a) := by kernel_rfl
noncomputable def laws_markIntS_con : Any := .two ⟨[(.sl 3 (.int .i64), false), (.int .i64, false)], 0, (.own true), [(.int .i64, false)], 2, [(.sl 3 (.int .i64), false)], fun x => laws_markIntS F0 x.1 x.2.1⟩
theorem laws_markIntS_ok : AnyOk Tryd.prog TB 44 laws_markIntS_con := ok3 (show AllOk Tryd.prog TB laws_markIntS_C from trivial) Tryd.func44 (by kernel_rfl) (by kernel_rfl) laws_markIntS_H (by kernel_rfl) (by kernel_rfl)

/-! ### laws.markQc -/
noncomputable def laws_markQc_C : List (Nat × Any) := [(44, laws_markIntS_con)]
noncomputable def laws_markQc_H : Nat → Option Hint := look []
noncomputable def laws_markQc (a : D3) (k : Int) : Option (Args [(.int .i64, false)] × Args [(K3, true)]) := runF2 Tryd.prog (look laws_markQc_C) F laws_markQc_H Tryd.f45 [(K3, true), (.int .i64, false)] 0 (.own true) [(.int .i64, false)] [(K3, true)] 2 (a, k, ())
theorem laws_markQc_eq (a : D3) (k : Int) : laws_markQc F a k = (laws_markIntS F0 a.2.2 k).bind fun r8 => some ((r8.1.1, ()), ((a.1, (a.2.1, r8.2.1)), ())) := by kernel_rfl
noncomputable def laws_markQc_con : Any := .two ⟨[(K3, true), (.int .i64, false)], 0, (.own true), [(.int .i64, false)], 2, [(K3, true)], fun x => laws_markQc F0 x.1 x.2.1⟩
theorem laws_markQc_ok : AnyOk Tryd.prog TB 45 laws_markQc_con := ok3 (show AllOk Tryd.prog TB laws_markQc_C from ⟨laws_markIntS_ok, trivial⟩) Tryd.func45 (by kernel_rfl) (by kernel_rfl) laws_markQc_H (by kernel_rfl) (by kernel_rfl)

/-! ### laws.heldIntS -/
noncomputable def laws_heldIntS_C : List (Nat × Any) := []
noncomputable def laws_heldIntS_H : Nat → Option Hint := look [(2, { live := [0, 1, 5], xl := [1], rl := [4] })]
noncomputable def laws_heldIntS_1_s (a : List Int) (k : Int) (i : Int) : St := { nt := 21, tm := [(0, .v (.c (.ro false 3 (.int .i64) a))), (1, .v (.c (.int .i64 k))), (5, .v (.c (.int .i64 i)))], bx := [], bl := [] }
noncomputable def laws_heldIntS_1_r (t4 : Int) : St := { nt := 21, tm := [(4, .v (.c (.int .i64 t4)))], bx := [], bl := [] }
noncomputable def laws_heldIntS_1_e0 (k : Int) : St := { nt := 21, tm := [(1, .v (.c (.int .i64 k)))], bx := [], bl := [] }
noncomputable def laws_heldIntS_1 (st : St) : Option α := lp Tryd.prog (look laws_heldIntS_C) F laws_heldIntS_H (sub [.r, .l, .r, .b, .i] (codeOf Tryd.f68)) κ n st
noncomputable def laws_heldIntS_1_k : Ex → St → Option (Args [(.int .i64, false)]) := cont Tryd.prog (look laws_heldIntS_C) F laws_heldIntS_H [.r, .l, .r, .b] (codeOf Tryd.f68) (fin Tryd.prog Tryd.f68 [(.int .i64, false)] 1)
theorem laws_heldIntS_1_step (a : List Int) (k : Int) (i : Int) : laws_heldIntS_1 F κ (n + 1) (laws_heldIntS_1_s a k i) = br (decide (i < (a.length : Int))) (ck (okI i (a.length : Int)) (br ((at_ a i 0) != k) (κ .ret (laws_heldIntS_1_r (-1))) (laws_heldIntS_1 F κ n (laws_heldIntS_1_s a (w64 (k + 1)) (w64 (i + 1)))))) (κ (.exit 0) (laws_heldIntS_1_e0 k)) := by kernel_rfl
theorem laws_heldIntS_1_cr (t4 : Int) : laws_heldIntS_1_k F .ret (laws_heldIntS_1_r t4) = some (t4, ()) := by kernel_rfl
theorem laws_heldIntS_1_ce0 (k : Int) : laws_heldIntS_1_k F (.exit 0) (laws_heldIntS_1_e0 k) = some (k, ()) := by kernel_rfl
noncomputable def laws_heldIntS (a : List Int) (k : Int) : Option (Args [(.int .i64, false)]) := runF Tryd.prog (look laws_heldIntS_C) F laws_heldIntS_H Tryd.f68 [(.sl 3 (.int .i64), false), (.int .i64, false)] [(.int .i64, false)] 1 (a, k, ())
theorem laws_heldIntS_eq (a : List Int) (k : Int) : laws_heldIntS F a k = laws_heldIntS_1 F (laws_heldIntS_1_k F) F.n (laws_heldIntS_1_s a k 0) := by kernel_rfl
noncomputable def laws_heldIntS_con : Any := .one ⟨[(.sl 3 (.int .i64), false), (.int .i64, false)], [(.int .i64, false)], 1, fun x => laws_heldIntS F0 x.1 x.2.1⟩
theorem laws_heldIntS_ok : AnyOk Tryd.prog TB 68 laws_heldIntS_con := ok1 (show AllOk Tryd.prog TB laws_heldIntS_C from trivial) Tryd.func68 (by kernel_rfl) (by kernel_rfl) laws_heldIntS_H (by kernel_rfl)

/-! ### laws.heldQc -/
noncomputable def laws_heldQc_C : List (Nat × Any) := [(68, laws_heldIntS_con)]
noncomputable def laws_heldQc_H : Nat → Option Hint := look []
noncomputable def laws_heldQc (a : D3) (k : Int) : Option (Args [(.int .i64, false)]) := runF Tryd.prog (look laws_heldQc_C) F laws_heldQc_H Tryd.f46 [(K3, true), (.int .i64, false)] [(.int .i64, false)] 1 (a, k, ())
theorem laws_heldQc_eq (a : D3) (k : Int) : laws_heldQc F a k = (laws_heldIntS F0 a.2.2 k).bind fun r8 => br (decide (r8.1 < 0)) (some ((-1), ())) (some (r8.1, ())) := by kernel_rfl
noncomputable def laws_heldQc_con : Any := .one ⟨[(K3, true), (.int .i64, false)], [(.int .i64, false)], 1, fun x => laws_heldQc F0 x.1 x.2.1⟩
theorem laws_heldQc_ok : AnyOk Tryd.prog TB 46 laws_heldQc_con := ok1 (show AllOk Tryd.prog TB laws_heldQc_C from ⟨laws_heldIntS_ok, trivial⟩) Tryd.func46 (by kernel_rfl) (by kernel_rfl) laws_heldQc_H (by kernel_rfl)

/-! ### laws.FnExactStar -/
noncomputable def laws_FnExactStar_C : List (Nat × Any) := [(11, laws_toIntS_con), (13, laws_eqIntS_con), (28, laws_eqQc_con), (41, spec_Star_con), (42, laws_toConf_con), (43, impl_Star_con), (44, laws_markIntS_con), (45, laws_markQc_con), (46, laws_heldQc_con)]
noncomputable def laws_FnExactStar_H : Nat → Option Hint := look []
noncomputable def laws_FnExactStar (aC : D4) (aView : Int) (aName : ByteArray) (aWho : List Int) : Option (Args [(.bool, false)]) := runF Tryd.prog (look laws_FnExactStar_C) F laws_FnExactStar_H Tryd.f9 [(K4, true), (.int .i64, false), (.str, false), (.sl 3 (.int .i64), false)] [(.bool, false)] 1 (aC, aView, aName, aWho, ())
theorem laws_FnExactStar_eq (aC : D4) (aView : Int) (aName : ByteArray) (aWho : List Int) : laws_FnExactStar F aC aView aName aWho = br (decide ((aName.size : Int) > 1048576)) (some (true, ())) (br (decide ((aWho.length : Int) > 1048576)) (some (true, ())) ((laws_toConf F0 aC).bind fun r27 => (laws_toIntS F0 aWho).bind fun r31 => (spec_Star F0 r27.1 aView aName r31.1).bind fun r32 => (laws_toIntS F0 aWho).bind fun r36 => (laws_toConf F0 aC).bind fun r39 => (impl_Star F0 r39.1 aView aName r36.1).bind fun r43 => (laws_eqQc F0 r43.1 r32.1).bind fun r48 => br (!r48.1) (some (false, ())) (br (!(r43.2.1 == r32.2.1)) (some (false, ())) ((laws_toIntS F0 aWho).bind fun r57 => (laws_eqIntS F0 r36.1 r57.1).bind fun r58 => br (!r58.1) (some (false, ())) ((laws_markIntS F0 r36.1 1).bind fun r62 => br (decide (r62.1.1 < 0)) (some (false, ())) ((laws_eqQc F0 r43.1 r32.1).bind fun r68 => br (!r68.1) (some (false, ())) (br (!(r43.2.1 == r32.2.1)) (some (false, ())) ((laws_markQc F0 r43.1 1).bind fun r78 => (laws_heldQc F0 (r43.1.1, (r43.1.2.1, r78.2.1.2.2)) 1).bind fun r81 => br (decide (r81.1 < 0)) (some (false, ())) (br (r81.1 != r78.1.1) (some (false, ())) ((laws_toConf F0 aC).bind fun r89 => (laws_toIntS F0 aWho).bind fun r93 => (impl_Star F0 r89.1 aView aName r93.1).bind fun r94 => (laws_eqQc F0 r94.1 r32.1).bind fun r99 => br (!r99.1) (some (false, ())) (br (!(r94.2.1 == r32.2.1)) (some (false, ())) ((laws_heldQc F0 (r43.1.1, (r43.1.2.1, r78.2.1.2.2)) 1).bind fun r108 => br (decide (r108.1 < 0)) (some (false, ())) (br (r108.1 != r78.1.1) (some (false, ())) (some (true, ()))))))))))))))) := by kernel_rfl
noncomputable def laws_FnExactStar_con : Any := .one ⟨[(K4, true), (.int .i64, false), (.str, false), (.sl 3 (.int .i64), false)], [(.bool, false)], 1, fun x => laws_FnExactStar F0 x.1 x.2.1 x.2.2.1 x.2.2.2.1⟩
theorem laws_FnExactStar_ok : AnyOk Tryd.prog TB 9 laws_FnExactStar_con := ok1 (show AllOk Tryd.prog TB laws_FnExactStar_C from ⟨laws_toIntS_ok, laws_eqIntS_ok, laws_eqQc_ok, spec_Star_ok, laws_toConf_ok, impl_Star_ok, laws_markIntS_ok, laws_markQc_ok, laws_heldQc_ok, trivial⟩) Tryd.func9 (by kernel_rfl) (by kernel_rfl) laws_FnExactStar_H (by kernel_rfl)

end
end Go.Am.Tryd
