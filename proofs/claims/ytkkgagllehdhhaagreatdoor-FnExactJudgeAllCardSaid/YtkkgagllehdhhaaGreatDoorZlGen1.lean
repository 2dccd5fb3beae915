/- What Go's functions compute, as plain functions, and that they do. No condition. -/
import Derived.Test.YtkkgagllehdhhaaGreatDoorAmUse
import Derived.Test.YtkkgagllehdhhaaGreatDoorProg
import Derived.Test.YtkkgagllehdhhaaGreatDoorZShelfD
import Derived.Test.YtkkgagllehdhhaaGreatDoorZShelfF
set_option linter.unusedVariables false
set_option maxRecDepth 100000
namespace Go.Am.Tryz
open Go.Am Go.Proofs


abbrev K1 : Ty := .pair (.int .i64) (.int .i64)
abbrev D1 := Int × Int
abbrev K2 : Ty := .pair (.int .i64) (K1)
abbrev D2 := Int × D1
abbrev K3 : Ty := .pair (.int .i64) (K2)
abbrev D3 := Int × D2
abbrev K4 : Ty := .sl 126 (K3)
abbrev D4 := List D3
abbrev K5 : Ty := .pair (.int .i64) (K4)
abbrev D5 := Int × D4
abbrev K6 : Ty := .sl 196 (K5)
abbrev K7 : Ty := .pair (.str) (.sl 3 (.int .i64))
abbrev D7 := ByteArray × List Int
abbrev K8 : Ty := .pair (.int .i64) (K7)
abbrev D8 := Int × D7
abbrev K9 : Ty := .pair (K8) (.str)
abbrev D9 := D8 × ByteArray
abbrev K10 : Ty := .pair (.int .i64) (K9)
abbrev D10 := Int × D9
abbrev K11 : Ty := .pair (.int .i64) (K10)
abbrev D11 := Int × D10
abbrev K12 : Ty := .sl 154 (K3)
abbrev D12 := List D3
abbrev K13 : Ty := .sl 149 (K8)
abbrev D13 := List D8
abbrev K14 : Ty := .pair (.sl 5 (.int .u8)) (.int .i64)
abbrev D14 := List Int × Int
abbrev K15 : Ty := .pair (.str) (K8)
abbrev D15 := ByteArray × D8
abbrev K16 : Ty := .pair (.int .i64) (K3)
abbrev D16 := Int × D3
abbrev K17 : Ty := .pair (K8) (K16)
abbrev D17 := D8 × D16
abbrev K18 : Ty := .pair (K8) (K17)
abbrev D18 := D8 × D17
abbrev K19 : Ty := .pair (K15) (K18)
abbrev D19 := D15 × D18
abbrev K20 : Ty := .pair (.int .i64) (K19)
abbrev D20 := Int × D19
abbrev K21 : Ty := .pair (.int .i64) (K20)
abbrev D21 := Int × D20
abbrev K22 : Ty := .pair (.int .i64) (K21)
abbrev D22 := Int × D21
abbrev K23 : Ty := .sl 158 (K22)
abbrev D23 := List D22
abbrev K24 : Ty := .pair (K14) (K23)
abbrev D24 := D14 × D23
abbrev K25 : Ty := .pair (K13) (K24)
abbrev D25 := D13 × D24
abbrev K26 : Ty := .pair (K12) (K25)
abbrev D26 := D12 × D25
abbrev K27 : Ty := .pair (K11) (K26)
abbrev D27 := D11 × D26
abbrev K28 : Ty := .pair (.int .i64) (K27)
abbrev D28 := Int × D27
abbrev K29 : Ty := .pair (.int .i64) (K28)
abbrev D29 := Int × D28
abbrev K30 : Ty := .pair (.int .i64) (K29)
abbrev D30 := Int × D29
abbrev K31 : Ty := .sl 85 (K8)
abbrev D31 := List D8
abbrev K32 : Ty := .sl 167 (K22)
abbrev D32 := List D22
abbrev K33 : Ty := .pair (K14) (K32)
abbrev D33 := D14 × D32
abbrev K34 : Ty := .pair (K31) (K33)
abbrev D34 := D31 × D33
abbrev K35 : Ty := .pair (K4) (K34)
abbrev D35 := D4 × D34
abbrev K36 : Ty := .pair (K11) (K35)
abbrev D36 := D11 × D35
abbrev K37 : Ty := .pair (.int .i64) (K36)
abbrev D37 := Int × D36
abbrev K38 : Ty := .pair (.int .i64) (K37)
abbrev D38 := Int × D37
abbrev K39 : Ty := .pair (.int .i64) (K38)
abbrev D39 := Int × D38
abbrev K40 : Ty := .sl 47 (K30)
abbrev D40 := List D30
abbrev K41 : Ty := .pair (.int .i64) (.sl 5 (.int .u8))
abbrev D41 := Int × List Int
abbrev K42 : Ty := .sl 176 (K41)
abbrev D42 := List D41
abbrev K43 : Ty := .pair (.str) (.int .i64)
abbrev D43 := ByteArray × Int
abbrev K44 : Ty := .pair (.int .i64) (K43)
abbrev D44 := Int × D43
abbrev K45 : Ty := .sl 178 (K44)
abbrev D45 := List D44
abbrev K46 : Ty := .pair (K42) (K45)
abbrev D46 := D42 × D45
abbrev K47 : Ty := .pair (K40) (K46)
abbrev D47 := D40 × D46
abbrev K48 : Ty := .pair (.sl 3 (.int .i64)) (K47)
abbrev D48 := List Int × D47
abbrev K49 : Ty := .pair (K1) (K48)
abbrev D49 := D1 × D48
abbrev K50 : Ty := .sl 57 (K39)
abbrev D50 := List D39
abbrev K51 : Ty := .sl 122 (K41)
abbrev D51 := List D41
abbrev K52 : Ty := .sl 116 (K44)
abbrev D52 := List D44
abbrev K53 : Ty := .pair (K51) (K52)
abbrev D53 := D51 × D52
abbrev K54 : Ty := .pair (K50) (K53)
abbrev D54 := D50 × D53
abbrev K55 : Ty := .pair (.sl 3 (.int .i64)) (K54)
abbrev D55 := List Int × D54
abbrev K56 : Ty := .pair (K1) (K55)
abbrev D56 := D1 × D55
abbrev K57 : Ty := .pair (.int .i64) (.bool)
abbrev D57 := Int × Bool
abbrev K58 : Ty := .pair (.sl 5 (.int .u8)) (K57)
abbrev D58 := List Int × D57
abbrev K59 : Ty := .sl 26 (K8)
abbrev K60 : Ty := .pair (.sl 3 (.int .i64)) (.sl 3 (.int .i64))
abbrev D60 := List Int × List Int
noncomputable section
variable {α : Type} (F : Par) (κ : Ex → St → Option α) (n : Nat)
/-! ### laws.toConf -/
noncomputable def laws_toConf_C : List (Nat × Any) := []
noncomputable def laws_toConf_H : Nat → Option Hint := look []
noncomputable def laws_toConf (a : D1) : Option (Args [(K1, true)]) := runF Tryz.prog (look laws_toConf_C) F laws_toConf_H Tryz.f15 [(K1, true)] [(K1, true)] 1 (a, ())
theorem laws_toConf_eq (a : D1) : laws_toConf F a = some (a, ()) := by kernel_rfl
noncomputable def laws_toConf_con : Any := .one ⟨[(K1, true)], [(K1, true)], 1, fun x => laws_toConf F0 x.1⟩
theorem laws_toConf_ok : AnyOk Tryz.prog TB 15 laws_toConf_con := ok1 (show AllOk Tryz.prog TB laws_toConf_C from trivial) Tryz.func15 (by kernel_rfl) (by kernel_rfl) laws_toConf_H (by kernel_rfl)

/-! ### laws.toIntS -/
noncomputable def laws_toIntS_C : List (Nat × Any) := []
noncomputable def laws_toIntS_H : Nat → Option Hint := look [(3, { live := [0, 3, 4], xl := [3], rl := [2] })]
noncomputable def laws_toIntS_1_s (a : List Int) (i : Int) (xs : List Int) : St := { nt := 22, tm := [(0, .v (.c (.ro false 3 (.int .i64) a))), (3, .v (.c (.own 1000000 none))), (4, .v (.c (.int .i64 i)))], bx := [], bl := [(1000000, some ⟨3, .int .i64, xs, true, true⟩)] }
noncomputable def laws_toIntS_1_e0 (xs : List Int) : St := { nt := 22, tm := [(3, .v (.c (.own 1000000 none)))], bx := [], bl := [(1000000, some ⟨3, .int .i64, xs, true, true⟩)] }
noncomputable def laws_toIntS_1 (st : St) : Option α := lp Tryz.prog (look laws_toIntS_C) F laws_toIntS_H (sub [.r, .r, .l, .r, .b, .i] (codeOf Tryz.f16)) κ n st
noncomputable def laws_toIntS_1_k : Ex → St → Option (Args [(.sl 3 (.int .i64), false)]) := cont Tryz.prog (look laws_toIntS_C) F laws_toIntS_H [.r, .r, .l, .r, .b] (codeOf Tryz.f16) (fin Tryz.prog Tryz.f16 [(.sl 3 (.int .i64), false)] 2)
theorem laws_toIntS_1_step (a : List Int) (i : Int) (xs : List Int) : laws_toIntS_1 F κ (n + 1) (laws_toIntS_1_s a i xs) = br (decide (i < (a.length : Int))) (ck (okI i (a.length : Int)) (ck (okI i (xs.length : Int)) (laws_toIntS_1 F κ n (laws_toIntS_1_s a (w64 (i + 1)) (xs.set i.toNat (at_ a i 0)))))) (κ (.exit 0) (laws_toIntS_1_e0 xs)) := by kernel_rfl
theorem laws_toIntS_1_ce0 (xs : List Int) : laws_toIntS_1_k F (.exit 0) (laws_toIntS_1_e0 xs) = some (xs, ()) := by kernel_rfl
noncomputable def laws_toIntS (a : List Int) : Option (Args [(.sl 3 (.int .i64), false)]) := runF Tryz.prog (look laws_toIntS_C) F laws_toIntS_H Tryz.f16 [(.sl 3 (.int .i64), false)] [(.sl 3 (.int .i64), false)] 2 (a, ())
theorem laws_toIntS_eq (a : List Int) : laws_toIntS F a = ck (okM F (a.length : Int) (a.length : Int) 8) (laws_toIntS_1 F (laws_toIntS_1_k F) F.n (laws_toIntS_1_s a 0 (List.replicate (a.length : Int).toNat 0))) := by kernel_rfl
noncomputable def laws_toIntS_con : Any := .one ⟨[(.sl 3 (.int .i64), false)], [(.sl 3 (.int .i64), false)], 2, fun x => laws_toIntS F0 x.1⟩
theorem laws_toIntS_ok : AnyOk Tryz.prog TB 16 laws_toIntS_con := ok1 (show AllOk Tryz.prog TB laws_toIntS_C from trivial) Tryz.func16 (by kernel_rfl) (by kernel_rfl) laws_toIntS_H (by kernel_rfl)

/-! ### spec.l1In -/
noncomputable def spec_l1In_C : List (Nat × Any) := []
noncomputable def spec_l1In_H : Nat → Option Hint := look []
noncomputable def spec_l1In (x : Int) (lo : Int) (hi : Int) : Option (Args [(.bool, false)]) := runF Tryz.prog (look spec_l1In_C) F spec_l1In_H Tryz.f118 [(.int .i64, false), (.int .i64, false), (.int .i64, false)] [(.bool, false)] 1 (x, lo, hi, ())
theorem spec_l1In_eq (x : Int) (lo : Int) (hi : Int) : spec_l1In F x lo hi = br (decide (x ≥ lo)) (some (decide (x ≤ hi), ())) (some (false, ())) := by kernel_rfl
noncomputable def spec_l1In_con : Any := .one ⟨[(.int .i64, false), (.int .i64, false), (.int .i64, false)], [(.bool, false)], 1, fun x => spec_l1In F0 x.1 x.2.1 x.2.2.1⟩
theorem spec_l1In_ok : AnyOk Tryz.prog TB 118 spec_l1In_con := ok1 (show AllOk Tryz.prog TB spec_l1In_C from trivial) Tryz.func118 (by kernel_rfl) (by kernel_rfl) spec_l1In_H (by kernel_rfl)

/-! ### spec.ConfOk -/
noncomputable def spec_ConfOk_C : List (Nat × Any) := [(118, spec_l1In_con)]
noncomputable def spec_ConfOk_H : Nat → Option Hint := look []
noncomputable def spec_ConfOk (c : D1) : Option (Args [(.bool, false)]) := runF Tryz.prog (look spec_ConfOk_C) F spec_ConfOk_H Tryz.f49 [(K1, true)] [(.bool, false)] 1 (c, ())
theorem spec_ConfOk_eq (c : D1) : spec_ConfOk F c = (spec_l1In F0 c.1 4 7).bind fun r5 => br r5.1 ((spec_l1In F0 c.2 1 6).bind fun r9 => some (r9.1, ())) (some (false, ())) := by kernel_rfl
noncomputable def spec_ConfOk_con : Any := .one ⟨[(K1, true)], [(.bool, false)], 1, fun x => spec_ConfOk F0 x.1⟩
theorem spec_ConfOk_ok : AnyOk Tryz.prog TB 49 spec_ConfOk_con := ok1 (show AllOk Tryz.prog TB spec_ConfOk_C from ⟨spec_l1In_ok, trivial⟩) Tryz.func49 (by kernel_rfl) (by kernel_rfl) spec_ConfOk_H (by kernel_rfl)

/-! ### spec.SetHas -/
noncomputable def spec_SetHas_C : List (Nat × Any) := []
noncomputable def spec_SetHas_H : Nat → Option Hint := look [(2, { live := [0, 1, 5], rl := [4] })]
noncomputable def spec_SetHas_1_s (s : List Int) (i : Int) (k : Int) : St := { nt := 18, tm := [(0, .v (.c (.ro false 3 (.int .i64) s))), (1, .v (.c (.int .i64 i))), (5, .v (.c (.int .i64 k)))], bx := [], bl := [] }
noncomputable def spec_SetHas_1_r (t4 : Bool) : St := { nt := 18, tm := [(4, .v (.c (.bool t4)))], bx := [], bl := [] }
noncomputable def spec_SetHas_1_e0  : St := { nt := 18, tm := [], bx := [], bl := [] }
noncomputable def spec_SetHas_1 (st : St) : Option α := lp Tryz.prog (look spec_SetHas_C) F spec_SetHas_H (sub [.r, .l, .r, .b, .i] (codeOf Tryz.f51)) κ n st
noncomputable def spec_SetHas_1_k : Ex → St → Option (Args [(.bool, false)]) := cont Tryz.prog (look spec_SetHas_C) F spec_SetHas_H [.r, .l, .r, .b] (codeOf Tryz.f51) (fin Tryz.prog Tryz.f51 [(.bool, false)] 1)
theorem spec_SetHas_1_step (s : List Int) (i : Int) (k : Int) : spec_SetHas_1 F κ (n + 1) (spec_SetHas_1_s s i k) = br (decide (k < (s.length : Int))) (ck (okI k (s.length : Int)) (br ((at_ s k 0) == i) (κ .ret (spec_SetHas_1_r true)) (spec_SetHas_1 F κ n (spec_SetHas_1_s s i (w64 (k + 1)))))) (κ (.exit 0) (spec_SetHas_1_e0 )) := by kernel_rfl
theorem spec_SetHas_1_cr (t4 : Bool) : spec_SetHas_1_k F .ret (spec_SetHas_1_r t4) = some (t4, ()) := by kernel_rfl
theorem spec_SetHas_1_ce0  : spec_SetHas_1_k F (.exit 0) (spec_SetHas_1_e0 ) = some (false, ()) := by kernel_rfl
noncomputable def spec_SetHas (s : List Int) (i : Int) : Option (Args [(.bool, false)]) := runF Tryz.prog (look spec_SetHas_C) F spec_SetHas_H Tryz.f51 [(.sl 3 (.int .i64), false), (.int .i64, false)] [(.bool, false)] 1 (s, i, ())
theorem spec_SetHas_eq (s : List Int) (i : Int) : spec_SetHas F s i = spec_SetHas_1 F (spec_SetHas_1_k F) F.n (spec_SetHas_1_s s i 0) := by kernel_rfl
noncomputable def spec_SetHas_con : Any := .one ⟨[(.sl 3 (.int .i64), false), (.int .i64, false)], [(.bool, false)], 1, fun x => spec_SetHas F0 x.1 x.2.1⟩
theorem spec_SetHas_ok : AnyOk Tryz.prog TB 51 spec_SetHas_con := ok1 (show AllOk Tryz.prog TB spec_SetHas_C from trivial) Tryz.func51 (by kernel_rfl) (by kernel_rfl) spec_SetHas_H (by kernel_rfl)

/-! ### spec.Split -/
noncomputable def spec_Split_C : List (Nat × Any) := []
noncomputable def spec_Split_H : Nat → Option Hint := look [(4, { live := [0, 1, 5, 6, 7], xl := [5], rl := [4] })]
noncomputable def spec_Split_1_s (s : ByteArray) (by1 : Int) (from1 : Int) (i : Int) (xs : List ByteArray) : St := { nt := 36, tm := [(0, .v (.c (.str s))), (1, .v (.c (.int .u8 by1))), (5, .v (.c (.own 1000000 none))), (6, .v (.c (.int .i64 from1))), (7, .v (.c (.int .i64 i)))], bx := [], bl := [(1000000, some ⟨9, .str, xs, true, true⟩)] }
noncomputable def spec_Split_1_e0 (xs : List ByteArray) : St := { nt := 36, tm := [(5, .v (.c (.own 1000000 none)))], bx := [], bl := [(1000000, some ⟨9, .str, xs, true, true⟩)] }
noncomputable def spec_Split_1 (st : St) : Option α := lp Tryz.prog (look spec_Split_C) F spec_Split_H (sub [.r, .r, .r, .l, .r, .b, .i] (codeOf Tryz.f188)) κ n st
noncomputable def spec_Split_1_k : Ex → St → Option (Args [(.sl 9 (.str), false)]) := cont Tryz.prog (look spec_Split_C) F spec_Split_H [.r, .r, .r, .l, .r, .b] (codeOf Tryz.f188) (fin Tryz.prog Tryz.f188 [(.sl 9 (.str), false)] 2)
theorem spec_Split_1_step (s : ByteArray) (by1 : Int) (from1 : Int) (i : Int) (xs : List ByteArray) : spec_Split_1 F κ (n + 1) (spec_Split_1_s s by1 from1 i xs) = br (decide (i ≤ (s.size : Int))) (br (i == (s.size : Int)) (ck (okS from1 i (s.size : Int)) (ck (okA F xs.length [s.extract from1.toNat i.toNat].length 16) (spec_Split_1 F κ n (spec_Split_1_s s by1 (w64 (i + 1)) (w64 (i + 1)) (xs ++ [s.extract from1.toNat i.toNat]))))) (ck (okI i (s.size : Int)) (br ((byteAt s i) == by1) (ck (okS from1 i (s.size : Int)) (ck (okA F xs.length [s.extract from1.toNat i.toNat].length 16) (spec_Split_1 F κ n (spec_Split_1_s s by1 (w64 (i + 1)) (w64 (i + 1)) (xs ++ [s.extract from1.toNat i.toNat]))))) (spec_Split_1 F κ n (spec_Split_1_s s by1 from1 (w64 (i + 1)) xs))))) (κ (.exit 0) (spec_Split_1_e0 xs)) := by kernel_rfl
theorem spec_Split_1_ce0 (xs : List ByteArray) : spec_Split_1_k F (.exit 0) (spec_Split_1_e0 xs) = some (xs, ()) := by kernel_rfl
noncomputable def spec_Split (s : ByteArray) (by1 : Int) : Option (Args [(.sl 9 (.str), false)]) := runF Tryz.prog (look spec_Split_C) F spec_Split_H Tryz.f188 [(.str, false), (.int .u8, false)] [(.sl 9 (.str), false)] 2 (s, by1, ())
theorem spec_Split_eq (s : ByteArray) (by1 : Int) : spec_Split F s by1 = spec_Split_1 F (spec_Split_1_k F) F.n (spec_Split_1_s s by1 0 0 []) := by kernel_rfl
noncomputable def spec_Split_con : Any := .one ⟨[(.str, false), (.int .u8, false)], [(.sl 9 (.str), false)], 2, fun x => spec_Split F0 x.1 x.2.1⟩
theorem spec_Split_ok : AnyOk Tryz.prog TB 188 spec_Split_con := ok1 (show AllOk Tryz.prog TB spec_Split_C from trivial) Tryz.func188 (by kernel_rfl) (by kernel_rfl) spec_Split_H (by kernel_rfl)

/-! ### spec.l2Cut -/
noncomputable def spec_l2Cut_C : List (Nat × Any) := []
noncomputable def spec_l2Cut_H : Nat → Option Hint := look [(2, { live := [0, 1, 7], rl := [4, 5, 6] })]
noncomputable def spec_l2Cut_1_s (s : ByteArray) (by1 : Int) (i : Int) : St := { nt := 26, tm := [(0, .v (.c (.str s))), (1, .v (.c (.int .u8 by1))), (7, .v (.c (.int .i64 i)))], bx := [], bl := [] }
noncomputable def spec_l2Cut_1_r (t4 : ByteArray) (t5 : ByteArray) (t6 : Bool) : St := { nt := 26, tm := [(4, .v (.c (.str t4))), (5, .v (.c (.str t5))), (6, .v (.c (.bool t6)))], bx := [], bl := [] }
noncomputable def spec_l2Cut_1_e0  : St := { nt := 26, tm := [], bx := [], bl := [] }
noncomputable def spec_l2Cut_1 (st : St) : Option α := lp Tryz.prog (look spec_l2Cut_C) F spec_l2Cut_H (sub [.r, .l, .r, .b, .i] (codeOf Tryz.f189)) κ n st
noncomputable def spec_l2Cut_1_k : Ex → St → Option (Args [(.str, false), (.str, false), (.bool, false)]) := cont Tryz.prog (look spec_l2Cut_C) F spec_l2Cut_H [.r, .l, .r, .b] (codeOf Tryz.f189) (fin Tryz.prog Tryz.f189 [(.str, false), (.str, false), (.bool, false)] 1)
theorem spec_l2Cut_1_step (s : ByteArray) (by1 : Int) (i : Int) : spec_l2Cut_1 F κ (n + 1) (spec_l2Cut_1_s s by1 i) = br (decide (i < (s.size : Int))) (ck (okI i (s.size : Int)) (br ((byteAt s i) == by1) (ck (okS 0 i (s.size : Int)) (ck (okS (w64 (i + 1)) (s.size : Int) (s.size : Int)) (κ .ret (spec_l2Cut_1_r (s.extract (0 : Int).toNat i.toNat) (s.extract (w64 (i + 1)).toNat (s.size : Int).toNat) true)))) (spec_l2Cut_1 F κ n (spec_l2Cut_1_s s by1 (w64 (i + 1)))))) (κ (.exit 0) (spec_l2Cut_1_e0 )) := by kernel_rfl
theorem spec_l2Cut_1_cr (t4 : ByteArray) (t5 : ByteArray) (t6 : Bool) : spec_l2Cut_1_k F .ret (spec_l2Cut_1_r t4 t5 t6) = some (t4, t5, t6, ()) := by kernel_rfl
theorem spec_l2Cut_1_ce0  : spec_l2Cut_1_k F (.exit 0) (spec_l2Cut_1_e0 ) = some ((ByteArray.mk #[]), (ByteArray.mk #[]), false, ()) := by kernel_rfl
noncomputable def spec_l2Cut (s : ByteArray) (by1 : Int) : Option (Args [(.str, false), (.str, false), (.bool, false)]) := runF Tryz.prog (look spec_l2Cut_C) F spec_l2Cut_H Tryz.f189 [(.str, false), (.int .u8, false)] [(.str, false), (.str, false), (.bool, false)] 1 (s, by1, ())
theorem spec_l2Cut_eq (s : ByteArray) (by1 : Int) : spec_l2Cut F s by1 = spec_l2Cut_1 F (spec_l2Cut_1_k F) F.n (spec_l2Cut_1_s s by1 0) := by kernel_rfl
noncomputable def spec_l2Cut_con : Any := .one ⟨[(.str, false), (.int .u8, false)], [(.str, false), (.str, false), (.bool, false)], 1, fun x => spec_l2Cut F0 x.1 x.2.1⟩
theorem spec_l2Cut_ok : AnyOk Tryz.prog TB 189 spec_l2Cut_con := ok1 (show AllOk Tryz.prog TB spec_l2Cut_C from trivial) Tryz.func189 (by kernel_rfl) (by kernel_rfl) spec_l2Cut_H (by kernel_rfl)

/-! ### spec.Digits -/
noncomputable def spec_Digits_C : List (Nat × Any) := []
noncomputable def spec_Digits_H : Nat → Option Hint := look [(5, { live := [0, 3, 4], xl := [3, 4], rl := [2] })]
noncomputable def spec_Digits_1_s (n1 : Int) (below : Bool) (out : ByteArray) : St := { nt := 31, tm := [(0, .v (.c (.int .i64 n1))), (3, .v (.c (.bool below))), (4, .v (.c (.str out)))], bx := [], bl := [] }
noncomputable def spec_Digits_1_e0 (below : Bool) (out : ByteArray) : St := { nt := 31, tm := [(3, .v (.c (.bool below))), (4, .v (.c (.str out)))], bx := [], bl := [] }
noncomputable def spec_Digits_1 (st : St) : Option α := lp Tryz.prog (look spec_Digits_C) F spec_Digits_H (sub [.r, .r, .r, .r, .l, .b, .i] (codeOf Tryz.f73)) κ n st
noncomputable def spec_Digits_1_k : Ex → St → Option (Args [(.str, false)]) := cont Tryz.prog (look spec_Digits_C) F spec_Digits_H [.r, .r, .r, .r, .l, .b] (codeOf Tryz.f73) (fin Tryz.prog Tryz.f73 [(.str, false)] 1)
theorem spec_Digits_1_step (n1 : Int) (below : Bool) (out : ByteArray) : spec_Digits_1 F κ (n + 1) (spec_Digits_1_s n1 below out) = br (n1 != 0) (br (decide ((Int.tmod n1 10) < 0)) (ck (okC F (strOf [IntKind.wrap .u8 (w64 (48 + (w64 (0 - (Int.tmod n1 10)))))]).size out.size) (spec_Digits_1 F κ n (spec_Digits_1_s (w64 (Int.tdiv n1 10)) below ((strOf [IntKind.wrap .u8 (w64 (48 + (w64 (0 - (Int.tmod n1 10)))))]) ++ out)))) (ck (okC F (strOf [IntKind.wrap .u8 (w64 (48 + (Int.tmod n1 10)))]).size out.size) (spec_Digits_1 F κ n (spec_Digits_1_s (w64 (Int.tdiv n1 10)) below ((strOf [IntKind.wrap .u8 (w64 (48 + (Int.tmod n1 10)))]) ++ out))))) (κ (.exit 0) (spec_Digits_1_e0 below out)) := by kernel_rfl
theorem spec_Digits_1_ce0 (below : Bool) (out : ByteArray) : spec_Digits_1_k F (.exit 0) (spec_Digits_1_e0 below out) = br below (ck (okC F (ByteArray.mk #[45]).size out.size) (some ((ByteArray.mk #[45]) ++ out, ()))) (some (out, ())) := by kernel_rfl
noncomputable def spec_Digits (n1 : Int) : Option (Args [(.str, false)]) := runF Tryz.prog (look spec_Digits_C) F spec_Digits_H Tryz.f73 [(.int .i64, false)] [(.str, false)] 1 (n1, ())
theorem spec_Digits_eq (n1 : Int) : spec_Digits F n1 = br (n1 == 0) (some ((ByteArray.mk #[48]), ())) (spec_Digits_1 F (spec_Digits_1_k F) F.n (spec_Digits_1_s n1 (decide (n1 < 0)) (ByteArray.mk #[]))) := by kernel_rfl
noncomputable def spec_Digits_con : Any := .one ⟨[(.int .i64, false)], [(.str, false)], 1, fun x => spec_Digits F0 x.1⟩
theorem spec_Digits_ok : AnyOk Tryz.prog TB 73 spec_Digits_con := ok1 (show AllOk Tryz.prog TB spec_Digits_C from trivial) Tryz.func73 (by kernel_rfl) (by kernel_rfl) spec_Digits_H (by kernel_rfl)

/-! ### spec.Number -/
noncomputable def spec_Number_C : List (Nat × Any) := [(73, spec_Digits_con)]
noncomputable def spec_Number_H : Nat → Option Hint := look [(5, { live := [0, 4, 5], xl := [0, 4], rl := [2, 3] })]
noncomputable def spec_Number_1_s (s : ByteArray) (n1 : Int) (i : Int) : St := { nt := 43, tm := [(0, .v (.c (.str s))), (4, .v (.c (.int .i64 n1))), (5, .v (.c (.int .i64 i)))], bx := [], bl := [] }
noncomputable def spec_Number_1_r (t2 : Int) (t3 : Bool) : St := { nt := 43, tm := [(2, .v (.c (.int .i64 t2))), (3, .v (.c (.bool t3)))], bx := [], bl := [] }
noncomputable def spec_Number_1_e0 (s : ByteArray) (n1 : Int) : St := { nt := 43, tm := [(0, .v (.c (.str s))), (4, .v (.c (.int .i64 n1)))], bx := [], bl := [] }
noncomputable def spec_Number_1 (st : St) : Option α := lp Tryz.prog (look spec_Number_C) F spec_Number_H (sub [.r, .r, .r, .l, .r, .b, .i] (codeOf Tryz.f190)) κ n st
noncomputable def spec_Number_1_k : Ex → St → Option (Args [(.int .i64, false), (.bool, false)]) := cont Tryz.prog (look spec_Number_C) F spec_Number_H [.r, .r, .r, .l, .r, .b] (codeOf Tryz.f190) (fin Tryz.prog Tryz.f190 [(.int .i64, false), (.bool, false)] 1)
theorem spec_Number_1_step (s : ByteArray) (n1 : Int) (i : Int) : spec_Number_1 F κ (n + 1) (spec_Number_1_s s n1 i) = br (decide (i < (s.size : Int))) (ck (okI i (s.size : Int)) (br (decide ((byteAt s i) < 48)) (κ .ret (spec_Number_1_r 0 false)) (ck (okI i (s.size : Int)) (br (decide ((byteAt s i) > 57)) (κ .ret (spec_Number_1_r 0 false)) (ck (okI i (s.size : Int)) (spec_Number_1 F κ n (spec_Number_1_s s (w64 ((w64 ((w64 (10 * n1)) + (w64 (byteAt s i)))) - 48)) (w64 (i + 1))))))))) (κ (.exit 0) (spec_Number_1_e0 s n1)) := by kernel_rfl
theorem spec_Number_1_cr (t2 : Int) (t3 : Bool) : spec_Number_1_k F .ret (spec_Number_1_r t2 t3) = some (t2, t3, ()) := by kernel_rfl
theorem spec_Number_1_ce0 (s : ByteArray) (n1 : Int) : spec_Number_1_k F (.exit 0) (spec_Number_1_e0 s n1) = (spec_Digits F0 n1).bind fun r39 => br (!(r39.1.toList == s.toList)) (some (0, false, ())) (some (n1, true, ())) := by kernel_rfl
noncomputable def spec_Number (s : ByteArray) : Option (Args [(.int .i64, false), (.bool, false)]) := runF Tryz.prog (look spec_Number_C) F spec_Number_H Tryz.f190 [(.str, false)] [(.int .i64, false), (.bool, false)] 1 (s, ())
theorem spec_Number_eq (s : ByteArray) : spec_Number F s = br (decide ((s.size : Int) < 1)) (some (0, false, ())) (br (decide ((s.size : Int) > 6)) (some (0, false, ())) (spec_Number_1 F (spec_Number_1_k F) F.n (spec_Number_1_s s 0 0))) := by kernel_rfl
noncomputable def spec_Number_con : Any := .one ⟨[(.str, false)], [(.int .i64, false), (.bool, false)], 1, fun x => spec_Number F0 x.1⟩
theorem spec_Number_ok : AnyOk Tryz.prog TB 190 spec_Number_con := ok1 (show AllOk Tryz.prog TB spec_Number_C from ⟨spec_Digits_ok, trivial⟩) Tryz.func190 (by kernel_rfl) (by kernel_rfl) spec_Number_H (by kernel_rfl)

/-! ### spec.TxOk -/
noncomputable def spec_TxOk_C : List (Nat × Any) := [(118, spec_l1In_con)]
noncomputable def spec_TxOk_H : Nat → Option Hint := look []
noncomputable def spec_TxOk (x : D3) : Option (Args [(.bool, false)]) := runF Tryz.prog (look spec_TxOk_C) F spec_TxOk_H Tryz.f244 [(K3, true)] [(.bool, false)] 1 (x, ())
theorem spec_TxOk_eq (x : D3) : spec_TxOk F x = (spec_l1In F0 x.1 0 3).bind fun r5 => br r5.1 ((spec_l1In F0 x.2.1 0 3).bind fun r9 => br r9.1 ((spec_l1In F0 x.2.2.1 0 1000).bind fun r14 => br r14.1 ((spec_l1In F0 x.2.2.2 0 99).bind fun r19 => some (r19.1, ())) (some (false, ()))) (some (false, ()))) (some (false, ())) := by kernel_rfl
noncomputable def spec_TxOk_con : Any := .one ⟨[(K3, true)], [(.bool, false)], 1, fun x => spec_TxOk F0 x.1⟩
theorem spec_TxOk_ok : AnyOk Tryz.prog TB 244 spec_TxOk_con := ok1 (show AllOk Tryz.prog TB spec_TxOk_C from ⟨spec_l1In_ok, trivial⟩) Tryz.func244 (by kernel_rfl) (by kernel_rfl) spec_TxOk_H (by kernel_rfl)

/-! ### spec.TxText -/
noncomputable def spec_TxText_C : List (Nat × Any) := [(73, spec_Digits_con), (244, spec_TxOk_con)]
noncomputable def spec_TxText_H : Nat → Option Hint := look []
noncomputable def spec_TxText (x : D3) : Option (Args [(.str, false)]) := runF Tryz.prog (look spec_TxText_C) F spec_TxText_H Tryz.f262 [(K3, true)] [(.str, false)] 1 (x, ())
theorem spec_TxText_eq (x : D3) : spec_TxText F x = (spec_TxOk F0 x).bind fun r4 => br (!r4.1) (some ((ByteArray.mk #[]), ())) ((spec_Digits F0 x.1).bind fun r8 => ck (okC F r8.1.size (ByteArray.mk #[62]).size) ((spec_Digits F0 x.2.1).bind fun r12 => ck (okC F (r8.1 ++ (ByteArray.mk #[62])).size r12.1.size) (ck (okC F ((r8.1 ++ (ByteArray.mk #[62])) ++ r12.1).size (ByteArray.mk #[58]).size) ((spec_Digits F0 x.2.2.1).bind fun r17 => ck (okC F (((r8.1 ++ (ByteArray.mk #[62])) ++ r12.1) ++ (ByteArray.mk #[58])).size r17.1.size) (ck (okC F ((((r8.1 ++ (ByteArray.mk #[62])) ++ r12.1) ++ (ByteArray.mk #[58])) ++ r17.1).size (ByteArray.mk #[35]).size) ((spec_Digits F0 x.2.2.2).bind fun r22 => ck (okC F (((((r8.1 ++ (ByteArray.mk #[62])) ++ r12.1) ++ (ByteArray.mk #[58])) ++ r17.1) ++ (ByteArray.mk #[35])).size r22.1.size) (some ((((((r8.1 ++ (ByteArray.mk #[62])) ++ r12.1) ++ (ByteArray.mk #[58])) ++ r17.1) ++ (ByteArray.mk #[35])) ++ r22.1, ())))))))) := by kernel_rfl
noncomputable def spec_TxText_con : Any := .one ⟨[(K3, true)], [(.str, false)], 1, fun x => spec_TxText F0 x.1⟩
theorem spec_TxText_ok : AnyOk Tryz.prog TB 262 spec_TxText_con := ok1 (show AllOk Tryz.prog TB spec_TxText_C from ⟨spec_Digits_ok, spec_TxOk_ok, trivial⟩) Tryz.func262 (by kernel_rfl) (by kernel_rfl) spec_TxText_H (by kernel_rfl)

/-! ### spec.TxOf -/
noncomputable def spec_TxOf_C : List (Nat × Any) := [(189, spec_l2Cut_con), (190, spec_Number_con), (262, spec_TxText_con)]
noncomputable def spec_TxOf_H : Nat → Option Hint := look []
noncomputable def spec_TxOf (s : ByteArray) : Option (Args [(K3, true), (.bool, false)]) := runF Tryz.prog (look spec_TxOf_C) F spec_TxOf_H Tryz.f235 [(.str, false)] [(K3, true), (.bool, false)] 1 (s, ())
theorem spec_TxOf_eq (s : ByteArray) : spec_TxOf F s = (spec_l2Cut F0 s 62).bind fun r16 => (spec_l2Cut F0 r16.2.1 58).bind fun r22 => (spec_l2Cut F0 r22.2.1 35).bind fun r28 => (spec_Number F0 r16.1).bind fun r35 => (spec_Number F0 r22.1).bind fun r41 => (spec_Number F0 r28.1).bind fun r47 => (spec_Number F0 r28.2.1).bind fun r53 => br (s.toList == (ByteArray.mk #[]).toList) (some ((0, (0, (0, 0))), false, ())) ((spec_TxText F0 (r35.1, (r41.1, (r47.1, r53.1)))).bind fun r61 => br (!(r61.1.toList == s.toList)) (some ((0, (0, (0, 0))), false, ())) (some ((r35.1, (r41.1, (r47.1, r53.1))), true, ()))) := by kernel_rfl
noncomputable def spec_TxOf_con : Any := .one ⟨[(.str, false)], [(K3, true), (.bool, false)], 1, fun x => spec_TxOf F0 x.1⟩
theorem spec_TxOf_ok : AnyOk Tryz.prog TB 235 spec_TxOf_con := ok1 (show AllOk Tryz.prog TB spec_TxOf_C from ⟨spec_l2Cut_ok, spec_Number_ok, spec_TxText_ok, trivial⟩) Tryz.func235 (by kernel_rfl) (by kernel_rfl) spec_TxOf_H (by kernel_rfl)

/-! ### spec.TxsOf -/
noncomputable def spec_TxsOf_C : List (Nat × Any) := [(188, spec_Split_con), (235, spec_TxOf_con)]
noncomputable def spec_TxsOf_H : Nat → Option Hint := look [(6, { live := [4, 5, 6], xl := [4], rl := [2, 3] })]
noncomputable def spec_TxsOf_1_s (i : Int) (xs : List D3) (xs1 : List ByteArray) : St := { nt := 37, tm := [(4, .v (.c (.own 1000000 none))), (5, .v (.c (.own 1000001 none))), (6, .v (.c (.int .i64 i)))], bx := [], bl := [(1000000, some ⟨126, K3, xs, true, true⟩), (1000001, some ⟨9, .str, xs1, true, true⟩)] }
noncomputable def spec_TxsOf_1_r (t3 : Bool) (xs : List D3) : St := { nt := 37, tm := [(2, .v (.c (.own 1000000 none))), (3, .v (.c (.bool t3)))], bx := [], bl := [(1000000, some ⟨126, K3, xs, true, true⟩)] }
noncomputable def spec_TxsOf_1_e0 (xs : List D3) : St := { nt := 37, tm := [(4, .v (.c (.own 1000000 none)))], bx := [], bl := [(1000000, some ⟨126, K3, xs, true, true⟩)] }
noncomputable def spec_TxsOf_1 (st : St) : Option α := lp Tryz.prog (look spec_TxsOf_C) F spec_TxsOf_H (sub [.r, .r, .r, .r, .l, .r, .b, .i] (codeOf Tryz.f191)) κ n st
noncomputable def spec_TxsOf_1_k : Ex → St → Option (Args [(K4, false), (.bool, false)]) := cont Tryz.prog (look spec_TxsOf_C) F spec_TxsOf_H [.r, .r, .r, .r, .l, .r, .b] (codeOf Tryz.f191) (fin Tryz.prog Tryz.f191 [(K4, false), (.bool, false)] 2)
theorem spec_TxsOf_1_step (i : Int) (xs : List D3) (xs1 : List ByteArray) : spec_TxsOf_1 F κ (n + 1) (spec_TxsOf_1_s i xs xs1) = br (decide (i < (xs1.length : Int))) (ck (okI i (xs1.length : Int)) ((spec_TxOf F0 (at_ xs1 i ByteArray.empty)).bind fun r26 => br (!r26.2.1) (κ .ret (spec_TxsOf_1_r false [])) (ck (okA F xs.length [r26.1].length 32) (spec_TxsOf_1 F κ n (spec_TxsOf_1_s (w64 (i + 1)) (xs ++ [r26.1]) xs1))))) (κ (.exit 0) (spec_TxsOf_1_e0 xs)) := by kernel_rfl
theorem spec_TxsOf_1_cr (t3 : Bool) (xs : List D3) : spec_TxsOf_1_k F .ret (spec_TxsOf_1_r t3 xs) = some (xs, t3, ()) := by kernel_rfl
theorem spec_TxsOf_1_ce0 (xs : List D3) : spec_TxsOf_1_k F (.exit 0) (spec_TxsOf_1_e0 xs) = some (xs, true, ()) := by kernel_rfl
noncomputable def spec_TxsOf (s : ByteArray) : Option (Args [(K4, false), (.bool, false)]) := runF Tryz.prog (look spec_TxsOf_C) F spec_TxsOf_H Tryz.f191 [(.str, false)] [(K4, false), (.bool, false)] 2 (s, ())
theorem spec_TxsOf_eq (s : ByteArray) : spec_TxsOf F s = br (s.toList == (ByteArray.mk #[]).toList) (some ([], true, ())) ((spec_Split F0 s 44).bind fun r14 => spec_TxsOf_1 F (spec_TxsOf_1_k F) F.n (spec_TxsOf_1_s 0 [] r14.1)) := by kernel_rfl
noncomputable def spec_TxsOf_con : Any := .one ⟨[(.str, false)], [(K4, false), (.bool, false)], 2, fun x => spec_TxsOf F0 x.1⟩
theorem spec_TxsOf_ok : AnyOk Tryz.prog TB 191 spec_TxsOf_con := ok1 (show AllOk Tryz.prog TB spec_TxsOf_C from ⟨spec_Split_ok, spec_TxOf_ok, trivial⟩) Tryz.func191 (by kernel_rfl) (by kernel_rfl) spec_TxsOf_H (by kernel_rfl)

/-! ### spec.Steps -/
noncomputable def spec_Steps_C : List (Nat × Any) := [(188, spec_Split_con), (189, spec_l2Cut_con), (190, spec_Number_con), (191, spec_TxsOf_con)]
noncomputable def spec_Steps_H : Nat → Option Hint := look [(10, { live := [4, 5, 6, 7, 8], xl := [5], rl := [2, 3] })]
noncomputable def spec_Steps_1_s (last : Int) (i : Int) (xs : List D5) (xs1 : List D5) (xs2 : List ByteArray) : St := { nt := 91, tm := [(4, .v (.c (.own 1000000 none))), (5, .v (.c (.own 1000001 none))), (6, .v (.c (.own 1000002 none))), (7, .v (.c (.int .i64 last))), (8, .v (.c (.int .i64 i)))], bx := [], bl := [(1000000, some ⟨196, K5, xs, true, true⟩), (1000001, some ⟨196, K5, xs1, true, true⟩), (1000002, some ⟨9, .str, xs2, true, true⟩)] }
noncomputable def spec_Steps_1_r (t3 : Bool) (xs : List D5) : St := { nt := 91, tm := [(2, .v (.c (.own 1000000 none))), (3, .v (.c (.bool t3)))], bx := [], bl := [(1000000, some ⟨196, K5, xs, true, true⟩)] }
noncomputable def spec_Steps_1_e0 (xs : List D5) : St := { nt := 91, tm := [(5, .v (.c (.own 1000000 none)))], bx := [], bl := [(1000000, some ⟨196, K5, xs, true, true⟩)] }
noncomputable def spec_Steps_1 (st : St) : Option α := lp Tryz.prog (look spec_Steps_C) F spec_Steps_H (sub [.r, .r, .r, .r, .r, .r, .r, .l, .r, .b, .i] (codeOf Tryz.f134)) κ n st
noncomputable def spec_Steps_1_k : Ex → St → Option (Args [(K6, false), (.bool, false)]) := cont Tryz.prog (look spec_Steps_C) F spec_Steps_H [.r, .r, .r, .r, .r, .r, .r, .l, .r, .b] (codeOf Tryz.f134) (fin Tryz.prog Tryz.f134 [(K6, false), (.bool, false)] 2)
theorem spec_Steps_1_step (last : Int) (i : Int) (xs : List D5) (xs1 : List D5) (xs2 : List ByteArray) : spec_Steps_1 F κ (n + 1) (spec_Steps_1_s last i xs xs1 xs2) = br (decide (i < (xs2.length : Int))) (ck (okI i (xs2.length : Int)) ((spec_l2Cut F0 (at_ xs2 i ByteArray.empty) 124).bind fun r44 => (spec_Number F0 r44.1).bind fun r50 => (spec_TxsOf F0 r44.2.1).bind fun r55 => br (!r44.2.2.1) (κ .ret (spec_Steps_1_r false xs)) (br (!r50.2.1) (κ .ret (spec_Steps_1_r false xs)) (br (!r55.2.1) (κ .ret (spec_Steps_1_r false xs)) (br (decide (r50.1 ≤ last)) (κ .ret (spec_Steps_1_r false xs)) (br (decide (r50.1 > 60)) (κ .ret (spec_Steps_1_r false xs)) (br (decide ((r55.1.length : Int) > 2)) (κ .ret (spec_Steps_1_r false xs)) (ck (okA F xs1.length [(r50.1, r55.1)].length 32) (spec_Steps_1 F κ n (spec_Steps_1_s r50.1 (w64 (i + 1)) xs (xs1 ++ [(r50.1, r55.1)]) xs2)))))))))) (κ (.exit 0) (spec_Steps_1_e0 xs1)) := by kernel_rfl
theorem spec_Steps_1_cr (t3 : Bool) (xs : List D5) : spec_Steps_1_k F .ret (spec_Steps_1_r t3 xs) = some (xs, t3, ()) := by kernel_rfl
theorem spec_Steps_1_ce0 (xs : List D5) : spec_Steps_1_k F (.exit 0) (spec_Steps_1_e0 xs) = some (xs, true, ()) := by kernel_rfl
noncomputable def spec_Steps (s : ByteArray) : Option (Args [(K6, false), (.bool, false)]) := runF Tryz.prog (look spec_Steps_C) F spec_Steps_H Tryz.f134 [(.str, false)] [(K6, false), (.bool, false)] 2 (s, ())
theorem spec_Steps_eq (s : ByteArray) : spec_Steps F s = br (s.toList == (ByteArray.mk #[]).toList) (some ([], true, ())) ((spec_Split F0 s 47).bind fun r22 => ck (okI 0 (r22.1.length : Int)) (br (!((at_ r22.1 0 ByteArray.empty).toList == (ByteArray.mk #[]).toList)) (some ([], false, ())) (br (decide ((r22.1.length : Int) > 31)) (some ([], false, ())) (spec_Steps_1 F (spec_Steps_1_k F) F.n (spec_Steps_1_s 0 1 [] [] r22.1))))) := by kernel_rfl
noncomputable def spec_Steps_con : Any := .one ⟨[(.str, false)], [(K6, false), (.bool, false)], 2, fun x => spec_Steps F0 x.1⟩
theorem spec_Steps_ok : AnyOk Tryz.prog TB 134 spec_Steps_con := ok1 (show AllOk Tryz.prog TB spec_Steps_C from ⟨spec_Split_ok, spec_l2Cut_ok, spec_Number_ok, spec_TxsOf_ok, trivial⟩) Tryz.func134 (by kernel_rfl) (by kernel_rfl) spec_Steps_H (by kernel_rfl)

/-! ### spec.NameOk -/
noncomputable def spec_NameOk_C : List (Nat × Any) := [(134, spec_Steps_con)]
noncomputable def spec_NameOk_H : Nat → Option Hint := look []
noncomputable def spec_NameOk (s : ByteArray) : Option (Args [(.bool, false)]) := runF Tryz.prog (look spec_NameOk_C) F spec_NameOk_H Tryz.f157 [(.str, false)] [(.bool, false)] 1 (s, ())
theorem spec_NameOk_eq (s : ByteArray) : spec_NameOk F s = (spec_Steps F0 s).bind fun r7 => some (r7.2.1, ()) := by kernel_rfl
noncomputable def spec_NameOk_con : Any := .one ⟨[(.str, false)], [(.bool, false)], 1, fun x => spec_NameOk F0 x.1⟩
theorem spec_NameOk_ok : AnyOk Tryz.prog TB 157 spec_NameOk_con := ok1 (show AllOk Tryz.prog TB spec_NameOk_C from ⟨spec_Steps_ok, trivial⟩) Tryz.func157 (by kernel_rfl) (by kernel_rfl) spec_NameOk_H (by kernel_rfl)

/-! ### spec.ViewOf -/
noncomputable def spec_ViewOf_C : List (Nat × Any) := [(134, spec_Steps_con)]
noncomputable def spec_ViewOf_H : Nat → Option Hint := look []
noncomputable def spec_ViewOf (s : ByteArray) : Option (Args [(.int .i64, false)]) := runF Tryz.prog (look spec_ViewOf_C) F spec_ViewOf_H Tryz.f158 [(.str, false)] [(.int .i64, false)] 1 (s, ())
theorem spec_ViewOf_eq (s : ByteArray) : spec_ViewOf F s = (spec_Steps F0 s).bind fun r7 => br (!r7.2.1) (some (0, ())) (br ((r7.1.length : Int) == 0) (some (0, ())) (ck (okI (w64 ((r7.1.length : Int) - 1)) (r7.1.length : Int)) (some ((at_ r7.1 (w64 ((r7.1.length : Int) - 1)) (0, [])).1, ())))) := by kernel_rfl
noncomputable def spec_ViewOf_con : Any := .one ⟨[(.str, false)], [(.int .i64, false)], 1, fun x => spec_ViewOf F0 x.1⟩
theorem spec_ViewOf_ok : AnyOk Tryz.prog TB 158 spec_ViewOf_con := ok1 (show AllOk Tryz.prog TB spec_ViewOf_C from ⟨spec_Steps_ok, trivial⟩) Tryz.func158 (by kernel_rfl) (by kernel_rfl) spec_ViewOf_H (by kernel_rfl)

/-! ### spec.SetOk -/
noncomputable def spec_SetOk_C : List (Nat × Any) := []
noncomputable def spec_SetOk_H : Nat → Option Hint := look [(2, { live := [0, 1, 5], rl := [4] })]
noncomputable def spec_SetOk_1_s (n1 : Int) (s : List Int) (i : Int) : St := { nt := 41, tm := [(0, .v (.c (.int .i64 n1))), (1, .v (.c (.ro false 3 (.int .i64) s))), (5, .v (.c (.int .i64 i)))], bx := [], bl := [] }
noncomputable def spec_SetOk_1_r (t4 : Bool) : St := { nt := 41, tm := [(4, .v (.c (.bool t4)))], bx := [], bl := [] }
noncomputable def spec_SetOk_1_e0  : St := { nt := 41, tm := [], bx := [], bl := [] }
noncomputable def spec_SetOk_1 (st : St) : Option α := lp Tryz.prog (look spec_SetOk_C) F spec_SetOk_H (sub [.r, .l, .r, .b, .i] (codeOf Tryz.f153)) κ n st
noncomputable def spec_SetOk_1_k : Ex → St → Option (Args [(.bool, false)]) := cont Tryz.prog (look spec_SetOk_C) F spec_SetOk_H [.r, .l, .r, .b] (codeOf Tryz.f153) (fin Tryz.prog Tryz.f153 [(.bool, false)] 1)
theorem spec_SetOk_1_step (n1 : Int) (s : List Int) (i : Int) : spec_SetOk_1 F κ (n + 1) (spec_SetOk_1_s n1 s i) = br (decide (i < (s.length : Int))) (ck (okI i (s.length : Int)) (br (decide ((at_ s i 0) < 0)) (κ .ret (spec_SetOk_1_r false)) (ck (okI i (s.length : Int)) (br (decide ((at_ s i 0) ≥ n1)) (κ .ret (spec_SetOk_1_r false)) (br (decide (i > 0)) (ck (okI (w64 (i - 1)) (s.length : Int)) (ck (okI i (s.length : Int)) (br (decide ((at_ s (w64 (i - 1)) 0) ≥ (at_ s i 0))) (κ .ret (spec_SetOk_1_r false)) (spec_SetOk_1 F κ n (spec_SetOk_1_s n1 s (w64 (i + 1))))))) (spec_SetOk_1 F κ n (spec_SetOk_1_s n1 s (w64 (i + 1))))))))) (κ (.exit 0) (spec_SetOk_1_e0 )) := by kernel_rfl
theorem spec_SetOk_1_cr (t4 : Bool) : spec_SetOk_1_k F .ret (spec_SetOk_1_r t4) = some (t4, ()) := by kernel_rfl
theorem spec_SetOk_1_ce0  : spec_SetOk_1_k F (.exit 0) (spec_SetOk_1_e0 ) = some (true, ()) := by kernel_rfl
noncomputable def spec_SetOk (n1 : Int) (s : List Int) : Option (Args [(.bool, false)]) := runF Tryz.prog (look spec_SetOk_C) F spec_SetOk_H Tryz.f153 [(.int .i64, false), (.sl 3 (.int .i64), false)] [(.bool, false)] 1 (n1, s, ())
theorem spec_SetOk_eq (n1 : Int) (s : List Int) : spec_SetOk F n1 s = spec_SetOk_1 F (spec_SetOk_1_k F) F.n (spec_SetOk_1_s n1 s 0) := by kernel_rfl
noncomputable def spec_SetOk_con : Any := .one ⟨[(.int .i64, false), (.sl 3 (.int .i64), false)], [(.bool, false)], 1, fun x => spec_SetOk F0 x.1 x.2.1⟩
theorem spec_SetOk_ok : AnyOk Tryz.prog TB 153 spec_SetOk_con := ok1 (show AllOk Tryz.prog TB spec_SetOk_C from trivial) Tryz.func153 (by kernel_rfl) (by kernel_rfl) spec_SetOk_H (by kernel_rfl)

/-! ### spec.Quorum -/
noncomputable def spec_Quorum_C : List (Nat × Any) := [(49, spec_ConfOk_con)]
noncomputable def spec_Quorum_H : Nat → Option Hint := look []
noncomputable def spec_Quorum (c : D1) : Option (Args [(.int .i64, false)]) := runF Tryz.prog (look spec_Quorum_C) F spec_Quorum_H Tryz.f180 [(K1, true)] [(.int .i64, false)] 1 (c, ())
theorem spec_Quorum_eq (c : D1) : spec_Quorum F c = (spec_ConfOk F0 c).bind fun r4 => br (!r4.1) (some (0, ())) (some (w64 (c.1 - (w64 (Int.tdiv (w64 (c.1 - 1)) 3))), ())) := by kernel_rfl
noncomputable def spec_Quorum_con : Any := .one ⟨[(K1, true)], [(.int .i64, false)], 1, fun x => spec_Quorum F0 x.1⟩
theorem spec_Quorum_ok : AnyOk Tryz.prog TB 180 spec_Quorum_con := ok1 (show AllOk Tryz.prog TB spec_Quorum_C from ⟨spec_ConfOk_ok, trivial⟩) Tryz.func180 (by kernel_rfl) (by kernel_rfl) spec_Quorum_H (by kernel_rfl)

/-! ### spec.QcOk -/
noncomputable def spec_QcOk_C : List (Nat × Any) := [(49, spec_ConfOk_con), (153, spec_SetOk_con), (157, spec_NameOk_con), (158, spec_ViewOf_con), (180, spec_Quorum_con)]
noncomputable def spec_QcOk_H : Nat → Option Hint := look []
noncomputable def spec_QcOk (c : D1) (q : D8) : Option (Args [(.bool, false)]) := runF Tryz.prog (look spec_QcOk_C) F spec_QcOk_H Tryz.f120 [(K1, true), (K8, true)] [(.bool, false)] 1 (c, q, ())
theorem spec_QcOk_eq (c : D1) (q : D8) : spec_QcOk F c q = (spec_ConfOk F0 c).bind fun r6 => br (!r6.1) (some (false, ())) ((spec_NameOk F0 q.2.1).bind fun r11 => br (!r11.1) (some (false, ())) ((spec_ViewOf F0 q.2.1).bind fun r17 => br (r17.1 != q.1) (some (false, ())) (br (q.2.1.toList == (ByteArray.mk #[]).toList) (some (((q.2.2.length : Int) == 0), ())) ((spec_SetOk F0 c.1 q.2.2).bind fun r33 => br r33.1 ((spec_Quorum F0 c).bind fun r39 => some (decide ((q.2.2.length : Int) ≥ r39.1), ())) (some (false, ())))))) := by kernel_rfl
noncomputable def spec_QcOk_con : Any := .one ⟨[(K1, true), (K8, true)], [(.bool, false)], 1, fun x => spec_QcOk F0 x.1 x.2.1⟩
theorem spec_QcOk_ok : AnyOk Tryz.prog TB 120 spec_QcOk_con := ok1 (show AllOk Tryz.prog TB spec_QcOk_C from ⟨spec_ConfOk_ok, spec_SetOk_ok, spec_NameOk_ok, spec_ViewOf_ok, spec_Quorum_ok, trivial⟩) Tryz.func120 (by kernel_rfl) (by kernel_rfl) spec_QcOk_H (by kernel_rfl)

/-! ### impl.within -/
noncomputable def impl_within_C : List (Nat × Any) := []
noncomputable def impl_within_H : Nat → Option Hint := look []
noncomputable def impl_within (n1 : Int) (low : Int) (high : Int) : Option (Args [(.bool, false)]) := runF Tryz.prog (look impl_within_C) F impl_within_H Tryz.f121 [(.int .i64, false), (.int .i64, false), (.int .i64, false)] [(.bool, false)] 1 (n1, low, high, ())
theorem impl_within_eq (n1 : Int) (low : Int) (high : Int) : impl_within F n1 low high = br (decide (n1 ≥ low)) (some (decide (n1 ≤ high), ())) (some (false, ())) := by kernel_rfl
noncomputable def impl_within_con : Any := .one ⟨[(.int .i64, false), (.int .i64, false), (.int .i64, false)], [(.bool, false)], 1, fun x => impl_within F0 x.1 x.2.1 x.2.2.1⟩
theorem impl_within_ok : AnyOk Tryz.prog TB 121 impl_within_con := ok1 (show AllOk Tryz.prog TB impl_within_C from trivial) Tryz.func121 (by kernel_rfl) (by kernel_rfl) impl_within_H (by kernel_rfl)

/-! ### impl.ConfOk -/
noncomputable def impl_ConfOk_C : List (Nat × Any) := [(121, impl_within_con)]
noncomputable def impl_ConfOk_H : Nat → Option Hint := look []
noncomputable def impl_ConfOk (c : D1) : Option (Args [(.bool, false)]) := runF Tryz.prog (look impl_ConfOk_C) F impl_ConfOk_H Tryz.f57 [(K1, true)] [(.bool, false)] 1 (c, ())
theorem impl_ConfOk_eq (c : D1) : impl_ConfOk F c = (impl_within F0 c.1 4 7).bind fun r5 => br r5.1 ((impl_within F0 c.2 1 6).bind fun r9 => some (r9.1, ())) (some (false, ())) := by kernel_rfl
noncomputable def impl_ConfOk_con : Any := .one ⟨[(K1, true)], [(.bool, false)], 1, fun x => impl_ConfOk F0 x.1⟩
theorem impl_ConfOk_ok : AnyOk Tryz.prog TB 57 impl_ConfOk_con := ok1 (show AllOk Tryz.prog TB impl_ConfOk_C from ⟨impl_within_ok, trivial⟩) Tryz.func57 (by kernel_rfl) (by kernel_rfl) impl_ConfOk_H (by kernel_rfl)

/-! ### slices.Index[[]int,int] -/
noncomputable def slices_Index_int_int_C : List (Nat × Any) := []
noncomputable def slices_Index_int_int_H : Nat → Option Hint := look [(2, { live := [0, 1, 7, 8], rl := [4] })]
noncomputable def slices_Index_int_int_1_s (s : List Int) (v : Int) (t7 : Int) (t8 : Int) : St := { nt := 19, tm := [(0, .v (.c (.ro false 3 (.int .i64) s))), (1, .v (.c (.int .i64 v))), (7, .v (.c (.int .i64 t7))), (8, .v (.c (.int .i64 t8)))], bx := [], bl := [] }
noncomputable def slices_Index_int_int_1_r (t4 : Int) : St := { nt := 19, tm := [(4, .v (.c (.int .i64 t4)))], bx := [], bl := [] }
noncomputable def slices_Index_int_int_1_e0  : St := { nt := 19, tm := [], bx := [], bl := [] }
noncomputable def slices_Index_int_int_1 (st : St) : Option α := lp Tryz.prog (look slices_Index_int_int_C) F slices_Index_int_int_H (sub [.r, .l, .r, .b, .i] (codeOf Tryz.f181)) κ n st
noncomputable def slices_Index_int_int_1_k : Ex → St → Option (Args [(.int .i64, false)]) := cont Tryz.prog (look slices_Index_int_int_C) F slices_Index_int_int_H [.r, .l, .r, .b] (codeOf Tryz.f181) (fin Tryz.prog Tryz.f181 [(.int .i64, false)] 1)
theorem slices_Index_int_int_1_step (s : List Int) (v : Int) (t7 : Int) (t8 : Int) : slices_Index_int_int_1 F κ (n + 1) (slices_Index_int_int_1_s s v t7 t8) = br (decide (t8 < t7)) (ck (okI t8 (s.length : Int)) (br (v == (at_ s t8 0)) (κ .ret (slices_Index_int_int_1_r t8)) (slices_Index_int_int_1 F κ n (slices_Index_int_int_1_s s v t7 (w64 (t8 + 1)))))) (κ (.exit 0) (slices_Index_int_int_1_e0 )) := by kernel_rfl
theorem slices_Index_int_int_1_cr (t4 : Int) : slices_Index_int_int_1_k F .ret (slices_Index_int_int_1_r t4) = some (t4, ()) := by kernel_rfl
theorem slices_Index_int_int_1_ce0  : slices_Index_int_int_1_k F (.exit 0) (slices_Index_int_int_1_e0 ) = some ((-1), ()) := by kernel_rfl
noncomputable def slices_Index_int_int (s : List Int) (v : Int) : Option (Args [(.int .i64, false)]) := runF Tryz.prog (look slices_Index_int_int_C) F slices_Index_int_int_H Tryz.f181 [(.sl 3 (.int .i64), false), (.int .i64, false)] [(.int .i64, false)] 1 (s, v, ())
theorem slices_Index_int_int_eq (s : List Int) (v : Int) : slices_Index_int_int F s v = slices_Index_int_int_1 F (slices_Index_int_int_1_k F) F.n (slices_Index_int_int_1_s s v (s.length : Int) 0) := by kernel_rfl
noncomputable def slices_Index_int_int_con : Any := .one ⟨[(.sl 3 (.int .i64), false), (.int .i64, false)], [(.int .i64, false)], 1, fun x => slices_Index_int_int F0 x.1 x.2.1⟩
theorem slices_Index_int_int_ok : AnyOk Tryz.prog TB 181 slices_Index_int_int_con := ok1 (show AllOk Tryz.prog TB slices_Index_int_int_C from trivial) Tryz.func181 (by kernel_rfl) (by kernel_rfl) slices_Index_int_int_H (by kernel_rfl)

/-! ### slices.Contains[[]int,int] -/
noncomputable def slices_Contains_int_int_C : List (Nat × Any) := [(181, slices_Index_int_int_con)]
noncomputable def slices_Contains_int_int_H : Nat → Option Hint := look []
noncomputable def slices_Contains_int_int (s : List Int) (v : Int) : Option (Args [(.bool, false)]) := runF Tryz.prog (look slices_Contains_int_int_C) F slices_Contains_int_int_H Tryz.f122 [(.sl 3 (.int .i64), false), (.int .i64, false)] [(.bool, false)] 1 (s, v, ())
theorem slices_Contains_int_int_eq (s : List Int) (v : Int) : slices_Contains_int_int F s v = (slices_Index_int_int F0 s v).bind fun r7 => some (decide (r7.1 ≥ 0), ()) := by kernel_rfl
noncomputable def slices_Contains_int_int_con : Any := .one ⟨[(.sl 3 (.int .i64), false), (.int .i64, false)], [(.bool, false)], 1, fun x => slices_Contains_int_int F0 x.1 x.2.1⟩
theorem slices_Contains_int_int_ok : AnyOk Tryz.prog TB 122 slices_Contains_int_int_con := ok1 (show AllOk Tryz.prog TB slices_Contains_int_int_C from ⟨slices_Index_int_int_ok, trivial⟩) Tryz.func122 (by kernel_rfl) (by kernel_rfl) slices_Contains_int_int_H (by kernel_rfl)

/-! ### impl.SetHas -/
noncomputable def impl_SetHas_C : List (Nat × Any) := [(122, slices_Contains_int_int_con)]
noncomputable def impl_SetHas_H : Nat → Option Hint := look []
noncomputable def impl_SetHas (s : List Int) (i : Int) : Option (Args [(.bool, false)]) := runF Tryz.prog (look impl_SetHas_C) F impl_SetHas_H Tryz.f59 [(.sl 3 (.int .i64), false), (.int .i64, false)] [(.bool, false)] 1 (s, i, ())
theorem impl_SetHas_eq (s : List Int) (i : Int) : impl_SetHas F s i = (slices_Contains_int_int F0 s i).bind fun r7 => some (r7.1, ()) := by kernel_rfl
noncomputable def impl_SetHas_con : Any := .one ⟨[(.sl 3 (.int .i64), false), (.int .i64, false)], [(.bool, false)], 1, fun x => impl_SetHas F0 x.1 x.2.1⟩
theorem impl_SetHas_ok : AnyOk Tryz.prog TB 59 impl_SetHas_con := ok1 (show AllOk Tryz.prog TB impl_SetHas_C from ⟨slices_Contains_int_int_ok, trivial⟩) Tryz.func59 (by kernel_rfl) (by kernel_rfl) impl_SetHas_H (by kernel_rfl)

/-! ### impl.copyInts -/
noncomputable def impl_copyInts_C : List (Nat × Any) := []
noncomputable def impl_copyInts_H : Nat → Option Hint := look []
noncomputable def impl_copyInts (l : List Int) : Option (Args [(.sl 3 (.int .i64), false)]) := runF Tryz.prog (look impl_copyInts_C) F impl_copyInts_H Tryz.f123 [(.sl 3 (.int .i64), false)] [(.sl 3 (.int .i64), false)] 2 (l, ())
theorem impl_copyInts_eq (l : List Int) : impl_copyInts F l = ck (okA F 0 l.length 8) (some ([] ++ l, ())) := by kernel_rfl
noncomputable def impl_copyInts_con : Any := .one ⟨[(.sl 3 (.int .i64), false)], [(.sl 3 (.int .i64), false)], 2, fun x => impl_copyInts F0 x.1⟩
theorem impl_copyInts_ok : AnyOk Tryz.prog TB 123 impl_copyInts_con := ok1 (show AllOk Tryz.prog TB impl_copyInts_C from trivial) Tryz.func123 (by kernel_rfl) (by kernel_rfl) impl_copyInts_H (by kernel_rfl)

/-! ### impl.QcFirst -/
noncomputable def impl_QcFirst_C : List (Nat × Any) := []
noncomputable def impl_QcFirst_H : Nat → Option Hint := look []
noncomputable def impl_QcFirst  : Option (Args [(K8, true)]) := runF Tryz.prog (look impl_QcFirst_C) F impl_QcFirst_H Tryz.f185 [] [(K8, true)] 2 (())
theorem impl_QcFirst_eq  : impl_QcFirst F  = some ((0, ((ByteArray.mk #[]), [])), ()) := by kernel_rfl
noncomputable def impl_QcFirst_con : Any := .one ⟨[], [(K8, true)], 2, fun x => impl_QcFirst F0 ⟩
theorem impl_QcFirst_ok : AnyOk Tryz.prog TB 185 impl_QcFirst_con := ok1 (show AllOk Tryz.prog TB impl_QcFirst_C from trivial) Tryz.func185 (by kernel_rfl) (by kernel_rfl) impl_QcFirst_H (by kernel_rfl)

/-! ### slices.Equal[[]int,int] -/
noncomputable def slices_Equal_int_int_C : List (Nat × Any) := []
noncomputable def slices_Equal_int_int_H : Nat → Option Hint := look [(4, { live := [0, 1, 12, 13], rl := [4] })]
noncomputable def slices_Equal_int_int_1_s (s1 : List Int) (s2 : List Int) (t12 : Int) (t13 : Int) : St := { nt := 26, tm := [(0, .v (.c (.ro false 3 (.int .i64) s1))), (1, .v (.c (.ro false 3 (.int .i64) s2))), (12, .v (.c (.int .i64 t12))), (13, .v (.c (.int .i64 t13)))], bx := [], bl := [] }
noncomputable def slices_Equal_int_int_1_r (t4 : Bool) : St := { nt := 26, tm := [(4, .v (.c (.bool t4)))], bx := [], bl := [] }
noncomputable def slices_Equal_int_int_1_e0  : St := { nt := 26, tm := [], bx := [], bl := [] }
noncomputable def slices_Equal_int_int_1 (st : St) : Option α := lp Tryz.prog (look slices_Equal_int_int_C) F slices_Equal_int_int_H (sub [.r, .r, .l, .r, .b, .i] (codeOf Tryz.f233)) κ n st
noncomputable def slices_Equal_int_int_1_k : Ex → St → Option (Args [(.bool, false)]) := cont Tryz.prog (look slices_Equal_int_int_C) F slices_Equal_int_int_H [.r, .r, .l, .r, .b] (codeOf Tryz.f233) (fin Tryz.prog Tryz.f233 [(.bool, false)] 1)
theorem slices_Equal_int_int_1_step (s1 : List Int) (s2 : List Int) (t12 : Int) (t13 : Int) : slices_Equal_int_int_1 F κ (n + 1) (slices_Equal_int_int_1_s s1 s2 t12 t13) = br (decide (t13 < t12)) (ck (okI t13 (s1.length : Int)) (ck (okI t13 (s2.length : Int)) (br ((at_ s1 t13 0) != (at_ s2 t13 0)) (κ .ret (slices_Equal_int_int_1_r false)) (slices_Equal_int_int_1 F κ n (slices_Equal_int_int_1_s s1 s2 t12 (w64 (t13 + 1))))))) (κ (.exit 0) (slices_Equal_int_int_1_e0 )) := by kernel_rfl
theorem slices_Equal_int_int_1_cr (t4 : Bool) : slices_Equal_int_int_1_k F .ret (slices_Equal_int_int_1_r t4) = some (t4, ()) := by kernel_rfl
theorem slices_Equal_int_int_1_ce0  : slices_Equal_int_int_1_k F (.exit 0) (slices_Equal_int_int_1_e0 ) = some (true, ()) := by kernel_rfl
noncomputable def slices_Equal_int_int (s1 : List Int) (s2 : List Int) : Option (Args [(.bool, false)]) := runF Tryz.prog (look slices_Equal_int_int_C) F slices_Equal_int_int_H Tryz.f233 [(.sl 3 (.int .i64), false), (.sl 3 (.int .i64), false)] [(.bool, false)] 1 (s1, s2, ())
theorem slices_Equal_int_int_eq (s1 : List Int) (s2 : List Int) : slices_Equal_int_int F s1 s2 = br ((s1.length : Int) != (s2.length : Int)) (some (false, ())) (slices_Equal_int_int_1 F (slices_Equal_int_int_1_k F) F.n (slices_Equal_int_int_1_s s1 s2 (s1.length : Int) 0)) := by kernel_rfl
noncomputable def slices_Equal_int_int_con : Any := .one ⟨[(.sl 3 (.int .i64), false), (.sl 3 (.int .i64), false)], [(.bool, false)], 1, fun x => slices_Equal_int_int F0 x.1 x.2.1⟩
theorem slices_Equal_int_int_ok : AnyOk Tryz.prog TB 233 slices_Equal_int_int_con := ok1 (show AllOk Tryz.prog TB slices_Equal_int_int_C from trivial) Tryz.func233 (by kernel_rfl) (by kernel_rfl) slices_Equal_int_int_H (by kernel_rfl)

/-! ### impl.QcSame -/
noncomputable def impl_QcSame_C : List (Nat × Any) := [(233, slices_Equal_int_int_con)]
noncomputable def impl_QcSame_H : Nat → Option Hint := look []
noncomputable def impl_QcSame (a : D8) (b : D8) : Option (Args [(.bool, false)]) := runF Tryz.prog (look impl_QcSame_C) F impl_QcSame_H Tryz.f184 [(K8, true), (K8, true)] [(.bool, false)] 1 (a, b, ())
theorem impl_QcSame_eq (a : D8) (b : D8) : impl_QcSame F a b = br (a.1 == b.1) (br (a.2.1.toList == b.2.1.toList) ((slices_Equal_int_int F0 a.2.2 b.2.2).bind fun r22 => some (r22.1, ())) (some (false, ()))) (some (false, ())) := by kernel_rfl
noncomputable def impl_QcSame_con : Any := .one ⟨[(K8, true), (K8, true)], [(.bool, false)], 1, fun x => impl_QcSame F0 x.1 x.2.1⟩
theorem impl_QcSame_ok : AnyOk Tryz.prog TB 184 impl_QcSame_con := ok1 (show AllOk Tryz.prog TB impl_QcSame_C from ⟨slices_Equal_int_int_ok, trivial⟩) Tryz.func184 (by kernel_rfl) (by kernel_rfl) impl_QcSame_H (by kernel_rfl)

/-! ### impl.Split -/
noncomputable def impl_Split_C : List (Nat × Any) := [(239, strings_Split_con)]
noncomputable def impl_Split_H : Nat → Option Hint := look []
noncomputable def impl_Split (s : ByteArray) (by1 : Int) : Option (Args [(.sl 9 (.str), false)]) := runF Tryz.prog (look impl_Split_C) F impl_Split_H Tryz.f196 [(.str, false), (.int .u8, false)] [(.sl 9 (.str), false)] 1 (s, by1, ())
theorem impl_Split_eq (s : ByteArray) (by1 : Int) : impl_Split F s by1 = (strings_Split F0 s (strOf [by1])).bind fun r9 => some (r9.1, ()) := by kernel_rfl
noncomputable def impl_Split_con : Any := .one ⟨[(.str, false), (.int .u8, false)], [(.sl 9 (.str), false)], 1, fun x => impl_Split F0 x.1 x.2.1⟩
theorem impl_Split_ok : AnyOk Tryz.prog TB 196 impl_Split_con := ok1 (show AllOk Tryz.prog TB impl_Split_C from ⟨strings_Split_ok, trivial⟩) Tryz.func196 (by kernel_rfl) (by kernel_rfl) impl_Split_H (by kernel_rfl)

/-! ### impl.Digits -/
noncomputable def impl_Digits_C : List (Nat × Any) := [(150, strconv_Itoa_con)]
noncomputable def impl_Digits_H : Nat → Option Hint := look []
noncomputable def impl_Digits (n1 : Int) : Option (Args [(.str, false)]) := runF Tryz.prog (look impl_Digits_C) F impl_Digits_H Tryz.f94 [(.int .i64, false)] [(.str, false)] 1 (n1, ())
theorem impl_Digits_eq (n1 : Int) : impl_Digits F n1 = (strconv_Itoa F0 n1).bind fun r4 => some (r4.1, ()) := by kernel_rfl
noncomputable def impl_Digits_con : Any := .one ⟨[(.int .i64, false)], [(.str, false)], 1, fun x => impl_Digits F0 x.1⟩
theorem impl_Digits_ok : AnyOk Tryz.prog TB 94 impl_Digits_con := ok1 (show AllOk Tryz.prog TB impl_Digits_C from ⟨strconv_Itoa_ok, trivial⟩) Tryz.func94 (by kernel_rfl) (by kernel_rfl) impl_Digits_H (by kernel_rfl)

/-! ### impl.Number -/
noncomputable def impl_Number_C : List (Nat × Any) := [(94, impl_Digits_con)]
noncomputable def impl_Number_H : Nat → Option Hint := look [(5, { live := [0, 4, 5], xl := [0, 4], rl := [2, 3] })]
noncomputable def impl_Number_1_s (s : ByteArray) (n1 : Int) (i : Int) : St := { nt := 43, tm := [(0, .v (.c (.str s))), (4, .v (.c (.int .i64 n1))), (5, .v (.c (.int .i64 i)))], bx := [], bl := [] }
noncomputable def impl_Number_1_r (t2 : Int) (t3 : Bool) : St := { nt := 43, tm := [(2, .v (.c (.int .i64 t2))), (3, .v (.c (.bool t3)))], bx := [], bl := [] }
noncomputable def impl_Number_1_e0 (s : ByteArray) (n1 : Int) : St := { nt := 43, tm := [(0, .v (.c (.str s))), (4, .v (.c (.int .i64 n1)))], bx := [], bl := [] }
noncomputable def impl_Number_1 (st : St) : Option α := lp Tryz.prog (look impl_Number_C) F impl_Number_H (sub [.r, .r, .r, .l, .r, .b, .i] (codeOf Tryz.f198)) κ n st
noncomputable def impl_Number_1_k : Ex → St → Option (Args [(.int .i64, false), (.bool, false)]) := cont Tryz.prog (look impl_Number_C) F impl_Number_H [.r, .r, .r, .l, .r, .b] (codeOf Tryz.f198) (fin Tryz.prog Tryz.f198 [(.int .i64, false), (.bool, false)] 1)
theorem impl_Number_1_step (s : ByteArray) (n1 : Int) (i : Int) : impl_Number_1 F κ (n + 1) (impl_Number_1_s s n1 i) = br (decide (i < (s.size : Int))) (ck (okI i (s.size : Int)) (br (decide ((byteAt s i) < 48)) (κ .ret (impl_Number_1_r 0 false)) (ck (okI i (s.size : Int)) (br (decide ((byteAt s i) > 57)) (κ .ret (impl_Number_1_r 0 false)) (ck (okI i (s.size : Int)) (impl_Number_1 F κ n (impl_Number_1_s s (w64 ((w64 (10 * n1)) + (w64 (IntKind.wrap .u8 ((byteAt s i) - 48))))) (w64 (i + 1))))))))) (κ (.exit 0) (impl_Number_1_e0 s n1)) := by kernel_rfl
theorem impl_Number_1_cr (t2 : Int) (t3 : Bool) : impl_Number_1_k F .ret (impl_Number_1_r t2 t3) = some (t2, t3, ()) := by kernel_rfl
theorem impl_Number_1_ce0 (s : ByteArray) (n1 : Int) : impl_Number_1_k F (.exit 0) (impl_Number_1_e0 s n1) = (impl_Digits F0 n1).bind fun r39 => br (!(r39.1.toList == s.toList)) (some (0, false, ())) (some (n1, true, ())) := by kernel_rfl
noncomputable def impl_Number (s : ByteArray) : Option (Args [(.int .i64, false), (.bool, false)]) := runF Tryz.prog (look impl_Number_C) F impl_Number_H Tryz.f198 [(.str, false)] [(.int .i64, false), (.bool, false)] 1 (s, ())
theorem impl_Number_eq (s : ByteArray) : impl_Number F s = br (decide ((s.size : Int) < 1)) (some (0, false, ())) (br (decide ((s.size : Int) > 6)) (some (0, false, ())) (impl_Number_1 F (impl_Number_1_k F) F.n (impl_Number_1_s s 0 0))) := by kernel_rfl
noncomputable def impl_Number_con : Any := .one ⟨[(.str, false)], [(.int .i64, false), (.bool, false)], 1, fun x => impl_Number F0 x.1⟩
theorem impl_Number_ok : AnyOk Tryz.prog TB 198 impl_Number_con := ok1 (show AllOk Tryz.prog TB impl_Number_C from ⟨impl_Digits_ok, trivial⟩) Tryz.func198 (by kernel_rfl) (by kernel_rfl) impl_Number_H (by kernel_rfl)

/-! ### impl.TxOk -/
noncomputable def impl_TxOk_C : List (Nat × Any) := [(121, impl_within_con)]
noncomputable def impl_TxOk_H : Nat → Option Hint := look []
noncomputable def impl_TxOk (x : D3) : Option (Args [(.bool, false)]) := runF Tryz.prog (look impl_TxOk_C) F impl_TxOk_H Tryz.f222 [(K3, true)] [(.bool, false)] 1 (x, ())
theorem impl_TxOk_eq (x : D3) : impl_TxOk F x = (impl_within F0 x.1 0 3).bind fun r5 => br r5.1 ((impl_within F0 x.2.1 0 3).bind fun r9 => br r9.1 ((impl_within F0 x.2.2.1 0 1000).bind fun r14 => br r14.1 ((impl_within F0 x.2.2.2 0 99).bind fun r19 => some (r19.1, ())) (some (false, ()))) (some (false, ()))) (some (false, ())) := by kernel_rfl
noncomputable def impl_TxOk_con : Any := .one ⟨[(K3, true)], [(.bool, false)], 1, fun x => impl_TxOk F0 x.1⟩
theorem impl_TxOk_ok : AnyOk Tryz.prog TB 222 impl_TxOk_con := ok1 (show AllOk Tryz.prog TB impl_TxOk_C from ⟨impl_within_ok, trivial⟩) Tryz.func222 (by kernel_rfl) (by kernel_rfl) impl_TxOk_H (by kernel_rfl)

/-! ### impl.TxText -/
noncomputable def impl_TxText_C : List (Nat × Any) := [(94, impl_Digits_con), (222, impl_TxOk_con)]
noncomputable def impl_TxText_H : Nat → Option Hint := look []
noncomputable def impl_TxText (x : D3) : Option (Args [(.str, false)]) := runF Tryz.prog (look impl_TxText_C) F impl_TxText_H Tryz.f267 [(K3, true)] [(.str, false)] 1 (x, ())
theorem impl_TxText_eq (x : D3) : impl_TxText F x = (impl_TxOk F0 x).bind fun r4 => br (!r4.1) (some ((ByteArray.mk #[]), ())) ((impl_Digits F0 x.1).bind fun r8 => ck (okC F r8.1.size (ByteArray.mk #[62]).size) ((impl_Digits F0 x.2.1).bind fun r12 => ck (okC F (r8.1 ++ (ByteArray.mk #[62])).size r12.1.size) (ck (okC F ((r8.1 ++ (ByteArray.mk #[62])) ++ r12.1).size (ByteArray.mk #[58]).size) ((impl_Digits F0 x.2.2.1).bind fun r17 => ck (okC F (((r8.1 ++ (ByteArray.mk #[62])) ++ r12.1) ++ (ByteArray.mk #[58])).size r17.1.size) (ck (okC F ((((r8.1 ++ (ByteArray.mk #[62])) ++ r12.1) ++ (ByteArray.mk #[58])) ++ r17.1).size (ByteArray.mk #[35]).size) ((impl_Digits F0 x.2.2.2).bind fun r22 => ck (okC F (((((r8.1 ++ (ByteArray.mk #[62])) ++ r12.1) ++ (ByteArray.mk #[58])) ++ r17.1) ++ (ByteArray.mk #[35])).size r22.1.size) (some ((((((r8.1 ++ (ByteArray.mk #[62])) ++ r12.1) ++ (ByteArray.mk #[58])) ++ r17.1) ++ (ByteArray.mk #[35])) ++ r22.1, ())))))))) := by kernel_rfl
noncomputable def impl_TxText_con : Any := .one ⟨[(K3, true)], [(.str, false)], 1, fun x => impl_TxText F0 x.1⟩
theorem impl_TxText_ok : AnyOk Tryz.prog TB 267 impl_TxText_con := ok1 (show AllOk Tryz.prog TB impl_TxText_C from ⟨impl_Digits_ok, impl_TxOk_ok, trivial⟩) Tryz.func267 (by kernel_rfl) (by kernel_rfl) impl_TxText_H (by kernel_rfl)

/-! ### impl.TxOf -/
noncomputable def impl_TxOf_C : List (Nat × Any) := [(197, strings_Cut_con), (198, impl_Number_con), (222, impl_TxOk_con), (267, impl_TxText_con)]
noncomputable def impl_TxOf_H : Nat → Option Hint := look []
noncomputable def impl_TxOf (s : ByteArray) : Option (Args [(K3, true), (.bool, false)]) := runF Tryz.prog (look impl_TxOf_C) F impl_TxOf_H Tryz.f241 [(.str, false)] [(K3, true), (.bool, false)] 1 (s, ())
theorem impl_TxOf_eq (s : ByteArray) : impl_TxOf F0 s = (strings_Cut F0 s (ByteArray.mk #[62])).bind fun r18_0 => (strings_Cut F0 r18_0.2.1 (ByteArray.mk #[58])).bind fun r24_0 => (strings_Cut F0 r24_0.2.1 (ByteArray.mk #[35])).bind fun r30_0 => ck (okI 0 4) ((impl_Number F0 (at_ [r18_0.1, r24_0.1, r30_0.1, r30_0.2.1] 0 ByteArray.empty)).bind fun r48_1 => ck (okI 1 4) ((impl_Number F0 (at_ [r18_0.1, r24_0.1, r30_0.1, r30_0.2.1] 1 ByteArray.empty)).bind fun r48_2 => ck (okI 2 4) ((impl_Number F0 (at_ [r18_0.1, r24_0.1, r30_0.1, r30_0.2.1] 2 ByteArray.empty)).bind fun r48_3 => ck (okI 3 4) ((impl_Number F0 (at_ [r18_0.1, r24_0.1, r30_0.1, r30_0.2.1] 3 ByteArray.empty)).bind fun r48_4 => (impl_TxOk F0 (r48_1.1, (r48_2.1, (r48_3.1, r48_4.1)))).bind fun r63_5 => br (!r63_5.1) (some ((0, (0, (0, 0))), false, ())) ((impl_TxText F0 (r48_1.1, (r48_2.1, (r48_3.1, r48_4.1)))).bind fun r67_5 => br (!(r67_5.1.toList == s.toList)) (some ((0, (0, (0, 0))), false, ())) (some ((r48_1.1, (r48_2.1, (r48_3.1, r48_4.1))), true, ()))))))) := by kernel_rfl
noncomputable def impl_TxOf_con : Any := .one ⟨[(.str, false)], [(K3, true), (.bool, false)], 1, fun x => impl_TxOf F0 x.1⟩
theorem impl_TxOf_ok : AnyOk Tryz.prog TB 241 impl_TxOf_con := ok1 (show AllOk Tryz.prog TB impl_TxOf_C from ⟨strings_Cut_ok, impl_Number_ok, impl_TxOk_ok, impl_TxText_ok, trivial⟩) Tryz.func241 (by kernel_rfl) (by kernel_rfl) impl_TxOf_H (by kernel_rfl)

/-! ### impl.TxsOf -/
noncomputable def impl_TxsOf_C : List (Nat × Any) := [(196, impl_Split_con), (241, impl_TxOf_con)]
noncomputable def impl_TxsOf_H : Nat → Option Hint := look [(5, { live := [4, 12, 13, 14], mat := [(4, 126, K3)], xl := [4], rl := [2, 3] })]
noncomputable def impl_TxsOf_1_s (t12 : List ByteArray) (t13 : Int) (t14 : Int) (xs : List D3) : St := { nt := 31, tm := [(4, .v (.c (.own 1000000 none))), (12, .v (.c (.ro true 9 (.str) t12))), (13, .v (.c (.int .i64 t13))), (14, .v (.c (.int .i64 t14)))], bx := [], bl := [(1000000, some ⟨126, K3, xs, true, true⟩)] }
noncomputable def impl_TxsOf_1_r (t3 : Bool) : St := { nt := 31, tm := [(2, .v (.c (.nil))), (3, .v (.c (.bool t3)))], bx := [], bl := [] }
noncomputable def impl_TxsOf_1_e0 (xs : List D3) : St := { nt := 31, tm := [(4, .v (.c (.own 1000000 none)))], bx := [], bl := [(1000000, some ⟨126, K3, xs, true, true⟩)] }
noncomputable def impl_TxsOf_1 (st : St) : Option α := lp Tryz.prog (look impl_TxsOf_C) F impl_TxsOf_H (sub [.r, .r, .r, .l, .r, .b, .i] (codeOf Tryz.f199)) κ n st
noncomputable def impl_TxsOf_1_k : Ex → St → Option (Args [(K4, false), (.bool, false)]) := cont Tryz.prog (look impl_TxsOf_C) F impl_TxsOf_H [.r, .r, .r, .l, .r, .b] (codeOf Tryz.f199) (fin Tryz.prog Tryz.f199 [(K4, false), (.bool, false)] 2)
theorem impl_TxsOf_1_step (t12 : List ByteArray) (t13 : Int) (t14 : Int) (xs : List D3) : impl_TxsOf_1 F κ (n + 1) (impl_TxsOf_1_s t12 t13 t14 xs) = br (decide (t14 < t13)) (ck (okI t14 (t12.length : Int)) ((impl_TxOf F0 (at_ t12 t14 ByteArray.empty)).bind fun r20 => br (!r20.2.1) (κ .ret (impl_TxsOf_1_r false)) (ck (okA F xs.length [r20.1].length 32) (impl_TxsOf_1 F κ n (impl_TxsOf_1_s t12 t13 (w64 (t14 + 1)) (xs ++ [r20.1])))))) (κ (.exit 0) (impl_TxsOf_1_e0 xs)) := by kernel_rfl
theorem impl_TxsOf_1_cr (t3 : Bool) : impl_TxsOf_1_k F .ret (impl_TxsOf_1_r t3) = some ([], t3, ()) := by kernel_rfl
theorem impl_TxsOf_1_ce0 (xs : List D3) : impl_TxsOf_1_k F (.exit 0) (impl_TxsOf_1_e0 xs) = some (xs, true, ()) := by kernel_rfl
noncomputable def impl_TxsOf (s : ByteArray) : Option (Args [(K4, false), (.bool, false)]) := runF Tryz.prog (look impl_TxsOf_C) F impl_TxsOf_H Tryz.f199 [(.str, false)] [(K4, false), (.bool, false)] 2 (s, ())
theorem impl_TxsOf_eq (s : ByteArray) : impl_TxsOf F s = br (s.toList == (ByteArray.mk #[]).toList) (some ([], true, ())) ((impl_Split F0 s 44).bind fun r12 => impl_TxsOf_1 F (impl_TxsOf_1_k F) F.n (impl_TxsOf_1_s r12.1 (r12.1.length : Int) 0 [])) := by kernel_rfl
noncomputable def impl_TxsOf_con : Any := .one ⟨[(.str, false)], [(K4, false), (.bool, false)], 2, fun x => impl_TxsOf F0 x.1⟩
theorem impl_TxsOf_ok : AnyOk Tryz.prog TB 199 impl_TxsOf_con := ok1 (show AllOk Tryz.prog TB impl_TxsOf_C from ⟨impl_Split_ok, impl_TxOf_ok, trivial⟩) Tryz.func199 (by kernel_rfl) (by kernel_rfl) impl_TxsOf_H (by kernel_rfl)

/-! ### impl.Steps -/
noncomputable def impl_Steps_C : List (Nat × Any) := [(121, impl_within_con), (196, impl_Split_con), (197, strings_Cut_con), (198, impl_Number_con), (199, impl_TxsOf_con)]
noncomputable def impl_Steps_H : Nat → Option Hint := look [(9, { live := [5, 6, 31, 32, 33], mat := [(5, 196, K5)], xl := [5], rl := [2, 3] })]
noncomputable def impl_Steps_1_s (last : Int) (t31 : List ByteArray) (t32 : Int) (t33 : Int) (xs : List D5) : St := { nt := 84, tm := [(5, .v (.c (.own 1000000 none))), (6, .v (.c (.int .i64 last))), (31, .v (.c (.ro true 9 (.str) t31))), (32, .v (.c (.int .i64 t32))), (33, .v (.c (.int .i64 t33)))], bx := [], bl := [(1000000, some ⟨196, K5, xs, true, true⟩)] }
noncomputable def impl_Steps_1_r (t3 : Bool) : St := { nt := 84, tm := [(2, .v (.c (.nil))), (3, .v (.c (.bool t3)))], bx := [], bl := [] }
noncomputable def impl_Steps_1_e0 (xs : List D5) : St := { nt := 84, tm := [(5, .v (.c (.own 1000000 none)))], bx := [], bl := [(1000000, some ⟨196, K5, xs, true, true⟩)] }
noncomputable def impl_Steps_1 (st : St) : Option α := lp Tryz.prog (look impl_Steps_C) F impl_Steps_H (sub [.r, .r, .r, .r, .r, .r, .l, .r, .b, .i] (codeOf Tryz.f141)) κ n st
noncomputable def impl_Steps_1_k : Ex → St → Option (Args [(K6, false), (.bool, false)]) := cont Tryz.prog (look impl_Steps_C) F impl_Steps_H [.r, .r, .r, .r, .r, .r, .l, .r, .b] (codeOf Tryz.f141) (fin Tryz.prog Tryz.f141 [(K6, false), (.bool, false)] 2)
theorem impl_Steps_1_step (last : Int) (t31 : List ByteArray) (t32 : Int) (t33 : Int) (xs : List D5) : impl_Steps_1 F κ (n + 1) (impl_Steps_1_s last t31 t32 t33 xs) = br (decide (t33 < t32)) (ck (okI t33 (t31.length : Int)) ((strings_Cut F0 (at_ t31 t33 ByteArray.empty) (ByteArray.mk #[124])).bind fun r39 => (impl_Number F0 r39.1).bind fun r45 => (impl_TxsOf F0 r39.2.1).bind fun r50 => br (!r39.2.2.1) (κ .ret (impl_Steps_1_r false)) (br (!r45.2.1) (κ .ret (impl_Steps_1_r false)) (br (!r50.2.1) (κ .ret (impl_Steps_1_r false)) ((impl_within F0 r45.1 (w64 (last + 1)) 60).bind fun r67 => br (!r67.1) (κ .ret (impl_Steps_1_r false)) (br (decide ((r50.1.length : Int) > 2)) (κ .ret (impl_Steps_1_r false)) (ck (okA F xs.length [(r45.1, r50.1)].length 32) (impl_Steps_1 F κ n (impl_Steps_1_s r45.1 t31 t32 (w64 (t33 + 1)) (xs ++ [(r45.1, r50.1)])))))))))) (κ (.exit 0) (impl_Steps_1_e0 xs)) := by kernel_rfl
theorem impl_Steps_1_cr (t3 : Bool) : impl_Steps_1_k F .ret (impl_Steps_1_r t3) = some ([], t3, ()) := by kernel_rfl
theorem impl_Steps_1_ce0 (xs : List D5) : impl_Steps_1_k F (.exit 0) (impl_Steps_1_e0 xs) = some (xs, true, ()) := by kernel_rfl
noncomputable def impl_Steps (s : ByteArray) : Option (Args [(K6, false), (.bool, false)]) := runF Tryz.prog (look impl_Steps_C) F impl_Steps_H Tryz.f141 [(.str, false)] [(K6, false), (.bool, false)] 2 (s, ())
theorem impl_Steps_eq (s : ByteArray) : impl_Steps F s = br (s.toList == (ByteArray.mk #[]).toList) (some ([], true, ())) ((impl_Split F0 s 47).bind fun r19 => ck (okI 0 (r19.1.length : Int)) (br (!((at_ r19.1 0 ByteArray.empty).toList == (ByteArray.mk #[]).toList)) (some ([], false, ())) (br (decide ((w64 ((r19.1.length : Int) - 1)) > 30)) (some ([], false, ())) (ck (okS 1 (r19.1.length : Int) (r19.1.length : Int)) (impl_Steps_1 F (impl_Steps_1_k F) F.n (impl_Steps_1_s 0 ((r19.1.take (r19.1.length : Int).toNat).drop (1 : Int).toNat) (((r19.1.take (r19.1.length : Int).toNat).drop (1 : Int).toNat).length : Int) 0 [])))))) := by kernel_rfl
noncomputable def impl_Steps_con : Any := .one ⟨[(.str, false)], [(K6, false), (.bool, false)], 2, fun x => impl_Steps F0 x.1⟩
theorem impl_Steps_ok : AnyOk Tryz.prog TB 141 impl_Steps_con := ok1 (show AllOk Tryz.prog TB impl_Steps_C from ⟨impl_within_ok, impl_Split_ok, strings_Cut_ok, impl_Number_ok, impl_TxsOf_ok, trivial⟩) Tryz.func141 (by kernel_rfl) (by kernel_rfl) impl_Steps_H (by kernel_rfl)

/-! ### impl.NameOk -/
noncomputable def impl_NameOk_C : List (Nat × Any) := [(141, impl_Steps_con)]
noncomputable def impl_NameOk_H : Nat → Option Hint := look []
noncomputable def impl_NameOk (s : ByteArray) : Option (Args [(.bool, false)]) := runF Tryz.prog (look impl_NameOk_C) F impl_NameOk_H Tryz.f162 [(.str, false)] [(.bool, false)] 1 (s, ())
theorem impl_NameOk_eq (s : ByteArray) : impl_NameOk F s = (impl_Steps F0 s).bind fun r7 => some (r7.2.1, ()) := by kernel_rfl
noncomputable def impl_NameOk_con : Any := .one ⟨[(.str, false)], [(.bool, false)], 1, fun x => impl_NameOk F0 x.1⟩
theorem impl_NameOk_ok : AnyOk Tryz.prog TB 162 impl_NameOk_con := ok1 (show AllOk Tryz.prog TB impl_NameOk_C from ⟨impl_Steps_ok, trivial⟩) Tryz.func162 (by kernel_rfl) (by kernel_rfl) impl_NameOk_H (by kernel_rfl)

/-! ### impl.ViewOf -/
noncomputable def impl_ViewOf_C : List (Nat × Any) := [(141, impl_Steps_con)]
noncomputable def impl_ViewOf_H : Nat → Option Hint := look []
noncomputable def impl_ViewOf (s : ByteArray) : Option (Args [(.int .i64, false)]) := runF Tryz.prog (look impl_ViewOf_C) F impl_ViewOf_H Tryz.f163 [(.str, false)] [(.int .i64, false)] 1 (s, ())
theorem impl_ViewOf_eq (s : ByteArray) : impl_ViewOf F s = (impl_Steps F0 s).bind fun r7 => br ((r7.1.length : Int) == 0) (some (0, ())) (ck (okI (w64 ((r7.1.length : Int) - 1)) (r7.1.length : Int)) (some ((at_ r7.1 (w64 ((r7.1.length : Int) - 1)) (0, [])).1, ()))) := by kernel_rfl
noncomputable def impl_ViewOf_con : Any := .one ⟨[(.str, false)], [(.int .i64, false)], 1, fun x => impl_ViewOf F0 x.1⟩
theorem impl_ViewOf_ok : AnyOk Tryz.prog TB 163 impl_ViewOf_con := ok1 (show AllOk Tryz.prog TB impl_ViewOf_C from ⟨impl_Steps_ok, trivial⟩) Tryz.func163 (by kernel_rfl) (by kernel_rfl) impl_ViewOf_H (by kernel_rfl)

/-! ### impl.SetOk -/
noncomputable def impl_SetOk_C : List (Nat × Any) := []
noncomputable def impl_SetOk_H : Nat → Option Hint := look [(2, { live := [0, 1, 7, 8, 9], rl := [4] })]
noncomputable def impl_SetOk_1_s (n1 : Int) (s : List Int) (t7 : List Int) (t8 : Int) (t9 : Int) : St := { nt := 35, tm := [(0, .v (.c (.int .i64 n1))), (1, .v (.c (.ro false 3 (.int .i64) s))), (7, .v (.c (.ro false 3 (.int .i64) t7))), (8, .v (.c (.int .i64 t8))), (9, .v (.c (.int .i64 t9)))], bx := [], bl := [] }
noncomputable def impl_SetOk_1_r (t4 : Bool) : St := { nt := 35, tm := [(4, .v (.c (.bool t4)))], bx := [], bl := [] }
noncomputable def impl_SetOk_1_e0  : St := { nt := 35, tm := [], bx := [], bl := [] }
noncomputable def impl_SetOk_1 (st : St) : Option α := lp Tryz.prog (look impl_SetOk_C) F impl_SetOk_H (sub [.r, .l, .r, .b, .i] (codeOf Tryz.f159)) κ n st
noncomputable def impl_SetOk_1_k : Ex → St → Option (Args [(.bool, false)]) := cont Tryz.prog (look impl_SetOk_C) F impl_SetOk_H [.r, .l, .r, .b] (codeOf Tryz.f159) (fin Tryz.prog Tryz.f159 [(.bool, false)] 1)
theorem impl_SetOk_1_step (n1 : Int) (s : List Int) (t7 : List Int) (t8 : Int) (t9 : Int) : impl_SetOk_1 F κ (n + 1) (impl_SetOk_1_s n1 s t7 t8 t9) = br (decide (t9 < t8)) (ck (okI t9 (t7.length : Int)) (br (decide ((at_ t7 t9 0) < 0)) (κ .ret (impl_SetOk_1_r false)) (br (decide ((at_ t7 t9 0) ≥ n1)) (κ .ret (impl_SetOk_1_r false)) (br (decide (t9 > 0)) (ck (okI (w64 (t9 - 1)) (s.length : Int)) (br (decide ((at_ s (w64 (t9 - 1)) 0) ≥ (at_ t7 t9 0))) (κ .ret (impl_SetOk_1_r false)) (impl_SetOk_1 F κ n (impl_SetOk_1_s n1 s t7 t8 (w64 (t9 + 1)))))) (impl_SetOk_1 F κ n (impl_SetOk_1_s n1 s t7 t8 (w64 (t9 + 1)))))))) (κ (.exit 0) (impl_SetOk_1_e0 )) := by kernel_rfl
theorem impl_SetOk_1_cr (t4 : Bool) : impl_SetOk_1_k F .ret (impl_SetOk_1_r t4) = some (t4, ()) := by kernel_rfl
theorem impl_SetOk_1_ce0  : impl_SetOk_1_k F (.exit 0) (impl_SetOk_1_e0 ) = some (true, ()) := by kernel_rfl
noncomputable def impl_SetOk (n1 : Int) (s : List Int) : Option (Args [(.bool, false)]) := runF Tryz.prog (look impl_SetOk_C) F impl_SetOk_H Tryz.f159 [(.int .i64, false), (.sl 3 (.int .i64), false)] [(.bool, false)] 1 (n1, s, ())
theorem impl_SetOk_eq (n1 : Int) (s : List Int) : impl_SetOk F n1 s = impl_SetOk_1 F (impl_SetOk_1_k F) F.n (impl_SetOk_1_s n1 s s (s.length : Int) 0) := by kernel_rfl
noncomputable def impl_SetOk_con : Any := .one ⟨[(.int .i64, false), (.sl 3 (.int .i64), false)], [(.bool, false)], 1, fun x => impl_SetOk F0 x.1 x.2.1⟩
theorem impl_SetOk_ok : AnyOk Tryz.prog TB 159 impl_SetOk_con := ok1 (show AllOk Tryz.prog TB impl_SetOk_C from trivial) Tryz.func159 (by kernel_rfl) (by kernel_rfl) impl_SetOk_H (by kernel_rfl)

/-! ### impl.Faults -/
noncomputable def impl_Faults_C : List (Nat × Any) := [(57, impl_ConfOk_con)]
noncomputable def impl_Faults_H : Nat → Option Hint := look []
noncomputable def impl_Faults (c : D1) : Option (Args [(.int .i64, false)]) := runF Tryz.prog (look impl_Faults_C) F impl_Faults_H Tryz.f160 [(K1, true)] [(.int .i64, false)] 1 (c, ())
theorem impl_Faults_eq (c : D1) : impl_Faults F c = (impl_ConfOk F0 c).bind fun r4 => br (!r4.1) (some (0, ())) (some (w64 (Int.tdiv (w64 (c.1 - 1)) 3), ())) := by kernel_rfl
noncomputable def impl_Faults_con : Any := .one ⟨[(K1, true)], [(.int .i64, false)], 1, fun x => impl_Faults F0 x.1⟩
theorem impl_Faults_ok : AnyOk Tryz.prog TB 160 impl_Faults_con := ok1 (show AllOk Tryz.prog TB impl_Faults_C from ⟨impl_ConfOk_ok, trivial⟩) Tryz.func160 (by kernel_rfl) (by kernel_rfl) impl_Faults_H (by kernel_rfl)

/-! ### impl.Quorum -/
noncomputable def impl_Quorum_C : List (Nat × Any) := [(57, impl_ConfOk_con), (160, impl_Faults_con)]
noncomputable def impl_Quorum_H : Nat → Option Hint := look []
noncomputable def impl_Quorum (c : D1) : Option (Args [(.int .i64, false)]) := runF Tryz.prog (look impl_Quorum_C) F impl_Quorum_H Tryz.f186 [(K1, true)] [(.int .i64, false)] 1 (c, ())
theorem impl_Quorum_eq (c : D1) : impl_Quorum F c = (impl_ConfOk F0 c).bind fun r4 => br (!r4.1) (some (0, ())) ((impl_Faults F0 c).bind fun r9 => some (w64 (c.1 - r9.1), ())) := by kernel_rfl
noncomputable def impl_Quorum_con : Any := .one ⟨[(K1, true)], [(.int .i64, false)], 1, fun x => impl_Quorum F0 x.1⟩
theorem impl_Quorum_ok : AnyOk Tryz.prog TB 186 impl_Quorum_con := ok1 (show AllOk Tryz.prog TB impl_Quorum_C from ⟨impl_ConfOk_ok, impl_Faults_ok, trivial⟩) Tryz.func186 (by kernel_rfl) (by kernel_rfl) impl_Quorum_H (by kernel_rfl)

/-! ### impl.QcOk -/
noncomputable def impl_QcOk_C : List (Nat × Any) := [(57, impl_ConfOk_con), (159, impl_SetOk_con), (162, impl_NameOk_con), (163, impl_ViewOf_con), (184, impl_QcSame_con), (185, impl_QcFirst_con), (186, impl_Quorum_con)]
noncomputable def impl_QcOk_H : Nat → Option Hint := look []
noncomputable def impl_QcOk (c : D1) (q : D8) : Option (Args [(.bool, false)]) := runF Tryz.prog (look impl_QcOk_C) F impl_QcOk_H Tryz.f129 [(K1, true), (K8, true)] [(.bool, false)] 1 (c, q, ())
theorem impl_QcOk_eq (c : D1) (q : D8) : impl_QcOk F c q = (impl_ConfOk F0 c).bind fun r6 => br (!r6.1) (some (false, ())) ((impl_QcFirst F0 ).bind fun r9 => (impl_QcSame F0 q r9.1).bind fun r10 => br r10.1 (some (true, ())) (br (decide (q.1 ≥ 1)) ((impl_NameOk F0 q.2.1).bind fun r18 => br r18.1 ((impl_ViewOf F0 q.2.1).bind fun r25 => br (q.1 == r25.1) ((impl_SetOk F0 c.1 q.2.2).bind fun r33 => br r33.1 ((impl_Quorum F0 c).bind fun r40 => some (decide ((q.2.2.length : Int) ≥ r40.1), ())) (some (false, ()))) (some (false, ()))) (some (false, ()))) (some (false, ())))) := by kernel_rfl
noncomputable def impl_QcOk_con : Any := .one ⟨[(K1, true), (K8, true)], [(.bool, false)], 1, fun x => impl_QcOk F0 x.1 x.2.1⟩
theorem impl_QcOk_ok : AnyOk Tryz.prog TB 129 impl_QcOk_con := ok1 (show AllOk Tryz.prog TB impl_QcOk_C from ⟨impl_ConfOk_ok, impl_SetOk_ok, impl_NameOk_ok, impl_ViewOf_ok, impl_QcSame_ok, impl_QcFirst_ok, impl_Quorum_ok, trivial⟩) Tryz.func129 (by kernel_rfl) (by kernel_rfl) impl_QcOk_H (by kernel_rfl)

/-! ### laws.eqIntS -/
noncomputable def laws_eqIntS_C : List (Nat × Any) := []
noncomputable def laws_eqIntS_H : Nat → Option Hint := look [(4, { live := [0, 1, 5], rl := [4] })]
noncomputable def laws_eqIntS_1_s (a : List Int) (b : List Int) (i : Int) : St := { nt := 26, tm := [(0, .v (.c (.ro false 3 (.int .i64) a))), (1, .v (.c (.ro false 3 (.int .i64) b))), (5, .v (.c (.int .i64 i)))], bx := [], bl := [] }
noncomputable def laws_eqIntS_1_r (t4 : Bool) : St := { nt := 26, tm := [(4, .v (.c (.bool t4)))], bx := [], bl := [] }
noncomputable def laws_eqIntS_1_e0  : St := { nt := 26, tm := [], bx := [], bl := [] }
noncomputable def laws_eqIntS_1 (st : St) : Option α := lp Tryz.prog (look laws_eqIntS_C) F laws_eqIntS_H (sub [.r, .r, .l, .r, .b, .i] (codeOf Tryz.f19)) κ n st
noncomputable def laws_eqIntS_1_k : Ex → St → Option (Args [(.bool, false)]) := cont Tryz.prog (look laws_eqIntS_C) F laws_eqIntS_H [.r, .r, .l, .r, .b] (codeOf Tryz.f19) (fin Tryz.prog Tryz.f19 [(.bool, false)] 1)
theorem laws_eqIntS_1_step (a : List Int) (b : List Int) (i : Int) : laws_eqIntS_1 F κ (n + 1) (laws_eqIntS_1_s a b i) = br (decide (i < (a.length : Int))) (ck (okI i (a.length : Int)) (ck (okI i (b.length : Int)) (br ((at_ a i 0) != (at_ b i 0)) (κ .ret (laws_eqIntS_1_r false)) (laws_eqIntS_1 F κ n (laws_eqIntS_1_s a b (w64 (i + 1))))))) (κ (.exit 0) (laws_eqIntS_1_e0 )) := by kernel_rfl
theorem laws_eqIntS_1_ce0  : laws_eqIntS_1_k F (.exit 0) (laws_eqIntS_1_e0 ) = some (true, ()) := by kernel_rfl
noncomputable def laws_eqIntS (a : List Int) (b : List Int) : Option (Args [(.bool, false)]) := runF Tryz.prog (look laws_eqIntS_C) F laws_eqIntS_H Tryz.f19 [(.sl 3 (.int .i64), false), (.sl 3 (.int .i64), false)] [(.bool, false)] 1 (a, b, ())
theorem laws_eqIntS_eq (a : List Int) (b : List Int) : laws_eqIntS F a b = br ((a.length : Int) != (b.length : Int)) (some (false, ())) (laws_eqIntS_1 F (laws_eqIntS_1_k F) F.n (laws_eqIntS_1_s a b 0)) := by kernel_rfl
noncomputable def laws_eqIntS_con : Any := .one ⟨[(.sl 3 (.int .i64), false), (.sl 3 (.int .i64), false)], [(.bool, false)], 1, fun x => laws_eqIntS F0 x.1 x.2.1⟩
theorem laws_eqIntS_ok : AnyOk Tryz.prog TB 19 laws_eqIntS_con := ok1 (show AllOk Tryz.prog TB laws_eqIntS_C from trivial) Tryz.func19 (by kernel_rfl) (by kernel_rfl) laws_eqIntS_H (by kernel_rfl)

/-! ### laws.eqQc -/
noncomputable def laws_eqQc_C : List (Nat × Any) := [(19, laws_eqIntS_con)]
noncomputable def laws_eqQc_H : Nat → Option Hint := look []
noncomputable def laws_eqQc (a : D8) (b : D8) : Option (Args [(.bool, false)]) := runF Tryz.prog (look laws_eqQc_C) F laws_eqQc_H Tryz.f18 [(K8, true), (K8, true)] [(.bool, false)] 1 (a, b, ())
theorem laws_eqQc_eq (a : D8) (b : D8) : laws_eqQc F a b = br (a.1 != b.1) (some (false, ())) (br (!(a.2.1.toList == b.2.1.toList)) (some (false, ())) ((laws_eqIntS F0 a.2.2 b.2.2).bind fun r19 => br (!r19.1) (some (false, ())) (some (true, ())))) := by kernel_rfl
noncomputable def laws_eqQc_con : Any := .one ⟨[(K8, true), (K8, true)], [(.bool, false)], 1, fun x => laws_eqQc F0 x.1 x.2.1⟩
theorem laws_eqQc_ok : AnyOk Tryz.prog TB 18 laws_eqQc_con := ok1 (show AllOk Tryz.prog TB laws_eqQc_C from ⟨laws_eqIntS_ok, trivial⟩) Tryz.func18 (by kernel_rfl) (by kernel_rfl) laws_eqQc_H (by kernel_rfl)

/-! ### laws.szIntS -/
noncomputable def laws_szIntS_C : List (Nat × Any) := []
noncomputable def laws_szIntS_H : Nat → Option Hint := look []
noncomputable def laws_szIntS (a : List Int) (left : Int) : Option (Args [(.int .i64, false)]) := runF Tryz.prog (look laws_szIntS_C) F laws_szIntS_H Tryz.f87 [(.sl 3 (.int .i64), false), (.int .i64, false)] [(.int .i64, false)] 1 (a, left, ())
theorem laws_szIntS_eq (a : List Int) (left : Int) : laws_szIntS F a left = br (decide ((w64 (left - (a.length : Int))) < 0)) (some ((-1), ())) (some (w64 (left - (a.length : Int)), ())) := by kernel_rfl
noncomputable def laws_szIntS_con : Any := .one ⟨[(.sl 3 (.int .i64), false), (.int .i64, false)], [(.int .i64, false)], 1, fun x => laws_szIntS F0 x.1 x.2.1⟩
theorem laws_szIntS_ok : AnyOk Tryz.prog TB 87 laws_szIntS_con := ok1 (show AllOk Tryz.prog TB laws_szIntS_C from trivial) Tryz.func87 (by kernel_rfl) (by kernel_rfl) laws_szIntS_H (by kernel_rfl)

/-! ### laws.szQc -/
noncomputable def laws_szQc_C : List (Nat × Any) := [(87, laws_szIntS_con)]
noncomputable def laws_szQc_H : Nat → Option Hint := look []
noncomputable def laws_szQc (a : D8) (left : Int) : Option (Args [(.int .i64, false)]) := runF Tryz.prog (look laws_szQc_C) F laws_szQc_H Tryz.f130 [(K8, true), (.int .i64, false)] [(.int .i64, false)] 1 (a, left, ())
theorem laws_szQc_eq (a : D8) (left : Int) : laws_szQc F a left = br (decide ((w64 (left - (a.2.1.size : Int))) < 0)) (some ((-1), ())) ((laws_szIntS F0 a.2.2 (w64 (left - (a.2.1.size : Int)))).bind fun r15 => br (decide (r15.1 < 0)) (some ((-1), ())) (some (r15.1, ()))) := by kernel_rfl
noncomputable def laws_szQc_con : Any := .one ⟨[(K8, true), (.int .i64, false)], [(.int .i64, false)], 1, fun x => laws_szQc F0 x.1 x.2.1⟩
theorem laws_szQc_ok : AnyOk Tryz.prog TB 130 laws_szQc_con := ok1 (show AllOk Tryz.prog TB laws_szQc_C from ⟨laws_szIntS_ok, trivial⟩) Tryz.func130 (by kernel_rfl) (by kernel_rfl) laws_szQc_H (by kernel_rfl)

/-! ### laws.szSafe -/
noncomputable def laws_szSafe_C : List (Nat × Any) := [(130, laws_szQc_con)]
noncomputable def laws_szSafe_H : Nat → Option Hint := look []
noncomputable def laws_szSafe (a : D11) (left : Int) : Option (Args [(.int .i64, false)]) := runF Tryz.prog (look laws_szSafe_C) F laws_szSafe_H Tryz.f66 [(K11, true), (.int .i64, false)] [(.int .i64, false)] 1 (a, left, ())
theorem laws_szSafe_eq (a : D11) (left : Int) : laws_szSafe F a left = (laws_szQc F0 a.2.2.1 left).bind fun r8 => br (decide (r8.1 < 0)) (some ((-1), ())) (br (decide ((w64 (r8.1 - (a.2.2.2.size : Int))) < 0)) (some ((-1), ())) (some (w64 (r8.1 - (a.2.2.2.size : Int)), ()))) := by kernel_rfl
noncomputable def laws_szSafe_con : Any := .one ⟨[(K11, true), (.int .i64, false)], [(.int .i64, false)], 1, fun x => laws_szSafe F0 x.1 x.2.1⟩
theorem laws_szSafe_ok : AnyOk Tryz.prog TB 66 laws_szSafe_con := ok1 (show AllOk Tryz.prog TB laws_szSafe_C from ⟨laws_szQc_ok, trivial⟩) Tryz.func66 (by kernel_rfl) (by kernel_rfl) laws_szSafe_H (by kernel_rfl)

/-! ### laws.szTxS -/
noncomputable def laws_szTxS_C : List (Nat × Any) := []
noncomputable def laws_szTxS_H : Nat → Option Hint := look []
noncomputable def laws_szTxS (a : D12) (left : Int) : Option (Args [(.int .i64, false)]) := runF Tryz.prog (look laws_szTxS_C) F laws_szTxS_H Tryz.f67 [(K12, false), (.int .i64, false)] [(.int .i64, false)] 1 (a, left, ())
theorem laws_szTxS_eq (a : D12) (left : Int) : laws_szTxS F a left = br (decide ((w64 (left - (a.length : Int))) < 0)) (some ((-1), ())) (some (w64 (left - (a.length : Int)), ())) := by kernel_rfl
noncomputable def laws_szTxS_con : Any := .one ⟨[(K12, false), (.int .i64, false)], [(.int .i64, false)], 1, fun x => laws_szTxS F0 x.1 x.2.1⟩
theorem laws_szTxS_ok : AnyOk Tryz.prog TB 67 laws_szTxS_con := ok1 (show AllOk Tryz.prog TB laws_szTxS_C from trivial) Tryz.func67 (by kernel_rfl) (by kernel_rfl) laws_szTxS_H (by kernel_rfl)

/-! ### laws.szPart -/
noncomputable def laws_szPart_C : List (Nat × Any) := [(87, laws_szIntS_con)]
noncomputable def laws_szPart_H : Nat → Option Hint := look []
noncomputable def laws_szPart (a : D8) (left : Int) : Option (Args [(.int .i64, false)]) := runF Tryz.prog (look laws_szPart_C) F laws_szPart_H Tryz.f131 [(K8, true), (.int .i64, false)] [(.int .i64, false)] 1 (a, left, ())
theorem laws_szPart_eq (a : D8) (left : Int) : laws_szPart F a left = br (decide ((w64 (left - (a.2.1.size : Int))) < 0)) (some ((-1), ())) ((laws_szIntS F0 a.2.2 (w64 (left - (a.2.1.size : Int)))).bind fun r15 => br (decide (r15.1 < 0)) (some ((-1), ())) (some (r15.1, ()))) := by kernel_rfl
noncomputable def laws_szPart_con : Any := .one ⟨[(K8, true), (.int .i64, false)], [(.int .i64, false)], 1, fun x => laws_szPart F0 x.1 x.2.1⟩
theorem laws_szPart_ok : AnyOk Tryz.prog TB 131 laws_szPart_con := ok1 (show AllOk Tryz.prog TB laws_szPart_C from ⟨laws_szIntS_ok, trivial⟩) Tryz.func131 (by kernel_rfl) (by kernel_rfl) laws_szPart_H (by kernel_rfl)

/-! ### laws.szPartS -/
noncomputable def laws_szPartS_C : List (Nat × Any) := [(131, laws_szPart_con)]
noncomputable def laws_szPartS_H : Nat → Option Hint := look [(5, { live := [0, 1, 5], xl := [1], rl := [4] })]
noncomputable def laws_szPartS_1_s (a : List D8) (left : Int) (i : Int) : St := { nt := 27, tm := [(0, .v (.c (.ro false 149 (K8) a))), (1, .v (.c (.int .i64 left))), (5, .v (.c (.int .i64 i)))], bx := [], bl := [] }
noncomputable def laws_szPartS_1_r (t4 : Int) : St := { nt := 27, tm := [(4, .v (.c (.int .i64 t4)))], bx := [], bl := [] }
noncomputable def laws_szPartS_1_e0 (left : Int) : St := { nt := 27, tm := [(1, .v (.c (.int .i64 left)))], bx := [], bl := [] }
noncomputable def laws_szPartS_1 (st : St) : Option α := lp Tryz.prog (look laws_szPartS_C) F laws_szPartS_H (sub [.r, .r, .r, .l, .r, .b, .i] (codeOf Tryz.f68)) κ n st
noncomputable def laws_szPartS_1_k : Ex → St → Option (Args [(.int .i64, false)]) := cont Tryz.prog (look laws_szPartS_C) F laws_szPartS_H [.r, .r, .r, .l, .r, .b] (codeOf Tryz.f68) (fin Tryz.prog Tryz.f68 [(.int .i64, false)] 1)
theorem laws_szPartS_1_step (a : List D8) (left : Int) (i : Int) : laws_szPartS_1 F κ (n + 1) (laws_szPartS_1_s a left i) = br (decide (i < (a.length : Int))) (ck (okI i (a.length : Int)) ((laws_szPart F0 (at_ a i K8.dflt) left).bind fun r23 => br (decide (r23.1 < 0)) (κ .ret (laws_szPartS_1_r (-1))) (laws_szPartS_1 F κ n (laws_szPartS_1_s a r23.1 (w64 (i + 1)))))) (κ (.exit 0) (laws_szPartS_1_e0 left)) := by kernel_rfl
theorem laws_szPartS_1_cr (t4 : Int) : laws_szPartS_1_k F .ret (laws_szPartS_1_r t4) = some (t4, ()) := by kernel_rfl
theorem laws_szPartS_1_ce0 (left : Int) : laws_szPartS_1_k F (.exit 0) (laws_szPartS_1_e0 left) = some (left, ()) := by kernel_rfl
noncomputable def laws_szPartS (a : D13) (left : Int) : Option (Args [(.int .i64, false)]) := runF Tryz.prog (look laws_szPartS_C) F laws_szPartS_H Tryz.f68 [(K13, false), (.int .i64, false)] [(.int .i64, false)] 1 (a, left, ())
theorem laws_szPartS_eq (a : D13) (left : Int) : laws_szPartS F a left = br (decide ((w64 (left - (a.length : Int))) < 0)) (some ((-1), ())) (laws_szPartS_1 F (laws_szPartS_1_k F) F.n (laws_szPartS_1_s a (w64 (left - (a.length : Int))) 0)) := by kernel_rfl
noncomputable def laws_szPartS_con : Any := .one ⟨[(K13, false), (.int .i64, false)], [(.int .i64, false)], 1, fun x => laws_szPartS F0 x.1 x.2.1⟩
theorem laws_szPartS_ok : AnyOk Tryz.prog TB 68 laws_szPartS_con := ok1 (show AllOk Tryz.prog TB laws_szPartS_C from ⟨laws_szPart_ok, trivial⟩) Tryz.func68 (by kernel_rfl) (by kernel_rfl) laws_szPartS_H (by kernel_rfl)

/-! ### laws.szByteS -/
noncomputable def laws_szByteS_C : List (Nat × Any) := []
noncomputable def laws_szByteS_H : Nat → Option Hint := look []
noncomputable def laws_szByteS (a : List Int) (left : Int) : Option (Args [(.int .i64, false)]) := runF Tryz.prog (look laws_szByteS_C) F laws_szByteS_H Tryz.f132 [(.sl 5 (.int .u8), false), (.int .i64, false)] [(.int .i64, false)] 1 (a, left, ())
theorem laws_szByteS_eq (a : List Int) (left : Int) : laws_szByteS F a left = br (decide ((w64 (left - (a.length : Int))) < 0)) (some ((-1), ())) (some (w64 (left - (a.length : Int)), ())) := by kernel_rfl
noncomputable def laws_szByteS_con : Any := .one ⟨[(.sl 5 (.int .u8), false), (.int .i64, false)], [(.int .i64, false)], 1, fun x => laws_szByteS F0 x.1 x.2.1⟩
theorem laws_szByteS_ok : AnyOk Tryz.prog TB 132 laws_szByteS_con := ok1 (show AllOk Tryz.prog TB laws_szByteS_C from trivial) Tryz.func132 (by kernel_rfl) (by kernel_rfl) laws_szByteS_H (by kernel_rfl)

/-! ### laws.szDisk -/
noncomputable def laws_szDisk_C : List (Nat × Any) := [(132, laws_szByteS_con)]
noncomputable def laws_szDisk_H : Nat → Option Hint := look []
noncomputable def laws_szDisk (a : D14) (left : Int) : Option (Args [(.int .i64, false)]) := runF Tryz.prog (look laws_szDisk_C) F laws_szDisk_H Tryz.f69 [(K14, true), (.int .i64, false)] [(.int .i64, false)] 1 (a, left, ())
theorem laws_szDisk_eq (a : D14) (left : Int) : laws_szDisk F a left = (laws_szByteS F0 a.1 left).bind fun r8 => br (decide (r8.1 < 0)) (some ((-1), ())) (some (r8.1, ())) := by kernel_rfl
noncomputable def laws_szDisk_con : Any := .one ⟨[(K14, true), (.int .i64, false)], [(.int .i64, false)], 1, fun x => laws_szDisk F0 x.1 x.2.1⟩
theorem laws_szDisk_ok : AnyOk Tryz.prog TB 69 laws_szDisk_con := ok1 (show AllOk Tryz.prog TB laws_szDisk_C from ⟨laws_szByteS_ok, trivial⟩) Tryz.func69 (by kernel_rfl) (by kernel_rfl) laws_szDisk_H (by kernel_rfl)

end
end Go.Am.Tryz
