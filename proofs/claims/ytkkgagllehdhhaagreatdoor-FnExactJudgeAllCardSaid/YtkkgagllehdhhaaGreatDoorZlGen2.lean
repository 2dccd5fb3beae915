/- What Go's functions compute, as plain functions, and that they do. No condition. -/
import Derived.Test.YtkkgagllehdhhaaGreatDoorZlGen1
set_option linter.unusedVariables false
set_option maxRecDepth 100000
namespace Go.Am.Tryz
open Go.Am Go.Proofs

noncomputable section
variable {α : Type} (F : Par) (κ : Ex → St → Option α) (n : Nat)
/-! ### laws.szBlock -/
noncomputable def laws_szBlock_C : List (Nat × Any) := [(130, laws_szQc_con)]
noncomputable def laws_szBlock_H : Nat → Option Hint := look []
noncomputable def laws_szBlock (a : D15) (left : Int) : Option (Args [(.int .i64, false)]) := runF Tryz.prog (look laws_szBlock_C) F laws_szBlock_H Tryz.f234 [(K15, true), (.int .i64, false)] [(.int .i64, false)] 1 (a, left, ())
theorem laws_szBlock_eq (a : D15) (left : Int) : laws_szBlock F a left = br (decide ((w64 (left - (a.1.size : Int))) < 0)) (some ((-1), ())) ((laws_szQc F0 a.2 (w64 (left - (a.1.size : Int)))).bind fun r15 => br (decide (r15.1 < 0)) (some ((-1), ())) (some (r15.1, ()))) := by kernel_rfl
noncomputable def laws_szBlock_con : Any := .one ⟨[(K15, true), (.int .i64, false)], [(.int .i64, false)], 1, fun x => laws_szBlock F0 x.1 x.2.1⟩
theorem laws_szBlock_ok : AnyOk Tryz.prog TB 234 laws_szBlock_con := ok1 (show AllOk Tryz.prog TB laws_szBlock_C from ⟨laws_szQc_ok, trivial⟩) Tryz.func234 (by kernel_rfl) (by kernel_rfl) laws_szBlock_H (by kernel_rfl)

/-! ### laws.szMsg -/
noncomputable def laws_szMsg_C : List (Nat × Any) := [(130, laws_szQc_con), (131, laws_szPart_con), (234, laws_szBlock_con)]
noncomputable def laws_szMsg_H : Nat → Option Hint := look []
noncomputable def laws_szMsg (a : D21) (left : Int) : Option (Args [(.int .i64, false)]) := runF Tryz.prog (look laws_szMsg_C) F laws_szMsg_H Tryz.f187 [(K21, true), (.int .i64, false)] [(.int .i64, false)] 1 (a, left, ())
theorem laws_szMsg_eq (a : D21) (left : Int) : laws_szMsg F a left = (laws_szBlock F0 a.2.2.1 left).bind fun r8 => br (decide (r8.1 < 0)) (some ((-1), ())) ((laws_szPart F0 a.2.2.2.1 r8.1).bind fun r14 => br (decide (r14.1 < 0)) (some ((-1), ())) ((laws_szQc F0 a.2.2.2.2.1 r14.1).bind fun r20 => br (decide (r20.1 < 0)) (some ((-1), ())) (some (r20.1, ())))) := by kernel_rfl
noncomputable def laws_szMsg_con : Any := .one ⟨[(K21, true), (.int .i64, false)], [(.int .i64, false)], 1, fun x => laws_szMsg F0 x.1 x.2.1⟩
theorem laws_szMsg_ok : AnyOk Tryz.prog TB 187 laws_szMsg_con := ok1 (show AllOk Tryz.prog TB laws_szMsg_C from ⟨laws_szQc_ok, laws_szPart_ok, laws_szBlock_ok, trivial⟩) Tryz.func187 (by kernel_rfl) (by kernel_rfl) laws_szMsg_H (by kernel_rfl)

/-! ### laws.szPost -/
noncomputable def laws_szPost_C : List (Nat × Any) := [(187, laws_szMsg_con)]
noncomputable def laws_szPost_H : Nat → Option Hint := look []
noncomputable def laws_szPost (a : D22) (left : Int) : Option (Args [(.int .i64, false)]) := runF Tryz.prog (look laws_szPost_C) F laws_szPost_H Tryz.f133 [(K22, true), (.int .i64, false)] [(.int .i64, false)] 1 (a, left, ())
theorem laws_szPost_eq (a : D22) (left : Int) : laws_szPost F a left = (laws_szMsg F0 a.2 left).bind fun r8 => br (decide (r8.1 < 0)) (some ((-1), ())) (some (r8.1, ())) := by kernel_rfl
noncomputable def laws_szPost_con : Any := .one ⟨[(K22, true), (.int .i64, false)], [(.int .i64, false)], 1, fun x => laws_szPost F0 x.1 x.2.1⟩
theorem laws_szPost_ok : AnyOk Tryz.prog TB 133 laws_szPost_con := ok1 (show AllOk Tryz.prog TB laws_szPost_C from ⟨laws_szMsg_ok, trivial⟩) Tryz.func133 (by kernel_rfl) (by kernel_rfl) laws_szPost_H (by kernel_rfl)

/-! ### laws.szPostS -/
noncomputable def laws_szPostS_C : List (Nat × Any) := [(133, laws_szPost_con)]
noncomputable def laws_szPostS_H : Nat → Option Hint := look [(5, { live := [0, 1, 5], xl := [1], rl := [4] })]
noncomputable def laws_szPostS_1_s (a : List D22) (left : Int) (i : Int) : St := { nt := 27, tm := [(0, .v (.c (.ro false 158 (K22) a))), (1, .v (.c (.int .i64 left))), (5, .v (.c (.int .i64 i)))], bx := [], bl := [] }
noncomputable def laws_szPostS_1_r (t4 : Int) : St := { nt := 27, tm := [(4, .v (.c (.int .i64 t4)))], bx := [], bl := [] }
noncomputable def laws_szPostS_1_e0 (left : Int) : St := { nt := 27, tm := [(1, .v (.c (.int .i64 left)))], bx := [], bl := [] }
noncomputable def laws_szPostS_1 (st : St) : Option α := lp Tryz.prog (look laws_szPostS_C) F laws_szPostS_H (sub [.r, .r, .r, .l, .r, .b, .i] (codeOf Tryz.f70)) κ n st
noncomputable def laws_szPostS_1_k : Ex → St → Option (Args [(.int .i64, false)]) := cont Tryz.prog (look laws_szPostS_C) F laws_szPostS_H [.r, .r, .r, .l, .r, .b] (codeOf Tryz.f70) (fin Tryz.prog Tryz.f70 [(.int .i64, false)] 1)
theorem laws_szPostS_1_step (a : List D22) (left : Int) (i : Int) : laws_szPostS_1 F κ (n + 1) (laws_szPostS_1_s a left i) = br (decide (i < (a.length : Int))) (ck (okI i (a.length : Int)) ((laws_szPost F0 (at_ a i K22.dflt) left).bind fun r23 => br (decide (r23.1 < 0)) (κ .ret (laws_szPostS_1_r (-1))) (laws_szPostS_1 F κ n (laws_szPostS_1_s a r23.1 (w64 (i + 1)))))) (κ (.exit 0) (laws_szPostS_1_e0 left)) := by kernel_rfl
theorem laws_szPostS_1_cr (t4 : Int) : laws_szPostS_1_k F .ret (laws_szPostS_1_r t4) = some (t4, ()) := by kernel_rfl
theorem laws_szPostS_1_ce0 (left : Int) : laws_szPostS_1_k F (.exit 0) (laws_szPostS_1_e0 left) = some (left, ()) := by kernel_rfl
noncomputable def laws_szPostS (a : D23) (left : Int) : Option (Args [(.int .i64, false)]) := runF Tryz.prog (look laws_szPostS_C) F laws_szPostS_H Tryz.f70 [(K23, false), (.int .i64, false)] [(.int .i64, false)] 1 (a, left, ())
theorem laws_szPostS_eq (a : D23) (left : Int) : laws_szPostS F a left = br (decide ((w64 (left - (a.length : Int))) < 0)) (some ((-1), ())) (laws_szPostS_1 F (laws_szPostS_1_k F) F.n (laws_szPostS_1_s a (w64 (left - (a.length : Int))) 0)) := by kernel_rfl
noncomputable def laws_szPostS_con : Any := .one ⟨[(K23, false), (.int .i64, false)], [(.int .i64, false)], 1, fun x => laws_szPostS F0 x.1 x.2.1⟩
theorem laws_szPostS_ok : AnyOk Tryz.prog TB 70 laws_szPostS_con := ok1 (show AllOk Tryz.prog TB laws_szPostS_C from ⟨laws_szPost_ok, trivial⟩) Tryz.func70 (by kernel_rfl) (by kernel_rfl) laws_szPostS_H (by kernel_rfl)

/-! ### laws.szRep -/
noncomputable def laws_szRep_C : List (Nat × Any) := [(66, laws_szSafe_con), (67, laws_szTxS_con), (68, laws_szPartS_con), (69, laws_szDisk_con), (70, laws_szPostS_con)]
noncomputable def laws_szRep_H : Nat → Option Hint := look []
noncomputable def laws_szRep (a : D30) (left : Int) : Option (Args [(.int .i64, false)]) := runF Tryz.prog (look laws_szRep_C) F laws_szRep_H Tryz.f23 [(K30, true), (.int .i64, false)] [(.int .i64, false)] 1 (a, left, ())
theorem laws_szRep_eq (a : D30) (left : Int) : laws_szRep F a left = (laws_szSafe F0 a.2.2.2.1 left).bind fun r8 => br (decide (r8.1 < 0)) (some ((-1), ())) ((laws_szTxS F0 a.2.2.2.2.1 r8.1).bind fun r14 => br (decide (r14.1 < 0)) (some ((-1), ())) ((laws_szPartS F0 a.2.2.2.2.2.1 r14.1).bind fun r20 => br (decide (r20.1 < 0)) (some ((-1), ())) ((laws_szDisk F0 a.2.2.2.2.2.2.1 r20.1).bind fun r26 => br (decide (r26.1 < 0)) (some ((-1), ())) ((laws_szPostS F0 a.2.2.2.2.2.2.2 r26.1).bind fun r32 => br (decide (r32.1 < 0)) (some ((-1), ())) (some (r32.1, ())))))) := by kernel_rfl
noncomputable def laws_szRep_con : Any := .one ⟨[(K30, true), (.int .i64, false)], [(.int .i64, false)], 1, fun x => laws_szRep F0 x.1 x.2.1⟩
theorem laws_szRep_ok : AnyOk Tryz.prog TB 23 laws_szRep_con := ok1 (show AllOk Tryz.prog TB laws_szRep_C from ⟨laws_szSafe_ok, laws_szTxS_ok, laws_szPartS_ok, laws_szDisk_ok, laws_szPostS_ok, trivial⟩) Tryz.func23 (by kernel_rfl) (by kernel_rfl) laws_szRep_H (by kernel_rfl)

/-! ### laws.toQc -/
noncomputable def laws_toQc_C : List (Nat × Any) := [(16, laws_toIntS_con)]
noncomputable def laws_toQc_H : Nat → Option Hint := look []
noncomputable def laws_toQc (a : D8) : Option (Args [(K8, true)]) := runF Tryz.prog (look laws_toQc_C) F laws_toQc_H Tryz.f135 [(K8, true)] [(K8, true)] 2 (a, ())
theorem laws_toQc_eq (a : D8) : laws_toQc F a = (laws_toIntS F0 a.2.2).bind fun r12 => some ((a.1, (a.2.1, r12.1)), ()) := by kernel_rfl
noncomputable def laws_toQc_con : Any := .one ⟨[(K8, true)], [(K8, true)], 2, fun x => laws_toQc F0 x.1⟩
theorem laws_toQc_ok : AnyOk Tryz.prog TB 135 laws_toQc_con := ok1 (show AllOk Tryz.prog TB laws_toQc_C from ⟨laws_toIntS_ok, trivial⟩) Tryz.func135 (by kernel_rfl) (by kernel_rfl) laws_toQc_H (by kernel_rfl)

/-! ### laws.toSafe -/
noncomputable def laws_toSafe_C : List (Nat × Any) := [(135, laws_toQc_con)]
noncomputable def laws_toSafe_H : Nat → Option Hint := look []
noncomputable def laws_toSafe (a : D11) : Option (Args [(K11, true)]) := runF Tryz.prog (look laws_toSafe_C) F laws_toSafe_H Tryz.f74 [(K11, true)] [(K11, true)] 2 (a, ())
theorem laws_toSafe_eq (a : D11) : laws_toSafe F a = (laws_toQc F0 a.2.2.1).bind fun r12 => some ((a.1, (a.2.1, (r12.1, a.2.2.2))), ()) := by kernel_rfl
noncomputable def laws_toSafe_con : Any := .one ⟨[(K11, true)], [(K11, true)], 2, fun x => laws_toSafe F0 x.1⟩
theorem laws_toSafe_ok : AnyOk Tryz.prog TB 74 laws_toSafe_con := ok1 (show AllOk Tryz.prog TB laws_toSafe_C from ⟨laws_toQc_ok, trivial⟩) Tryz.func74 (by kernel_rfl) (by kernel_rfl) laws_toSafe_H (by kernel_rfl)

/-! ### laws.toTx -/
noncomputable def laws_toTx_C : List (Nat × Any) := []
noncomputable def laws_toTx_H : Nat → Option Hint := look []
noncomputable def laws_toTx (a : D3) : Option (Args [(K3, true)]) := runF Tryz.prog (look laws_toTx_C) F laws_toTx_H Tryz.f136 [(K3, true)] [(K3, true)] 1 (a, ())
theorem laws_toTx_eq (a : D3) : laws_toTx F a = some (a, ()) := by kernel_rfl
noncomputable def laws_toTx_con : Any := .one ⟨[(K3, true)], [(K3, true)], 1, fun x => laws_toTx F0 x.1⟩
theorem laws_toTx_ok : AnyOk Tryz.prog TB 136 laws_toTx_con := ok1 (show AllOk Tryz.prog TB laws_toTx_C from trivial) Tryz.func136 (by kernel_rfl) (by kernel_rfl) laws_toTx_H (by kernel_rfl)

/-! ### laws.toTxS -/
noncomputable def laws_toTxS_C : List (Nat × Any) := [(136, laws_toTx_con)]
noncomputable def laws_toTxS_H : Nat → Option Hint := look [(3, { live := [0, 3, 4], xl := [3], rl := [2] })]
noncomputable def laws_toTxS_1_s (a : List D3) (i : Int) (xs : List D3) : St := { nt := 23, tm := [(0, .v (.c (.ro false 154 (K3) a))), (3, .v (.c (.own 1000000 none))), (4, .v (.c (.int .i64 i)))], bx := [], bl := [(1000000, some ⟨126, K3, xs, true, true⟩)] }
noncomputable def laws_toTxS_1_e0 (xs : List D3) : St := { nt := 23, tm := [(3, .v (.c (.own 1000000 none)))], bx := [], bl := [(1000000, some ⟨126, K3, xs, true, true⟩)] }
noncomputable def laws_toTxS_1 (st : St) : Option α := lp Tryz.prog (look laws_toTxS_C) F laws_toTxS_H (sub [.r, .r, .l, .r, .b, .i] (codeOf Tryz.f75)) κ n st
noncomputable def laws_toTxS_1_k : Ex → St → Option (Args [(K4, false)]) := cont Tryz.prog (look laws_toTxS_C) F laws_toTxS_H [.r, .r, .l, .r, .b] (codeOf Tryz.f75) (fin Tryz.prog Tryz.f75 [(K4, false)] 2)
theorem laws_toTxS_1_step (a : List D3) (i : Int) (xs : List D3) : laws_toTxS_1 F κ (n + 1) (laws_toTxS_1_s a i xs) = br (decide (i < (a.length : Int))) (ck (okI i (a.length : Int)) ((laws_toTx F0 (at_ a i K3.dflt)).bind fun r20 => ck (okI i (xs.length : Int)) (laws_toTxS_1 F κ n (laws_toTxS_1_s a (w64 (i + 1)) (xs.set i.toNat r20.1))))) (κ (.exit 0) (laws_toTxS_1_e0 xs)) := by kernel_rfl
theorem laws_toTxS_1_ce0 (xs : List D3) : laws_toTxS_1_k F (.exit 0) (laws_toTxS_1_e0 xs) = some (xs, ()) := by kernel_rfl
noncomputable def laws_toTxS (a : D12) : Option (Args [(K4, false)]) := runF Tryz.prog (look laws_toTxS_C) F laws_toTxS_H Tryz.f75 [(K12, false)] [(K4, false)] 2 (a, ())
theorem laws_toTxS_eq (a : D12) : laws_toTxS F a = ck (okM F (a.length : Int) (a.length : Int) 32) (laws_toTxS_1 F (laws_toTxS_1_k F) F.n (laws_toTxS_1_s a 0 (List.replicate (a.length : Int).toNat (0, (0, (0, 0)))))) := by kernel_rfl
noncomputable def laws_toTxS_con : Any := .one ⟨[(K12, false)], [(K4, false)], 2, fun x => laws_toTxS F0 x.1⟩
theorem laws_toTxS_ok : AnyOk Tryz.prog TB 75 laws_toTxS_con := ok1 (show AllOk Tryz.prog TB laws_toTxS_C from ⟨laws_toTx_ok, trivial⟩) Tryz.func75 (by kernel_rfl) (by kernel_rfl) laws_toTxS_H (by kernel_rfl)

/-! ### laws.toPart -/
noncomputable def laws_toPart_C : List (Nat × Any) := [(16, laws_toIntS_con)]
noncomputable def laws_toPart_H : Nat → Option Hint := look []
noncomputable def laws_toPart (a : D8) : Option (Args [(K8, true)]) := runF Tryz.prog (look laws_toPart_C) F laws_toPart_H Tryz.f137 [(K8, true)] [(K8, true)] 2 (a, ())
theorem laws_toPart_eq (a : D8) : laws_toPart F a = (laws_toIntS F0 a.2.2).bind fun r12 => some ((a.1, (a.2.1, r12.1)), ()) := by kernel_rfl
noncomputable def laws_toPart_con : Any := .one ⟨[(K8, true)], [(K8, true)], 2, fun x => laws_toPart F0 x.1⟩
theorem laws_toPart_ok : AnyOk Tryz.prog TB 137 laws_toPart_con := ok1 (show AllOk Tryz.prog TB laws_toPart_C from ⟨laws_toIntS_ok, trivial⟩) Tryz.func137 (by kernel_rfl) (by kernel_rfl) laws_toPart_H (by kernel_rfl)

/-! ### laws.toPartS -/
noncomputable def laws_toPartS_C : List (Nat × Any) := [(137, laws_toPart_con)]
noncomputable def laws_toPartS_H : Nat → Option Hint := look [(3, { live := [0, 3, 4], xl := [3], rl := [2] })]
noncomputable def laws_toPartS_1_s (a : List D8) (i : Int) (xs : List D8) : St := { nt := 23, tm := [(0, .v (.c (.ro false 149 (K8) a))), (3, .v (.c (.own 1000000 none))), (4, .v (.c (.int .i64 i)))], bx := [], bl := [(1000000, some ⟨85, K8, xs, true, true⟩)] }
noncomputable def laws_toPartS_1_e0 (xs : List D8) : St := { nt := 23, tm := [(3, .v (.c (.own 1000000 none)))], bx := [], bl := [(1000000, some ⟨85, K8, xs, true, true⟩)] }
noncomputable def laws_toPartS_1 (st : St) : Option α := lp Tryz.prog (look laws_toPartS_C) F laws_toPartS_H (sub [.r, .r, .l, .r, .b, .i] (codeOf Tryz.f76)) κ n st
noncomputable def laws_toPartS_1_k : Ex → St → Option (Args [(K31, false)]) := cont Tryz.prog (look laws_toPartS_C) F laws_toPartS_H [.r, .r, .l, .r, .b] (codeOf Tryz.f76) (fin Tryz.prog Tryz.f76 [(K31, false)] 2)
theorem laws_toPartS_1_step (a : List D8) (i : Int) (xs : List D8) : laws_toPartS_1 F κ (n + 1) (laws_toPartS_1_s a i xs) = br (decide (i < (a.length : Int))) (ck (okI i (a.length : Int)) ((laws_toPart F0 (at_ a i K8.dflt)).bind fun r20 => ck (okI i (xs.length : Int)) (laws_toPartS_1 F κ n (laws_toPartS_1_s a (w64 (i + 1)) (xs.set i.toNat r20.1))))) (κ (.exit 0) (laws_toPartS_1_e0 xs)) := by kernel_rfl
theorem laws_toPartS_1_ce0 (xs : List D8) : laws_toPartS_1_k F (.exit 0) (laws_toPartS_1_e0 xs) = some (xs, ()) := by kernel_rfl
noncomputable def laws_toPartS (a : D13) : Option (Args [(K31, false)]) := runF Tryz.prog (look laws_toPartS_C) F laws_toPartS_H Tryz.f76 [(K13, false)] [(K31, false)] 2 (a, ())
theorem laws_toPartS_eq (a : D13) : laws_toPartS F a = ck (okM F (a.length : Int) (a.length : Int) 48) (laws_toPartS_1 F (laws_toPartS_1_k F) F.n (laws_toPartS_1_s a 0 (List.replicate (a.length : Int).toNat (0, ((ByteArray.mk #[]), []))))) := by kernel_rfl
noncomputable def laws_toPartS_con : Any := .one ⟨[(K13, false)], [(K31, false)], 2, fun x => laws_toPartS F0 x.1⟩
theorem laws_toPartS_ok : AnyOk Tryz.prog TB 76 laws_toPartS_con := ok1 (show AllOk Tryz.prog TB laws_toPartS_C from ⟨laws_toPart_ok, trivial⟩) Tryz.func76 (by kernel_rfl) (by kernel_rfl) laws_toPartS_H (by kernel_rfl)

/-! ### laws.toByteS -/
noncomputable def laws_toByteS_C : List (Nat × Any) := []
noncomputable def laws_toByteS_H : Nat → Option Hint := look [(3, { live := [0, 3, 4], xl := [3], rl := [2] })]
noncomputable def laws_toByteS_1_s (a : List Int) (i : Int) (xs : List Int) : St := { nt := 22, tm := [(0, .v (.c (.ro false 5 (.int .u8) a))), (3, .v (.c (.own 1000000 none))), (4, .v (.c (.int .i64 i)))], bx := [], bl := [(1000000, some ⟨5, .int .u8, xs, true, true⟩)] }
noncomputable def laws_toByteS_1_e0 (xs : List Int) : St := { nt := 22, tm := [(3, .v (.c (.own 1000000 none)))], bx := [], bl := [(1000000, some ⟨5, .int .u8, xs, true, true⟩)] }
noncomputable def laws_toByteS_1 (st : St) : Option α := lp Tryz.prog (look laws_toByteS_C) F laws_toByteS_H (sub [.r, .r, .l, .r, .b, .i] (codeOf Tryz.f138)) κ n st
noncomputable def laws_toByteS_1_k : Ex → St → Option (Args [(.sl 5 (.int .u8), false)]) := cont Tryz.prog (look laws_toByteS_C) F laws_toByteS_H [.r, .r, .l, .r, .b] (codeOf Tryz.f138) (fin Tryz.prog Tryz.f138 [(.sl 5 (.int .u8), false)] 2)
theorem laws_toByteS_1_step (a : List Int) (i : Int) (xs : List Int) : laws_toByteS_1 F κ (n + 1) (laws_toByteS_1_s a i xs) = br (decide (i < (a.length : Int))) (ck (okI i (a.length : Int)) (ck (okI i (xs.length : Int)) (laws_toByteS_1 F κ n (laws_toByteS_1_s a (w64 (i + 1)) (xs.set i.toNat (at_ a i 0)))))) (κ (.exit 0) (laws_toByteS_1_e0 xs)) := by kernel_rfl
theorem laws_toByteS_1_ce0 (xs : List Int) : laws_toByteS_1_k F (.exit 0) (laws_toByteS_1_e0 xs) = some (xs, ()) := by kernel_rfl
noncomputable def laws_toByteS (a : List Int) : Option (Args [(.sl 5 (.int .u8), false)]) := runF Tryz.prog (look laws_toByteS_C) F laws_toByteS_H Tryz.f138 [(.sl 5 (.int .u8), false)] [(.sl 5 (.int .u8), false)] 2 (a, ())
theorem laws_toByteS_eq (a : List Int) : laws_toByteS F a = ck (okM F (a.length : Int) (a.length : Int) 1) (laws_toByteS_1 F (laws_toByteS_1_k F) F.n (laws_toByteS_1_s a 0 (List.replicate (a.length : Int).toNat 0))) := by kernel_rfl
noncomputable def laws_toByteS_con : Any := .one ⟨[(.sl 5 (.int .u8), false)], [(.sl 5 (.int .u8), false)], 2, fun x => laws_toByteS F0 x.1⟩
theorem laws_toByteS_ok : AnyOk Tryz.prog TB 138 laws_toByteS_con := ok1 (show AllOk Tryz.prog TB laws_toByteS_C from trivial) Tryz.func138 (by kernel_rfl) (by kernel_rfl) laws_toByteS_H (by kernel_rfl)

/-! ### laws.toDisk -/
noncomputable def laws_toDisk_C : List (Nat × Any) := [(138, laws_toByteS_con)]
noncomputable def laws_toDisk_H : Nat → Option Hint := look []
noncomputable def laws_toDisk (a : D14) : Option (Args [(K14, true)]) := runF Tryz.prog (look laws_toDisk_C) F laws_toDisk_H Tryz.f77 [(K14, true)] [(K14, true)] 2 (a, ())
theorem laws_toDisk_eq (a : D14) : laws_toDisk F a = (laws_toByteS F0 a.1).bind fun r6 => some ((r6.1, a.2), ()) := by kernel_rfl
noncomputable def laws_toDisk_con : Any := .one ⟨[(K14, true)], [(K14, true)], 2, fun x => laws_toDisk F0 x.1⟩
theorem laws_toDisk_ok : AnyOk Tryz.prog TB 77 laws_toDisk_con := ok1 (show AllOk Tryz.prog TB laws_toDisk_C from ⟨laws_toByteS_ok, trivial⟩) Tryz.func77 (by kernel_rfl) (by kernel_rfl) laws_toDisk_H (by kernel_rfl)

/-! ### laws.toBlock -/
noncomputable def laws_toBlock_C : List (Nat × Any) := [(135, laws_toQc_con)]
noncomputable def laws_toBlock_H : Nat → Option Hint := look []
noncomputable def laws_toBlock (a : D15) : Option (Args [(K15, true)]) := runF Tryz.prog (look laws_toBlock_C) F laws_toBlock_H Tryz.f236 [(K15, true)] [(K15, true)] 2 (a, ())
theorem laws_toBlock_eq (a : D15) : laws_toBlock F a = (laws_toQc F0 a.2).bind fun r9 => some ((a.1, r9.1), ()) := by kernel_rfl
noncomputable def laws_toBlock_con : Any := .one ⟨[(K15, true)], [(K15, true)], 2, fun x => laws_toBlock F0 x.1⟩
theorem laws_toBlock_ok : AnyOk Tryz.prog TB 236 laws_toBlock_con := ok1 (show AllOk Tryz.prog TB laws_toBlock_C from ⟨laws_toQc_ok, trivial⟩) Tryz.func236 (by kernel_rfl) (by kernel_rfl) laws_toBlock_H (by kernel_rfl)

/-! ### laws.toMsg -/
noncomputable def laws_toMsg_C : List (Nat × Any) := [(135, laws_toQc_con), (136, laws_toTx_con), (137, laws_toPart_con), (236, laws_toBlock_con)]
noncomputable def laws_toMsg_H : Nat → Option Hint := look []
noncomputable def laws_toMsg (a : D21) : Option (Args [(K21, true)]) := runF Tryz.prog (look laws_toMsg_C) F laws_toMsg_H Tryz.f192 [(K21, true)] [(K21, true)] 2 (a, ())
theorem laws_toMsg_eq (a : D21) : laws_toMsg F a = (laws_toBlock F0 a.2.2.1).bind fun r12 => (laws_toPart F0 a.2.2.2.1).bind fun r16 => (laws_toQc F0 a.2.2.2.2.1).bind fun r20 => (laws_toTx F0 a.2.2.2.2.2.2).bind fun r27 => some ((a.1, (a.2.1, (r12.1, (r16.1, (r20.1, (a.2.2.2.2.2.1, r27.1)))))), ()) := by kernel_rfl
noncomputable def laws_toMsg_con : Any := .one ⟨[(K21, true)], [(K21, true)], 2, fun x => laws_toMsg F0 x.1⟩
theorem laws_toMsg_ok : AnyOk Tryz.prog TB 192 laws_toMsg_con := ok1 (show AllOk Tryz.prog TB laws_toMsg_C from ⟨laws_toQc_ok, laws_toTx_ok, laws_toPart_ok, laws_toBlock_ok, trivial⟩) Tryz.func192 (by kernel_rfl) (by kernel_rfl) laws_toMsg_H (by kernel_rfl)

/-! ### laws.toPost -/
noncomputable def laws_toPost_C : List (Nat × Any) := [(192, laws_toMsg_con)]
noncomputable def laws_toPost_H : Nat → Option Hint := look []
noncomputable def laws_toPost (a : D22) : Option (Args [(K22, true)]) := runF Tryz.prog (look laws_toPost_C) F laws_toPost_H Tryz.f139 [(K22, true)] [(K22, true)] 2 (a, ())
theorem laws_toPost_eq (a : D22) : laws_toPost F a = (laws_toMsg F0 a.2).bind fun r9 => some ((a.1, r9.1), ()) := by kernel_rfl
noncomputable def laws_toPost_con : Any := .one ⟨[(K22, true)], [(K22, true)], 2, fun x => laws_toPost F0 x.1⟩
theorem laws_toPost_ok : AnyOk Tryz.prog TB 139 laws_toPost_con := ok1 (show AllOk Tryz.prog TB laws_toPost_C from ⟨laws_toMsg_ok, trivial⟩) Tryz.func139 (by kernel_rfl) (by kernel_rfl) laws_toPost_H (by kernel_rfl)

/-! ### laws.toPostS -/
noncomputable def laws_toPostS_C : List (Nat × Any) := [(139, laws_toPost_con)]
noncomputable def laws_toPostS_H : Nat → Option Hint := look [(3, { live := [0, 3, 4], xl := [3], rl := [2] })]
noncomputable def laws_toPostS_1_s (a : List D22) (i : Int) (xs : List D22) : St := { nt := 23, tm := [(0, .v (.c (.ro false 158 (K22) a))), (3, .v (.c (.own 1000000 none))), (4, .v (.c (.int .i64 i)))], bx := [], bl := [(1000000, some ⟨167, K22, xs, true, true⟩)] }
noncomputable def laws_toPostS_1_e0 (xs : List D22) : St := { nt := 23, tm := [(3, .v (.c (.own 1000000 none)))], bx := [], bl := [(1000000, some ⟨167, K22, xs, true, true⟩)] }
noncomputable def laws_toPostS_1 (st : St) : Option α := lp Tryz.prog (look laws_toPostS_C) F laws_toPostS_H (sub [.r, .r, .l, .r, .b, .i] (codeOf Tryz.f78)) κ n st
noncomputable def laws_toPostS_1_k : Ex → St → Option (Args [(K32, false)]) := cont Tryz.prog (look laws_toPostS_C) F laws_toPostS_H [.r, .r, .l, .r, .b] (codeOf Tryz.f78) (fin Tryz.prog Tryz.f78 [(K32, false)] 2)
theorem laws_toPostS_1_step (a : List D22) (i : Int) (xs : List D22) : laws_toPostS_1 F κ (n + 1) (laws_toPostS_1_s a i xs) = br (decide (i < (a.length : Int))) (ck (okI i (a.length : Int)) ((laws_toPost F0 (at_ a i K22.dflt)).bind fun r20 => ck (okI i (xs.length : Int)) (laws_toPostS_1 F κ n (laws_toPostS_1_s a (w64 (i + 1)) (xs.set i.toNat r20.1))))) (κ (.exit 0) (laws_toPostS_1_e0 xs)) := by kernel_rfl
theorem laws_toPostS_1_ce0 (xs : List D22) : laws_toPostS_1_k F (.exit 0) (laws_toPostS_1_e0 xs) = some (xs, ()) := by kernel_rfl
noncomputable def laws_toPostS (a : D23) : Option (Args [(K32, false)]) := runF Tryz.prog (look laws_toPostS_C) F laws_toPostS_H Tryz.f78 [(K23, false)] [(K32, false)] 2 (a, ())
theorem laws_toPostS_eq (a : D23) : laws_toPostS F a = ck (okM F (a.length : Int) (a.length : Int) 224) (laws_toPostS_1 F (laws_toPostS_1_k F) F.n (laws_toPostS_1_s a 0 (List.replicate (a.length : Int).toNat (0, (0, (0, (((ByteArray.mk #[]), (0, ((ByteArray.mk #[]), []))), ((0, ((ByteArray.mk #[]), [])), ((0, ((ByteArray.mk #[]), [])), (0, (0, (0, (0, 0))))))))))))) := by kernel_rfl
noncomputable def laws_toPostS_con : Any := .one ⟨[(K23, false)], [(K32, false)], 2, fun x => laws_toPostS F0 x.1⟩
theorem laws_toPostS_ok : AnyOk Tryz.prog TB 78 laws_toPostS_con := ok1 (show AllOk Tryz.prog TB laws_toPostS_C from ⟨laws_toPost_ok, trivial⟩) Tryz.func78 (by kernel_rfl) (by kernel_rfl) laws_toPostS_H (by kernel_rfl)

/-! ### laws.toRep -/
noncomputable def laws_toRep_C : List (Nat × Any) := [(74, laws_toSafe_con), (75, laws_toTxS_con), (76, laws_toPartS_con), (77, laws_toDisk_con), (78, laws_toPostS_con)]
noncomputable def laws_toRep_H : Nat → Option Hint := look []
noncomputable def laws_toRep (a : D30) : Option (Args [(K39, true)]) := runF Tryz.prog (look laws_toRep_C) F laws_toRep_H Tryz.f25 [(K30, true)] [(K39, true)] 2 (a, ())
theorem laws_toRep_eq (a : D30) : laws_toRep F a = (laws_toSafe F0 a.2.2.2.1).bind fun r15 => (laws_toTxS F0 a.2.2.2.2.1).bind fun r19 => (laws_toPartS F0 a.2.2.2.2.2.1).bind fun r23 => (laws_toDisk F0 a.2.2.2.2.2.2.1).bind fun r27 => (laws_toPostS F0 a.2.2.2.2.2.2.2).bind fun r31 => some ((a.1, (a.2.1, (a.2.2.1, (r15.1, (r19.1, (r23.1, (r27.1, r31.1))))))), ()) := by kernel_rfl
noncomputable def laws_toRep_con : Any := .one ⟨[(K30, true)], [(K39, true)], 2, fun x => laws_toRep F0 x.1⟩
theorem laws_toRep_ok : AnyOk Tryz.prog TB 25 laws_toRep_con := ok1 (show AllOk Tryz.prog TB laws_toRep_C from ⟨laws_toSafe_ok, laws_toTxS_ok, laws_toPartS_ok, laws_toDisk_ok, laws_toPostS_ok, trivial⟩) Tryz.func25 (by kernel_rfl) (by kernel_rfl) laws_toRep_H (by kernel_rfl)

/-! ### laws.eqSafe -/
noncomputable def laws_eqSafe_C : List (Nat × Any) := [(18, laws_eqQc_con)]
noncomputable def laws_eqSafe_H : Nat → Option Hint := look []
noncomputable def laws_eqSafe (a : D11) (b : D11) : Option (Args [(.bool, false)]) := runF Tryz.prog (look laws_eqSafe_C) F laws_eqSafe_H Tryz.f82 [(K11, true), (K11, true)] [(.bool, false)] 1 (a, b, ())
theorem laws_eqSafe_eq (a : D11) (b : D11) : laws_eqSafe F a b = br (a.1 != b.1) (some (false, ())) (br (a.2.1 != b.2.1) (some (false, ())) ((laws_eqQc F0 a.2.2.1 b.2.2.1).bind fun r19 => br (!r19.1) (some (false, ())) (br (!(a.2.2.2.toList == b.2.2.2.toList)) (some (false, ())) (some (true, ()))))) := by kernel_rfl
noncomputable def laws_eqSafe_con : Any := .one ⟨[(K11, true), (K11, true)], [(.bool, false)], 1, fun x => laws_eqSafe F0 x.1 x.2.1⟩
theorem laws_eqSafe_ok : AnyOk Tryz.prog TB 82 laws_eqSafe_con := ok1 (show AllOk Tryz.prog TB laws_eqSafe_C from ⟨laws_eqQc_ok, trivial⟩) Tryz.func82 (by kernel_rfl) (by kernel_rfl) laws_eqSafe_H (by kernel_rfl)

/-! ### laws.eqTx -/
noncomputable def laws_eqTx_C : List (Nat × Any) := []
noncomputable def laws_eqTx_H : Nat → Option Hint := look []
noncomputable def laws_eqTx (a : D3) (b : D3) : Option (Args [(.bool, false)]) := runF Tryz.prog (look laws_eqTx_C) F laws_eqTx_H Tryz.f142 [(K3, true), (K3, true)] [(.bool, false)] 1 (a, b, ())
theorem laws_eqTx_eq (a : D3) (b : D3) : laws_eqTx F a b = br (a.1 != b.1) (some (false, ())) (br (a.2.1 != b.2.1) (some (false, ())) (br (a.2.2.1 != b.2.2.1) (some (false, ())) (br (a.2.2.2 != b.2.2.2) (some (false, ())) (some (true, ()))))) := by kernel_rfl
noncomputable def laws_eqTx_con : Any := .one ⟨[(K3, true), (K3, true)], [(.bool, false)], 1, fun x => laws_eqTx F0 x.1 x.2.1⟩
theorem laws_eqTx_ok : AnyOk Tryz.prog TB 142 laws_eqTx_con := ok1 (show AllOk Tryz.prog TB laws_eqTx_C from trivial) Tryz.func142 (by kernel_rfl) (by kernel_rfl) laws_eqTx_H (by kernel_rfl)

/-! ### laws.eqTxS -/
noncomputable def laws_eqTxS_C : List (Nat × Any) := [(142, laws_eqTx_con)]
noncomputable def laws_eqTxS_H : Nat → Option Hint := look [(4, { live := [0, 1, 5], rl := [4] })]
noncomputable def laws_eqTxS_1_s (a : List D3) (b : List D3) (i : Int) : St := { nt := 27, tm := [(0, .v (.c (.ro false 126 (K3) a))), (1, .v (.c (.ro false 126 (K3) b))), (5, .v (.c (.int .i64 i)))], bx := [], bl := [] }
noncomputable def laws_eqTxS_1_r (t4 : Bool) : St := { nt := 27, tm := [(4, .v (.c (.bool t4)))], bx := [], bl := [] }
noncomputable def laws_eqTxS_1_e0  : St := { nt := 27, tm := [], bx := [], bl := [] }
noncomputable def laws_eqTxS_1 (st : St) : Option α := lp Tryz.prog (look laws_eqTxS_C) F laws_eqTxS_H (sub [.r, .r, .l, .r, .b, .i] (codeOf Tryz.f83)) κ n st
noncomputable def laws_eqTxS_1_k : Ex → St → Option (Args [(.bool, false)]) := cont Tryz.prog (look laws_eqTxS_C) F laws_eqTxS_H [.r, .r, .l, .r, .b] (codeOf Tryz.f83) (fin Tryz.prog Tryz.f83 [(.bool, false)] 1)
theorem laws_eqTxS_1_step (a : List D3) (b : List D3) (i : Int) : laws_eqTxS_1 F κ (n + 1) (laws_eqTxS_1_s a b i) = br (decide (i < (a.length : Int))) (ck (okI i (a.length : Int)) (ck (okI i (b.length : Int)) ((laws_eqTx F0 (at_ a i K3.dflt) (at_ b i K3.dflt)).bind fun r25 => br (!r25.1) (κ .ret (laws_eqTxS_1_r false)) (laws_eqTxS_1 F κ n (laws_eqTxS_1_s a b (w64 (i + 1))))))) (κ (.exit 0) (laws_eqTxS_1_e0 )) := by kernel_rfl
theorem laws_eqTxS_1_ce0  : laws_eqTxS_1_k F (.exit 0) (laws_eqTxS_1_e0 ) = some (true, ()) := by kernel_rfl
noncomputable def laws_eqTxS (a : D4) (b : D4) : Option (Args [(.bool, false)]) := runF Tryz.prog (look laws_eqTxS_C) F laws_eqTxS_H Tryz.f83 [(K4, false), (K4, false)] [(.bool, false)] 1 (a, b, ())
theorem laws_eqTxS_eq (a : D4) (b : D4) : laws_eqTxS F a b = br ((a.length : Int) != (b.length : Int)) (some (false, ())) (laws_eqTxS_1 F (laws_eqTxS_1_k F) F.n (laws_eqTxS_1_s a b 0)) := by kernel_rfl
noncomputable def laws_eqTxS_con : Any := .one ⟨[(K4, false), (K4, false)], [(.bool, false)], 1, fun x => laws_eqTxS F0 x.1 x.2.1⟩
theorem laws_eqTxS_ok : AnyOk Tryz.prog TB 83 laws_eqTxS_con := ok1 (show AllOk Tryz.prog TB laws_eqTxS_C from ⟨laws_eqTx_ok, trivial⟩) Tryz.func83 (by kernel_rfl) (by kernel_rfl) laws_eqTxS_H (by kernel_rfl)

/-! ### laws.eqPart -/
noncomputable def laws_eqPart_C : List (Nat × Any) := [(19, laws_eqIntS_con)]
noncomputable def laws_eqPart_H : Nat → Option Hint := look []
noncomputable def laws_eqPart (a : D8) (b : D8) : Option (Args [(.bool, false)]) := runF Tryz.prog (look laws_eqPart_C) F laws_eqPart_H Tryz.f143 [(K8, true), (K8, true)] [(.bool, false)] 1 (a, b, ())
theorem laws_eqPart_eq (a : D8) (b : D8) : laws_eqPart F a b = br (a.1 != b.1) (some (false, ())) (br (!(a.2.1.toList == b.2.1.toList)) (some (false, ())) ((laws_eqIntS F0 a.2.2 b.2.2).bind fun r19 => br (!r19.1) (some (false, ())) (some (true, ())))) := by kernel_rfl
noncomputable def laws_eqPart_con : Any := .one ⟨[(K8, true), (K8, true)], [(.bool, false)], 1, fun x => laws_eqPart F0 x.1 x.2.1⟩
theorem laws_eqPart_ok : AnyOk Tryz.prog TB 143 laws_eqPart_con := ok1 (show AllOk Tryz.prog TB laws_eqPart_C from ⟨laws_eqIntS_ok, trivial⟩) Tryz.func143 (by kernel_rfl) (by kernel_rfl) laws_eqPart_H (by kernel_rfl)

/-! ### laws.eqPartS -/
noncomputable def laws_eqPartS_C : List (Nat × Any) := [(143, laws_eqPart_con)]
noncomputable def laws_eqPartS_H : Nat → Option Hint := look [(4, { live := [0, 1, 5], rl := [4] })]
noncomputable def laws_eqPartS_1_s (a : List D8) (b : List D8) (i : Int) : St := { nt := 27, tm := [(0, .v (.c (.ro false 85 (K8) a))), (1, .v (.c (.ro false 85 (K8) b))), (5, .v (.c (.int .i64 i)))], bx := [], bl := [] }
noncomputable def laws_eqPartS_1_r (t4 : Bool) : St := { nt := 27, tm := [(4, .v (.c (.bool t4)))], bx := [], bl := [] }
noncomputable def laws_eqPartS_1_e0  : St := { nt := 27, tm := [], bx := [], bl := [] }
noncomputable def laws_eqPartS_1 (st : St) : Option α := lp Tryz.prog (look laws_eqPartS_C) F laws_eqPartS_H (sub [.r, .r, .l, .r, .b, .i] (codeOf Tryz.f84)) κ n st
noncomputable def laws_eqPartS_1_k : Ex → St → Option (Args [(.bool, false)]) := cont Tryz.prog (look laws_eqPartS_C) F laws_eqPartS_H [.r, .r, .l, .r, .b] (codeOf Tryz.f84) (fin Tryz.prog Tryz.f84 [(.bool, false)] 1)
theorem laws_eqPartS_1_step (a : List D8) (b : List D8) (i : Int) : laws_eqPartS_1 F κ (n + 1) (laws_eqPartS_1_s a b i) = br (decide (i < (a.length : Int))) (ck (okI i (a.length : Int)) (ck (okI i (b.length : Int)) ((laws_eqPart F0 (at_ a i K8.dflt) (at_ b i K8.dflt)).bind fun r25 => br (!r25.1) (κ .ret (laws_eqPartS_1_r false)) (laws_eqPartS_1 F κ n (laws_eqPartS_1_s a b (w64 (i + 1))))))) (κ (.exit 0) (laws_eqPartS_1_e0 )) := by kernel_rfl
theorem laws_eqPartS_1_ce0  : laws_eqPartS_1_k F (.exit 0) (laws_eqPartS_1_e0 ) = some (true, ()) := by kernel_rfl
noncomputable def laws_eqPartS (a : D31) (b : D31) : Option (Args [(.bool, false)]) := runF Tryz.prog (look laws_eqPartS_C) F laws_eqPartS_H Tryz.f84 [(K31, false), (K31, false)] [(.bool, false)] 1 (a, b, ())
theorem laws_eqPartS_eq (a : D31) (b : D31) : laws_eqPartS F a b = br ((a.length : Int) != (b.length : Int)) (some (false, ())) (laws_eqPartS_1 F (laws_eqPartS_1_k F) F.n (laws_eqPartS_1_s a b 0)) := by kernel_rfl
noncomputable def laws_eqPartS_con : Any := .one ⟨[(K31, false), (K31, false)], [(.bool, false)], 1, fun x => laws_eqPartS F0 x.1 x.2.1⟩
theorem laws_eqPartS_ok : AnyOk Tryz.prog TB 84 laws_eqPartS_con := ok1 (show AllOk Tryz.prog TB laws_eqPartS_C from ⟨laws_eqPart_ok, trivial⟩) Tryz.func84 (by kernel_rfl) (by kernel_rfl) laws_eqPartS_H (by kernel_rfl)

/-! ### laws.eqByteS -/
noncomputable def laws_eqByteS_C : List (Nat × Any) := []
noncomputable def laws_eqByteS_H : Nat → Option Hint := look [(4, { live := [0, 1, 5], rl := [4] })]
noncomputable def laws_eqByteS_1_s (a : List Int) (b : List Int) (i : Int) : St := { nt := 26, tm := [(0, .v (.c (.ro false 5 (.int .u8) a))), (1, .v (.c (.ro false 5 (.int .u8) b))), (5, .v (.c (.int .i64 i)))], bx := [], bl := [] }
noncomputable def laws_eqByteS_1_r (t4 : Bool) : St := { nt := 26, tm := [(4, .v (.c (.bool t4)))], bx := [], bl := [] }
noncomputable def laws_eqByteS_1_e0  : St := { nt := 26, tm := [], bx := [], bl := [] }
noncomputable def laws_eqByteS_1 (st : St) : Option α := lp Tryz.prog (look laws_eqByteS_C) F laws_eqByteS_H (sub [.r, .r, .l, .r, .b, .i] (codeOf Tryz.f144)) κ n st
noncomputable def laws_eqByteS_1_k : Ex → St → Option (Args [(.bool, false)]) := cont Tryz.prog (look laws_eqByteS_C) F laws_eqByteS_H [.r, .r, .l, .r, .b] (codeOf Tryz.f144) (fin Tryz.prog Tryz.f144 [(.bool, false)] 1)
theorem laws_eqByteS_1_step (a : List Int) (b : List Int) (i : Int) : laws_eqByteS_1 F κ (n + 1) (laws_eqByteS_1_s a b i) = br (decide (i < (a.length : Int))) (ck (okI i (a.length : Int)) (ck (okI i (b.length : Int)) (br ((at_ a i 0) != (at_ b i 0)) (κ .ret (laws_eqByteS_1_r false)) (laws_eqByteS_1 F κ n (laws_eqByteS_1_s a b (w64 (i + 1))))))) (κ (.exit 0) (laws_eqByteS_1_e0 )) := by kernel_rfl
theorem laws_eqByteS_1_ce0  : laws_eqByteS_1_k F (.exit 0) (laws_eqByteS_1_e0 ) = some (true, ()) := by kernel_rfl
noncomputable def laws_eqByteS (a : List Int) (b : List Int) : Option (Args [(.bool, false)]) := runF Tryz.prog (look laws_eqByteS_C) F laws_eqByteS_H Tryz.f144 [(.sl 5 (.int .u8), false), (.sl 5 (.int .u8), false)] [(.bool, false)] 1 (a, b, ())
theorem laws_eqByteS_eq (a : List Int) (b : List Int) : laws_eqByteS F a b = br ((a.length : Int) != (b.length : Int)) (some (false, ())) (laws_eqByteS_1 F (laws_eqByteS_1_k F) F.n (laws_eqByteS_1_s a b 0)) := by kernel_rfl
noncomputable def laws_eqByteS_con : Any := .one ⟨[(.sl 5 (.int .u8), false), (.sl 5 (.int .u8), false)], [(.bool, false)], 1, fun x => laws_eqByteS F0 x.1 x.2.1⟩
theorem laws_eqByteS_ok : AnyOk Tryz.prog TB 144 laws_eqByteS_con := ok1 (show AllOk Tryz.prog TB laws_eqByteS_C from trivial) Tryz.func144 (by kernel_rfl) (by kernel_rfl) laws_eqByteS_H (by kernel_rfl)

/-! ### laws.eqDisk -/
noncomputable def laws_eqDisk_C : List (Nat × Any) := [(144, laws_eqByteS_con)]
noncomputable def laws_eqDisk_H : Nat → Option Hint := look []
noncomputable def laws_eqDisk (a : D14) (b : D14) : Option (Args [(.bool, false)]) := runF Tryz.prog (look laws_eqDisk_C) F laws_eqDisk_H Tryz.f85 [(K14, true), (K14, true)] [(.bool, false)] 1 (a, b, ())
theorem laws_eqDisk_eq (a : D14) (b : D14) : laws_eqDisk F a b = (laws_eqByteS F0 a.1 b.1).bind fun r9 => br (!r9.1) (some (false, ())) (br (a.2 != b.2) (some (false, ())) (some (true, ()))) := by kernel_rfl
noncomputable def laws_eqDisk_con : Any := .one ⟨[(K14, true), (K14, true)], [(.bool, false)], 1, fun x => laws_eqDisk F0 x.1 x.2.1⟩
theorem laws_eqDisk_ok : AnyOk Tryz.prog TB 85 laws_eqDisk_con := ok1 (show AllOk Tryz.prog TB laws_eqDisk_C from ⟨laws_eqByteS_ok, trivial⟩) Tryz.func85 (by kernel_rfl) (by kernel_rfl) laws_eqDisk_H (by kernel_rfl)

/-! ### laws.eqBlock -/
noncomputable def laws_eqBlock_C : List (Nat × Any) := [(18, laws_eqQc_con)]
noncomputable def laws_eqBlock_H : Nat → Option Hint := look []
noncomputable def laws_eqBlock (a : D15) (b : D15) : Option (Args [(.bool, false)]) := runF Tryz.prog (look laws_eqBlock_C) F laws_eqBlock_H Tryz.f242 [(K15, true), (K15, true)] [(.bool, false)] 1 (a, b, ())
theorem laws_eqBlock_eq (a : D15) (b : D15) : laws_eqBlock F a b = br (!(a.1.toList == b.1.toList)) (some (false, ())) ((laws_eqQc F0 a.2 b.2).bind fun r14 => br (!r14.1) (some (false, ())) (some (true, ()))) := by kernel_rfl
noncomputable def laws_eqBlock_con : Any := .one ⟨[(K15, true), (K15, true)], [(.bool, false)], 1, fun x => laws_eqBlock F0 x.1 x.2.1⟩
theorem laws_eqBlock_ok : AnyOk Tryz.prog TB 242 laws_eqBlock_con := ok1 (show AllOk Tryz.prog TB laws_eqBlock_C from ⟨laws_eqQc_ok, trivial⟩) Tryz.func242 (by kernel_rfl) (by kernel_rfl) laws_eqBlock_H (by kernel_rfl)

/-! ### laws.eqMsg -/
noncomputable def laws_eqMsg_C : List (Nat × Any) := [(18, laws_eqQc_con), (142, laws_eqTx_con), (143, laws_eqPart_con), (242, laws_eqBlock_con)]
noncomputable def laws_eqMsg_H : Nat → Option Hint := look []
noncomputable def laws_eqMsg (a : D21) (b : D21) : Option (Args [(.bool, false)]) := runF Tryz.prog (look laws_eqMsg_C) F laws_eqMsg_H Tryz.f200 [(K21, true), (K21, true)] [(.bool, false)] 1 (a, b, ())
theorem laws_eqMsg_eq (a : D21) (b : D21) : laws_eqMsg F a b = br (a.1 != b.1) (some (false, ())) (br (a.2.1 != b.2.1) (some (false, ())) ((laws_eqBlock F0 a.2.2.1 b.2.2.1).bind fun r19 => br (!r19.1) (some (false, ())) ((laws_eqPart F0 a.2.2.2.1 b.2.2.2.1).bind fun r25 => br (!r25.1) (some (false, ())) ((laws_eqQc F0 a.2.2.2.2.1 b.2.2.2.2.1).bind fun r31 => br (!r31.1) (some (false, ())) (br (a.2.2.2.2.2.1 != b.2.2.2.2.2.1) (some (false, ())) ((laws_eqTx F0 a.2.2.2.2.2.2 b.2.2.2.2.2.2).bind fun r42 => br (!r42.1) (some (false, ())) (some (true, ())))))))) := by kernel_rfl
noncomputable def laws_eqMsg_con : Any := .one ⟨[(K21, true), (K21, true)], [(.bool, false)], 1, fun x => laws_eqMsg F0 x.1 x.2.1⟩
theorem laws_eqMsg_ok : AnyOk Tryz.prog TB 200 laws_eqMsg_con := ok1 (show AllOk Tryz.prog TB laws_eqMsg_C from ⟨laws_eqQc_ok, laws_eqTx_ok, laws_eqPart_ok, laws_eqBlock_ok, trivial⟩) Tryz.func200 (by kernel_rfl) (by kernel_rfl) laws_eqMsg_H (by kernel_rfl)

/-! ### laws.eqPost -/
noncomputable def laws_eqPost_C : List (Nat × Any) := [(200, laws_eqMsg_con)]
noncomputable def laws_eqPost_H : Nat → Option Hint := look []
noncomputable def laws_eqPost (a : D22) (b : D22) : Option (Args [(.bool, false)]) := runF Tryz.prog (look laws_eqPost_C) F laws_eqPost_H Tryz.f145 [(K22, true), (K22, true)] [(.bool, false)] 1 (a, b, ())
theorem laws_eqPost_eq (a : D22) (b : D22) : laws_eqPost F a b = br (a.1 != b.1) (some (false, ())) ((laws_eqMsg F0 a.2 b.2).bind fun r14 => br (!r14.1) (some (false, ())) (some (true, ()))) := by kernel_rfl
noncomputable def laws_eqPost_con : Any := .one ⟨[(K22, true), (K22, true)], [(.bool, false)], 1, fun x => laws_eqPost F0 x.1 x.2.1⟩
theorem laws_eqPost_ok : AnyOk Tryz.prog TB 145 laws_eqPost_con := ok1 (show AllOk Tryz.prog TB laws_eqPost_C from ⟨laws_eqMsg_ok, trivial⟩) Tryz.func145 (by kernel_rfl) (by kernel_rfl) laws_eqPost_H (by kernel_rfl)

/-! ### laws.eqPostS -/
noncomputable def laws_eqPostS_C : List (Nat × Any) := [(145, laws_eqPost_con)]
noncomputable def laws_eqPostS_H : Nat → Option Hint := look [(4, { live := [0, 1, 5], rl := [4] })]
noncomputable def laws_eqPostS_1_s (a : List D22) (b : List D22) (i : Int) : St := { nt := 27, tm := [(0, .v (.c (.ro false 167 (K22) a))), (1, .v (.c (.ro false 167 (K22) b))), (5, .v (.c (.int .i64 i)))], bx := [], bl := [] }
noncomputable def laws_eqPostS_1_r (t4 : Bool) : St := { nt := 27, tm := [(4, .v (.c (.bool t4)))], bx := [], bl := [] }
noncomputable def laws_eqPostS_1_e0  : St := { nt := 27, tm := [], bx := [], bl := [] }
noncomputable def laws_eqPostS_1 (st : St) : Option α := lp Tryz.prog (look laws_eqPostS_C) F laws_eqPostS_H (sub [.r, .r, .l, .r, .b, .i] (codeOf Tryz.f86)) κ n st
noncomputable def laws_eqPostS_1_k : Ex → St → Option (Args [(.bool, false)]) := cont Tryz.prog (look laws_eqPostS_C) F laws_eqPostS_H [.r, .r, .l, .r, .b] (codeOf Tryz.f86) (fin Tryz.prog Tryz.f86 [(.bool, false)] 1)
theorem laws_eqPostS_1_step (a : List D22) (b : List D22) (i : Int) : laws_eqPostS_1 F κ (n + 1) (laws_eqPostS_1_s a b i) = br (decide (i < (a.length : Int))) (ck (okI i (a.length : Int)) (ck (okI i (b.length : Int)) ((laws_eqPost F0 (at_ a i K22.dflt) (at_ b i K22.dflt)).bind fun r25 => br (!r25.1) (κ .ret (laws_eqPostS_1_r false)) (laws_eqPostS_1 F κ n (laws_eqPostS_1_s a b (w64 (i + 1))))))) (κ (.exit 0) (laws_eqPostS_1_e0 )) := by kernel_rfl
theorem laws_eqPostS_1_ce0  : laws_eqPostS_1_k F (.exit 0) (laws_eqPostS_1_e0 ) = some (true, ()) := by kernel_rfl
noncomputable def laws_eqPostS (a : D32) (b : D32) : Option (Args [(.bool, false)]) := runF Tryz.prog (look laws_eqPostS_C) F laws_eqPostS_H Tryz.f86 [(K32, false), (K32, false)] [(.bool, false)] 1 (a, b, ())
theorem laws_eqPostS_eq (a : D32) (b : D32) : laws_eqPostS F a b = br ((a.length : Int) != (b.length : Int)) (some (false, ())) (laws_eqPostS_1 F (laws_eqPostS_1_k F) F.n (laws_eqPostS_1_s a b 0)) := by kernel_rfl
noncomputable def laws_eqPostS_con : Any := .one ⟨[(K32, false), (K32, false)], [(.bool, false)], 1, fun x => laws_eqPostS F0 x.1 x.2.1⟩
theorem laws_eqPostS_ok : AnyOk Tryz.prog TB 86 laws_eqPostS_con := ok1 (show AllOk Tryz.prog TB laws_eqPostS_C from ⟨laws_eqPost_ok, trivial⟩) Tryz.func86 (by kernel_rfl) (by kernel_rfl) laws_eqPostS_H (by kernel_rfl)

/-! ### laws.eqRep -/
noncomputable def laws_eqRep_C : List (Nat × Any) := [(82, laws_eqSafe_con), (83, laws_eqTxS_con), (84, laws_eqPartS_con), (85, laws_eqDisk_con), (86, laws_eqPostS_con)]
noncomputable def laws_eqRep_H : Nat → Option Hint := look []
noncomputable def laws_eqRep (a : D39) (b : D39) : Option (Args [(.bool, false)]) := runF Tryz.prog (look laws_eqRep_C) F laws_eqRep_H Tryz.f27 [(K39, true), (K39, true)] [(.bool, false)] 1 (a, b, ())
theorem laws_eqRep_eq (a : D39) (b : D39) : laws_eqRep F a b = br (a.1 != b.1) (some (false, ())) (br (a.2.1 != b.2.1) (some (false, ())) (br (a.2.2.1 != b.2.2.1) (some (false, ())) ((laws_eqSafe F0 a.2.2.2.1 b.2.2.2.1).bind fun r24 => br (!r24.1) (some (false, ())) ((laws_eqTxS F0 a.2.2.2.2.1 b.2.2.2.2.1).bind fun r30 => br (!r30.1) (some (false, ())) ((laws_eqPartS F0 a.2.2.2.2.2.1 b.2.2.2.2.2.1).bind fun r36 => br (!r36.1) (some (false, ())) ((laws_eqDisk F0 a.2.2.2.2.2.2.1 b.2.2.2.2.2.2.1).bind fun r42 => br (!r42.1) (some (false, ())) ((laws_eqPostS F0 a.2.2.2.2.2.2.2 b.2.2.2.2.2.2.2).bind fun r48 => br (!r48.1) (some (false, ())) (some (true, ()))))))))) := by kernel_rfl
noncomputable def laws_eqRep_con : Any := .one ⟨[(K39, true), (K39, true)], [(.bool, false)], 1, fun x => laws_eqRep F0 x.1 x.2.1⟩
theorem laws_eqRep_ok : AnyOk Tryz.prog TB 27 laws_eqRep_con := ok1 (show AllOk Tryz.prog TB laws_eqRep_C from ⟨laws_eqSafe_ok, laws_eqTxS_ok, laws_eqPartS_ok, laws_eqDisk_ok, laws_eqPostS_ok, trivial⟩) Tryz.func27 (by kernel_rfl) (by kernel_rfl) laws_eqRep_H (by kernel_rfl)

/-! ### laws.szRepS -/
noncomputable def laws_szRepS_C : List (Nat × Any) := [(23, laws_szRep_con)]
noncomputable def laws_szRepS_H : Nat → Option Hint := look [(5, { live := [0, 1, 5], xl := [1], rl := [4] })]
noncomputable def laws_szRepS_1_s (a : List D30) (left : Int) (i : Int) : St := { nt := 27, tm := [(0, .v (.c (.ro false 47 (K30) a))), (1, .v (.c (.int .i64 left))), (5, .v (.c (.int .i64 i)))], bx := [], bl := [] }
noncomputable def laws_szRepS_1_r (t4 : Int) : St := { nt := 27, tm := [(4, .v (.c (.int .i64 t4)))], bx := [], bl := [] }
noncomputable def laws_szRepS_1_e0 (left : Int) : St := { nt := 27, tm := [(1, .v (.c (.int .i64 left)))], bx := [], bl := [] }
noncomputable def laws_szRepS_1 (st : St) : Option α := lp Tryz.prog (look laws_szRepS_C) F laws_szRepS_H (sub [.r, .r, .r, .l, .r, .b, .i] (codeOf Tryz.f88)) κ n st
noncomputable def laws_szRepS_1_k : Ex → St → Option (Args [(.int .i64, false)]) := cont Tryz.prog (look laws_szRepS_C) F laws_szRepS_H [.r, .r, .r, .l, .r, .b] (codeOf Tryz.f88) (fin Tryz.prog Tryz.f88 [(.int .i64, false)] 1)
theorem laws_szRepS_1_step (a : List D30) (left : Int) (i : Int) : laws_szRepS_1 F κ (n + 1) (laws_szRepS_1_s a left i) = br (decide (i < (a.length : Int))) (ck (okI i (a.length : Int)) ((laws_szRep F0 (at_ a i K30.dflt) left).bind fun r23 => br (decide (r23.1 < 0)) (κ .ret (laws_szRepS_1_r (-1))) (laws_szRepS_1 F κ n (laws_szRepS_1_s a r23.1 (w64 (i + 1)))))) (κ (.exit 0) (laws_szRepS_1_e0 left)) := by kernel_rfl
theorem laws_szRepS_1_cr (t4 : Int) : laws_szRepS_1_k F .ret (laws_szRepS_1_r t4) = some (t4, ()) := by kernel_rfl
theorem laws_szRepS_1_ce0 (left : Int) : laws_szRepS_1_k F (.exit 0) (laws_szRepS_1_e0 left) = some (left, ()) := by kernel_rfl
noncomputable def laws_szRepS (a : D40) (left : Int) : Option (Args [(.int .i64, false)]) := runF Tryz.prog (look laws_szRepS_C) F laws_szRepS_H Tryz.f88 [(K40, false), (.int .i64, false)] [(.int .i64, false)] 1 (a, left, ())
theorem laws_szRepS_eq (a : D40) (left : Int) : laws_szRepS F a left = br (decide ((w64 (left - (a.length : Int))) < 0)) (some ((-1), ())) (laws_szRepS_1 F (laws_szRepS_1_k F) F.n (laws_szRepS_1_s a (w64 (left - (a.length : Int))) 0)) := by kernel_rfl
noncomputable def laws_szRepS_con : Any := .one ⟨[(K40, false), (.int .i64, false)], [(.int .i64, false)], 1, fun x => laws_szRepS F0 x.1 x.2.1⟩
theorem laws_szRepS_ok : AnyOk Tryz.prog TB 88 laws_szRepS_con := ok1 (show AllOk Tryz.prog TB laws_szRepS_C from ⟨laws_szRep_ok, trivial⟩) Tryz.func88 (by kernel_rfl) (by kernel_rfl) laws_szRepS_H (by kernel_rfl)

/-! ### laws.szWire -/
noncomputable def laws_szWire_C : List (Nat × Any) := [(132, laws_szByteS_con)]
noncomputable def laws_szWire_H : Nat → Option Hint := look []
noncomputable def laws_szWire (a : D41) (left : Int) : Option (Args [(.int .i64, false)]) := runF Tryz.prog (look laws_szWire_C) F laws_szWire_H Tryz.f146 [(K41, true), (.int .i64, false)] [(.int .i64, false)] 1 (a, left, ())
theorem laws_szWire_eq (a : D41) (left : Int) : laws_szWire F a left = (laws_szByteS F0 a.2 left).bind fun r8 => br (decide (r8.1 < 0)) (some ((-1), ())) (some (r8.1, ())) := by kernel_rfl
noncomputable def laws_szWire_con : Any := .one ⟨[(K41, true), (.int .i64, false)], [(.int .i64, false)], 1, fun x => laws_szWire F0 x.1 x.2.1⟩
theorem laws_szWire_ok : AnyOk Tryz.prog TB 146 laws_szWire_con := ok1 (show AllOk Tryz.prog TB laws_szWire_C from ⟨laws_szByteS_ok, trivial⟩) Tryz.func146 (by kernel_rfl) (by kernel_rfl) laws_szWire_H (by kernel_rfl)

/-! ### laws.szWireS -/
noncomputable def laws_szWireS_C : List (Nat × Any) := [(146, laws_szWire_con)]
noncomputable def laws_szWireS_H : Nat → Option Hint := look [(5, { live := [0, 1, 5], xl := [1], rl := [4] })]
noncomputable def laws_szWireS_1_s (a : List D41) (left : Int) (i : Int) : St := { nt := 27, tm := [(0, .v (.c (.ro false 176 (K41) a))), (1, .v (.c (.int .i64 left))), (5, .v (.c (.int .i64 i)))], bx := [], bl := [] }
noncomputable def laws_szWireS_1_r (t4 : Int) : St := { nt := 27, tm := [(4, .v (.c (.int .i64 t4)))], bx := [], bl := [] }
noncomputable def laws_szWireS_1_e0 (left : Int) : St := { nt := 27, tm := [(1, .v (.c (.int .i64 left)))], bx := [], bl := [] }
noncomputable def laws_szWireS_1 (st : St) : Option α := lp Tryz.prog (look laws_szWireS_C) F laws_szWireS_H (sub [.r, .r, .r, .l, .r, .b, .i] (codeOf Tryz.f89)) κ n st
noncomputable def laws_szWireS_1_k : Ex → St → Option (Args [(.int .i64, false)]) := cont Tryz.prog (look laws_szWireS_C) F laws_szWireS_H [.r, .r, .r, .l, .r, .b] (codeOf Tryz.f89) (fin Tryz.prog Tryz.f89 [(.int .i64, false)] 1)
theorem laws_szWireS_1_step (a : List D41) (left : Int) (i : Int) : laws_szWireS_1 F κ (n + 1) (laws_szWireS_1_s a left i) = br (decide (i < (a.length : Int))) (ck (okI i (a.length : Int)) ((laws_szWire F0 (at_ a i (0, [])) left).bind fun r23 => br (decide (r23.1 < 0)) (κ .ret (laws_szWireS_1_r (-1))) (laws_szWireS_1 F κ n (laws_szWireS_1_s a r23.1 (w64 (i + 1)))))) (κ (.exit 0) (laws_szWireS_1_e0 left)) := by kernel_rfl
theorem laws_szWireS_1_cr (t4 : Int) : laws_szWireS_1_k F .ret (laws_szWireS_1_r t4) = some (t4, ()) := by kernel_rfl
theorem laws_szWireS_1_ce0 (left : Int) : laws_szWireS_1_k F (.exit 0) (laws_szWireS_1_e0 left) = some (left, ()) := by kernel_rfl
noncomputable def laws_szWireS (a : D42) (left : Int) : Option (Args [(.int .i64, false)]) := runF Tryz.prog (look laws_szWireS_C) F laws_szWireS_H Tryz.f89 [(K42, false), (.int .i64, false)] [(.int .i64, false)] 1 (a, left, ())
theorem laws_szWireS_eq (a : D42) (left : Int) : laws_szWireS F a left = br (decide ((w64 (left - (a.length : Int))) < 0)) (some ((-1), ())) (laws_szWireS_1 F (laws_szWireS_1_k F) F.n (laws_szWireS_1_s a (w64 (left - (a.length : Int))) 0)) := by kernel_rfl
noncomputable def laws_szWireS_con : Any := .one ⟨[(K42, false), (.int .i64, false)], [(.int .i64, false)], 1, fun x => laws_szWireS F0 x.1 x.2.1⟩
theorem laws_szWireS_ok : AnyOk Tryz.prog TB 89 laws_szWireS_con := ok1 (show AllOk Tryz.prog TB laws_szWireS_C from ⟨laws_szWire_ok, trivial⟩) Tryz.func89 (by kernel_rfl) (by kernel_rfl) laws_szWireS_H (by kernel_rfl)

/-! ### laws.szSaid -/
noncomputable def laws_szSaid_C : List (Nat × Any) := []
noncomputable def laws_szSaid_H : Nat → Option Hint := look []
noncomputable def laws_szSaid (a : D44) (left : Int) : Option (Args [(.int .i64, false)]) := runF Tryz.prog (look laws_szSaid_C) F laws_szSaid_H Tryz.f147 [(K44, true), (.int .i64, false)] [(.int .i64, false)] 1 (a, left, ())
theorem laws_szSaid_eq (a : D44) (left : Int) : laws_szSaid F a left = br (decide ((w64 (left - (a.2.1.size : Int))) < 0)) (some ((-1), ())) (some (w64 (left - (a.2.1.size : Int)), ())) := by kernel_rfl
noncomputable def laws_szSaid_con : Any := .one ⟨[(K44, true), (.int .i64, false)], [(.int .i64, false)], 1, fun x => laws_szSaid F0 x.1 x.2.1⟩
theorem laws_szSaid_ok : AnyOk Tryz.prog TB 147 laws_szSaid_con := ok1 (show AllOk Tryz.prog TB laws_szSaid_C from trivial) Tryz.func147 (by kernel_rfl) (by kernel_rfl) laws_szSaid_H (by kernel_rfl)

/-! ### laws.szSaidS -/
noncomputable def laws_szSaidS_C : List (Nat × Any) := [(147, laws_szSaid_con)]
noncomputable def laws_szSaidS_H : Nat → Option Hint := look [(5, { live := [0, 1, 5], xl := [1], rl := [4] })]
noncomputable def laws_szSaidS_1_s (a : List D44) (left : Int) (i : Int) : St := { nt := 27, tm := [(0, .v (.c (.ro false 178 (K44) a))), (1, .v (.c (.int .i64 left))), (5, .v (.c (.int .i64 i)))], bx := [], bl := [] }
noncomputable def laws_szSaidS_1_r (t4 : Int) : St := { nt := 27, tm := [(4, .v (.c (.int .i64 t4)))], bx := [], bl := [] }
noncomputable def laws_szSaidS_1_e0 (left : Int) : St := { nt := 27, tm := [(1, .v (.c (.int .i64 left)))], bx := [], bl := [] }
noncomputable def laws_szSaidS_1 (st : St) : Option α := lp Tryz.prog (look laws_szSaidS_C) F laws_szSaidS_H (sub [.r, .r, .r, .l, .r, .b, .i] (codeOf Tryz.f90)) κ n st
noncomputable def laws_szSaidS_1_k : Ex → St → Option (Args [(.int .i64, false)]) := cont Tryz.prog (look laws_szSaidS_C) F laws_szSaidS_H [.r, .r, .r, .l, .r, .b] (codeOf Tryz.f90) (fin Tryz.prog Tryz.f90 [(.int .i64, false)] 1)
theorem laws_szSaidS_1_step (a : List D44) (left : Int) (i : Int) : laws_szSaidS_1 F κ (n + 1) (laws_szSaidS_1_s a left i) = br (decide (i < (a.length : Int))) (ck (okI i (a.length : Int)) ((laws_szSaid F0 (at_ a i K44.dflt) left).bind fun r23 => br (decide (r23.1 < 0)) (κ .ret (laws_szSaidS_1_r (-1))) (laws_szSaidS_1 F κ n (laws_szSaidS_1_s a r23.1 (w64 (i + 1)))))) (κ (.exit 0) (laws_szSaidS_1_e0 left)) := by kernel_rfl
theorem laws_szSaidS_1_cr (t4 : Int) : laws_szSaidS_1_k F .ret (laws_szSaidS_1_r t4) = some (t4, ()) := by kernel_rfl
theorem laws_szSaidS_1_ce0 (left : Int) : laws_szSaidS_1_k F (.exit 0) (laws_szSaidS_1_e0 left) = some (left, ()) := by kernel_rfl
noncomputable def laws_szSaidS (a : D45) (left : Int) : Option (Args [(.int .i64, false)]) := runF Tryz.prog (look laws_szSaidS_C) F laws_szSaidS_H Tryz.f90 [(K45, false), (.int .i64, false)] [(.int .i64, false)] 1 (a, left, ())
theorem laws_szSaidS_eq (a : D45) (left : Int) : laws_szSaidS F a left = br (decide ((w64 (left - (a.length : Int))) < 0)) (some ((-1), ())) (laws_szSaidS_1 F (laws_szSaidS_1_k F) F.n (laws_szSaidS_1_s a (w64 (left - (a.length : Int))) 0)) := by kernel_rfl
noncomputable def laws_szSaidS_con : Any := .one ⟨[(K45, false), (.int .i64, false)], [(.int .i64, false)], 1, fun x => laws_szSaidS F0 x.1 x.2.1⟩
theorem laws_szSaidS_ok : AnyOk Tryz.prog TB 90 laws_szSaidS_con := ok1 (show AllOk Tryz.prog TB laws_szSaidS_C from ⟨laws_szSaid_ok, trivial⟩) Tryz.func90 (by kernel_rfl) (by kernel_rfl) laws_szSaidS_H (by kernel_rfl)

/-! ### laws.szWorld -/
noncomputable def laws_szWorld_C : List (Nat × Any) := [(87, laws_szIntS_con), (88, laws_szRepS_con), (89, laws_szWireS_con), (90, laws_szSaidS_con)]
noncomputable def laws_szWorld_H : Nat → Option Hint := look []
noncomputable def laws_szWorld (a : D49) (left : Int) : Option (Args [(.int .i64, false)]) := runF Tryz.prog (look laws_szWorld_C) F laws_szWorld_H Tryz.f28 [(K49, true), (.int .i64, false)] [(.int .i64, false)] 1 (a, left, ())
theorem laws_szWorld_eq (a : D49) (left : Int) : laws_szWorld F a left = (laws_szIntS F0 a.2.1 left).bind fun r8 => br (decide (r8.1 < 0)) (some ((-1), ())) ((laws_szRepS F0 a.2.2.1 r8.1).bind fun r14 => br (decide (r14.1 < 0)) (some ((-1), ())) ((laws_szWireS F0 a.2.2.2.1 r14.1).bind fun r20 => br (decide (r20.1 < 0)) (some ((-1), ())) ((laws_szSaidS F0 a.2.2.2.2 r20.1).bind fun r26 => br (decide (r26.1 < 0)) (some ((-1), ())) (some (r26.1, ()))))) := by kernel_rfl
noncomputable def laws_szWorld_con : Any := .one ⟨[(K49, true), (.int .i64, false)], [(.int .i64, false)], 1, fun x => laws_szWorld F0 x.1 x.2.1⟩
theorem laws_szWorld_ok : AnyOk Tryz.prog TB 28 laws_szWorld_con := ok1 (show AllOk Tryz.prog TB laws_szWorld_C from ⟨laws_szIntS_ok, laws_szRepS_ok, laws_szWireS_ok, laws_szSaidS_ok, trivial⟩) Tryz.func28 (by kernel_rfl) (by kernel_rfl) laws_szWorld_H (by kernel_rfl)

/-! ### laws.toRepS -/
noncomputable def laws_toRepS_C : List (Nat × Any) := [(25, laws_toRep_con)]
noncomputable def laws_toRepS_H : Nat → Option Hint := look [(3, { live := [0, 3, 4], xl := [3], rl := [2] })]
noncomputable def laws_toRepS_1_s (a : List D30) (i : Int) (xs : List D39) : St := { nt := 23, tm := [(0, .v (.c (.ro false 47 (K30) a))), (3, .v (.c (.own 1000000 none))), (4, .v (.c (.int .i64 i)))], bx := [], bl := [(1000000, some ⟨57, K39, xs, true, true⟩)] }
noncomputable def laws_toRepS_1_e0 (xs : List D39) : St := { nt := 23, tm := [(3, .v (.c (.own 1000000 none)))], bx := [], bl := [(1000000, some ⟨57, K39, xs, true, true⟩)] }
noncomputable def laws_toRepS_1 (st : St) : Option α := lp Tryz.prog (look laws_toRepS_C) F laws_toRepS_H (sub [.r, .r, .l, .r, .b, .i] (codeOf Tryz.f91)) κ n st
noncomputable def laws_toRepS_1_k : Ex → St → Option (Args [(K50, false)]) := cont Tryz.prog (look laws_toRepS_C) F laws_toRepS_H [.r, .r, .l, .r, .b] (codeOf Tryz.f91) (fin Tryz.prog Tryz.f91 [(K50, false)] 2)
theorem laws_toRepS_1_step (a : List D30) (i : Int) (xs : List D39) : laws_toRepS_1 F κ (n + 1) (laws_toRepS_1_s a i xs) = br (decide (i < (a.length : Int))) (ck (okI i (a.length : Int)) ((laws_toRep F0 (at_ a i K30.dflt)).bind fun r20 => ck (okI i (xs.length : Int)) (laws_toRepS_1 F κ n (laws_toRepS_1_s a (w64 (i + 1)) (xs.set i.toNat r20.1))))) (κ (.exit 0) (laws_toRepS_1_e0 xs)) := by kernel_rfl
theorem laws_toRepS_1_ce0 (xs : List D39) : laws_toRepS_1_k F (.exit 0) (laws_toRepS_1_e0 xs) = some (xs, ()) := by kernel_rfl
noncomputable def laws_toRepS (a : D40) : Option (Args [(K50, false)]) := runF Tryz.prog (look laws_toRepS_C) F laws_toRepS_H Tryz.f91 [(K40, false)] [(K50, false)] 2 (a, ())
theorem laws_toRepS_eq (a : D40) : laws_toRepS F a = ck (okM F (a.length : Int) (a.length : Int) 208) (laws_toRepS_1 F (laws_toRepS_1_k F) F.n (laws_toRepS_1_s a 0 (List.replicate (a.length : Int).toNat (0, (0, (0, ((0, (0, ((0, ((ByteArray.mk #[]), [])), (ByteArray.mk #[])))), ([], ([], (([], 0), [])))))))))) := by kernel_rfl
noncomputable def laws_toRepS_con : Any := .one ⟨[(K40, false)], [(K50, false)], 2, fun x => laws_toRepS F0 x.1⟩
theorem laws_toRepS_ok : AnyOk Tryz.prog TB 91 laws_toRepS_con := ok1 (show AllOk Tryz.prog TB laws_toRepS_C from ⟨laws_toRep_ok, trivial⟩) Tryz.func91 (by kernel_rfl) (by kernel_rfl) laws_toRepS_H (by kernel_rfl)

/-! ### laws.toWire -/
noncomputable def laws_toWire_C : List (Nat × Any) := [(138, laws_toByteS_con)]
noncomputable def laws_toWire_H : Nat → Option Hint := look []
noncomputable def laws_toWire (a : D41) : Option (Args [(K41, true)]) := runF Tryz.prog (look laws_toWire_C) F laws_toWire_H Tryz.f148 [(K41, true)] [(K41, true)] 2 (a, ())
theorem laws_toWire_eq (a : D41) : laws_toWire F a = (laws_toByteS F0 a.2).bind fun r9 => some ((a.1, r9.1), ()) := by kernel_rfl
noncomputable def laws_toWire_con : Any := .one ⟨[(K41, true)], [(K41, true)], 2, fun x => laws_toWire F0 x.1⟩
theorem laws_toWire_ok : AnyOk Tryz.prog TB 148 laws_toWire_con := ok1 (show AllOk Tryz.prog TB laws_toWire_C from ⟨laws_toByteS_ok, trivial⟩) Tryz.func148 (by kernel_rfl) (by kernel_rfl) laws_toWire_H (by kernel_rfl)

/-! ### laws.toWireS -/
noncomputable def laws_toWireS_C : List (Nat × Any) := [(148, laws_toWire_con)]
noncomputable def laws_toWireS_H : Nat → Option Hint := look [(3, { live := [0, 3, 4], xl := [3], rl := [2] })]
noncomputable def laws_toWireS_1_s (a : List D41) (i : Int) (xs : List D41) : St := { nt := 23, tm := [(0, .v (.c (.ro false 176 (K41) a))), (3, .v (.c (.own 1000000 none))), (4, .v (.c (.int .i64 i)))], bx := [], bl := [(1000000, some ⟨122, K41, xs, true, true⟩)] }
noncomputable def laws_toWireS_1_e0 (xs : List D41) : St := { nt := 23, tm := [(3, .v (.c (.own 1000000 none)))], bx := [], bl := [(1000000, some ⟨122, K41, xs, true, true⟩)] }
noncomputable def laws_toWireS_1 (st : St) : Option α := lp Tryz.prog (look laws_toWireS_C) F laws_toWireS_H (sub [.r, .r, .l, .r, .b, .i] (codeOf Tryz.f92)) κ n st
noncomputable def laws_toWireS_1_k : Ex → St → Option (Args [(K51, false)]) := cont Tryz.prog (look laws_toWireS_C) F laws_toWireS_H [.r, .r, .l, .r, .b] (codeOf Tryz.f92) (fin Tryz.prog Tryz.f92 [(K51, false)] 2)
theorem laws_toWireS_1_step (a : List D41) (i : Int) (xs : List D41) : laws_toWireS_1 F κ (n + 1) (laws_toWireS_1_s a i xs) = br (decide (i < (a.length : Int))) (ck (okI i (a.length : Int)) ((laws_toWire F0 (at_ a i (0, []))).bind fun r20 => ck (okI i (xs.length : Int)) (laws_toWireS_1 F κ n (laws_toWireS_1_s a (w64 (i + 1)) (xs.set i.toNat r20.1))))) (κ (.exit 0) (laws_toWireS_1_e0 xs)) := by kernel_rfl
theorem laws_toWireS_1_ce0 (xs : List D41) : laws_toWireS_1_k F (.exit 0) (laws_toWireS_1_e0 xs) = some (xs, ()) := by kernel_rfl
noncomputable def laws_toWireS (a : D42) : Option (Args [(K51, false)]) := runF Tryz.prog (look laws_toWireS_C) F laws_toWireS_H Tryz.f92 [(K42, false)] [(K51, false)] 2 (a, ())
theorem laws_toWireS_eq (a : D42) : laws_toWireS F a = ck (okM F (a.length : Int) (a.length : Int) 32) (laws_toWireS_1 F (laws_toWireS_1_k F) F.n (laws_toWireS_1_s a 0 (List.replicate (a.length : Int).toNat (0, [])))) := by kernel_rfl
noncomputable def laws_toWireS_con : Any := .one ⟨[(K42, false)], [(K51, false)], 2, fun x => laws_toWireS F0 x.1⟩
theorem laws_toWireS_ok : AnyOk Tryz.prog TB 92 laws_toWireS_con := ok1 (show AllOk Tryz.prog TB laws_toWireS_C from ⟨laws_toWire_ok, trivial⟩) Tryz.func92 (by kernel_rfl) (by kernel_rfl) laws_toWireS_H (by kernel_rfl)

/-! ### laws.toSaid -/
noncomputable def laws_toSaid_C : List (Nat × Any) := []
noncomputable def laws_toSaid_H : Nat → Option Hint := look []
noncomputable def laws_toSaid (a : D44) : Option (Args [(K44, true)]) := runF Tryz.prog (look laws_toSaid_C) F laws_toSaid_H Tryz.f149 [(K44, true)] [(K44, true)] 1 (a, ())
theorem laws_toSaid_eq (a : D44) : laws_toSaid F a = some (a, ()) := by kernel_rfl
noncomputable def laws_toSaid_con : Any := .one ⟨[(K44, true)], [(K44, true)], 1, fun x => laws_toSaid F0 x.1⟩
theorem laws_toSaid_ok : AnyOk Tryz.prog TB 149 laws_toSaid_con := ok1 (show AllOk Tryz.prog TB laws_toSaid_C from trivial) Tryz.func149 (by kernel_rfl) (by kernel_rfl) laws_toSaid_H (by kernel_rfl)

/-! ### laws.toSaidS -/
noncomputable def laws_toSaidS_C : List (Nat × Any) := [(149, laws_toSaid_con)]
noncomputable def laws_toSaidS_H : Nat → Option Hint := look [(3, { live := [0, 3, 4], xl := [3], rl := [2] })]
noncomputable def laws_toSaidS_1_s (a : List D44) (i : Int) (xs : List D44) : St := { nt := 23, tm := [(0, .v (.c (.ro false 178 (K44) a))), (3, .v (.c (.own 1000000 none))), (4, .v (.c (.int .i64 i)))], bx := [], bl := [(1000000, some ⟨116, K44, xs, true, true⟩)] }
noncomputable def laws_toSaidS_1_e0 (xs : List D44) : St := { nt := 23, tm := [(3, .v (.c (.own 1000000 none)))], bx := [], bl := [(1000000, some ⟨116, K44, xs, true, true⟩)] }
noncomputable def laws_toSaidS_1 (st : St) : Option α := lp Tryz.prog (look laws_toSaidS_C) F laws_toSaidS_H (sub [.r, .r, .l, .r, .b, .i] (codeOf Tryz.f93)) κ n st
noncomputable def laws_toSaidS_1_k : Ex → St → Option (Args [(K52, false)]) := cont Tryz.prog (look laws_toSaidS_C) F laws_toSaidS_H [.r, .r, .l, .r, .b] (codeOf Tryz.f93) (fin Tryz.prog Tryz.f93 [(K52, false)] 2)
theorem laws_toSaidS_1_step (a : List D44) (i : Int) (xs : List D44) : laws_toSaidS_1 F κ (n + 1) (laws_toSaidS_1_s a i xs) = br (decide (i < (a.length : Int))) (ck (okI i (a.length : Int)) ((laws_toSaid F0 (at_ a i K44.dflt)).bind fun r20 => ck (okI i (xs.length : Int)) (laws_toSaidS_1 F κ n (laws_toSaidS_1_s a (w64 (i + 1)) (xs.set i.toNat r20.1))))) (κ (.exit 0) (laws_toSaidS_1_e0 xs)) := by kernel_rfl
theorem laws_toSaidS_1_ce0 (xs : List D44) : laws_toSaidS_1_k F (.exit 0) (laws_toSaidS_1_e0 xs) = some (xs, ()) := by kernel_rfl
noncomputable def laws_toSaidS (a : D45) : Option (Args [(K52, false)]) := runF Tryz.prog (look laws_toSaidS_C) F laws_toSaidS_H Tryz.f93 [(K45, false)] [(K52, false)] 2 (a, ())
theorem laws_toSaidS_eq (a : D45) : laws_toSaidS F a = ck (okM F (a.length : Int) (a.length : Int) 32) (laws_toSaidS_1 F (laws_toSaidS_1_k F) F.n (laws_toSaidS_1_s a 0 (List.replicate (a.length : Int).toNat (0, ((ByteArray.mk #[]), 0))))) := by kernel_rfl
noncomputable def laws_toSaidS_con : Any := .one ⟨[(K45, false)], [(K52, false)], 2, fun x => laws_toSaidS F0 x.1⟩
theorem laws_toSaidS_ok : AnyOk Tryz.prog TB 93 laws_toSaidS_con := ok1 (show AllOk Tryz.prog TB laws_toSaidS_C from ⟨laws_toSaid_ok, trivial⟩) Tryz.func93 (by kernel_rfl) (by kernel_rfl) laws_toSaidS_H (by kernel_rfl)

/-! ### laws.toWorld -/
noncomputable def laws_toWorld_C : List (Nat × Any) := [(15, laws_toConf_con), (16, laws_toIntS_con), (91, laws_toRepS_con), (92, laws_toWireS_con), (93, laws_toSaidS_con)]
noncomputable def laws_toWorld_H : Nat → Option Hint := look []
noncomputable def laws_toWorld (a : D49) : Option (Args [(K56, true)]) := runF Tryz.prog (look laws_toWorld_C) F laws_toWorld_H Tryz.f30 [(K49, true)] [(K56, true)] 2 (a, ())
theorem laws_toWorld_eq (a : D49) : laws_toWorld F a = (laws_toConf F0 a.1).bind fun r6 => (laws_toIntS F0 a.2.1).bind fun r10 => (laws_toRepS F0 a.2.2.1).bind fun r14 => (laws_toWireS F0 a.2.2.2.1).bind fun r18 => (laws_toSaidS F0 a.2.2.2.2).bind fun r22 => some ((r6.1, (r10.1, (r14.1, (r18.1, r22.1)))), ()) := by kernel_rfl
noncomputable def laws_toWorld_con : Any := .one ⟨[(K49, true)], [(K56, true)], 2, fun x => laws_toWorld F0 x.1⟩
theorem laws_toWorld_ok : AnyOk Tryz.prog TB 30 laws_toWorld_con := ok1 (show AllOk Tryz.prog TB laws_toWorld_C from ⟨laws_toConf_ok, laws_toIntS_ok, laws_toRepS_ok, laws_toWireS_ok, laws_toSaidS_ok, trivial⟩) Tryz.func30 (by kernel_rfl) (by kernel_rfl) laws_toWorld_H (by kernel_rfl)

/-! ### laws.eqConf -/
noncomputable def laws_eqConf_C : List (Nat × Any) := []
noncomputable def laws_eqConf_H : Nat → Option Hint := look []
noncomputable def laws_eqConf (a : D1) (b : D1) : Option (Args [(.bool, false)]) := runF Tryz.prog (look laws_eqConf_C) F laws_eqConf_H Tryz.f95 [(K1, true), (K1, true)] [(.bool, false)] 1 (a, b, ())
theorem laws_eqConf_eq (a : D1) (b : D1) : laws_eqConf F a b = br (a.1 != b.1) (some (false, ())) (br (a.2 != b.2) (some (false, ())) (some (true, ()))) := by kernel_rfl
noncomputable def laws_eqConf_con : Any := .one ⟨[(K1, true), (K1, true)], [(.bool, false)], 1, fun x => laws_eqConf F0 x.1 x.2.1⟩
theorem laws_eqConf_ok : AnyOk Tryz.prog TB 95 laws_eqConf_con := ok1 (show AllOk Tryz.prog TB laws_eqConf_C from trivial) Tryz.func95 (by kernel_rfl) (by kernel_rfl) laws_eqConf_H (by kernel_rfl)

/-! ### laws.eqRepS -/
noncomputable def laws_eqRepS_C : List (Nat × Any) := [(27, laws_eqRep_con)]
noncomputable def laws_eqRepS_H : Nat → Option Hint := look [(4, { live := [0, 1, 5], rl := [4] })]
noncomputable def laws_eqRepS_1_s (a : List D39) (b : List D39) (i : Int) : St := { nt := 27, tm := [(0, .v (.c (.ro false 57 (K39) a))), (1, .v (.c (.ro false 57 (K39) b))), (5, .v (.c (.int .i64 i)))], bx := [], bl := [] }
noncomputable def laws_eqRepS_1_r (t4 : Bool) : St := { nt := 27, tm := [(4, .v (.c (.bool t4)))], bx := [], bl := [] }
noncomputable def laws_eqRepS_1_e0  : St := { nt := 27, tm := [], bx := [], bl := [] }
noncomputable def laws_eqRepS_1 (st : St) : Option α := lp Tryz.prog (look laws_eqRepS_C) F laws_eqRepS_H (sub [.r, .r, .l, .r, .b, .i] (codeOf Tryz.f96)) κ n st
noncomputable def laws_eqRepS_1_k : Ex → St → Option (Args [(.bool, false)]) := cont Tryz.prog (look laws_eqRepS_C) F laws_eqRepS_H [.r, .r, .l, .r, .b] (codeOf Tryz.f96) (fin Tryz.prog Tryz.f96 [(.bool, false)] 1)
theorem laws_eqRepS_1_step (a : List D39) (b : List D39) (i : Int) : laws_eqRepS_1 F κ (n + 1) (laws_eqRepS_1_s a b i) = br (decide (i < (a.length : Int))) (ck (okI i (a.length : Int)) (ck (okI i (b.length : Int)) ((laws_eqRep F0 (at_ a i K39.dflt) (at_ b i K39.dflt)).bind fun r25 => br (!r25.1) (κ .ret (laws_eqRepS_1_r false)) (laws_eqRepS_1 F κ n (laws_eqRepS_1_s a b (w64 (i + 1))))))) (κ (.exit 0) (laws_eqRepS_1_e0 )) := by kernel_rfl
theorem laws_eqRepS_1_ce0  : laws_eqRepS_1_k F (.exit 0) (laws_eqRepS_1_e0 ) = some (true, ()) := by kernel_rfl
noncomputable def laws_eqRepS (a : D50) (b : D50) : Option (Args [(.bool, false)]) := runF Tryz.prog (look laws_eqRepS_C) F laws_eqRepS_H Tryz.f96 [(K50, false), (K50, false)] [(.bool, false)] 1 (a, b, ())
theorem laws_eqRepS_eq (a : D50) (b : D50) : laws_eqRepS F a b = br ((a.length : Int) != (b.length : Int)) (some (false, ())) (laws_eqRepS_1 F (laws_eqRepS_1_k F) F.n (laws_eqRepS_1_s a b 0)) := by kernel_rfl
noncomputable def laws_eqRepS_con : Any := .one ⟨[(K50, false), (K50, false)], [(.bool, false)], 1, fun x => laws_eqRepS F0 x.1 x.2.1⟩
theorem laws_eqRepS_ok : AnyOk Tryz.prog TB 96 laws_eqRepS_con := ok1 (show AllOk Tryz.prog TB laws_eqRepS_C from ⟨laws_eqRep_ok, trivial⟩) Tryz.func96 (by kernel_rfl) (by kernel_rfl) laws_eqRepS_H (by kernel_rfl)

/-! ### laws.eqWire -/
noncomputable def laws_eqWire_C : List (Nat × Any) := [(144, laws_eqByteS_con)]
noncomputable def laws_eqWire_H : Nat → Option Hint := look []
noncomputable def laws_eqWire (a : D41) (b : D41) : Option (Args [(.bool, false)]) := runF Tryz.prog (look laws_eqWire_C) F laws_eqWire_H Tryz.f151 [(K41, true), (K41, true)] [(.bool, false)] 1 (a, b, ())
theorem laws_eqWire_eq (a : D41) (b : D41) : laws_eqWire F a b = br (a.1 != b.1) (some (false, ())) ((laws_eqByteS F0 a.2 b.2).bind fun r14 => br (!r14.1) (some (false, ())) (some (true, ()))) := by kernel_rfl
noncomputable def laws_eqWire_con : Any := .one ⟨[(K41, true), (K41, true)], [(.bool, false)], 1, fun x => laws_eqWire F0 x.1 x.2.1⟩
theorem laws_eqWire_ok : AnyOk Tryz.prog TB 151 laws_eqWire_con := ok1 (show AllOk Tryz.prog TB laws_eqWire_C from ⟨laws_eqByteS_ok, trivial⟩) Tryz.func151 (by kernel_rfl) (by kernel_rfl) laws_eqWire_H (by kernel_rfl)

/-! ### laws.eqWireS -/
noncomputable def laws_eqWireS_C : List (Nat × Any) := [(151, laws_eqWire_con)]
noncomputable def laws_eqWireS_H : Nat → Option Hint := look [(4, { live := [0, 1, 5], rl := [4] })]
noncomputable def laws_eqWireS_1_s (a : List D41) (b : List D41) (i : Int) : St := { nt := 27, tm := [(0, .v (.c (.ro false 122 (K41) a))), (1, .v (.c (.ro false 122 (K41) b))), (5, .v (.c (.int .i64 i)))], bx := [], bl := [] }
noncomputable def laws_eqWireS_1_r (t4 : Bool) : St := { nt := 27, tm := [(4, .v (.c (.bool t4)))], bx := [], bl := [] }
noncomputable def laws_eqWireS_1_e0  : St := { nt := 27, tm := [], bx := [], bl := [] }
noncomputable def laws_eqWireS_1 (st : St) : Option α := lp Tryz.prog (look laws_eqWireS_C) F laws_eqWireS_H (sub [.r, .r, .l, .r, .b, .i] (codeOf Tryz.f97)) κ n st
noncomputable def laws_eqWireS_1_k : Ex → St → Option (Args [(.bool, false)]) := cont Tryz.prog (look laws_eqWireS_C) F laws_eqWireS_H [.r, .r, .l, .r, .b] (codeOf Tryz.f97) (fin Tryz.prog Tryz.f97 [(.bool, false)] 1)
theorem laws_eqWireS_1_step (a : List D41) (b : List D41) (i : Int) : laws_eqWireS_1 F κ (n + 1) (laws_eqWireS_1_s a b i) = br (decide (i < (a.length : Int))) (ck (okI i (a.length : Int)) (ck (okI i (b.length : Int)) ((laws_eqWire F0 (at_ a i (0, [])) (at_ b i (0, []))).bind fun r25 => br (!r25.1) (κ .ret (laws_eqWireS_1_r false)) (laws_eqWireS_1 F κ n (laws_eqWireS_1_s a b (w64 (i + 1))))))) (κ (.exit 0) (laws_eqWireS_1_e0 )) := by kernel_rfl
theorem laws_eqWireS_1_ce0  : laws_eqWireS_1_k F (.exit 0) (laws_eqWireS_1_e0 ) = some (true, ()) := by kernel_rfl
noncomputable def laws_eqWireS (a : D51) (b : D51) : Option (Args [(.bool, false)]) := runF Tryz.prog (look laws_eqWireS_C) F laws_eqWireS_H Tryz.f97 [(K51, false), (K51, false)] [(.bool, false)] 1 (a, b, ())
theorem laws_eqWireS_eq (a : D51) (b : D51) : laws_eqWireS F a b = br ((a.length : Int) != (b.length : Int)) (some (false, ())) (laws_eqWireS_1 F (laws_eqWireS_1_k F) F.n (laws_eqWireS_1_s a b 0)) := by kernel_rfl
noncomputable def laws_eqWireS_con : Any := .one ⟨[(K51, false), (K51, false)], [(.bool, false)], 1, fun x => laws_eqWireS F0 x.1 x.2.1⟩
theorem laws_eqWireS_ok : AnyOk Tryz.prog TB 97 laws_eqWireS_con := ok1 (show AllOk Tryz.prog TB laws_eqWireS_C from ⟨laws_eqWire_ok, trivial⟩) Tryz.func97 (by kernel_rfl) (by kernel_rfl) laws_eqWireS_H (by kernel_rfl)

/-! ### laws.eqSaid -/
noncomputable def laws_eqSaid_C : List (Nat × Any) := []
noncomputable def laws_eqSaid_H : Nat → Option Hint := look []
noncomputable def laws_eqSaid (a : D44) (b : D44) : Option (Args [(.bool, false)]) := runF Tryz.prog (look laws_eqSaid_C) F laws_eqSaid_H Tryz.f152 [(K44, true), (K44, true)] [(.bool, false)] 1 (a, b, ())
theorem laws_eqSaid_eq (a : D44) (b : D44) : laws_eqSaid F a b = br (a.1 != b.1) (some (false, ())) (br (!(a.2.1.toList == b.2.1.toList)) (some (false, ())) (br (a.2.2 != b.2.2) (some (false, ())) (some (true, ())))) := by kernel_rfl
noncomputable def laws_eqSaid_con : Any := .one ⟨[(K44, true), (K44, true)], [(.bool, false)], 1, fun x => laws_eqSaid F0 x.1 x.2.1⟩
theorem laws_eqSaid_ok : AnyOk Tryz.prog TB 152 laws_eqSaid_con := ok1 (show AllOk Tryz.prog TB laws_eqSaid_C from trivial) Tryz.func152 (by kernel_rfl) (by kernel_rfl) laws_eqSaid_H (by kernel_rfl)

/-! ### laws.eqSaidS -/
noncomputable def laws_eqSaidS_C : List (Nat × Any) := [(152, laws_eqSaid_con)]
noncomputable def laws_eqSaidS_H : Nat → Option Hint := look [(4, { live := [0, 1, 5], rl := [4] })]
noncomputable def laws_eqSaidS_1_s (a : List D44) (b : List D44) (i : Int) : St := { nt := 27, tm := [(0, .v (.c (.ro false 116 (K44) a))), (1, .v (.c (.ro false 116 (K44) b))), (5, .v (.c (.int .i64 i)))], bx := [], bl := [] }
noncomputable def laws_eqSaidS_1_r (t4 : Bool) : St := { nt := 27, tm := [(4, .v (.c (.bool t4)))], bx := [], bl := [] }
noncomputable def laws_eqSaidS_1_e0  : St := { nt := 27, tm := [], bx := [], bl := [] }
noncomputable def laws_eqSaidS_1 (st : St) : Option α := lp Tryz.prog (look laws_eqSaidS_C) F laws_eqSaidS_H (sub [.r, .r, .l, .r, .b, .i] (codeOf Tryz.f98)) κ n st
noncomputable def laws_eqSaidS_1_k : Ex → St → Option (Args [(.bool, false)]) := cont Tryz.prog (look laws_eqSaidS_C) F laws_eqSaidS_H [.r, .r, .l, .r, .b] (codeOf Tryz.f98) (fin Tryz.prog Tryz.f98 [(.bool, false)] 1)
theorem laws_eqSaidS_1_step (a : List D44) (b : List D44) (i : Int) : laws_eqSaidS_1 F κ (n + 1) (laws_eqSaidS_1_s a b i) = br (decide (i < (a.length : Int))) (ck (okI i (a.length : Int)) (ck (okI i (b.length : Int)) ((laws_eqSaid F0 (at_ a i K44.dflt) (at_ b i K44.dflt)).bind fun r25 => br (!r25.1) (κ .ret (laws_eqSaidS_1_r false)) (laws_eqSaidS_1 F κ n (laws_eqSaidS_1_s a b (w64 (i + 1))))))) (κ (.exit 0) (laws_eqSaidS_1_e0 )) := by kernel_rfl
theorem laws_eqSaidS_1_ce0  : laws_eqSaidS_1_k F (.exit 0) (laws_eqSaidS_1_e0 ) = some (true, ()) := by kernel_rfl
noncomputable def laws_eqSaidS (a : D52) (b : D52) : Option (Args [(.bool, false)]) := runF Tryz.prog (look laws_eqSaidS_C) F laws_eqSaidS_H Tryz.f98 [(K52, false), (K52, false)] [(.bool, false)] 1 (a, b, ())
theorem laws_eqSaidS_eq (a : D52) (b : D52) : laws_eqSaidS F a b = br ((a.length : Int) != (b.length : Int)) (some (false, ())) (laws_eqSaidS_1 F (laws_eqSaidS_1_k F) F.n (laws_eqSaidS_1_s a b 0)) := by kernel_rfl
noncomputable def laws_eqSaidS_con : Any := .one ⟨[(K52, false), (K52, false)], [(.bool, false)], 1, fun x => laws_eqSaidS F0 x.1 x.2.1⟩
theorem laws_eqSaidS_ok : AnyOk Tryz.prog TB 98 laws_eqSaidS_con := ok1 (show AllOk Tryz.prog TB laws_eqSaidS_C from ⟨laws_eqSaid_ok, trivial⟩) Tryz.func98 (by kernel_rfl) (by kernel_rfl) laws_eqSaidS_H (by kernel_rfl)

/-! ### laws.eqWorld -/
noncomputable def laws_eqWorld_C : List (Nat × Any) := [(19, laws_eqIntS_con), (95, laws_eqConf_con), (96, laws_eqRepS_con), (97, laws_eqWireS_con), (98, laws_eqSaidS_con)]
noncomputable def laws_eqWorld_H : Nat → Option Hint := look []
noncomputable def laws_eqWorld (a : D56) (b : D56) : Option (Args [(.bool, false)]) := runF Tryz.prog (look laws_eqWorld_C) F laws_eqWorld_H Tryz.f32 [(K56, true), (K56, true)] [(.bool, false)] 1 (a, b, ())
theorem laws_eqWorld_eq (a : D56) (b : D56) : laws_eqWorld F a b = (laws_eqConf F0 a.1 b.1).bind fun r9 => br (!r9.1) (some (false, ())) ((laws_eqIntS F0 a.2.1 b.2.1).bind fun r15 => br (!r15.1) (some (false, ())) ((laws_eqRepS F0 a.2.2.1 b.2.2.1).bind fun r21 => br (!r21.1) (some (false, ())) ((laws_eqWireS F0 a.2.2.2.1 b.2.2.2.1).bind fun r27 => br (!r27.1) (some (false, ())) ((laws_eqSaidS F0 a.2.2.2.2 b.2.2.2.2).bind fun r33 => br (!r33.1) (some (false, ())) (some (true, ())))))) := by kernel_rfl
noncomputable def laws_eqWorld_con : Any := .one ⟨[(K56, true), (K56, true)], [(.bool, false)], 1, fun x => laws_eqWorld F0 x.1 x.2.1⟩
theorem laws_eqWorld_ok : AnyOk Tryz.prog TB 32 laws_eqWorld_con := ok1 (show AllOk Tryz.prog TB laws_eqWorld_C from ⟨laws_eqIntS_ok, laws_eqConf_ok, laws_eqRepS_ok, laws_eqWireS_ok, laws_eqSaidS_ok, trivial⟩) Tryz.func32 (by kernel_rfl) (by kernel_rfl) laws_eqWorld_H (by kernel_rfl)

/-! ### spec.Faults -/
noncomputable def spec_Faults_C : List (Nat × Any) := [(49, spec_ConfOk_con)]
noncomputable def spec_Faults_H : Nat → Option Hint := look []
noncomputable def spec_Faults (c : D1) : Option (Args [(.int .i64, false)]) := runF Tryz.prog (look spec_Faults_C) F spec_Faults_H Tryz.f154 [(K1, true)] [(.int .i64, false)] 1 (c, ())
theorem spec_Faults_eq (c : D1) : spec_Faults F c = (spec_ConfOk F0 c).bind fun r4 => br (!r4.1) (some (0, ())) (some (w64 (Int.tdiv (w64 (c.1 - 1)) 3), ())) := by kernel_rfl
noncomputable def spec_Faults_con : Any := .one ⟨[(K1, true)], [(.int .i64, false)], 1, fun x => spec_Faults F0 x.1⟩
theorem spec_Faults_ok : AnyOk Tryz.prog TB 154 spec_Faults_con := ok1 (show AllOk Tryz.prog TB spec_Faults_C from ⟨spec_ConfOk_ok, trivial⟩) Tryz.func154 (by kernel_rfl) (by kernel_rfl) spec_Faults_H (by kernel_rfl)

/-! ### spec.SafeOk -/
noncomputable def spec_SafeOk_C : List (Nat × Any) := [(118, spec_l1In_con), (120, spec_QcOk_con), (157, spec_NameOk_con)]
noncomputable def spec_SafeOk_H : Nat → Option Hint := look []
noncomputable def spec_SafeOk (c : D1) (s : D11) : Option (Args [(.bool, false)]) := runF Tryz.prog (look spec_SafeOk_C) F spec_SafeOk_H Tryz.f202 [(K1, true), (K11, true)] [(.bool, false)] 1 (c, s, ())
theorem spec_SafeOk_eq (c : D1) (s : D11) : spec_SafeOk F c s = (spec_l1In F0 s.1 0 60).bind fun r7 => br r7.1 ((spec_l1In F0 s.2.1 0 60).bind fun r11 => br r11.1 ((spec_QcOk F0 c s.2.2.1).bind fun r17 => br r17.1 ((spec_NameOk F0 s.2.2.2).bind fun r22 => some (r22.1, ())) (some (false, ()))) (some (false, ()))) (some (false, ())) := by kernel_rfl
noncomputable def spec_SafeOk_con : Any := .one ⟨[(K1, true), (K11, true)], [(.bool, false)], 1, fun x => spec_SafeOk F0 x.1 x.2.1⟩
theorem spec_SafeOk_ok : AnyOk Tryz.prog TB 202 spec_SafeOk_con := ok1 (show AllOk Tryz.prog TB spec_SafeOk_C from ⟨spec_l1In_ok, spec_QcOk_ok, spec_NameOk_ok, trivial⟩) Tryz.func202 (by kernel_rfl) (by kernel_rfl) spec_SafeOk_H (by kernel_rfl)

/-! ### spec.l4Before -/
noncomputable def spec_l4Before_C : List (Nat × Any) := []
noncomputable def spec_l4Before_H : Nat → Option Hint := look []
noncomputable def spec_l4Before (a : D3) (b : D3) : Option (Args [(.bool, false)]) := runF Tryz.prog (look spec_l4Before_C) F spec_l4Before_H Tryz.f245 [(K3, true), (K3, true)] [(.bool, false)] 1 (a, b, ())
theorem spec_l4Before_eq (a : D3) (b : D3) : spec_l4Before F a b = br (decide (a.1 < b.1)) (some (true, ())) (br (a.1 == b.1) (some (decide (a.2.2.2 < b.2.2.2), ())) (some (false, ()))) := by kernel_rfl
noncomputable def spec_l4Before_con : Any := .one ⟨[(K3, true), (K3, true)], [(.bool, false)], 1, fun x => spec_l4Before F0 x.1 x.2.1⟩
theorem spec_l4Before_ok : AnyOk Tryz.prog TB 245 spec_l4Before_con := ok1 (show AllOk Tryz.prog TB spec_l4Before_C from trivial) Tryz.func245 (by kernel_rfl) (by kernel_rfl) spec_l4Before_H (by kernel_rfl)

/-! ### spec.PoolOk -/
noncomputable def spec_PoolOk_C : List (Nat × Any) := [(244, spec_TxOk_con), (245, spec_l4Before_con)]
noncomputable def spec_PoolOk_H : Nat → Option Hint := look [(2, { live := [0, 3], xl := [0], rl := [2] })]
noncomputable def spec_PoolOk_1_s (p : List D3) (i : Int) : St := { nt := 36, tm := [(0, .v (.c (.ro false 126 (K3) p))), (3, .v (.c (.int .i64 i)))], bx := [], bl := [] }
noncomputable def spec_PoolOk_1_r (t2 : Bool) : St := { nt := 36, tm := [(2, .v (.c (.bool t2)))], bx := [], bl := [] }
noncomputable def spec_PoolOk_1_e0 (p : List D3) : St := { nt := 36, tm := [(0, .v (.c (.ro false 126 (K3) p)))], bx := [], bl := [] }
noncomputable def spec_PoolOk_1 (st : St) : Option α := lp Tryz.prog (look spec_PoolOk_C) F spec_PoolOk_H (sub [.r, .l, .r, .b, .i] (codeOf Tryz.f203)) κ n st
noncomputable def spec_PoolOk_1_k : Ex → St → Option (Args [(.bool, false)]) := cont Tryz.prog (look spec_PoolOk_C) F spec_PoolOk_H [.r, .l, .r, .b] (codeOf Tryz.f203) (fin Tryz.prog Tryz.f203 [(.bool, false)] 1)
theorem spec_PoolOk_1_step (p : List D3) (i : Int) : spec_PoolOk_1 F κ (n + 1) (spec_PoolOk_1_s p i) = br (decide (i < (p.length : Int))) (ck (okI i (p.length : Int)) ((spec_TxOk F0 (at_ p i K3.dflt)).bind fun r14 => br (!r14.1) (κ .ret (spec_PoolOk_1_r false)) (br (decide (i > 0)) (ck (okI (w64 (i - 1)) (p.length : Int)) (ck (okI i (p.length : Int)) ((spec_l4Before F0 (at_ p (w64 (i - 1)) K3.dflt) (at_ p i K3.dflt)).bind fun r29 => br (!r29.1) (κ .ret (spec_PoolOk_1_r false)) (spec_PoolOk_1 F κ n (spec_PoolOk_1_s p (w64 (i + 1))))))) (spec_PoolOk_1 F κ n (spec_PoolOk_1_s p (w64 (i + 1))))))) (κ (.exit 0) (spec_PoolOk_1_e0 p)) := by kernel_rfl
theorem spec_PoolOk_1_cr (t2 : Bool) : spec_PoolOk_1_k F .ret (spec_PoolOk_1_r t2) = some (t2, ()) := by kernel_rfl
theorem spec_PoolOk_1_ce0 (p : List D3) : spec_PoolOk_1_k F (.exit 0) (spec_PoolOk_1_e0 p) = some (decide ((p.length : Int) ≤ 12), ()) := by kernel_rfl
noncomputable def spec_PoolOk (p : D4) : Option (Args [(.bool, false)]) := runF Tryz.prog (look spec_PoolOk_C) F spec_PoolOk_H Tryz.f203 [(K4, false)] [(.bool, false)] 1 (p, ())
theorem spec_PoolOk_eq (p : D4) : spec_PoolOk F p = spec_PoolOk_1 F (spec_PoolOk_1_k F) F.n (spec_PoolOk_1_s p 0) := by kernel_rfl
noncomputable def spec_PoolOk_con : Any := .one ⟨[(K4, false)], [(.bool, false)], 1, fun x => spec_PoolOk F0 x.1⟩
theorem spec_PoolOk_ok : AnyOk Tryz.prog TB 203 spec_PoolOk_con := ok1 (show AllOk Tryz.prog TB spec_PoolOk_C from ⟨spec_TxOk_ok, spec_l4Before_ok, trivial⟩) Tryz.func203 (by kernel_rfl) (by kernel_rfl) spec_PoolOk_H (by kernel_rfl)

/-! ### spec.PartOk -/
noncomputable def spec_PartOk_C : List (Nat × Any) := [(49, spec_ConfOk_con), (118, spec_l1In_con), (153, spec_SetOk_con), (157, spec_NameOk_con), (158, spec_ViewOf_con)]
noncomputable def spec_PartOk_H : Nat → Option Hint := look []
noncomputable def spec_PartOk (c : D1) (p : D8) : Option (Args [(.bool, false)]) := runF Tryz.prog (look spec_PartOk_C) F spec_PartOk_H Tryz.f246 [(K1, true), (K8, true)] [(.bool, false)] 1 (c, p, ())
theorem spec_PartOk_eq (c : D1) (p : D8) : spec_PartOk F c p = (spec_ConfOk F0 c).bind fun r6 => br (!r6.1) (some (false, ())) ((spec_l1In F0 p.1 1 60).bind fun r11 => br (!r11.1) (some (false, ())) ((spec_SetOk F0 c.1 p.2.2).bind fun r19 => br (!r19.1) (some (false, ())) (br ((p.2.2.length : Int) == 0) (some (false, ())) (br (p.2.1.toList == (ByteArray.mk #[]).toList) (some (true, ())) ((spec_NameOk F0 p.2.1).bind fun r34 => br r34.1 ((spec_ViewOf F0 p.2.1).bind fun r38 => some ((r38.1 == p.1), ())) (some (false, ()))))))) := by kernel_rfl
noncomputable def spec_PartOk_con : Any := .one ⟨[(K1, true), (K8, true)], [(.bool, false)], 1, fun x => spec_PartOk F0 x.1 x.2.1⟩
theorem spec_PartOk_ok : AnyOk Tryz.prog TB 246 spec_PartOk_con := ok1 (show AllOk Tryz.prog TB spec_PartOk_C from ⟨spec_ConfOk_ok, spec_l1In_ok, spec_SetOk_ok, spec_NameOk_ok, spec_ViewOf_ok, trivial⟩) Tryz.func246 (by kernel_rfl) (by kernel_rfl) spec_PartOk_H (by kernel_rfl)

/-! ### spec.l10Before -/
noncomputable def spec_l10Before_C : List (Nat × Any) := []
noncomputable def spec_l10Before_H : Nat → Option Hint := look []
noncomputable def spec_l10Before (a : D8) (b : D8) : Option (Args [(.bool, false)]) := runF Tryz.prog (look spec_l10Before_C) F spec_l10Before_H Tryz.f247 [(K8, true), (K8, true)] [(.bool, false)] 1 (a, b, ())
theorem spec_l10Before_eq (a : D8) (b : D8) : spec_l10Before F a b = br (decide (a.1 < b.1)) (some (true, ())) (br (a.1 == b.1) (some (Op.bytesLess a.2.1.toList b.2.1.toList, ())) (some (false, ()))) := by kernel_rfl
noncomputable def spec_l10Before_con : Any := .one ⟨[(K8, true), (K8, true)], [(.bool, false)], 1, fun x => spec_l10Before F0 x.1 x.2.1⟩
theorem spec_l10Before_ok : AnyOk Tryz.prog TB 247 spec_l10Before_con := ok1 (show AllOk Tryz.prog TB spec_l10Before_C from trivial) Tryz.func247 (by kernel_rfl) (by kernel_rfl) spec_l10Before_H (by kernel_rfl)

/-! ### spec.TableOk -/
noncomputable def spec_TableOk_C : List (Nat × Any) := [(246, spec_PartOk_con), (247, spec_l10Before_con)]
noncomputable def spec_TableOk_H : Nat → Option Hint := look [(2, { live := [1, 2, 5], xl := [1], rl := [4] })]
noncomputable def spec_TableOk_1_s (list : List D8) (i : Int) (c : Int) (c1 : Int) : St := { nt := 39, tm := [(1, .v (.c (.ro false 85 (K8) list))), (2, .v (.c (.ptr 2 0))), (5, .v (.c (.int .i64 i)))], bx := [(2, [.int .i64 c, .int .i64 c1])], bl := [] }
noncomputable def spec_TableOk_1_r (t4 : Bool) : St := { nt := 39, tm := [(4, .v (.c (.bool t4)))], bx := [], bl := [] }
noncomputable def spec_TableOk_1_e0 (list : List D8) : St := { nt := 39, tm := [(1, .v (.c (.ro false 85 (K8) list)))], bx := [], bl := [] }
noncomputable def spec_TableOk_1 (st : St) : Option α := lp Tryz.prog (look spec_TableOk_C) F spec_TableOk_H (sub [.r, .l, .r, .b, .i] (codeOf Tryz.f204)) κ n st
noncomputable def spec_TableOk_1_k : Ex → St → Option (Args [(.bool, false)]) := cont Tryz.prog (look spec_TableOk_C) F spec_TableOk_H [.r, .l, .r, .b] (codeOf Tryz.f204) (fin Tryz.prog Tryz.f204 [(.bool, false)] 1)
theorem spec_TableOk_1_step (list : List D8) (i : Int) (c : Int) (c1 : Int) : spec_TableOk_1 F κ (n + 1) (spec_TableOk_1_s list i c c1) = br (decide (i < (list.length : Int))) (ck (okI i (list.length : Int)) ((spec_PartOk F0 (c, c1) (at_ list i K8.dflt)).bind fun r17 => br (!r17.1) (κ .ret (spec_TableOk_1_r false)) (br (decide (i > 0)) (ck (okI (w64 (i - 1)) (list.length : Int)) (ck (okI i (list.length : Int)) ((spec_l10Before F0 (at_ list (w64 (i - 1)) K8.dflt) (at_ list i K8.dflt)).bind fun r32 => br (!r32.1) (κ .ret (spec_TableOk_1_r false)) (spec_TableOk_1 F κ n (spec_TableOk_1_s list (w64 (i + 1)) c c1))))) (spec_TableOk_1 F κ n (spec_TableOk_1_s list (w64 (i + 1)) c c1))))) (κ (.exit 0) (spec_TableOk_1_e0 list)) := by kernel_rfl
theorem spec_TableOk_1_cr (t4 : Bool) : spec_TableOk_1_k F .ret (spec_TableOk_1_r t4) = some (t4, ()) := by kernel_rfl
theorem spec_TableOk_1_ce0 (list : List D8) : spec_TableOk_1_k F (.exit 0) (spec_TableOk_1_e0 list) = some (decide ((list.length : Int) ≤ 20), ()) := by kernel_rfl
noncomputable def spec_TableOk (c : D1) (list : D31) : Option (Args [(.bool, false)]) := runF Tryz.prog (look spec_TableOk_C) F spec_TableOk_H Tryz.f204 [(K1, true), (K31, false)] [(.bool, false)] 1 (c, list, ())
theorem spec_TableOk_eq (c : D1) (list : D31) : spec_TableOk F c list = spec_TableOk_1 F (spec_TableOk_1_k F) F.n (spec_TableOk_1_s list 0 c.1 c.2) := by kernel_rfl
noncomputable def spec_TableOk_con : Any := .one ⟨[(K1, true), (K31, false)], [(.bool, false)], 1, fun x => spec_TableOk F0 x.1 x.2.1⟩
theorem spec_TableOk_ok : AnyOk Tryz.prog TB 204 spec_TableOk_con := ok1 (show AllOk Tryz.prog TB spec_TableOk_C from ⟨spec_PartOk_ok, spec_l10Before_ok, trivial⟩) Tryz.func204 (by kernel_rfl) (by kernel_rfl) spec_TableOk_H (by kernel_rfl)

/-! ### spec.DiskOk -/
noncomputable def spec_DiskOk_C : List (Nat × Any) := [(118, spec_l1In_con)]
noncomputable def spec_DiskOk_H : Nat → Option Hint := look []
noncomputable def spec_DiskOk (d : D14) : Option (Args [(.bool, false)]) := runF Tryz.prog (look spec_DiskOk_C) F spec_DiskOk_H Tryz.f205 [(K14, true)] [(.bool, false)] 1 (d, ())
theorem spec_DiskOk_eq (d : D14) : spec_DiskOk F d = br (decide ((d.1.length : Int) ≤ 100000)) ((spec_l1In F0 d.2 0 (d.1.length : Int)).bind fun r13 => some (r13.1, ())) (some (false, ())) := by kernel_rfl
noncomputable def spec_DiskOk_con : Any := .one ⟨[(K14, true)], [(.bool, false)], 1, fun x => spec_DiskOk F0 x.1⟩
theorem spec_DiskOk_ok : AnyOk Tryz.prog TB 205 spec_DiskOk_con := ok1 (show AllOk Tryz.prog TB spec_DiskOk_C from ⟨spec_l1In_ok, trivial⟩) Tryz.func205 (by kernel_rfl) (by kernel_rfl) spec_DiskOk_H (by kernel_rfl)

end
end Go.Am.Tryz
