/- Plain laws: numbers, sets, ledgers as texts: reference and program give the same. No condition. -/
import Derived.Test.YtmmajfbohkbpjaaPcGen1
import Derived.Test.YtmmajfbohkbpjaaAmLoop
set_option linter.unusedVariables false
set_option linter.unusedSimpArgs false
namespace Go.Am.Try
open Go.Am
def I64 (n : Int) : Prop := -9223372036854775808 ≤ n ∧ n ≤ 9223372036854775807
def Ints (a : List Int) : Prop := a.length ≤ 1048576 ∧ ∀ x ∈ a, I64 x
theorem toIntS_law {a : List Int} (h : a.length ≤ 1048576) : laws_toIntS F0 a = some (a, ()) := by
  rw [laws_toIntS_eq, okM_le (by omega) (by omega) (by omega), ck_true]
  refine copy_to (fun n i xs => laws_toIntS_1 F0 (laws_toIntS_1_k F0) n (laws_toIntS_1_s a i xs)) a 0 0 _ (fun n k xs hk hl => ?_) (fun n => ?_) _ (by rw [n_eq]; omega)
  · simp only [laws_toIntS_1_step, dec_lt hk, okI_nat hk, hl, br_true, ck_true, at_nat, w64_succ (show k + 1 ≤ 9223372036854775807 by omega), Int.toNat_natCast]
  · simp only [laws_toIntS_1_step, dec_nlt, br_false, laws_toIntS_1_ce0]
theorem eqIntS_law {a : List Int} (h : a.length ≤ 1048576) : laws_eqIntS F0 a a = some (true, ()) := by
  rw [laws_eqIntS_eq, bne_self_eq_false, br_false]
  refine loop_to (fun n i (_ : Unit) => laws_eqIntS_1 F0 (laws_eqIntS_1_k F0) n (laws_eqIntS_1_s a a i)) a.length (fun _ _ => True) _ (fun n k z hk _ => .inr ⟨(), ?_, trivial⟩) (fun n _ _ => ?_) _ 0 () (Nat.zero_le _) trivial (by rw [n_eq]; omega)
  · simp only [laws_eqIntS_1_step, dec_lt hk, okI_nat hk, br_true, ck_true, at_nat, w64_succ (show k + 1 ≤ 9223372036854775807 by omega), bne_self_eq_false, br_false]
  · simp only [laws_eqIntS_1_step, dec_nlt, br_false]
    first | exact laws_eqIntS_1_ce0 F0 | rfl
theorem itoa_le {n : Int} (h : I64 n) : (Lib.itoa n).length ≤ 21 := Lib.itoa_length_le n h.1 h.2
theorem itoas_le {a : List Int} (h : ∀ x ∈ a, I64 x) : ∀ x ∈ a.map Lib.itoa, x.length ≤ 21 := by
  intro x hx
  obtain ⟨n, hn, rfl⟩ := List.mem_map.1 hx
  exact itoa_le (h n hn)
theorem take_map_succ {a : List Int} {k : Nat} (h : k < a.length) : (a.take (k + 1)).map Lib.itoa = (a.take k).map Lib.itoa ++ [Lib.itoa (a.getD k 0)] := by
  rw [List.take_add_one, getD_is h 0]
  simp
/-! ### Sets -/
def whoL (s : List Int) : List UInt8 := 123 :: (Lib.join (s.map Lib.itoa) [44] ++ [125])
theorem join_ints {a : List Int} (h : Ints a) (s : UInt8) : (Lib.join (a.map Lib.itoa) [s]).length ≤ 23068672 := by
  have := join_le (itoas_le h.2) s
  rw [List.length_map] at this
  have := h.1
  omega
theorem data_map (a : List Int) : ((a.map fun n => tx (Lib.itoa n)).map fun b => b.data.toList) = a.map Lib.itoa := by
  rw [List.map_map]
  exact List.map_congr_left fun n _ => tx_list _
theorem whoL_le {s : List Int} (h : Ints s) : (whoL s).length ≤ 23068674 := by
  have := join_ints h 44
  simp only [whoL, List.length_cons, List.length_append, List.length_nil]
  omega
end Go.Am.Try
