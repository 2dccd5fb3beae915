/- Plain laws: numbers, certificates marked, held, compared. No condition. -/
import Derived.Test.YtmmajfbohkbpjaaPcLawQc
set_option linter.unusedVariables false
set_option linter.unusedSimpArgs false
namespace Go.Am.Try
open Go.Am
/-! ### Marks -/
theorem toConf_law (c : Int × Int) : laws_toConf F0 c = some (c, ()) := laws_toConf_eq F0 c
def mInt (k : Int) (_ : Int) : Int := k
theorem markIntS_law {a : List Int} (h : a.length ≤ 1073741824) {k : Int} (h0 : 0 ≤ k) (h1 : k ≤ 1125899906842624) : laws_markIntS F0 a k = some ((k + a.length, ()), (mk mInt (fun _ => 1) k a, ())) := by
  rw [laws_markIntS_eq]
  refine mark_to mInt (fun _ => 1) (fun n i k xs => laws_markIntS_1 F0 (laws_markIntS_1_k F0) n (laws_markIntS_1_s k i xs)) a k _ (fun n i xs hi hl hx => ?_) (fun n => ?_) _ (by rw [n_eq]; omega)
  · have hi' : i < xs.length := by omega
    have hc := cnt_const (fun _ : Int => 1) (c0 := 1) (fun _ => rfl) (a.take i)
    rw [List.length_take] at hc
    generalize hq : k + (cnt (fun _ : Int => 1) (a.take i) : Int) = q
    have w1 : w64 (q + 1) = q + 1 := w64_in (by omega) (by omega)
    simp only [laws_markIntS_1_step, dec_lt hi', okI_nat hi', br_true, ck_true, Int.toNat_natCast, w1, w64_succ (show i + 1 ≤ 9223372036854775807 by omega)]
    rfl
  · rw [laws_markIntS_1_step, mk_len, dec_nlt, br_false, laws_markIntS_1_ce0, cnt_const _ (c0 := 1) (fun _ => rfl)]
    simp
theorem heldIntS_law {a : List Int} (h : a.length ≤ 1073741824) {k : Int} (h0 : 0 ≤ k) (h1 : k ≤ 1125899906842624) : laws_heldIntS F0 (mk mInt (fun _ => 1) k a) k = some (k + a.length, ()) := by
  rw [laws_heldIntS_eq]
  refine held_to mInt (fun _ => 1) (fun n i q => laws_heldIntS_1 F0 (laws_heldIntS_1_k F0) n (laws_heldIntS_1_s (mk mInt (fun _ => 1) k a) q i)) a k _ (fun n i hi hx => ?_) (fun n => ?_) _ (by rw [n_eq]; omega)
  · have hi' := get_lt hx
    have hc := cnt_const (fun _ : Int => 1) (c0 := 1) (fun _ => rfl) (a.take i)
    rw [List.length_take] at hc
    generalize hq : k + (cnt (fun _ : Int => 1) (a.take i) : Int) = q at hx ⊢
    have w1 : w64 (q + 1) = q + 1 := w64_in (by omega) (by omega)
    simp only [laws_heldIntS_1_step, dec_lt hi', okI_nat hi', br_true, ck_true, at_get hx, mInt, bne_self_eq_false, br_false, w1, w64_succ (show i + 1 ≤ 9223372036854775807 by omega)]
    rfl
  · rw [laws_heldIntS_1_step, mk_len, dec_nlt, br_false, laws_heldIntS_1_ce0, cnt_const _ (c0 := 1) (fun _ => rfl)]
    simp
theorem qcOut_len {o : Option (Int × List UInt8 × List Int)} {n : Nat} (h : ∀ q, o = some q → q.2.2.length ≤ n) : (qcOut o).1.2.2.length ≤ n := by
  unfold qcOut
  split
  · exact h _ rfl
  · simp
end Go.Am.Try
