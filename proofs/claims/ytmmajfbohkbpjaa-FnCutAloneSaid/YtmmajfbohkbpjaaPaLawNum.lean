/- Plain laws: numbers out of texts, texts cut and parted, payments as texts. No condition. -/
import Derived.Test.YtmmajfbohkbpjaaPaLawText
import Derived.Lib.MinMaxS
set_option linter.unusedVariables false
set_option linter.unusedSimpArgs false
namespace Go.Am.Try
open Go.Am
theorem tl_eq (a b : List UInt8) : ((tx a).toList == (tx b).toList) = decide (a = b) := by
  rw [Lib.toList_data, Lib.toList_data, tx_list, tx_list]
  by_cases h : a = b
  · simp [h]
  · simp [h]
theorem byte_tx (l : List UInt8) (k : Nat) : byteAt (tx l) (k : Int) = ((l.getD k 0).toNat : Int) := by
  unfold byteAt
  rw [tx_list]
  rfl
theorem byte_lt (c : UInt8) : c.toNat < 256 := UInt8.toNat_lt c
/-! ### Numbers -/
def isD (c : UInt8) : Bool := decide (48 ≤ c.toNat) && decide (c.toNat ≤ 57)
def val : List UInt8 → Nat → Nat
  | [], n => n
  | c :: l, n => val l (10 * n + (c.toNat - 48))
def numL (l : List UInt8) : Int × Bool :=
  if l.length < 1 ∨ 6 < l.length then (0, false)
  else if l.all isD then (if Lib.itoa (val l 0 : Int) = l then ((val l 0 : Int), true) else (0, false)) else (0, false)
theorem val_append (a b : List UInt8) (n : Nat) : val (a ++ b) n = val b (val a n) := by
  induction a generalizing n with
  | nil => rfl
  | cons c l ih => exact ih _
theorem val_lt {l : List UInt8} (h : ∀ c ∈ l, isD c = true) (n : Nat) : val l n < (n + 1) * 10 ^ l.length := by
  induction l generalizing n with
  | nil => simp [val]
  | cons c l ih =>
    have h1 := ih (fun d hd => h d (List.mem_cons_of_mem _ hd)) (10 * n + (c.toNat - 48))
    have h2 := h c List.mem_cons_self
    simp only [isD, Bool.and_eq_true, decide_eq_true_eq] at h2
    refine Nat.lt_of_lt_of_le h1 ?_
    rw [List.length_cons, Nat.pow_succ]
    have h3 : 10 * n + (c.toNat - 48) + 1 ≤ (n + 1) * 10 := by omega
    calc (10 * n + (c.toNat - 48) + 1) * 10 ^ l.length ≤ ((n + 1) * 10) * 10 ^ l.length := Nat.mul_le_mul_right _ h3
      _ = (n + 1) * (10 ^ l.length * 10) := by rw [Nat.mul_assoc, Nat.mul_comm 10]
theorem take_val {l : List UInt8} {k : Nat} (h : k < l.length) : val (l.take (k + 1)) 0 = 10 * val (l.take k) 0 + ((l.getD k 0).toNat - 48) := by
  rw [List.take_add_one, getD_is h 0, val_append]
  rfl
theorem val_small {l : List UInt8} (h6 : l.length ≤ 6) (h : ∀ c ∈ l, isD c = true) : val l 0 ≤ 999999 := by
  have h1 := val_lt h 0
  have h2 : 10 ^ l.length ≤ 10 ^ 6 := Nat.pow_le_pow_right (by omega) h6
  omega
theorem numL_i64 (l : List UInt8) : 0 ≤ (numL l).1 ∧ (numL l).1 ≤ 999999 := by
  unfold numL
  split
  · simp
  · split
    · rename_i h1 h2
      have := val_small (l := l) (by omega) (fun c hc => List.all_eq_true.1 h2 c hc)
      split
      · simp only
        omega
      · simp
    · simp
theorem num_core {l : List UInt8} (h1 : 1 ≤ l.length) (h6 : l.length ≤ 6) {X : Nat → Int → Int → Option (Int × (Bool × Unit))} {D : Int → Option (ByteArray × Unit)} (hD : ∀ n, I64 n → D n = some (tx (Lib.itoa n), ()))
    (hs : ∀ n k (m : Nat), k < l.length → m ≤ 999999 → X (n + 1) m k = br (decide (((l.getD k 0).toNat : Int) < 48)) (some (0, false, ())) (br (decide (((l.getD k 0).toNat : Int) > 57)) (some (0, false, ())) (X n (w64 (w64 (10 * m) + w64 ((l.getD k 0).toNat - 48))) ((k + 1 : Nat) : Int))))
    (he : ∀ n (m : Nat), X (n + 1) m l.length = (D m).bind fun r => br (!(r.1.toList == (tx l).toList)) (some (0, false, ())) (some ((m : Int), true, ()))) (n : Nat) (hn : 6 < n) : X n 0 0 = some ((numL l).1, (numL l).2, ()) := by
  refine loop_to (fun n i (m : Nat) => X n m i) l.length (fun k m => m = val (l.take k) 0 ∧ ∀ c ∈ l.take k, isD c = true) _ (fun n k m hk hI => ?_) (fun n m hI => ?_) n 0 0 (Nat.zero_le _) ⟨rfl, by simp⟩ (by omega)
  · obtain ⟨rfl, hall⟩ := hI
    have hsm := val_small (l := l.take k) (by rw [List.length_take]; omega) hall
    have hmem := getD_mem hk (0 : UInt8)
    have hb := byte_lt (l.getD k 0)
    rw [hs n k _ hk hsm]
    by_cases h48 : (l.getD k 0).toNat < 48
    · left
      rw [decide_eq_true (by omega), br_true]
      have : l.all isD = false := by
        rw [List.all_eq_false]
        exact ⟨_, hmem, fun h => by simp only [isD, Bool.and_eq_true, decide_eq_true_eq] at h; omega⟩
      unfold numL
      rw [if_neg (by omega), this]
      rfl
    · by_cases h57 : (l.getD k 0).toNat > 57
      · left
        rw [decide_eq_false (by omega), br_false, decide_eq_true (by omega), br_true]
        have : l.all isD = false := by
          rw [List.all_eq_false]
          exact ⟨_, hmem, fun h => by simp only [isD, Bool.and_eq_true, decide_eq_true_eq] at h; omega⟩
        unfold numL
        rw [if_neg (by omega), this]
        rfl
      · right
        refine ⟨val (l.take (k + 1)) 0, ?_, rfl, ?_⟩
        · rw [decide_eq_false (by omega), br_false, decide_eq_false (by omega), br_false, take_val hk, w64_in (n := 10 * _) (by omega) (by omega), w64_in (n := ((l.getD k 0).toNat : Int) - 48) (by omega) (by omega), w64_in (by omega) (by omega)]
          congr 1
          omega
        · intro c hc
          rw [List.take_add_one, getD_is hk 0] at hc
          rcases List.mem_append.1 hc with hc | hc
          · exact hall c hc
          · simp only [Option.toList_some, List.mem_singleton] at hc
            subst hc
            simp only [isD, Bool.and_eq_true, decide_eq_true_eq]
            omega
  · obtain ⟨rfl, hall⟩ := hI
    rw [List.take_length] at hall ⊢
    have hsm := val_small h6 hall
    rw [he, hD _ ⟨by omega, by omega⟩, bnd, tl_eq]
    unfold numL
    rw [if_neg (by omega), if_pos (List.all_eq_true.2 hall)]
    by_cases hit : Lib.itoa (val l 0 : Int) = l
    · rw [decide_eq_true hit, if_pos hit]
      rfl
    · rw [decide_eq_false hit, if_neg hit]
      rfl
theorem number_law (l : List UInt8) : spec_Number F0 (tx l) = some ((numL l).1, (numL l).2, ()) := by
  rw [spec_Number_eq, tx_size]
  by_cases h1 : l.length < 1
  · rw [decide_eq_true (by omega), br_true]
    unfold numL
    rw [if_pos (.inl h1)]
  · rw [decide_eq_false (by omega), br_false]
    by_cases h6 : 6 < l.length
    · rw [decide_eq_true (by omega), br_true]
      unfold numL
      rw [if_pos (.inr h6)]
    · rw [decide_eq_false (by omega), br_false]
      refine num_core (X := fun n m k => spec_Number_1 F0 (spec_Number_1_k F0) n (spec_Number_1_s (tx l) m k)) (by omega) (by omega) (fun n hn => digits_law hn) (fun n k m hk hm => ?_) (fun n m => ?_) _ (by rw [n_eq]; omega)
      · have hb := byte_lt (l.getD k 0)
        rw [spec_Number_1_step]
        simp only [tx_size, byte_tx, spec_Number_1_cr, dec_lt hk, okI_nat hk, br_true, ck_true, w64_succ (show k + 1 ≤ 9223372036854775807 by omega)]
        congr 2
        congr 2
        rw [w64_in (n := 10 * (m : Int)) (by omega) (by omega), w64_in (n := ((l.getD k 0).toNat : Int)) (by omega) (by omega), w64_in (n := 10 * (m : Int) + ((l.getD k 0).toNat : Int)) (by omega) (by omega), w64_in (n := ((l.getD k 0).toNat : Int) - 48) (by omega) (by omega)]
        congr 1
        omega
      · rw [spec_Number_1_step]
        simp only [tx_size, dec_nlt, br_false, spec_Number_1_ce0]
end Go.Am.Try
