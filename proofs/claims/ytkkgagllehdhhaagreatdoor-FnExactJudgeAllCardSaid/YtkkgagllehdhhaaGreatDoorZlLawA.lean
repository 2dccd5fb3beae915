/- Plain laws. No condition. -/
import Derived.Test.YtkkgagllehdhhaaGreatDoorZlGen5
import Derived.Test.YtkkgagllehdhhaaGreatDoorAmLoop
import Derived.Lib.MinMaxS
import Derived.Lib.CutLaws
import Derived.Lib.PathFns
import Derived.Lib.SplitLaws
import Derived.Test.YtkkgagllehdhhaaGreatDoorAmMark
set_option linter.unusedVariables false
set_option linter.unusedSimpArgs false
namespace Go.Am.Tryz
open Go.Am
def I64 (n : Int) : Prop := -9223372036854775808 ≤ n ∧ n ≤ 9223372036854775807
theorem digits_law {n : Int} (h : I64 n) : spec_Digits F0 n = some (tx (Lib.itoa n), ()) := by
  rw [spec_Digits_eq]
  by_cases hz : n = 0
  · subst hz
    simp only [beq_self_eq_true, br_true]
    congr 2
    simp [tx, Lib.itoa, Lib.decDigits]
  · rw [show (n == 0) = false from beq_eq_false_iff_ne.2 hz, br_false]
    have hD : (Lib.decDigits n.natAbs).length ≤ 20 := by rw [Lib.decDigits_length]; exact Lib.nDigits_le20 _ (by obtain ⟨h1, h2⟩ := h; omega)
    refine loop_mu (fun m (x : Int × List UInt8) => spec_Digits_1 F0 (spec_Digits_1_k F0) m (spec_Digits_1_s x.1 (decide (n < 0)) (tx x.2))) _ (fun x => I64 x.1 ∧ digs x.1.natAbs ++ x.2 = Lib.decDigits n.natAbs) (fun x => x.1.natAbs) (fun m x hx => ?_) _ (n, []) ⟨h, ?_⟩ ?_
    · obtain ⟨x, l⟩ := x
      obtain ⟨⟨h1, h2⟩, h3⟩ := hx
      simp only at h1 h2 h3 ⊢
      have hl : l.length ≤ 20 := by
        have := congrArg List.length h3
        rw [List.length_append] at this
        omega
      by_cases hx0 : x = 0
      · left
        subst hx0
        rw [spec_Digits_1_step]
        simp only [bne_self_eq_false, br_false, spec_Digits_1_ce0]
        rw [show digs (Int.natAbs 0) = [] from rfl, List.nil_append] at h3
        subst h3
        by_cases hn : n < 0
        · rw [decide_eq_true hn, br_true, okC_le (by rw [tx_size]; have : (ByteArray.mk #[45]).size = 1 := rfl; omega), ck_true, show ByteArray.mk #[45] = tx [45] from rfl, tx_append]
          unfold Lib.itoa
          rw [if_pos hn]
          rfl
        · rw [decide_eq_false hn, br_false]
          unfold Lib.itoa
          rw [if_neg hn, show n.natAbs = n.toNat by omega]
      · right
        have hmod : x.natAbs % 10 < 10 := Nat.mod_lt _ (by omega)
        have hdiv : (Int.tdiv x 10).natAbs = x.natAbs / 10 := by rw [Int.natAbs_tdiv]; rfl
        have hI : I64 (Int.tdiv x 10) := ⟨by omega, by omega⟩
        have hr := digs_rec (u := x.natAbs) (by omega)
        have hw : w64 (Int.tdiv x 10) = Int.tdiv x 10 := w64_in hI.1 hI.2
        refine ⟨(Int.tdiv x 10, UInt8.ofNat (48 + x.natAbs % 10) :: l), ?_, ⟨hI, ?_⟩, ?_⟩
        · rw [spec_Digits_1_step, show (x != 0) = true from bne_iff_ne.2 hx0, br_true]
          have key : tx [UInt8.ofNat (48 + x.natAbs % 10)] ++ tx l = tx (UInt8.ofNat (48 + x.natAbs % 10) :: l) := by rw [tx_append]; rfl
          have hsz : okC F0 (tx [UInt8.ofNat (48 + x.natAbs % 10)]).size (tx l).size = true := okC_le (by rw [tx_size, tx_size]; simp only [List.length_cons, List.length_nil]; omega)
          by_cases hneg : x < 0
          · have hm : Int.tmod x 10 = -((x.natAbs % 10 : Nat) : Int) := by
              obtain ⟨u, rfl⟩ : ∃ u : Nat, x = -(u : Int) := ⟨x.natAbs, by omega⟩
              rw [Int.neg_tmod, Int.natAbs_neg, Int.natAbs_natCast]
              rfl
            by_cases hz : x.natAbs % 10 = 0
            · rw [hm, hz, show decide (-((0 : Nat) : Int) < 0) = false from rfl, br_false, show (48 + -((0 : Nat) : Int)) = 48 + ((0 : Nat) : Int) from rfl, dig (by omega)]
              rw [hz] at hsz key
              rw [hsz, ck_true, key, hw]
            · rw [hm, decide_eq_true (by omega), br_true, w64_in (n := 0 - -((x.natAbs % 10 : Nat) : Int)) (by omega) (by omega), show (0 : Int) - -((x.natAbs % 10 : Nat) : Int) = ((x.natAbs % 10 : Nat) : Int) by omega, dig hmod, hsz, ck_true, key, hw]
          · have hm : Int.tmod x 10 = ((x.natAbs % 10 : Nat) : Int) := by
              obtain ⟨u, rfl⟩ : ∃ u : Nat, x = (u : Int) := ⟨x.natAbs, by omega⟩
              rfl
            rw [hm, decide_eq_false (by omega), br_false, dig hmod, hsz, ck_true, key, hw]
        · simp only
          rw [hdiv, ← h3, hr]
          simp
        · simp only
          rw [hdiv]
          omega
    · simp only [List.append_nil]
      unfold digs
      rw [if_neg (by omega)]
    · simp only
      rw [n_eq]
      obtain ⟨h1, h2⟩ := h
      omega
theorem itoa_law {n : Int} (h : I64 n) : impl_Digits F0 n = some (tx (Lib.itoa n), ()) := by
  rw [impl_Digits_eq]
  unfold strconv_Itoa
  rw [decide_eq_true h.1, decide_eq_true h.2]
  rfl
theorem itoa_le {n : Int} (h : I64 n) : (Lib.itoa n).length ≤ 21 := Lib.itoa_length_le n h.1 h.2
/-! ### Sets -/
end Go.Am.Tryz
set_option linter.unusedVariables false
set_option linter.unusedSimpArgs false
namespace Go.Am.Tryz
open Go.Am
theorem tl_eq (a b : List UInt8) : ((tx a).toList == (tx b).toList) = decide (a = b) := by
  rw [Lib.toList_data, Lib.toList_data, tx_list, tx_list]
  by_cases h : a = b
  · simp [h]
  · simp [h]
theorem byte_tx (l : List UInt8) (k : Nat) : byteAt (tx l) (k : Int) = ((l.getD k 0).toNat : Int) := by
  unfold byteAt
  rw [tx_list]
  rfl
theorem byte_lt (c : UInt8) : c.toNat < 256 := UInt8.toNat_lt c
/-! ### Numbers -/
def isD (c : UInt8) : Bool := decide (48 ≤ c.toNat) && decide (c.toNat ≤ 57)
def val : List UInt8 → Nat → Nat
  | [], n => n
  | c :: l, n => val l (10 * n + (c.toNat - 48))
def numL (l : List UInt8) : Int × Bool :=
  if l.length < 1 ∨ 6 < l.length then (0, false)
  else if l.all isD then (if Lib.itoa (val l 0 : Int) = l then ((val l 0 : Int), true) else (0, false)) else (0, false)
theorem val_append (a b : List UInt8) (n : Nat) : val (a ++ b) n = val b (val a n) := by
  induction a generalizing n with
  | nil => rfl
  | cons c l ih => exact ih _
theorem val_lt {l : List UInt8} (h : ∀ c ∈ l, isD c = true) (n : Nat) : val l n < (n + 1) * 10 ^ l.length := by
  induction l generalizing n with
  | nil => simp [val]
  | cons c l ih =>
    have h1 := ih (fun d hd => h d (List.mem_cons_of_mem _ hd)) (10 * n + (c.toNat - 48))
    have h2 := h c List.mem_cons_self
    simp only [isD, Bool.and_eq_true, decide_eq_true_eq] at h2
    refine Nat.lt_of_lt_of_le h1 ?_
    rw [List.length_cons, Nat.pow_succ]
    have h3 : 10 * n + (c.toNat - 48) + 1 ≤ (n + 1) * 10 := by omega
    calc (10 * n + (c.toNat - 48) + 1) * 10 ^ l.length ≤ ((n + 1) * 10) * 10 ^ l.length := Nat.mul_le_mul_right _ h3
      _ = (n + 1) * (10 ^ l.length * 10) := by rw [Nat.mul_assoc, Nat.mul_comm 10]
theorem take_val {l : List UInt8} {k : Nat} (h : k < l.length) : val (l.take (k + 1)) 0 = 10 * val (l.take k) 0 + ((l.getD k 0).toNat - 48) := by
  rw [List.take_add_one, getD_is h 0, val_append]
  rfl
theorem val_small {l : List UInt8} (h6 : l.length ≤ 6) (h : ∀ c ∈ l, isD c = true) : val l 0 ≤ 999999 := by
  have h1 := val_lt h 0
  have h2 : 10 ^ l.length ≤ 10 ^ 6 := Nat.pow_le_pow_right (by omega) h6
  omega
theorem numL_i64 (l : List UInt8) : 0 ≤ (numL l).1 ∧ (numL l).1 ≤ 999999 := by
  unfold numL
  split
  · simp
  · split
    · rename_i h1 h2
      have := val_small (l := l) (by omega) (fun c hc => List.all_eq_true.1 h2 c hc)
      split
      · simp only
        omega
      · simp
    · simp
theorem num_core {l : List UInt8} (h1 : 1 ≤ l.length) (h6 : l.length ≤ 6) {X : Nat → Int → Int → Option (Int × (Bool × Unit))} {D : Int → Option (ByteArray × Unit)} (hD : ∀ n, I64 n → D n = some (tx (Lib.itoa n), ()))
    (hs : ∀ n k (m : Nat), k < l.length → m ≤ 999999 → X (n + 1) m k = br (decide (((l.getD k 0).toNat : Int) < 48)) (some (0, false, ())) (br (decide (((l.getD k 0).toNat : Int) > 57)) (some (0, false, ())) (X n (w64 (w64 (10 * m) + w64 ((l.getD k 0).toNat - 48))) ((k + 1 : Nat) : Int))))
    (he : ∀ n (m : Nat), X (n + 1) m l.length = (D m).bind fun r => br (!(r.1.toList == (tx l).toList)) (some (0, false, ())) (some ((m : Int), true, ()))) (n : Nat) (hn : 6 < n) : X n 0 0 = some ((numL l).1, (numL l).2, ()) := by
  refine loop_to (fun n i (m : Nat) => X n m i) l.length (fun k m => m = val (l.take k) 0 ∧ ∀ c ∈ l.take k, isD c = true) _ (fun n k m hk hI => ?_) (fun n m hI => ?_) n 0 0 (Nat.zero_le _) ⟨rfl, by simp⟩ (by omega)
  · obtain ⟨rfl, hall⟩ := hI
    have hsm := val_small (l := l.take k) (by rw [List.length_take]; omega) hall
    have hmem := getD_mem hk (0 : UInt8)
    have hb := byte_lt (l.getD k 0)
    rw [hs n k _ hk hsm]
    by_cases h48 : (l.getD k 0).toNat < 48
    · left
      rw [decide_eq_true (by omega), br_true]
      have : l.all isD = false := by
        rw [List.all_eq_false]
        exact ⟨_, hmem, fun h => by simp only [isD, Bool.and_eq_true, decide_eq_true_eq] at h; omega⟩
      unfold numL
      rw [if_neg (by omega), this]
      rfl
    · by_cases h57 : (l.getD k 0).toNat > 57
      · left
        rw [decide_eq_false (by omega), br_false, decide_eq_true (by omega), br_true]
        have : l.all isD = false := by
          rw [List.all_eq_false]
          exact ⟨_, hmem, fun h => by simp only [isD, Bool.and_eq_true, decide_eq_true_eq] at h; omega⟩
        unfold numL
        rw [if_neg (by omega), this]
        rfl
      · right
        refine ⟨val (l.take (k + 1)) 0, ?_, rfl, ?_⟩
        · rw [decide_eq_false (by omega), br_false, decide_eq_false (by omega), br_false, take_val hk, w64_in (n := 10 * _) (by omega) (by omega), w64_in (n := ((l.getD k 0).toNat : Int) - 48) (by omega) (by omega), w64_in (by omega) (by omega)]
          congr 1
          omega
        · intro c hc
          rw [List.take_add_one, getD_is hk 0] at hc
          rcases List.mem_append.1 hc with hc | hc
          · exact hall c hc
          · simp only [Option.toList_some, List.mem_singleton] at hc
            subst hc
            simp only [isD, Bool.and_eq_true, decide_eq_true_eq]
            omega
  · obtain ⟨rfl, hall⟩ := hI
    rw [List.take_length] at hall ⊢
    have hsm := val_small h6 hall
    rw [he, hD _ ⟨by omega, by omega⟩, bnd, tl_eq]
    unfold numL
    rw [if_neg (by omega), if_pos (List.all_eq_true.2 hall)]
    by_cases hit : Lib.itoa (val l 0 : Int) = l
    · rw [decide_eq_true hit, if_pos hit]
      rfl
    · rw [decide_eq_false hit, if_neg hit]
      rfl
theorem number_law (l : List UInt8) : spec_Number F0 (tx l) = some ((numL l).1, (numL l).2, ()) := by
  rw [spec_Number_eq, tx_size]
  by_cases h1 : l.length < 1
  · rw [decide_eq_true (by omega), br_true]
    unfold numL
    rw [if_pos (.inl h1)]
  · rw [decide_eq_false (by omega), br_false]
    by_cases h6 : 6 < l.length
    · rw [decide_eq_true (by omega), br_true]
      unfold numL
      rw [if_pos (.inr h6)]
    · rw [decide_eq_false (by omega), br_false]
      refine num_core (X := fun n m k => spec_Number_1 F0 (spec_Number_1_k F0) n (spec_Number_1_s (tx l) m k)) (by omega) (by omega) (fun n hn => digits_law hn) (fun n k m hk hm => ?_) (fun n m => ?_) _ (by rw [n_eq]; omega)
      · have hb := byte_lt (l.getD k 0)
        rw [spec_Number_1_step]
        simp only [tx_size, byte_tx, spec_Number_1_cr, dec_lt hk, okI_nat hk, br_true, ck_true, w64_succ (show k + 1 ≤ 9223372036854775807 by omega)]
        congr 2
        congr 2
        rw [w64_in (n := 10 * (m : Int)) (by omega) (by omega), w64_in (n := ((l.getD k 0).toNat : Int)) (by omega) (by omega), w64_in (n := 10 * (m : Int) + ((l.getD k 0).toNat : Int)) (by omega) (by omega), w64_in (n := ((l.getD k 0).toNat : Int) - 48) (by omega) (by omega)]
        congr 1
        omega
      · rw [spec_Number_1_step]
        simp only [tx_size, dec_nlt, br_false, spec_Number_1_ce0]
theorem number_law2 (l : List UInt8) : impl_Number F0 (tx l) = some ((numL l).1, (numL l).2, ()) := by
  rw [impl_Number_eq, tx_size]
  by_cases h1 : l.length < 1
  · rw [decide_eq_true (by omega), br_true]
    unfold numL
    rw [if_pos (.inl h1)]
  · rw [decide_eq_false (by omega), br_false]
    by_cases h6 : 6 < l.length
    · rw [decide_eq_true (by omega), br_true]
      unfold numL
      rw [if_pos (.inr h6)]
    · rw [decide_eq_false (by omega), br_false]
      refine num_core (X := fun n m k => impl_Number_1 F0 (impl_Number_1_k F0) n (impl_Number_1_s (tx l) m k)) (by omega) (by omega) (fun n hn => itoa_law hn) (fun n k m hk hm => ?_) (fun n m => ?_) _ (by rw [n_eq]; omega)
      · have hb := byte_lt (l.getD k 0)
        rw [impl_Number_1_step]
        simp only [tx_size, byte_tx, impl_Number_1_cr, dec_lt hk, okI_nat hk, br_true, ck_true, w64_succ (show k + 1 ≤ 9223372036854775807 by omega)]
        by_cases h48 : (l.getD k 0).toNat < 48
        · rw [decide_eq_true (by omega), br_true, br_true]
        · rw [IntWalk.u8_in _ (by omega)]
      · rw [impl_Number_1_step]
        simp only [tx_size, dec_nlt, br_false, impl_Number_1_ce0]
end Go.Am.Tryz
set_option linter.unusedVariables false
set_option linter.unusedSimpArgs false
namespace Go.Am.Tryz
open Go.Am
theorem extract_to (l : List UInt8) (k : Nat) : (tx l).extract 0 k = tx (l.take k) := by
  rw [tx_of ((tx l).extract 0 k), Lib.Pa.extract_upto_list, tx_list]
theorem extract_from (l : List UInt8) (k : Nat) : (tx l).extract k (tx l).size = tx (l.drop k) := by
  rw [tx_of ((tx l).extract k (tx l).size), Lib.extract_to_end, tx_list]
theorem tw_at {a b : List UInt8} {c : UInt8} (h : c ∉ a) : (a ++ c :: b).takeWhile (· != c) = a ∧ (a ++ c :: b).dropWhile (· != c) = c :: b := by
  induction a with
  | nil => simp
  | cons x a ih =>
    have hx : (x != c) = true := by simp; rintro rfl; simp at h
    have := ih fun h' => h (List.mem_cons_of_mem _ h')
    rw [List.cons_append, List.takeWhile_cons, List.dropWhile_cons, hx]
    exact ⟨by simp [this.1], by simp [this.2]⟩
theorem tw_no {a : List UInt8} {c : UInt8} (h : c ∉ a) : a.takeWhile (· != c) = a ∧ a.dropWhile (· != c) = [] := by
  induction a with
  | nil => simp
  | cons x a ih =>
    have hx : (x != c) = true := by simp; rintro rfl; simp at h
    have := ih fun h' => h (List.mem_cons_of_mem _ h')
    rw [List.takeWhile_cons, List.dropWhile_cons, hx]
    exact ⟨by simp [this.1], by simp [this.2]⟩
theorem split_at {l : List UInt8} {k : Nat} (h : k < l.length) : l = l.take k ++ l.getD k 0 :: l.drop (k + 1) := by
  have : l.getD k 0 = l[k] := by simp [List.getD, h]
  rw [this, List.getElem_cons_drop, List.take_append_drop]
theorem l2Cut_law {l : List UInt8} (c : UInt8) (hl : l.length ≤ 4294967296) :
    spec_l2Cut F0 (tx l) (c.toNat : Int) = some (if c ∈ l then (tx (l.takeWhile (· != c)), tx ((l.dropWhile (· != c)).drop 1), true, ()) else (tx [], tx [], false, ())) := by
  rw [spec_l2Cut_eq]
  refine loop_to (fun n i (_ : Unit) => spec_l2Cut_1 F0 (spec_l2Cut_1_k F0) n (spec_l2Cut_1_s (tx l) (c.toNat : Int) i)) l.length (fun k _ => c ∉ l.take k) _ (fun n k _ hk hI => ?_) (fun n _ hI => ?_) F0.n 0 () (Nat.zero_le _) (by simp) (by rw [n_eq]; omega)
  · rw [spec_l2Cut_1_step, tx_size, dec_lt hk, br_true, okI_nat hk, ck_true, byte_tx]
    by_cases hc : l.getD k 0 = c
    · left
      have hs := split_at hk
      rw [hc] at hs
      have ht := tw_at (b := l.drop (k + 1)) hI
      have h1 : ((((l.getD k 0).toNat : Int)) == (c.toNat : Int)) = true := by rw [hc]; simp
      have h2 : okS 0 (k : Int) (l.length : Int) = true := by simp [okS]; omega
      have h3 : okS ((k + 1 : Nat) : Int) (l.length : Int) (l.length : Int) = true := by simp only [okS, Bool.and_eq_true, decide_eq_true_eq]; omega
      rw [h1, br_true, h2, ck_true, w64_succ (by omega), h3, ck_true, spec_l2Cut_1_cr]
      simp only [Int.toNat_natCast, show (0 : Int).toNat = 0 from rfl]
      have hm : c ∈ l := by rw [hs]; simp
      rw [if_pos hm, extract_to, show ((tx l).extract (k + 1) l.length) = tx (l.drop (k + 1)) by rw [← extract_from, tx_size]]
      have e1 : l.takeWhile (· != c) = l.take k := by
        have := ht.1
        rwa [← hs] at this
      have e2 : (l.dropWhile (· != c)).drop 1 = l.drop (k + 1) := by
        have := ht.2
        rw [← hs] at this
        rw [this]
        rfl
      rw [e1, e2]
    · right
      have h1 : ((((l.getD k 0).toNat : Int)) == (c.toNat : Int)) = false := by
        refine beq_eq_false_iff_ne.2 fun h => hc (UInt8.toNat_inj.1 (by omega))
      refine ⟨(), by rw [h1, br_false, w64_succ (by omega)], ?_⟩
      rw [List.take_add_one, getD_is hk 0]
      simp only [Option.toList_some, List.mem_append, List.mem_singleton]
      rintro (h | h)
      · exact hI h
      · exact hc h.symm
  · rw [List.take_length] at hI
    rw [spec_l2Cut_1_step, tx_size, dec_nlt, br_false, spec_l2Cut_1_ce0, if_neg hI]
    rfl
theorem indexByte_at {a b : List UInt8} {c : UInt8} (h : c ∉ a) : Lib.indexByte (a ++ c :: b) c = a.length := by
  induction a with
  | nil => simp [Lib.indexByte]
  | cons x a ih =>
    have hx : (x == c) = false := by simp; rintro rfl; simp at h
    have := ih fun h' => h (List.mem_cons_of_mem _ h')
    rw [List.cons_append]
    unfold Lib.indexByte
    rw [hx, this]
    simp
theorem indexByte_no {a : List UInt8} {c : UInt8} (h : c ∉ a) : Lib.indexByte a c = -1 := by
  induction a with
  | nil => rfl
  | cons x a ih =>
    have hx : (x == c) = false := by simp; rintro rfl; simp at h
    have := ih fun h' => h (List.mem_cons_of_mem _ h')
    unfold Lib.indexByte
    rw [hx, this]
    rfl
theorem exists_first {l : List UInt8} {c : UInt8} (h : c ∈ l) : ∃ a b, l = a ++ c :: b ∧ c ∉ a := by
  induction l with
  | nil => cases h
  | cons x l ih =>
    by_cases hx : x = c
    · exact ⟨[], l, by rw [hx]; rfl, by simp⟩
    · rcases List.mem_cons.1 h with h' | h'
      · exact absurd h'.symm hx
      · obtain ⟨a, b, h1, h2⟩ := ih h'
        exact ⟨x :: a, b, by rw [h1]; rfl, fun h3 => by
          rcases List.mem_cons.1 h3 with h4 | h4
          · exact hx h4.symm
          · exact h2 h4⟩
theorem cut_law (l : List UInt8) (c : UInt8) : Lib.cut l [c] = (l.takeWhile (· != c), (l.dropWhile (· != c)).drop 1, decide (c ∈ l)) := by
  unfold Lib.cut
  rw [Lib.index_one]
  by_cases h : c ∈ l
  · obtain ⟨a, b, rfl, h2⟩ := exists_first h
    rw [indexByte_at h2, if_pos (by omega), (tw_at h2).1, (tw_at h2).2]
    simp [List.take_append, List.drop_append]
  · rw [indexByte_no h, if_neg (by omega), (tw_no h).1, (tw_no h).2]
    simp [h]
theorem strings_Cut_law {l : List UInt8} (c : UInt8) (hl : l.length < 4294967281) : strings_Cut F0 (tx l) (tx [c]) = some (tx (l.takeWhile (· != c)), tx ((l.dropWhile (· != c)).drop 1), decide (c ∈ l), ()) := by
  have h : Nat.blt (tx l).size 4294967281 = true := by rw [tx_size]; simpa using hl
  unfold strings_Cut
  rw [h, ck_true, tx_list, tx_list, cut_law]
  rfl
end Go.Am.Tryz
set_option linter.unusedVariables false
set_option linter.unusedSimpArgs false
namespace Go.Am.Tryz
open Go.Am
abbrev TxD := Int × (Int × (Int × Int))
theorem l1In_law (x lo hi : Int) : spec_l1In F0 x lo hi = some (decide (lo ≤ x) && decide (x ≤ hi), ()) := by
  rw [spec_l1In_eq]
  by_cases h : lo ≤ x
  · rw [decide_eq_true (show x ≥ lo from h), br_true, Bool.true_and]
  · rw [decide_eq_false (show ¬ x ≥ lo from h), br_false, Bool.false_and]
theorem within_law (x lo hi : Int) : impl_within F0 x lo hi = some (decide (lo ≤ x) && decide (x ≤ hi), ()) := by
  rw [impl_within_eq]
  by_cases h : lo ≤ x
  · rw [decide_eq_true (show x ≥ lo from h), br_true, Bool.true_and]
  · rw [decide_eq_false (show ¬ x ≥ lo from h), br_false, Bool.false_and]
def inB (x lo hi : Int) : Bool := decide (lo ≤ x) && decide (x ≤ hi)
def txOk (x : TxD) : Bool := inB x.1 0 3 && inB x.2.1 0 3 && inB x.2.2.1 0 1000 && inB x.2.2.2 0 99
theorem br_and (a b : Bool) : br a (some (b, ())) (some (false, ())) = some (a && b, ()) := by cases a <;> rfl
theorem TxOk_law (x : TxD) : spec_TxOk F0 x = some (txOk x, ()) := by
  rw [spec_TxOk_eq]
  simp only [l1In_law, bnd, br_and]
  simp only [txOk, inB, Bool.and_assoc]
theorem TxOk_law2 (x : TxD) : impl_TxOk F0 x = some (txOk x, ()) := by
  rw [impl_TxOk_eq]
  simp only [within_law, bnd, br_and]
  simp only [txOk, inB, Bool.and_assoc]
theorem txOk_spec {x : TxD} (h : txOk x = true) : (0 ≤ x.1 ∧ x.1 ≤ 3) ∧ (0 ≤ x.2.1 ∧ x.2.1 ≤ 3) ∧ (0 ≤ x.2.2.1 ∧ x.2.2.1 ≤ 1000) ∧ (0 ≤ x.2.2.2 ∧ x.2.2.2 ≤ 99) := by
  simp only [txOk, inB, Bool.and_eq_true, decide_eq_true_eq] at h
  exact ⟨h.1.1.1, h.1.1.2, h.1.2, h.2⟩
def txL (x : TxD) : List UInt8 := Lib.itoa x.1 ++ 62 :: (Lib.itoa x.2.1 ++ 58 :: (Lib.itoa x.2.2.1 ++ 35 :: Lib.itoa x.2.2.2))
theorem txL_le {x : TxD} (h : txOk x = true) : (txL x).length ≤ 90 := by
  obtain ⟨h1, h2, h3, h4⟩ := txOk_spec h
  have e1 := itoa_le (n := x.1) ⟨by omega, by omega⟩
  have e2 := itoa_le (n := x.2.1) ⟨by omega, by omega⟩
  have e3 := itoa_le (n := x.2.2.1) ⟨by omega, by omega⟩
  have e4 := itoa_le (n := x.2.2.2) ⟨by omega, by omega⟩
  simp only [txL, List.length_append, List.length_cons]
  omega
def txText (x : TxD) : List UInt8 := if txOk x = true then txL x else []
theorem TxText_law (x : TxD) : spec_TxText F0 x = some (tx (txText x), ()) := by
  rw [spec_TxText_eq, TxOk_law, bnd]
  unfold txText
  cases h : txOk x with
  | false => rfl
  | true =>
    obtain ⟨h1, h2, h3, h4⟩ := txOk_spec h
    have d1 := digits_law (n := x.1) ⟨by omega, by omega⟩
    have d2 := digits_law (n := x.2.1) ⟨by omega, by omega⟩
    have d3 := digits_law (n := x.2.2.1) ⟨by omega, by omega⟩
    have d4 := digits_law (n := x.2.2.2) ⟨by omega, by omega⟩
    have e := txL_le h
    simp only [txL, List.length_append, List.length_cons] at e
    simp only [Bool.not_true, br_false, d1, d2, d3, d4, bnd, show ByteArray.mk #[62] = tx [62] from rfl, show ByteArray.mk #[58] = tx [58] from rfl, show ByteArray.mk #[35] = tx [35] from rfl, tx_append, tx_size]
    rw [okC_le (by simp only [List.length_append, List.length_cons, List.length_nil]; omega), ck_true, okC_le (by simp only [List.length_append, List.length_cons, List.length_nil]; omega), ck_true, okC_le (by simp only [List.length_append, List.length_cons, List.length_nil]; omega), ck_true, okC_le (by simp only [List.length_append, List.length_cons, List.length_nil]; omega), ck_true, okC_le (by simp only [List.length_append, List.length_cons, List.length_nil]; omega), ck_true, okC_le (by simp only [List.length_append, List.length_cons, List.length_nil]; omega), ck_true]
    simp [txL]
theorem TxText_law2 (x : TxD) : impl_TxText F0 x = some (tx (txText x), ()) := by
  rw [impl_TxText_eq, TxOk_law2, bnd]
  unfold txText
  cases h : txOk x with
  | false => rfl
  | true =>
    obtain ⟨h1, h2, h3, h4⟩ := txOk_spec h
    have d1 := itoa_law (n := x.1) ⟨by omega, by omega⟩
    have d2 := itoa_law (n := x.2.1) ⟨by omega, by omega⟩
    have d3 := itoa_law (n := x.2.2.1) ⟨by omega, by omega⟩
    have d4 := itoa_law (n := x.2.2.2) ⟨by omega, by omega⟩
    have e := txL_le h
    simp only [txL, List.length_append, List.length_cons] at e
    simp only [Bool.not_true, br_false, d1, d2, d3, d4, bnd, show ByteArray.mk #[62] = tx [62] from rfl, show ByteArray.mk #[58] = tx [58] from rfl, show ByteArray.mk #[35] = tx [35] from rfl, tx_append, tx_size]
    rw [okC_le (by simp only [List.length_append, List.length_cons, List.length_nil]; omega), ck_true, okC_le (by simp only [List.length_append, List.length_cons, List.length_nil]; omega), ck_true, okC_le (by simp only [List.length_append, List.length_cons, List.length_nil]; omega), ck_true, okC_le (by simp only [List.length_append, List.length_cons, List.length_nil]; omega), ck_true, okC_le (by simp only [List.length_append, List.length_cons, List.length_nil]; omega), ck_true, okC_le (by simp only [List.length_append, List.length_cons, List.length_nil]; omega), ck_true]
    simp [txL]
/-! ### Numerals read back -/
theorem dec_all (u : Nat) : ∀ c ∈ Lib.decDigits u, isD c = true := by
  induction u using Nat.strongRecOn with
  | ind u ih =>
    intro c hc
    rw [Lib.decDigits] at hc
    have key : ∀ v : Nat, v < 10 → isD (UInt8.ofNat (48 + v)) = true := fun v hv => by
      have : (UInt8.ofNat (48 + v)).toNat = 48 + v := by rw [UInt8.toNat_ofNat']; omega
      simp only [isD, this, Bool.and_eq_true, decide_eq_true_eq]
      omega
    by_cases h10 : u < 10
    · rw [dif_pos h10, List.mem_singleton] at hc
      rw [hc]
      exact key u h10
    · rw [dif_neg h10] at hc
      rcases List.mem_append.1 hc with hc | hc
      · exact ih (u / 10) (by omega) c hc
      · rw [List.mem_singleton] at hc
        rw [hc]
        exact key _ (Nat.mod_lt _ (by omega))
theorem dec_val (u : Nat) : val (Lib.decDigits u) 0 = u := by
  induction u using Nat.strongRecOn with
  | ind u ih =>
    have key : ∀ v : Nat, v < 10 → (UInt8.ofNat (48 + v)).toNat = 48 + v := fun v hv => by rw [UInt8.toNat_ofNat']; omega
    rw [Lib.decDigits]
    by_cases h10 : u < 10
    · rw [dif_pos h10]
      simp only [val, key u h10]
      omega
    · rw [dif_neg h10, val_append, ih (u / 10) (by omega)]
      simp only [val, key (u % 10) (Nat.mod_lt _ (by omega))]
      omega
theorem dec_len {k : Nat} : ∀ {u : Nat}, u < 10 ^ (k + 1) → 1 ≤ (Lib.decDigits u).length ∧ (Lib.decDigits u).length ≤ k + 1 := by
  induction k with
  | zero =>
    intro u hu
    rw [Lib.decDigits, dif_pos (by omega)]
    simp
  | succ k ih =>
    intro u hu
    rw [Lib.decDigits]
    by_cases h10 : u < 10
    · rw [dif_pos h10]
      simp
    · rw [dif_neg h10]
      have := ih (u := u / 10) (by rw [Nat.pow_succ] at hu; omega)
      rw [List.length_append, List.length_singleton]
      omega
theorem itoa_nat (u : Nat) : Lib.itoa (u : Int) = Lib.decDigits u := Lib.itoa_nonneg u
theorem numL_itoa {n : Int} (h0 : 0 ≤ n) (h1 : n ≤ 999999) : numL (Lib.itoa n) = (n, true) := by
  obtain ⟨u, rfl⟩ : ∃ u : Nat, n = u := ⟨n.toNat, by omega⟩
  rw [itoa_nat]
  have hl := dec_len (k := 5) (u := u) (by omega)
  unfold numL
  rw [if_neg (by omega), if_pos (List.all_eq_true.2 (dec_all u)), dec_val, itoa_nat, if_pos rfl]
theorem no_sep {n : Int} (h0 : 0 ≤ n) {c : UInt8} (hc : isD c = false) : c ∉ Lib.itoa n := by
  obtain ⟨u, rfl⟩ : ∃ u : Nat, n = u := ⟨n.toNat, by omega⟩
  rw [itoa_nat]
  intro h
  rw [dec_all u c h] at hc
  cases hc
/-! ### Out of a text -/
def cutS (l : List UInt8) (c : UInt8) : List UInt8 × List UInt8 := if c ∈ l then (l.takeWhile (· != c), (l.dropWhile (· != c)).drop 1) else ([], [])
def cutI (l : List UInt8) (c : UInt8) : List UInt8 × List UInt8 := (l.takeWhile (· != c), (l.dropWhile (· != c)).drop 1)
def parS (l : List UInt8) : TxD := ((numL (cutS l 62).1).1, ((numL (cutS (cutS l 62).2 58).1).1, ((numL (cutS (cutS (cutS l 62).2 58).2 35).1).1, (numL (cutS (cutS (cutS l 62).2 58).2 35).2).1)))
def parI (l : List UInt8) : TxD := ((numL (cutI l 62).1).1, ((numL (cutI (cutI l 62).2 58).1).1, ((numL (cutI (cutI (cutI l 62).2 58).2 35).1).1, (numL (cutI (cutI (cutI l 62).2 58).2 35).2).1)))
theorem cutS_at {a b : List UInt8} {c : UInt8} (h : c ∉ a) : cutS (a ++ c :: b) c = (a, b) := by
  unfold cutS
  rw [if_pos (by simp), (tw_at h).1, (tw_at h).2]
  rfl
theorem cutI_at {a b : List UInt8} {c : UInt8} (h : c ∉ a) : cutI (a ++ c :: b) c = (a, b) := by
  unfold cutI
  rw [(tw_at h).1, (tw_at h).2]
  rfl
theorem parS_txL {x : TxD} (h : txOk x = true) : parS (txL x) = x := by
  obtain ⟨h1, h2, h3, h4⟩ := txOk_spec h
  unfold parS txL
  rw [cutS_at (no_sep h1.1 (by decide)), cutS_at (no_sep h2.1 (by decide)), cutS_at (no_sep h3.1 (by decide))]
  simp only [numL_itoa h1.1 (by omega), numL_itoa h2.1 (by omega), numL_itoa h3.1 (by omega), numL_itoa h4.1 (by omega)]
theorem parI_txL {x : TxD} (h : txOk x = true) : parI (txL x) = x := by
  obtain ⟨h1, h2, h3, h4⟩ := txOk_spec h
  unfold parI txL
  rw [cutI_at (no_sep h1.1 (by decide)), cutI_at (no_sep h2.1 (by decide)), cutI_at (no_sep h3.1 (by decide))]
  simp only [numL_itoa h1.1 (by omega), numL_itoa h2.1 (by omega), numL_itoa h3.1 (by omega), numL_itoa h4.1 (by omega)]
def txOf (l : List UInt8) : TxD × Bool := if txOk (parS l) = true ∧ txL (parS l) = l then (parS l, true) else ((0, (0, (0, 0))), false)
theorem drop1_le (l : List UInt8) (c : UInt8) : ((l.dropWhile (· != c)).drop 1).length ≤ l.length := by
  rw [List.length_drop]
  have := (List.dropWhile_sublist (l := l) (· != c)).length_le
  omega
theorem cutS_le (l : List UInt8) (c : UInt8) : (cutS l c).2.length ≤ l.length := by
  unfold cutS
  split
  · exact drop1_le l c
  · simp
theorem cutI_le (l : List UInt8) (c : UInt8) : (cutI l c).2.length ≤ l.length := drop1_le l c
theorem l2Cut_tx {l : List UInt8} (c : UInt8) (hl : l.length ≤ 4294967296) : ∃ b, spec_l2Cut F0 (tx l) (c.toNat : Int) = some (tx (cutS l c).1, tx (cutS l c).2, b, ()) := by
  rw [l2Cut_law c hl]
  unfold cutS
  split
  · exact ⟨_, rfl⟩
  · exact ⟨_, rfl⟩
theorem TxOf_law {l : List UInt8} (hl : l.length ≤ 4294967280) : spec_TxOf F0 (tx l) = some ((txOf l).1, (txOf l).2, ()) := by
  obtain ⟨b1, e1⟩ := l2Cut_tx (l := l) 62 (by omega)
  obtain ⟨b2, e2⟩ := l2Cut_tx (l := (cutS l 62).2) 58 (by have := cutS_le l 62; omega)
  obtain ⟨b3, e3⟩ := l2Cut_tx (l := (cutS (cutS l 62).2 58).2) 35 (by have := cutS_le l 62; have := cutS_le (cutS l 62).2 58; omega)
  rw [spec_TxOf_eq]
  rw [show spec_l2Cut F0 (tx l) 62 = _ from e1, bnd, show spec_l2Cut F0 _ 58 = _ from e2, bnd, show spec_l2Cut F0 _ 35 = _ from e3, bnd, number_law, bnd, number_law, bnd, number_law, bnd, number_law, bnd, show (ByteArray.mk #[]) = tx [] from rfl, tl_eq]
  have hp : ((numL (cutS l 62).1).1, ((numL (cutS (cutS l 62).2 58).1).1, ((numL (cutS (cutS (cutS l 62).2 58).2 35).1).1, (numL (cutS (cutS (cutS l 62).2 58).2 35).2).1))) = parS l := rfl
  simp only [hp, TxText_law, bnd, tl_eq]
  unfold txOf txText
  by_cases hok : txOk (parS l) = true
  · rw [if_pos hok]
    by_cases ht : txL (parS l) = l
    · have hne : ¬ l = [] := by
        rw [← ht]
        simp [txL]
      rw [if_pos ⟨hok, ht⟩, decide_eq_false hne, br_false, decide_eq_true ht]
      rfl
    · rw [if_neg (fun h => ht h.2), decide_eq_false ht]
      cases decide (l = []) <;> rfl
  · rw [if_neg hok, if_neg (fun h => hok h.1)]
    by_cases hne : l = []
    · rw [decide_eq_true hne]
      rfl
    · rw [decide_eq_false hne, br_false, decide_eq_false (fun h => hne h.symm)]
      rfl
theorem TxOf_law2 {l : List UInt8} (hl : l.length < 4294967281) : impl_TxOf F0 (tx l) = some ((txOf l).1, (txOf l).2, ()) := by
  have e1 := strings_Cut_law (l := l) 62 hl
  have h2 := cutI_le l 62
  have h3 := cutI_le (cutI l 62).2 58
  have e2 := strings_Cut_law (l := (cutI l 62).2) 58 (by omega)
  have e3 := strings_Cut_law (l := (cutI (cutI l 62).2 58).2) 35 (by omega)
  rw [impl_TxOf_eq]
  rw [show ByteArray.mk #[62] = tx [62] from rfl, e1, bnd, show ByteArray.mk #[58] = tx [58] from rfl]
  rw [show strings_Cut F0 (tx ((l.dropWhile (· != 62)).drop 1)) (tx [58]) = _ from e2, bnd, show ByteArray.mk #[35] = tx [35] from rfl]
  rw [show strings_Cut F0 (tx (((cutI l 62).2.dropWhile (· != 58)).drop 1)) (tx [35]) = _ from e3, bnd]
  have n0 := fun (a b c d : ByteArray) => (show at_ [a, b, c, d] 0 ByteArray.empty = a from rfl)
  have n1 := fun (a b c d : ByteArray) => (show at_ [a, b, c, d] 1 ByteArray.empty = b from rfl)
  have n2 := fun (a b c d : ByteArray) => (show at_ [a, b, c, d] 2 ByteArray.empty = c from rfl)
  have n3 := fun (a b c d : ByteArray) => (show at_ [a, b, c, d] 3 ByteArray.empty = d from rfl)
  rw [show okI 0 4 = true from rfl, ck_true, n0, number_law2, bnd, show okI 1 4 = true from rfl, ck_true, n1, number_law2, bnd, show okI 2 4 = true from rfl, ck_true, n2, number_law2, bnd, show okI 3 4 = true from rfl, ck_true, n3, number_law2, bnd]
  have hp : ((numL (l.takeWhile (· != 62))).1, ((numL ((cutI l 62).2.takeWhile (· != 58))).1, ((numL ((cutI (cutI l 62).2 58).2.takeWhile (· != 35))).1, (numL (((cutI (cutI l 62).2 58).2.dropWhile (· != 35)).drop 1)).1))) = parI l := rfl
  simp only [hp, TxOk_law2, TxText_law2, bnd, tl_eq]
  unfold txOf txText
  by_cases hok : txOk (parI l) = true
  · rw [if_pos hok, hok]
    by_cases ht : txL (parI l) = l
    · have hpe : parS l = parI l := by
        have := parS_txL hok
        rw [ht] at this
        exact this
      rw [hpe, if_pos ⟨hok, ht⟩, decide_eq_true ht]
      rfl
    · have : ¬ (txOk (parS l) = true ∧ txL (parS l) = l) := by
        rintro ⟨q1, q2⟩
        have := parI_txL q1
        rw [q2] at this
        rw [this] at ht
        exact ht q2
      rw [if_neg this, decide_eq_false ht]
      rfl
  · have : ¬ (txOk (parS l) = true ∧ txL (parS l) = l) := by
      rintro ⟨q1, q2⟩
      have := parI_txL q1
      rw [q2] at this
      rw [this] at hok
      exact hok q1
    rw [if_neg this]
    have hf : txOk (parI l) = false := by simpa using hok
    rw [hf]
    rfl
theorem txOf_i64 (l : List UInt8) : txOk (txOf l).1 = true := by
  unfold txOf
  split
  · rename_i h1
    exact h1.1
  · rfl
end Go.Am.Tryz
set_option linter.unusedVariables false
set_option linter.unusedSimpArgs false
namespace Go.Am.Tryz
open Go.Am
def parts (c : UInt8) : List UInt8 → List (List UInt8)
  | [] => [[]]
  | x :: l => if x = c then [] :: parts c l else match parts c l with
    | p :: ps => (x :: p) :: ps
    | [] => [[x]]
theorem parts_ne (c : UInt8) (l : List UInt8) : parts c l ≠ [] := by
  cases l with
  | nil => simp [parts]
  | cons x l =>
    unfold parts
    split
    · simp
    · split <;> simp
theorem parts_no {c : UInt8} {a : List UInt8} (h : c ∉ a) : parts c a = [a] := by
  induction a with
  | nil => rfl
  | cons x a ih =>
    have hx : ¬ x = c := by rintro rfl; simp at h
    unfold parts
    rw [if_neg hx, ih fun h' => h (List.mem_cons_of_mem _ h')]
theorem parts_at {c : UInt8} {a b : List UInt8} (h : c ∉ a) : parts c (a ++ c :: b) = a :: parts c b := by
  induction a with
  | nil =>
    rw [List.nil_append]
    conv => lhs; unfold parts
    rw [if_pos rfl]
  | cons x a ih =>
    have hx : ¬ x = c := by rintro rfl; simp at h
    rw [List.cons_append]
    conv => lhs; unfold parts
    rw [if_neg hx, ih fun h' => h (List.mem_cons_of_mem _ h')]
theorem parts_len (c : UInt8) (l : List UInt8) : (parts c l).length ≤ l.length + 1 := by
  induction l with
  | nil => simp [parts]
  | cons x l ih =>
    unfold parts
    split
    · simp only [List.length_cons]
      omega
    · split
      · rename_i p ps h
        rw [h] at ih
        simp only [List.length_cons] at ih ⊢
        omega
      · simp
theorem parts_mem {c : UInt8} : ∀ {l p : List UInt8}, p ∈ parts c l → p.length ≤ l.length
  | [], p, h => by
    simp only [parts, List.mem_singleton] at h
    rw [h]
    simp
  | x :: l, p, h => by
    unfold parts at h
    split at h
    · rcases List.mem_cons.1 h with rfl | h
      · simp
      · have := parts_mem h
        simp only [List.length_cons]
        omega
    · split at h
      · rename_i q qs hq
        rcases List.mem_cons.1 h with rfl | h
        · have := parts_mem (c := c) (l := l) (p := q) (by rw [hq]; simp)
          simp only [List.length_cons]
          omega
        · have := parts_mem (c := c) (l := l) (p := p) (by rw [hq]; simp [h])
          simp only [List.length_cons]
          omega
      · rw [List.mem_singleton] at h
        rw [h]
        simp
theorem extract_mid (l : List UInt8) (a b : Nat) : (tx l).extract a b = tx ((l.drop a).take (b - a)) := by
  rw [tx_of ((tx l).extract a b), Lib.extract_data, tx_list]
theorem Split_law {l : List UInt8} (c : UInt8) (hl : l.length ≤ 4294967296) : spec_Split F0 (tx l) (c.toNat : Int) = some ((parts c l).map tx, ()) := by
  have hpl := parts_len c l
  rw [spec_Split_eq]
  refine loop_to (fun n i (z : Nat × List ByteArray) => spec_Split_1 F0 (spec_Split_1_k F0) n (spec_Split_1_s (tx l) (c.toNat : Int) (z.1 : Int) i z.2)) (l.length + 1)
    (fun k z => if k ≤ l.length then ∃ done : List (List UInt8), z.2 = done.map tx ∧ parts c l = done ++ parts c (l.drop z.1) ∧ z.1 ≤ k ∧ c ∉ (l.drop z.1).take (k - z.1) else z.2 = (parts c l).map tx) _ (fun n k z hk hI => .inr ?_) (fun n z hI => ?_) F0.n 0 (0, []) (Nat.zero_le _) ?_ (by rw [n_eq]; omega)
  · obtain ⟨from1, xs⟩ := z
    rw [if_pos (by omega)] at hI
    obtain ⟨done, rfl, hd, hf, hno⟩ := hI
    simp only at hd hf hno
    have hdl : done.length + 1 ≤ l.length + 1 := by
      have h1 := congrArg List.length hd
      have h2 : 0 < (parts c (l.drop from1)).length := List.length_pos_iff.2 (parts_ne c _)
      rw [List.length_append] at h1
      omega
    have hle : decide ((k : Int) ≤ (l.length : Int)) = true := decide_eq_true (by omega)
    rw [spec_Split_1_step, tx_size, hle, br_true]
    have hos : okS (from1 : Int) (k : Int) (l.length : Int) = true := by simp only [okS, Bool.and_eq_true, decide_eq_true_eq]; omega
    have hoa : ∀ b : ByteArray, okA F0 (done.map tx).length [b].length 16 = true := fun b => okA_le (by omega) (by omega) (by rw [List.length_map]; simp only [List.length_cons, List.length_nil]; omega)
    simp only [Int.toNat_natCast, extract_mid, hos, hoa, ck_true, w64_succ (show k + 1 ≤ 9223372036854775807 by omega)]
    by_cases hend : k = l.length
    · subst hend
      rw [beq_self_eq_true, br_true]
      refine ⟨(l.length + 1, (parts c l).map tx), ?_, by rw [if_neg (by omega)]⟩
      have ht : (l.drop from1).take (l.length - from1) = l.drop from1 := List.take_of_length_le (by rw [List.length_drop]; omega)
      rw [ht] at hno ⊢
      rw [hd, parts_no hno]
      simp
    · have hlt : k < l.length := by omega
      have hb : (((k : Nat) : Int) == (l.length : Int)) = false := beq_eq_false_iff_ne.2 (by omega)
      rw [hb, br_false, okI_nat hlt, ck_true, byte_tx]
      have hs : l.drop from1 = (l.drop from1).take (k - from1) ++ l.getD k 0 :: l.drop (k + 1) := by
        have := split_at (l := l.drop from1) (k := k - from1) (by rw [List.length_drop]; omega)
        have e1 : (l.drop from1).getD (k - from1) 0 = l.getD k 0 := by
          simp only [List.getD_eq_getElem?_getD, List.getElem?_drop]
          rw [show from1 + (k - from1) = k by omega]
        rw [e1, List.drop_drop, show from1 + (k - from1 + 1) = k + 1 by omega] at this
        exact this
      by_cases hc : l.getD k 0 = c
      · have h1 : ((((l.getD k 0).toNat : Int)) == (c.toNat : Int)) = true := by rw [hc]; simp
        rw [h1, br_true]
        refine ⟨(k + 1, done.map tx ++ [tx ((l.drop from1).take (k - from1))]), rfl, ?_⟩
        rw [if_pos (by omega)]
        refine ⟨done ++ [(l.drop from1).take (k - from1)], by simp, ?_, Nat.le_refl _, by simp⟩
        rw [hc] at hs
        rw [hd, hs, parts_at hno, ← hs]
        simp
      · have h1 : ((((l.getD k 0).toNat : Int)) == (c.toNat : Int)) = false := beq_eq_false_iff_ne.2 fun h => hc (UInt8.toNat_inj.1 (by omega))
        rw [h1, br_false]
        refine ⟨(from1, done.map tx), rfl, ?_⟩
        rw [if_pos (by omega)]
        refine ⟨done, rfl, hd, by show from1 ≤ k + 1; omega, ?_⟩
        have e1 : (l.drop from1).take (k + 1 - from1) = (l.drop from1).take (k - from1) ++ [l.getD k 0] := by
          rw [show k + 1 - from1 = (k - from1) + 1 by omega, List.take_add_one]
          congr 1
          have : (l.drop from1)[k - from1]? = some (l.getD k 0) := by
            rw [List.getElem?_drop, show from1 + (k - from1) = k by omega]
            exact getD_is hlt 0
          rw [this]
          rfl
        show c ∉ (l.drop from1).take (k + 1 - from1)
        rw [e1, List.mem_append, List.mem_singleton]
        rintro (h | h)
        · exact hno h
        · exact hc h.symm
  · rw [if_neg (by omega)] at hI
    rw [spec_Split_1_step, tx_size, decide_eq_false (by omega), br_false, spec_Split_1_ce0, hI]
  · rw [if_pos (by omega)]
    exact ⟨[], rfl, rfl, Nat.le_refl _, by simp⟩
end Go.Am.Tryz
set_option linter.unusedVariables false
set_option linter.unusedSimpArgs false
namespace Go.Am.Tryz
open Go.Am
theorem splitB_parts (c : UInt8) : ∀ (n : Nat) (l : List UInt8), l.length ≤ n → ∀ k, k = Lib.countB (tx l) (tx [c]) → Lib.splitB (tx [c]) 0 k (tx l) = (parts c l).map tx := by
  intro n
  induction n with
  | zero =>
    intro l hl k hk
    obtain rfl : l = [] := List.eq_nil_of_length_eq_zero (by omega)
    have hi : Lib.indexB (tx []) (tx [c]) = -1 := by
      show Lib.index (tx []).data.toList (tx [c]).data.toList = -1
      rw [tx_list, tx_list, Lib.index_one]
      rfl
    rw [Lib.splitB_miss _ _ _ _ hi]
    rfl
  | succ n ih =>
    intro l hl k hk
    by_cases h : c ∈ l
    · obtain ⟨a, b, rfl, h2⟩ := exists_first h
      have hi : Lib.indexB (tx (a ++ c :: b)) (tx [c]) = (a.length : Int) := by
        show Lib.index (tx (a ++ c :: b)).data.toList (tx [c]).data.toList = _
        rw [tx_list, tx_list, Lib.index_one, indexByte_at h2]
      have hsz : (tx [c]).size = 1 := tx_size [c]
      have hext : (tx (a ++ c :: b)).extract (a.length + (tx [c]).size) (tx (a ++ c :: b)).size = tx b := by
        rw [extract_from, hsz]
        congr 1
        simp [List.drop_append]
      have hcnt := Lib.countB_hit (tx (a ++ c :: b)) (tx [c]) a.length (by rw [hsz]; omega) hi
      rw [hext] at hcnt
      obtain ⟨k', rfl⟩ : ∃ k', k = k' + 1 := ⟨Lib.countB (tx b) (tx [c]), by omega⟩
      rw [Lib.splitB_hit _ _ _ _ _ hi, hext, ih b (by simp only [List.length_append, List.length_cons] at hl; omega) k' (by omega), parts_at h2, Nat.add_zero, extract_to]
      simp [List.take_append]
    · have hi : Lib.indexB (tx l) (tx [c]) = -1 := by
        show Lib.index (tx l).data.toList (tx [c]).data.toList = -1
        rw [tx_list, tx_list, Lib.index_one, indexByte_no h]
      rw [Lib.splitB_miss _ _ _ _ hi, parts_no h]
      rfl
theorem Split_law2 {l : List UInt8} (c : UInt8) (hl : l.length < 4294967281) : impl_Split F0 (tx l) (c.toNat : Int) = some ((parts c l).map tx, ()) := by
  have hso : strOf [(c.toNat : Int)] = tx [c] := by
    simp only [strOf, tx, List.map_cons, List.map_nil]
    congr 2
    simp
  have h : Nat.blt (tx l).size 4294967281 = true := by rw [tx_size]; simpa using hl
  have h2 : Nat.ble 1 (tx [c]).size = true := by rw [tx_size]; rfl
  rw [impl_Split_eq, hso]
  unfold strings_Split
  rw [h, h2, Bool.and_self, ck_true, bnd, splitB_parts c l.length l (Nat.le_refl _) _ rfl]

/-! ### Lists gathered, all or none -/
def allF {σ β : Type} (f : σ → List UInt8 → Option (σ × β)) : σ → List (List UInt8) → Option (List β)
  | _, [] => some []
  | s, p :: ps => match f s p with
    | none => none
    | some (s', b) => match allF f s' ps with
      | none => none
      | some r => some (b :: r)
theorem fold_loop {σ β γ : Type} (f : σ → List UInt8 → Option (σ × β)) (I : σ → Prop) (P : List (List UInt8)) (X : Nat → σ → Int → List β → Option γ) (R0 : Option γ) (R1 : List β → Option γ)
    (hs : ∀ n k s xs p, k < P.length → P[k]? = some p → I s → xs.length = k → X (n + 1) s (k : Int) xs = match f s p with | none => R0 | some (s', b) => X n s' ((k + 1 : Nat) : Int) (xs ++ [b]))
    (he : ∀ n s xs, xs.length = P.length → X (n + 1) s (P.length : Int) xs = R1 xs) (hI : ∀ s p s' b, I s → f s p = some (s', b) → I s') :
    ∀ (n k : Nat) (s : σ) (xs : List β), k ≤ P.length → P.length - k < n → I s → xs.length = k → X n s (k : Int) xs = match allF f s (P.drop k) with | none => R0 | some l => R1 (xs ++ l)
  | 0, _, _, _, _, h, _, _ => absurd h (Nat.not_lt_zero _)
  | n + 1, k, s, xs, hk, hn, hIs, hx => by
    rcases Nat.lt_or_ge k P.length with hlt | hge
    · have hp : P[k]? = some P[k] := List.getElem?_eq_getElem hlt
      rw [hs n k s xs P[k] hlt hp hIs hx, List.drop_eq_getElem_cons hlt]
      simp only [allF]
      cases hf : f s P[k] with
      | none => rfl
      | some q =>
        obtain ⟨s', b⟩ := q
        simp only
        rw [fold_loop f I P X R0 R1 hs he hI n (k + 1) s' (xs ++ [b]) hlt (by omega) (hI _ _ _ _ hIs hf) (by simp [hx])]
        cases allF f s' (P.drop (k + 1)) with
        | none => rfl
        | some r => simp
    · obtain rfl : k = P.length := by omega
      rw [he n s xs hx, List.drop_length]
      simp [allF]
theorem allF_len {σ β : Type} {f : σ → List UInt8 → Option (σ × β)} : ∀ {P : List (List UInt8)} {s : σ} {r : List β}, allF f s P = some r → r.length = P.length
  | [], _, r, h => by cases h; rfl
  | p :: ps, s, r, h => by
    simp only [allF] at h
    split at h
    · cases h
    · split at h
      · cases h
      · rename_i hr
        cases h
        simp [allF_len hr]
theorem allF_all {σ β : Type} {f : σ → List UInt8 → Option (σ × β)} {Q : β → Prop} (hQ : ∀ s p s' b, f s p = some (s', b) → Q b) : ∀ {P : List (List UInt8)} {s : σ} {r : List β}, allF f s P = some r → ∀ b ∈ r, Q b
  | [], _, r, h => by cases h; simp
  | p :: ps, s, r, h => by
    simp only [allF] at h
    split at h
    · cases h
    · rename_i hf
      split at h
      · cases h
      · rename_i hr
        cases h
        intro b hb
        rcases List.mem_cons.1 hb with rfl | hb
        · exact hQ _ _ _ _ hf
        · exact allF_all hQ hr b hb
/-! ### Payments -/
def txF (_ : Unit) (p : List UInt8) : Option (Unit × TxD) := if (txOf p).2 = true then some ((), (txOf p).1) else none
def txsOf (l : List UInt8) : List TxD × Bool := if l = [] then ([], true) else match allF txF () (parts 44 l) with | none => ([], false) | some r => (r, true)
theorem txsOf_len (l : List UInt8) : (txsOf l).1.length ≤ l.length + 1 := by
  unfold txsOf
  split
  · simp
  · split
    · simp
    · rename_i r hr
      have := allF_len hr
      have := parts_len 44 l
      simp only
      omega
theorem txsOf_ok (l : List UInt8) : ∀ x ∈ (txsOf l).1, txOk x = true := by
  unfold txsOf
  split
  · simp
  · split
    · simp
    · rename_i r hr
      refine allF_all (Q := fun x => txOk x = true) (fun s p s' b h => ?_) hr
      unfold txF at h
      split at h
      · cases h
        exact txOf_i64 p
      · cases h
theorem nil_eq (l : List UInt8) : ((tx l).toList == (ByteArray.mk #[]).toList) = decide (l = []) := tl_eq l []
theorem at_map (P : List (List UInt8)) (k : Nat) {p : List UInt8} (h : P[k]? = some p) : at_ (P.map tx) (k : Int) ByteArray.empty = tx p := by
  show (P.map tx).getD k ByteArray.empty = _
  simp [List.getD_eq_getElem?_getD, h]
theorem TxsOf_law {l : List UInt8} (hl : l.length ≤ 1073741824) : spec_TxsOf F0 (tx l) = some ((txsOf l).1, (txsOf l).2, ()) := by
  have hpl := parts_len 44 l
  rw [spec_TxsOf_eq, nil_eq]
  unfold txsOf
  by_cases h0 : l = []
  · rw [decide_eq_true h0, if_pos h0]
    rfl
  · rw [decide_eq_false h0, br_false, if_neg h0, show spec_Split F0 (tx l) 44 = _ from Split_law 44 (by omega), bnd]
    have := fold_loop txF (fun _ => True) (parts 44 l) (fun n _ i xs => spec_TxsOf_1 F0 (spec_TxsOf_1_k F0) n (spec_TxsOf_1_s i xs ((parts 44 l).map tx))) (some ([], false, ())) (fun xs => some (xs, true, ())) (fun n k s xs p hk hp _ hx => ?_) (fun n s xs hx => ?_) (fun _ _ _ _ _ _ => trivial) F0.n 0 () [] (Nat.zero_le _) (by rw [n_eq]; omega) trivial rfl
    · simp only [List.drop_zero, List.nil_append] at this
      rw [show ((0 : Nat) : Int) = 0 from rfl] at this
      rw [this]
      cases allF txF () (parts 44 l) <;> rfl
    · have hpm := parts_mem (List.mem_of_getElem? hp)
      rw [spec_TxsOf_1_step, List.length_map, dec_lt hk, br_true, okI_nat hk, ck_true, at_map _ _ hp, TxOf_law (by omega), bnd]
      unfold txF
      cases hok : (txOf p).2 with
      | false => simp only [Bool.not_false, br_true, spec_TxsOf_1_cr]; rfl
      | true =>
        simp only [Bool.not_true, br_false]
        rw [okA_le (b := [(txOf p).1].length) (k := 32) (by omega) (by omega) (by simp only [List.length_cons, List.length_nil]; omega), ck_true, w64_succ (by omega)]
        rfl
    · rw [spec_TxsOf_1_step, List.length_map, dec_nlt, br_false, spec_TxsOf_1_ce0]
theorem TxsOf_law2 {l : List UInt8} (hl : l.length ≤ 1073741824) : impl_TxsOf F0 (tx l) = some ((txsOf l).1, (txsOf l).2, ()) := by
  have hpl := parts_len 44 l
  rw [impl_TxsOf_eq, nil_eq]
  unfold txsOf
  by_cases h0 : l = []
  · rw [decide_eq_true h0, if_pos h0]
    rfl
  · rw [decide_eq_false h0, br_false, if_neg h0, show impl_Split F0 (tx l) 44 = _ from Split_law2 44 (by omega), bnd]
    have := fold_loop txF (fun _ => True) (parts 44 l) (fun n _ i xs => impl_TxsOf_1 F0 (impl_TxsOf_1_k F0) n (impl_TxsOf_1_s ((parts 44 l).map tx) (((parts 44 l).map tx).length : Int) i xs)) (some ([], false, ())) (fun xs => some (xs, true, ())) (fun n k s xs p hk hp _ hx => ?_) (fun n s xs hx => ?_) (fun _ _ _ _ _ _ => trivial) F0.n 0 () [] (Nat.zero_le _) (by rw [n_eq]; omega) trivial rfl
    · simp only [List.drop_zero, List.nil_append] at this
      rw [show ((0 : Nat) : Int) = 0 from rfl] at this
      rw [this]
      cases allF txF () (parts 44 l) <;> rfl
    · have hpm := parts_mem (List.mem_of_getElem? hp)
      rw [impl_TxsOf_1_step, List.length_map, dec_lt hk, br_true, okI_nat hk, ck_true, at_map _ _ hp, TxOf_law2 (by omega), bnd]
      unfold txF
      cases hok : (txOf p).2 with
      | false => simp only [Bool.not_false, br_true, impl_TxsOf_1_cr]; rfl
      | true =>
        simp only [Bool.not_true, br_false]
        rw [okA_le (b := [(txOf p).1].length) (k := 32) (by omega) (by omega) (by simp only [List.length_cons, List.length_nil]; omega), ck_true, w64_succ (by omega)]
        rfl
    · rw [impl_TxsOf_1_step, List.length_map, dec_nlt, br_false, impl_TxsOf_1_ce0]
end Go.Am.Tryz
set_option linter.unusedVariables false
set_option linter.unusedSimpArgs false
namespace Go.Am.Tryz
open Go.Am
abbrev StepD := Int × List TxD
def stepF (last : Int) (p : List UInt8) : Option (Int × StepD) :=
  if 124 ∈ p ∧ (numL (cutI p 124).1).2 = true ∧ (txsOf (cutI p 124).2).2 = true ∧ last < (numL (cutI p 124).1).1 ∧ (numL (cutI p 124).1).1 ≤ 60 ∧ (txsOf (cutI p 124).2).1.length ≤ 2
  then some ((numL (cutI p 124).1).1, ((numL (cutI p 124).1).1, (txsOf (cutI p 124).2).1)) else none
def stepsOf (l : List UInt8) : List StepD × Bool := if l = [] then ([], true) else match parts 47 l with
  | [] => ([], false)
  | p0 :: ps => if ¬ p0 = [] ∨ 30 < ps.length then ([], false) else match allF stepF 0 ps with
    | none => ([], false)
    | some r => (r, true)
def StepOk (s : StepD) : Prop := 0 ≤ s.1 ∧ s.1 ≤ 60 ∧ s.2.length ≤ 2 ∧ ∀ x ∈ s.2, txOk x = true
theorem stepF_ok {last : Int} {p : List UInt8} {s' : Int} {b : StepD} (h : stepF last p = some (s', b)) : StepOk b ∧ s' = b.1 := by
  unfold stepF at h
  split at h
  · rename_i hc
    cases h
    exact ⟨⟨(numL_i64 _).1, hc.2.2.2.2.1, hc.2.2.2.2.2, txsOf_ok _⟩, rfl⟩
  · cases h
theorem stepsOf_ok (l : List UInt8) : ∀ s ∈ (stepsOf l).1, StepOk s := by
  unfold stepsOf
  split
  · simp
  · split
    · simp
    · split
      · simp
      · split
        · simp
        · rename_i hr
          exact allF_all (Q := StepOk) (fun s p s' b h => (stepF_ok h).1) hr
theorem stepsOf_len (l : List UInt8) : (stepsOf l).1.length ≤ 30 := by
  unfold stepsOf
  split
  · simp
  · split
    · simp
    · split
      · simp
      · split
        · simp
        · rename_i hr
          have := allF_len hr
          simp only
          omega
theorem br6 {α : Type} (a b c d e f : Bool) (x y : α) : br (!a) x (br (!b) x (br (!c) x (br d x (br e x (br f x y))))) = if a = true ∧ b = true ∧ c = true ∧ d = false ∧ e = false ∧ f = false then y else x := by
  cases a <;> cases b <;> cases c <;> cases d <;> cases e <;> cases f <;> rfl
theorem br5 {α : Type} (a b c d f : Bool) (x y : α) : br (!a) x (br (!b) x (br (!c) x (br (!d) x (br f x y)))) = if a = true ∧ b = true ∧ c = true ∧ d = true ∧ f = false then y else x := by
  cases a <;> cases b <;> cases c <;> cases d <;> cases f <;> rfl
theorem Steps_law {l : List UInt8} (hl : l.length ≤ 1073741824) : spec_Steps F0 (tx l) = some ((stepsOf l).1, (stepsOf l).2, ()) := by
  have hpl := parts_len 47 l
  have hpm := fun p (h : p ∈ parts 47 l) => parts_mem h
  rw [spec_Steps_eq, nil_eq]
  unfold stepsOf
  by_cases h0 : l = []
  · rw [decide_eq_true h0, if_pos h0]
    rfl
  · rw [decide_eq_false h0, br_false, if_neg h0, show spec_Split F0 (tx l) 47 = _ from Split_law 47 (by omega), bnd]
    cases hP : parts 47 l with
    | nil => exact absurd hP (parts_ne 47 l)
    | cons p0 ps =>
      rw [hP] at hpl hpm
      simp only [List.length_cons] at hpl
      have ha0 : at_ ((p0 :: ps).map tx) 0 ByteArray.empty = tx p0 := rfl
      have ho : okI 0 (((p0 :: ps).map tx).length : Int) = true := okI_nat (k := 0) (by simp)
      simp only [ho, ck_true, ha0, nil_eq]
      by_cases hp0 : p0 = []
      · by_cases h30 : 30 < ps.length
        · rw [decide_eq_true hp0, Bool.not_true, br_false, decide_eq_true (by rw [List.length_map, List.length_cons]; omega), br_true, if_pos (.inr h30)]
        · rw [decide_eq_true hp0, Bool.not_true, br_false, decide_eq_false (by rw [List.length_map, List.length_cons]; omega), br_false, if_neg (by simp [hp0]; omega)]
          have := fold_loop stepF (fun s => 0 ≤ s ∧ s ≤ 60) ps (fun n s i xs => spec_Steps_1 F0 (spec_Steps_1_k F0) n (spec_Steps_1_s s (i + 1) [] xs ((p0 :: ps).map tx))) (some ([], false, ())) (fun xs => some (xs, true, ())) (fun n k s xs p hk hp hs hx => ?_) (fun n s xs hx => ?_) (fun s p s' b hs hf => ?_) F0.n 0 0 [] (Nat.zero_le _) (by rw [n_eq]; omega) ⟨by omega, by omega⟩ rfl
          · simp only [List.drop_zero, List.nil_append] at this
            rw [show ((0 : Nat) : Int) + 1 = 1 from rfl] at this
            rw [this]
            cases allF stepF 0 ps <;> rfl
          · have hpl1 := hpm p (List.mem_cons_of_mem _ (List.mem_of_getElem? hp))
            have hk1 : k + 1 < ((p0 :: ps).map tx).length := by simp; omega
            have hat : at_ ((p0 :: ps).map tx) (((k + 1 : Nat)) : Int) ByteArray.empty = tx p := at_map _ _ (by simpa using hp)
            rw [show ((k : Int) + 1) = ((k + 1 : Nat) : Int) by omega, spec_Steps_1_step, dec_lt hk1, br_true, okI_nat hk1, ck_true, hat, show spec_l2Cut F0 (tx p) 124 = _ from l2Cut_law 124 (by omega), bnd]
            have hrest := cutI_le p 124
            have hmx := numL_i64 (cutI p 124).1
            have htl := txsOf_len (cutI p 124).2
            by_cases hm : (124 : UInt8) ∈ p
            · rw [if_pos hm]
              simp only [number_law, bnd]
              rw [show spec_TxsOf F0 (tx ((p.dropWhile (· != 124)).drop 1)) = some ((txsOf (cutI p 124).2).1, (txsOf (cutI p 124).2).2, ()) from TxsOf_law (by show (cutI p 124).2.length ≤ _; omega), bnd]
              simp only [spec_Steps_1_cr]
              rw [br6]
              unfold stepF
              have hw : (numL (p.takeWhile (· != 124))) = numL (cutI p 124).1 := rfl
              rw [hw]
              by_cases hcond : 124 ∈ p ∧ (numL (cutI p 124).1).2 = true ∧ (txsOf (cutI p 124).2).2 = true ∧ s < (numL (cutI p 124).1).1 ∧ (numL (cutI p 124).1).1 ≤ 60 ∧ (txsOf (cutI p 124).2).1.length ≤ 2
              · have q1 : decide ((numL (cutI p 124).1).1 ≤ s) = false := decide_eq_false (by omega)
                have q2 : decide ((numL (cutI p 124).1).1 > 60) = false := decide_eq_false (by omega)
                have q3 : decide (((txsOf (cutI p 124).2).1.length : Int) > 2) = false := decide_eq_false (by omega)
                rw [if_pos hcond, if_pos ⟨rfl, hcond.2.1, hcond.2.2.1, q1, q2, q3⟩]
                simp only
                rw [okA_le (b := [((numL (cutI p 124).1).1, (txsOf (cutI p 124).2).1)].length) (k := 32) (by omega) (by omega) (by simp only [List.length_cons, List.length_nil]; omega), ck_true, w64_succ (by omega)]
                rfl
              · rw [if_neg hcond, if_neg (fun h => hcond ?_)]
                have q1 : decide ((numL (cutI p 124).1).1 ≤ s) = false := h.2.2.2.1
                have q2 : decide ((numL (cutI p 124).1).1 > 60) = false := h.2.2.2.2.1
                have q3 : decide (((txsOf (cutI p 124).2).1.length : Int) > 2) = false := h.2.2.2.2.2
                have r1 := of_decide_eq_false q1
                have r2 := of_decide_eq_false q2
                have r3 := of_decide_eq_false q3
                exact ⟨hm, h.2.1, h.2.2.1, by omega, by omega, by omega⟩
            · rw [if_neg hm]
              unfold stepF
              rw [if_neg (fun h => hm h.1), number_law, bnd, show spec_TxsOf F0 (tx []) = _ from TxsOf_law (by simp), bnd]
              simp only [Bool.not_false, br_true, spec_Steps_1_cr]
          · rw [show ((ps.length : Int) + 1) = (((p0 :: ps).map tx).length : Int) by simp, spec_Steps_1_step, dec_nlt, br_false, spec_Steps_1_ce0]
          · obtain ⟨h1, h2⟩ := stepF_ok hf
            rw [h2]
            exact ⟨h1.1, h1.2.1⟩
      · rw [decide_eq_false hp0, Bool.not_false, br_true, if_pos (.inl hp0)]
theorem Steps_law2 {l : List UInt8} (hl : l.length ≤ 1073741824) : impl_Steps F0 (tx l) = some ((stepsOf l).1, (stepsOf l).2, ()) := by
  have hpl := parts_len 47 l
  have hpm := fun p (h : p ∈ parts 47 l) => parts_mem h
  rw [impl_Steps_eq, nil_eq]
  unfold stepsOf
  by_cases h0 : l = []
  · rw [decide_eq_true h0, if_pos h0]
    rfl
  · rw [decide_eq_false h0, br_false, if_neg h0, show impl_Split F0 (tx l) 47 = _ from Split_law2 47 (by omega), bnd]
    cases hP : parts 47 l with
    | nil => exact absurd hP (parts_ne 47 l)
    | cons p0 ps =>
      rw [hP] at hpl hpm
      simp only [List.length_cons] at hpl
      have ha0 : at_ ((p0 :: ps).map tx) 0 ByteArray.empty = tx p0 := rfl
      have ho : okI 0 (((p0 :: ps).map tx).length : Int) = true := okI_nat (k := 0) (by simp)
      have hlen : ((p0 :: ps).map tx).length = ps.length + 1 := by simp
      have hos : okS 1 (((p0 :: ps).map tx).length : Int) (((p0 :: ps).map tx).length : Int) = true := by rw [hlen]; simp only [okS, Bool.and_eq_true, decide_eq_true_eq]; omega
      have hdr : ((((p0 :: ps).map tx).take (((p0 :: ps).map tx).length : Int).toNat).drop (1 : Int).toNat) = ps.map tx := by
        rw [Int.toNat_natCast, List.take_length]
        rfl
      simp only [ho, ck_true, ha0, nil_eq, hos, hdr]
      rw [hlen, w64_in (by omega) (by omega)]
      by_cases hp0 : p0 = []
      · by_cases h30 : 30 < ps.length
        · rw [decide_eq_true hp0, Bool.not_true, br_false, decide_eq_true (by omega), br_true, if_pos (.inr h30)]
        · rw [decide_eq_true hp0, Bool.not_true, br_false, decide_eq_false (by omega), br_false, if_neg (by simp [hp0]; omega)]
          have := fold_loop stepF (fun s => 0 ≤ s ∧ s ≤ 60) ps (fun n s i xs => impl_Steps_1 F0 (impl_Steps_1_k F0) n (impl_Steps_1_s s (ps.map tx) ((ps.map tx).length : Int) i xs)) (some ([], false, ())) (fun xs => some (xs, true, ())) (fun n k s xs p hk hp hs hx => ?_) (fun n s xs hx => ?_) (fun s p s' b hs hf => ?_) F0.n 0 0 [] (Nat.zero_le _) (by rw [n_eq]; omega) ⟨by omega, by omega⟩ rfl
          · simp only [List.drop_zero, List.nil_append] at this
            rw [show ((0 : Nat) : Int) = 0 from rfl] at this
            rw [this]
            cases allF stepF 0 ps <;> rfl
          · have hpl1 := hpm p (List.mem_cons_of_mem _ (List.mem_of_getElem? hp))
            have hrest := cutI_le p 124
            have hmx := numL_i64 (cutI p 124).1
            have htl := txsOf_len (cutI p 124).2
            rw [impl_Steps_1_step, List.length_map, dec_lt hk, br_true, okI_nat hk, ck_true, at_map _ _ hp, show ByteArray.mk #[124] = tx [124] from rfl, strings_Cut_law 124 (by omega), bnd]
            simp only [number_law2, bnd]
            rw [show impl_TxsOf F0 (tx ((p.dropWhile (· != 124)).drop 1)) = some ((txsOf (cutI p 124).2).1, (txsOf (cutI p 124).2).2, ()) from TxsOf_law2 (by show (cutI p 124).2.length ≤ _; omega), bnd]
            simp only [impl_Steps_1_cr, within_law, bnd]
            rw [br5]
            unfold stepF
            have hw : (numL (p.takeWhile (· != 124))) = numL (cutI p 124).1 := rfl
            rw [hw, w64_in (n := s + 1) (by omega) (by omega)]
            by_cases hcond : 124 ∈ p ∧ (numL (cutI p 124).1).2 = true ∧ (txsOf (cutI p 124).2).2 = true ∧ s < (numL (cutI p 124).1).1 ∧ (numL (cutI p 124).1).1 ≤ 60 ∧ (txsOf (cutI p 124).2).1.length ≤ 2
            · have hin : (decide (s + 1 ≤ (numL (cutI p 124).1).1) && decide ((numL (cutI p 124).1).1 ≤ 60)) = true := by
                rw [decide_eq_true (by omega), decide_eq_true (by omega)]
                rfl
              rw [if_pos hcond, if_pos ⟨decide_eq_true hcond.1, hcond.2.1, hcond.2.2.1, hin, decide_eq_false (by omega)⟩]
              simp only
              rw [okA_le (b := [((numL (cutI p 124).1).1, (txsOf (cutI p 124).2).1)].length) (k := 32) (by omega) (by omega) (by simp only [List.length_cons, List.length_nil]; omega), ck_true, w64_succ (by omega)]
            · rw [if_neg hcond, if_neg (fun h => hcond ⟨of_decide_eq_true h.1, h.2.1, h.2.2.1, by have := h.2.2.2.1; rw [Bool.and_eq_true] at this; have := of_decide_eq_true this.1; omega, by have := h.2.2.2.1; rw [Bool.and_eq_true] at this; have := of_decide_eq_true this.2; omega, by have := of_decide_eq_false h.2.2.2.2; omega⟩)]
          · rw [impl_Steps_1_step, List.length_map, dec_nlt, br_false, impl_Steps_1_ce0]
          · obtain ⟨h1, h2⟩ := stepF_ok hf
            rw [h2]
            exact ⟨h1.1, h1.2.1⟩
      · rw [decide_eq_false hp0, Bool.not_false, br_true, if_pos (.inl hp0)]
end Go.Am.Tryz
set_option linter.unusedVariables false
set_option linter.unusedSimpArgs false
namespace Go.Am.Tryz
open Go.Am
abbrev LedD := List Int × List Int
def ledOk (l : LedD) : Bool := decide (l.1.length = 4) && (decide (l.2.length = 4) && (l.1.all (fun n => inB n 0 400) && l.2.all (fun n => inB n 0 100)))
theorem allWithin_law {a : List Int} (lo hi : Int) (h : a.length ≤ 1048576) : impl_allWithin F0 a lo hi = some (a.all (fun n => inB n lo hi), ()) := by
  rw [impl_allWithin_eq]
  refine loop_to (fun n i (_ : Unit) => impl_allWithin_1 F0 (impl_allWithin_1_k F0) n (impl_allWithin_1_s lo hi a (a.length : Int) i)) a.length (fun k _ => ∀ x ∈ a.take k, inB x lo hi = true) _ (fun n k _ hk hI => ?_) (fun n _ hI => ?_) F0.n 0 () (Nat.zero_le _) (by simp) (by rw [n_eq]; omega)
  · rw [impl_allWithin_1_step, dec_lt hk, br_true, okI_nat hk, ck_true, at_nat, within_law, bnd]
    show (br (!inB (a.getD k 0) lo hi) _ _ = _) ∨ ∃ z' : Unit, br (!inB (a.getD k 0) lo hi) _ _ = _ ∧ _
    cases hb : inB (a.getD k 0) lo hi with
    | false =>
      left
      rw [Bool.not_false, br_true, impl_allWithin_1_cr]
      have : a.all (fun n => inB n lo hi) = false := List.all_eq_false.2 ⟨_, getD_mem hk 0, by rw [hb]; simp⟩
      rw [this]
    | true =>
      right
      refine ⟨(), by rw [Bool.not_true, br_false, w64_succ (by omega)], ?_⟩
      intro x hx
      rw [List.take_add_one, getD_is hk 0] at hx
      rcases List.mem_append.1 hx with hx | hx
      · exact hI x hx
      · simp only [Option.toList_some, List.mem_singleton] at hx
        rw [hx]
        exact hb
  · rw [List.take_length] at hI
    rw [impl_allWithin_1_step, dec_nlt, br_false, impl_allWithin_1_ce0, List.all_eq_true.2 hI]
theorem LedgerOk_law2 {l : LedD} (h1 : l.1.length ≤ 1048576) (h2 : l.2.length ≤ 1048576) : impl_LedgerOk F0 l = some (ledOk l, ()) := by
  rw [impl_LedgerOk_eq, allWithin_law 0 400 h1, allWithin_law 0 100 h2]
  have e : ∀ n : Nat, ((n : Int) == 4) = decide (n = 4) := fun n => by
    by_cases h : n = 4
    · subst h; rfl
    · rw [decide_eq_false h]
      exact beq_eq_false_iff_ne.2 (by omega)
  simp only [bnd, e, br_and]
  rfl
theorem LedgerOk_law {l : LedD} : spec_LedgerOk F0 l = some (ledOk l, ()) := by
  rw [spec_LedgerOk_eq]
  have e : ∀ n : Nat, ((n : Int) != 4) = !decide (n = 4) := fun n => by
    by_cases h : n = 4
    · subst h; rfl
    · rw [decide_eq_false h]
      exact bne_iff_ne.2 (by omega)
  rw [e, e]
  unfold ledOk
  by_cases h1 : l.1.length = 4
  · by_cases h2 : l.2.length = 4
    · rw [decide_eq_true h1, decide_eq_true h2, Bool.not_true, br_false, br_false, Bool.true_and, Bool.true_and]
      refine loop_to (fun n i (_ : Unit) => spec_LedgerOk_1 F0 (spec_LedgerOk_1_k F0) n (spec_LedgerOk_1_s i l.1 l.2)) 4 (fun k _ => (∀ x ∈ l.1.take k, inB x 0 400 = true) ∧ ∀ x ∈ l.2.take k, inB x 0 100 = true) _ (fun n k _ hk hI => ?_) (fun n _ hI => ?_) F0.n 0 () (by omega) (by simp) (by rw [n_eq]; omega)
      · have hk1 : k < l.1.length := by omega
        have hk2 : k < l.2.length := by omega
        rw [spec_LedgerOk_1_step, show decide ((k : Int) < 4) = true from decide_eq_true (by omega), br_true, okI_nat hk1, ck_true, at_nat, l1In_law, bnd, okI_nat hk2, ck_true, at_nat, l1In_law, bnd]
        show (br (!inB (l.1.getD k 0) 0 400) _ (br (!inB (l.2.getD k 0) 0 100) _ _) = _) ∨ ∃ z' : Unit, br (!inB (l.1.getD k 0) 0 400) _ (br (!inB (l.2.getD k 0) 0 100) _ _) = _ ∧ _
        cases hb : inB (l.1.getD k 0) 0 400 with
        | false =>
          left
          rw [Bool.not_false, br_true, spec_LedgerOk_1_cr]
          have : l.1.all (fun n => inB n 0 400) = false := List.all_eq_false.2 ⟨_, getD_mem hk1 0, by rw [hb]; simp⟩
          rw [this]
          rfl
        | true =>
          cases hc : inB (l.2.getD k 0) 0 100 with
          | false =>
            left
            rw [Bool.not_true, br_false, Bool.not_false, br_true, spec_LedgerOk_1_cr]
            have : l.2.all (fun n => inB n 0 100) = false := List.all_eq_false.2 ⟨_, getD_mem hk2 0, by rw [hc]; simp⟩
            rw [this, Bool.and_false]
          | true =>
            right
            refine ⟨(), by rw [Bool.not_true, br_false, br_false, w64_succ (by omega)], ?_, ?_⟩
            · intro x hx
              rw [List.take_add_one, getD_is hk1 0] at hx
              rcases List.mem_append.1 hx with hx | hx
              · exact hI.1 x hx
              · simp only [Option.toList_some, List.mem_singleton] at hx
                rw [hx]
                exact hb
            · intro x hx
              rw [List.take_add_one, getD_is hk2 0] at hx
              rcases List.mem_append.1 hx with hx | hx
              · exact hI.2 x hx
              · simp only [Option.toList_some, List.mem_singleton] at hx
                rw [hx]
                exact hc
      · rw [List.take_of_length_le (by omega), List.take_of_length_le (by omega)] at hI
        rw [spec_LedgerOk_1_step, show decide (((4 : Nat) : Int) < 4) = false from rfl, br_false, spec_LedgerOk_1_ce0, List.all_eq_true.2 hI.1, List.all_eq_true.2 hI.2]
        rfl
    · rw [decide_eq_true h1, decide_eq_false h2]
      rfl
  · rw [decide_eq_false h1]
    rfl
def payD (l : LedD) (x : TxD) : LedD × Int :=
  if ledOk l = true ∧ txOk x = true then
    if x.2.2.2 < at_ l.2 x.1 0 then (l, 2)
    else if x.2.2.2 > at_ l.2 x.1 0 then (l, 3)
    else if x.2.2.1 > at_ l.1 x.1 0 then ((l.1, l.2.set x.1.toNat (x.2.2.2 + 1)), 4)
    else if ledOk ((l.1.set x.1.toNat (at_ l.1 x.1 0 - x.2.2.1)).set x.2.1.toNat (at_ (l.1.set x.1.toNat (at_ l.1 x.1 0 - x.2.2.1)) x.2.1 0 + x.2.2.1), l.2.set x.1.toNat (x.2.2.2 + 1)) = true
      then (((l.1.set x.1.toNat (at_ l.1 x.1 0 - x.2.2.1)).set x.2.1.toNat (at_ (l.1.set x.1.toNat (at_ l.1 x.1 0 - x.2.2.1)) x.2.1 0 + x.2.2.1), l.2.set x.1.toNat (x.2.2.2 + 1)), 0)
      else (l, 1)
  else (l, 1)
theorem ledOk_spec {l : LedD} (h : ledOk l = true) : l.1.length = 4 ∧ l.2.length = 4 ∧ (∀ x ∈ l.1, 0 ≤ x ∧ x ≤ 400) ∧ ∀ x ∈ l.2, 0 ≤ x ∧ x ≤ 100 := by
  simp only [ledOk, Bool.and_eq_true, decide_eq_true_eq, List.all_eq_true, inB] at h
  exact ⟨h.1, h.2.1, fun x hx => ⟨(h.2.2.1 x hx).1, (h.2.2.1 x hx).2⟩, fun x hx => ⟨(h.2.2.2 x hx).1, (h.2.2.2 x hx).2⟩⟩
theorem l3Copy_law {l : LedD} (h1 : l.1.length ≤ 1048576) (h2 : l.2.length ≤ 1048576) : spec_l3Copy F0 l = some (l, ()) := by
  rw [spec_l3Copy_eq, okA_le (by omega) (by omega) (by omega), ck_true, okA_le (by omega) (by omega) (by omega), ck_true]
  simp
theorem copyLedger_law {l : LedD} (h1 : l.1.length ≤ 1048576) (h2 : l.2.length ≤ 1048576) : impl_copyLedger F0 l = some (l, ()) := by
  rw [impl_copyLedger_eq, impl_copyInts_eq, impl_copyInts_eq, okA_le (by omega) (by omega) (by omega), ck_true, bnd, okA_le (by omega) (by omega) (by omega), ck_true, bnd]
  simp
end Go.Am.Tryz
set_option linter.unusedVariables false
set_option linter.unusedSimpArgs false
namespace Go.Am.Tryz
open Go.Am
theorem dT {p : Prop} (i : Decidable p) (h : p) : @decide p i = true := decide_eq_true h
theorem dF {p : Prop} (i : Decidable p) (h : ¬ p) : @decide p i = false := decide_eq_false h
theorem set_mem {a : List Int} {k : Nat} {v : Int} {lo hi : Int} (ha : ∀ x ∈ a, lo ≤ x ∧ x ≤ hi) (hv : lo ≤ v ∧ v ≤ hi) : ∀ x ∈ a.set k v, lo ≤ x ∧ x ≤ hi := fun x hx => by
  rcases List.mem_or_eq_of_mem_set hx with h | h
  · exact ha x h
  · rw [h]; exact hv
theorem Pay_law {l : LedD} (h1 : l.1.length ≤ 1048576) (h2 : l.2.length ≤ 1048576) (x : TxD) : spec_Pay F0 l x = some ((payD l x).1, (payD l x).2, ()) := by
  rw [spec_Pay_eq, l3Copy_law h1 h2, bnd, LedgerOk_law, bnd]
  unfold payD
  cases hl : ledOk l with
  | false => rw [if_neg (by simp)]; rfl
  | true =>
    rw [Bool.not_true, br_false, TxOk_law, bnd]
    cases hx : txOk x with
    | false => rw [if_neg (by simp)]; rfl
    | true =>
      rw [Bool.not_true, br_false, if_pos ⟨rfl, rfl⟩]
      obtain ⟨e1, e2, e3, e4⟩ := ledOk_spec hl
      obtain ⟨q1, q2, q3, q4⟩ := txOk_spec hx
      have o0 : ∀ (y : Int) (n : Nat), n = 4 → 0 ≤ y → y ≤ 3 → okI y (n : Int) = true := fun y n h h1 h2 => by
        obtain ⟨u, rfl⟩ : ∃ u : Nat, y = u := ⟨y.toNat, by omega⟩
        exact okI_nat (by omega)
      have o1 := o0 x.1 _ e1 q1.1 q1.2
      have o2 := o0 x.1 _ e2 q1.1 q1.2
      have o3 : ∀ w, okI x.2.1 ((l.1.set x.1.toNat w).length : Int) = true := fun w => o0 x.2.1 _ (by rw [List.length_set]; exact e1) q2.1 q2.2
      simp only [o1, o2, o3, ck_true]
      have g1 : 0 ≤ at_ l.1 x.1 0 ∧ at_ l.1 x.1 0 ≤ 400 := e3 _ (getD_mem (a := l.1) (k := x.1.toNat) (by omega) 0)
      have g2 : 0 ≤ at_ l.2 x.1 0 ∧ at_ l.2 x.1 0 ≤ 100 := e4 _ (getD_mem (a := l.2) (k := x.1.toNat) (by omega) 0)
      by_cases c1 : x.2.2.2 < at_ l.2 x.1 0
      · rw [dT _ c1, br_true, if_pos c1]
      · rw [dF _ c1, br_false, if_neg c1]
        by_cases c2 : x.2.2.2 > at_ l.2 x.1 0
        · rw [dT _ c2, br_true, if_pos c2]
        · rw [dF _ c2, br_false, if_neg c2, w64_in (n := x.2.2.2 + 1) (by omega) (by omega)]
          by_cases c3 : x.2.2.1 > at_ l.1 x.1 0
          · rw [dT _ c3, br_true, if_pos c3]
          · have g3 : 0 ≤ at_ (l.1.set x.1.toNat (at_ l.1 x.1 0 - x.2.2.1)) x.2.1 0 ∧ at_ (l.1.set x.1.toNat (at_ l.1 x.1 0 - x.2.2.1)) x.2.1 0 ≤ 400 := set_mem (k := x.1.toNat) (v := at_ l.1 x.1 0 - x.2.2.1) e3 ⟨by omega, by omega⟩ _ (getD_mem (a := l.1.set x.1.toNat (at_ l.1 x.1 0 - x.2.2.1)) (k := x.2.1.toNat) (by rw [List.length_set]; omega) 0)
            rw [dF _ c3, br_false, if_neg c3, w64_in (n := at_ l.1 x.1 0 - x.2.2.1) (by omega) (by omega), w64_in (n := at_ (l.1.set x.1.toNat (at_ l.1 x.1 0 - x.2.2.1)) x.2.1 0 + x.2.2.1) (by omega) (by omega), LedgerOk_law, bnd]
            cases ledOk ((l.1.set x.1.toNat (at_ l.1 x.1 0 - x.2.2.1)).set x.2.1.toNat (at_ (l.1.set x.1.toNat (at_ l.1 x.1 0 - x.2.2.1)) x.2.1 0 + x.2.2.1), l.2.set x.1.toNat (x.2.2.2 + 1)) with
            | false => rw [if_neg (by simp), Bool.not_false, br_true, bnd]
            | true => rw [if_pos rfl]; rfl
theorem Pay_law2 {l : LedD} (h1 : l.1.length ≤ 1048576) (h2 : l.2.length ≤ 1048576) (x : TxD) : impl_Pay F0 l x = some ((payD l x).1, (payD l x).2, ()) := by
  rw [impl_Pay_eq, copyLedger_law h1 h2, bnd, LedgerOk_law2 h1 h2, bnd]
  unfold payD
  cases hl : ledOk l with
  | false => rw [if_neg (by simp)]; rfl
  | true =>
    rw [Bool.not_true, br_false, TxOk_law2, bnd]
    cases hx : txOk x with
    | false => rw [if_neg (by simp)]; rfl
    | true =>
      rw [Bool.not_true, br_false, if_pos ⟨rfl, rfl⟩]
      obtain ⟨e1, e2, e3, e4⟩ := ledOk_spec hl
      obtain ⟨q1, q2, q3, q4⟩ := txOk_spec hx
      have o0 : ∀ (y : Int) (n : Nat), n = 4 → 0 ≤ y → y ≤ 3 → okI y (n : Int) = true := fun y n h h1 h2 => by
        obtain ⟨u, rfl⟩ : ∃ u : Nat, y = u := ⟨y.toNat, by omega⟩
        exact okI_nat (by omega)
      have o1 := o0 x.1 _ e1 q1.1 q1.2
      have o2 := o0 x.1 _ e2 q1.1 q1.2
      have o3 : ∀ w, okI x.2.1 ((l.1.set x.1.toNat w).length : Int) = true := fun w => o0 x.2.1 _ (by rw [List.length_set]; exact e1) q2.1 q2.2
      simp only [o1, o2, o3, ck_true]
      have g1 : 0 ≤ at_ l.1 x.1 0 ∧ at_ l.1 x.1 0 ≤ 400 := e3 _ (getD_mem (a := l.1) (k := x.1.toNat) (by omega) 0)
      have g2 : 0 ≤ at_ l.2 x.1 0 ∧ at_ l.2 x.1 0 ≤ 100 := e4 _ (getD_mem (a := l.2) (k := x.1.toNat) (by omega) 0)
      by_cases c1 : x.2.2.2 < at_ l.2 x.1 0
      · rw [dT _ c1, br_true, if_pos c1]
      · rw [dF _ c1, br_false, if_neg c1]
        by_cases c2 : x.2.2.2 > at_ l.2 x.1 0
        · rw [dT _ c2, br_true, if_pos c2]
        · have hnn : at_ l.2 x.1 0 = x.2.2.2 := by omega
          rw [dF _ c2, br_false, if_neg c2, hnn, w64_in (n := x.2.2.2 + 1) (by omega) (by omega)]
          by_cases c3 : x.2.2.1 > at_ l.1 x.1 0
          · rw [dT _ c3, br_true, if_pos c3]
          · have g3 : 0 ≤ at_ (l.1.set x.1.toNat (at_ l.1 x.1 0 - x.2.2.1)) x.2.1 0 ∧ at_ (l.1.set x.1.toNat (at_ l.1 x.1 0 - x.2.2.1)) x.2.1 0 ≤ 400 := set_mem (k := x.1.toNat) (v := at_ l.1 x.1 0 - x.2.2.1) e3 ⟨by omega, by omega⟩ _ (getD_mem (a := l.1.set x.1.toNat (at_ l.1 x.1 0 - x.2.2.1)) (k := x.2.1.toNat) (by rw [List.length_set]; omega) 0)
            rw [dF _ c3, br_false, if_neg c3, w64_in (n := at_ l.1 x.1 0 - x.2.2.1) (by omega) (by omega), w64_in (n := at_ (l.1.set x.1.toNat (at_ l.1 x.1 0 - x.2.2.1)) x.2.1 0 + x.2.2.1) (by omega) (by omega), LedgerOk_law2 (by simp only [List.length_set]; omega) (by simp only [List.length_set]; omega), bnd]
            cases ledOk ((l.1.set x.1.toNat (at_ l.1 x.1 0 - x.2.2.1)).set x.2.1.toNat (at_ (l.1.set x.1.toNat (at_ l.1 x.1 0 - x.2.2.1)) x.2.1 0 + x.2.2.1), l.2.set x.1.toNat (x.2.2.2 + 1)) with
            | false => rw [if_neg (by simp), Bool.not_false, br_true, bnd]
            | true => rw [if_pos rfl]; rfl
theorem payD_len (l : LedD) (x : TxD) : (payD l x).1.1.length = l.1.length ∧ (payD l x).1.2.length = l.2.length := by
  unfold payD
  split
  · split
    · exact ⟨rfl, rfl⟩
    · split
      · exact ⟨rfl, rfl⟩
      · split
        · exact ⟨rfl, by simp⟩
        · split
          · exact ⟨by simp, by simp⟩
          · exact ⟨rfl, rfl⟩
  · exact ⟨rfl, rfl⟩
end Go.Am.Tryz
set_option linter.unusedVariables false
set_option linter.unusedSimpArgs false
namespace Go.Am.Tryz
open Go.Am
def led0 : LedD := ([100, 100, 100, 100], [0, 0, 0, 0])
theorem LedgerNew_law : spec_LedgerNew F0 = some (led0, ()) := by
  have st : ∀ n (k : Nat) (xs : List Int), k < 4 → xs.length = k → spec_LedgerNew_1 F0 (spec_LedgerNew_1_k F0) (n + 1) (spec_LedgerNew_1_s (k : Int) [] [] xs [0, 0, 0, 0]) = spec_LedgerNew_1 F0 (spec_LedgerNew_1_k F0) n (spec_LedgerNew_1_s ((k + 1 : Nat) : Int) [] [] (xs ++ [100]) [0, 0, 0, 0]) := fun n k xs hk hx => by
    rw [spec_LedgerNew_1_step, show decide ((k : Int) < 4) = true from decide_eq_true (by omega), br_true, okA_le (a := xs.length) (b := [(100 : Nat)].length) (k := 8) (by omega) (by omega) (by simp only [List.length_cons, List.length_nil]; omega), ck_true, w64_succ (by omega)]
  rw [spec_LedgerNew_eq, show okM F0 4 4 8 = true from okM_le (n := 4) (by omega) (by omega) (by omega), ck_true]
  refine loop_to (fun n i xs => spec_LedgerNew_1 F0 (spec_LedgerNew_1_k F0) n (spec_LedgerNew_1_s i [] [] xs [0, 0, 0, 0])) 4 (fun k xs => xs = List.replicate k 100) _ (fun n k xs hk hI => .inr ⟨_, st n k xs hk (by rw [hI]; simp), by rw [hI, ← List.replicate_succ']⟩) (fun n xs hI => ?_) F0.n 0 [] (by omega) rfl (by rw [n_eq]; omega)
  rw [spec_LedgerNew_1_step, show decide (((4 : Nat) : Int) < 4) = false from rfl, br_false, spec_LedgerNew_1_ce0, hI]
  rfl
theorem LedgerNew_law2 : impl_LedgerNew F0 = some (led0, ()) := by
  have st : ∀ n (k : Nat) (xs : List Int), k < 4 → xs.length = k → impl_LedgerNew_1 F0 (impl_LedgerNew_1_k F0) (n + 1) (impl_LedgerNew_1_s (k : Int) [] [] xs [0, 0, 0, 0]) = impl_LedgerNew_1 F0 (impl_LedgerNew_1_k F0) n (impl_LedgerNew_1_s ((k + 1 : Nat) : Int) [] [] (xs ++ [100]) [0, 0, 0, 0]) := fun n k xs hk hx => by
    rw [impl_LedgerNew_1_step, show decide ((k : Int) < 4) = true from decide_eq_true (by omega), br_true, okA_le (a := xs.length) (b := [(100 : Nat)].length) (k := 8) (by omega) (by omega) (by simp only [List.length_cons, List.length_nil]; omega), ck_true, w64_succ (by omega)]
  rw [impl_LedgerNew_eq, show okM F0 4 4 8 = true from okM_le (n := 4) (by omega) (by omega) (by omega), ck_true]
  refine loop_to (fun n i xs => impl_LedgerNew_1 F0 (impl_LedgerNew_1_k F0) n (impl_LedgerNew_1_s i [] [] xs [0, 0, 0, 0])) 4 (fun k xs => xs = List.replicate k 100) _ (fun n k xs hk hI => .inr ⟨_, st n k xs hk (by rw [hI]; simp), by rw [hI, ← List.replicate_succ']⟩) (fun n xs hI => ?_) F0.n 0 [] (by omega) rfl (by rw [n_eq]; omega)
  rw [impl_LedgerNew_1_step, show decide (((4 : Nat) : Int) < 4) = false from rfl, br_false, impl_LedgerNew_1_ce0, hI]
  rfl
theorem paid_law (c : Int) : impl_paid F0 c = some ((c == 0) || (c == 4), ()) := by
  rw [impl_paid_eq]
  cases h : (c == 0) <;> rfl
def Led4 (l : LedD) : Prop := l.1.length = 4 ∧ l.2.length = 4
theorem pay4 {l : LedD} (h : Led4 l) (x : TxD) : Led4 (payD l x).1 := ⟨(payD_len l x).1.trans h.1, (payD_len l x).2.trans h.2⟩
theorem at_is {α : Type} {a : List α} {k : Nat} (h : k < a.length) (d : α) : at_ a (k : Int) d = a[k] := by
  rw [at_nat]
  simp [List.getD, h]
theorem eta4 (x : TxD) : (x.1, (x.2.1, (x.2.2.1, x.2.2.2))) = x := rfl
def payCodes : LedD → List TxD → List Int
  | _, [] => []
  | l, x :: xs => (payD l x).2 :: payCodes (payD l x).1 xs
def payFin : LedD → List TxD → LedD
  | l, [] => l
  | l, x :: xs => payFin (payD l x).1 xs
theorem payFin4 : ∀ {xs : List TxD} {l : LedD}, Led4 l → Led4 (payFin l xs)
  | [], _, h => h
  | x :: xs, l, h => payFin4 (xs := xs) (pay4 h x)
theorem payCodes_len : ∀ (xs : List TxD) (l : LedD), (payCodes l xs).length = xs.length
  | [], _ => rfl
  | x :: xs, l => by simp [payCodes, payCodes_len xs]
theorem payCodes_app : ∀ (a b : List TxD) (l : LedD), payCodes l (a ++ b) = payCodes l a ++ payCodes (payFin l a) b
  | [], _, _ => rfl
  | x :: a, b, l => by simp [payCodes, payFin, payCodes_app a b]
theorem payFin_snoc : ∀ (a : List TxD) (x : TxD) (l : LedD), payFin l (a ++ [x]) = (payD (payFin l a) x).1
  | [], _, _ => rfl
  | y :: a, x, l => by simp [payFin, payFin_snoc a x]
theorem PayAll_law {l : LedD} (h4 : Led4 l) {list : List TxD} (hl : list.length ≤ 1048576) : spec_PayAll F0 l list = some (payFin l list, payCodes l list, ()) := by
  rw [spec_PayAll_eq, l3Copy_law (by have := h4.1; omega) (by have := h4.2; omega), bnd]
  refine loop_to (fun n i (z : List Int × LedD) => spec_PayAll_1 F0 (spec_PayAll_1_k F0) n (spec_PayAll_1_s list i z.1 [] [] z.2.1 z.2.2)) list.length (fun k z => z.1 = payCodes l (list.take k) ∧ z.2 = payFin l (list.take k)) _ (fun n k z hk hI => .inr ⟨(z.1 ++ [(payD z.2 list[k]).2], (payD z.2 list[k]).1), ?_, ?_⟩) (fun n z hI => ?_) F0.n 0 ([], l) (Nat.zero_le _) ⟨rfl, rfl⟩ (by rw [n_eq]; omega)
  · obtain ⟨h1, h2⟩ := hI
    have q4 : Led4 z.2 := by rw [h2]; exact payFin4 h4
    have hz : z.1.length ≤ 1048576 := by rw [h1, payCodes_len, List.length_take]; omega
    rw [spec_PayAll_1_step, dec_lt hk, br_true, okI_nat hk, ck_true, at_is hk]
    try rw [eta4]
    rw [Pay_law (l := (z.2.1, z.2.2)) (by have := q4.1; show z.2.1.length ≤ _; omega) (by have := q4.2; show z.2.2.length ≤ _; omega), bnd]
    simp only
    rw [okA_le (a := z.1.length) (b := [(payD (z.2.1, z.2.2) list[k]).2].length) (k := 8) (by omega) (by omega) (by simp only [List.length_cons, List.length_nil]; omega), ck_true, w64_succ (by omega)]
  · obtain ⟨h1, h2⟩ := hI
    have ht : list.take (k + 1) = list.take k ++ [list[k]] := by rw [List.take_add_one, List.getElem?_eq_getElem hk]; rfl
    refine ⟨?_, ?_⟩
    · rw [ht, payCodes_app, ← h1, ← h2]
      rfl
    · rw [ht, payFin_snoc, ← h2]
  · obtain ⟨h1, h2⟩ := hI
    rw [List.take_length] at h1 h2
    rw [spec_PayAll_1_step, dec_nlt, br_false, spec_PayAll_1_ce0, h1, h2]
theorem flat_len : ∀ {ss : List StepD}, (∀ s ∈ ss, StepOk s) → (ss.flatMap (·.2)).length ≤ 2 * ss.length
  | [], _ => by simp
  | s :: ss, h => by
    have h1 := (h s List.mem_cons_self).2.2.1
    have h2 := flat_len (ss := ss) fun x hx => h x (List.mem_cons_of_mem _ hx)
    rw [List.flatMap_cons, List.length_append, List.length_cons]
    omega
theorem TxsIn_law {l : List UInt8} (hl : l.length ≤ 1073741824) : spec_TxsIn F0 (tx l) = some ((stepsOf l).1.flatMap (·.2), ()) := by
  rw [spec_TxsIn_eq, Steps_law hl, bnd]
  have hlen := stepsOf_len l
  have hok := stepsOf_ok l
  generalize hss : (stepsOf l).1 = ss at hlen hok
  refine loop_to (fun n i xs => spec_TxsIn_1 F0 (spec_TxsIn_1_k F0) n (spec_TxsIn_1_s i xs ss)) ss.length (fun k xs => xs = (ss.take k).flatMap (·.2)) _ (fun n k xs hk hI => .inr ⟨_, ?_, rfl⟩) (fun n xs hI => ?_) F0.n 0 [] (Nat.zero_le _) rfl (by rw [n_eq]; omega)
  · have h1 := (hok _ (List.getElem_mem hk)).2.2.1
    have hx := flat_len (ss := ss.take k) fun x hx => hok x (List.mem_of_mem_take hx)
    rw [← hI, List.length_take] at hx
    rw [spec_TxsIn_1_step, dec_lt hk, br_true, okI_nat hk, ck_true, at_is hk, okA_le (a := xs.length) (b := ss[k].2.length) (k := 32) (by omega) (by omega) (by omega), ck_true, w64_succ (by omega), hI]
    have hf : (ss.take (k + 1)).flatMap (·.2) = (ss.take k).flatMap (·.2) ++ ss[k].2 := by
      rw [show ss.take (k + 1) = ss.take k ++ [ss[k]] by rw [List.take_add_one, List.getElem?_eq_getElem hk]; rfl, List.flatMap_append]
      simp
    rw [hf]
  · rw [List.take_length] at hI
    rw [spec_TxsIn_1_step, dec_nlt, br_false, spec_TxsIn_1_ce0, hI]
end Go.Am.Tryz
