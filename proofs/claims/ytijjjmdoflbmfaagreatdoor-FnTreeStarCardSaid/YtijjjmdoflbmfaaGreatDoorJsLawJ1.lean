/- Plain laws. No condition. -/
import Derived.Test.YtijjjmdoflbmfaaGreatDoorJsGen2
import Derived.Test.YtijjjmdoflbmfaaGreatDoorAmLoop
import Derived.Lib.MinMaxS
import Derived.Lib.CutLaws
import Derived.Lib.PathFns
import Derived.Lib.SplitLaws
import Derived.Test.YtijjjmdoflbmfaaGreatDoorAmMark
set_option linter.unusedVariables false
set_option linter.unusedSimpArgs false
namespace Go.Am.Tryz
open Go.Am
def I64 (n : Int) : Prop := -9223372036854775808 ≤ n ∧ n ≤ 9223372036854775807
theorem digits_law {n : Int} (h : I64 n) : spec_Digits F0 n = some (tx (Lib.itoa n), ()) := by
  rw [spec_Digits_eq]
  by_cases hz : n = 0
  · subst hz
    simp only [beq_self_eq_true, br_true]
    congr 2
    simp [tx, Lib.itoa, Lib.decDigits]
  · rw [show (n == 0) = false from beq_eq_false_iff_ne.2 hz, br_false]
    have hD : (Lib.decDigits n.natAbs).length ≤ 20 := by rw [Lib.decDigits_length]; exact Lib.nDigits_le20 _ (by obtain ⟨h1, h2⟩ := h; omega)
    refine loop_mu (fun m (x : Int × List UInt8) => spec_Digits_1 F0 (spec_Digits_1_k F0) m (spec_Digits_1_s x.1 (decide (n < 0)) (tx x.2))) _ (fun x => I64 x.1 ∧ digs x.1.natAbs ++ x.2 = Lib.decDigits n.natAbs) (fun x => x.1.natAbs) (fun m x hx => ?_) _ (n, []) ⟨h, ?_⟩ ?_
    · obtain ⟨x, l⟩ := x
      obtain ⟨⟨h1, h2⟩, h3⟩ := hx
      simp only at h1 h2 h3 ⊢
      have hl : l.length ≤ 20 := by
        have := congrArg List.length h3
        rw [List.length_append] at this
        omega
      by_cases hx0 : x = 0
      · left
        subst hx0
        rw [spec_Digits_1_step]
        simp only [bne_self_eq_false, br_false, spec_Digits_1_ce0]
        rw [show digs (Int.natAbs 0) = [] from rfl, List.nil_append] at h3
        subst h3
        by_cases hn : n < 0
        · rw [decide_eq_true hn, br_true, okC_le (by rw [tx_size]; have : (ByteArray.mk #[45]).size = 1 := rfl; omega), ck_true, show ByteArray.mk #[45] = tx [45] from rfl, tx_append]
          unfold Lib.itoa
          rw [if_pos hn]
          rfl
        · rw [decide_eq_false hn, br_false]
          unfold Lib.itoa
          rw [if_neg hn, show n.natAbs = n.toNat by omega]
      · right
        have hmod : x.natAbs % 10 < 10 := Nat.mod_lt _ (by omega)
        have hdiv : (Int.tdiv x 10).natAbs = x.natAbs / 10 := by rw [Int.natAbs_tdiv]; rfl
        have hI : I64 (Int.tdiv x 10) := ⟨by omega, by omega⟩
        have hr := digs_rec (u := x.natAbs) (by omega)
        have hw : w64 (Int.tdiv x 10) = Int.tdiv x 10 := w64_in hI.1 hI.2
        refine ⟨(Int.tdiv x 10, UInt8.ofNat (48 + x.natAbs % 10) :: l), ?_, ⟨hI, ?_⟩, ?_⟩
        · rw [spec_Digits_1_step, show (x != 0) = true from bne_iff_ne.2 hx0, br_true]
          have key : tx [UInt8.ofNat (48 + x.natAbs % 10)] ++ tx l = tx (UInt8.ofNat (48 + x.natAbs % 10) :: l) := by rw [tx_append]; rfl
          have hsz : okC F0 (tx [UInt8.ofNat (48 + x.natAbs % 10)]).size (tx l).size = true := okC_le (by rw [tx_size, tx_size]; simp only [List.length_cons, List.length_nil]; omega)
          by_cases hneg : x < 0
          · have hm : Int.tmod x 10 = -((x.natAbs % 10 : Nat) : Int) := by
              obtain ⟨u, rfl⟩ : ∃ u : Nat, x = -(u : Int) := ⟨x.natAbs, by omega⟩
              rw [Int.neg_tmod, Int.natAbs_neg, Int.natAbs_natCast]
              rfl
            by_cases hz : x.natAbs % 10 = 0
            · rw [hm, hz, show decide (-((0 : Nat) : Int) < 0) = false from rfl, br_false, show (48 + -((0 : Nat) : Int)) = 48 + ((0 : Nat) : Int) from rfl, dig (by omega)]
              rw [hz] at hsz key
              rw [hsz, ck_true, key, hw]
            · rw [hm, decide_eq_true (by omega), br_true, w64_in (n := 0 - -((x.natAbs % 10 : Nat) : Int)) (by omega) (by omega), show (0 : Int) - -((x.natAbs % 10 : Nat) : Int) = ((x.natAbs % 10 : Nat) : Int) by omega, dig hmod, hsz, ck_true, key, hw]
          · have hm : Int.tmod x 10 = ((x.natAbs % 10 : Nat) : Int) := by
              obtain ⟨u, rfl⟩ : ∃ u : Nat, x = (u : Int) := ⟨x.natAbs, by omega⟩
              rfl
            rw [hm, decide_eq_false (by omega), br_false, dig hmod, hsz, ck_true, key, hw]
        · simp only
          rw [hdiv, ← h3, hr]
          simp
        · simp only
          rw [hdiv]
          omega
    · simp only [List.append_nil]
      unfold digs
      rw [if_neg (by omega)]
    · simp only
      rw [n_eq]
      obtain ⟨h1, h2⟩ := h
      omega
theorem itoa_law {n : Int} (h : I64 n) : impl_Digits F0 n = some (tx (Lib.itoa n), ()) := by
  rw [impl_Digits_eq]
  unfold strconv_Itoa
  rw [decide_eq_true h.1, decide_eq_true h.2]
  rfl
theorem itoa_le {n : Int} (h : I64 n) : (Lib.itoa n).length ≤ 21 := Lib.itoa_length_le n h.1 h.2
/-! ### Sets -/
end Go.Am.Tryz
set_option linter.unusedVariables false
set_option linter.unusedSimpArgs false
namespace Go.Am.Tryz
open Go.Am
theorem tl_eq (a b : List UInt8) : ((tx a).toList == (tx b).toList) = decide (a = b) := by
  rw [Lib.toList_data, Lib.toList_data, tx_list, tx_list]
  by_cases h : a = b
  · simp [h]
  · simp [h]
theorem byte_tx (l : List UInt8) (k : Nat) : byteAt (tx l) (k : Int) = ((l.getD k 0).toNat : Int) := by
  unfold byteAt
  rw [tx_list]
  rfl
theorem byte_lt (c : UInt8) : c.toNat < 256 := UInt8.toNat_lt c
/-! ### Numbers -/
def isD (c : UInt8) : Bool := decide (48 ≤ c.toNat) && decide (c.toNat ≤ 57)
def val : List UInt8 → Nat → Nat
  | [], n => n
  | c :: l, n => val l (10 * n + (c.toNat - 48))
def numL (l : List UInt8) : Int × Bool :=
  if l.length < 1 ∨ 6 < l.length then (0, false)
  else if l.all isD then (if Lib.itoa (val l 0 : Int) = l then ((val l 0 : Int), true) else (0, false)) else (0, false)
theorem val_append (a b : List UInt8) (n : Nat) : val (a ++ b) n = val b (val a n) := by
  induction a generalizing n with
  | nil => rfl
  | cons c l ih => exact ih _
theorem val_lt {l : List UInt8} (h : ∀ c ∈ l, isD c = true) (n : Nat) : val l n < (n + 1) * 10 ^ l.length := by
  induction l generalizing n with
  | nil => simp [val]
  | cons c l ih =>
    have h1 := ih (fun d hd => h d (List.mem_cons_of_mem _ hd)) (10 * n + (c.toNat - 48))
    have h2 := h c List.mem_cons_self
    simp only [isD, Bool.and_eq_true, decide_eq_true_eq] at h2
    refine Nat.lt_of_lt_of_le h1 ?_
    rw [List.length_cons, Nat.pow_succ]
    have h3 : 10 * n + (c.toNat - 48) + 1 ≤ (n + 1) * 10 := by omega
    calc (10 * n + (c.toNat - 48) + 1) * 10 ^ l.length ≤ ((n + 1) * 10) * 10 ^ l.length := Nat.mul_le_mul_right _ h3
      _ = (n + 1) * (10 ^ l.length * 10) := by rw [Nat.mul_assoc, Nat.mul_comm 10]
theorem take_val {l : List UInt8} {k : Nat} (h : k < l.length) : val (l.take (k + 1)) 0 = 10 * val (l.take k) 0 + ((l.getD k 0).toNat - 48) := by
  rw [List.take_add_one, getD_is h 0, val_append]
  rfl
theorem val_small {l : List UInt8} (h6 : l.length ≤ 6) (h : ∀ c ∈ l, isD c = true) : val l 0 ≤ 999999 := by
  have h1 := val_lt h 0
  have h2 : 10 ^ l.length ≤ 10 ^ 6 := Nat.pow_le_pow_right (by omega) h6
  omega
theorem numL_i64 (l : List UInt8) : 0 ≤ (numL l).1 ∧ (numL l).1 ≤ 999999 := by
  unfold numL
  split
  · simp
  · split
    · rename_i h1 h2
      have := val_small (l := l) (by omega) (fun c hc => List.all_eq_true.1 h2 c hc)
      split
      · simp only
        omega
      · simp
    · simp
theorem num_core {l : List UInt8} (h1 : 1 ≤ l.length) (h6 : l.length ≤ 6) {X : Nat → Int → Int → Option (Int × (Bool × Unit))} {D : Int → Option (ByteArray × Unit)} (hD : ∀ n, I64 n → D n = some (tx (Lib.itoa n), ()))
    (hs : ∀ n k (m : Nat), k < l.length → m ≤ 999999 → X (n + 1) m k = br (decide (((l.getD k 0).toNat : Int) < 48)) (some (0, false, ())) (br (decide (((l.getD k 0).toNat : Int) > 57)) (some (0, false, ())) (X n (w64 (w64 (10 * m) + w64 ((l.getD k 0).toNat - 48))) ((k + 1 : Nat) : Int))))
    (he : ∀ n (m : Nat), X (n + 1) m l.length = (D m).bind fun r => br (!(r.1.toList == (tx l).toList)) (some (0, false, ())) (some ((m : Int), true, ()))) (n : Nat) (hn : 6 < n) : X n 0 0 = some ((numL l).1, (numL l).2, ()) := by
  refine loop_to (fun n i (m : Nat) => X n m i) l.length (fun k m => m = val (l.take k) 0 ∧ ∀ c ∈ l.take k, isD c = true) _ (fun n k m hk hI => ?_) (fun n m hI => ?_) n 0 0 (Nat.zero_le _) ⟨rfl, by simp⟩ (by omega)
  · obtain ⟨rfl, hall⟩ := hI
    have hsm := val_small (l := l.take k) (by rw [List.length_take]; omega) hall
    have hmem := getD_mem hk (0 : UInt8)
    have hb := byte_lt (l.getD k 0)
    rw [hs n k _ hk hsm]
    by_cases h48 : (l.getD k 0).toNat < 48
    · left
      rw [decide_eq_true (by omega), br_true]
      have : l.all isD = false := by
        rw [List.all_eq_false]
        exact ⟨_, hmem, fun h => by simp only [isD, Bool.and_eq_true, decide_eq_true_eq] at h; omega⟩
      unfold numL
      rw [if_neg (by omega), this]
      rfl
    · by_cases h57 : (l.getD k 0).toNat > 57
      · left
        rw [decide_eq_false (by omega), br_false, decide_eq_true (by omega), br_true]
        have : l.all isD = false := by
          rw [List.all_eq_false]
          exact ⟨_, hmem, fun h => by simp only [isD, Bool.and_eq_true, decide_eq_true_eq] at h; omega⟩
        unfold numL
        rw [if_neg (by omega), this]
        rfl
      · right
        refine ⟨val (l.take (k + 1)) 0, ?_, rfl, ?_⟩
        · rw [decide_eq_false (by omega), br_false, decide_eq_false (by omega), br_false, take_val hk, w64_in (n := 10 * _) (by omega) (by omega), w64_in (n := ((l.getD k 0).toNat : Int) - 48) (by omega) (by omega), w64_in (by omega) (by omega)]
          congr 1
          omega
        · intro c hc
          rw [List.take_add_one, getD_is hk 0] at hc
          rcases List.mem_append.1 hc with hc | hc
          · exact hall c hc
          · simp only [Option.toList_some, List.mem_singleton] at hc
            subst hc
            simp only [isD, Bool.and_eq_true, decide_eq_true_eq]
            omega
  · obtain ⟨rfl, hall⟩ := hI
    rw [List.take_length] at hall ⊢
    have hsm := val_small h6 hall
    rw [he, hD _ ⟨by omega, by omega⟩, bnd, tl_eq]
    unfold numL
    rw [if_neg (by omega), if_pos (List.all_eq_true.2 hall)]
    by_cases hit : Lib.itoa (val l 0 : Int) = l
    · rw [decide_eq_true hit, if_pos hit]
      rfl
    · rw [decide_eq_false hit, if_neg hit]
      rfl
theorem number_law (l : List UInt8) : spec_Number F0 (tx l) = some ((numL l).1, (numL l).2, ()) := by
  rw [spec_Number_eq, tx_size]
  by_cases h1 : l.length < 1
  · rw [decide_eq_true (by omega), br_true]
    unfold numL
    rw [if_pos (.inl h1)]
  · rw [decide_eq_false (by omega), br_false]
    by_cases h6 : 6 < l.length
    · rw [decide_eq_true (by omega), br_true]
      unfold numL
      rw [if_pos (.inr h6)]
    · rw [decide_eq_false (by omega), br_false]
      refine num_core (X := fun n m k => spec_Number_1 F0 (spec_Number_1_k F0) n (spec_Number_1_s (tx l) m k)) (by omega) (by omega) (fun n hn => digits_law hn) (fun n k m hk hm => ?_) (fun n m => ?_) _ (by rw [n_eq]; omega)
      · have hb := byte_lt (l.getD k 0)
        rw [spec_Number_1_step]
        simp only [tx_size, byte_tx, spec_Number_1_cr, dec_lt hk, okI_nat hk, br_true, ck_true, w64_succ (show k + 1 ≤ 9223372036854775807 by omega)]
        congr 2
        congr 2
        rw [w64_in (n := 10 * (m : Int)) (by omega) (by omega), w64_in (n := ((l.getD k 0).toNat : Int)) (by omega) (by omega), w64_in (n := 10 * (m : Int) + ((l.getD k 0).toNat : Int)) (by omega) (by omega), w64_in (n := ((l.getD k 0).toNat : Int) - 48) (by omega) (by omega)]
        congr 1
        omega
      · rw [spec_Number_1_step]
        simp only [tx_size, dec_nlt, br_false, spec_Number_1_ce0]
theorem number_law2 (l : List UInt8) : impl_Number F0 (tx l) = some ((numL l).1, (numL l).2, ()) := by
  rw [impl_Number_eq, tx_size]
  by_cases h1 : l.length < 1
  · rw [decide_eq_true (by omega), br_true]
    unfold numL
    rw [if_pos (.inl h1)]
  · rw [decide_eq_false (by omega), br_false]
    by_cases h6 : 6 < l.length
    · rw [decide_eq_true (by omega), br_true]
      unfold numL
      rw [if_pos (.inr h6)]
    · rw [decide_eq_false (by omega), br_false]
      refine num_core (X := fun n m k => impl_Number_1 F0 (impl_Number_1_k F0) n (impl_Number_1_s (tx l) m k)) (by omega) (by omega) (fun n hn => itoa_law hn) (fun n k m hk hm => ?_) (fun n m => ?_) _ (by rw [n_eq]; omega)
      · have hb := byte_lt (l.getD k 0)
        rw [impl_Number_1_step]
        simp only [tx_size, byte_tx, impl_Number_1_cr, dec_lt hk, okI_nat hk, br_true, ck_true, w64_succ (show k + 1 ≤ 9223372036854775807 by omega)]
        by_cases h48 : (l.getD k 0).toNat < 48
        · rw [decide_eq_true (by omega), br_true, br_true]
        · rw [IntWalk.u8_in _ (by omega)]
      · rw [impl_Number_1_step]
        simp only [tx_size, dec_nlt, br_false, impl_Number_1_ce0]
end Go.Am.Tryz
set_option linter.unusedVariables false
set_option linter.unusedSimpArgs false
namespace Go.Am.Tryz
open Go.Am
theorem extract_to (l : List UInt8) (k : Nat) : (tx l).extract 0 k = tx (l.take k) := by
  rw [tx_of ((tx l).extract 0 k), Lib.Pa.extract_upto_list, tx_list]
theorem extract_from (l : List UInt8) (k : Nat) : (tx l).extract k (tx l).size = tx (l.drop k) := by
  rw [tx_of ((tx l).extract k (tx l).size), Lib.extract_to_end, tx_list]
theorem tw_at {a b : List UInt8} {c : UInt8} (h : c ∉ a) : (a ++ c :: b).takeWhile (· != c) = a ∧ (a ++ c :: b).dropWhile (· != c) = c :: b := by
  induction a with
  | nil => simp
  | cons x a ih =>
    have hx : (x != c) = true := by simp; rintro rfl; simp at h
    have := ih fun h' => h (List.mem_cons_of_mem _ h')
    rw [List.cons_append, List.takeWhile_cons, List.dropWhile_cons, hx]
    exact ⟨by simp [this.1], by simp [this.2]⟩
theorem tw_no {a : List UInt8} {c : UInt8} (h : c ∉ a) : a.takeWhile (· != c) = a ∧ a.dropWhile (· != c) = [] := by
  induction a with
  | nil => simp
  | cons x a ih =>
    have hx : (x != c) = true := by simp; rintro rfl; simp at h
    have := ih fun h' => h (List.mem_cons_of_mem _ h')
    rw [List.takeWhile_cons, List.dropWhile_cons, hx]
    exact ⟨by simp [this.1], by simp [this.2]⟩
theorem split_at {l : List UInt8} {k : Nat} (h : k < l.length) : l = l.take k ++ l.getD k 0 :: l.drop (k + 1) := by
  have : l.getD k 0 = l[k] := by simp [List.getD, h]
  rw [this, List.getElem_cons_drop, List.take_append_drop]
theorem l2Cut_law {l : List UInt8} (c : UInt8) (hl : l.length ≤ 4294967296) :
    spec_l2Cut F0 (tx l) (c.toNat : Int) = some (if c ∈ l then (tx (l.takeWhile (· != c)), tx ((l.dropWhile (· != c)).drop 1), true, ()) else (tx [], tx [], false, ())) := by
  rw [spec_l2Cut_eq]
  refine loop_to (fun n i (_ : Unit) => spec_l2Cut_1 F0 (spec_l2Cut_1_k F0) n (spec_l2Cut_1_s (tx l) (c.toNat : Int) i)) l.length (fun k _ => c ∉ l.take k) _ (fun n k _ hk hI => ?_) (fun n _ hI => ?_) F0.n 0 () (Nat.zero_le _) (by simp) (by rw [n_eq]; omega)
  · rw [spec_l2Cut_1_step, tx_size, dec_lt hk, br_true, okI_nat hk, ck_true, byte_tx]
    by_cases hc : l.getD k 0 = c
    · left
      have hs := split_at hk
      rw [hc] at hs
      have ht := tw_at (b := l.drop (k + 1)) hI
      have h1 : ((((l.getD k 0).toNat : Int)) == (c.toNat : Int)) = true := by rw [hc]; simp
      have h2 : okS 0 (k : Int) (l.length : Int) = true := by simp [okS]; omega
      have h3 : okS ((k + 1 : Nat) : Int) (l.length : Int) (l.length : Int) = true := by simp only [okS, Bool.and_eq_true, decide_eq_true_eq]; omega
      rw [h1, br_true, h2, ck_true, w64_succ (by omega), h3, ck_true, spec_l2Cut_1_cr]
      simp only [Int.toNat_natCast, show (0 : Int).toNat = 0 from rfl]
      have hm : c ∈ l := by rw [hs]; simp
      rw [if_pos hm, extract_to, show ((tx l).extract (k + 1) l.length) = tx (l.drop (k + 1)) by rw [← extract_from, tx_size]]
      have e1 : l.takeWhile (· != c) = l.take k := by
        have := ht.1
        rwa [← hs] at this
      have e2 : (l.dropWhile (· != c)).drop 1 = l.drop (k + 1) := by
        have := ht.2
        rw [← hs] at this
        rw [this]
        rfl
      rw [e1, e2]
    · right
      have h1 : ((((l.getD k 0).toNat : Int)) == (c.toNat : Int)) = false := by
        refine beq_eq_false_iff_ne.2 fun h => hc (UInt8.toNat_inj.1 (by omega))
      refine ⟨(), by rw [h1, br_false, w64_succ (by omega)], ?_⟩
      rw [List.take_add_one, getD_is hk 0]
      simp only [Option.toList_some, List.mem_append, List.mem_singleton]
      rintro (h | h)
      · exact hI h
      · exact hc h.symm
  · rw [List.take_length] at hI
    rw [spec_l2Cut_1_step, tx_size, dec_nlt, br_false, spec_l2Cut_1_ce0, if_neg hI]
    rfl
theorem indexByte_at {a b : List UInt8} {c : UInt8} (h : c ∉ a) : Lib.indexByte (a ++ c :: b) c = a.length := by
  induction a with
  | nil => simp [Lib.indexByte]
  | cons x a ih =>
    have hx : (x == c) = false := by simp; rintro rfl; simp at h
    have := ih fun h' => h (List.mem_cons_of_mem _ h')
    rw [List.cons_append]
    unfold Lib.indexByte
    rw [hx, this]
    simp
theorem indexByte_no {a : List UInt8} {c : UInt8} (h : c ∉ a) : Lib.indexByte a c = -1 := by
  induction a with
  | nil => rfl
  | cons x a ih =>
    have hx : (x == c) = false := by simp; rintro rfl; simp at h
    have := ih fun h' => h (List.mem_cons_of_mem _ h')
    unfold Lib.indexByte
    rw [hx, this]
    rfl
theorem exists_first {l : List UInt8} {c : UInt8} (h : c ∈ l) : ∃ a b, l = a ++ c :: b ∧ c ∉ a := by
  induction l with
  | nil => cases h
  | cons x l ih =>
    by_cases hx : x = c
    · exact ⟨[], l, by rw [hx]; rfl, by simp⟩
    · rcases List.mem_cons.1 h with h' | h'
      · exact absurd h'.symm hx
      · obtain ⟨a, b, h1, h2⟩ := ih h'
        exact ⟨x :: a, b, by rw [h1]; rfl, fun h3 => by
          rcases List.mem_cons.1 h3 with h4 | h4
          · exact hx h4.symm
          · exact h2 h4⟩
theorem cut_law (l : List UInt8) (c : UInt8) : Lib.cut l [c] = (l.takeWhile (· != c), (l.dropWhile (· != c)).drop 1, decide (c ∈ l)) := by
  unfold Lib.cut
  rw [Lib.index_one]
  by_cases h : c ∈ l
  · obtain ⟨a, b, rfl, h2⟩ := exists_first h
    rw [indexByte_at h2, if_pos (by omega), (tw_at h2).1, (tw_at h2).2]
    simp [List.take_append, List.drop_append]
  · rw [indexByte_no h, if_neg (by omega), (tw_no h).1, (tw_no h).2]
    simp [h]
theorem strings_Cut_law {l : List UInt8} (c : UInt8) (hl : l.length < 4294967281) : strings_Cut F0 (tx l) (tx [c]) = some (tx (l.takeWhile (· != c)), tx ((l.dropWhile (· != c)).drop 1), decide (c ∈ l), ()) := by
  have h : Nat.blt (tx l).size 4294967281 = true := by rw [tx_size]; simpa using hl
  unfold strings_Cut
  rw [h, ck_true, tx_list, tx_list, cut_law]
  rfl
end Go.Am.Tryz
set_option linter.unusedVariables false
set_option linter.unusedSimpArgs false
namespace Go.Am.Tryz
open Go.Am
abbrev TxD := Int × (Int × (Int × Int))
theorem l1In_law (x lo hi : Int) : spec_l1In F0 x lo hi = some (decide (lo ≤ x) && decide (x ≤ hi), ()) := by
  rw [spec_l1In_eq]
  by_cases h : lo ≤ x
  · rw [decide_eq_true (show x ≥ lo from h), br_true, Bool.true_and]
  · rw [decide_eq_false (show ¬ x ≥ lo from h), br_false, Bool.false_and]
theorem within_law (x lo hi : Int) : impl_within F0 x lo hi = some (decide (lo ≤ x) && decide (x ≤ hi), ()) := by
  rw [impl_within_eq]
  by_cases h : lo ≤ x
  · rw [decide_eq_true (show x ≥ lo from h), br_true, Bool.true_and]
  · rw [decide_eq_false (show ¬ x ≥ lo from h), br_false, Bool.false_and]
def inB (x lo hi : Int) : Bool := decide (lo ≤ x) && decide (x ≤ hi)
def txOk (x : TxD) : Bool := inB x.1 0 3 && inB x.2.1 0 3 && inB x.2.2.1 0 1000 && inB x.2.2.2 0 99
theorem br_and (a b : Bool) : br a (some (b, ())) (some (false, ())) = some (a && b, ()) := by cases a <;> rfl
theorem TxOk_law (x : TxD) : spec_TxOk F0 x = some (txOk x, ()) := by
  rw [spec_TxOk_eq]
  simp only [l1In_law, bnd, br_and]
  simp only [txOk, inB, Bool.and_assoc]
theorem TxOk_law2 (x : TxD) : impl_TxOk F0 x = some (txOk x, ()) := by
  rw [impl_TxOk_eq]
  simp only [within_law, bnd, br_and]
  simp only [txOk, inB, Bool.and_assoc]
theorem txOk_spec {x : TxD} (h : txOk x = true) : (0 ≤ x.1 ∧ x.1 ≤ 3) ∧ (0 ≤ x.2.1 ∧ x.2.1 ≤ 3) ∧ (0 ≤ x.2.2.1 ∧ x.2.2.1 ≤ 1000) ∧ (0 ≤ x.2.2.2 ∧ x.2.2.2 ≤ 99) := by
  simp only [txOk, inB, Bool.and_eq_true, decide_eq_true_eq] at h
  exact ⟨h.1.1.1, h.1.1.2, h.1.2, h.2⟩
def txL (x : TxD) : List UInt8 := Lib.itoa x.1 ++ 62 :: (Lib.itoa x.2.1 ++ 58 :: (Lib.itoa x.2.2.1 ++ 35 :: Lib.itoa x.2.2.2))
theorem txL_le {x : TxD} (h : txOk x = true) : (txL x).length ≤ 90 := by
  obtain ⟨h1, h2, h3, h4⟩ := txOk_spec h
  have e1 := itoa_le (n := x.1) ⟨by omega, by omega⟩
  have e2 := itoa_le (n := x.2.1) ⟨by omega, by omega⟩
  have e3 := itoa_le (n := x.2.2.1) ⟨by omega, by omega⟩
  have e4 := itoa_le (n := x.2.2.2) ⟨by omega, by omega⟩
  simp only [txL, List.length_append, List.length_cons]
  omega
def txText (x : TxD) : List UInt8 := if txOk x = true then txL x else []
theorem TxText_law (x : TxD) : spec_TxText F0 x = some (tx (txText x), ()) := by
  rw [spec_TxText_eq, TxOk_law, bnd]
  unfold txText
  cases h : txOk x with
  | false => rfl
  | true =>
    obtain ⟨h1, h2, h3, h4⟩ := txOk_spec h
    have d1 := digits_law (n := x.1) ⟨by omega, by omega⟩
    have d2 := digits_law (n := x.2.1) ⟨by omega, by omega⟩
    have d3 := digits_law (n := x.2.2.1) ⟨by omega, by omega⟩
    have d4 := digits_law (n := x.2.2.2) ⟨by omega, by omega⟩
    have e := txL_le h
    simp only [txL, List.length_append, List.length_cons] at e
    simp only [Bool.not_true, br_false, d1, d2, d3, d4, bnd, show ByteArray.mk #[62] = tx [62] from rfl, show ByteArray.mk #[58] = tx [58] from rfl, show ByteArray.mk #[35] = tx [35] from rfl, tx_append, tx_size]
    rw [okC_le (by simp only [List.length_append, List.length_cons, List.length_nil]; omega), ck_true, okC_le (by simp only [List.length_append, List.length_cons, List.length_nil]; omega), ck_true, okC_le (by simp only [List.length_append, List.length_cons, List.length_nil]; omega), ck_true, okC_le (by simp only [List.length_append, List.length_cons, List.length_nil]; omega), ck_true, okC_le (by simp only [List.length_append, List.length_cons, List.length_nil]; omega), ck_true, okC_le (by simp only [List.length_append, List.length_cons, List.length_nil]; omega), ck_true]
    simp [txL]
theorem TxText_law2 (x : TxD) : impl_TxText F0 x = some (tx (txText x), ()) := by
  rw [impl_TxText_eq, TxOk_law2, bnd]
  unfold txText
  cases h : txOk x with
  | false => rfl
  | true =>
    obtain ⟨h1, h2, h3, h4⟩ := txOk_spec h
    have d1 := itoa_law (n := x.1) ⟨by omega, by omega⟩
    have d2 := itoa_law (n := x.2.1) ⟨by omega, by omega⟩
    have d3 := itoa_law (n := x.2.2.1) ⟨by omega, by omega⟩
    have d4 := itoa_law (n := x.2.2.2) ⟨by omega, by omega⟩
    have e := txL_le h
    simp only [txL, List.length_append, List.length_cons] at e
    simp only [Bool.not_true, br_false, d1, d2, d3, d4, bnd, show ByteArray.mk #[62] = tx [62] from rfl, show ByteArray.mk #[58] = tx [58] from rfl, show ByteArray.mk #[35] = tx [35] from rfl, tx_append, tx_size]
    rw [okC_le (by simp only [List.length_append, List.length_cons, List.length_nil]; omega), ck_true, okC_le (by simp only [List.length_append, List.length_cons, List.length_nil]; omega), ck_true, okC_le (by simp only [List.length_append, List.length_cons, List.length_nil]; omega), ck_true, okC_le (by simp only [List.length_append, List.length_cons, List.length_nil]; omega), ck_true, okC_le (by simp only [List.length_append, List.length_cons, List.length_nil]; omega), ck_true, okC_le (by simp only [List.length_append, List.length_cons, List.length_nil]; omega), ck_true]
    simp [txL]
/-! ### Numerals read back -/
theorem dec_all (u : Nat) : ∀ c ∈ Lib.decDigits u, isD c = true := by
  induction u using Nat.strongRecOn with
  | ind u ih =>
    intro c hc
    rw [Lib.decDigits] at hc
    have key : ∀ v : Nat, v < 10 → isD (UInt8.ofNat (48 + v)) = true := fun v hv => by
      have : (UInt8.ofNat (48 + v)).toNat = 48 + v := by rw [UInt8.toNat_ofNat']; omega
      simp only [isD, this, Bool.and_eq_true, decide_eq_true_eq]
      omega
    by_cases h10 : u < 10
    · rw [dif_pos h10, List.mem_singleton] at hc
      rw [hc]
      exact key u h10
    · rw [dif_neg h10] at hc
      rcases List.mem_append.1 hc with hc | hc
      · exact ih (u / 10) (by omega) c hc
      · rw [List.mem_singleton] at hc
        rw [hc]
        exact key _ (Nat.mod_lt _ (by omega))
theorem dec_val (u : Nat) : val (Lib.decDigits u) 0 = u := by
  induction u using Nat.strongRecOn with
  | ind u ih =>
    have key : ∀ v : Nat, v < 10 → (UInt8.ofNat (48 + v)).toNat = 48 + v := fun v hv => by rw [UInt8.toNat_ofNat']; omega
    rw [Lib.decDigits]
    by_cases h10 : u < 10
    · rw [dif_pos h10]
      simp only [val, key u h10]
      omega
    · rw [dif_neg h10, val_append, ih (u / 10) (by omega)]
      simp only [val, key (u % 10) (Nat.mod_lt _ (by omega))]
      omega
theorem dec_len {k : Nat} : ∀ {u : Nat}, u < 10 ^ (k + 1) → 1 ≤ (Lib.decDigits u).length ∧ (Lib.decDigits u).length ≤ k + 1 := by
  induction k with
  | zero =>
    intro u hu
    rw [Lib.decDigits, dif_pos (by omega)]
    simp
  | succ k ih =>
    intro u hu
    rw [Lib.decDigits]
    by_cases h10 : u < 10
    · rw [dif_pos h10]
      simp
    · rw [dif_neg h10]
      have := ih (u := u / 10) (by rw [Nat.pow_succ] at hu; omega)
      rw [List.length_append, List.length_singleton]
      omega
theorem itoa_nat (u : Nat) : Lib.itoa (u : Int) = Lib.decDigits u := Lib.itoa_nonneg u
theorem numL_itoa {n : Int} (h0 : 0 ≤ n) (h1 : n ≤ 999999) : numL (Lib.itoa n) = (n, true) := by
  obtain ⟨u, rfl⟩ : ∃ u : Nat, n = u := ⟨n.toNat, by omega⟩
  rw [itoa_nat]
  have hl := dec_len (k := 5) (u := u) (by omega)
  unfold numL
  rw [if_neg (by omega), if_pos (List.all_eq_true.2 (dec_all u)), dec_val, itoa_nat, if_pos rfl]
theorem no_sep {n : Int} (h0 : 0 ≤ n) {c : UInt8} (hc : isD c = false) : c ∉ Lib.itoa n := by
  obtain ⟨u, rfl⟩ : ∃ u : Nat, n = u := ⟨n.toNat, by omega⟩
  rw [itoa_nat]
  intro h
  rw [dec_all u c h] at hc
  cases hc
/-! ### Out of a text -/
def cutS (l : List UInt8) (c : UInt8) : List UInt8 × List UInt8 := if c ∈ l then (l.takeWhile (· != c), (l.dropWhile (· != c)).drop 1) else ([], [])
def cutI (l : List UInt8) (c : UInt8) : List UInt8 × List UInt8 := (l.takeWhile (· != c), (l.dropWhile (· != c)).drop 1)
def parS (l : List UInt8) : TxD := ((numL (cutS l 62).1).1, ((numL (cutS (cutS l 62).2 58).1).1, ((numL (cutS (cutS (cutS l 62).2 58).2 35).1).1, (numL (cutS (cutS (cutS l 62).2 58).2 35).2).1)))
def parI (l : List UInt8) : TxD := ((numL (cutI l 62).1).1, ((numL (cutI (cutI l 62).2 58).1).1, ((numL (cutI (cutI (cutI l 62).2 58).2 35).1).1, (numL (cutI (cutI (cutI l 62).2 58).2 35).2).1)))
theorem cutS_at {a b : List UInt8} {c : UInt8} (h : c ∉ a) : cutS (a ++ c :: b) c = (a, b) := by
  unfold cutS
  rw [if_pos (by simp), (tw_at h).1, (tw_at h).2]
  rfl
theorem cutI_at {a b : List UInt8} {c : UInt8} (h : c ∉ a) : cutI (a ++ c :: b) c = (a, b) := by
  unfold cutI
  rw [(tw_at h).1, (tw_at h).2]
  rfl
theorem parS_txL {x : TxD} (h : txOk x = true) : parS (txL x) = x := by
  obtain ⟨h1, h2, h3, h4⟩ := txOk_spec h
  unfold parS txL
  rw [cutS_at (no_sep h1.1 (by decide)), cutS_at (no_sep h2.1 (by decide)), cutS_at (no_sep h3.1 (by decide))]
  simp only [numL_itoa h1.1 (by omega), numL_itoa h2.1 (by omega), numL_itoa h3.1 (by omega), numL_itoa h4.1 (by omega)]
theorem parI_txL {x : TxD} (h : txOk x = true) : parI (txL x) = x := by
  obtain ⟨h1, h2, h3, h4⟩ := txOk_spec h
  unfold parI txL
  rw [cutI_at (no_sep h1.1 (by decide)), cutI_at (no_sep h2.1 (by decide)), cutI_at (no_sep h3.1 (by decide))]
  simp only [numL_itoa h1.1 (by omega), numL_itoa h2.1 (by omega), numL_itoa h3.1 (by omega), numL_itoa h4.1 (by omega)]
def txOf (l : List UInt8) : TxD × Bool := if txOk (parS l) = true ∧ txL (parS l) = l then (parS l, true) else ((0, (0, (0, 0))), false)
theorem drop1_le (l : List UInt8) (c : UInt8) : ((l.dropWhile (· != c)).drop 1).length ≤ l.length := by
  rw [List.length_drop]
  have := (List.dropWhile_sublist (l := l) (· != c)).length_le
  omega
theorem cutS_le (l : List UInt8) (c : UInt8) : (cutS l c).2.length ≤ l.length := by
  unfold cutS
  split
  · exact drop1_le l c
  · simp
theorem cutI_le (l : List UInt8) (c : UInt8) : (cutI l c).2.length ≤ l.length := drop1_le l c
theorem l2Cut_tx {l : List UInt8} (c : UInt8) (hl : l.length ≤ 4294967296) : ∃ b, spec_l2Cut F0 (tx l) (c.toNat : Int) = some (tx (cutS l c).1, tx (cutS l c).2, b, ()) := by
  rw [l2Cut_law c hl]
  unfold cutS
  split
  · exact ⟨_, rfl⟩
  · exact ⟨_, rfl⟩
theorem TxOf_law {l : List UInt8} (hl : l.length ≤ 4294967280) : spec_TxOf F0 (tx l) = some ((txOf l).1, (txOf l).2, ()) := by
  obtain ⟨b1, e1⟩ := l2Cut_tx (l := l) 62 (by omega)
  obtain ⟨b2, e2⟩ := l2Cut_tx (l := (cutS l 62).2) 58 (by have := cutS_le l 62; omega)
  obtain ⟨b3, e3⟩ := l2Cut_tx (l := (cutS (cutS l 62).2 58).2) 35 (by have := cutS_le l 62; have := cutS_le (cutS l 62).2 58; omega)
  rw [spec_TxOf_eq]
  rw [show spec_l2Cut F0 (tx l) 62 = _ from e1, bnd, show spec_l2Cut F0 _ 58 = _ from e2, bnd, show spec_l2Cut F0 _ 35 = _ from e3, bnd, number_law, bnd, number_law, bnd, number_law, bnd, number_law, bnd, show (ByteArray.mk #[]) = tx [] from rfl, tl_eq]
  have hp : ((numL (cutS l 62).1).1, ((numL (cutS (cutS l 62).2 58).1).1, ((numL (cutS (cutS (cutS l 62).2 58).2 35).1).1, (numL (cutS (cutS (cutS l 62).2 58).2 35).2).1))) = parS l := rfl
  simp only [hp, TxText_law, bnd, tl_eq]
  unfold txOf txText
  by_cases hok : txOk (parS l) = true
  · rw [if_pos hok]
    by_cases ht : txL (parS l) = l
    · have hne : ¬ l = [] := by
        rw [← ht]
        simp [txL]
      rw [if_pos ⟨hok, ht⟩, decide_eq_false hne, br_false, decide_eq_true ht]
      rfl
    · rw [if_neg (fun h => ht h.2), decide_eq_false ht]
      cases decide (l = []) <;> rfl
  · rw [if_neg hok, if_neg (fun h => hok h.1)]
    by_cases hne : l = []
    · rw [decide_eq_true hne]
      rfl
    · rw [decide_eq_false hne, br_false, decide_eq_false (fun h => hne h.symm)]
      rfl
theorem TxOf_law2 {l : List UInt8} (hl : l.length < 4294967281) : impl_TxOf F0 (tx l) = some ((txOf l).1, (txOf l).2, ()) := by
  have e1 := strings_Cut_law (l := l) 62 hl
  have h2 := cutI_le l 62
  have h3 := cutI_le (cutI l 62).2 58
  have e2 := strings_Cut_law (l := (cutI l 62).2) 58 (by omega)
  have e3 := strings_Cut_law (l := (cutI (cutI l 62).2 58).2) 35 (by omega)
  rw [impl_TxOf_eq]
  rw [show ByteArray.mk #[62] = tx [62] from rfl, e1, bnd, show ByteArray.mk #[58] = tx [58] from rfl]
  rw [show strings_Cut F0 (tx ((l.dropWhile (· != 62)).drop 1)) (tx [58]) = _ from e2, bnd, show ByteArray.mk #[35] = tx [35] from rfl]
  rw [show strings_Cut F0 (tx (((cutI l 62).2.dropWhile (· != 58)).drop 1)) (tx [35]) = _ from e3, bnd]
  have n0 := fun (a b c d : ByteArray) => (show at_ [a, b, c, d] 0 ByteArray.empty = a from rfl)
  have n1 := fun (a b c d : ByteArray) => (show at_ [a, b, c, d] 1 ByteArray.empty = b from rfl)
  have n2 := fun (a b c d : ByteArray) => (show at_ [a, b, c, d] 2 ByteArray.empty = c from rfl)
  have n3 := fun (a b c d : ByteArray) => (show at_ [a, b, c, d] 3 ByteArray.empty = d from rfl)
  rw [show okI 0 4 = true from rfl, ck_true, n0, number_law2, bnd, show okI 1 4 = true from rfl, ck_true, n1, number_law2, bnd, show okI 2 4 = true from rfl, ck_true, n2, number_law2, bnd, show okI 3 4 = true from rfl, ck_true, n3, number_law2, bnd]
  have hp : ((numL (l.takeWhile (· != 62))).1, ((numL ((cutI l 62).2.takeWhile (· != 58))).1, ((numL ((cutI (cutI l 62).2 58).2.takeWhile (· != 35))).1, (numL (((cutI (cutI l 62).2 58).2.dropWhile (· != 35)).drop 1)).1))) = parI l := rfl
  simp only [hp, TxOk_law2, TxText_law2, bnd, tl_eq]
  unfold txOf txText
  by_cases hok : txOk (parI l) = true
  · rw [if_pos hok, hok]
    by_cases ht : txL (parI l) = l
    · have hpe : parS l = parI l := by
        have := parS_txL hok
        rw [ht] at this
        exact this
      rw [hpe, if_pos ⟨hok, ht⟩, decide_eq_true ht]
      rfl
    · have : ¬ (txOk (parS l) = true ∧ txL (parS l) = l) := by
        rintro ⟨q1, q2⟩
        have := parI_txL q1
        rw [q2] at this
        rw [this] at ht
        exact ht q2
      rw [if_neg this, decide_eq_false ht]
      rfl
  · have : ¬ (txOk (parS l) = true ∧ txL (parS l) = l) := by
      rintro ⟨q1, q2⟩
      have := parI_txL q1
      rw [q2] at this
      rw [this] at hok
      exact hok q1
    rw [if_neg this]
    have hf : txOk (parI l) = false := by simpa using hok
    rw [hf]
    rfl
theorem txOf_i64 (l : List UInt8) : txOk (txOf l).1 = true := by
  unfold txOf
  split
  · rename_i h1
    exact h1.1
  · rfl
end Go.Am.Tryz
set_option linter.unusedVariables false
set_option linter.unusedSimpArgs false
namespace Go.Am.Tryz
open Go.Am
def parts (c : UInt8) : List UInt8 → List (List UInt8)
  | [] => [[]]
  | x :: l => if x = c then [] :: parts c l else match parts c l with
    | p :: ps => (x :: p) :: ps
    | [] => [[x]]
theorem parts_ne (c : UInt8) (l : List UInt8) : parts c l ≠ [] := by
  cases l with
  | nil => simp [parts]
  | cons x l =>
    unfold parts
    split
    · simp
    · split <;> simp
theorem parts_no {c : UInt8} {a : List UInt8} (h : c ∉ a) : parts c a = [a] := by
  induction a with
  | nil => rfl
  | cons x a ih =>
    have hx : ¬ x = c := by rintro rfl; simp at h
    unfold parts
    rw [if_neg hx, ih fun h' => h (List.mem_cons_of_mem _ h')]
theorem parts_at {c : UInt8} {a b : List UInt8} (h : c ∉ a) : parts c (a ++ c :: b) = a :: parts c b := by
  induction a with
  | nil =>
    rw [List.nil_append]
    conv => lhs; unfold parts
    rw [if_pos rfl]
  | cons x a ih =>
    have hx : ¬ x = c := by rintro rfl; simp at h
    rw [List.cons_append]
    conv => lhs; unfold parts
    rw [if_neg hx, ih fun h' => h (List.mem_cons_of_mem _ h')]
theorem parts_len (c : UInt8) (l : List UInt8) : (parts c l).length ≤ l.length + 1 := by
  induction l with
  | nil => simp [parts]
  | cons x l ih =>
    unfold parts
    split
    · simp only [List.length_cons]
      omega
    · split
      · rename_i p ps h
        rw [h] at ih
        simp only [List.length_cons] at ih ⊢
        omega
      · simp
theorem parts_mem {c : UInt8} : ∀ {l p : List UInt8}, p ∈ parts c l → p.length ≤ l.length
  | [], p, h => by
    simp only [parts, List.mem_singleton] at h
    rw [h]
    simp
  | x :: l, p, h => by
    unfold parts at h
    split at h
    · rcases List.mem_cons.1 h with rfl | h
      · simp
      · have := parts_mem h
        simp only [List.length_cons]
        omega
    · split at h
      · rename_i q qs hq
        rcases List.mem_cons.1 h with rfl | h
        · have := parts_mem (c := c) (l := l) (p := q) (by rw [hq]; simp)
          simp only [List.length_cons]
          omega
        · have := parts_mem (c := c) (l := l) (p := p) (by rw [hq]; simp [h])
          simp only [List.length_cons]
          omega
      · rw [List.mem_singleton] at h
        rw [h]
        simp
theorem extract_mid (l : List UInt8) (a b : Nat) : (tx l).extract a b = tx ((l.drop a).take (b - a)) := by
  rw [tx_of ((tx l).extract a b), Lib.extract_data, tx_list]
theorem Split_law {l : List UInt8} (c : UInt8) (hl : l.length ≤ 4294967296) : spec_Split F0 (tx l) (c.toNat : Int) = some ((parts c l).map tx, ()) := by
  have hpl := parts_len c l
  rw [spec_Split_eq]
  refine loop_to (fun n i (z : Nat × List ByteArray) => spec_Split_1 F0 (spec_Split_1_k F0) n (spec_Split_1_s (tx l) (c.toNat : Int) (z.1 : Int) i z.2)) (l.length + 1)
    (fun k z => if k ≤ l.length then ∃ done : List (List UInt8), z.2 = done.map tx ∧ parts c l = done ++ parts c (l.drop z.1) ∧ z.1 ≤ k ∧ c ∉ (l.drop z.1).take (k - z.1) else z.2 = (parts c l).map tx) _ (fun n k z hk hI => .inr ?_) (fun n z hI => ?_) F0.n 0 (0, []) (Nat.zero_le _) ?_ (by rw [n_eq]; omega)
  · obtain ⟨from1, xs⟩ := z
    rw [if_pos (by omega)] at hI
    obtain ⟨done, rfl, hd, hf, hno⟩ := hI
    simp only at hd hf hno
    have hdl : done.length + 1 ≤ l.length + 1 := by
      have h1 := congrArg List.length hd
      have h2 : 0 < (parts c (l.drop from1)).length := List.length_pos_iff.2 (parts_ne c _)
      rw [List.length_append] at h1
      omega
    have hle : decide ((k : Int) ≤ (l.length : Int)) = true := decide_eq_true (by omega)
    rw [spec_Split_1_step, tx_size, hle, br_true]
    have hos : okS (from1 : Int) (k : Int) (l.length : Int) = true := by simp only [okS, Bool.and_eq_true, decide_eq_true_eq]; omega
    have hoa : ∀ b : ByteArray, okA F0 (done.map tx).length [b].length 16 = true := fun b => okA_le (by omega) (by omega) (by rw [List.length_map]; simp only [List.length_cons, List.length_nil]; omega)
    simp only [Int.toNat_natCast, extract_mid, hos, hoa, ck_true, w64_succ (show k + 1 ≤ 9223372036854775807 by omega)]
    by_cases hend : k = l.length
    · subst hend
      rw [beq_self_eq_true, br_true]
      refine ⟨(l.length + 1, (parts c l).map tx), ?_, by rw [if_neg (by omega)]⟩
      have ht : (l.drop from1).take (l.length - from1) = l.drop from1 := List.take_of_length_le (by rw [List.length_drop]; omega)
      rw [ht] at hno ⊢
      rw [hd, parts_no hno]
      simp
    · have hlt : k < l.length := by omega
      have hb : (((k : Nat) : Int) == (l.length : Int)) = false := beq_eq_false_iff_ne.2 (by omega)
      rw [hb, br_false, okI_nat hlt, ck_true, byte_tx]
      have hs : l.drop from1 = (l.drop from1).take (k - from1) ++ l.getD k 0 :: l.drop (k + 1) := by
        have := split_at (l := l.drop from1) (k := k - from1) (by rw [List.length_drop]; omega)
        have e1 : (l.drop from1).getD (k - from1) 0 = l.getD k 0 := by
          simp only [List.getD_eq_getElem?_getD, List.getElem?_drop]
          rw [show from1 + (k - from1) = k by omega]
        rw [e1, List.drop_drop, show from1 + (k - from1 + 1) = k + 1 by omega] at this
        exact this
      by_cases hc : l.getD k 0 = c
      · have h1 : ((((l.getD k 0).toNat : Int)) == (c.toNat : Int)) = true := by rw [hc]; simp
        rw [h1, br_true]
        refine ⟨(k + 1, done.map tx ++ [tx ((l.drop from1).take (k - from1))]), rfl, ?_⟩
        rw [if_pos (by omega)]
        refine ⟨done ++ [(l.drop from1).take (k - from1)], by simp, ?_, Nat.le_refl _, by simp⟩
        rw [hc] at hs
        rw [hd, hs, parts_at hno, ← hs]
        simp
      · have h1 : ((((l.getD k 0).toNat : Int)) == (c.toNat : Int)) = false := beq_eq_false_iff_ne.2 fun h => hc (UInt8.toNat_inj.1 (by omega))
        rw [h1, br_false]
        refine ⟨(from1, done.map tx), rfl, ?_⟩
        rw [if_pos (by omega)]
        refine ⟨done, rfl, hd, by show from1 ≤ k + 1; omega, ?_⟩
        have e1 : (l.drop from1).take (k + 1 - from1) = (l.drop from1).take (k - from1) ++ [l.getD k 0] := by
          rw [show k + 1 - from1 = (k - from1) + 1 by omega, List.take_add_one]
          congr 1
          have : (l.drop from1)[k - from1]? = some (l.getD k 0) := by
            rw [List.getElem?_drop, show from1 + (k - from1) = k by omega]
            exact getD_is hlt 0
          rw [this]
          rfl
        show c ∉ (l.drop from1).take (k + 1 - from1)
        rw [e1, List.mem_append, List.mem_singleton]
        rintro (h | h)
        · exact hno h
        · exact hc h.symm
  · rw [if_neg (by omega)] at hI
    rw [spec_Split_1_step, tx_size, decide_eq_false (by omega), br_false, spec_Split_1_ce0, hI]
  · rw [if_pos (by omega)]
    exact ⟨[], rfl, rfl, Nat.le_refl _, by simp⟩
end Go.Am.Tryz
set_option linter.unusedVariables false
set_option linter.unusedSimpArgs false
namespace Go.Am.Tryz
open Go.Am
theorem splitB_parts (c : UInt8) : ∀ (n : Nat) (l : List UInt8), l.length ≤ n → ∀ k, k = Lib.countB (tx l) (tx [c]) → Lib.splitB (tx [c]) 0 k (tx l) = (parts c l).map tx := by
  intro n
  induction n with
  | zero =>
    intro l hl k hk
    obtain rfl : l = [] := List.eq_nil_of_length_eq_zero (by omega)
    have hi : Lib.indexB (tx []) (tx [c]) = -1 := by
      show Lib.index (tx []).data.toList (tx [c]).data.toList = -1
      rw [tx_list, tx_list, Lib.index_one]
      rfl
    rw [Lib.splitB_miss _ _ _ _ hi]
    rfl
  | succ n ih =>
    intro l hl k hk
    by_cases h : c ∈ l
    · obtain ⟨a, b, rfl, h2⟩ := exists_first h
      have hi : Lib.indexB (tx (a ++ c :: b)) (tx [c]) = (a.length : Int) := by
        show Lib.index (tx (a ++ c :: b)).data.toList (tx [c]).data.toList = _
        rw [tx_list, tx_list, Lib.index_one, indexByte_at h2]
      have hsz : (tx [c]).size = 1 := tx_size [c]
      have hext : (tx (a ++ c :: b)).extract (a.length + (tx [c]).size) (tx (a ++ c :: b)).size = tx b := by
        rw [extract_from, hsz]
        congr 1
        simp [List.drop_append]
      have hcnt := Lib.countB_hit (tx (a ++ c :: b)) (tx [c]) a.length (by rw [hsz]; omega) hi
      rw [hext] at hcnt
      obtain ⟨k', rfl⟩ : ∃ k', k = k' + 1 := ⟨Lib.countB (tx b) (tx [c]), by omega⟩
      rw [Lib.splitB_hit _ _ _ _ _ hi, hext, ih b (by simp only [List.length_append, List.length_cons] at hl; omega) k' (by omega), parts_at h2, Nat.add_zero, extract_to]
      simp [List.take_append]
    · have hi : Lib.indexB (tx l) (tx [c]) = -1 := by
        show Lib.index (tx l).data.toList (tx [c]).data.toList = -1
        rw [tx_list, tx_list, Lib.index_one, indexByte_no h]
      rw [Lib.splitB_miss _ _ _ _ hi, parts_no h]
      rfl
theorem Split_law2 {l : List UInt8} (c : UInt8) (hl : l.length < 4294967281) : impl_Split F0 (tx l) (c.toNat : Int) = some ((parts c l).map tx, ()) := by
  have hso : strOf [(c.toNat : Int)] = tx [c] := by
    simp only [strOf, tx, List.map_cons, List.map_nil]
    congr 2
    simp
  have h : Nat.blt (tx l).size 4294967281 = true := by rw [tx_size]; simpa using hl
  have h2 : Nat.ble 1 (tx [c]).size = true := by rw [tx_size]; rfl
  rw [impl_Split_eq, hso]
  unfold strings_Split
  rw [h, h2, Bool.and_self, ck_true, bnd, splitB_parts c l.length l (Nat.le_refl _) _ rfl]

/-! ### Lists gathered, all or none -/
def allF {σ β : Type} (f : σ → List UInt8 → Option (σ × β)) : σ → List (List UInt8) → Option (List β)
  | _, [] => some []
  | s, p :: ps => match f s p with
    | none => none
    | some (s', b) => match allF f s' ps with
      | none => none
      | some r => some (b :: r)
theorem fold_loop {σ β γ : Type} (f : σ → List UInt8 → Option (σ × β)) (I : σ → Prop) (P : List (List UInt8)) (X : Nat → σ → Int → List β → Option γ) (R0 : Option γ) (R1 : List β → Option γ)
    (hs : ∀ n k s xs p, k < P.length → P[k]? = some p → I s → xs.length = k → X (n + 1) s (k : Int) xs = match f s p with | none => R0 | some (s', b) => X n s' ((k + 1 : Nat) : Int) (xs ++ [b]))
    (he : ∀ n s xs, xs.length = P.length → X (n + 1) s (P.length : Int) xs = R1 xs) (hI : ∀ s p s' b, I s → f s p = some (s', b) → I s') :
    ∀ (n k : Nat) (s : σ) (xs : List β), k ≤ P.length → P.length - k < n → I s → xs.length = k → X n s (k : Int) xs = match allF f s (P.drop k) with | none => R0 | some l => R1 (xs ++ l)
  | 0, _, _, _, _, h, _, _ => absurd h (Nat.not_lt_zero _)
  | n + 1, k, s, xs, hk, hn, hIs, hx => by
    rcases Nat.lt_or_ge k P.length with hlt | hge
    · have hp : P[k]? = some P[k] := List.getElem?_eq_getElem hlt
      rw [hs n k s xs P[k] hlt hp hIs hx, List.drop_eq_getElem_cons hlt]
      simp only [allF]
      cases hf : f s P[k] with
      | none => rfl
      | some q =>
        obtain ⟨s', b⟩ := q
        simp only
        rw [fold_loop f I P X R0 R1 hs he hI n (k + 1) s' (xs ++ [b]) hlt (by omega) (hI _ _ _ _ hIs hf) (by simp [hx])]
        cases allF f s' (P.drop (k + 1)) with
        | none => rfl
        | some r => simp
    · obtain rfl : k = P.length := by omega
      rw [he n s xs hx, List.drop_length]
      simp [allF]
theorem allF_len {σ β : Type} {f : σ → List UInt8 → Option (σ × β)} : ∀ {P : List (List UInt8)} {s : σ} {r : List β}, allF f s P = some r → r.length = P.length
  | [], _, r, h => by cases h; rfl
  | p :: ps, s, r, h => by
    simp only [allF] at h
    split at h
    · cases h
    · split at h
      · cases h
      · rename_i hr
        cases h
        simp [allF_len hr]
theorem allF_all {σ β : Type} {f : σ → List UInt8 → Option (σ × β)} {Q : β → Prop} (hQ : ∀ s p s' b, f s p = some (s', b) → Q b) : ∀ {P : List (List UInt8)} {s : σ} {r : List β}, allF f s P = some r → ∀ b ∈ r, Q b
  | [], _, r, h => by cases h; simp
  | p :: ps, s, r, h => by
    simp only [allF] at h
    split at h
    · cases h
    · rename_i hf
      split at h
      · cases h
      · rename_i hr
        cases h
        intro b hb
        rcases List.mem_cons.1 hb with rfl | hb
        · exact hQ _ _ _ _ hf
        · exact allF_all hQ hr b hb
/-! ### Payments -/
def txF (_ : Unit) (p : List UInt8) : Option (Unit × TxD) := if (txOf p).2 = true then some ((), (txOf p).1) else none
def txsOf (l : List UInt8) : List TxD × Bool := if l = [] then ([], true) else match allF txF () (parts 44 l) with | none => ([], false) | some r => (r, true)
theorem txsOf_len (l : List UInt8) : (txsOf l).1.length ≤ l.length + 1 := by
  unfold txsOf
  split
  · simp
  · split
    · simp
    · rename_i r hr
      have := allF_len hr
      have := parts_len 44 l
      simp only
      omega
theorem txsOf_ok (l : List UInt8) : ∀ x ∈ (txsOf l).1, txOk x = true := by
  unfold txsOf
  split
  · simp
  · split
    · simp
    · rename_i r hr
      refine allF_all (Q := fun x => txOk x = true) (fun s p s' b h => ?_) hr
      unfold txF at h
      split at h
      · cases h
        exact txOf_i64 p
      · cases h
theorem nil_eq (l : List UInt8) : ((tx l).toList == (ByteArray.mk #[]).toList) = decide (l = []) := tl_eq l []
theorem at_map (P : List (List UInt8)) (k : Nat) {p : List UInt8} (h : P[k]? = some p) : at_ (P.map tx) (k : Int) ByteArray.empty = tx p := by
  show (P.map tx).getD k ByteArray.empty = _
  simp [List.getD_eq_getElem?_getD, h]
theorem TxsOf_law {l : List UInt8} (hl : l.length ≤ 1073741824) : spec_TxsOf F0 (tx l) = some ((txsOf l).1, (txsOf l).2, ()) := by
  have hpl := parts_len 44 l
  rw [spec_TxsOf_eq, nil_eq]
  unfold txsOf
  by_cases h0 : l = []
  · rw [decide_eq_true h0, if_pos h0]
    rfl
  · rw [decide_eq_false h0, br_false, if_neg h0, show spec_Split F0 (tx l) 44 = _ from Split_law 44 (by omega), bnd]
    have := fold_loop txF (fun _ => True) (parts 44 l) (fun n _ i xs => spec_TxsOf_1 F0 (spec_TxsOf_1_k F0) n (spec_TxsOf_1_s i xs ((parts 44 l).map tx))) (some ([], false, ())) (fun xs => some (xs, true, ())) (fun n k s xs p hk hp _ hx => ?_) (fun n s xs hx => ?_) (fun _ _ _ _ _ _ => trivial) F0.n 0 () [] (Nat.zero_le _) (by rw [n_eq]; omega) trivial rfl
    · simp only [List.drop_zero, List.nil_append] at this
      rw [show ((0 : Nat) : Int) = 0 from rfl] at this
      rw [this]
      cases allF txF () (parts 44 l) <;> rfl
    · have hpm := parts_mem (List.mem_of_getElem? hp)
      rw [spec_TxsOf_1_step, List.length_map, dec_lt hk, br_true, okI_nat hk, ck_true, at_map _ _ hp, TxOf_law (by omega), bnd]
      unfold txF
      cases hok : (txOf p).2 with
      | false => simp only [Bool.not_false, br_true, spec_TxsOf_1_cr]; rfl
      | true =>
        simp only [Bool.not_true, br_false]
        rw [okA_le (b := [(txOf p).1].length) (k := 32) (by omega) (by omega) (by simp only [List.length_cons, List.length_nil]; omega), ck_true, w64_succ (by omega)]
        rfl
    · rw [spec_TxsOf_1_step, List.length_map, dec_nlt, br_false, spec_TxsOf_1_ce0]
theorem TxsOf_law2 {l : List UInt8} (hl : l.length ≤ 1073741824) : impl_TxsOf F0 (tx l) = some ((txsOf l).1, (txsOf l).2, ()) := by
  have hpl := parts_len 44 l
  rw [impl_TxsOf_eq, nil_eq]
  unfold txsOf
  by_cases h0 : l = []
  · rw [decide_eq_true h0, if_pos h0]
    rfl
  · rw [decide_eq_false h0, br_false, if_neg h0, show impl_Split F0 (tx l) 44 = _ from Split_law2 44 (by omega), bnd]
    have := fold_loop txF (fun _ => True) (parts 44 l) (fun n _ i xs => impl_TxsOf_1 F0 (impl_TxsOf_1_k F0) n (impl_TxsOf_1_s ((parts 44 l).map tx) (((parts 44 l).map tx).length : Int) i xs)) (some ([], false, ())) (fun xs => some (xs, true, ())) (fun n k s xs p hk hp _ hx => ?_) (fun n s xs hx => ?_) (fun _ _ _ _ _ _ => trivial) F0.n 0 () [] (Nat.zero_le _) (by rw [n_eq]; omega) trivial rfl
    · simp only [List.drop_zero, List.nil_append] at this
      rw [show ((0 : Nat) : Int) = 0 from rfl] at this
      rw [this]
      cases allF txF () (parts 44 l) <;> rfl
    · have hpm := parts_mem (List.mem_of_getElem? hp)
      rw [impl_TxsOf_1_step, List.length_map, dec_lt hk, br_true, okI_nat hk, ck_true, at_map _ _ hp, TxOf_law2 (by omega), bnd]
      unfold txF
      cases hok : (txOf p).2 with
      | false => simp only [Bool.not_false, br_true, impl_TxsOf_1_cr]; rfl
      | true =>
        simp only [Bool.not_true, br_false]
        rw [okA_le (b := [(txOf p).1].length) (k := 32) (by omega) (by omega) (by simp only [List.length_cons, List.length_nil]; omega), ck_true, w64_succ (by omega)]
        rfl
    · rw [impl_TxsOf_1_step, List.length_map, dec_nlt, br_false, impl_TxsOf_1_ce0]
end Go.Am.Tryz
set_option linter.unusedVariables false
set_option linter.unusedSimpArgs false
namespace Go.Am.Tryz
open Go.Am
abbrev StepD := Int × List TxD
def stepF (last : Int) (p : List UInt8) : Option (Int × StepD) :=
  if 124 ∈ p ∧ (numL (cutI p 124).1).2 = true ∧ (txsOf (cutI p 124).2).2 = true ∧ last < (numL (cutI p 124).1).1 ∧ (numL (cutI p 124).1).1 ≤ 60 ∧ (txsOf (cutI p 124).2).1.length ≤ 2
  then some ((numL (cutI p 124).1).1, ((numL (cutI p 124).1).1, (txsOf (cutI p 124).2).1)) else none
def stepsOf (l : List UInt8) : List StepD × Bool := if l = [] then ([], true) else match parts 47 l with
  | [] => ([], false)
  | p0 :: ps => if ¬ p0 = [] ∨ 30 < ps.length then ([], false) else match allF stepF 0 ps with
    | none => ([], false)
    | some r => (r, true)
def StepOk (s : StepD) : Prop := 0 ≤ s.1 ∧ s.1 ≤ 60 ∧ s.2.length ≤ 2 ∧ ∀ x ∈ s.2, txOk x = true
theorem stepF_ok {last : Int} {p : List UInt8} {s' : Int} {b : StepD} (h : stepF last p = some (s', b)) : StepOk b ∧ s' = b.1 := by
  unfold stepF at h
  split at h
  · rename_i hc
    cases h
    exact ⟨⟨(numL_i64 _).1, hc.2.2.2.2.1, hc.2.2.2.2.2, txsOf_ok _⟩, rfl⟩
  · cases h
theorem stepsOf_len (l : List UInt8) : (stepsOf l).1.length ≤ 30 := by
  unfold stepsOf
  split
  · simp
  · split
    · simp
    · split
      · simp
      · split
        · simp
        · rename_i hr
          have := allF_len hr
          simp only
          omega
theorem br6 {α : Type} (a b c d e f : Bool) (x y : α) : br (!a) x (br (!b) x (br (!c) x (br d x (br e x (br f x y))))) = if a = true ∧ b = true ∧ c = true ∧ d = false ∧ e = false ∧ f = false then y else x := by
  cases a <;> cases b <;> cases c <;> cases d <;> cases e <;> cases f <;> rfl
theorem br5 {α : Type} (a b c d f : Bool) (x y : α) : br (!a) x (br (!b) x (br (!c) x (br (!d) x (br f x y)))) = if a = true ∧ b = true ∧ c = true ∧ d = true ∧ f = false then y else x := by
  cases a <;> cases b <;> cases c <;> cases d <;> cases f <;> rfl
theorem Steps_law {l : List UInt8} (hl : l.length ≤ 1073741824) : spec_Steps F0 (tx l) = some ((stepsOf l).1, (stepsOf l).2, ()) := by
  have hpl := parts_len 47 l
  have hpm := fun p (h : p ∈ parts 47 l) => parts_mem h
  rw [spec_Steps_eq, nil_eq]
  unfold stepsOf
  by_cases h0 : l = []
  · rw [decide_eq_true h0, if_pos h0]
    rfl
  · rw [decide_eq_false h0, br_false, if_neg h0, show spec_Split F0 (tx l) 47 = _ from Split_law 47 (by omega), bnd]
    cases hP : parts 47 l with
    | nil => exact absurd hP (parts_ne 47 l)
    | cons p0 ps =>
      rw [hP] at hpl hpm
      simp only [List.length_cons] at hpl
      have ha0 : at_ ((p0 :: ps).map tx) 0 ByteArray.empty = tx p0 := rfl
      have ho : okI 0 (((p0 :: ps).map tx).length : Int) = true := okI_nat (k := 0) (by simp)
      simp only [ho, ck_true, ha0, nil_eq]
      by_cases hp0 : p0 = []
      · by_cases h30 : 30 < ps.length
        · rw [decide_eq_true hp0, Bool.not_true, br_false, decide_eq_true (by rw [List.length_map, List.length_cons]; omega), br_true, if_pos (.inr h30)]
        · rw [decide_eq_true hp0, Bool.not_true, br_false, decide_eq_false (by rw [List.length_map, List.length_cons]; omega), br_false, if_neg (by simp [hp0]; omega)]
          have := fold_loop stepF (fun s => 0 ≤ s ∧ s ≤ 60) ps (fun n s i xs => spec_Steps_1 F0 (spec_Steps_1_k F0) n (spec_Steps_1_s s (i + 1) [] xs ((p0 :: ps).map tx))) (some ([], false, ())) (fun xs => some (xs, true, ())) (fun n k s xs p hk hp hs hx => ?_) (fun n s xs hx => ?_) (fun s p s' b hs hf => ?_) F0.n 0 0 [] (Nat.zero_le _) (by rw [n_eq]; omega) ⟨by omega, by omega⟩ rfl
          · simp only [List.drop_zero, List.nil_append] at this
            rw [show ((0 : Nat) : Int) + 1 = 1 from rfl] at this
            rw [this]
            cases allF stepF 0 ps <;> rfl
          · have hpl1 := hpm p (List.mem_cons_of_mem _ (List.mem_of_getElem? hp))
            have hk1 : k + 1 < ((p0 :: ps).map tx).length := by simp; omega
            have hat : at_ ((p0 :: ps).map tx) (((k + 1 : Nat)) : Int) ByteArray.empty = tx p := at_map _ _ (by simpa using hp)
            rw [show ((k : Int) + 1) = ((k + 1 : Nat) : Int) by omega, spec_Steps_1_step, dec_lt hk1, br_true, okI_nat hk1, ck_true, hat, show spec_l2Cut F0 (tx p) 124 = _ from l2Cut_law 124 (by omega), bnd]
            have hrest := cutI_le p 124
            have hmx := numL_i64 (cutI p 124).1
            have htl := txsOf_len (cutI p 124).2
            by_cases hm : (124 : UInt8) ∈ p
            · rw [if_pos hm]
              simp only [number_law, bnd]
              rw [show spec_TxsOf F0 (tx ((p.dropWhile (· != 124)).drop 1)) = some ((txsOf (cutI p 124).2).1, (txsOf (cutI p 124).2).2, ()) from TxsOf_law (by show (cutI p 124).2.length ≤ _; omega), bnd]
              simp only [spec_Steps_1_cr]
              rw [br6]
              unfold stepF
              have hw : (numL (p.takeWhile (· != 124))) = numL (cutI p 124).1 := rfl
              rw [hw]
              by_cases hcond : 124 ∈ p ∧ (numL (cutI p 124).1).2 = true ∧ (txsOf (cutI p 124).2).2 = true ∧ s < (numL (cutI p 124).1).1 ∧ (numL (cutI p 124).1).1 ≤ 60 ∧ (txsOf (cutI p 124).2).1.length ≤ 2
              · have q1 : decide ((numL (cutI p 124).1).1 ≤ s) = false := decide_eq_false (by omega)
                have q2 : decide ((numL (cutI p 124).1).1 > 60) = false := decide_eq_false (by omega)
                have q3 : decide (((txsOf (cutI p 124).2).1.length : Int) > 2) = false := decide_eq_false (by omega)
                rw [if_pos hcond, if_pos ⟨rfl, hcond.2.1, hcond.2.2.1, q1, q2, q3⟩]
                simp only
                rw [okA_le (b := [((numL (cutI p 124).1).1, (txsOf (cutI p 124).2).1)].length) (k := 32) (by omega) (by omega) (by simp only [List.length_cons, List.length_nil]; omega), ck_true, w64_succ (by omega)]
                rfl
              · rw [if_neg hcond, if_neg (fun h => hcond ?_)]
                have q1 : decide ((numL (cutI p 124).1).1 ≤ s) = false := h.2.2.2.1
                have q2 : decide ((numL (cutI p 124).1).1 > 60) = false := h.2.2.2.2.1
                have q3 : decide (((txsOf (cutI p 124).2).1.length : Int) > 2) = false := h.2.2.2.2.2
                have r1 := of_decide_eq_false q1
                have r2 := of_decide_eq_false q2
                have r3 := of_decide_eq_false q3
                exact ⟨hm, h.2.1, h.2.2.1, by omega, by omega, by omega⟩
            · rw [if_neg hm]
              unfold stepF
              rw [if_neg (fun h => hm h.1), number_law, bnd, show spec_TxsOf F0 (tx []) = _ from TxsOf_law (by simp), bnd]
              simp only [Bool.not_false, br_true, spec_Steps_1_cr]
          · rw [show ((ps.length : Int) + 1) = (((p0 :: ps).map tx).length : Int) by simp, spec_Steps_1_step, dec_nlt, br_false, spec_Steps_1_ce0]
          · obtain ⟨h1, h2⟩ := stepF_ok hf
            rw [h2]
            exact ⟨h1.1, h1.2.1⟩
      · rw [decide_eq_false hp0, Bool.not_false, br_true, if_pos (.inl hp0)]
theorem Steps_law2 {l : List UInt8} (hl : l.length ≤ 1073741824) : impl_Steps F0 (tx l) = some ((stepsOf l).1, (stepsOf l).2, ()) := by
  have hpl := parts_len 47 l
  have hpm := fun p (h : p ∈ parts 47 l) => parts_mem h
  rw [impl_Steps_eq, nil_eq]
  unfold stepsOf
  by_cases h0 : l = []
  · rw [decide_eq_true h0, if_pos h0]
    rfl
  · rw [decide_eq_false h0, br_false, if_neg h0, show impl_Split F0 (tx l) 47 = _ from Split_law2 47 (by omega), bnd]
    cases hP : parts 47 l with
    | nil => exact absurd hP (parts_ne 47 l)
    | cons p0 ps =>
      rw [hP] at hpl hpm
      simp only [List.length_cons] at hpl
      have ha0 : at_ ((p0 :: ps).map tx) 0 ByteArray.empty = tx p0 := rfl
      have ho : okI 0 (((p0 :: ps).map tx).length : Int) = true := okI_nat (k := 0) (by simp)
      have hlen : ((p0 :: ps).map tx).length = ps.length + 1 := by simp
      have hos : okS 1 (((p0 :: ps).map tx).length : Int) (((p0 :: ps).map tx).length : Int) = true := by rw [hlen]; simp only [okS, Bool.and_eq_true, decide_eq_true_eq]; omega
      have hdr : ((((p0 :: ps).map tx).take (((p0 :: ps).map tx).length : Int).toNat).drop (1 : Int).toNat) = ps.map tx := by
        rw [Int.toNat_natCast, List.take_length]
        rfl
      simp only [ho, ck_true, ha0, nil_eq, hos, hdr]
      rw [hlen, w64_in (by omega) (by omega)]
      by_cases hp0 : p0 = []
      · by_cases h30 : 30 < ps.length
        · rw [decide_eq_true hp0, Bool.not_true, br_false, decide_eq_true (by omega), br_true, if_pos (.inr h30)]
        · rw [decide_eq_true hp0, Bool.not_true, br_false, decide_eq_false (by omega), br_false, if_neg (by simp [hp0]; omega)]
          have := fold_loop stepF (fun s => 0 ≤ s ∧ s ≤ 60) ps (fun n s i xs => impl_Steps_1 F0 (impl_Steps_1_k F0) n (impl_Steps_1_s s (ps.map tx) ((ps.map tx).length : Int) i xs)) (some ([], false, ())) (fun xs => some (xs, true, ())) (fun n k s xs p hk hp hs hx => ?_) (fun n s xs hx => ?_) (fun s p s' b hs hf => ?_) F0.n 0 0 [] (Nat.zero_le _) (by rw [n_eq]; omega) ⟨by omega, by omega⟩ rfl
          · simp only [List.drop_zero, List.nil_append] at this
            rw [show ((0 : Nat) : Int) = 0 from rfl] at this
            rw [this]
            cases allF stepF 0 ps <;> rfl
          · have hpl1 := hpm p (List.mem_cons_of_mem _ (List.mem_of_getElem? hp))
            have hrest := cutI_le p 124
            have hmx := numL_i64 (cutI p 124).1
            have htl := txsOf_len (cutI p 124).2
            rw [impl_Steps_1_step, List.length_map, dec_lt hk, br_true, okI_nat hk, ck_true, at_map _ _ hp, show ByteArray.mk #[124] = tx [124] from rfl, strings_Cut_law 124 (by omega), bnd]
            simp only [number_law2, bnd]
            rw [show impl_TxsOf F0 (tx ((p.dropWhile (· != 124)).drop 1)) = some ((txsOf (cutI p 124).2).1, (txsOf (cutI p 124).2).2, ()) from TxsOf_law2 (by show (cutI p 124).2.length ≤ _; omega), bnd]
            simp only [impl_Steps_1_cr, within_law, bnd]
            rw [br5]
            unfold stepF
            have hw : (numL (p.takeWhile (· != 124))) = numL (cutI p 124).1 := rfl
            rw [hw, w64_in (n := s + 1) (by omega) (by omega)]
            by_cases hcond : 124 ∈ p ∧ (numL (cutI p 124).1).2 = true ∧ (txsOf (cutI p 124).2).2 = true ∧ s < (numL (cutI p 124).1).1 ∧ (numL (cutI p 124).1).1 ≤ 60 ∧ (txsOf (cutI p 124).2).1.length ≤ 2
            · have hin : (decide (s + 1 ≤ (numL (cutI p 124).1).1) && decide ((numL (cutI p 124).1).1 ≤ 60)) = true := by
                rw [decide_eq_true (by omega), decide_eq_true (by omega)]
                rfl
              rw [if_pos hcond, if_pos ⟨decide_eq_true hcond.1, hcond.2.1, hcond.2.2.1, hin, decide_eq_false (by omega)⟩]
              simp only
              rw [okA_le (b := [((numL (cutI p 124).1).1, (txsOf (cutI p 124).2).1)].length) (k := 32) (by omega) (by omega) (by simp only [List.length_cons, List.length_nil]; omega), ck_true, w64_succ (by omega)]
            · rw [if_neg hcond, if_neg (fun h => hcond ⟨of_decide_eq_true h.1, h.2.1, h.2.2.1, by have := h.2.2.2.1; rw [Bool.and_eq_true] at this; have := of_decide_eq_true this.1; omega, by have := h.2.2.2.1; rw [Bool.and_eq_true] at this; have := of_decide_eq_true this.2; omega, by have := of_decide_eq_false h.2.2.2.2; omega⟩)]
          · rw [impl_Steps_1_step, List.length_map, dec_nlt, br_false, impl_Steps_1_ce0]
          · obtain ⟨h1, h2⟩ := stepF_ok hf
            rw [h2]
            exact ⟨h1.1, h1.2.1⟩
      · rw [decide_eq_false hp0, Bool.not_false, br_true, if_pos (.inl hp0)]
end Go.Am.Tryz
set_option linter.unusedVariables false
set_option linter.unusedSimpArgs false
namespace Go.Am.Tryz
open Go.Am
end Go.Am.Tryz
set_option linter.unusedVariables false
set_option linter.unusedSimpArgs false
namespace Go.Am.Tryz
open Go.Am
theorem dT {p : Prop} (i : Decidable p) (h : p) : @decide p i = true := decide_eq_true h
end Go.Am.Tryz
set_option linter.unusedVariables false
set_option linter.unusedSimpArgs false
namespace Go.Am.Tryz
open Go.Am
theorem at_is {α : Type} {a : List α} {k : Nat} (h : k < a.length) (d : α) : at_ a (k : Int) d = a[k] := by
  rw [at_nat]
  simp [List.getD, h]
end Go.Am.Tryz
set_option linter.unusedVariables false
set_option linter.unusedSimpArgs false
namespace Go.Am.Tryz
open Go.Am
/-! ### Searches -/
theorem all_to {β : Type} (X : Nat → Int → Option β) (L : Nat) (p : Nat → Bool) (Rt Rf : Option β) (hs : ∀ n k, k < L → X (n + 1) (k : Int) = if p k = true then X n ((k + 1 : Nat) : Int) else Rf) (he : ∀ n, X (n + 1) (L : Int) = Rt) (n : Nat) (hn : L < n) :
    X n 0 = if (List.range L).all p = true then Rt else Rf := by
  refine loop_to (fun n i (_ : Unit) => X n i) L (fun k _ => ∀ j, j < k → p j = true) _ (fun n k _ hk h => ?_) (fun n _ h => ?_) n 0 () (Nat.zero_le _) (fun j hj => absurd hj (Nat.not_lt_zero _)) (by omega)
  · try dsimp only
    rw [hs n k hk]
    by_cases hp : p k = true
    · rw [if_pos hp]
      refine .inr ⟨(), rfl, fun j hj => ?_⟩
      by_cases hjk : j = k
      · exact hjk ▸ hp
      · exact h j (by omega)
    · rw [if_neg hp, if_neg]
      · exact .inl rfl
      · intro ha
        exact hp (List.all_eq_true.1 ha k (List.mem_range.2 hk))
  · try dsimp only
    rw [he, if_pos]
    exact List.all_eq_true.2 fun j hj => h j (List.mem_range.1 hj)
theorem all_getD {α : Type} (s : List α) (q : α → Bool) (d : α) : (List.range s.length).all (fun k => q (s.getD k d)) = s.all q := by
  rw [Bool.eq_iff_iff, List.all_eq_true, List.all_eq_true]
  constructor
  · intro h x hx
    obtain ⟨i, hi, rfl⟩ := List.mem_iff_getElem.1 hx
    have := h i (List.mem_range.2 hi)
    simpa [List.getD, hi] using this
  · intro h k hk
    exact h _ (getD_mem (List.mem_range.1 hk) d)
theorem all_ne (s : List Int) (i : Int) : (s.all fun x => !(x == i)) = !decide (i ∈ s) := by
  rw [Bool.eq_iff_iff, List.all_eq_true]
  simp only [Bool.not_eq_true', beq_eq_false_iff_ne, decide_eq_false_iff_not]
  exact ⟨fun h hi => h i hi rfl, fun h x hx e => h (e ▸ hx)⟩
theorem ite_not (b : Bool) {α : Type} (x y : α) : (if (!b) = true then x else y) = if b = true then y else x := by cases b <;> rfl
theorem br_ite {α : Type} (b : Bool) (x y : α) : br b x y = if b = true then x else y := by cases b <;> rfl
theorem SetHas_law {s : List Int} (h : s.length ≤ 1073741824) (i : Int) : spec_SetHas F0 s i = some (decide (i ∈ s), ()) := by
  rw [spec_SetHas_eq, all_to (fun n k => spec_SetHas_1 F0 (spec_SetHas_1_k F0) n (spec_SetHas_1_s s i k)) s.length (fun k => !(s.getD k 0 == i)) (some (false, ())) (some (true, ())) (fun n k hk => ?_) (fun n => ?_) _ (by rw [n_eq]; omega),
    all_getD s (fun x => !(x == i)), all_ne, ite_not]
  · by_cases hm : i ∈ s <;> simp [hm]
  · rw [spec_SetHas_1_step, dec_lt hk, br_true, okI_nat hk, ck_true, at_nat, w64_succ (by omega), ite_not, br_ite, spec_SetHas_1_cr]
  · rw [spec_SetHas_1_step, dec_nlt, br_false, spec_SetHas_1_ce0]
theorem Contains_law {s : List Int} (h : s.length ≤ 1073741824) (i : Int) : slices_Contains_int_int F0 s i = some (decide (i ∈ s), ()) := by
  have key : ∃ j, slices_Index_int_int F0 s i = some (j, ()) ∧ decide (j ≥ 0) = decide (i ∈ s) := by
    rw [slices_Index_int_int_eq]
    have := loop_to (fun n k (_ : Unit) => slices_Index_int_int_1 F0 (slices_Index_int_int_1_k F0) n (slices_Index_int_int_1_s s i (s.length : Int) k)) s.length (fun k _ => ∀ j, j < k → s.getD j 0 ≠ i)
      (some ((if i ∈ s then ((s.idxOf i : Nat) : Int) else -1), ())) (fun n k _ hk hI => ?_) (fun n _ hI => ?_) F0.n 0 () (Nat.zero_le _) (fun j hj => absurd hj (Nat.not_lt_zero _)) (by rw [n_eq]; omega)
    · refine ⟨_, this, ?_⟩
      by_cases hm : i ∈ s
      · rw [if_pos hm, decide_eq_true hm]
        exact decide_eq_true (Int.natCast_nonneg _)
      · rw [if_neg hm, decide_eq_false hm]
        rfl
    · try dsimp only
      rw [slices_Index_int_int_1_step, dec_lt hk, br_true, okI_nat hk, ck_true, at_nat, w64_succ (by omega), slices_Index_int_int_1_cr]
      by_cases he : i = s.getD k 0
      · left
        have hm : i ∈ s := he ▸ getD_mem hk 0
        rw [beq_iff_eq.2 he, br_true, if_pos hm]
        have hx : s.idxOf i = k := by
          have h1 : s.idxOf i < s.length := List.idxOf_lt_length_of_mem hm
          have h2 : s.getD (s.idxOf i) 0 = i := by simp [List.getD, h1]
          rcases Nat.lt_trichotomy (s.idxOf i) k with hlt | heq | hgt
          · exact absurd h2 (hI _ hlt)
          · exact heq
          · have := List.not_of_lt_findIdx (p := (· == i)) (xs := s) hgt
            have h3 : s[k]'(by omega) = i := by
              rw [he]
              simp [List.getD, hk]
            simp [h3] at this
        rw [hx]
      · right
        rw [beq_eq_false_iff_ne.2 he, br_false]
        refine ⟨(), rfl, fun j hj => ?_⟩
        by_cases hjk : j = k
        · exact fun e => he (hjk ▸ e.symm)
        · exact hI j (by omega)
    · try dsimp only
      have hm : i ∉ s := by
        intro hm
        obtain ⟨j, hj, e⟩ := List.mem_iff_getElem.1 hm
        exact hI j hj (by simp [List.getD, hj, e])
      rw [slices_Index_int_int_1_step, dec_nlt, br_false, slices_Index_int_int_1_ce0, if_neg hm]
  obtain ⟨j, h1, h2⟩ := key
  rw [slices_Contains_int_int_eq, h1, bnd, h2]
theorem SetHas_law2 {s : List Int} (h : s.length ≤ 1073741824) (i : Int) : impl_SetHas F0 s i = some (decide (i ∈ s), ()) := by
  rw [impl_SetHas_eq, Contains_law h, bnd]
/-! ### Adding -/
def insL (i : Int) : List Int → List Int
  | [] => [i]
  | x :: l => if x ≥ i then i :: x :: l else x :: insL i l
def setA (s : List Int) (i : Int) : List Int := if i ∈ s then s else insL i s
theorem insL_len (i : Int) : ∀ s : List Int, (insL i s).length = s.length + 1
  | [] => rfl
  | x :: l => by
    unfold insL
    split
    · rfl
    · simp [insL_len i l]
theorem setA_len (s : List Int) (i : Int) : (setA s i).length ≤ s.length + 1 := by
  unfold setA
  split
  · omega
  · rw [insL_len]
    exact Nat.le_refl _
theorem insL_at {i : Int} : ∀ {s : List Int} {k : Nat}, k ≤ s.length → (∀ j (h : j < s.length), j < k → s[j] < i) → (∀ h : k < s.length, ¬ s[k] < i) → insL i s = s.take k ++ i :: s.drop k
  | [], k, _, _, _ => by simp [insL]
  | x :: l, 0, _, _, h => by
    have := h (by simp)
    simp only [List.getElem_cons_zero] at this
    unfold insL
    rw [if_pos (by omega)]
    rfl
  | x :: l, k + 1, hk, h1, h2 => by
    have hx := h1 0 (by simp) (by omega)
    simp only [List.getElem_cons_zero] at hx
    unfold insL
    rw [if_neg (by omega), List.take_succ_cons, List.drop_succ_cons, List.cons_append, insL_at (k := k) (by simpa using hk) (fun j h hj => h1 (j + 1) (by simp only [List.length_cons]; omega) (by omega)) (fun h => h2 (by simp only [List.length_cons]; omega))]
theorem okS_nat {l h n : Nat} (h1 : l ≤ h) (h2 : h ≤ n) : okS (l : Int) (h : Int) (n : Int) = true := by simp [okS]; omega
theorem SetAdd_law {s : List Int} (h : s.length ≤ 1048576) (i : Int) : spec_SetAdd F0 s i = some (setA s i, ()) := by
  rw [spec_SetAdd_eq, SetHas_law (by omega), bnd]
  unfold setA
  by_cases hm : i ∈ s
  · rw [decide_eq_true hm, br_true, if_pos hm, okA_le (by omega) (by omega) (by omega), ck_true]
    rfl
  · rw [decide_eq_false hm, br_false, if_neg hm]
    have fin : ∀ k : Nat, k ≤ s.length → (∀ j (h : j < s.length), j < k → s[j] < i) → (∀ h : k < s.length, ¬ s[k] < i) → spec_SetAdd_1_k F0 (.exit 0) (spec_SetAdd_1_e0 s i (k : Int)) = some (insL i s, ()) := by
      intro k hk h1 h2
      rw [spec_SetAdd_1_ce0, show okS 0 (k : Int) (s.length : Int) = true from okS_nat (l := 0) (Nat.zero_le _) hk, ck_true, Int.toNat_natCast, Int.toNat_natCast, show (0 : Int).toNat = 0 from rfl, List.drop_zero, List.nil_append, List.take_length,
        okA_le (by omega) (by omega) (by rw [List.length_take]; omega), ck_true, okA_le (by omega) (by omega) (by rw [List.length_take]; simp only [List.length_cons, List.length_nil]; omega), ck_true, okS_nat hk (Nat.le_refl _), ck_true,
        okA_le (by omega) (by omega) (by rw [List.length_append, List.length_take, List.length_drop]; simp only [List.length_cons, List.length_nil]; omega), ck_true, insL_at hk h1 h2]
      simp
    refine loop_to (fun n k (_ : Unit) => spec_SetAdd_1 F0 (spec_SetAdd_1_k F0) n (spec_SetAdd_1_s s i k)) s.length (fun k _ => ∀ j (h : j < s.length), j < k → s[j] < i) _ (fun n k _ hk hI => ?_) (fun n _ hI => ?_) F0.n 0 () (Nat.zero_le _) (fun j _ hj => absurd hj (Nat.not_lt_zero _)) (by rw [n_eq]; omega)
    · try dsimp only
      rw [spec_SetAdd_1_step, dec_lt hk, br_true, okI_nat hk, ck_true, at_is hk, w64_succ (by omega)]
      by_cases hlt : s[k] < i
      · right
        rw [decide_eq_true hlt, br_true]
        refine ⟨(), rfl, fun j hj hjk => ?_⟩
        by_cases e : j = k
        · subst e; exact hlt
        · exact hI j hj (by omega)
      · left
        rw [decide_eq_false hlt, br_false]
        exact fin k (by omega) hI (fun _ => hlt)
    · try dsimp only
      rw [spec_SetAdd_1_step, dec_nlt, br_false]
      exact fin s.length (Nat.le_refl _) hI (fun h => absurd h (Nat.lt_irrefl _))
theorem copyInts_law {l : List Int} (h : l.length ≤ 1073741824) : impl_copyInts F0 l = some (l, ()) := by
  rw [impl_copyInts_eq, okA_le (by omega) (by omega) (by omega), ck_true]
  rfl
theorem idxL_spec {α : Type} (p : α → Bool) : ∀ (l : List α) (j : Nat), (idxL p l (j : Int) = -1 ∧ ∀ x ∈ l, p x = false) ∨ ∃ k, ∃ h : k < l.length, idxL p l (j : Int) = ((j + k : Nat) : Int) ∧ p l[k] = true ∧ ∀ i (hi : i < l.length), i < k → p l[i] = false
  | [], j => .inl ⟨rfl, by simp⟩
  | x :: l, j => by
    unfold idxL
    cases hp : p x with
    | true => exact .inr ⟨0, by simp, by simp, by simpa using hp, fun i _ hi => absurd hi (Nat.not_lt_zero _)⟩
    | false =>
      have e : (j : Int) + 1 = ((j + 1 : Nat) : Int) := by omega
      dsimp only
      rw [e]
      rcases idxL_spec p l (j + 1) with ⟨h1, h2⟩ | ⟨k, hk, h1, h2, h3⟩
      · refine .inl ⟨h1, fun y hy => ?_⟩
        rcases List.mem_cons.1 hy with rfl | hy
        · exact hp
        · exact h2 y hy
      · refine .inr ⟨k + 1, by simpa using hk, by rw [h1]; omega, by simpa using h2, fun i hi hik => ?_⟩
        cases i with
        | zero => simpa using hp
        | succ i => simpa using h3 i (by simpa using hi) (by omega)
theorem okIns_nat {k a b : Nat} (h1 : k ≤ a) (h2 : 1 ≤ b) (h3 : a + b ≤ 1073741824) : okIns (k : Int) a b = true := by
  unfold okIns
  rw [decide_eq_true (show (0 : Int) ≤ k by omega), decide_eq_true (show (k : Int) ≤ a by omega), decide_eq_true (show (1 : Int) ≤ b by omega), decide_eq_true (show ((a + b : Nat) : Int) ≤ 1073741824 by omega)]
  rfl
theorem SetAdd_law2 {s : List Int} (h : s.length ≤ 1048576) (i : Int) : impl_SetAdd F0 s i = some (setA s i, ()) := by
  rw [impl_SetAdd_eq, SetHas_law2 (by omega), bnd]
  unfold setA
  by_cases hm : i ∈ s
  · rw [decide_eq_true hm, br_true, if_pos hm, copyInts_law (by omega), bnd]
  · rw [decide_eq_false hm, br_false, if_neg hm]
    rcases idxL_spec (fun e => geP e i) s 0 with ⟨h1, h2⟩ | ⟨k, hk, h1, h2, h3⟩
    · have h1 : idxL (fun e => geP e i) s 0 = -1 := h1
      rw [h1, show decide ((-1 : Int) < 0) = true from rfl, br_true, copyInts_law (by omega), bnd, okIns_nat (Nat.le_refl _) (by simp) (by simp only [List.length_cons, List.length_nil]; omega), ck_true, Int.toNat_natCast,
        insL_at (k := s.length) (Nat.le_refl _) (fun j hj _ => ?_) (fun h => absurd h (Nat.lt_irrefl _))]
      · simp
      · have := of_decide_eq_false (h2 s[j] (List.getElem_mem hj))
        omega
    · have h1 : idxL (fun e => geP e i) s 0 = ((0 + k : Nat) : Int) := h1
      rw [Nat.zero_add] at h1
      have h2 := of_decide_eq_true h2
      rw [h1, show decide (((k : Nat) : Int) < 0) = false from decide_eq_false (by omega), br_false, copyInts_law (by omega), bnd, okIns_nat (k := k) (a := s.length) (by omega) (by simp) (by simp only [List.length_cons, List.length_nil]; omega), ck_true, Int.toNat_natCast,
        insL_at (k := k) (by omega) (fun j hj hjk => ?_) (fun _ => by omega)]
      · simp
      · have := of_decide_eq_false (h3 j hj hjk)
        omega
/-! ### The replicas that are named -/
def inR (lo hi x : Int) : Bool := decide (lo ≤ x) && decide (x ≤ hi)
def someL (hi : Int) : List Int → List Int → List Int
  | out, [] => out
  | out, x :: l => someL hi (if inR 0 hi x = true then setA out x else out) l
theorem l1In_lawR (x lo hi : Int) : spec_l1In F0 x lo hi = some (inR lo hi x, ()) := l1In_law x lo hi
theorem within_law3 (x lo hi : Int) : impl_within F0 x lo hi = some (inR lo hi x, ()) := within_law x lo hi
theorem someL_snoc (hi : Int) : ∀ (l : List Int) (out : List Int) (x : Int), someL hi out (l ++ [x]) = if inR 0 hi x = true then setA (someL hi out l) x else someL hi out l
  | [], _, _ => rfl
  | y :: l, out, x => by
    simp only [List.cons_append, someL]
    exact someL_snoc hi l _ x
theorem someL_len (hi : Int) : ∀ (l out : List Int), (someL hi out l).length ≤ out.length + l.length
  | [], out => by simp [someL]
  | x :: l, out => by
    unfold someL
    have h1 := someL_len hi l (if inR 0 hi x = true then setA out x else out)
    have h2 := setA_len out x
    have h3 : (if inR 0 hi x = true then setA out x else out).length ≤ out.length + 1 := by split <;> omega
    rw [List.length_cons]
    omega
theorem take_succ_is {α : Type} {l : List α} {k : Nat} (h : k < l.length) : l.take (k + 1) = l.take k ++ [l[k]] := by
  rw [List.take_add_one, List.getElem?_eq_getElem h]
  rfl
theorem l22Some_law (c : Int × Int) {who : List Int} (h : who.length ≤ 1048576) : spec_l22Some F0 c who = some (someL (w64 (c.1 - 1)) [] who, ()) := by
  rw [spec_l22Some_eq]
  refine loop_to (fun n i xs => spec_l22Some_1 F0 (spec_l22Some_1_k F0) n (spec_l22Some_1_s who i c.1 c.2 xs)) who.length (fun k xs => xs = someL (w64 (c.1 - 1)) [] (who.take k)) _ (fun n k xs hk hI => ?_) (fun n xs hI => ?_) F0.n 0 [] (Nat.zero_le _) rfl (by rw [n_eq]; omega)
  · have hl := someL_len (w64 (c.1 - 1)) (who.take k) []
    rw [← hI, List.length_take, List.length_nil] at hl
    right
    refine ⟨if inR 0 (w64 (c.1 - 1)) who[k] = true then setA xs who[k] else xs, ?_, by rw [take_succ_is hk, someL_snoc, ← hI]⟩
    rw [spec_l22Some_1_step, dec_lt hk, br_true, okI_nat hk, ck_true, at_is hk, l1In_lawR, bnd]
    simp only [ck_true]
    rw [w64_succ (by omega)]
    cases hb : inR 0 (w64 (c.1 - 1)) who[k] with
    | true => rw [br_true, SetAdd_law (by omega), bnd]; rfl
    | false => rw [br_false]; rfl
  · rw [List.take_length] at hI
    rw [spec_l22Some_1_step, dec_nlt, br_false, spec_l22Some_1_ce0, hI]
theorem replicasOf_law (c : Int × Int) {who : List Int} (h : who.length ≤ 1048576) : impl_replicasOf F0 c who = some (someL (w64 (c.1 - 1)) [] who, ()) := by
  rw [impl_replicasOf_eq]
  refine loop_to (fun n i xs => impl_replicasOf_1 F0 (impl_replicasOf_1_k F0) n (impl_replicasOf_1_s who (who.length : Int) i c.1 c.2 xs)) who.length (fun k xs => xs = someL (w64 (c.1 - 1)) [] (who.take k)) _ (fun n k xs hk hI => ?_) (fun n xs hI => ?_) F0.n 0 [] (Nat.zero_le _) rfl (by rw [n_eq]; omega)
  · have hl := someL_len (w64 (c.1 - 1)) (who.take k) []
    rw [← hI, List.length_take, List.length_nil] at hl
    right
    refine ⟨if inR 0 (w64 (c.1 - 1)) who[k] = true then setA xs who[k] else xs, ?_, by rw [take_succ_is hk, someL_snoc, ← hI]⟩
    rw [impl_replicasOf_1_step, dec_lt hk, br_true, okI_nat hk, ck_true, at_is hk, within_law3, bnd]
    simp only
    rw [w64_succ (by omega)]
    cases hb : inR 0 (w64 (c.1 - 1)) who[k] with
    | true => rw [br_true, SetAdd_law2 (by omega), bnd]; rfl
    | false => rw [br_false]; rfl
  · rw [List.take_length] at hI
    rw [impl_replicasOf_1_step, dec_nlt, br_false, impl_replicasOf_1_ce0, hI]
end Go.Am.Tryz
