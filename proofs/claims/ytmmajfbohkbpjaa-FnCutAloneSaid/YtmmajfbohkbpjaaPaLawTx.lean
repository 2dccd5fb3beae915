/- Plain laws: texts cut at a byte, payments as texts and out of texts. No condition. -/
import Derived.Test.YtmmajfbohkbpjaaPaLawNum
import Derived.Lib.CutLaws
import Derived.Lib.PathFns
set_option linter.unusedVariables false
set_option linter.unusedSimpArgs false
namespace Go.Am.Try
open Go.Am
theorem extract_to (l : List UInt8) (k : Nat) : (tx l).extract 0 k = tx (l.take k) := by
  rw [tx_of ((tx l).extract 0 k), Lib.Pa.extract_upto_list, tx_list]
theorem extract_from (l : List UInt8) (k : Nat) : (tx l).extract k (tx l).size = tx (l.drop k) := by
  rw [tx_of ((tx l).extract k (tx l).size), Lib.extract_to_end, tx_list]
theorem tw_at {a b : List UInt8} {c : UInt8} (h : c ∉ a) : (a ++ c :: b).takeWhile (· != c) = a ∧ (a ++ c :: b).dropWhile (· != c) = c :: b := by
  induction a with
  | nil => simp
  | cons x a ih =>
    have hx : (x != c) = true := by simp; rintro rfl; simp at h
    have := ih fun h' => h (List.mem_cons_of_mem _ h')
    rw [List.cons_append, List.takeWhile_cons, List.dropWhile_cons, hx]
    exact ⟨by simp [this.1], by simp [this.2]⟩
theorem tw_no {a : List UInt8} {c : UInt8} (h : c ∉ a) : a.takeWhile (· != c) = a ∧ a.dropWhile (· != c) = [] := by
  induction a with
  | nil => simp
  | cons x a ih =>
    have hx : (x != c) = true := by simp; rintro rfl; simp at h
    have := ih fun h' => h (List.mem_cons_of_mem _ h')
    rw [List.takeWhile_cons, List.dropWhile_cons, hx]
    exact ⟨by simp [this.1], by simp [this.2]⟩
theorem split_at {l : List UInt8} {k : Nat} (h : k < l.length) : l = l.take k ++ l.getD k 0 :: l.drop (k + 1) := by
  have : l.getD k 0 = l[k] := by simp [List.getD, h]
  rw [this, List.getElem_cons_drop, List.take_append_drop]
theorem l2Cut_law {l : List UInt8} (c : UInt8) (hl : l.length ≤ 4294967296) :
    spec_l2Cut F0 (tx l) (c.toNat : Int) = some (if c ∈ l then (tx (l.takeWhile (· != c)), tx ((l.dropWhile (· != c)).drop 1), true, ()) else (tx [], tx [], false, ())) := by
  rw [spec_l2Cut_eq]
  refine loop_to (fun n i (_ : Unit) => spec_l2Cut_1 F0 (spec_l2Cut_1_k F0) n (spec_l2Cut_1_s (tx l) (c.toNat : Int) i)) l.length (fun k _ => c ∉ l.take k) _ (fun n k _ hk hI => ?_) (fun n _ hI => ?_) F0.n 0 () (Nat.zero_le _) (by simp) (by rw [n_eq]; omega)
  · rw [spec_l2Cut_1_step, tx_size, dec_lt hk, br_true, okI_nat hk, ck_true, byte_tx]
    by_cases hc : l.getD k 0 = c
    · left
      have hs := split_at hk
      rw [hc] at hs
      have ht := tw_at (b := l.drop (k + 1)) hI
      have h1 : ((((l.getD k 0).toNat : Int)) == (c.toNat : Int)) = true := by rw [hc]; simp
      have h2 : okS 0 (k : Int) (l.length : Int) = true := by simp [okS]; omega
      have h3 : okS ((k + 1 : Nat) : Int) (l.length : Int) (l.length : Int) = true := by simp only [okS, Bool.and_eq_true, decide_eq_true_eq]; omega
      rw [h1, br_true, h2, ck_true, w64_succ (by omega), h3, ck_true, spec_l2Cut_1_cr]
      simp only [Int.toNat_natCast, show (0 : Int).toNat = 0 from rfl]
      have hm : c ∈ l := by rw [hs]; simp
      rw [if_pos hm, extract_to, show ((tx l).extract (k + 1) l.length) = tx (l.drop (k + 1)) by rw [← extract_from, tx_size]]
      have e1 : l.takeWhile (· != c) = l.take k := by
        have := ht.1
        rwa [← hs] at this
      have e2 : (l.dropWhile (· != c)).drop 1 = l.drop (k + 1) := by
        have := ht.2
        rw [← hs] at this
        rw [this]
        rfl
      rw [e1, e2]
    · right
      have h1 : ((((l.getD k 0).toNat : Int)) == (c.toNat : Int)) = false := by
        refine beq_eq_false_iff_ne.2 fun h => hc (UInt8.toNat_inj.1 (by omega))
      refine ⟨(), by rw [h1, br_false, w64_succ (by omega)], ?_⟩
      rw [List.take_add_one, getD_is hk 0]
      simp only [Option.toList_some, List.mem_append, List.mem_singleton]
      rintro (h | h)
      · exact hI h
      · exact hc h.symm
  · rw [List.take_length] at hI
    rw [spec_l2Cut_1_step, tx_size, dec_nlt, br_false, spec_l2Cut_1_ce0, if_neg hI]
    rfl
theorem indexByte_at {a b : List UInt8} {c : UInt8} (h : c ∉ a) : Lib.indexByte (a ++ c :: b) c = a.length := by
  induction a with
  | nil => simp [Lib.indexByte]
  | cons x a ih =>
    have hx : (x == c) = false := by simp; rintro rfl; simp at h
    have := ih fun h' => h (List.mem_cons_of_mem _ h')
    rw [List.cons_append]
    unfold Lib.indexByte
    rw [hx, this]
    simp
theorem indexByte_no {a : List UInt8} {c : UInt8} (h : c ∉ a) : Lib.indexByte a c = -1 := by
  induction a with
  | nil => rfl
  | cons x a ih =>
    have hx : (x == c) = false := by simp; rintro rfl; simp at h
    have := ih fun h' => h (List.mem_cons_of_mem _ h')
    unfold Lib.indexByte
    rw [hx, this]
    rfl
theorem exists_first {l : List UInt8} {c : UInt8} (h : c ∈ l) : ∃ a b, l = a ++ c :: b ∧ c ∉ a := by
  induction l with
  | nil => cases h
  | cons x l ih =>
    by_cases hx : x = c
    · exact ⟨[], l, by rw [hx]; rfl, by simp⟩
    · rcases List.mem_cons.1 h with h' | h'
      · exact absurd h'.symm hx
      · obtain ⟨a, b, h1, h2⟩ := ih h'
        exact ⟨x :: a, b, by rw [h1]; rfl, fun h3 => by
          rcases List.mem_cons.1 h3 with h4 | h4
          · exact hx h4.symm
          · exact h2 h4⟩
theorem cut_law (l : List UInt8) (c : UInt8) : Lib.cut l [c] = (l.takeWhile (· != c), (l.dropWhile (· != c)).drop 1, decide (c ∈ l)) := by
  unfold Lib.cut
  rw [Lib.index_one]
  by_cases h : c ∈ l
  · obtain ⟨a, b, rfl, h2⟩ := exists_first h
    rw [indexByte_at h2, if_pos (by omega), (tw_at h2).1, (tw_at h2).2]
    simp [List.take_append, List.drop_append]
  · rw [indexByte_no h, if_neg (by omega), (tw_no h).1, (tw_no h).2]
    simp [h]
end Go.Am.Try
