/- Plain laws: texts parted at a byte. No condition. -/
import Derived.Test.YtmmajfbohkbpjaaPaLawTx2
import Derived.Lib.SplitLaws
set_option linter.unusedVariables false
set_option linter.unusedSimpArgs false
namespace Go.Am.Try
open Go.Am
def parts (c : UInt8) : List UInt8 → List (List UInt8)
  | [] => [[]]
  | x :: l => if x = c then [] :: parts c l else match parts c l with
    | p :: ps => (x :: p) :: ps
    | [] => [[x]]
theorem parts_ne (c : UInt8) (l : List UInt8) : parts c l ≠ [] := by
  cases l with
  | nil => simp [parts]
  | cons x l =>
    unfold parts
    split
    · simp
    · split <;> simp
theorem parts_no {c : UInt8} {a : List UInt8} (h : c ∉ a) : parts c a = [a] := by
  induction a with
  | nil => rfl
  | cons x a ih =>
    have hx : ¬ x = c := by rintro rfl; simp at h
    unfold parts
    rw [if_neg hx, ih fun h' => h (List.mem_cons_of_mem _ h')]
theorem parts_at {c : UInt8} {a b : List UInt8} (h : c ∉ a) : parts c (a ++ c :: b) = a :: parts c b := by
  induction a with
  | nil =>
    rw [List.nil_append]
    conv => lhs; unfold parts
    rw [if_pos rfl]
  | cons x a ih =>
    have hx : ¬ x = c := by rintro rfl; simp at h
    rw [List.cons_append]
    conv => lhs; unfold parts
    rw [if_neg hx, ih fun h' => h (List.mem_cons_of_mem _ h')]
theorem parts_len (c : UInt8) (l : List UInt8) : (parts c l).length ≤ l.length + 1 := by
  induction l with
  | nil => simp [parts]
  | cons x l ih =>
    unfold parts
    split
    · simp only [List.length_cons]
      omega
    · split
      · rename_i p ps h
        rw [h] at ih
        simp only [List.length_cons] at ih ⊢
        omega
      · simp
theorem parts_mem {c : UInt8} : ∀ {l p : List UInt8}, p ∈ parts c l → p.length ≤ l.length
  | [], p, h => by
    simp only [parts, List.mem_singleton] at h
    rw [h]
    simp
  | x :: l, p, h => by
    unfold parts at h
    split at h
    · rcases List.mem_cons.1 h with rfl | h
      · simp
      · have := parts_mem h
        simp only [List.length_cons]
        omega
    · split at h
      · rename_i q qs hq
        rcases List.mem_cons.1 h with rfl | h
        · have := parts_mem (c := c) (l := l) (p := q) (by rw [hq]; simp)
          simp only [List.length_cons]
          omega
        · have := parts_mem (c := c) (l := l) (p := p) (by rw [hq]; simp [h])
          simp only [List.length_cons]
          omega
      · rw [List.mem_singleton] at h
        rw [h]
        simp
theorem extract_mid (l : List UInt8) (a b : Nat) : (tx l).extract a b = tx ((l.drop a).take (b - a)) := by
  rw [tx_of ((tx l).extract a b), Lib.extract_data, tx_list]
theorem Split_law {l : List UInt8} (c : UInt8) (hl : l.length ≤ 4294967296) : spec_Split F0 (tx l) (c.toNat : Int) = some ((parts c l).map tx, ()) := by
  have hpl := parts_len c l
  rw [spec_Split_eq]
  refine loop_to (fun n i (z : Nat × List ByteArray) => spec_Split_1 F0 (spec_Split_1_k F0) n (spec_Split_1_s (tx l) (c.toNat : Int) (z.1 : Int) i z.2)) (l.length + 1)
    (fun k z => if k ≤ l.length then ∃ done : List (List UInt8), z.2 = done.map tx ∧ parts c l = done ++ parts c (l.drop z.1) ∧ z.1 ≤ k ∧ c ∉ (l.drop z.1).take (k - z.1) else z.2 = (parts c l).map tx) _ (fun n k z hk hI => .inr ?_) (fun n z hI => ?_) F0.n 0 (0, []) (Nat.zero_le _) ?_ (by rw [n_eq]; omega)
  · obtain ⟨from1, xs⟩ := z
    rw [if_pos (by omega)] at hI
    obtain ⟨done, rfl, hd, hf, hno⟩ := hI
    simp only at hd hf hno
    have hdl : done.length + 1 ≤ l.length + 1 := by
      have h1 := congrArg List.length hd
      have h2 : 0 < (parts c (l.drop from1)).length := List.length_pos_iff.2 (parts_ne c _)
      rw [List.length_append] at h1
      omega
    have hle : decide ((k : Int) ≤ (l.length : Int)) = true := decide_eq_true (by omega)
    rw [spec_Split_1_step, tx_size, hle, br_true]
    have hos : okS (from1 : Int) (k : Int) (l.length : Int) = true := by simp only [okS, Bool.and_eq_true, decide_eq_true_eq]; omega
    have hoa : ∀ b : ByteArray, okA F0 (done.map tx).length [b].length 16 = true := fun b => okA_le (by omega) (by omega) (by rw [List.length_map]; simp only [List.length_cons, List.length_nil]; omega)
    simp only [Int.toNat_natCast, extract_mid, hos, hoa, ck_true, w64_succ (show k + 1 ≤ 9223372036854775807 by omega)]
    by_cases hend : k = l.length
    · subst hend
      rw [beq_self_eq_true, br_true]
      refine ⟨(l.length + 1, (parts c l).map tx), ?_, by rw [if_neg (by omega)]⟩
      have ht : (l.drop from1).take (l.length - from1) = l.drop from1 := List.take_of_length_le (by rw [List.length_drop]; omega)
      rw [ht] at hno ⊢
      rw [hd, parts_no hno]
      simp
    · have hlt : k < l.length := by omega
      have hb : (((k : Nat) : Int) == (l.length : Int)) = false := beq_eq_false_iff_ne.2 (by omega)
      rw [hb, br_false, okI_nat hlt, ck_true, byte_tx]
      have hs : l.drop from1 = (l.drop from1).take (k - from1) ++ l.getD k 0 :: l.drop (k + 1) := by
        have := split_at (l := l.drop from1) (k := k - from1) (by rw [List.length_drop]; omega)
        have e1 : (l.drop from1).getD (k - from1) 0 = l.getD k 0 := by
          simp only [List.getD_eq_getElem?_getD, List.getElem?_drop]
          rw [show from1 + (k - from1) = k by omega]
        rw [e1, List.drop_drop, show from1 + (k - from1 + 1) = k + 1 by omega] at this
        exact this
      by_cases hc : l.getD k 0 = c
      · have h1 : ((((l.getD k 0).toNat : Int)) == (c.toNat : Int)) = true := by rw [hc]; simp
        rw [h1, br_true]
        refine ⟨(k + 1, done.map tx ++ [tx ((l.drop from1).take (k - from1))]), rfl, ?_⟩
        rw [if_pos (by omega)]
        refine ⟨done ++ [(l.drop from1).take (k - from1)], by simp, ?_, Nat.le_refl _, by simp⟩
        rw [hc] at hs
        rw [hd, hs, parts_at hno, ← hs]
        simp
      · have h1 : ((((l.getD k 0).toNat : Int)) == (c.toNat : Int)) = false := beq_eq_false_iff_ne.2 fun h => hc (UInt8.toNat_inj.1 (by omega))
        rw [h1, br_false]
        refine ⟨(from1, done.map tx), rfl, ?_⟩
        rw [if_pos (by omega)]
        refine ⟨done, rfl, hd, by show from1 ≤ k + 1; omega, ?_⟩
        have e1 : (l.drop from1).take (k + 1 - from1) = (l.drop from1).take (k - from1) ++ [l.getD k 0] := by
          rw [show k + 1 - from1 = (k - from1) + 1 by omega, List.take_add_one]
          congr 1
          have : (l.drop from1)[k - from1]? = some (l.getD k 0) := by
            rw [List.getElem?_drop, show from1 + (k - from1) = k by omega]
            exact getD_is hlt 0
          rw [this]
          rfl
        show c ∉ (l.drop from1).take (k + 1 - from1)
        rw [e1, List.mem_append, List.mem_singleton]
        rintro (h | h)
        · exact hno h
        · exact hc h.symm
  · rw [if_neg (by omega)] at hI
    rw [spec_Split_1_step, tx_size, decide_eq_false (by omega), br_false, spec_Split_1_ce0, hI]
  · rw [if_pos (by omega)]
    exact ⟨[], rfl, rfl, Nat.le_refl _, by simp⟩
end Go.Am.Try
