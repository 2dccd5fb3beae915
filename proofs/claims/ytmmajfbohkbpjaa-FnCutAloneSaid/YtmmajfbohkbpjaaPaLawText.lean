/- Plain laws: numbers, sets, ledgers as texts: reference and program give the same. No condition. -/
import Derived.Test.YtmmajfbohkbpjaaPaGen2
import Derived.Test.YtmmajfbohkbpjaaAmLoop
set_option linter.unusedVariables false
set_option linter.unusedSimpArgs false
namespace Go.Am.Try
open Go.Am
def I64 (n : Int) : Prop := -9223372036854775808 ≤ n ∧ n ≤ 9223372036854775807
def Ints (a : List Int) : Prop := a.length ≤ 1048576 ∧ ∀ x ∈ a, I64 x
theorem digits_law {n : Int} (h : I64 n) : spec_Digits F0 n = some (tx (Lib.itoa n), ()) := by
  rw [spec_Digits_eq]
  by_cases hz : n = 0
  · subst hz
    simp only [beq_self_eq_true, br_true]
    congr 2
    simp [tx, Lib.itoa, Lib.decDigits]
  · rw [show (n == 0) = false from beq_eq_false_iff_ne.2 hz, br_false]
    have hD : (Lib.decDigits n.natAbs).length ≤ 20 := by rw [Lib.decDigits_length]; exact Lib.nDigits_le20 _ (by obtain ⟨h1, h2⟩ := h; omega)
    refine loop_mu (fun m (x : Int × List UInt8) => spec_Digits_1 F0 (spec_Digits_1_k F0) m (spec_Digits_1_s x.1 (decide (n < 0)) (tx x.2))) _ (fun x => I64 x.1 ∧ digs x.1.natAbs ++ x.2 = Lib.decDigits n.natAbs) (fun x => x.1.natAbs) (fun m x hx => ?_) _ (n, []) ⟨h, ?_⟩ ?_
    · obtain ⟨x, l⟩ := x
      obtain ⟨⟨h1, h2⟩, h3⟩ := hx
      simp only at h1 h2 h3 ⊢
      have hl : l.length ≤ 20 := by
        have := congrArg List.length h3
        rw [List.length_append] at this
        omega
      by_cases hx0 : x = 0
      · left
        subst hx0
        rw [spec_Digits_1_step]
        simp only [bne_self_eq_false, br_false, spec_Digits_1_ce0]
        rw [show digs (Int.natAbs 0) = [] from rfl, List.nil_append] at h3
        subst h3
        by_cases hn : n < 0
        · rw [decide_eq_true hn, br_true, okC_le (by rw [tx_size]; have : (ByteArray.mk #[45]).size = 1 := rfl; omega), ck_true, show ByteArray.mk #[45] = tx [45] from rfl, tx_append]
          unfold Lib.itoa
          rw [if_pos hn]
          rfl
        · rw [decide_eq_false hn, br_false]
          unfold Lib.itoa
          rw [if_neg hn, show n.natAbs = n.toNat by omega]
      · right
        have hmod : x.natAbs % 10 < 10 := Nat.mod_lt _ (by omega)
        have hdiv : (Int.tdiv x 10).natAbs = x.natAbs / 10 := by rw [Int.natAbs_tdiv]; rfl
        have hI : I64 (Int.tdiv x 10) := ⟨by omega, by omega⟩
        have hr := digs_rec (u := x.natAbs) (by omega)
        have hw : w64 (Int.tdiv x 10) = Int.tdiv x 10 := w64_in hI.1 hI.2
        refine ⟨(Int.tdiv x 10, UInt8.ofNat (48 + x.natAbs % 10) :: l), ?_, ⟨hI, ?_⟩, ?_⟩
        · rw [spec_Digits_1_step, show (x != 0) = true from bne_iff_ne.2 hx0, br_true]
          have key : tx [UInt8.ofNat (48 + x.natAbs % 10)] ++ tx l = tx (UInt8.ofNat (48 + x.natAbs % 10) :: l) := by rw [tx_append]; rfl
          have hsz : okC F0 (tx [UInt8.ofNat (48 + x.natAbs % 10)]).size (tx l).size = true := okC_le (by rw [tx_size, tx_size]; simp only [List.length_cons, List.length_nil]; omega)
          by_cases hneg : x < 0
          · have hm : Int.tmod x 10 = -((x.natAbs % 10 : Nat) : Int) := by
              obtain ⟨u, rfl⟩ : ∃ u : Nat, x = -(u : Int) := ⟨x.natAbs, by omega⟩
              rw [Int.neg_tmod, Int.natAbs_neg, Int.natAbs_natCast]
              rfl
            by_cases hz : x.natAbs % 10 = 0
            · rw [hm, hz, show decide (-((0 : Nat) : Int) < 0) = false from rfl, br_false, show (48 + -((0 : Nat) : Int)) = 48 + ((0 : Nat) : Int) from rfl, dig (by omega)]
              rw [hz] at hsz key
              rw [hsz, ck_true, key, hw]
            · rw [hm, decide_eq_true (by omega), br_true, w64_in (n := 0 - -((x.natAbs % 10 : Nat) : Int)) (by omega) (by omega), show (0 : Int) - -((x.natAbs % 10 : Nat) : Int) = ((x.natAbs % 10 : Nat) : Int) by omega, dig hmod, hsz, ck_true, key, hw]
          · have hm : Int.tmod x 10 = ((x.natAbs % 10 : Nat) : Int) := by
              obtain ⟨u, rfl⟩ : ∃ u : Nat, x = (u : Int) := ⟨x.natAbs, by omega⟩
              rfl
            rw [hm, decide_eq_false (by omega), br_false, dig hmod, hsz, ck_true, key, hw]
        · simp only
          rw [hdiv, ← h3, hr]
          simp
        · simp only
          rw [hdiv]
          omega
    · simp only [List.append_nil]
      unfold digs
      rw [if_neg (by omega)]
    · simp only
      rw [n_eq]
      obtain ⟨h1, h2⟩ := h
      omega
theorem itoa_le {n : Int} (h : I64 n) : (Lib.itoa n).length ≤ 21 := Lib.itoa_length_le n h.1 h.2
theorem itoas_le {a : List Int} (h : ∀ x ∈ a, I64 x) : ∀ x ∈ a.map Lib.itoa, x.length ≤ 21 := by
  intro x hx
  obtain ⟨n, hn, rfl⟩ := List.mem_map.1 hx
  exact itoa_le (h n hn)
theorem take_map_succ {a : List Int} {k : Nat} (h : k < a.length) : (a.take (k + 1)).map Lib.itoa = (a.take k).map Lib.itoa ++ [Lib.itoa (a.getD k 0)] := by
  rw [List.take_add_one, getD_is h 0]
  simp
/-! ### Sets -/
def whoL (s : List Int) : List UInt8 := 123 :: (Lib.join (s.map Lib.itoa) [44] ++ [125])
theorem join_ints {a : List Int} (h : Ints a) (s : UInt8) : (Lib.join (a.map Lib.itoa) [s]).length ≤ 23068672 := by
  have := join_le (itoas_le h.2) s
  rw [List.length_map] at this
  have := h.1
  omega
theorem data_map (a : List Int) : ((a.map fun n => tx (Lib.itoa n)).map fun b => b.data.toList) = a.map Lib.itoa := by
  rw [List.map_map]
  exact List.map_congr_left fun n _ => tx_list _
theorem whoL_le {s : List Int} (h : Ints s) : (whoL s).length ≤ 23068674 := by
  have := join_ints h 44
  simp only [whoL, List.length_cons, List.length_append, List.length_nil]
  omega
end Go.Am.Try
