/- Plain laws: what is drawn. No condition. -/
import Derived.Test.YtmmajfbohkbpjaaPaLawSeat
set_option linter.unusedVariables false
set_option linter.unusedSimpArgs false
namespace Go.Am.Try
open Go.Am
abbrev CurD := List Int × Int × Int
/-- A cursor over bytes. -/
def Cur (c : CurD) : Prop := c.1.length ≤ 1048576 ∧ 0 ≤ c.2.1 ∧ c.2.1 ≤ 1048576
theorem and255 (n : Int) : 0 ≤ w64 ((BitVec.ofInt 64 n &&& BitVec.ofInt 64 255).toNat : Int) ∧ w64 ((BitVec.ofInt 64 n &&& BitVec.ofInt 64 255).toNat : Int) ≤ 255 := by
  have h : (BitVec.ofInt 64 n &&& BitVec.ofInt 64 255).toNat ≤ 255 := by
    rw [BitVec.toNat_and]
    exact Nat.le_trans Nat.and_le_right (by decide)
  rw [w64_in (by omega) (by omega)]
  omega
theorem Byte_ok {c : CurD} (h : Cur c) : ∃ (v : Int) (c' : CurD), spec_l1Byte F0 c = some ((v, ()), (c', ())) ∧ 0 ≤ v ∧ v ≤ 255 ∧ Cur c' := by
  rw [spec_l1Byte_eq]
  by_cases hlt : c.2.1 < (c.1.length : Int)
  · rw [decide_eq_true hlt, br_true, show okI c.2.1 (c.1.length : Int) = true by simp [okI]; exact ⟨h.2.1, hlt⟩, ck_true]
    have hl := h.1
    have h0 := h.2.1
    refine ⟨_, _, rfl, (and255 _).1, (and255 _).2, h.1, ?_, ?_⟩
    · show 0 ≤ w64 (c.2.1 + 1)
      rw [w64_in (by omega) (by omega)]
      omega
    · show w64 (c.2.1 + 1) ≤ 1048576
      rw [w64_in (by omega) (by omega)]
      omega
  · rw [decide_eq_false hlt, br_false]
    exact ⟨_, _, rfl, (and255 _).1, (and255 _).2, h⟩
theorem tmod_in {a n : Int} (h0 : 0 ≤ a) (hn : 0 < n) : 0 ≤ Int.tmod a n ∧ Int.tmod a n < n := by
  rw [Int.tmod_eq_emod_of_nonneg h0]
  exact ⟨Int.emod_nonneg _ (by omega), Int.emod_lt_of_pos _ hn⟩
theorem Below_ok {c : CurD} (h : Cur c) {n : Int} (hn : 0 < n) (hn2 : n ≤ 256) : ∃ (v : Int) (c' : CurD), spec_l1Below F0 c n = some ((v, ()), (c', ())) ∧ 0 ≤ v ∧ v < n ∧ Cur c' := by
  obtain ⟨v, c', h1, h2, h3, h4⟩ := Byte_ok h
  rw [spec_l1Below_eq, decide_eq_false (show ¬ n ≤ 0 by omega), br_false, decide_eq_true hn2, br_true, h1, bnd, show (!(n == 0)) = true by rw [beq_eq_false_iff_ne.2 (show n ≠ 0 by omega)]; rfl, ck_true]
  exact ⟨_, _, rfl, (tmod_in h2 hn).1, (tmod_in h2 hn).2, h4⟩
theorem PickInt_ok {c : CurD} (h : Cur c) {l : List Int} (hn : 0 < l.length) (hn2 : l.length ≤ 256) : ∃ (v : Int) (c' : CurD), spec_l1PickInt F0 c l = some ((v, ()), (c', ())) ∧ v ∈ l ∧ Cur c' := by
  obtain ⟨v, c', h1, h2, h3, h4⟩ := Below_ok h (n := (l.length : Int)) (by omega) (by omega)
  have hv : v.toNat < l.length := by omega
  rw [spec_l1PickInt_eq, h1, bnd, show okI v (l.length : Int) = true by simp [okI]; exact ⟨h2, h3⟩, ck_true]
  refine ⟨_, _, rfl, ?_, h4⟩
  have e : v = (v.toNat : Int) := by omega
  show at_ l v 0 ∈ l
  rw [e, at_isD hv]
  exact List.getElem_mem hv
theorem Once_ok {c : CurD} (h : Cur c) {n : Int} (hn : 0 < n) (hn2 : n ≤ 256) : ∃ (v : Bool) (c' : CurD), spec_l1Once F0 c n = some ((v, ()), (c', ())) ∧ Cur c' := by
  obtain ⟨v, c', h1, h2, h3, h4⟩ := Below_ok h hn hn2
  rw [spec_l1Once_eq, h1, bnd]
  exact ⟨_, _, rfl, h4⟩
theorem New_ok {code : List Int} (h : code.length ≤ 1048576) : ∃ c' : CurD, spec_l1New F0 code = some (((c', ()), ())) ∧ Cur c' := by
  rw [spec_l1New_eq]
  suffices hh : ∀ (j : Nat) (q : Int) (k n : Nat), k + j = code.length → j < n → ∃ q' : Int, spec_l1New_1 F0 (spec_l1New_1_k F0) n (spec_l1New_1_s code q (k : Int) code) = some ((((code, (0, q')) : CurD), ()), ()) by
    obtain ⟨q', e⟩ := hh code.length (w64 (26583 + (code.length : Int))) 0 F0.n (Nat.zero_add _) (by rw [n_eq]; omega)
    exact ⟨_, e, h, Int.le_refl _, by show (0 : Int) ≤ 1048576; decide⟩
  intro j
  induction j with
  | zero =>
    intro q k n hk hn
    obtain ⟨n, rfl⟩ : ∃ m, n = m + 1 := ⟨n - 1, by omega⟩
    obtain rfl : k = code.length := by omega
    rw [spec_l1New_1_step, dec_nlt, br_false, spec_l1New_1_ce0]
    exact ⟨q, rfl⟩
  | succ j ih =>
    intro q k n hk hn
    obtain ⟨n, rfl⟩ : ∃ m, n = m + 1 := ⟨n - 1, by omega⟩
    have hlt : k < code.length := by omega
    rw [spec_l1New_1_step, dec_lt hlt, br_true]
    cases decide ((k : Int) < 4000) with
    | false =>
      rw [br_false, spec_l1New_1_ce0]
      exact ⟨q, rfl⟩
    | true =>
      rw [br_true, okI_nat hlt, ck_true, w64_succ (by omega)]
      exact ih _ (k + 1) n (by omega) (by omega)
theorem DrawConf_ok {c : CurD} (h : Cur c) : ∃ (v : Int × Int) (c' : CurD), spec_l7DrawConf F0 c = some ((v, ()), (c', ())) ∧ Cur c' := by
  obtain ⟨v1, c1, e1, _, _, h1⟩ := Below_ok h (n := 4) (by omega) (by omega)
  obtain ⟨v2, c2, e2, _, _, h2⟩ := Below_ok h1 (n := 3) (by omega) (by omega)
  rw [spec_l7DrawConf_eq, e1, bnd, e2, bnd]
  exact ⟨_, _, rfl, h2⟩
theorem DrawBent_ok {c : CurD} (h : Cur c) : ∃ (v : Int × Int) (c' : CurD), spec_l7DrawBent F0 c = some ((v, ()), (c', ())) ∧ Cur c' := by
  obtain ⟨v1, c1, e1, h1⟩ := DrawConf_ok h
  obtain ⟨v2, c2, e2, _, _, h2⟩ := Below_ok h1 (n := 12) (by omega) (by omega)
  obtain ⟨v3, c3, e3, _, h3⟩ := PickInt_ok h2 (l := [0, 3, 8, -1]) (by decide) (by decide)
  obtain ⟨v4, c4, e4, _, h4⟩ := PickInt_ok h2 (l := [0, 6, 7]) (by decide) (by decide)
  rw [spec_l7DrawBent_eq, e1, bnd, e2, bnd, e3, bnd, e4, bnd]
  dsimp only
  cases (v2 == 0) with
  | true => exact ⟨_, _, rfl, h3⟩
  | false =>
    cases (v2 == 1) with
    | true => exact ⟨_, _, rfl, h4⟩
    | false => exact ⟨_, _, rfl, h2⟩
theorem DrawTx_ok {c : CurD} (h : Cur c) : ∃ (v : TxD) (c' : CurD), spec_l2DrawRight F0 c = some ((v, ()), (c', ())) ∧ Cur c' := by
  obtain ⟨v1, c1, e1, _, _, h1⟩ := Below_ok h (n := 4) (by omega) (by omega)
  obtain ⟨v2, c2, e2, _, _, h2⟩ := Below_ok h1 (n := 4) (by omega) (by omega)
  obtain ⟨v3, c3, e3, _, h3⟩ := PickInt_ok h2 (l := [0, 5, 60, 100, 1000]) (by decide) (by decide)
  obtain ⟨v4, c4, e4, _, _, h4⟩ := Below_ok h3 (n := 3) (by omega) (by omega)
  rw [spec_l2DrawRight_eq, e1, bnd, e2, bnd, e3, bnd, e4, bnd]
  exact ⟨_, _, rfl, h4⟩
theorem DrawSet_ok {c : CurD} (h : Cur c) {m : Int} (hm : 0 < m) (hm2 : m ≤ 256) : ∃ (v : List Int) (c' : CurD), spec_l6DrawSet F0 c m = some ((v, ()), (c', ())) ∧ v.length ≤ 9 ∧ Cur c' := by
  rw [spec_l6DrawSet_eq]
  suffices hh : ∀ (j k : Nat) (c : CurD) (xs : List Int) (n : Nat), k + j = 8 → Cur c → xs.length ≤ k → j < n → ∃ (v : List Int) (c' : CurD), spec_l6DrawSet_1 F0 (spec_l6DrawSet_1_k F0) n (spec_l6DrawSet_1_s m (k : Int) c.1 c.2.1 c.2.2 xs) = some ((v, ()), ((c' : CurD), ())) ∧ v.length ≤ 9 ∧ Cur c' by
    exact hh 8 0 c [] F0.n rfl h (Nat.le_refl _) (by rw [n_eq]; omega)
  intro j
  induction j with
  | zero =>
    intro k c xs n hk hc hx hn
    obtain ⟨n, rfl⟩ : ∃ q, n = q + 1 := ⟨n - 1, by omega⟩
    obtain ⟨v1, c1, e1, l1, g1, h1⟩ := Below_ok hc (n := 8) (by omega) (by omega)
    obtain ⟨v2, c2, e2, h2⟩ := Once_ok h1 (n := 12) (by omega) (by omega)
    obtain ⟨v3, c3, e3, _, h3⟩ := PickInt_ok h2 (l := [-1, 0, 3, 9]) (by decide) (by decide)
    rw [spec_l6DrawSet_1_step, show ((c.1, (c.2.1, c.2.2)) : CurD) = c from rfl, e1, bnd]
    dsimp only
    rw [decide_eq_false (by omega), br_false, spec_l6DrawSet_1_ce0, show ((c1.1, (c1.2.1, c1.2.2)) : CurD) = c1 from rfl, e2, bnd]
    dsimp only
    rw [e3, bnd, okA_le (by omega) (by omega) (by rw [List.length_singleton]; omega), ck_true]
    cases v2 with
    | true => exact ⟨_, _, rfl, by rw [List.length_append, List.length_singleton]; omega, h3⟩
    | false => exact ⟨_, _, rfl, by omega, h2⟩
  | succ j ih =>
    intro k c xs n hk hc hx hn
    obtain ⟨n, rfl⟩ : ∃ q, n = q + 1 := ⟨n - 1, by omega⟩
    obtain ⟨v1, c1, e1, l1, g1, h1⟩ := Below_ok hc (n := 8) (by omega) (by omega)
    obtain ⟨v2, c2, e2, h2⟩ := Once_ok h1 (n := 12) (by omega) (by omega)
    obtain ⟨v3, c3, e3, _, h3⟩ := PickInt_ok h2 (l := [-1, 0, 3, 9]) (by decide) (by decide)
    obtain ⟨v4, c4, e4, l4, g4, h4⟩ := Below_ok h1 (n := m) hm hm2
    have hs := setA_len xs v4
    rw [spec_l6DrawSet_1_step, show ((c.1, (c.2.1, c.2.2)) : CurD) = c from rfl, e1, bnd]
    dsimp only
    by_cases hv : (k : Int) < v1
    · rw [decide_eq_true hv, br_true, e4, bnd]
      dsimp only
      rw [SetAdd_law (by omega), bnd, w64_succ (by omega)]
      exact ih (k + 1) c4 (setA xs v4) n (by omega) h4 (by omega) (by omega)
    · rw [decide_eq_false hv, br_false, spec_l6DrawSet_1_ce0, show ((c1.1, (c1.2.1, c1.2.2)) : CurD) = c1 from rfl, e2, bnd]
      dsimp only
      rw [e3, bnd, okA_le (by omega) (by omega) (by rw [List.length_singleton]; omega), ck_true]
      cases v2 with
      | true => exact ⟨_, _, rfl, by rw [List.length_append, List.length_singleton]; omega, h3⟩
      | false => exact ⟨_, _, rfl, by omega, h2⟩
end Go.Am.Try
