/- Plain laws. No condition. -/
import Derived.Test.YtkkgagllehdhhaaGreatDoorZlLawB
set_option linter.unusedVariables false
set_option linter.unusedSimpArgs false
namespace Go.Am.Tryz
open Go.Am
/-! ### Numbers -/
theorem inR_iff' {lo hi x : Int} : inR lo hi x = decide (lo ≤ x ∧ x ≤ hi) := by
  unfold inR
  by_cases h1 : lo ≤ x <;> by_cases h2 : x ≤ hi <;> simp [h1, h2]
def getL : Nat → List Int → Nat → Int → Option (Int × Nat)
  | 0, _, _, _ => none
  | _ + 1, [], _, _ => none
  | j + 1, x :: xs, k, n => if x < 128 then (if (k ≠ 0 ∧ x = 0) ∨ n + x * 128 ^ k > 2147483647 then none else some (n + x * 128 ^ k, k + 1)) else getL j xs (k + 1) (n + x % 128 * 128 ^ k)
def getR (a : Nat) : Option (Int × Nat) → Int × Int × Bool × Unit
  | some (v, c) => (v, ((a + c : Nat) : Int), true, ())
  | none => (0, 0, false, ())
theorem pow_eq {k : Nat} (h : k ≤ 4) : (2 : Int) ^ (min (w64 (7 * (k : Int))).toNat 64) = 128 ^ k := by
  have : k = 0 ∨ k = 1 ∨ k = 2 ∨ k = 3 ∨ k = 4 := by omega
  rcases this with rfl | rfl | rfl | rfl | rfl <;> rfl
theorem pow_in {k : Nat} (h : k ≤ 4) : (1 : Int) ≤ 128 ^ k ∧ (128 : Int) ^ k ≤ 268435456 := by
  have : k = 0 ∨ k = 1 ∨ k = 2 ∨ k = 3 ∨ k = 4 := by omega
  rcases this with rfl | rfl | rfl | rfl | rfl <;> decide
theorem mul_in {d P : Int} (h0 : 0 ≤ d) (h1 : d ≤ 127) (hP : 1 ≤ P) : 0 ≤ d * P ∧ d * P ≤ 127 * P := ⟨Int.mul_nonneg h0 (by omega), Int.mul_le_mul_of_nonneg_right h1 (by omega)⟩
theorem or_nat {i n : Nat} (d : Nat) (h : n < 2 ^ i) : n ||| d * 2 ^ i = n + d * 2 ^ i := by
  rw [Nat.or_comm, ← Nat.shiftLeft_eq, ← Nat.shiftLeft_add_eq_or_of_lt h, Nat.add_comm]
theorem or_add {k : Nat} (hk : k ≤ 4) {n d : Int} (h0 : 0 ≤ n) (h1 : n < 128 ^ k) (h2 : 0 ≤ d) (h3 : d ≤ 127) : ((BitVec.ofInt 64 n ||| BitVec.ofInt 64 (d * 128 ^ k)).toNat : Int) = n + d * 128 ^ k := by
  obtain ⟨m, rfl⟩ := Int.eq_ofNat_of_zero_le h0
  obtain ⟨e, rfl⟩ := Int.eq_ofNat_of_zero_le h2
  have hp : (128 : Int) ^ k = ((2 ^ (7 * k) : Nat) : Int) := by
    rw [Nat.pow_mul]
    exact (Int.natCast_pow 128 k).symm
  have hb := pow_in hk
  rw [hp] at h1 hb ⊢
  have h1' : m < 2 ^ (7 * k) := by omega
  have hm : e * 2 ^ (7 * k) ≤ 127 * 2 ^ (7 * k) := Nat.mul_le_mul_right _ (by omega)
  have hb2 : 2 ^ (7 * k) ≤ 268435456 := by omega
  rw [show (e : Int) * ((2 ^ (7 * k) : Nat) : Int) = ((e * 2 ^ (7 * k) : Nat) : Int) from (Int.natCast_mul _ _).symm, BitVec.ofInt_natCast, BitVec.ofInt_natCast, BitVec.toNat_or, BitVec.toNat_ofNat, BitVec.toNat_ofNat, Nat.mod_eq_of_lt (by omega), Nat.mod_eq_of_lt (by omega), or_nat e h1']
  omega
def Bytes (b : List Int) : Prop := b.length ≤ 1048576 ∧ ∀ x ∈ b, 0 ≤ x ∧ x ≤ 255
theorem get_spec {b : List Int} (hb : Bytes b) (a : Nat) (ha : a ≤ b.length) : ∀ (j k : Nat), j + k = 5 → ∀ (n1 : Int) (m : Nat), 0 ≤ n1 → n1 < 128 ^ k → j < m →
    spec_GetNum_1 F0 (spec_GetNum_1_k F0) m (spec_GetNum_1_s b (a : Int) n1 (k : Int)) = some (getR a (getL j (b.drop (a + k)) k n1))
  | 0, k, hjk, n1, m, h0, h1, hm => by
    obtain ⟨m, rfl⟩ : ∃ q, m = q + 1 := ⟨m - 1, by omega⟩
    rw [spec_GetNum_1_step, decide_eq_false (by omega), br_false, spec_GetNum_1_ce0]
    rfl
  | j + 1, k, hjk, n1, m, h0, h1, hm => by
    obtain ⟨m, rfl⟩ : ∃ q, m = q + 1 := ⟨m - 1, by omega⟩
    have hl := hb.1
    rw [spec_GetNum_1_step, decide_eq_true (by omega), br_true, decide_eq_false (show ¬ (a : Int) < 0 by omega), br_false, w64_in (n := (b.length : Int) - k) (by omega) (by omega)]
    rcases Nat.lt_or_ge (a + k) b.length with hlt | hge
    · have hx := hb.2 b[a + k] (List.getElem_mem hlt)
      have hp := pow_in (k := k) (by omega)
      rw [decide_eq_false (show ¬ (a : Int) ≥ (b.length : Int) - k by omega), br_false, show w64 ((a : Int) + (k : Int)) = ((a + k : Nat) : Int) by rw [w64_in (by omega) (by omega)]; omega, okI_nat hlt, ck_true,
        decide_eq_true (show 0 ≤ w64 (7 * (k : Int)) by rw [w64_in (by omega) (by omega)]; omega), ck_true, at_isD hlt, pow_eq (by omega), List.drop_eq_getElem_cons hlt]
      generalize b[a + k] = x at hx ⊢
      rw [w64_in (n := x) (by omega) (by omega), Int.tmod_eq_emod_of_nonneg (by omega), spec_GetNum_1_cr, spec_GetNum_1_cr]
      have hd := mul_in (d := x % 128) (P := 128 ^ k) (by omega) (by omega) hp.1
      rw [w64_in (n := x % 128 * 128 ^ k) (by omega) (by omega), or_add (by omega) h0 h1 (by omega) (by omega), w64_in (n := n1 + x % 128 * 128 ^ k) (by omega) (by omega)]
      unfold getL
      by_cases h128 : x < 128
      · have e : x % 128 = x := Int.emod_eq_of_lt hx.1 h128
        rw [e] at hd ⊢
        rw [decide_eq_true h128, br_true, if_pos h128, w64_in (n := ((a + k : Nat) : Int) + 1) (by omega) (by omega)]
        by_cases hk0 : k = 0
        · subst hk0
          rw [show decide (((0 : Nat) : Int) > 0) = false from rfl, br_false]
          by_cases hv : n1 + x * 128 ^ 0 > 2147483647
          · rw [decide_eq_true hv, br_true, if_pos (.inr hv)]
            rfl
          · rw [decide_eq_false hv, br_false, if_neg (fun h => h.elim (fun h => h.1 rfl) hv)]
            rfl
        · rw [decide_eq_true (show (k : Int) > 0 by omega), br_true]
          by_cases hx0 : x = 0
          · rw [show (x == 0) = true from beq_iff_eq.2 hx0, br_true, if_pos (.inl ⟨hk0, hx0⟩)]
            rfl
          · rw [beq_eq_false_iff_ne.2 hx0, br_false]
            by_cases hv : n1 + x * 128 ^ k > 2147483647
            · rw [decide_eq_true hv, br_true, if_pos (.inr hv)]
              rfl
            · rw [decide_eq_false hv, br_false, if_neg (fun h => h.elim (fun h => hx0 h.2) hv)]
              rfl
      · rw [decide_eq_false h128, br_false, if_neg h128, w64_succ (by omega)]
        have hn : n1 + x % 128 * 128 ^ k < 128 ^ (k + 1) := by rw [Int.pow_succ]; omega
        exact get_spec hb a ha j (k + 1) (by omega) _ m (by omega) hn (by omega)
    · rw [decide_eq_true (show (a : Int) ≥ (b.length : Int) - k by omega), br_true, spec_GetNum_1_cr, List.drop_eq_nil_of_le hge]
      rfl
theorem GetNum_law {b : List Int} (hb : Bytes b) {a : Nat} (ha : a ≤ b.length) : spec_GetNum F0 b (a : Int) = some (getR a (getL 5 (b.drop a) 0 0)) := by
  rw [spec_GetNum_eq]
  exact get_spec hb a ha 5 0 rfl 0 _ (by omega) (by decide) (by rw [n_eq]; omega)
theorem put_loop : ∀ (k : Nat) (v : Int) (xs : List Int) (n : Nat), 0 ≤ v → v < 128 ^ (k + 1) → xs.length + k ≤ 1000 → k < n → k ≤ 4 →
    ∃ ys, impl_PutNum_1 F0 (impl_PutNum_1_k F0) n (impl_PutNum_1_s v xs) = some (xs ++ ys, ()) ∧ ys.length ≤ k + 1 ∧ (128 ^ k ≤ v → ys.length = k + 1) ∧ 1 ≤ ys.length
  | 0, v, xs, n, h0, h1, hx, hn, hk => by
    obtain ⟨n, rfl⟩ : ∃ m, n = m + 1 := ⟨n - 1, by omega⟩
    rw [impl_PutNum_1_step, decide_eq_false (show ¬ v ≥ 128 by have : (128 : Int) ^ (0 + 1) = 128 := rfl; omega), br_false, impl_PutNum_1_ce0, okA_le (by omega) (by omega) (by rw [List.length_singleton]; omega), ck_true]
    exact ⟨_, rfl, Nat.le_refl _, fun _ => rfl, Nat.le_refl _⟩
  | k + 1, v, xs, n, h0, h1, hx, hn, hk => by
    obtain ⟨n, rfl⟩ : ∃ m, n = m + 1 := ⟨n - 1, by omega⟩
    have hp := pow_in (k := k) (by omega)
    have e1 : (128 : Int) ^ (k + 1) = 128 ^ k * 128 := Int.pow_succ _ _
    have e2 : (128 : Int) ^ (k + 1 + 1) = 128 ^ (k + 1) * 128 := Int.pow_succ _ _
    rw [impl_PutNum_1_step]
    by_cases hv : v ≥ 128
    · rw [decide_eq_true hv, br_true, okA_le (by omega) (by omega) (by rw [List.length_singleton]; omega), ck_true, Int.tdiv_eq_ediv_of_nonneg h0, w64_in (n := v / 128) (by omega) (by omega)]
      obtain ⟨ys, h2, h3, h4, h5⟩ := put_loop k (v / 128) (xs ++ [IntKind.wrap .u8 (w64 (Int.tmod v 128 + 128))]) n (by omega) (by omega) (by rw [List.length_append, List.length_singleton]; omega) (by omega) (by omega)
      refine ⟨IntKind.wrap .u8 (w64 (Int.tmod v 128 + 128)) :: ys, h2.trans (by rw [List.append_assoc]; rfl), by rw [List.length_cons]; omega, fun h => ?_, by rw [List.length_cons]; omega⟩
      rw [List.length_cons, h4 (by omega)]
    · rw [decide_eq_false hv, br_false, impl_PutNum_1_ce0, okA_le (by omega) (by omega) (by rw [List.length_singleton]; omega), ck_true]
      exact ⟨_, rfl, by rw [List.length_singleton]; omega, fun h => by omega, Nat.le_refl _⟩
theorem PutNum_len (v : Int) : ∃ ys, impl_PutNum F0 v = some (ys, ()) ∧ ∀ (k : Nat) (n1 x : Int), k ≤ 4 → 0 ≤ n1 → n1 < 128 ^ k → 0 ≤ x → x < 128 → v = n1 + x * 128 ^ k →
    ((ys.length : Int) != ((k + 1 : Nat) : Int)) = decide ((k ≠ 0 ∧ x = 0) ∨ v > 2147483647) := by
  rw [impl_PutNum_eq, within_law3, bnd, inR_iff']
  by_cases hv : 0 ≤ v ∧ v ≤ 2147483647
  · rw [decide_eq_true hv, Bool.not_true, br_false]
    have h5 : (128 : Int) ^ (4 + 1) = 34359738368 := by decide
    obtain ⟨ys0, h2, _, _, _⟩ := put_loop 4 v [] F0.n hv.1 (by omega) (by simp) (by rw [n_eq]; omega) (by omega)
    refine ⟨ys0, h2, fun k n1 x hk g0 g1 g2 g3 hvk => ?_⟩
    have hp := pow_in hk
    have e1 : (128 : Int) ^ (k + 1) = 128 ^ k * 128 := Int.pow_succ _ _
    have hm := mul_in (d := x) (P := 128 ^ k) g2 (by omega) hp.1
    obtain ⟨ys, h3, h4, h5, h6⟩ := put_loop k v [] F0.n hv.1 (by omega) (by simp; omega) (by rw [n_eq]; omega) hk
    rw [h2] at h3
    have hys : ys0 = ys := by simpa using h3
    subst hys
    by_cases hx : k ≠ 0 ∧ x = 0
    · rw [decide_eq_true (.inl hx), bne_iff_ne]
      obtain ⟨hk0, hx0⟩ := hx
      subst hx0
      obtain ⟨k, rfl⟩ : ∃ q, k = q + 1 := ⟨k - 1, by omega⟩
      obtain ⟨ys', h3', h4', _, _⟩ := put_loop k v [] F0.n hv.1 (by omega) (by simp; omega) (by rw [n_eq]; omega) (by omega)
      rw [h2] at h3'
      have hys' : ys0 = ys' := by simpa using h3'
      subst hys'
      omega
    · rw [decide_eq_false (fun h => h.elim hx (by omega)), bne_eq_false_iff_eq]
      by_cases hk0 : k = 0
      · subst hk0
        omega
      · have hx1 : 1 ≤ x := by
          have : x ≠ 0 := fun h => hx ⟨hk0, h⟩
          omega
        have := Int.mul_le_mul_of_nonneg_right hx1 (show (0 : Int) ≤ 128 ^ k by omega)
        rw [h5 (by omega)]
  · rw [decide_eq_false hv, Bool.not_false, br_true]
    refine ⟨[], rfl, fun k n1 x hk g0 g1 g2 g3 hvk => ?_⟩
    have hp := pow_in hk
    have hm := mul_in (d := x) (P := 128 ^ k) g2 (by omega) hp.1
    rw [decide_eq_true (.inr (by omega)), bne_iff_ne]
    simp only [List.length_nil]
    omega
theorem get_impl {b : List Int} (hb : Bytes b) (a : Nat) (ha : a ≤ b.length) : ∀ (j k : Nat), j + k = 5 → ∀ (n1 : Int) (m : Nat), 0 ≤ n1 → n1 < 128 ^ k → j < m →
    impl_GetNum_1 F0 (impl_GetNum_1_k F0) m (impl_GetNum_1_s b (a : Int) n1 (k : Int)) = some (getR a (getL j (b.drop (a + k)) k n1))
  | 0, k, hjk, n1, m, h0, h1, hm => by
    obtain ⟨m, rfl⟩ : ∃ q, m = q + 1 := ⟨m - 1, by omega⟩
    rw [impl_GetNum_1_step, decide_eq_false (by omega), br_false, impl_GetNum_1_ce0]
    rfl
  | j + 1, k, hjk, n1, m, h0, h1, hm => by
    obtain ⟨m, rfl⟩ : ∃ q, m = q + 1 := ⟨m - 1, by omega⟩
    have hl := hb.1
    rw [impl_GetNum_1_step, decide_eq_true (by omega), br_true, show w64 ((a : Int) + (k : Int)) = ((a + k : Nat) : Int) by rw [w64_in (by omega) (by omega)]; omega]
    rcases Nat.lt_or_ge (a + k) b.length with hlt | hge
    · have hx := hb.2 b[a + k] (List.getElem_mem hlt)
      have hp := pow_in (k := k) (by omega)
      rw [dec_lt hlt, br_true, okI_nat hlt, ck_true,
        decide_eq_true (show 0 ≤ w64 (7 * (k : Int)) by rw [w64_in (by omega) (by omega)]; omega), ck_true, at_isD hlt, pow_eq (by omega), List.drop_eq_getElem_cons hlt]
      generalize b[a + k] = x at hx ⊢
      rw [w64_in (n := x) (by omega) (by omega), Int.tmod_eq_emod_of_nonneg (by omega), impl_GetNum_1_cr, impl_GetNum_1_cr]
      have hd := mul_in (d := x % 128) (P := 128 ^ k) (by omega) (by omega) hp.1
      rw [w64_in (n := x % 128 * 128 ^ k) (by omega) (by omega), w64_in (n := n1 + x % 128 * 128 ^ k) (by omega) (by omega), w64_succ (show k + 1 ≤ 9223372036854775807 by omega)]
      unfold getL
      by_cases h128 : x < 128
      · have e : x % 128 = x := Int.emod_eq_of_lt hx.1 h128
        rw [e] at hd ⊢
        rw [decide_eq_true h128, br_true, if_pos h128, w64_in (n := ((a + k : Nat) : Int) + 1) (by omega) (by omega)]
        obtain ⟨ys, h2, h3⟩ := PutNum_len (n1 + x * 128 ^ k)
        rw [h2, bnd]
        dsimp only
        rw [h3 k n1 x (by omega) h0 h1 hx.1 h128 rfl]
        by_cases hc : (k ≠ 0 ∧ x = 0) ∨ n1 + x * 128 ^ k > 2147483647
        · rw [decide_eq_true hc, br_true, if_pos hc]
          rfl
        · rw [decide_eq_false hc, br_false, if_neg hc]
          rfl
      · rw [decide_eq_false h128, br_false, if_neg h128]
        have hn : n1 + x % 128 * 128 ^ k < 128 ^ (k + 1) := by rw [Int.pow_succ]; omega
        exact get_impl hb a ha j (k + 1) (by omega) _ m (by omega) hn (by omega)
    · rw [decide_eq_false (show ¬ ((a + k : Nat) : Int) < (b.length : Int) by omega), br_false, impl_GetNum_1_ce0, List.drop_eq_nil_of_le hge]
      rfl
theorem GetNum_law2 {b : List Int} (hb : Bytes b) {a : Nat} (ha : a ≤ b.length) : impl_GetNum F0 b (a : Int) = some (getR a (getL 5 (b.drop a) 0 0)) := by
  have hl := hb.1
  rw [impl_GetNum_eq, within_law3, bnd, inR_iff', w64_in (by omega) (by omega)]
  rcases Nat.lt_or_ge a b.length with hlt | hge
  · rw [decide_eq_true (by omega), Bool.not_true, br_false]
    exact get_impl hb a ha 5 0 rfl 0 _ (by omega) (by decide) (by rw [n_eq]; omega)
  · rw [decide_eq_false (by omega), Bool.not_false, br_true, List.drop_eq_nil_of_le hge]
    rfl
theorem getL_ok : ∀ (j : Nat) (l : List Int) (k : Nat) (n : Int) (v : Int) (c : Nat), getL j l k n = some (v, c) → v ≤ 2147483647 ∧ k < c ∧ c ≤ k + l.length
  | 0, _, _, _, _, _, h => by cases h
  | _ + 1, [], _, _, _, _, h => by cases h
  | j + 1, x :: l, k, n, v, c, h => by
    unfold getL at h
    split at h
    · split at h
      · cases h
      · rename_i hc
        cases h
        exact ⟨Int.not_lt.1 fun hh => hc (.inr hh), Nat.lt_succ_self _, by rw [List.length_cons]; omega⟩
    · have := getL_ok j l (k + 1) _ v c h
      rw [List.length_cons]
      exact ⟨this.1, by omega, by omega⟩
theorem getL_pos : ∀ (j : Nat) (l : List Int) (k : Nat) (n : Int) (v : Int) (c : Nat), (∀ x ∈ l, 0 ≤ x) → 0 ≤ n → getL j l k n = some (v, c) → 0 ≤ v
  | 0, _, _, _, _, _, _, _, h => by cases h
  | _ + 1, [], _, _, _, _, _, _, h => by cases h
  | j + 1, x :: l, k, n, v, c, hl, hn, h => by
    have hx := hl x List.mem_cons_self
    have hp : (0 : Int) ≤ 128 ^ k := Int.pow_nonneg (by omega)
    unfold getL at h
    split at h
    · split at h
      · cases h
      · cases h
        have := Int.mul_nonneg hx hp
        omega
    · have h0 := Int.mul_nonneg (Int.emod_nonneg x (show (128 : Int) ≠ 0 by decide)) hp
      exact getL_pos j l (k + 1) _ v c (fun y hy => hl y (List.mem_cons_of_mem _ hy)) (by omega) h
end Go.Am.Tryz
set_option linter.unusedVariables false
set_option linter.unusedSimpArgs false
namespace Go.Am.Tryz
open Go.Am
abbrev RdS := Nat × Bool
abbrev cell (b : List Int) (s : RdS) : List Int × Int × Bool := (b, (s.1 : Int), s.2)
abbrev cell2 (b : List Int) (s : RdS) : List Int × Int × Bool := (b, (s.1 : Int), !s.2)
def getN (b : List Int) (a : Nat) : Option (Int × Nat) := match getL 5 (b.drop a) 0 0 with
  | some (v, c) => some (v, a + c)
  | none => none
def outN : Option (Int × Nat) → Int × Int × Bool × Unit
  | some (v, a) => (v, (a : Int), true, ())
  | none => (0, 0, false, ())
theorem getN_law {b : List Int} (hb : Bytes b) {a : Nat} (ha : a ≤ b.length) : spec_GetNum F0 b (a : Int) = some (outN (getN b a)) := by
  rw [GetNum_law hb ha]
  unfold getN
  cases getL 5 (b.drop a) 0 0 <;> rfl
theorem getN_law2 {b : List Int} (hb : Bytes b) {a : Nat} (ha : a ≤ b.length) : impl_GetNum F0 b (a : Int) = some (outN (getN b a)) := by
  rw [GetNum_law2 hb ha]
  unfold getN
  cases getL 5 (b.drop a) 0 0 <;> rfl
theorem getN_ok {b : List Int} (hb : Bytes b) {a : Nat} (ha : a ≤ b.length) {v : Int} {a' : Nat} (h : getN b a = some (v, a')) : 0 ≤ v ∧ v ≤ 2147483647 ∧ a < a' ∧ a' ≤ b.length := by
  unfold getN at h
  split at h
  · rename_i v' c he
    cases h
    have h1 := getL_ok _ _ _ _ _ _ he
    have h2 := getL_pos _ _ _ _ _ _ (fun x hx => (hb.2 x (List.mem_of_mem_drop hx)).1) (Int.le_refl 0) he
    rw [List.length_drop] at h1
    exact ⟨h2, h1.1, by omega, by omega⟩
  · cases h
def rdNum (b : List Int) (s : RdS) : Int × RdS := match getN b s.1 with
  | some (v, a) => if s.2 = true then (v, (a, true)) else (0, (s.1, false))
  | none => (0, (s.1, false))
theorem Num_law {b : List Int} (hb : Bytes b) {s : RdS} (hs : s.1 ≤ b.length) : spec_l12Num F0 (cell b s) = some (((rdNum b s).1, ()), (cell b (rdNum b s).2, ())) := by
  obtain ⟨a, ok⟩ := s
  rw [spec_l12Num_eq, getN_law hb hs, bnd]
  unfold rdNum outN
  dsimp only
  cases getN b a with
  | none => rfl
  | some r => cases ok <;> rfl
theorem Num_law2 {b : List Int} (hb : Bytes b) {s : RdS} (hs : s.1 ≤ b.length) : impl_reader_num F0 (cell2 b s) = some (((rdNum b s).1, ()), (cell2 b (rdNum b s).2, ())) := by
  obtain ⟨a, ok⟩ := s
  rw [impl_reader_num_eq, getN_law2 hb hs, bnd]
  unfold rdNum outN
  dsimp only
  cases getN b a with
  | none => cases ok <;> rfl
  | some r => cases ok <;> rfl
theorem rdNum_ok {b : List Int} (hb : Bytes b) {s : RdS} (hs : s.1 ≤ b.length) : (rdNum b s).2.1 ≤ b.length ∧ ((rdNum b s).2.2 = true → s.1 < (rdNum b s).2.1) ∧ 0 ≤ (rdNum b s).1 ∧ (rdNum b s).1 ≤ 2147483647 := by
  unfold rdNum
  split
  · rename_i v a h
    have := getN_ok hb hs h
    split
    · exact ⟨this.2.2.2, fun _ => this.2.2.1, this.1, this.2.1⟩
    · exact ⟨hs, (fun h => by cases h), Int.le_refl _, by omega⟩
  · exact ⟨hs, (fun h => by cases h), Int.le_refl _, by omega⟩
/-! ### Texts -/
def getT (b : List Int) (a : Nat) : Option (ByteArray × Nat) := match getN b a with
  | some (v, a) => if v > (b.length : Int) - a then none else some (strOf ((b.take (a + v.toNat)).drop a), a + v.toNat)
  | none => none
def outT : Option (ByteArray × Nat) → ByteArray × Int × Bool × Unit
  | some (v, a) => (v, (a : Int), true, ())
  | none => (ByteArray.mk #[], 0, false, ())
theorem getT_tail {b : List Int} (hb : Bytes b) {a : Nat} (ha : a ≤ b.length) :
    br (!(outN (getN b a)).2.2.1) (some (ByteArray.mk #[], 0, false, ())) (br (decide ((outN (getN b a)).1 > w64 ((b.length : Int) - (outN (getN b a)).2.1))) (some (ByteArray.mk #[], 0, false, ()))
      (ck (okS (outN (getN b a)).2.1 (w64 ((outN (getN b a)).2.1 + (outN (getN b a)).1)) (b.length : Int)) (some (strOf ((b.take (w64 ((outN (getN b a)).2.1 + (outN (getN b a)).1)).toNat).drop (outN (getN b a)).2.1.toNat), w64 ((outN (getN b a)).2.1 + (outN (getN b a)).1), true, ())))) = some (outT (getT b a)) := by
  have hl := hb.1
  unfold getT
  cases hg : getN b a with
  | none => rfl
  | some r =>
    obtain ⟨v, a'⟩ := r
    have h := getN_ok hb ha hg
    show br (!true) _ (br (decide (v > w64 ((b.length : Int) - (a' : Int)))) _ (ck (okS (a' : Int) (w64 ((a' : Int) + v)) (b.length : Int)) (some (strOf ((b.take (w64 ((a' : Int) + v)).toNat).drop (a' : Int).toNat), w64 ((a' : Int) + v), true, ())))) = some (outT (if v > (b.length : Int) - a' then none else some (strOf ((b.take (a' + v.toNat)).drop a'), a' + v.toNat)))
    rw [Bool.not_true, br_false, w64_in (n := (b.length : Int) - a') (by omega) (by omega), w64_in (n := (a' : Int) + v) (by omega) (by omega)]
    by_cases hv : v > (b.length : Int) - a'
    · rw [decide_eq_true hv, br_true, if_pos hv]
      rfl
    · rw [decide_eq_false hv, br_false, if_neg hv, show (a' : Int) + v = ((a' + v.toNat : Nat) : Int) by omega, okS_nat (by omega) (by omega), ck_true]
      simp only [Int.toNat_natCast, outT]
theorem GetText_law {b : List Int} (hb : Bytes b) {a : Nat} (ha : a ≤ b.length) : spec_GetText F0 b (a : Int) = some (outT (getT b a)) := by
  rw [spec_GetText_eq, getN_law hb ha, bnd]
  exact getT_tail hb ha
theorem GetText_law2 {b : List Int} (hb : Bytes b) {a : Nat} (ha : a ≤ b.length) : impl_GetText F0 b (a : Int) = some (outT (getT b a)) := by
  rw [impl_GetText_eq, getN_law2 hb ha, bnd]
  exact getT_tail hb ha
theorem getT_ok {b : List Int} (hb : Bytes b) {a : Nat} (ha : a ≤ b.length) {v : ByteArray} {a' : Nat} (h : getT b a = some (v, a')) : v.size ≤ 1048576 ∧ a < a' ∧ a' ≤ b.length := by
  have hl := hb.1
  unfold getT at h
  split at h
  · rename_i v0 a0 hg
    have h0 := getN_ok hb ha hg
    split at h
    · cases h
    · rename_i hv
      cases h
      refine ⟨?_, by omega, by omega⟩
      show (((b.take (a0 + v0.toNat)).drop a0).map fun n => UInt8.ofNat n.toNat).toArray.size ≤ 1048576
      rw [List.size_toArray, List.length_map, List.length_drop, List.length_take]
      omega
  · cases h
def rdText (b : List Int) (s : RdS) : ByteArray × RdS := match getT b s.1 with
  | some (v, a) => if s.2 = true then (v, (a, true)) else (ByteArray.mk #[], (s.1, false))
  | none => (ByteArray.mk #[], (s.1, false))
theorem Text_law {b : List Int} (hb : Bytes b) {s : RdS} (hs : s.1 ≤ b.length) : spec_l12Text F0 (cell b s) = some (((rdText b s).1, ()), (cell b (rdText b s).2, ())) := by
  obtain ⟨a, ok⟩ := s
  rw [spec_l12Text_eq, GetText_law hb hs, bnd]
  unfold rdText outT
  dsimp only
  cases getT b a with
  | none => rfl
  | some r => cases ok <;> rfl
theorem Text_law2 {b : List Int} (hb : Bytes b) {s : RdS} (hs : s.1 ≤ b.length) : impl_reader_text F0 (cell2 b s) = some (((rdText b s).1, ()), (cell2 b (rdText b s).2, ())) := by
  obtain ⟨a, ok⟩ := s
  rw [impl_reader_text_eq, GetText_law2 hb hs, bnd]
  unfold rdText outT
  dsimp only
  cases getT b a with
  | none => cases ok <;> rfl
  | some r => cases ok <;> rfl
theorem rdText_ok {b : List Int} (hb : Bytes b) {s : RdS} (hs : s.1 ≤ b.length) : (rdText b s).2.1 ≤ b.length ∧ (rdText b s).1.size ≤ 1048576 := by
  unfold rdText
  split
  · rename_i v a h
    have := getT_ok hb hs h
    split
    · exact ⟨this.2.2, this.1⟩
    · exact ⟨hs, Nat.zero_le _⟩
  · exact ⟨hs, Nat.zero_le _⟩
/-! ### Rows of numbers -/
def rdNums (b : List Int) (n : Int) : Nat → Int → RdS → List Int → List Int × RdS
  | 0, _, s, xs => (xs, s)
  | f + 1, i, s, xs => if i < n ∧ s.2 = true then rdNums b n f (i + 1) (rdNum b s).2 (xs ++ [(rdNum b s).1]) else (xs, s)
def rdWho (b : List Int) (s : RdS) : List Int × RdS := rdNums b (rdNum b s).1 (b.length + 2) 0 (rdNum b s).2 []
theorem who_spec {b : List Int} (hb : Bytes b) (n1 : Int) {γ : Type} (κ : Ex → St → Option γ) : ∀ (f : Nat) (i : Int) (s : RdS) (xs : List Int) (m : Nat), s.1 ≤ b.length → 0 ≤ i → i + f ≤ 4194304 → (s.2 = true → b.length + 2 ≤ s.1 + f) → xs.length + f ≤ 4194304 → f < m →
    spec_l12Who_1 F0 κ m (spec_l12Who_1_s n1 i b (s.1 : Int) s.2 xs) = κ (.exit 0) (spec_l12Who_1_e0 b ((rdNums b n1 f i s xs).2.1 : Int) (rdNums b n1 f i s xs).2.2 (rdNums b n1 f i s xs).1)
  | 0, i, s, xs, m, hs, h0, h1, h2, h3, hm => by
    obtain ⟨m, rfl⟩ : ∃ q, m = q + 1 := ⟨m - 1, by omega⟩
    have hf : s.2 = false := Bool.eq_false_iff.2 fun h => by have := h2 h; omega
    rw [spec_l12Who_1_step]
    unfold rdNums
    dsimp only
    rw [hf, br_false]
    cases decide (i < n1) <;> rfl
  | f + 1, i, s, xs, m, hs, h0, h1, h2, h3, hm => by
    obtain ⟨m, rfl⟩ : ∃ q, m = q + 1 := ⟨m - 1, by omega⟩
    rw [spec_l12Who_1_step]
    unfold rdNums
    by_cases hi : i < n1
    · rw [decide_eq_true hi, br_true]
      cases hf : s.2 with
      | false =>
        rw [br_false, if_neg (fun h => by cases h.2), hf]
      | true =>
        have hn := Num_law hb hs
        have hk := rdNum_ok hb hs
        unfold cell at hn
        rw [hf] at hn
        rw [br_true, if_pos ⟨hi, rfl⟩, hn, bnd, okA_le (by omega) (by omega) (by rw [List.length_singleton]; omega), ck_true, w64_in (by omega) (by omega)]
        exact who_spec hb n1 κ f (i + 1) (rdNum b s).2 (xs ++ [(rdNum b s).1]) m hk.1 (by omega) (by omega) (fun h => by have := hk.2.1 h; have := h2 hf; omega) (by rw [List.length_append, List.length_singleton]; omega) (by omega)
    · rw [decide_eq_false hi, br_false, if_neg (fun h => hi h.1)]
theorem who_impl {b : List Int} (hb : Bytes b) (n1 : Int) {γ : Type} (κ : Ex → St → Option γ) : ∀ (f : Nat) (i : Int) (s : RdS) (xs : List Int) (m : Nat), s.1 ≤ b.length → 0 ≤ i → i + f ≤ 4194304 → (s.2 = true → b.length + 2 ≤ s.1 + f) → xs.length + f ≤ 4194304 → f < m →
    impl_reader_nums_1 F0 κ m (impl_reader_nums_1_s n1 i b (s.1 : Int) (!s.2) xs) = κ (.exit 0) (impl_reader_nums_1_e0 b ((rdNums b n1 f i s xs).2.1 : Int) (!(rdNums b n1 f i s xs).2.2) (rdNums b n1 f i s xs).1)
  | 0, i, s, xs, m, hs, h0, h1, h2, h3, hm => by
    obtain ⟨m, rfl⟩ : ∃ q, m = q + 1 := ⟨m - 1, by omega⟩
    have hf : s.2 = false := Bool.eq_false_iff.2 fun h => by have := h2 h; omega
    rw [impl_reader_nums_1_step]
    unfold rdNums
    dsimp only
    rw [hf]
    cases decide (i < n1) <;> rfl
  | f + 1, i, s, xs, m, hs, h0, h1, h2, h3, hm => by
    obtain ⟨m, rfl⟩ : ∃ q, m = q + 1 := ⟨m - 1, by omega⟩
    rw [impl_reader_nums_1_step]
    unfold rdNums
    by_cases hi : i < n1
    · rw [decide_eq_true hi, br_true]
      cases hf : s.2 with
      | false =>
        rw [if_neg (fun h => by cases h.2), hf]
        rfl
      | true =>
        have hn := Num_law2 hb hs
        have hk := rdNum_ok hb hs
        unfold cell2 at hn
        rw [hf] at hn
        rw [Bool.not_true, Bool.not_false, br_true, if_pos ⟨hi, rfl⟩, show (false : Bool) = !true from rfl, hn, bnd, okA_le (by omega) (by omega) (by rw [List.length_singleton]; omega), ck_true, w64_in (by omega) (by omega)]
        exact who_impl hb n1 κ f (i + 1) (rdNum b s).2 (xs ++ [(rdNum b s).1]) m hk.1 (by omega) (by omega) (fun h => by have := hk.2.1 h; have := h2 hf; omega) (by rw [List.length_append, List.length_singleton]; omega) (by omega)
    · rw [decide_eq_false hi, br_false, if_neg (fun h => hi h.1)]
theorem Who_law {b : List Int} (hb : Bytes b) {s : RdS} (hs : s.1 ≤ b.length) : spec_l12Who F0 (cell b s) = some (((rdWho b s).1, ()), (cell b (rdWho b s).2, ())) := by
  have hl := hb.1
  have hk := rdNum_ok hb hs
  rw [spec_l12Who_eq, Num_law hb hs, bnd]
  refine (who_spec hb (rdNum b s).1 (spec_l12Who_1_k F0) (b.length + 2) 0 (rdNum b s).2 [] _ hk.1 (Int.le_refl _) (by omega) (fun _ => by omega) (by rw [List.length_nil]; omega) (by rw [n_eq]; omega)).trans ?_
  rw [spec_l12Who_1_ce0]
  rfl
theorem Who_law2 {b : List Int} (hb : Bytes b) {s : RdS} (hs : s.1 ≤ b.length) : impl_reader_nums F0 (cell2 b s) = some (((rdWho b s).1, ()), (cell2 b (rdWho b s).2, ())) := by
  have hl := hb.1
  have hk := rdNum_ok hb hs
  rw [impl_reader_nums_eq, Num_law2 hb hs, bnd]
  refine (who_impl hb (rdNum b s).1 (impl_reader_nums_1_k F0) (b.length + 2) 0 (rdNum b s).2 [] _ hk.1 (Int.le_refl _) (by omega) (fun _ => by omega) (by rw [List.length_nil]; omega) (by rw [n_eq]; omega)).trans ?_
  rw [impl_reader_nums_1_ce0]
  rfl
theorem rdNums_bad (b : List Int) (n : Int) (f : Nat) (i : Int) {s : RdS} (h : s.2 = false) (xs : List Int) : rdNums b n f i s xs = (xs, s) := by
  cases f with
  | zero => rfl
  | succ f =>
    unfold rdNums
    rw [if_neg (fun h' => by rw [h] at h'; cases h'.2)]
theorem rdNums_ok {b : List Int} (hb : Bytes b) (n : Int) : ∀ (f : Nat) (i : Int) (s : RdS) (xs : List Int), s.1 ≤ b.length → (rdNums b n f i s xs).2.1 ≤ b.length ∧ ((rdNums b n f i s xs).2.2 = true → (rdNums b n f i s xs).1.length + s.1 ≤ xs.length + (rdNums b n f i s xs).2.1)
  | 0, i, s, xs, hs => ⟨hs, fun _ => Nat.le_refl _⟩
  | f + 1, i, s, xs, hs => by
    unfold rdNums
    split
    · have hk := rdNum_ok hb hs
      have ih := rdNums_ok hb n f (i + 1) (rdNum b s).2 (xs ++ [(rdNum b s).1]) hk.1
      refine ⟨ih.1, fun h => ?_⟩
      cases hr : (rdNum b s).2.2 with
      | false =>
        rw [rdNums_bad b n f (i + 1) hr, hr] at h
        cases h
      | true =>
        have h1 := hk.2.1 hr
        have h2 := ih.2 h
        rw [List.length_append, List.length_singleton] at h2
        omega
    · exact ⟨hs, fun _ => Nat.le_refl _⟩
theorem rdWho_ok {b : List Int} (hb : Bytes b) {s : RdS} (hs : s.1 ≤ b.length) : (rdWho b s).2.1 ≤ b.length ∧ ((rdWho b s).2.2 = true → (rdWho b s).1.length ≤ 1048576) := by
  have hl := hb.1
  have hk := rdNum_ok hb hs
  have h := rdNums_ok hb (rdNum b s).1 (b.length + 2) 0 (rdNum b s).2 [] hk.1
  refine ⟨h.1, fun ho => ?_⟩
  have h2 := h.2 ho
  have h1 := h.1
  rw [List.length_nil] at h2
  unfold rdWho
  omega
def rdQc (b : List Int) (s : RdS) : QcD × RdS := (((rdNum b s).1, (rdText b (rdNum b s).2).1, (rdWho b (rdText b (rdNum b s).2).2).1), (rdWho b (rdText b (rdNum b s).2).2).2)
theorem Qc_law {b : List Int} (hb : Bytes b) {s : RdS} (hs : s.1 ≤ b.length) : spec_l12Qc F0 (cell b s) = some (((rdQc b s).1, ()), (cell b (rdQc b s).2, ())) := by
  have h1 := (rdNum_ok hb hs).1
  have h2 := (rdText_ok hb h1).1
  rw [spec_l12Qc_eq, Num_law hb hs, bnd, Text_law hb h1, bnd, Who_law hb h2, bnd]
  rfl
theorem Qc_law2 {b : List Int} (hb : Bytes b) {s : RdS} (hs : s.1 ≤ b.length) : impl_reader_qc F0 (cell2 b s) = some (((rdQc b s).1, ()), (cell2 b (rdQc b s).2, ())) := by
  have h1 := (rdNum_ok hb hs).1
  have h2 := (rdText_ok hb h1).1
  rw [impl_reader_qc_eq, Num_law2 hb hs, bnd, Text_law2 hb h1, bnd, Who_law2 hb h2, bnd]
  rfl
theorem rdQc_ok {b : List Int} (hb : Bytes b) {s : RdS} (hs : s.1 ≤ b.length) : (rdQc b s).2.1 ≤ b.length ∧ ((rdQc b s).2.2 = true → QcL (rdQc b s).1) := by
  have h1 := (rdNum_ok hb hs).1
  have h2 := rdText_ok hb h1
  have h3 := rdWho_ok hb h2.1
  exact ⟨h3.1, fun h => ⟨h2.2, h3.2 h⟩⟩
/-! ### Messages -/
def badMsg : MsgD := (0, 0, (ByteArray.mk #[], d0Qc), d0Qc, d0Qc, 0, d0Tx)
def fin (c : Int × Int) (b : List Int) (m : MsgD) (s : RdS) : MsgD × Bool := if s.2 = true ∧ (s.1 : Int) = (b.length : Int) ∧ msgOk c m = true then (m, true) else (badMsg, false)
theorem fin_law {c : Int × Int} {b : List Int} {m : MsgD} {s : RdS} (h : s.2 = true → MsgL m) :
    br (!s.2) (some (badMsg, false, ())) (br ((s.1 : Int) != (b.length : Int)) (some (badMsg, false, ())) ((spec_MsgOk F0 c m).bind fun r87 => br (!r87.1) (some (badMsg, false, ())) (some (m, true, ())))) = some ((fin c b m s).1, (fin c b m s).2, ()) := by
  unfold fin
  cases hs : s.2 with
  | false =>
    rw [if_neg (fun h => by cases h.1)]
    rfl
  | true =>
    rw [Bool.not_true, br_false, MsgOk_law (h hs), bnd]
    by_cases hl : (s.1 : Int) = (b.length : Int)
    · rw [show ((s.1 : Int) != (b.length : Int)) = false from bne_eq_false_iff_eq.2 hl, br_false]
      cases hm : msgOk c m with
      | false =>
        rw [if_neg (fun h => by cases h.2.2)]
        rfl
      | true =>
        rw [if_pos ⟨rfl, hl, rfl⟩]
        rfl
    · rw [bne_iff_ne.2 hl, br_true, if_neg (fun h => hl h.2.1)]
theorem fin_law2 {c : Int × Int} {b : List Int} {m : MsgD} {s : RdS} (h : s.2 = true → MsgL m) :
    br (!s.2) (some (badMsg, false, ())) (br ((s.1 : Int) != (b.length : Int)) (some (badMsg, false, ())) ((impl_MsgOk F0 c m).bind fun r87 => br (!r87.1) (some (badMsg, false, ())) (some (m, true, ())))) = some ((fin c b m s).1, (fin c b m s).2, ()) := by
  unfold fin
  cases hs : s.2 with
  | false =>
    rw [if_neg (fun h => by cases h.1)]
    rfl
  | true =>
    rw [Bool.not_true, br_false, MsgOk_law2 (h hs), bnd]
    by_cases hl : (s.1 : Int) = (b.length : Int)
    · rw [show ((s.1 : Int) != (b.length : Int)) = false from bne_eq_false_iff_eq.2 hl, br_false]
      cases hm : msgOk c m with
      | false =>
        rw [if_neg (fun h => by cases h.2.2)]
        rfl
      | true =>
        rw [if_pos ⟨rfl, hl, rfl⟩]
        rfl
    · rw [bne_iff_ne.2 hl, br_true, if_neg (fun h => hl h.2.1)]
def rd0 (b : List Int) : Int × RdS := rdNum b (0, true)
def msg1 (b : List Int) : MsgD × RdS := (((rd0 b).1, 0, ((rdText b (rd0 b).2).1, (rdQc b (rdText b (rd0 b).2).2).1), d0Qc, d0Qc, 0, d0Tx), (rdQc b (rdText b (rd0 b).2).2).2)
def msg2 (b : List Int) : MsgD × RdS :=
  (((rd0 b).1, 0, (ByteArray.mk #[], d0Qc), ((rdNum b (rd0 b).2).1, (rdText b (rdNum b (rd0 b).2).2).1, (rdWho b (rdText b (rdNum b (rd0 b).2).2).2).1), d0Qc, 0, d0Tx), (rdWho b (rdText b (rdNum b (rd0 b).2).2).2).2)
def msg3 (b : List Int) : MsgD × RdS :=
  (((rd0 b).1, (rdNum b (rd0 b).2).1, (ByteArray.mk #[], d0Qc), d0Qc, (rdQc b (rdNum b (rdNum b (rd0 b).2).2).2).1, (rdNum b (rdNum b (rd0 b).2).2).1, d0Tx), (rdQc b (rdNum b (rdNum b (rd0 b).2).2).2).2)
def msg4 (b : List Int) : MsgD × RdS :=
  (((rd0 b).1, 0, (ByteArray.mk #[], d0Qc), d0Qc, d0Qc, 0, ((rdNum b (rd0 b).2).1, (rdNum b (rdNum b (rd0 b).2).2).1, (rdNum b (rdNum b (rdNum b (rd0 b).2).2).2).1, (rdNum b (rdNum b (rdNum b (rdNum b (rd0 b).2).2).2).2).1)), (rdNum b (rdNum b (rdNum b (rdNum b (rd0 b).2).2).2).2).2)
def msg0 (b : List Int) : MsgD × RdS := (((rd0 b).1, 0, (ByteArray.mk #[], d0Qc), d0Qc, d0Qc, 0, d0Tx), (rd0 b).2)
def msgRd (b : List Int) : MsgD × RdS := if ((rd0 b).1 == 1) = true then msg1 b else if ((rd0 b).1 == 2) = true then msg2 b else if ((rd0 b).1 == 3) = true then msg3 b else if ((rd0 b).1 == 4) = true then msg4 b else msg0 b
def msgOf (c : Int × Int) (b : List Int) : MsgD × Bool := fin c b (msgRd b).1 (msgRd b).2
theorem MsgOf_law {b : List Int} (hb : Bytes b) (c : Int × Int) : spec_MsgOf F0 c b = some ((msgOf c b).1, (msgOf c b).2, ()) := by
  have e0 : spec_l12Num F0 (b, 0, true) = some (((rd0 b).1, ()), (cell b (rd0 b).2, ())) := Num_law hb (s := (0, true)) (Nat.zero_le _)
  have h0 : (rd0 b).2.1 ≤ b.length := (rdNum_ok hb (s := (0, true)) (Nat.zero_le _)).1
  have h1 := (rdNum_ok hb h0).1
  have h2 := (rdNum_ok hb h1).1
  have h3 := (rdNum_ok hb h2).1
  have t0 := rdText_ok hb h0
  have t1 := rdText_ok hb h1
  have q1 := rdQc_ok hb t0.1
  have q3 := rdQc_ok hb h2
  have w2 := rdWho_ok hb t1.1
  rw [spec_MsgOf_eq, e0, bnd]
  unfold msgOf msgRd
  dsimp only
  by_cases k1 : ((rd0 b).1 == 1) = true
  · rw [k1, br_true, if_pos rfl, Text_law hb h0, bnd, Qc_law hb t0.1, bnd]
    unfold msg1
    generalize rdQc b (rdText b (rd0 b).2).2 = r2 at q1 ⊢
    generalize rdText b (rd0 b).2 = r1 at t0 ⊢
    generalize rd0 b = r0
    exact fin_law (c := c) (b := b) (m := (r0.1, 0, (r1.1, r2.1), d0Qc, d0Qc, 0, d0Tx)) (s := r2.2) fun h => ⟨t0.2, q1.2 h, d0Qc_l, d0Qc_l⟩
  · rw [Bool.eq_false_iff.2 k1, br_false, if_neg (by decide)]
    by_cases k2 : ((rd0 b).1 == 2) = true
    · rw [k2, br_true, if_pos rfl, Num_law hb h0, bnd, Text_law hb h1, bnd, Who_law hb t1.1, bnd]
      unfold msg2
      generalize rdWho b (rdText b (rdNum b (rd0 b).2).2).2 = r3 at w2 ⊢
      generalize rdText b (rdNum b (rd0 b).2).2 = r2 at t1 ⊢
      generalize rdNum b (rd0 b).2 = r1
      generalize rd0 b = r0
      exact fin_law (c := c) (b := b) (m := (r0.1, 0, (ByteArray.mk #[], d0Qc), (r1.1, r2.1, r3.1), d0Qc, 0, d0Tx)) (s := r3.2) fun h => ⟨Nat.zero_le _, d0Qc_l, ⟨t1.2, w2.2 h⟩, d0Qc_l⟩
    · rw [Bool.eq_false_iff.2 k2, br_false, if_neg (by decide)]
      by_cases k3 : ((rd0 b).1 == 3) = true
      · rw [k3, br_true, if_pos rfl, Num_law hb h0, bnd, Num_law hb h1, bnd, Qc_law hb h2, bnd]
        unfold msg3
        generalize rdQc b (rdNum b (rdNum b (rd0 b).2).2).2 = r3 at q3 ⊢
        generalize rdNum b (rdNum b (rd0 b).2).2 = r2
        generalize rdNum b (rd0 b).2 = r1
        generalize rd0 b = r0
        exact fin_law (c := c) (b := b) (m := (r0.1, r1.1, (ByteArray.mk #[], d0Qc), d0Qc, r3.1, r2.1, d0Tx)) (s := r3.2) fun h => ⟨Nat.zero_le _, d0Qc_l, d0Qc_l, q3.2 h⟩
      · rw [Bool.eq_false_iff.2 k3, br_false, if_neg (by decide)]
        by_cases k4 : ((rd0 b).1 == 4) = true
        · rw [k4, br_true, if_pos rfl, Num_law hb h0, bnd, Num_law hb h1, bnd, Num_law hb h2, bnd, Num_law hb h3, bnd]
          unfold msg4
          generalize rdNum b (rdNum b (rdNum b (rdNum b (rd0 b).2).2).2).2 = r4
          generalize rdNum b (rdNum b (rdNum b (rd0 b).2).2).2 = r3
          generalize rdNum b (rdNum b (rd0 b).2).2 = r2
          generalize rdNum b (rd0 b).2 = r1
          generalize rd0 b = r0
          exact fin_law (c := c) (b := b) (m := (r0.1, 0, (ByteArray.mk #[], d0Qc), d0Qc, d0Qc, 0, (r1.1, r2.1, r3.1, r4.1))) (s := r4.2) fun h => ⟨Nat.zero_le _, d0Qc_l, d0Qc_l, d0Qc_l⟩
        · rw [Bool.eq_false_iff.2 k4, br_false, if_neg (by decide)]
          unfold msg0
          generalize rd0 b = r0
          exact fin_law (c := c) (b := b) (m := (r0.1, 0, (ByteArray.mk #[], d0Qc), d0Qc, d0Qc, 0, d0Tx)) (s := r0.2) fun h => ⟨Nat.zero_le _, d0Qc_l, d0Qc_l, d0Qc_l⟩
theorem MsgOf_law2 {b : List Int} (hb : Bytes b) (c : Int × Int) : impl_MsgOf F0 c b = some ((msgOf c b).1, (msgOf c b).2, ()) := by
  have e0 : impl_reader_num F0 (b, 0, false) = some (((rd0 b).1, ()), (cell2 b (rd0 b).2, ())) := Num_law2 hb (s := (0, true)) (Nat.zero_le _)
  have h0 : (rd0 b).2.1 ≤ b.length := (rdNum_ok hb (s := (0, true)) (Nat.zero_le _)).1
  have h1 := (rdNum_ok hb h0).1
  have h2 := (rdNum_ok hb h1).1
  have h3 := (rdNum_ok hb h2).1
  have t0 := rdText_ok hb h0
  have t1 := rdText_ok hb h1
  have q1 := rdQc_ok hb t0.1
  have q3 := rdQc_ok hb h2
  have w2 := rdWho_ok hb t1.1
  rw [impl_MsgOf_eq, e0, bnd]
  unfold msgOf msgRd
  dsimp only
  by_cases k1 : ((rd0 b).1 == 1) = true
  · rw [k1, br_true, if_pos rfl, Text_law2 hb h0, bnd, Qc_law2 hb t0.1, bnd]
    unfold msg1
    generalize rdQc b (rdText b (rd0 b).2).2 = r2 at q1 ⊢
    generalize rdText b (rd0 b).2 = r1 at t0 ⊢
    generalize rd0 b = r0
    exact fin_law2 (c := c) (b := b) (m := (r0.1, 0, (r1.1, r2.1), d0Qc, d0Qc, 0, d0Tx)) (s := r2.2) fun h => ⟨t0.2, q1.2 h, d0Qc_l, d0Qc_l⟩
  · rw [Bool.eq_false_iff.2 k1, br_false, if_neg (by decide)]
    by_cases k2 : ((rd0 b).1 == 2) = true
    · rw [k2, br_true, if_pos rfl, Num_law2 hb h0, bnd, Text_law2 hb h1, bnd, Who_law2 hb t1.1, bnd]
      unfold msg2
      generalize rdWho b (rdText b (rdNum b (rd0 b).2).2).2 = r3 at w2 ⊢
      generalize rdText b (rdNum b (rd0 b).2).2 = r2 at t1 ⊢
      generalize rdNum b (rd0 b).2 = r1
      generalize rd0 b = r0
      exact fin_law2 (c := c) (b := b) (m := (r0.1, 0, (ByteArray.mk #[], d0Qc), (r1.1, r2.1, r3.1), d0Qc, 0, d0Tx)) (s := r3.2) fun h => ⟨Nat.zero_le _, d0Qc_l, ⟨t1.2, w2.2 h⟩, d0Qc_l⟩
    · rw [Bool.eq_false_iff.2 k2, br_false, if_neg (by decide)]
      by_cases k3 : ((rd0 b).1 == 3) = true
      · rw [k3, br_true, if_pos rfl, Num_law2 hb h0, bnd, Num_law2 hb h1, bnd, Qc_law2 hb h2, bnd]
        unfold msg3
        generalize rdQc b (rdNum b (rdNum b (rd0 b).2).2).2 = r3 at q3 ⊢
        generalize rdNum b (rdNum b (rd0 b).2).2 = r2
        generalize rdNum b (rd0 b).2 = r1
        generalize rd0 b = r0
        exact fin_law2 (c := c) (b := b) (m := (r0.1, r1.1, (ByteArray.mk #[], d0Qc), d0Qc, r3.1, r2.1, d0Tx)) (s := r3.2) fun h => ⟨Nat.zero_le _, d0Qc_l, d0Qc_l, q3.2 h⟩
      · rw [Bool.eq_false_iff.2 k3, br_false, if_neg (by decide)]
        by_cases k4 : ((rd0 b).1 == 4) = true
        · rw [k4, br_true, if_pos rfl, Num_law2 hb h0, bnd, Num_law2 hb h1, bnd, Num_law2 hb h2, bnd, Num_law2 hb h3, bnd]
          unfold msg4
          generalize rdNum b (rdNum b (rdNum b (rdNum b (rd0 b).2).2).2).2 = r4
          generalize rdNum b (rdNum b (rdNum b (rd0 b).2).2).2 = r3
          generalize rdNum b (rdNum b (rd0 b).2).2 = r2
          generalize rdNum b (rd0 b).2 = r1
          generalize rd0 b = r0
          exact fin_law2 (c := c) (b := b) (m := (r0.1, 0, (ByteArray.mk #[], d0Qc), d0Qc, d0Qc, 0, (r1.1, r2.1, r3.1, r4.1))) (s := r4.2) fun h => ⟨Nat.zero_le _, d0Qc_l, d0Qc_l, d0Qc_l⟩
        · rw [Bool.eq_false_iff.2 k4, br_false, if_neg (by decide)]
          unfold msg0
          generalize rd0 b = r0
          exact fin_law2 (c := c) (b := b) (m := (r0.1, 0, (ByteArray.mk #[], d0Qc), d0Qc, d0Qc, 0, d0Tx)) (s := r0.2) fun h => ⟨Nat.zero_le _, d0Qc_l, d0Qc_l, d0Qc_l⟩
end Go.Am.Tryz
