/- Plain laws: seats, trees; the law. No condition. -/
import Derived.Test.YtkkgagllehdhhaaGreatDoorZtLawMark
import Derived.Test.YtkkgagllehdhhaaGreatDoorAmData
set_option linter.unusedVariables false
set_option linter.unusedSimpArgs false
namespace Go.Am.Tryz
open Go.Am
/-! ### Seats -/
def rootOf (c : Int × Int) (view : Int) : Int := if confOk c = true ∧ 0 ≤ view then view % c.1 else -1
def sitsOf (c : Int × Int) (view s : Int) : Int := if confOk c = true ∧ 0 ≤ view ∧ 0 ≤ s ∧ s ≤ c.1 - 1 then (view % c.1 + s) % c.1 else -1
def seatOf (c : Int × Int) (view i : Int) : Int := if confOk c = true ∧ 0 ≤ view ∧ 0 ≤ i ∧ i ≤ c.1 - 1 then (i + c.1 - view % c.1) % c.1 else -1
def upOf (c : Int × Int) (view i : Int) : Int := if seatOf c view i ≤ 0 then -1 else sitsOf c view ((seatOf c view i - 1) / c.2)
theorem tmod_pos {a b : Int} (h : 0 ≤ a) : Int.tmod a b = a % b := Int.tmod_eq_emod_of_nonneg h
theorem ne0 {n : Int} (h : 4 ≤ n) : (!(n == 0)) = true := by rw [beq_eq_false_iff_ne.2 (show n ≠ 0 by omega)]; rfl
theorem inR_iff {lo hi x : Int} : inR lo hi x = decide (lo ≤ x ∧ x ≤ hi) := by
  unfold inR
  by_cases h1 : lo ≤ x <;> by_cases h2 : x ≤ hi <;> simp [h1, h2]
theorem mod_in {n : Int} (h1 : 4 ≤ n) (view : Int) : 0 ≤ view % n ∧ view % n < n := ⟨Int.emod_nonneg _ (by omega), Int.emod_lt_of_pos _ (by omega)⟩
theorem Root_law (c : Int × Int) (view : Int) : spec_Root F0 c view = some (rootOf c view, ()) := by
  rw [spec_Root_eq, ConfOk_law, bnd]
  unfold rootOf
  cases hc : confOk c with
  | false => rfl
  | true =>
    have hn := confOk_n hc
    by_cases hv : view < 0
    · rw [decide_eq_true hv, if_neg (fun h => by omega)]
      rfl
    · rw [decide_eq_false hv, Bool.not_true, br_false, br_false, ne0 hn.1, ck_true, if_pos ⟨rfl, by omega⟩, tmod_pos (by omega)]
theorem Root_law2 (c : Int × Int) (view : Int) : impl_Root F0 c view = some (rootOf c view, ()) := by
  rw [impl_Root_eq, ConfOk_law2, bnd]
  unfold rootOf
  cases hc : confOk c with
  | false => rfl
  | true =>
    have hn := confOk_n hc
    by_cases hv : view < 0
    · rw [decide_eq_true hv, if_neg (fun h => by omega)]
      rfl
    · rw [decide_eq_false hv, Bool.not_true, br_false, br_false, ne0 hn.1, ck_true, if_pos ⟨rfl, by omega⟩, tmod_pos (by omega)]
theorem w64_n1 {n : Int} (h1 : 4 ≤ n) (h2 : n ≤ 7) : w64 (n - 1) = n - 1 := w64_in (by omega) (by omega)
theorem Sits_law (c : Int × Int) (view s : Int) : spec_Sits F0 c view s = some (sitsOf c view s, ()) := by
  rw [spec_Sits_eq, ConfOk_law, bnd]
  unfold sitsOf
  cases hc : confOk c with
  | false => rfl
  | true =>
    have hn := confOk_n hc
    have hm := mod_in hn.1 view
    by_cases hv : view < 0
    · rw [decide_eq_true hv, if_neg (fun h => by omega)]
      rfl
    · rw [decide_eq_false hv, Bool.not_true, br_false, br_false, l1In_lawR, bnd, w64_n1 hn.1 hn.2.1, inR_iff]
      by_cases hs : 0 ≤ s ∧ s ≤ c.1 - 1
      · rw [decide_eq_true hs, Bool.not_true, br_false, ne0 hn.1, ck_true, ck_true, if_pos ⟨rfl, by omega, hs.1, hs.2⟩, tmod_pos (a := view) (by omega), w64_in (by omega) (by omega), tmod_pos (by omega)]
      · rw [decide_eq_false hs, if_neg (fun h => hs ⟨h.2.2.1, h.2.2.2⟩)]
        rfl
theorem Sits_law2 (c : Int × Int) (view s : Int) : impl_Sits F0 c view s = some (sitsOf c view s, ()) := by
  rw [impl_Sits_eq, ConfOk_law2, bnd]
  unfold sitsOf
  cases hc : confOk c with
  | false => rfl
  | true =>
    have hn := confOk_n hc
    have hm := mod_in hn.1 view
    by_cases hv : view < 0
    · rw [decide_eq_true hv, if_neg (fun h => by omega)]
      rfl
    · rw [decide_eq_false hv, Bool.not_true, br_false, br_false, within_law3, bnd, w64_n1 hn.1 hn.2.1, inR_iff]
      by_cases hs : 0 ≤ s ∧ s ≤ c.1 - 1
      · rw [decide_eq_true hs, Bool.not_true, br_false, ne0 hn.1, ck_true, ck_true, if_pos ⟨rfl, by omega, hs.1, hs.2⟩, tmod_pos (a := view) (by omega), w64_in (by omega) (by omega), tmod_pos (by omega)]
      · rw [decide_eq_false hs, if_neg (fun h => hs ⟨h.2.2.1, h.2.2.2⟩)]
        rfl
theorem Seat_law (c : Int × Int) (view i : Int) : spec_Seat F0 c view i = some (seatOf c view i, ()) := by
  rw [spec_Seat_eq, ConfOk_law, bnd]
  unfold seatOf
  cases hc : confOk c with
  | false => rfl
  | true =>
    have hn := confOk_n hc
    have hm := mod_in hn.1 view
    by_cases hv : view < 0
    · rw [decide_eq_true hv, if_neg (fun h => by omega)]
      rfl
    · rw [decide_eq_false hv, Bool.not_true, br_false, br_false, l1In_lawR, bnd, w64_n1 hn.1 hn.2.1, inR_iff]
      by_cases hs : 0 ≤ i ∧ i ≤ c.1 - 1
      · rw [decide_eq_true hs, Bool.not_true, br_false, ne0 hn.1, ck_true, ck_true, if_pos ⟨rfl, by omega, hs.1, hs.2⟩, tmod_pos (a := view) (by omega), w64_in (n := i + c.1) (by omega) (by omega), w64_in (by omega) (by omega), tmod_pos (by omega)]
      · rw [decide_eq_false hs, if_neg (fun h => hs ⟨h.2.2.1, h.2.2.2⟩)]
        rfl
theorem Seat_law2 (c : Int × Int) (view i : Int) : impl_Seat F0 c view i = some (seatOf c view i, ()) := by
  rw [impl_Seat_eq, ConfOk_law2, bnd]
  unfold seatOf
  cases hc : confOk c with
  | false => rfl
  | true =>
    have hn := confOk_n hc
    have hm := mod_in hn.1 view
    by_cases hv : view < 0
    · rw [decide_eq_true hv, if_neg (fun h => by omega)]
      rfl
    · rw [decide_eq_false hv, Bool.not_true, br_false, br_false, within_law3, bnd, w64_n1 hn.1 hn.2.1, inR_iff]
      by_cases hs : 0 ≤ i ∧ i ≤ c.1 - 1
      · rw [decide_eq_true hs, Bool.not_true, br_false, ne0 hn.1, ck_true, ck_true, if_pos ⟨rfl, by omega, hs.1, hs.2⟩, tmod_pos (a := view) (by omega), w64_in (n := i - view % c.1) (by omega) (by omega), w64_in (by omega) (by omega), tmod_pos (by omega),
          show i - view % c.1 + c.1 = i + c.1 - view % c.1 by omega]
      · rw [decide_eq_false hs, if_neg (fun h => hs ⟨h.2.2.1, h.2.2.2⟩)]
        rfl
theorem seatOf_in (c : Int × Int) (view i : Int) : -1 ≤ seatOf c view i ∧ seatOf c view i ≤ 6 := by
  unfold seatOf
  split
  · rename_i h
    have hn := confOk_n h.1
    have h1 := Int.emod_nonneg (i + c.1 - view % c.1) (show c.1 ≠ 0 by omega)
    have h2 := Int.emod_lt_of_pos (i + c.1 - view % c.1) (show 0 < c.1 by omega)
    omega
  · omega
theorem seatOf_conf {c : Int × Int} {view i : Int} (h : 0 ≤ seatOf c view i) : confOk c = true := by
  unfold seatOf at h
  split at h
  · rename_i hh; exact hh.1
  · omega
theorem div_in {a b : Int} (h1 : 0 ≤ a) (h2 : a ≤ 6) (h3 : 1 ≤ b) : 0 ≤ a / b ∧ a / b ≤ 6 := ⟨Int.ediv_nonneg h1 (by omega), Int.le_trans (Int.ediv_le_self b h1) h2⟩
theorem Up_law (c : Int × Int) (view i : Int) : spec_Up F0 c view i = some (upOf c view i, ()) := by
  rw [spec_Up_eq, Seat_law, bnd]
  unfold upOf
  have hs := seatOf_in c view i
  by_cases h0 : seatOf c view i ≤ 0
  · rw [decide_eq_true (show (seatOf c view i, ()).1 ≤ 0 from h0), br_true, if_pos h0]
  · have hn := confOk_n (seatOf_conf (c := c) (view := view) (i := i) (by omega))
    have hd := div_in (a := seatOf c view i - 1) (b := c.2) (by omega) (by omega) hn.2.2.1
    rw [decide_eq_false (show ¬ (seatOf c view i, ()).1 ≤ 0 from h0), br_false, if_neg h0, show (!(c.2 == 0)) = true by rw [beq_eq_false_iff_ne.2 (show c.2 ≠ 0 by omega)]; rfl, ck_true]
    dsimp only
    rw [w64_in (n := seatOf c view i - 1) (by omega) (by omega), Int.tdiv_eq_ediv_of_nonneg (show 0 ≤ seatOf c view i - 1 by omega), w64_in (by omega) (by omega), Sits_law, bnd]
theorem Up_law2 (c : Int × Int) (view i : Int) : impl_Up F0 c view i = some (upOf c view i, ()) := by
  rw [impl_Up_eq, Seat_law2, bnd]
  unfold upOf
  have hs := seatOf_in c view i
  by_cases h0 : seatOf c view i ≤ 0
  · rw [decide_eq_true (show (seatOf c view i, ()).1 < 1 by show seatOf c view i < 1; omega), br_true, if_pos h0]
  · have hn := confOk_n (seatOf_conf (c := c) (view := view) (i := i) (by omega))
    have hd := div_in (a := seatOf c view i - 1) (b := c.2) (by omega) (by omega) hn.2.2.1
    rw [decide_eq_false (show ¬ (seatOf c view i, ()).1 < 1 by show ¬ seatOf c view i < 1; omega), br_false, if_neg h0, show (!(c.2 == 0)) = true by rw [beq_eq_false_iff_ne.2 (show c.2 ≠ 0 by omega)]; rfl, ck_true]
    dsimp only
    rw [w64_in (n := seatOf c view i - 1) (by omega) (by omega), Int.tdiv_eq_ediv_of_nonneg (show 0 ≤ seatOf c view i - 1 by omega), w64_in (by omega) (by omega), Sits_law2, bnd]
theorem sitsOf_in {c : Int × Int} {view s : Int} (h : sitsOf c view s ≠ -1) : confOk c = true ∧ 0 ≤ sitsOf c view s ∧ sitsOf c view s < c.1 := by
  unfold sitsOf at h ⊢
  split
  · rename_i hc
    have hn := confOk_n hc.1
    exact ⟨hc.1, Int.emod_nonneg _ (by omega), Int.emod_lt_of_pos _ (by omega)⟩
  · rename_i hc
    rw [if_neg hc] at h
    exact absurd rfl h
theorem upOf_in {c : Int × Int} {view i : Int} (h : 0 ≤ upOf c view i) : upOf c view i < c.1 := by
  unfold upOf at h ⊢
  split
  · rename_i h0
    rw [if_pos h0] at h
    omega
  · rename_i h0
    rw [if_neg h0] at h
    exact (sitsOf_in (by omega)).2.2
/-! ### Sets joined -/
def joinA (a b : List Int) : List Int := b.foldl setA (a.foldl setA [])
theorem foldl_setA_len : ∀ (l out : List Int), (l.foldl setA out).length ≤ out.length + l.length
  | [], out => by simp
  | x :: l, out => by
    have h1 := foldl_setA_len l (setA out x)
    have h2 := setA_len out x
    rw [List.foldl_cons, List.length_cons]
    omega
theorem joinA_len (a b : List Int) : (joinA a b).length ≤ a.length + b.length := by
  unfold joinA
  have h1 := foldl_setA_len b (a.foldl setA [])
  have h2 := foldl_setA_len a []
  rw [List.length_nil] at h2
  omega
theorem fold_setA {γ : Type} (X : Nat → Int → List Int → Option γ) (l out : List Int) (R : Option γ) (hlen : out.length + l.length ≤ 1048576) (hs : ∀ n k xs (h : k < l.length), xs.length ≤ 1048575 → X (n + 1) (k : Int) xs = X n ((k + 1 : Nat) : Int) (setA xs l[k]))
    (he : ∀ n, X (n + 1) (l.length : Int) (l.foldl setA out) = R) (n : Nat) (hn : l.length < n) : X n 0 out = R := by
  refine loop_to X l.length (fun k xs => xs = (l.take k).foldl setA out) R (fun n k xs hk h => .inr ⟨setA xs l[k], hs n k xs hk ?_, ?_⟩) (fun n xs h => ?_) n 0 out (Nat.zero_le _) rfl (by omega)
  · have := foldl_setA_len (l.take k) out
    rw [h]
    rw [List.length_take] at this
    omega
  · rw [take_succ_is hk, List.foldl_append, ← h]
    rfl
  · rw [List.take_length] at h
    rw [h]
    exact he n
theorem SetJoin_law {a b : List Int} (h : a.length + b.length ≤ 1048576) : spec_SetJoin F0 a b = some (joinA a b, ()) := by
  rw [spec_SetJoin_eq]
  have hl := foldl_setA_len a []
  rw [List.length_nil] at hl
  refine fold_setA (fun n i xs => spec_SetJoin_1 F0 (spec_SetJoin_1_k F0) n (spec_SetJoin_1_s a b i xs)) a [] _ (by rw [List.length_nil]; omega) (fun n k xs hk hx => ?_) (fun n => ?_) _ (by rw [n_eq]; omega)
  · rw [spec_SetJoin_1_step, dec_lt hk, br_true, okI_nat hk, ck_true, at_isD hk, SetAdd_law (by omega), bnd, w64_succ (by omega)]
  · rw [spec_SetJoin_1_step, dec_nlt, br_false, spec_SetJoin_1_ce0]
    refine fold_setA (fun n i xs => spec_SetJoin_2 F0 (spec_SetJoin_2_k F0) n (spec_SetJoin_2_s b i xs)) b (a.foldl setA []) _ (by omega) (fun n k xs hk hx => ?_) (fun n => ?_) _ (by rw [n_eq]; omega)
    · rw [spec_SetJoin_2_step, dec_lt hk, br_true, okI_nat hk, ck_true, at_isD hk, SetAdd_law (by omega), bnd, w64_succ (by omega)]
    · rw [spec_SetJoin_2_step, dec_nlt, br_false, spec_SetJoin_2_ce2]
      rfl
theorem SetJoin_law2 {a b : List Int} (h : a.length + b.length ≤ 1048576) : impl_SetJoin F0 a b = some (joinA a b, ()) := by
  rw [impl_SetJoin_eq]
  have hl := foldl_setA_len a []
  rw [List.length_nil] at hl
  refine fold_setA (fun n i xs => impl_SetJoin_1 F0 (impl_SetJoin_1_k F0) n (impl_SetJoin_1_s b a (a.length : Int) i xs)) a [] _ (by rw [List.length_nil]; omega) (fun n k xs hk hx => ?_) (fun n => ?_) _ (by rw [n_eq]; omega)
  · rw [impl_SetJoin_1_step, dec_lt hk, br_true, okI_nat hk, ck_true, at_isD hk, SetAdd_law2 (by omega), bnd, w64_succ (by omega)]
  · rw [impl_SetJoin_1_step, dec_nlt, br_false, impl_SetJoin_1_ce0]
    refine fold_setA (fun n i xs => impl_SetJoin_2 F0 (impl_SetJoin_2_k F0) n (impl_SetJoin_2_s b (b.length : Int) i xs)) b (a.foldl setA []) _ (by omega) (fun n k xs hk hx => ?_) (fun n => ?_) _ (by rw [n_eq]; omega)
    · rw [impl_SetJoin_2_step, dec_lt hk, br_true, okI_nat hk, ck_true, at_isD hk, SetAdd_law2 (by omega), bnd, w64_succ (by omega)]
    · rw [impl_SetJoin_2_step, dec_nlt, br_false, impl_SetJoin_2_ce2]
      rfl
/-! ### Trees -/
theorem okI_int {i n : Int} (h0 : 0 ≤ i) (h : i < n) : okI i n = true := by simp [okI]; omega
theorem at_toNat {α : Type} (xs : List α) (i : Int) (d : α) : at_ xs i d = xs.getD i.toNat d := rfl
theorem at_set_self {α : Type} {xs : List α} {i : Int} (h0 : 0 ≤ i) (h : i < xs.length) (v d : α) : at_ (xs.set i.toNat v) i d = v := by
  rw [at_toNat, List.getD_eq_getElem?_getD, List.getElem?_set_self (by omega)]
  rfl
theorem at_set_ne {α : Type} {xs : List α} {i j : Int} (h0 : 0 ≤ i) (hj : 0 ≤ j) (h : i ≠ j) (v d : α) : at_ (xs.set i.toNat v) j d = at_ xs j d := by
  rw [at_toNat, at_toNat, List.getD_eq_getElem?_getD, List.getD_eq_getElem?_getD, List.getElem?_set_ne (by omega)]
theorem at_mapB {α β : Type} (f : α → β) (xs : List α) (i : Int) (d : α) : f (at_ xs i d) = at_ (xs.map f) i (f d) := by
  rw [at_toNat, at_toNat, List.getD_eq_getElem?_getD, List.getD_eq_getElem?_getD, List.getElem?_map]
  cases xs[i.toNat]? <;> rfl
theorem at_len {xs : List (List Int)} {b : Nat} (h : ∀ x ∈ xs, x.length ≤ b) (i : Int) : (at_ xs i []).length ≤ b := by
  rw [at_toNat, List.getD_eq_getElem?_getD]
  cases he : xs[i.toNat]? with
  | none => exact Nat.zero_le _
  | some x => exact h x (List.mem_of_getElem? he)
theorem set_len {xs : List (List Int)} {b : Nat} (h : ∀ x ∈ xs, x.length ≤ b) {i : Nat} {v : List Int} (hv : v.length ≤ b) : ∀ x ∈ xs.set i v, x.length ≤ b := by
  intro x hx
  rcases List.mem_or_eq_of_mem_set hx with h1 | h1
  · exact h x h1
  · rw [h1]
    exact hv
def treeMine (who : List Int) (i : Int) (xs : List (List Int)) : List (List Int) := if i ∈ who then xs.set i.toNat (setA (at_ xs i []) i) else xs
def treeJoin (u i : Int) (xs : List (List Int)) : List (List Int) := if 0 ≤ u then xs.set u.toNat (joinA (at_ xs u []) (at_ xs i [])) else xs
def treeRows (c : Int × Int) (view : Int) (who : List Int) : Nat → List (List Int) → List (List Int)
  | 0, xs => xs
  | k + 1, xs => treeRows c view who k (treeJoin (upOf c view (sitsOf c view k)) (sitsOf c view k) (treeMine who (sitsOf c view k) xs))
theorem treeMine_len {who : List Int} {i : Int} {xs : List (List Int)} {b : Nat} (h : ∀ x ∈ xs, x.length ≤ b) : (treeMine who i xs).length = xs.length ∧ ∀ x ∈ treeMine who i xs, x.length ≤ b + 1 := by
  have h1 := setA_len (at_ xs i []) i
  have h2 := at_len h i
  have h3 : ∀ x ∈ xs, x.length ≤ b + 1 := fun x hx => Nat.le_succ_of_le (h x hx)
  unfold treeMine
  split
  · exact ⟨List.length_set, set_len h3 (by omega)⟩
  · exact ⟨rfl, h3⟩
theorem treeJoin_len {u i : Int} {xs : List (List Int)} {b : Nat} (h : ∀ x ∈ xs, x.length ≤ b) : (treeJoin u i xs).length = xs.length ∧ ∀ x ∈ treeJoin u i xs, x.length ≤ b + b := by
  have h1 := joinA_len (at_ xs u []) (at_ xs i [])
  have h2 := at_len h u
  have h4 := at_len h i
  have h3 : ∀ x ∈ xs, x.length ≤ b + b := fun x hx => Nat.le_trans (h x hx) (by omega)
  unfold treeJoin
  split
  · exact ⟨List.length_set, set_len h3 (by omega)⟩
  · exact ⟨rfl, h3⟩
theorem treeRows_len (c : Int × Int) (view : Int) (who : List Int) : ∀ (k : Nat) (xs : List (List Int)) (b : Nat), (∀ x ∈ xs, x.length ≤ b) → (treeRows c view who k xs).length = xs.length ∧ ∀ x ∈ treeRows c view who k xs, x.length + 2 ≤ 2 ^ k * (b + 2)
  | 0, xs, b, h => ⟨rfl, fun x hx => by have := h x hx; rw [Nat.pow_zero, Nat.one_mul]; omega⟩
  | k + 1, xs, b, h => by
    have h1 := treeMine_len (who := who) (i := sitsOf c view k) h
    have h2 := treeJoin_len (u := upOf c view (sitsOf c view k)) (i := sitsOf c view k) h1.2
    have h3 := treeRows_len c view who k _ _ h2.2
    refine ⟨h3.1.trans (h2.1.trans h1.1), fun x hx => Nat.le_trans (h3.2 x hx) ?_⟩
    rw [Nat.pow_succ, Nat.mul_assoc]
    exact Nat.mul_le_mul_left _ (by omega)
theorem pow7 {k : Nat} (h : k ≤ 7) : 2 ^ k ≤ 128 := Nat.le_trans (Nat.pow_le_pow_right (by omega) h) (by decide)
theorem sits_in {c : Int × Int} {view s : Int} (hc : confOk c = true) (hv : 0 ≤ view) (h0 : 0 ≤ s) (h : s < c.1) : 0 ≤ sitsOf c view s ∧ sitsOf c view s < c.1 := by
  have hn := confOk_n hc
  unfold sitsOf
  rw [if_pos ⟨hc, hv, h0, by omega⟩]
  exact ⟨Int.emod_nonneg _ (by omega), Int.emod_lt_of_pos _ (by omega)⟩
theorem sits_root {c : Int × Int} {view : Int} (hc : confOk c = true) (hv : 0 ≤ view) : sitsOf c view 0 = view % c.1 := by
  have hn := confOk_n hc
  unfold sitsOf
  rw [if_pos ⟨hc, hv, by omega, by omega⟩, Int.add_zero, Int.emod_emod]
theorem up_root {c : Int × Int} {view : Int} (hc : confOk c = true) (hv : 0 ≤ view) : upOf c view (view % c.1) = -1 := by
  have hn := confOk_n hc
  have hm := mod_in hn.1 view
  have hs : seatOf c view (view % c.1) = 0 := by
    unfold seatOf
    rw [if_pos ⟨hc, hv, hm.1, by omega⟩, show view % c.1 + c.1 - view % c.1 = c.1 by omega, Int.emod_self]
  unfold upOf
  rw [if_pos (by omega)]
theorem treeTail {β : Type} (X : List (List Int) → Option β) {u i : Int} {T : List (List Int)} {b : Nat} (h0 : 0 ≤ i) (hi : i < T.length) (hu : 0 ≤ u → u < T.length) (hb : ∀ x ∈ T, x.length ≤ b) (hb1 : b ≤ 524288) :
    br (decide (u ≥ 0)) (ck (okI u (T.length : Int)) (ck (okI i (T.length : Int)) ((spec_SetJoin F0 (at_ T u []) (at_ T i [])).bind fun r66 => ck (okI u (T.length : Int)) (X (T.set u.toNat r66.1))))) (X T) = X (treeJoin u i T) := by
  unfold treeJoin
  by_cases h : 0 ≤ u
  · have h1 := at_len hb u
    have h2 := at_len hb i
    rw [decide_eq_true (show u ≥ 0 from h), br_true, okI_int h (hu h), ck_true, okI_int h0 hi, ck_true, SetJoin_law (by omega), bnd, ck_true, if_pos h]
  · rw [decide_eq_false h, br_false, if_neg h]
theorem treeSpec {c : Int × Int} (hc : confOk c = true) {view : Int} (hv : 0 ≤ view) (name : ByteArray) {who : List Int} (hw : who.length ≤ 1048576) (t8 : Int) (t81 : ByteArray) (xs1 : List Int) {γ : Type} (κ : Ex → St → Option γ) : ∀ (k : Nat) (xs : List (List Int)) (n b : Nat), (k : Int) ≤ c.1 → (xs.length : Int) = c.1 → (∀ x ∈ xs, x.length ≤ b) → 2 ^ k * (b + 2) ≤ 1048576 → k < n →
    spec_Tree_1 F0 κ n (spec_Tree_1_s view name who ((k : Int) - 1) c.1 c.2 t8 t81 xs xs1) = κ (.exit 0) (spec_Tree_1_e0 view name c.1 c.2 t8 t81 (treeRows c view who k xs) xs1)
  | 0, xs, n, b, hk, hl, hb, hp, hn => by
    obtain ⟨n, rfl⟩ : ∃ m, n = m + 1 := ⟨n - 1, by omega⟩
    rw [spec_Tree_1_step, decide_eq_false (by omega), br_false]
    rfl
  | k + 1, xs, n, b, hk, hl, hb, hp, hn => by
    obtain ⟨n, rfl⟩ : ∃ m, n = m + 1 := ⟨n - 1, by omega⟩
    have hcn := confOk_n hc
    have hp2 : 2 ^ k * (b + 2) ≤ 524288 := by rw [Nat.pow_succ, Nat.mul_assoc, Nat.mul_comm 2, ← Nat.mul_assoc] at hp; omega
    have hb2 : b + 2 ≤ 524288 := Nat.le_trans (Nat.le_mul_of_pos_left _ (Nat.two_pow_pos k)) hp2
    have hi := sits_in hc hv (s := k) (by omega) (by omega)
    have hs : ((k + 1 : Nat) : Int) - 1 = (k : Int) := by omega
    have hm := treeMine_len (who := who) (i := sitsOf c view k) hb
    have hj := treeJoin_len (u := upOf c view (sitsOf c view k)) (i := sitsOf c view k) hm.2
    have ih := treeSpec hc hv name hw t8 t81 xs1 κ k (treeJoin (upOf c view (sitsOf c view k)) (sitsOf c view k) (treeMine who (sitsOf c view k) xs)) n (b + 1 + (b + 1)) (by omega) (by rw [hj.1, hm.1, hl]) hj.2
      (by rw [Nat.pow_succ, Nat.mul_assoc] at hp; exact Nat.le_trans (Nat.mul_le_mul_left _ (by omega)) hp) (by omega)
    have hw1 : w64 ((k : Int) - 1) = (k : Int) - 1 := w64_in (by omega) (by omega)
    rw [spec_Tree_1_step, hs, decide_eq_true (by omega), br_true, show ((c.1, c.2) : Int × Int) = c from rfl, Sits_law, bnd]
    dsimp only
    rw [SetHas_law (by omega), bnd, hw1]
    dsimp only
    show _ = κ (.exit 0) (spec_Tree_1_e0 view name c.1 c.2 t8 t81 (treeRows c view who k (treeJoin (upOf c view (sitsOf c view k)) (sitsOf c view k) (treeMine who (sitsOf c view k) xs))) xs1)
    rw [← ih]
    clear ih
    generalize sitsOf c view k = i at hi hm hj ⊢
    have hu : 0 ≤ upOf c view i → upOf c view i < c.1 := upOf_in
    have ha := at_len hb i
    by_cases hm1 : i ∈ who
    · have hT : treeMine who i xs = xs.set i.toNat (setA (at_ xs i []) i) := by unfold treeMine; rw [if_pos hm1]
      rw [decide_eq_true hm1, br_true, okI_int hi.1 (by omega), ck_true, SetAdd_law (by omega), bnd]
      dsimp only
      rw [ck_true, Up_law, bnd, ← hT]
      exact treeTail (fun T => spec_Tree_1 F0 κ n (spec_Tree_1_s view name who ((k : Int) - 1) c.1 c.2 t8 t81 T xs1)) hi.1 (by rw [hm.1, hl]; exact hi.2) (fun h => by rw [hm.1, hl]; exact hu h) hm.2 (by omega)
    · have hT : treeMine who i xs = xs := by unfold treeMine; rw [if_neg hm1]
      rw [decide_eq_false hm1, br_false, Up_law, bnd, hT]
      exact treeTail (fun T => spec_Tree_1 F0 κ n (spec_Tree_1_s view name who ((k : Int) - 1) c.1 c.2 t8 t81 T xs1)) hi.1 (by rw [hl]; exact hi.2) (fun h => by rw [hl]; exact hu h) hb (by omega)
theorem set_at {α : Type} {xs : List α} {i : Int} (h0 : 0 ≤ i) (h : i < xs.length) (d : α) : xs.set i.toNat (at_ xs i d) = xs := by
  rw [at_toNat, List.getD_eq_getElem?_getD, List.getElem?_eq_getElem (by omega)]
  exact List.set_getElem_self (by omega)
def thirds (ys : List QcD) : List (List Int) := ys.map fun y => y.2.2
theorem thirds_len (ys : List QcD) : (thirds ys).length = ys.length := List.length_map _
theorem thirds_set (ys : List QcD) (i : Nat) (y : QcD) : thirds (ys.set i y) = (thirds ys).set i y.2.2 := List.map_set
theorem thirds_at (ys : List QcD) (i : Int) : (at_ ys i K8.dflt).2.2 = at_ (thirds ys) i [] := at_mapB (fun y : QcD => y.2.2) ys i K8.dflt
def treeMe (who : List Int) (i : Int) (xs : List (List Int)) : List Int := if i ∈ who then setA (at_ xs i []) i else at_ xs i []
theorem treeMe_mine {who : List Int} {i : Int} {xs : List (List Int)} (h0 : 0 ≤ i) (h : i < xs.length) : xs.set i.toNat (treeMe who i xs) = treeMine who i xs := by
  unfold treeMe treeMine
  split
  · rfl
  · exact set_at h0 h []
def treeJoin2 (u i : Int) (T : List QcD) : List QcD := if 0 ≤ u then T.set u.toNat ((at_ T u K8.dflt).1, ((at_ T u K8.dflt).2.1, joinA (at_ (thirds T) u []) (at_ (thirds T) i []))) else T
theorem treeTail2 {β : Type} (X : List QcD → Option β) {u i : Int} {T : List QcD} {b : Nat} {me : List Int} (hiu : 0 ≤ u → u < T.length) (hb : ∀ x ∈ thirds T, x.length ≤ b) (hb1 : b ≤ 524288) (hme : me = at_ (thirds T) i []) :
    br (decide (u ≥ 0)) (ck (okI u (T.length : Int)) ((impl_SetJoin F0 (at_ T u K8.dflt).2.2 me).bind fun r72 => ck (okI u (T.length : Int)) (X (T.set u.toNat ((at_ T u K8.dflt).1, ((at_ T u K8.dflt).2.1, r72.1)))))) (X T) = X (treeJoin2 u i T) := by
  unfold treeJoin2
  by_cases h : 0 ≤ u
  · have h1 := at_len hb u
    have h2 := at_len hb i
    rw [decide_eq_true (show u ≥ 0 from h), br_true, okI_int h (hiu h), ck_true, thirds_at, hme, SetJoin_law2 (by omega), bnd, ck_true, if_pos h]
  · rw [decide_eq_false h, br_false, if_neg h]
theorem treeJoin2_thirds (u i : Int) (T : List QcD) : thirds (treeJoin2 u i T) = treeJoin u i (thirds T) := by
  unfold treeJoin2 treeJoin
  split
  · rw [thirds_set]
  · rfl
theorem treeJoin2_len (u i : Int) (T : List QcD) : (treeJoin2 u i T).length = T.length := by
  unfold treeJoin2
  split
  · rw [List.length_set]
  · rfl
theorem treeImpl {c : Int × Int} (hc : confOk c = true) {view : Int} (hv : 0 ≤ view) (name : ByteArray) {who : List Int} (hw : who.length ≤ 1048576) (t8 : Int) (t81 : ByteArray) (xs1 : List Int) {γ : Type} (κ : Ex → St → Option γ) : ∀ (k : Nat) (ys : List QcD) (n b : Nat), (k : Int) ≤ c.1 → (ys.length : Int) = c.1 → (∀ x ∈ thirds ys, x.length ≤ b) → 2 ^ k * (b + 2) ≤ 1048576 → k < n →
    ∃ zs, impl_Tree_1 F0 κ n (impl_Tree_1_s view name who ((k : Int) - 1) c.1 c.2 t8 t81 ys xs1) = κ (.exit 0) (impl_Tree_1_e0 view c.1 c.2 t8 t81 zs xs1) ∧ thirds zs = treeRows c view who k (thirds ys) ∧
      (k = 0 → zs = ys) ∧ (0 < k → at_ zs (view % c.1) K8.dflt = (view, name, at_ (thirds zs) (view % c.1) []))
  | 0, ys, n, b, hk, hl, hb, hp, hn => by
    obtain ⟨n, rfl⟩ : ∃ m, n = m + 1 := ⟨n - 1, by omega⟩
    refine ⟨ys, ?_, rfl, fun _ => rfl, fun h => absurd h (Nat.lt_irrefl _)⟩
    rw [impl_Tree_1_step, decide_eq_false (by omega), br_false]
  | k + 1, ys, n, b, hk, hl, hb, hp, hn => by
    obtain ⟨n, rfl⟩ : ∃ m, n = m + 1 := ⟨n - 1, by omega⟩
    have hcn := confOk_n hc
    have hp2 : 2 ^ k * (b + 2) ≤ 524288 := by rw [Nat.pow_succ, Nat.mul_assoc, Nat.mul_comm 2, ← Nat.mul_assoc] at hp; omega
    have hb2 : b + 2 ≤ 524288 := Nat.le_trans (Nat.le_mul_of_pos_left _ (Nat.two_pow_pos k)) hp2
    have hi := sits_in hc hv (s := k) (by omega) (by omega)
    have hs : ((k + 1 : Nat) : Int) - 1 = (k : Int) := by omega
    have hw1 : w64 ((k : Int) - 1) = (k : Int) - 1 := w64_in (by omega) (by omega)
    have hrt : k = 0 → upOf c view (sitsOf c view k) = -1 ∧ sitsOf c view k = view % c.1 := fun h => by subst h; exact ⟨by rw [show ((0 : Nat) : Int) = 0 from rfl, sits_root hc hv, up_root hc hv], sits_root hc hv⟩
    have hm := treeMine_len (who := who) (i := sitsOf c view k) hb
    have hj := treeJoin_len (u := upOf c view (sitsOf c view k)) (i := sitsOf c view k) hm.2
    have htl := thirds_len ys
    have ht1 : thirds (ys.set (sitsOf c view k).toNat (view, (name, treeMe who (sitsOf c view k) (thirds ys)))) = treeMine who (sitsOf c view k) (thirds ys) := by
      rw [thirds_set]
      exact treeMe_mine hi.1 (by omega)
    have hu : 0 ≤ upOf c view (sitsOf c view k) → upOf c view (sitsOf c view k) < c.1 := upOf_in
    have hme : treeMe who (sitsOf c view k) (thirds ys) = at_ (thirds (ys.set (sitsOf c view k).toNat (view, (name, treeMe who (sitsOf c view k) (thirds ys))))) (sitsOf c view k) [] := by
      rw [thirds_set, at_set_self hi.1 (by omega)]
    have hgo : impl_Tree_1 F0 κ (n + 1) (impl_Tree_1_s view name who (((k + 1 : Nat) : Int) - 1) c.1 c.2 t8 t81 ys xs1) =
        impl_Tree_1 F0 κ n (impl_Tree_1_s view name who ((k : Int) - 1) c.1 c.2 t8 t81 (treeJoin2 (upOf c view (sitsOf c view k)) (sitsOf c view k) (ys.set (sitsOf c view k).toNat (view, (name, treeMe who (sitsOf c view k) (thirds ys))))) xs1) := by
      rw [impl_Tree_1_step, hs, decide_eq_true (by omega), br_true, show ((c.1, c.2) : Int × Int) = c from rfl, Sits_law2, bnd]
      dsimp only
      rw [okI_int hi.1 (by omega), ck_true, SetHas_law2 (by omega), bnd, hw1]
      dsimp only
      rw [thirds_at]
      clear hrt hj
      generalize sitsOf c view k = i at hi hm hu ht1 hme ⊢
      have ha := at_len hb i
      by_cases hm1 : i ∈ who
      · have hT : treeMe who i (thirds ys) = setA (at_ (thirds ys) i []) i := by unfold treeMe; rw [if_pos hm1]
        rw [decide_eq_true hm1, br_true, SetAdd_law2 (by omega), bnd]
        dsimp only
        rw [ck_true, Up_law2, bnd, ← hT]
        exact treeTail2 (fun T => impl_Tree_1 F0 κ n (impl_Tree_1_s view name who ((k : Int) - 1) c.1 c.2 t8 t81 T xs1)) (fun h => by rw [List.length_set, hl]; exact hu h) (by rw [ht1]; exact hm.2) (by omega) hme
      · have hT : treeMe who i (thirds ys) = at_ (thirds ys) i [] := by unfold treeMe; rw [if_neg hm1]
        rw [decide_eq_false hm1, br_false, ck_true, Up_law2, bnd, ← hT]
        exact treeTail2 (fun T => impl_Tree_1 F0 κ n (impl_Tree_1_s view name who ((k : Int) - 1) c.1 c.2 t8 t81 T xs1)) (fun h => by rw [List.length_set, hl]; exact hu h) (by rw [ht1]; exact hm.2) (by omega) hme
    obtain ⟨ws, e1, e2, e3, e4⟩ := treeImpl hc hv name hw t8 t81 xs1 κ k (treeJoin2 (upOf c view (sitsOf c view k)) (sitsOf c view k) (ys.set (sitsOf c view k).toNat (view, (name, treeMe who (sitsOf c view k) (thirds ys))))) n (b + 1 + (b + 1)) (by omega)
      (by rw [treeJoin2_len, List.length_set, hl]) (by rw [treeJoin2_thirds, ht1]; exact hj.2)
      (by rw [Nat.pow_succ, Nat.mul_assoc] at hp; exact Nat.le_trans (Nat.mul_le_mul_left _ (by omega)) hp) (by omega)
    refine ⟨ws, hgo.trans e1, e2.trans (by rw [treeJoin2_thirds, ht1]; rfl), fun h => by omega, fun _ => ?_⟩
    rcases Nat.eq_zero_or_pos k with h | h
    · have hr := hrt h
      rw [e3 h, hr.1]
      unfold treeJoin2
      rw [if_neg (by omega), ← hr.2, ← hme, at_set_self hi.1 (by omega)]
    · exact e4 h
def treeOf (c : Int × Int) (view : Int) (name : List UInt8) (who : List Int) : Option (Int × List UInt8 × List Int) :=
  if confOk c = true ∧ 0 ≤ view then partQc c (view, name, at_ (treeRows c view who c.1.toNat (List.replicate c.1.toNat [])) (view % c.1) []) else none
theorem rep_len (n : Nat) : ∀ x ∈ List.replicate n ([] : List Int), x.length ≤ 0 := fun x hx => by rw [List.eq_of_mem_replicate hx]; exact Nat.le_refl _
theorem treeRoot_len {c : Int × Int} (hc : confOk c = true) (view : Int) (who : List Int) : (at_ (treeRows c view who c.1.toNat (List.replicate c.1.toNat [])) (view % c.1) []).length ≤ 254 := by
  have hn := confOk_n hc
  have h := (treeRows_len c view who c.1.toNat _ 0 (rep_len c.1.toNat)).2
  have h7 := pow7 (k := c.1.toNat) (by omega)
  exact at_len (fun x hx => by have := h x hx; omega) _
theorem Tree_law {name : List UInt8} (hn : name.length ≤ 1073741824) {who : List Int} (hw : who.length ≤ 1048576) (c : Int × Int) (view : Int) : spec_Tree F0 c view (tx name) who = some ((qcOut (treeOf c view name who)).1, (qcOut (treeOf c view name who)).2, ()) := by
  rw [spec_Tree_eq, ConfOk_law, bnd, nil_tx]
  unfold treeOf
  dsimp only
  by_cases hc : confOk c = true
  · rw [hc, Bool.not_true, br_false]
    by_cases hv : view < 0
    · rw [decide_eq_true hv, br_true, if_neg (fun h => by omega)]
      rfl
    · have hcn := confOk_n hc
      have hl := treeRoot_len hc view who
      have h7 := pow7 (k := c.1.toNat) (by omega)
      have hm := mod_in hcn.1 view
      have hrl := (treeRows_len c view who c.1.toNat _ 0 (rep_len c.1.toNat)).1
      rw [List.length_replicate] at hrl
      rw [decide_eq_false hv, br_false, if_pos ⟨rfl, by omega⟩, w64_n1 hcn.1 hcn.2.1]
      have h1 := treeSpec hc (show 0 ≤ view by omega) (tx name) hw 0 (tx []) [] (spec_Tree_1_k F0) c.1.toNat (List.replicate c.1.toNat []) F0.n 0 (by omega) (by rw [List.length_replicate]; omega) (rep_len _) (by omega) (by rw [n_eq]; omega)
      rw [show ((c.1.toNat : Nat) : Int) = c.1 by omega] at h1
      rw [show okM F0 c.1 c.1 24 = true by have := okM_le (n := c.1.toNat) (k := 24) (by omega) (by omega) (by omega); rwa [show ((c.1.toNat : Nat) : Int) = c.1 by omega] at this, ck_true, h1, spec_Tree_1_ce0, show ((c.1, c.2) : Int × Int) = c from rfl, Root_law, bnd]
      unfold rootOf
      rw [if_pos ⟨hc, by omega⟩]
      dsimp only
      rw [okI_int hm.1 (by omega), ck_true, PartQc_law hn (by omega), bnd]
  · rw [Bool.eq_false_iff.2 hc, Bool.not_false, br_true, if_neg (fun h => by cases h.1)]
    rfl
theorem thirds_rep (n : Nat) : thirds (List.replicate n (0, (ByteArray.mk #[], []))) = List.replicate n [] := List.map_replicate
theorem Tree_law2 {name : List UInt8} (hn : name.length ≤ 1073741824) {who : List Int} (hw : who.length ≤ 1048576) (c : Int × Int) (view : Int) : impl_Tree F0 c view (tx name) who = some ((qcOut (treeOf c view name who)).1, (qcOut (treeOf c view name who)).2, ()) := by
  rw [impl_Tree_eq, ConfOk_law2, bnd, nil_tx]
  unfold treeOf
  dsimp only
  by_cases hc : confOk c = true
  · rw [hc, Bool.not_true, br_false]
    by_cases hv : view < 0
    · rw [decide_eq_true hv, br_true, if_neg (fun h => by omega)]
      rfl
    · have hcn := confOk_n hc
      have hl := treeRoot_len hc view who
      have h7 := pow7 (k := c.1.toNat) (by omega)
      have hm := mod_in hcn.1 view
      have hrl := (treeRows_len c view who c.1.toNat _ 0 (rep_len c.1.toNat)).1
      rw [List.length_replicate] at hrl
      rw [decide_eq_false hv, br_false, if_pos ⟨rfl, by omega⟩, w64_n1 hcn.1 hcn.2.1]
      obtain ⟨zs, h1, h2, _, h4⟩ := treeImpl hc (show 0 ≤ view by omega) (tx name) hw 0 (tx []) [] (impl_Tree_1_k F0) c.1.toNat (List.replicate c.1.toNat (0, (tx [], []))) F0.n 0 (by omega) (by rw [List.length_replicate]; omega) (by rw [← nil_tx, thirds_rep]; exact rep_len _) (by omega) (by rw [n_eq]; omega)
      rw [show ((c.1.toNat : Nat) : Int) = c.1 by omega] at h1
      rw [← nil_tx, thirds_rep] at h2
      have hz := thirds_len zs
      rw [h2] at hz
      rw [show okM F0 c.1 c.1 48 = true by have := okM_le (n := c.1.toNat) (k := 48) (by omega) (by omega) (by omega); rwa [show ((c.1.toNat : Nat) : Int) = c.1 by omega] at this, ck_true, h1, impl_Tree_1_ce0, show ((c.1, c.2) : Int × Int) = c from rfl, Root_law2, bnd]
      unfold rootOf
      rw [if_pos ⟨hc, by omega⟩]
      dsimp only
      rw [okI_int hm.1 (by omega), ck_true, h4 (by omega), h2, PartQc_law2 hn (by omega), bnd]
  · rw [Bool.eq_false_iff.2 hc, Bool.not_false, br_true, if_neg (fun h => by cases h.1)]
    rfl
theorem treeOf_len (c : Int × Int) (view : Int) (name : List UInt8) (who : List Int) : (qcOut (treeOf c view name who)).1.2.2.length ≤ 254 := by
  refine qcOut_len fun q hq => ?_
  unfold treeOf partQc at hq
  split at hq
  · rename_i hc
    split at hq
    · cases hq
      exact treeRoot_len hc.1 view who
    · cases hq
  · cases hq
theorem FnExactTree_true (c : Int × Int) (view : Int) (name : ByteArray) (who : List Int) : laws_FnExactTree F0 c view name who = some (true, ()) := by
  obtain ⟨l, rfl⟩ : ∃ l, name = tx l := ⟨_, tx_of name⟩
  rw [laws_FnExactTree_eq, tx_size]
  by_cases h : (l.length : Int) > 1048576
  · rw [decide_eq_true h, br_true]
  · rw [decide_eq_false h, br_false]
    by_cases hw : (who.length : Int) > 1048576
    · rw [decide_eq_true hw, br_true]
    · rw [decide_eq_false hw, br_false]
      have hwl : who.length ≤ 1048576 := by omega
      have hs := Tree_law (name := l) (by omega) hwl c view
      have hi := Tree_law2 (name := l) (by omega) hwl c view
      have hq := treeOf_len c view l who
      generalize qcOut (treeOf c view l who) = r at hs hi hq
      obtain ⟨⟨v, b, s⟩, ok⟩ := r
      dsimp only at hq hs hi
      have d1 : decide ((1 : Int) + who.length < 0) = false := decide_eq_false (by omega)
      have d2 : decide ((1 : Int) + s.length < 0) = false := decide_eq_false (by omega)
      simp only [toConf_law, toIntS_law hwl, bnd, hs, hi, eqQc_law (show s.length ≤ 1048576 by omega), eqIntS_law hwl, markIntS_law (show who.length ≤ 1073741824 by omega) (k := 1) (by omega) (by omega), d1, markQc_law (show s.length ≤ 1073741824 by omega) (k := 1) (by omega) (by omega),
        heldQc_law (show s.length ≤ 1073741824 by omega) (k := 1) (by omega) (by omega), d2, bne_self_eq_false, beq_self_eq_true, Bool.not_true, br_false]
end Go.Am.Tryz
