/- Plain laws: seats. No condition. -/
import Derived.Test.YtmmajfbohkbpjaaPaLawMark
import Derived.Test.YtmmajfbohkbpjaaAmData
set_option linter.unusedVariables false
set_option linter.unusedSimpArgs false
namespace Go.Am.Try
open Go.Am
/-! ### Seats -/
def rootOf (c : Int × Int) (view : Int) : Int := if confOk c = true ∧ 0 ≤ view then view % c.1 else -1
def sitsOf (c : Int × Int) (view s : Int) : Int := if confOk c = true ∧ 0 ≤ view ∧ 0 ≤ s ∧ s ≤ c.1 - 1 then (view % c.1 + s) % c.1 else -1
def seatOf (c : Int × Int) (view i : Int) : Int := if confOk c = true ∧ 0 ≤ view ∧ 0 ≤ i ∧ i ≤ c.1 - 1 then (i + c.1 - view % c.1) % c.1 else -1
def upOf (c : Int × Int) (view i : Int) : Int := if seatOf c view i ≤ 0 then -1 else sitsOf c view ((seatOf c view i - 1) / c.2)
theorem tmod_pos {a b : Int} (h : 0 ≤ a) : Int.tmod a b = a % b := Int.tmod_eq_emod_of_nonneg h
theorem ne0 {n : Int} (h : 4 ≤ n) : (!(n == 0)) = true := by rw [beq_eq_false_iff_ne.2 (show n ≠ 0 by omega)]; rfl
theorem inR_iff {lo hi x : Int} : inR lo hi x = decide (lo ≤ x ∧ x ≤ hi) := by
  unfold inR
  by_cases h1 : lo ≤ x <;> by_cases h2 : x ≤ hi <;> simp [h1, h2]
theorem mod_in {n : Int} (h1 : 4 ≤ n) (view : Int) : 0 ≤ view % n ∧ view % n < n := ⟨Int.emod_nonneg _ (by omega), Int.emod_lt_of_pos _ (by omega)⟩
theorem Root_law2 (c : Int × Int) (view : Int) : impl_Root F0 c view = some (rootOf c view, ()) := by
  rw [impl_Root_eq, ConfOk_law2, bnd]
  unfold rootOf
  cases hc : confOk c with
  | false => rfl
  | true =>
    have hn := confOk_n hc
    by_cases hv : view < 0
    · rw [decide_eq_true hv, if_neg (fun h => by omega)]
      rfl
    · rw [decide_eq_false hv, Bool.not_true, br_false, br_false, ne0 hn.1, ck_true, if_pos ⟨rfl, by omega⟩, tmod_pos (by omega)]
theorem w64_n1 {n : Int} (h1 : 4 ≤ n) (h2 : n ≤ 7) : w64 (n - 1) = n - 1 := w64_in (by omega) (by omega)
theorem Sits_law (c : Int × Int) (view s : Int) : spec_Sits F0 c view s = some (sitsOf c view s, ()) := by
  rw [spec_Sits_eq, ConfOk_law, bnd]
  unfold sitsOf
  cases hc : confOk c with
  | false => rfl
  | true =>
    have hn := confOk_n hc
    have hm := mod_in hn.1 view
    by_cases hv : view < 0
    · rw [decide_eq_true hv, if_neg (fun h => by omega)]
      rfl
    · rw [decide_eq_false hv, Bool.not_true, br_false, br_false, l1In_lawR, bnd, w64_n1 hn.1 hn.2.1, inR_iff]
      by_cases hs : 0 ≤ s ∧ s ≤ c.1 - 1
      · rw [decide_eq_true hs, Bool.not_true, br_false, ne0 hn.1, ck_true, ck_true, if_pos ⟨rfl, by omega, hs.1, hs.2⟩, tmod_pos (a := view) (by omega), w64_in (by omega) (by omega), tmod_pos (by omega)]
      · rw [decide_eq_false hs, if_neg (fun h => hs ⟨h.2.2.1, h.2.2.2⟩)]
        rfl
theorem Sits_law2 (c : Int × Int) (view s : Int) : impl_Sits F0 c view s = some (sitsOf c view s, ()) := by
  rw [impl_Sits_eq, ConfOk_law2, bnd]
  unfold sitsOf
  cases hc : confOk c with
  | false => rfl
  | true =>
    have hn := confOk_n hc
    have hm := mod_in hn.1 view
    by_cases hv : view < 0
    · rw [decide_eq_true hv, if_neg (fun h => by omega)]
      rfl
    · rw [decide_eq_false hv, Bool.not_true, br_false, br_false, within_law3, bnd, w64_n1 hn.1 hn.2.1, inR_iff]
      by_cases hs : 0 ≤ s ∧ s ≤ c.1 - 1
      · rw [decide_eq_true hs, Bool.not_true, br_false, ne0 hn.1, ck_true, ck_true, if_pos ⟨rfl, by omega, hs.1, hs.2⟩, tmod_pos (a := view) (by omega), w64_in (by omega) (by omega), tmod_pos (by omega)]
      · rw [decide_eq_false hs, if_neg (fun h => hs ⟨h.2.2.1, h.2.2.2⟩)]
        rfl
theorem Seat_law (c : Int × Int) (view i : Int) : spec_Seat F0 c view i = some (seatOf c view i, ()) := by
  rw [spec_Seat_eq, ConfOk_law, bnd]
  unfold seatOf
  cases hc : confOk c with
  | false => rfl
  | true =>
    have hn := confOk_n hc
    have hm := mod_in hn.1 view
    by_cases hv : view < 0
    · rw [decide_eq_true hv, if_neg (fun h => by omega)]
      rfl
    · rw [decide_eq_false hv, Bool.not_true, br_false, br_false, l1In_lawR, bnd, w64_n1 hn.1 hn.2.1, inR_iff]
      by_cases hs : 0 ≤ i ∧ i ≤ c.1 - 1
      · rw [decide_eq_true hs, Bool.not_true, br_false, ne0 hn.1, ck_true, ck_true, if_pos ⟨rfl, by omega, hs.1, hs.2⟩, tmod_pos (a := view) (by omega), w64_in (n := i + c.1) (by omega) (by omega), w64_in (by omega) (by omega), tmod_pos (by omega)]
      · rw [decide_eq_false hs, if_neg (fun h => hs ⟨h.2.2.1, h.2.2.2⟩)]
        rfl
theorem Seat_law2 (c : Int × Int) (view i : Int) : impl_Seat F0 c view i = some (seatOf c view i, ()) := by
  rw [impl_Seat_eq, ConfOk_law2, bnd]
  unfold seatOf
  cases hc : confOk c with
  | false => rfl
  | true =>
    have hn := confOk_n hc
    have hm := mod_in hn.1 view
    by_cases hv : view < 0
    · rw [decide_eq_true hv, if_neg (fun h => by omega)]
      rfl
    · rw [decide_eq_false hv, Bool.not_true, br_false, br_false, within_law3, bnd, w64_n1 hn.1 hn.2.1, inR_iff]
      by_cases hs : 0 ≤ i ∧ i ≤ c.1 - 1
      · rw [decide_eq_true hs, Bool.not_true, br_false, ne0 hn.1, ck_true, ck_true, if_pos ⟨rfl, by omega, hs.1, hs.2⟩, tmod_pos (a := view) (by omega), w64_in (n := i - view % c.1) (by omega) (by omega), w64_in (by omega) (by omega), tmod_pos (by omega),
          show i - view % c.1 + c.1 = i + c.1 - view % c.1 by omega]
      · rw [decide_eq_false hs, if_neg (fun h => hs ⟨h.2.2.1, h.2.2.2⟩)]
        rfl
theorem seatOf_in (c : Int × Int) (view i : Int) : -1 ≤ seatOf c view i ∧ seatOf c view i ≤ 6 := by
  unfold seatOf
  split
  · rename_i h
    have hn := confOk_n h.1
    have h1 := Int.emod_nonneg (i + c.1 - view % c.1) (show c.1 ≠ 0 by omega)
    have h2 := Int.emod_lt_of_pos (i + c.1 - view % c.1) (show 0 < c.1 by omega)
    omega
  · omega
theorem seatOf_conf {c : Int × Int} {view i : Int} (h : 0 ≤ seatOf c view i) : confOk c = true := by
  unfold seatOf at h
  split at h
  · rename_i hh; exact hh.1
  · omega
theorem div_in {a b : Int} (h1 : 0 ≤ a) (h2 : a ≤ 6) (h3 : 1 ≤ b) : 0 ≤ a / b ∧ a / b ≤ 6 := ⟨Int.ediv_nonneg h1 (by omega), Int.le_trans (Int.ediv_le_self b h1) h2⟩
theorem Up_law (c : Int × Int) (view i : Int) : spec_Up F0 c view i = some (upOf c view i, ()) := by
  rw [spec_Up_eq, Seat_law, bnd]
  unfold upOf
  have hs := seatOf_in c view i
  by_cases h0 : seatOf c view i ≤ 0
  · rw [decide_eq_true (show (seatOf c view i, ()).1 ≤ 0 from h0), br_true, if_pos h0]
  · have hn := confOk_n (seatOf_conf (c := c) (view := view) (i := i) (by omega))
    have hd := div_in (a := seatOf c view i - 1) (b := c.2) (by omega) (by omega) hn.2.2.1
    rw [decide_eq_false (show ¬ (seatOf c view i, ()).1 ≤ 0 from h0), br_false, if_neg h0, show (!(c.2 == 0)) = true by rw [beq_eq_false_iff_ne.2 (show c.2 ≠ 0 by omega)]; rfl, ck_true]
    dsimp only
    rw [w64_in (n := seatOf c view i - 1) (by omega) (by omega), Int.tdiv_eq_ediv_of_nonneg (show 0 ≤ seatOf c view i - 1 by omega), w64_in (by omega) (by omega), Sits_law, bnd]
theorem Up_law2 (c : Int × Int) (view i : Int) : impl_Up F0 c view i = some (upOf c view i, ()) := by
  rw [impl_Up_eq, Seat_law2, bnd]
  unfold upOf
  have hs := seatOf_in c view i
  by_cases h0 : seatOf c view i ≤ 0
  · rw [decide_eq_true (show (seatOf c view i, ()).1 < 1 by show seatOf c view i < 1; omega), br_true, if_pos h0]
  · have hn := confOk_n (seatOf_conf (c := c) (view := view) (i := i) (by omega))
    have hd := div_in (a := seatOf c view i - 1) (b := c.2) (by omega) (by omega) hn.2.2.1
    rw [decide_eq_false (show ¬ (seatOf c view i, ()).1 < 1 by show ¬ seatOf c view i < 1; omega), br_false, if_neg h0, show (!(c.2 == 0)) = true by rw [beq_eq_false_iff_ne.2 (show c.2 ≠ 0 by omega)]; rfl, ck_true]
    dsimp only
    rw [w64_in (n := seatOf c view i - 1) (by omega) (by omega), Int.tdiv_eq_ediv_of_nonneg (show 0 ≤ seatOf c view i - 1 by omega), w64_in (by omega) (by omega), Sits_law2, bnd]
theorem sitsOf_in {c : Int × Int} {view s : Int} (h : sitsOf c view s ≠ -1) : confOk c = true ∧ 0 ≤ sitsOf c view s ∧ sitsOf c view s < c.1 := by
  unfold sitsOf at h ⊢
  split
  · rename_i hc
    have hn := confOk_n hc.1
    exact ⟨hc.1, Int.emod_nonneg _ (by omega), Int.emod_lt_of_pos _ (by omega)⟩
  · rename_i hc
    rw [if_neg hc] at h
    exact absurd rfl h
theorem upOf_in {c : Int × Int} {view i : Int} (h : 0 ≤ upOf c view i) : upOf c view i < c.1 := by
  unfold upOf at h ⊢
  split
  · rename_i h0
    rw [if_pos h0] at h
    omega
  · rename_i h0
    rw [if_neg h0] at h
    exact (sitsOf_in (by omega)).2.2
end Go.Am.Try
