/- Plain laws: ways, who is cut off; the law. No condition. -/
import Derived.Test.YtmmajfbohkbpjaaPaLawSeat
set_option linter.unusedVariables false
set_option linter.unusedSimpArgs false
namespace Go.Am.Try
open Go.Am
theorem okI_in {i n : Int} (h0 : 0 ≤ i) (h : i < n) : okI i n = true := by simp [okI]; omega
theorem seat_sits {c : Int × Int} {view s : Int} (hc : confOk c = true) (hv : 0 ≤ view) (h0 : 0 ≤ s) (h : s ≤ c.1 - 1) : seatOf c view (sitsOf c view s) = s := by
  have hn := confOk_n hc
  have hs1 := Int.emod_nonneg (view % c.1 + s) (show c.1 ≠ 0 by omega)
  have hs2 := Int.emod_lt_of_pos (view % c.1 + s) (show 0 < c.1 by omega)
  unfold sitsOf
  rw [if_pos ⟨hc, hv, h0, h⟩]
  unfold seatOf
  rw [if_pos ⟨hc, hv, hs1, by omega⟩]
  obtain ⟨n, a⟩ := c
  dsimp only at *
  have hn4 : n = 4 ∨ n = 5 ∨ n = 6 ∨ n = 7 := by omega
  rcases hn4 with rfl | rfl | rfl | rfl <;> omega
theorem seat_neg (c : Int × Int) (view : Int) : seatOf c view (-1) = -1 := by
  unfold seatOf
  rw [if_neg (fun h => by omega)]
theorem seatOf_facts {c : Int × Int} {view i : Int} (h : 0 ≤ seatOf c view i) : confOk c = true ∧ 0 ≤ view ∧ seatOf c view i ≤ c.1 - 1 := by
  unfold seatOf at h ⊢
  by_cases hc : confOk c = true ∧ 0 ≤ view ∧ 0 ≤ i ∧ i ≤ c.1 - 1
  · rw [if_pos hc]
    have hn := confOk_n hc.1
    have h2 := Int.emod_lt_of_pos (i + c.1 - view % c.1) (show 0 < c.1 by omega)
    exact ⟨hc.1, hc.2.1, by omega⟩
  · rw [if_neg hc] at h
    omega
theorem seat_up {c : Int × Int} {view i : Int} (h : 0 ≤ seatOf c view i) : seatOf c view (upOf c view i) < seatOf c view i := by
  have hf := seatOf_facts h
  have hn := confOk_n hf.1
  unfold upOf
  by_cases h0 : seatOf c view i ≤ 0
  · rw [if_pos h0, seat_neg]
    omega
  · have hd1 : 0 ≤ (seatOf c view i - 1) / c.2 := Int.ediv_nonneg (by omega) (by omega)
    have hd2 : (seatOf c view i - 1) / c.2 ≤ seatOf c view i - 1 := Int.ediv_le_self c.2 (by omega)
    rw [if_neg h0, seat_sits hf.1 hf.2.1 hd1 (by omega)]
    omega
def wayFrom (c : Int × Int) (view : Int) : Nat → Int → List Int
  | 0, _ => []
  | k + 1, i => if 0 ≤ seatOf c view i then i :: wayFrom c view k (upOf c view i) else []
def wayOf (c : Int × Int) (view i : Int) : List Int := wayFrom c view 8 i
theorem wayFrom_len (c : Int × Int) (view : Int) : ∀ (k : Nat) (i : Int), (wayFrom c view k i).length ≤ k
  | 0, _ => Nat.le_refl _
  | k + 1, i => by
    unfold wayFrom
    split
    · have := wayFrom_len c view k (upOf c view i)
      rw [List.length_cons]
      omega
    · exact Nat.zero_le _
theorem wayOf_len (c : Int × Int) (view i : Int) : (wayOf c view i).length ≤ 8 := wayFrom_len c view 8 i
theorem wayOf_bad {c : Int × Int} (h : confOk c = false) (view i : Int) : wayOf c view i = [] := by
  unfold wayOf wayFrom
  rw [if_neg (fun h0 => by rw [seatOf_conf h0] at h; cases h)]
theorem way_spec (c : Int × Int) (view : Int) {γ : Type} (κ : Ex → St → Option γ) : ∀ (k : Nat) (i : Int) (xs : List Int) (n : Nat), seatOf c view i < k → xs.length + k ≤ 1000 → k < n →
    spec_Way_1 F0 κ n (spec_Way_1_s view i c.1 c.2 xs) = κ (.exit 0) (spec_Way_1_e0 (xs ++ wayFrom c view k i))
  | 0, i, xs, n, hs, hx, hn => by
    obtain ⟨n, rfl⟩ : ∃ m, n = m + 1 := ⟨n - 1, by omega⟩
    rw [spec_Way_1_step, show ((c.1, c.2) : Int × Int) = c from rfl, Seat_law, bnd]
    dsimp only
    rw [decide_eq_false (show ¬ seatOf c view i ≥ 0 by omega), br_false, wayFrom, List.append_nil]
  | k + 1, i, xs, n, hs, hx, hn => by
    obtain ⟨n, rfl⟩ : ∃ m, n = m + 1 := ⟨n - 1, by omega⟩
    rw [spec_Way_1_step, show ((c.1, c.2) : Int × Int) = c from rfl, Seat_law, bnd]
    unfold wayFrom
    dsimp only
    by_cases h : 0 ≤ seatOf c view i
    · have hu := seat_up h
      rw [decide_eq_true (show seatOf c view i ≥ 0 from h), br_true, if_pos h, okA_le (by omega) (by omega) (by rw [List.length_singleton]; omega), ck_true, Up_law, bnd]
      dsimp only
      rw [way_spec c view κ k (upOf c view i) (xs ++ [i]) n (by omega) (by rw [List.length_append, List.length_singleton]; omega) (by omega), List.append_assoc]
      rfl
    · rw [decide_eq_false (show ¬ seatOf c view i ≥ 0 from h), br_false, if_neg h, List.append_nil]
theorem way_impl (c : Int × Int) (view : Int) {γ : Type} (κ : Ex → St → Option γ) : ∀ (k : Nat) (i : Int) (xs : List Int) (n : Nat), seatOf c view i < k → xs.length + k ≤ 1000 → k < n →
    impl_Way_1 F0 κ n (impl_Way_1_s view i c.1 c.2 xs) = κ (.exit 0) (impl_Way_1_e0 (xs ++ wayFrom c view k i))
  | 0, i, xs, n, hs, hx, hn => by
    obtain ⟨n, rfl⟩ : ∃ m, n = m + 1 := ⟨n - 1, by omega⟩
    rw [impl_Way_1_step, show ((c.1, c.2) : Int × Int) = c from rfl, Seat_law2, bnd]
    dsimp only
    rw [decide_eq_false (show ¬ seatOf c view i ≥ 0 by omega), br_false, wayFrom, List.append_nil]
  | k + 1, i, xs, n, hs, hx, hn => by
    obtain ⟨n, rfl⟩ : ∃ m, n = m + 1 := ⟨n - 1, by omega⟩
    rw [impl_Way_1_step, show ((c.1, c.2) : Int × Int) = c from rfl, Seat_law2, bnd]
    unfold wayFrom
    dsimp only
    by_cases h : 0 ≤ seatOf c view i
    · have hu := seat_up h
      rw [decide_eq_true (show seatOf c view i ≥ 0 from h), br_true, if_pos h, okA_le (by omega) (by omega) (by rw [List.length_singleton]; omega), ck_true, Up_law2, bnd]
      dsimp only
      rw [way_impl c view κ k (upOf c view i) (xs ++ [i]) n (by omega) (by rw [List.length_append, List.length_singleton]; omega) (by omega), List.append_assoc]
      rfl
    · rw [decide_eq_false (show ¬ seatOf c view i ≥ 0 from h), br_false, if_neg h, List.append_nil]
theorem Way_law (c : Int × Int) (view i : Int) : spec_Way F0 c view i = some (wayOf c view i, ()) := by
  have hs := seatOf_in c view i
  rw [spec_Way_eq, way_spec c view _ 8 i [] _ (by omega) (by rw [List.length_nil]; omega) (by rw [n_eq]; omega), spec_Way_1_ce0, List.nil_append]
  rfl
theorem Way_law2 (c : Int × Int) (view i : Int) : impl_Way F0 c view i = some (wayOf c view i, ()) := by
  have hs := seatOf_in c view i
  rw [impl_Way_eq, way_impl c view _ 8 i [] _ (by omega) (by rw [List.length_nil]; omega) (by rw [n_eq]; omega), impl_Way_1_ce0, List.nil_append]
  rfl
/-! ### What two have in common -/
def cmn (b a : List Int) : Nat := a.countP fun x => decide (x ∈ b)
theorem cmn_snoc (b a : List Int) (x : Int) : cmn b (a ++ [x]) = cmn b a + if x ∈ b then 1 else 0 := by
  unfold cmn
  rw [List.countP_append, List.countP_singleton]
  by_cases h : x ∈ b
  · simp [h]
  · simp [h]
theorem cmn_le (b a : List Int) : cmn b a ≤ a.length := List.countP_le_length
theorem Common_law {a b : List Int} (ha : a.length ≤ 1048576) (hb : b.length ≤ 1048576) : spec_Common F0 a b = some ((cmn b a : Int), ()) := by
  rw [spec_Common_eq]
  refine loop_to (fun n i (q : Int) => spec_Common_1 F0 (spec_Common_1_k F0) n (spec_Common_1_s a b q i)) a.length (fun k q => q = (cmn b (a.take k) : Int)) _ (fun n k q hk hq => .inr ⟨(cmn b (a.take (k + 1)) : Int), ?_, rfl⟩) (fun n q hq => ?_) _ 0 0 (Nat.zero_le _) rfl (by rw [n_eq]; omega)
  · have hc := cmn_le b (a.take k)
    rw [List.length_take] at hc
    rw [spec_Common_1_step, dec_lt hk, br_true, okI_nat hk, ck_true, at_isD hk, SetHas_law (by omega), bnd, take_succ_is hk, cmn_snoc, hq, w64_succ (by omega)]
    dsimp only
    rw [spec_l1Bit_eq]
    by_cases h : a[k] ∈ b
    · rw [decide_eq_true h, br_true, bnd, if_pos h]
      dsimp only
      rw [w64_succ (by omega)]
    · rw [decide_eq_false h, br_false, bnd, if_neg h]
      dsimp only
      rw [w64_in (by omega) (by omega), Int.add_zero]
      rfl
  · rw [spec_Common_1_step, dec_nlt, br_false, spec_Common_1_ce0, hq, List.take_length]
theorem Common_law2 {a b : List Int} (ha : a.length ≤ 1048576) (hb : b.length ≤ 1048576) : impl_Common F0 a b = some ((cmn b a : Int), ()) := by
  rw [impl_Common_eq]
  refine loop_to (fun n i (q : Int) => impl_Common_1 F0 (impl_Common_1_k F0) n (impl_Common_1_s b q a (a.length : Int) i)) a.length (fun k q => q = (cmn b (a.take k) : Int)) _ (fun n k q hk hq => .inr ⟨(cmn b (a.take (k + 1)) : Int), ?_, rfl⟩) (fun n q hq => ?_) _ 0 0 (Nat.zero_le _) rfl (by rw [n_eq]; omega)
  · have hc := cmn_le b (a.take k)
    rw [List.length_take] at hc
    rw [impl_Common_1_step, dec_lt hk, br_true, okI_nat hk, ck_true, at_isD hk, SetHas_law2 (by omega), bnd, take_succ_is hk, cmn_snoc, hq, w64_succ (show k + 1 ≤ 9223372036854775807 by omega)]
    dsimp only
    by_cases h : a[k] ∈ b
    · rw [decide_eq_true h, br_true, if_pos h, w64_succ (by omega)]
    · rw [decide_eq_false h, br_false, if_neg h]
      rfl
  · rw [impl_Common_1_step, dec_nlt, br_false, impl_Common_1_ce0, hq, List.take_length]
/-! ### Who is cut off -/
def cutP (c : Int × Int) (view : Int) (off : List Int) (x : Int) : Bool := decide (0 < (wayOf c view x).length) && decide (cmn off (wayOf c view x) = 0)
def cutOf (c : Int × Int) (view : Int) (who off : List Int) : List Int := (someL (w64 (c.1 - 1)) [] who).filter (cutP c view off)
theorem filter_snoc (p : Int → Bool) (l : List Int) (x : Int) : (l ++ [x]).filter p = l.filter p ++ if p x = true then [x] else [] := by
  rw [List.filter_append]
  cases h : p x <;> simp [h]
theorem cut_bad {c : Int × Int} (h : confOk c = false) (view : Int) (off l : List Int) : l.filter (cutP c view off) = [] := by
  rw [List.filter_eq_nil_iff]
  intro x _
  unfold cutP
  rw [wayOf_bad h]
  simp
theorem cutOf_len {who : List Int} (h : who.length ≤ 1048576) (c : Int × Int) (view : Int) (off : List Int) : (cutOf c view who off).length ≤ 1048576 := by
  have h1 := someL_len (w64 (c.1 - 1)) who []
  have h2 := List.length_filter_le (cutP c view off) (someL (w64 (c.1 - 1)) [] who)
  rw [List.length_nil] at h1
  unfold cutOf
  omega
theorem cut_tail {β : Type} (X : List Int → Option β) {c : Int × Int} {view x : Int} {off xs : List Int} :
    br (decide (((wayOf c view x).length : Int) > 0)) (br ((cmn off (wayOf c view x) : Int) == 0) (X (xs ++ [x])) (X xs)) (X xs) = X (xs ++ if cutP c view off x = true then [x] else []) := by
  unfold cutP
  by_cases h : 0 < (wayOf c view x).length
  · rw [decide_eq_true (show ((wayOf c view x).length : Int) > 0 by omega), br_true, decide_eq_true h, Bool.true_and]
    by_cases h2 : cmn off (wayOf c view x) = 0
    · rw [h2, decide_eq_true rfl, if_pos rfl]
      rfl
    · rw [beq_eq_false_iff_ne.2 (show (cmn off (wayOf c view x) : Int) ≠ 0 by omega), br_false, decide_eq_false h2, if_neg (by decide), List.append_nil]
  · rw [decide_eq_false (show ¬ ((wayOf c view x).length : Int) > 0 by omega), br_false, decide_eq_false h, Bool.false_and, if_neg (by decide), List.append_nil]
theorem Cut_law {who off : List Int} (hw : who.length ≤ 1048576) (ho : off.length ≤ 1048576) (c : Int × Int) (view : Int) : spec_Cut F0 c view who off = some (cutOf c view who off, ()) := by
  have hl := someL_len (w64 (c.1 - 1)) who []
  rw [List.length_nil] at hl
  rw [spec_Cut_eq, l22Some_law c hw, bnd]
  unfold cutOf
  dsimp only
  generalize someL (w64 (c.1 - 1)) [] who = s at hl ⊢
  cases hc : confOk c with
  | false =>
    rw [cut_bad hc, show F0.n = 18446744073709551615 + 1 from rfl, spec_Cut_1_step, show ((c.1, c.2) : Int × Int) = c from rfl, ConfOk_law, bnd, hc]
    dsimp only
    rw [br_false, spec_Cut_1_ce0]
    cases decide ((0 : Int) < s.length) <;> rfl
  | true =>
    refine loop_to (fun n i (xs : List Int) => spec_Cut_1 F0 (spec_Cut_1_k F0) n (spec_Cut_1_s view off i c.1 c.2 xs s)) s.length (fun k xs => xs = (s.take k).filter (cutP c view off)) _ (fun n k xs hk hx => .inr ⟨(s.take (k + 1)).filter (cutP c view off), ?_, rfl⟩) (fun n xs hx => ?_) _ 0 [] (Nat.zero_le _) rfl (by rw [n_eq]; omega)
    · have h2 := List.length_filter_le (cutP c view off) (s.take k)
      rw [← hx, List.length_take] at h2
      have hwl := wayOf_len c view s[k]
      rw [spec_Cut_1_step, dec_lt hk, br_true, show ((c.1, c.2) : Int × Int) = c from rfl, ConfOk_law, bnd, hc]
      dsimp only
      rw [br_true, okI_nat hk, ck_true, at_isD hk, Way_law, bnd, take_succ_is hk, filter_snoc, ← hx]
      dsimp only
      rw [Common_law (by omega) ho, bnd, ck_true, okA_le (by omega) (by omega) (by rw [List.length_singleton]; omega), ck_true, w64_succ (by omega)]
      exact cut_tail (fun xs => spec_Cut_1 F0 (spec_Cut_1_k F0) n (spec_Cut_1_s view off ((k + 1 : Nat) : Int) c.1 c.2 xs s))
    · rw [spec_Cut_1_step, dec_nlt, br_false, spec_Cut_1_ce0, hx, List.take_length]
theorem Cut_law2 {who off : List Int} (hw : who.length ≤ 1048576) (ho : off.length ≤ 1048576) (c : Int × Int) (view : Int) : impl_Cut F0 c view who off = some (cutOf c view who off, ()) := by
  have hl := someL_len (w64 (c.1 - 1)) who []
  rw [List.length_nil] at hl
  rw [impl_Cut_eq, replicasOf_law c hw, bnd]
  unfold cutOf
  dsimp only
  generalize someL (w64 (c.1 - 1)) [] who = s at hl ⊢
  refine loop_to (fun n i (xs : List Int) => impl_Cut_1 F0 (impl_Cut_1_k F0) n (impl_Cut_1_s view off (s.length : Int) i c.1 c.2 xs s)) s.length (fun k xs => xs = (s.take k).filter (cutP c view off)) _ (fun n k xs hk hx => .inr ⟨(s.take (k + 1)).filter (cutP c view off), ?_, rfl⟩) (fun n xs hx => ?_) _ 0 [] (Nat.zero_le _) rfl (by rw [n_eq]; omega)
  · have h2 := List.length_filter_le (cutP c view off) (s.take k)
    rw [← hx, List.length_take] at h2
    have hwl := wayOf_len c view s[k]
    rw [impl_Cut_1_step, dec_lt hk, br_true, okI_nat hk, ck_true, at_isD hk, show ((c.1, c.2) : Int × Int) = c from rfl, Way_law2, bnd, take_succ_is hk, filter_snoc, ← hx]
    dsimp only
    rw [Common_law2 (by omega) ho, bnd, okA_le (by omega) (by omega) (by rw [List.length_singleton]; omega), ck_true, w64_succ (by omega)]
    exact cut_tail (fun xs => impl_Cut_1 F0 (impl_Cut_1_k F0) n (impl_Cut_1_s view off (s.length : Int) ((k + 1 : Nat) : Int) c.1 c.2 xs s))
  · rw [impl_Cut_1_step, dec_nlt, br_false, impl_Cut_1_ce0, hx, List.take_length]
end Go.Am.Try
