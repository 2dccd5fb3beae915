/- Plain laws: what is drawn for FnCutAlone; the law. No condition. -/
import Derived.Test.YtmmajfbohkbpjaaPaLawDraw
import Derived.Test.YtmmajfbohkbpjaaPaLawCut
set_option linter.unusedVariables false
set_option linter.unusedSimpArgs false
namespace Go.Am.Try
open Go.Am
theorem txText_len (x : TxD) : (txText x).length ≤ 90 := by
  unfold txText
  split
  · rename_i h
    exact txL_le h
  · exact Nat.zero_le _
theorem TxsText_ok {l : List TxD} (h : l.length ≤ 1000) : ∃ r : List UInt8, spec_TxsText F0 l = some (tx r, ()) ∧ r.length ≤ 91 * l.length := by
  rw [spec_TxsText_eq]
  suffices hh : ∀ (j k n : Nat) (out : List UInt8), k + j = l.length → out.length ≤ 91 * k → j < n → ∃ r : List UInt8, spec_TxsText_1 F0 (spec_TxsText_1_k F0) n (spec_TxsText_1_s l (tx out) (k : Int)) = some (tx r, ()) ∧ r.length ≤ 91 * l.length by
    exact hh l.length 0 F0.n [] (Nat.zero_add _) (Nat.zero_le _) (by rw [n_eq]; omega)
  intro j
  induction j with
  | zero =>
    intro k n out hk ho hn
    obtain ⟨n, rfl⟩ : ∃ m, n = m + 1 := ⟨n - 1, by omega⟩
    obtain rfl : k = l.length := by omega
    rw [spec_TxsText_1_step, dec_nlt, br_false, spec_TxsText_1_ce0]
    exact ⟨out, rfl, ho⟩
  | succ j ih =>
    intro k n out hk ho hn
    obtain ⟨n, rfl⟩ : ∃ m, n = m + 1 := ⟨n - 1, by omega⟩
    have hlt : k < l.length := by omega
    have hx := txText_len l[k]
    rw [spec_TxsText_1_step, dec_lt hlt, br_true, okI_nat hlt, ck_true, at_isD hlt, TxOk_law, bnd, spec_TxsText_1_cr]
    dsimp only
    cases txOk l[k] with
    | false => exact ⟨[], rfl, Nat.zero_le _⟩
    | true =>
      rw [Bool.not_true, br_false, ck_true, ck_true, TxText_law, bnd, bnd, show ByteArray.mk #[44] = tx [44] from rfl, tx_append]
      dsimp only
      rw [okC_le (by rw [tx_size, tx_size, List.length_singleton]; omega), ck_true, okC_le (by rw [tx_size, tx_size, List.length_append, List.length_singleton]; omega), ck_true, okC_le (by rw [tx_size, tx_size]; omega), ck_true, tx_append, tx_append, w64_succ (by omega)]
      by_cases h0 : (k : Int) > 0
      · rw [decide_eq_true h0, br_true]
        exact ih (k + 1) n _ (by omega) (by rw [List.length_append, List.length_append, List.length_singleton]; omega) (by omega)
      · rw [decide_eq_false h0, br_false]
        exact ih (k + 1) n _ (by omega) (by rw [List.length_append]; omega) (by omega)
theorem NameOf_ok {up : List UInt8} (hu : up.length ≤ 1000000) {view : Int} (hv : I64 view) {l : List TxD} (h : l.length ≤ 100) : ∃ r : List UInt8, spec_NameOf F0 (tx up) view l = some (tx r, ()) ∧ r.length ≤ up.length + 9200 := by
  obtain ⟨t, ht, htl⟩ := TxsText_ok (l := l) (by omega)
  have hd := itoa_le hv
  rw [spec_NameOf_eq]
  suffices hh : ∀ (j k n : Nat), k + j = l.length → j < n → ∃ r : List UInt8, spec_NameOf_1 F0 (spec_NameOf_1_k F0) n (spec_NameOf_1_s (tx up) view l (k : Int)) = some (tx r, ()) ∧ r.length ≤ up.length + 9200 by
    exact hh l.length 0 F0.n (Nat.zero_add _) (by rw [n_eq]; omega)
  intro j
  induction j with
  | zero =>
    intro k n hk hn
    obtain ⟨n, rfl⟩ : ∃ m, n = m + 1 := ⟨n - 1, by omega⟩
    obtain rfl : k = l.length := by omega
    rw [spec_NameOf_1_step, dec_nlt, br_false, spec_NameOf_1_ce0, digits_law hv, bnd, ht, bnd, show ByteArray.mk #[47] = tx [47] from rfl, show ByteArray.mk #[124] = tx [124] from rfl]
    dsimp only
    rw [okC_le (by rw [tx_size, tx_size, List.length_singleton]; omega), ck_true, tx_append, okC_le (by rw [tx_size, tx_size, List.length_append, List.length_singleton]; omega), ck_true, tx_append, okC_le (by rw [tx_size, tx_size, List.length_append, List.length_append, List.length_singleton, List.length_singleton]; omega), ck_true, tx_append,
      okC_le (by rw [tx_size, tx_size, List.length_append, List.length_append, List.length_append, List.length_singleton, List.length_singleton]; omega), ck_true, tx_append]
    have hlen : (up ++ [47] ++ Lib.itoa view ++ [124] ++ t).length ≤ up.length + 9200 := by
      rw [List.length_append, List.length_append, List.length_append, List.length_append, List.length_singleton, List.length_singleton]
      omega
    generalize up ++ [47] ++ Lib.itoa view ++ [124] ++ t = z at hlen ⊢
    rw [NameOk_law (by omega), bnd]
    dsimp only
    cases nameOk z with
    | false => exact ⟨[], rfl, Nat.zero_le _⟩
    | true => exact ⟨z, rfl, hlen⟩
  | succ j ih =>
    intro k n hk hn
    obtain ⟨n, rfl⟩ : ∃ m, n = m + 1 := ⟨n - 1, by omega⟩
    have hlt : k < l.length := by omega
    rw [spec_NameOf_1_step, dec_lt hlt, br_true, okI_nat hlt, ck_true, at_isD hlt, TxOk_law, bnd, spec_NameOf_1_cr]
    dsimp only
    cases txOk l[k] with
    | false => exact ⟨[], rfl, Nat.zero_le _⟩
    | true =>
      rw [Bool.not_true, br_false, w64_succ (by omega)]
      exact ih (k + 1) n (by omega) (by omega)
theorem name_in (up : List UInt8) (view : Int) (i : Nat) {γ : Type} (κ : Ex → St → Option γ) (R : List TxD → CurD → Option γ) (hR : ∀ xs (c : CurD), κ (.exit 2) (spec_l5DrawRight_2_e2 (tx up) view (i : Int) c.1 c.2.1 c.2.2 xs) = R xs c) :
    ∀ (j k n : Nat) (c : CurD) (xs : List TxD), k + j = 3 → Cur c → xs.length ≤ k → j < n → ∃ (xs' : List TxD) (c' : CurD), spec_l5DrawRight_2 F0 κ n (spec_l5DrawRight_2_s (tx up) view (i : Int) (k : Int) c.1 c.2.1 c.2.2 xs) = R xs' c' ∧ xs'.length ≤ 3 ∧ Cur c' := by
  intro j
  induction j with
  | zero =>
    intro k n c xs hk hc hx hn
    obtain ⟨n, rfl⟩ : ∃ m, n = m + 1 := ⟨n - 1, by omega⟩
    obtain ⟨v1, c1, e1, l1, g1, h1⟩ := Below_ok hc (n := 3) (by omega) (by omega)
    rw [spec_l5DrawRight_2_step, show ((c.1, (c.2.1, c.2.2)) : CurD) = c from rfl, e1, bnd]
    dsimp only
    rw [decide_eq_false (by omega), br_false]
    exact ⟨xs, c1, hR xs c1, by omega, h1⟩
  | succ j ih =>
    intro k n c xs hk hc hx hn
    obtain ⟨n, rfl⟩ : ∃ m, n = m + 1 := ⟨n - 1, by omega⟩
    obtain ⟨v1, c1, e1, l1, g1, h1⟩ := Below_ok hc (n := 3) (by omega) (by omega)
    obtain ⟨v2, c2, e2, h2⟩ := DrawTx_ok h1
    rw [spec_l5DrawRight_2_step, show ((c.1, (c.2.1, c.2.2)) : CurD) = c from rfl, e1, bnd]
    dsimp only
    by_cases hv : (k : Int) < v1
    · rw [decide_eq_true hv, br_true, e2, bnd, okA_le (by omega) (by omega) (by rw [List.length_singleton]; omega), ck_true, w64_succ (by omega)]
      exact ih (k + 1) n c2 (xs ++ [v2]) (by omega) h2 (by rw [List.length_append, List.length_singleton]; omega) (by omega)
    · rw [decide_eq_false hv, br_false]
      exact ⟨xs, c1, hR xs c1, by omega, h1⟩
theorem DrawName_ok {c : CurD} (h : Cur c) : ∃ (v : List UInt8) (c' : CurD), spec_l5DrawRight F0 c = some ((tx v, ()), (c', ())) ∧ v.length ≤ 55200 ∧ Cur c' := by
  rw [spec_l5DrawRight_eq]
  suffices hh : ∀ (j k n : Nat) (c : CurD) (up : List UInt8) (view : Int), k + j = 6 → Cur c → up.length ≤ 9200 * k → 0 ≤ view → view ≤ 2 * k → j < n →
      ∃ (v : List UInt8) (c' : CurD), spec_l5DrawRight_1 F0 (spec_l5DrawRight_1_k F0) n (spec_l5DrawRight_1_s (tx up) view (k : Int) c.1 c.2.1 c.2.2) = some ((tx v, ()), (c', ())) ∧ v.length ≤ 55200 ∧ Cur c' by
    exact hh 6 0 F0.n c [] 0 rfl h (Nat.zero_le _) (Int.le_refl _) (Int.le_refl _) (by rw [n_eq]; omega)
  intro j
  induction j with
  | zero =>
    intro k n c up view hk hc hu h0 hv hn
    obtain ⟨n, rfl⟩ : ∃ m, n = m + 1 := ⟨n - 1, by omega⟩
    obtain ⟨v1, c1, e1, l1, g1, h1⟩ := Below_ok hc (n := 6) (by omega) (by omega)
    rw [spec_l5DrawRight_1_step, show ((c.1, (c.2.1, c.2.2)) : CurD) = c from rfl, e1, bnd]
    dsimp only
    rw [decide_eq_false (by omega), br_false, spec_l5DrawRight_1_ce0]
    exact ⟨up, c1, rfl, by omega, h1⟩
  | succ j ih =>
    intro k n c up view hk hc hu h0 hv hn
    obtain ⟨n, rfl⟩ : ∃ m, n = m + 1 := ⟨n - 1, by omega⟩
    obtain ⟨v1, c1, e1, l1, g1, h1⟩ := Below_ok hc (n := 6) (by omega) (by omega)
    obtain ⟨v2, c2, e2, l2, g2, h2⟩ := Below_ok h1 (n := 4) (by omega) (by omega)
    rw [spec_l5DrawRight_1_step, show ((c.1, (c.2.1, c.2.2)) : CurD) = c from rfl, e1, bnd]
    dsimp only
    by_cases hv1 : (k : Int) < v1
    · rw [decide_eq_true hv1, br_true, e2, bnd]
      dsimp only
      have hd : Int.tdiv v2 3 = v2 / 3 := Int.tdiv_eq_ediv_of_nonneg l2
      rw [hd, w64_in (n := view + 1) (by omega) (by omega), w64_in (n := v2 / 3) (by omega) (by omega), w64_in (by omega) (by omega)]
      obtain ⟨xs, c3, e3, hx, h3⟩ := name_in up (view + 1 + v2 / 3) k (spec_l5DrawRight_2_k F0 (spec_l5DrawRight_1_k F0) n) _ (fun xs c => spec_l5DrawRight_2_ce2 F0 (spec_l5DrawRight_1_k F0) n (tx up) (view + 1 + v2 / 3) (k : Int) c.1 c.2.1 c.2.2 xs) 3 0 F0.n c2 [] rfl h2 (Nat.zero_le _) (by rw [n_eq]; omega)
      obtain ⟨r, hr, hrl⟩ := NameOf_ok (up := up) (by omega) (view := view + 1 + v2 / 3) ⟨by omega, by omega⟩ (l := xs) (by omega)
      obtain ⟨v, c', e5, hvl, hc'⟩ := ih (k + 1) n c3 r (view + 1 + v2 / 3) (by omega) h3 (by omega) (by omega) (by omega) (by omega)
      refine ⟨v, c', e3.trans ?_, hvl, hc'⟩
      rw [hr, bnd, w64_succ (by omega)]
      exact e5
    · rw [decide_eq_false hv1, br_false, spec_l5DrawRight_1_ce0]
      exact ⟨up, c1, rfl, by omega, h1⟩
theorem DrawStar_ok {code : List Int} (h : code.length ≤ 1048576) : ∃ (c : Int × Int) (view : Int) (name : ByteArray) (who : List Int), spec_l22Draw F0 code = some (c, view, name, who, ()) ∧ who.length ≤ 9 := by
  obtain ⟨c0, e0, h0⟩ := New_ok h
  obtain ⟨v1, c1, e1, h1⟩ := DrawBent_ok h0
  obtain ⟨v2, c2, e2, l2, h2⟩ := DrawName_ok h1
  obtain ⟨v3, c3, e3, h3⟩ := Once_ok h2 (n := 8) (by omega) (by omega)
  obtain ⟨v4, c4, e4, _, h4⟩ := PickInt_ok h3 (l := [-1, 0, 5, 61]) (by decide) (by decide)
  obtain ⟨v5, c5, e5, h5⟩ := Once_ok h4 (n := 2) (by omega) (by omega)
  obtain ⟨v6, c6, e6, l6, h6⟩ := DrawSet_ok h5 (m := 7) (by omega) (by omega)
  obtain ⟨v7, c7, e7, h7⟩ := Once_ok h3 (n := 2) (by omega) (by omega)
  obtain ⟨v8, c8, e8, l8, h8⟩ := DrawSet_ok h7 (m := 7) (by omega) (by omega)
  rw [spec_l22Draw_eq, e0, bnd, e1, bnd, e2, bnd, ViewOf_law (by omega), bnd, e3, bnd, e4, bnd, e5, bnd, e6, bnd, e7, bnd, e8, bnd]
  dsimp only
  cases v3 with
  | true =>
    rw [br_true]
    cases v5 with
    | true => exact ⟨_, _, _, _, rfl, l6⟩
    | false => exact ⟨_, _, _, _, rfl, by decide⟩
  | false =>
    rw [br_false]
    cases v7 with
    | true => exact ⟨_, _, _, _, rfl, l8⟩
    | false => exact ⟨_, _, _, _, rfl, by decide⟩
theorem DrawCut_ok {code : List Int} (h : code.length ≤ 1048576) : ∃ (c : Int × Int) (view : Int) (who off : List Int), spec_DrawCut F0 code = some (c, view, who, off, ()) ∧ who.length ≤ 9 := by
  obtain ⟨c, view, name, who, e, l⟩ := DrawStar_ok h
  obtain ⟨c0, e0, h0⟩ := New_ok h
  obtain ⟨v1, c1, e1, _, _, h1⟩ := Below_ok h0 (n := 7) (by omega) (by omega)
  rw [spec_DrawCut_eq, e, bnd, e0, bnd, e1, bnd]
  exact ⟨_, _, _, _, rfl, l⟩
/-! ### The law -/
theorem sameInts_law {a : List Int} (h : a.length ≤ 1048576) : laws_sameInts F0 a a = some (true, ()) := by
  rw [laws_sameInts_eq, bne_self_eq_false, br_false]
  refine same_to (fun n i => laws_sameInts_1 F0 (laws_sameInts_1_k F0) n (laws_sameInts_1_s a a i)) a.length _ (fun n k hk => ?_) (fun n => ?_) _ (by rw [n_eq]; omega)
  · simp only [laws_sameInts_1_step, dec_lt hk, br_true, okI_nat hk, ck_true, at_isD hk, w64_succ (show k + 1 ≤ 9223372036854775807 by omega), bne_self_eq_false, br_false]
  · rw [laws_sameInts_1_step, dec_nlt, br_false, laws_sameInts_1_ce0]
theorem withinInts_law {l : List Int} (h : l.length ≤ 1048576) (x : Int) : laws_within F0 l x = some (decide (x ∈ l), ()) := by
  rw [laws_within_eq, all_to (fun n k => laws_within_1 F0 (laws_within_1_k F0) n (laws_within_1_s l x k)) l.length (fun k => !(l.getD k 0 == x)) (some (false, ())) (some (true, ())) (fun n k hk => ?_) (fun n => ?_) _ (by rw [n_eq]; omega), all_getD l (fun y => !(y == x)), all_ne, ite_not]
  · by_cases hm : x ∈ l <;> simp [hm]
  · rw [laws_within_1_step, dec_lt hk, br_true, okI_nat hk, ck_true, at_nat, w64_succ (by omega), ite_not, br_ite, laws_within_1_cr]
  · rw [laws_within_1_step, dec_nlt, br_false, laws_within_1_ce0]
theorem mem_insL {i x : Int} : ∀ {l : List Int}, x = i ∨ x ∈ l → x ∈ insL i l
  | [], h => by
    rcases h with rfl | h
    · exact List.mem_singleton.2 rfl
    · cases h
  | y :: l, h => by
    unfold insL
    split
    · rcases h with rfl | h
      · exact List.mem_cons_self
      · exact List.mem_cons_of_mem _ h
    · rcases h with h | h
      · exact List.mem_cons_of_mem _ (mem_insL (.inl h))
      · rcases List.mem_cons.1 h with rfl | h
        · exact List.mem_cons_self
        · exact List.mem_cons_of_mem _ (mem_insL (.inr h))
theorem mem_setA {i x : Int} {l : List Int} (h : x = i ∨ x ∈ l) : x ∈ setA l i := by
  unfold setA
  split
  · rename_i hi
    rcases h with rfl | h
    · exact hi
    · exact h
  · exact mem_insL h
theorem mem_someL {hi x : Int} : ∀ {l out : List Int}, (x ∈ out ∨ (x ∈ l ∧ inR 0 hi x = true)) → x ∈ someL hi out l
  | [], out, h => by
    rcases h with h | h
    · exact h
    · cases h.1
  | y :: l, out, h => by
    unfold someL
    refine mem_someL ?_
    rcases h with h | ⟨h, hx⟩
    · refine .inl ?_
      split
      · exact mem_setA (.inr h)
      · exact h
    · rcases List.mem_cons.1 h with rfl | h
      · refine .inl ?_
        rw [if_pos hx]
        exact mem_setA (.inl rfl)
      · exact .inr ⟨h, hx⟩
theorem seat_zero {c : Int × Int} {view i : Int} (h : seatOf c view i = 0) : i = view % c.1 := by
  have hf := seatOf_facts (c := c) (view := view) (i := i) (by omega)
  have hn := confOk_n hf.1
  have hm := mod_in hn.1 view
  unfold seatOf at h
  by_cases hc : confOk c = true ∧ 0 ≤ view ∧ 0 ≤ i ∧ i ≤ c.1 - 1
  · rw [if_pos hc] at h
    obtain ⟨n, a⟩ := c
    dsimp only at *
    have hn4 : n = 4 ∨ n = 5 ∨ n = 6 ∨ n = 7 := by omega
    rcases hn4 with rfl | rfl | rfl | rfl <;> omega
  · rw [if_neg hc] at h
    omega
theorem up_seat {c : Int × Int} {view i : Int} (h : 0 < seatOf c view i) : 0 ≤ seatOf c view (upOf c view i) := by
  have hf := seatOf_facts (c := c) (view := view) (i := i) (by omega)
  have hn := confOk_n hf.1
  unfold upOf
  have hd1 : 0 ≤ (seatOf c view i - 1) / c.2 := Int.ediv_nonneg (by omega) (by omega)
  have hd2 : (seatOf c view i - 1) / c.2 ≤ seatOf c view i - 1 := Int.ediv_le_self c.2 (by omega)
  rw [if_neg (by omega), seat_sits hf.1 hf.2.1 hd1 (by omega)]
  exact hd1
theorem way_root {c : Int × Int} {view : Int} : ∀ (k : Nat) (i : Int), 0 ≤ seatOf c view i → seatOf c view i < k → view % c.1 ∈ wayFrom c view k i
  | 0, i, h0, h => by omega
  | k + 1, i, h0, h => by
    unfold wayFrom
    rw [if_pos h0]
    by_cases hz : seatOf c view i = 0
    · rw [seat_zero hz]
      exact List.mem_cons_self
    · have hu := seat_up h0
      exact List.mem_cons_of_mem _ (way_root k (upOf c view i) (up_seat (by omega)) (by omega))
theorem cut_none {c : Int × Int} {view : Int} (hc : confOk c = true) (hv : 0 ≤ view) (who : List Int) : cutOf c view who [rootOf c view] = [] := by
  unfold cutOf
  rw [List.filter_eq_nil_iff]
  intro x _
  unfold cutP rootOf
  rw [if_pos ⟨hc, hv⟩]
  by_cases h0 : 0 ≤ seatOf c view x
  · have hr := way_root (c := c) (view := view) 8 x h0 (by have := seatOf_in c view x; omega)
    have hne : cmn [view % c.1] (wayOf c view x) ≠ 0 := by
      unfold cmn
      rw [Ne, List.countP_eq_zero]
      exact fun h => h _ hr (by simp)
    rw [decide_eq_false hne, Bool.and_false]
    decide
  · have : wayOf c view x = [] := by
      unfold wayOf wayFrom
      rw [if_neg h0]
    rw [this]
    simp
theorem cut_mem {c : Int × Int} {view : Int} (hc : confOk c = true) (hv : 0 ≤ view) {who : List Int} {x : Int} (hx : x ∈ who) (h0 : 0 ≤ x) (h1 : x < c.1) : x ∈ cutOf c view who [] := by
  have hn := confOk_n hc
  unfold cutOf
  rw [List.mem_filter]
  refine ⟨mem_someL (.inr ⟨hx, ?_⟩), ?_⟩
  · unfold inR
    rw [w64_n1 hn.1 hn.2.1, decide_eq_true h0, decide_eq_true (show x ≤ c.1 - 1 by omega)]
    rfl
  · have hs : 0 ≤ seatOf c view x := by
      unfold seatOf
      rw [if_pos ⟨hc, hv, h0, by omega⟩]
      exact Int.emod_nonneg _ (by omega)
    have hw : 0 < (wayOf c view x).length := by
      unfold wayOf wayFrom
      rw [if_pos hs, List.length_cons]
      omega
    have hz : cmn [] (wayOf c view x) = 0 := by
      unfold cmn
      rw [List.countP_eq_zero]
      intro y _
      simp
    unfold cutP
    rw [decide_eq_true hw, decide_eq_true hz]
    rfl
theorem cut_neg {c : Int × Int} {view : Int} (hv : view < 0) (who off : List Int) : cutOf c view who off = [] := by
  unfold cutOf
  rw [List.filter_eq_nil_iff]
  intro x _
  have : wayOf c view x = [] := by
    unfold wayOf wayFrom
    rw [if_neg (fun h => by have := (seatOf_facts h).2.1; omega)]
  unfold cutP
  rw [this]
  simp
theorem FnCutAlone_true (code : List Int) : laws_FnCutAlone F0 code = some (true, ()) := by
  rw [laws_FnCutAlone_eq, laws_big_eq, bnd]
  by_cases h : (code.length : Int) > 1048576
  · rw [decide_eq_true h, br_true]
  · obtain ⟨c, view, who, off, e, l⟩ := DrawCut_ok (code := code) (by omega)
    have hwl : who.length ≤ 1048576 := by omega
    have hq := cutOf_len (who := who) (by omega) c view []
    rw [decide_eq_false h, br_false, e, bnd, Cut_law2 hwl (by rw [List.length_nil]; omega), bnd, Root_law2, bnd, Cut_law2 hwl (by rw [List.length_singleton]; omega), bnd, Cut_law hwl (by rw [List.length_nil]; omega), bnd, sameInts_law hq, bnd, Bool.not_true, br_false, ConfOk_law2, bnd]
    dsimp only
    cases hc : confOk c with
    | false =>
      unfold cutOf
      rw [cut_bad hc]
      rfl
    | true =>
      rw [Bool.not_true, br_false]
      by_cases hv : view < 0
      · rw [decide_eq_true hv, br_true, cut_neg hv]
        rfl
      · rw [decide_eq_false hv, br_false, cut_none hc (by omega)]
        refine same_to (fun n i => laws_FnCutAlone_1 F0 (laws_FnCutAlone_1_k F0) n (laws_FnCutAlone_1_s i c.1 c.2 who (cutOf c view who []) [])) who.length _ (fun n k hk => ?_) (fun n => ?_) _ (by rw [n_eq]; omega)
        · rw [laws_FnCutAlone_1_step, dec_lt hk, br_true, okI_nat hk, ck_true, ck_true, ck_true, at_isD hk, withinInts_law hq, bnd, w64_succ (by omega)]
          dsimp only
          by_cases h0 : who[k] ≥ 0
          · rw [decide_eq_true h0, br_true]
            by_cases h1 : who[k] < c.1
            · rw [decide_eq_true h1, br_true, decide_eq_true (cut_mem hc (by omega) (List.getElem_mem hk) h0 h1), Bool.not_true, br_false]
            · rw [decide_eq_false h1, br_false]
          · rw [decide_eq_false h0, br_false]
        · rw [laws_FnCutAlone_1_step, dec_nlt, br_false, laws_FnCutAlone_1_ce0]
          rfl
end Go.Am.Try
