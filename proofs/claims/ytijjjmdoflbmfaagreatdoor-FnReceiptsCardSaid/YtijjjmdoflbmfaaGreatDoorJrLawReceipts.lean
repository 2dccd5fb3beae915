/- Plain laws: FnReceipts. No condition. -/
import Derived.Test.YtijjjmdoflbmfaaGreatDoorJrLawJ2
import Derived.Test.YtijjjmdoflbmfaaGreatDoorJrLawJ2
import Derived.Test.YtijjjmdoflbmfaaGreatDoorJrLawJ2
set_option linter.unusedVariables false
set_option linter.unusedSimpArgs false
namespace Go.Am.Tryz
open Go.Am
/-! ### What is drawn -/
theorem Rcs_TxsIn {b : ByteArray} (h : b.size ≤ 20100) : Gd (spec_TxsIn F0 b) fun v => v.1.length ≤ 60 := by
  refine ⟨_, TxsIn_law (l := b.data.toList) (Nat.le_trans (Nat.le_of_eq (show b.data.toList.length = b.size from rfl)) (by omega)), ?_⟩
  have h1 := flat_len (stepsOf_ok b.data.toList)
  have h2 := stepsOf_len b.data.toList
  show ((stepsOf b.data.toList).1.flatMap (·.2)).length ≤ 60
  omega
theorem DrawRcs_gd {code : List Int} (h : code.length ≤ 1048576) : Gd (spec_DrawReceipts F0 code) fun v => v.1.size ≤ 20100 ∧ v.2.1.length ≤ 60 := by
  rw [spec_DrawReceipts_eq]
  refine Gd.bind (New_dr h) fun x hx => Dr.bind (Draw5_dr hx) fun y hy cy => Dr.bind (Once_dr cy (by omega) (by omega)) fun z hz cz => Gd.br (fun _ => ?_) fun _ => ?_
  · exact Gd.bind (Rcs_TxsIn hy) fun w hw => Gd.ret ⟨hy, hw⟩
  · exact Dr.bind (DrawTxs_dr cz) fun w hw cw => Gd.ret ⟨hy, by have := hw.1; show w.1.1.length ≤ 60; omega⟩
theorem DrawRcOf_gd {code : List Int} (h : code.length ≤ 1048576) : Gd (spec_DrawReceiptOf F0 code) fun v => v.1.size ≤ 20100 := by
  rw [spec_DrawReceiptOf_eq]
  refine Gd.bind (New_dr h) fun x hx => Dr.bind (Draw5_dr hx) fun y hy cy => Gd.bind (Rcs_TxsIn hy) fun z hz => Gd.br (fun hl => ?_) fun _ => ?_
  · refine Dr.bind (Once_dr cy (by omega) (by omega)) fun w hw cw => Gd.br (fun _ => ?_) fun _ => ?_
    · have hl := of_decide_eq_true hl
      refine Dr.bind (Below_dr cw (by omega) (by omega)) fun u hu cu => Gd.ck ?_ (Gd.ret hy)
      simp [okI, hu.1, hu.2]
    · exact Dr.bind (Below_dr cw (by omega) (by omega)) fun u hu cu => Dr.bind (Below_dr cu (by omega) (by omega)) fun t ht ct => Gd.ret hy
  · exact Dr.bind (Below_dr cy (by omega) (by omega)) fun u hu cu => Dr.bind (Below_dr cu (by omega) (by omega)) fun t ht ct => Gd.ret hy
/-! ### A receipt stays -/
theorem rcTxs_in {fr no h : Int} : ∀ {xs : List TxD} {l : LedD} {r : Int × Int}, rcTxs fr no h l xs = .inr r → r.1 ≠ 9 ∧ r.2 = h
  | [], _, _, hr => by cases hr
  | x :: xs, l, r, hr => by
    simp only [rcTxs] at hr
    split at hr
    · rename_i hc
      cases hr
      simp only [isRc, Bool.and_eq_true, Bool.or_eq_true, beq_iff_eq] at hc
      refine ⟨?_, rfl⟩
      show (payD l x).2 ≠ 9
      rcases hc.2.2 with h | h <;> rw [h] <;> decide
    · exact rcTxs_in hr
theorem rcSteps_in {fr no : Int} : ∀ {ss : List StepD} {i : Nat} {l : LedD}, rcSteps fr no i l ss = (9, 0) ∨ ((rcSteps fr no i l ss).1 ≠ 9 ∧ (i : Int) + 1 ≤ (rcSteps fr no i l ss).2 ∧ (rcSteps fr no i l ss).2 ≤ i + ss.length)
  | [], _, _ => .inl rfl
  | s :: ss, i, l => by
    unfold rcSteps
    cases hr : rcTxs fr no ((i + 1 : Nat) : Int) l s.2 with
    | inr r =>
      have := rcTxs_in hr
      refine .inr ⟨this.1, ?_, ?_⟩
      · show (i : Int) + 1 ≤ r.2
        rw [this.2]
        omega
      · show r.2 ≤ _
        rw [this.2, List.length_cons]
        omega
    | inl l' =>
      dsimp only
      rcases rcSteps_in (fr := fr) (no := no) (ss := ss) (i := i + 1) (l := l') with h | ⟨h1, h2, h3⟩
      · exact .inl h
      · refine .inr ⟨h1, by omega, ?_⟩
        rw [List.length_cons]
        omega
theorem rcSteps_app {fr no : Int} {tt : List StepD} : ∀ {ss : List StepD} {i : Nat} {l : LedD}, (rcSteps fr no i l ss).1 ≠ 9 → rcSteps fr no i l (ss ++ tt) = rcSteps fr no i l ss
  | [], _, _, h => absurd rfl h
  | s :: ss, i, l, h => by
    rw [List.cons_append]
    unfold rcSteps at h ⊢
    cases hr : rcTxs fr no ((i + 1 : Nat) : Int) l s.2 with
    | inr r => rfl
    | inl l' =>
      rw [hr] at h
      exact rcSteps_app h
theorem no_slash {x : TxD} (h : txOk x = true) : (47 : UInt8) ∉ txL x := by
  obtain ⟨⟨a0, a1⟩, ⟨b0, b1⟩, ⟨c0, c1⟩, ⟨d0, d1⟩⟩ := txOk_spec h
  have e1 := no_sep (n := x.1) a0 (c := 47) rfl
  have e2 := no_sep (n := x.2.1) b0 (c := 47) rfl
  have e3 := no_sep (n := x.2.2.1) c0 (c := 47) rfl
  have e4 := no_sep (n := x.2.2.2) d0 (c := 47) rfl
  unfold txL
  intro hm
  simp only [List.mem_append, List.mem_cons] at hm
  rcases hm with h | h | h | h | h | h | h
  · exact e1 h
  · cases h
  · exact e2 h
  · cases h
  · exact e3 h
  · cases h
  · exact e4 h
theorem txsJoin_one (x : TxD) : txsJoin [x] = txL x := by
  unfold txsJoin
  rw [List.map_cons, List.map_nil, Lib.join_one]
theorem next_steps {l : List UInt8} {x : TxD} (h : nameOf l (viewOf l + 1) [x] ≠ []) : nameOk l = true ∧ ∃ s, (stepsOf (nameOf l (viewOf l + 1) [x])).1 = (stepsOf l).1 ++ [s] := by
  unfold nameOf at h ⊢
  split at h
  · rename_i hc
    rw [if_pos hc]
    have hx : txOk x = true := by simpa using hc.1
    have hv := viewOf_ok l
    have e : nameNew l (viewOf l + 1) [x] = l ++ 47 :: (Lib.itoa (viewOf l + 1) ++ 124 :: txL x) := by
      unfold nameNew
      rw [txsJoin_one]
      simp
    rw [e] at hc ⊢
    refine steps_tail (fun hm => ?_) hc.2
    rcases List.mem_append.1 hm with h1 | h1
    · exact no_sep (n := viewOf l + 1) (by omega) (c := 47) rfl h1
    · rcases List.mem_cons.1 h1 with h1 | h1
      · cases h1
      · exact no_slash hx h1
  · exact absurd rfl h
theorem rcs_stay {l : List UInt8} {x : TxD} {fr no : Int} (h : nameOf l (viewOf l + 1) [x] ≠ []) (h9 : (rcOf l fr no).1 ≠ 9) : rcOf (nameOf l (viewOf l + 1) [x]) fr no = rcOf l fr no := by
  obtain ⟨_, s, hs⟩ := next_steps h
  unfold rcOf at h9 ⊢
  rw [hs, rcSteps_app h9]
def hgtOf (l : List UInt8) : Int := if nameOk l = true then ((stepsOf l).1.length : Int) else -1
theorem Hgt_law2 {l : List UInt8} (h : l.length ≤ 1073741824) : impl_Height F0 (tx l) = some (hgtOf l, ()) := by
  rw [impl_Height_eq, Steps_law2 h, bnd]
  unfold hgtOf nameOk
  dsimp only
  cases (stepsOf l).2 <;> rfl
/-! ### The law -/
theorem rcs_end {l : List UInt8} (hl : l.length ≤ 20100) (code : List Int) (hc : code.length ≤ 1048576) (fr no : Int) : laws_FnReceipts_1_k F0 (.exit 0) (laws_FnReceipts_1_e0 code (tx l) fr no (rcOf l fr no).1 (rcOf l fr no).2) = some (true, ()) := by
  have hat : ∀ i, Gd (laws_at F0 code (i : Nat)) fun _ => True := by
    intro i
    rw [laws_at_eq]
    refine Gd.br (fun h => Gd.ck ?_ (Gd.ret trivial)) fun _ => Gd.ret trivial
    have h := of_decide_eq_true h
    exact okI_nat (by omega)
  obtain ⟨v1, e1, _⟩ := hat 1
  obtain ⟨v2, e2, _⟩ := hat 2
  have hv := viewOf_ok l
  have hw : w64 (viewOf l + 1) = viewOf l + 1 := w64_in (by omega) (by omega)
  rw [laws_FnReceipts_1_ce0, ViewOf_law2 (by omega), bnd, show laws_at F0 code 1 = some v1 from e1, bnd, show laws_at F0 code 2 = some v2 from e2, bnd]
  dsimp only
  rw [hw]
  have hv64 : I64 (viewOf l + 1) := ⟨by omega, by omega⟩
  generalize ((v1.1.tmod 4, (2, (3, v2.1.tmod 3))) : TxD) = x
  rw [NameOf_law2 (by omega) hv64 (show [x].length ≤ 2 by rw [List.length_singleton]; omega), bnd]
  dsimp only
  have hcase := rcSteps_in (fr := fr) (no := no) (ss := (stepsOf l).1) (i := 0) (l := led0)
  have hst := stepsOf_len l
  have hin : 0 ≤ (rcOf l fr no).2 ∧ (rcOf l fr no).2 ≤ 30 := by
    unfold rcOf
    rcases hcase with h | ⟨_, h1, h2⟩
    · rw [h]
      decide
    · omega
  rw [show ByteArray.mk #[] = tx [] from rfl, tl_eq]
  by_cases hn : nameOf l (viewOf l + 1) [x] = []
  · rw [decide_eq_true hn, br_true, decide_eq_true hin.1, br_true, decide_eq_true hin.2]
  · rw [decide_eq_false hn, br_false]
    by_cases h9 : (rcOf l fr no).1 = 9
    · rw [show ((rcOf l fr no).1 == 9) = true from beq_iff_eq.2 h9, br_true, decide_eq_true hin.1, br_true, decide_eq_true hin.2]
    · have hnl := nameOf_le (up := l) hv64 [x]
      rw [List.length_singleton] at hnl
      rw [show ((rcOf l fr no).1 == 9) = false from beq_eq_false_iff_ne.2 h9, br_false, ReceiptOf_law2 (by omega), bnd, rcs_stay hn h9]
      dsimp only
      rw [beq_self_eq_true, beq_self_eq_true, Bool.and_self, Bool.and_self, br_true, Hgt_law2 (by omega), bnd]
      dsimp only
      rcases hcase with h | ⟨_, h1, h2⟩
      · exact absurd (congrArg (·.1) h) h9
      · rw [decide_eq_true (show (rcOf l fr no).2 ≥ 1 by show (rcSteps _ _ _ _ _).2 ≥ 1; omega), br_true, hgtOf, if_pos (next_steps hn).1, decide_eq_true (show (rcOf l fr no).2 ≤ _ by show (rcSteps _ _ _ _ _).2 ≤ _; omega)]
theorem FnReceipts_true (code : List Int) : laws_FnReceipts F0 code = some (true, ()) := by
  rw [laws_FnReceipts_eq, laws_big_eq, bnd]
  by_cases h : (code.length : Int) > 1048576
  · rw [decide_eq_true h, br_true]
  · rw [decide_eq_false h, br_false]
    obtain ⟨⟨nm, list, u1⟩, e1, hn, hl⟩ := DrawRcs_gd (code := code) (by omega)
    obtain ⟨⟨s, fr, no, u2⟩, e2, hs⟩ := DrawRcOf_gd (code := code) (by omega)
    obtain ⟨n, rfl⟩ : ∃ n, nm = tx n := ⟨_, tx_of nm⟩
    obtain ⟨l, rfl⟩ : ∃ l, s = tx l := ⟨_, tx_of s⟩
    dsimp only at hn hl hs
    rw [tx_size] at hn hs
    have hr : (rcsOf n list).length = list.length := by rw [rcsOf, List.length_map]
    rw [e1, bnd]
    dsimp only
    rw [Receipts_law2 (by omega) (by omega), bnd, Receipts_law (by omega) (by omega), bnd, e2, bnd]
    dsimp only
    rw [ReceiptOf_law2 (by omega), bnd, bne_self_eq_false, br_false, ReceiptOf_law (by omega), bnd]
    dsimp only
    rw [beq_self_eq_true, beq_self_eq_true, Bool.and_self, Bool.and_self, Bool.not_true, br_false]
    refine same_to (fun m i => laws_FnReceipts_1 F0 (laws_FnReceipts_1_k F0) m (laws_FnReceipts_1_s code (tx n) list (tx l) fr no i (rcOf l fr no).1 (rcOf l fr no).2 (rcsOf n list) (rcsOf n list))) (rcsOf n list).length _ (fun m k hk => ?_) (fun m => ?_) _ (by rw [n_eq]; omega)
    · have hk' : k < list.length := by omega
      have hg : (rcsOf n list)[k] = rcOf n list[k].1 list[k].2.2.2 := by simp [rcsOf]
      rw [laws_FnReceipts_1_step, dec_lt hk, br_true, okI_nat hk, ck_true, ck_true, beq_self_eq_true, beq_self_eq_true, Bool.and_self, Bool.and_self, Bool.not_true, br_false, ck_true, okI_nat hk', ck_true, ck_true, at_is hk', ReceiptOf_law2 (by omega), bnd, at_is hk, hg]
      dsimp only
      rw [beq_self_eq_true, beq_self_eq_true, Bool.and_self, Bool.and_self, Bool.not_true, br_false, w64_succ (by omega)]
    · rw [laws_FnReceipts_1_step, dec_nlt, br_false]
      exact rcs_end (by omega) code (by omega) fr no
end Go.Am.Tryz
