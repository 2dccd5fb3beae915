/- Plain laws: who is honest; votes judged; the longest; the laws of JudgeVotes, Top. No condition. -/
import Derived.Test.YtkkgagllehdhhaaGreatDoorZlLawShow
set_option linter.unusedVariables false
set_option linter.unusedSimpArgs false
namespace Go.Am.Tryz
open Go.Am
theorem all_pairs {n : Nat} {q : Nat → Nat → Bool} (hs : ∀ i k, i < n → k < n → q i k = q k i) (hd : ∀ i, i < n → q i i = true) : ((List.range n).all fun i => (List.range i).all (q i)) = (List.range n).all fun i => (List.range n).all (q i) := by
  rw [Bool.eq_iff_iff]
  simp only [List.all_eq_true, List.mem_range]
  constructor
  · intro h i hi k hk
    rcases Nat.lt_trichotomy i k with hlt | heq | hgt
    · rw [hs i k hi hk]
      exact h k hk i hlt
    · subst heq
      exact hd i hi
    · exact h i hi k hgt
  · intro h i hi k hk
    exact h i hi k (by omega)
/-! ### Votes -/
def badV (l : List Int) (a b : SaidD) : Bool := !decide (a.2.2 ∈ l) && ((a.2.2 == b.2.2) && ((a.1 == b.1) && !(a.2.1.toList == b.2.1.toList)))
theorem badV_comm (l : List Int) (a b : SaidD) : badV l a b = badV l b a := by
  unfold badV
  rw [BEq.comm (a := b.2.2), BEq.comm (a := b.1), BEq.comm (a := b.2.1.toList)]
  by_cases h : a.2.2 = b.2.2
  · rw [h]
  · rw [beq_eq_false_iff_ne.2 h, Bool.false_and, Bool.and_false, Bool.and_false]
theorem badV_self (l : List Int) (a : SaidD) : badV l a a = false := by
  unfold badV
  rw [beq_self_eq_true a.2.1.toList]
  simp
def okV (w : WorldD) (i k : Nat) : Bool := !badV w.2.1 (w.2.2.2.2.getD i d0Said) (w.2.2.2.2.getD k d0Said)
def votesOk (w : WorldD) : Bool := worldOk w && (List.range w.2.2.2.2.length).all fun i => (List.range w.2.2.2.2.length).all (okV w i)
theorem votes_pairs (w : WorldD) : ((List.range w.2.2.2.2.length).all fun i => (List.range i).all (okV w i)) = (List.range w.2.2.2.2.length).all fun i => (List.range w.2.2.2.2.length).all (okV w i) :=
  all_pairs (fun i k _ _ => by unfold okV; rw [badV_comm]) (fun i _ => by unfold okV; rw [badV_self]; rfl)
theorem votes_step {β : Type} (h e1 e2 e3 : Bool) (x y : β) : br (!h) (br e1 (br e2 (br (!e3) x y) y) y) y = if (!(!h && (e1 && (e2 && !e3)))) = true then y else x := by
  cases h <;> cases e1 <;> cases e2 <;> cases e3 <;> rfl
theorem votes_in {w : WorldD} (h : WorldL w) {γ : Type} (κ : Ex → St → Option γ) (n : Nat) {i : Nat} (hi : i < w.2.2.2.2.length) : spec_JudgeVotes_2 F0 (spec_JudgeVotes_2_k F0 κ n) F0.n (spec_JudgeVotes_2_s w (i : Int) 0) =
    if (List.range i).all (okV w i) = true then spec_JudgeVotes_1 F0 κ n (spec_JudgeVotes_1_s w ((i + 1 : Nat) : Int)) else κ .ret (spec_JudgeVotes_1_r false) := by
  have hs := h.s
  have hl := h.l
  refine all_to (fun m k => spec_JudgeVotes_2 F0 (spec_JudgeVotes_2_k F0 κ n) m (spec_JudgeVotes_2_s w (i : Int) k)) i (okV w i) _ _ (fun m k hk => ?_) (fun m => ?_) _ (by rw [n_eq]; omega)
  · have hk' : k < w.2.2.2.2.length := by omega
    rw [spec_JudgeVotes_2_step, dec_lt hk, br_true, okI_nat hi, ck_true, okI_nat hk', ck_true, at_isD hi, at_isD hk', SetHas_law (by omega), bnd, spec_JudgeVotes_2_cr, w64_succ (by omega)]
    dsimp only
    rw [votes_step]
    unfold okV badV
    rw [getD_is hi, getD_is hk']
  · rw [spec_JudgeVotes_2_step, dec_nlt, br_false, spec_JudgeVotes_2_ce2, w64_succ (by omega)]
theorem JudgeVotes_law {w : WorldD} (h : WorldL w) : spec_JudgeVotes F0 w = some (votesOk w, ()) := by
  have hs := h.s
  rw [spec_JudgeVotes_eq, WorldOk_law h, bnd, all_to (fun m k => spec_JudgeVotes_1 F0 (spec_JudgeVotes_1_k F0) m (spec_JudgeVotes_1_s w k)) w.2.2.2.2.length (fun i => (List.range i).all (okV w i)) (some (true, ())) (some (false, ())) (fun m k hk => ?_) (fun m => ?_) _ (by rw [n_eq]; omega), ite_some, votes_pairs]
  · unfold votesOk
    cases worldOk w <;> rfl
  · rw [spec_JudgeVotes_1_step, dec_lt hk, br_true, votes_in h _ _ hk, spec_JudgeVotes_1_cr]
  · rw [spec_JudgeVotes_1_step, dec_nlt, br_false, spec_JudgeVotes_1_ce0]
theorem votes_in2 {w : WorldD} (h : WorldL w) {γ : Type} (κ : Ex → St → Option γ) (n : Nat) {i : Nat} (hi : i < w.2.2.2.2.length) :
    impl_JudgeVotes_2 F0 (impl_JudgeVotes_2_k F0 κ n) F0.n (impl_JudgeVotes_2_s w.2.2.2.2 (w.2.2.2.2.length : Int) (i : Int) w.2.2.2.2 (w.2.2.2.2.length : Int) 0 w.1.1 w.1.2 w.2.1 w.2.2.1 w.2.2.2.1 w.2.2.2.2 (w.2.2.2.2[i]).1 (w.2.2.2.2[i]).2.1 (w.2.2.2.2[i]).2.2) =
    if (List.range w.2.2.2.2.length).all (okV w i) = true then impl_JudgeVotes_1 F0 κ n (impl_JudgeVotes_1_s w.2.2.2.2 (w.2.2.2.2.length : Int) ((i + 1 : Nat) : Int) w.1.1 w.1.2 w.2.1 w.2.2.1 w.2.2.2.1 w.2.2.2.2) else κ .ret (impl_JudgeVotes_1_r false) := by
  have hs := h.s
  have hl := h.l
  refine all_to (fun m k => impl_JudgeVotes_2 F0 (impl_JudgeVotes_2_k F0 κ n) m (impl_JudgeVotes_2_s w.2.2.2.2 (w.2.2.2.2.length : Int) (i : Int) w.2.2.2.2 (w.2.2.2.2.length : Int) k w.1.1 w.1.2 w.2.1 w.2.2.1 w.2.2.2.1 w.2.2.2.2 (w.2.2.2.2[i]).1 (w.2.2.2.2[i]).2.1 (w.2.2.2.2[i]).2.2)) w.2.2.2.2.length (okV w i) _ _ (fun m k hk => ?_) (fun m => ?_) _ (by rw [n_eq]; omega)
  · rw [impl_JudgeVotes_2_step, dec_lt hk, br_true, okI_nat hk, ck_true, at_isD hk, SetHas_law2 (by omega), bnd, impl_JudgeVotes_2_cr, w64_succ (by omega)]
    dsimp only
    rw [votes_step]
    unfold okV badV
    rw [getD_is hi, getD_is hk]
  · rw [impl_JudgeVotes_2_step, dec_nlt, br_false, impl_JudgeVotes_2_ce2, w64_succ (by omega)]
theorem JudgeVotes_law2 {w : WorldD} (h : WorldL w) : impl_JudgeVotes F0 w = some (votesOk w, ()) := by
  have hs := h.s
  rw [impl_JudgeVotes_eq, WorldOk_law2 h, bnd, all_to (fun m k => impl_JudgeVotes_1 F0 (impl_JudgeVotes_1_k F0) m (impl_JudgeVotes_1_s w.2.2.2.2 (w.2.2.2.2.length : Int) k w.1.1 w.1.2 w.2.1 w.2.2.1 w.2.2.2.1 w.2.2.2.2)) w.2.2.2.2.length (fun i => (List.range w.2.2.2.2.length).all (okV w i)) (some (true, ())) (some (false, ())) (fun m k hk => ?_) (fun m => ?_) _ (by rw [n_eq]; omega), ite_some]
  · unfold votesOk
    cases worldOk w <;> rfl
  · rw [impl_JudgeVotes_1_step, dec_lt hk, br_true, okI_nat hk, ck_true, at_isD hk, votes_in2 h _ _ hk, impl_JudgeVotes_1_cr]
  · rw [impl_JudgeVotes_1_step, dec_nlt, br_false, impl_JudgeVotes_1_ce0]
/-! ### Who is honest -/
def honestTo (l : List Int) : Nat → List Int
  | 0 => []
  | k + 1 => honestTo l k ++ if (k : Int) ∈ l then [] else [(k : Int)]
theorem honest_len (l : List Int) : ∀ k, (honestTo l k).length ≤ k
  | 0 => Nat.le_refl _
  | k + 1 => by
    have := honest_len l k
    unfold honestTo
    split
    · rw [List.append_nil]
      omega
    · rw [List.length_append, List.length_singleton]
      omega
theorem honest_in (l : List Int) : ∀ k, ∀ x ∈ honestTo l k, 0 ≤ x ∧ x < k
  | 0, x, h => by cases h
  | k + 1, x, h => by
    unfold honestTo at h
    rcases List.mem_append.1 h with h1 | h1
    · have := honest_in l k x h1
      omega
    · split at h1
      · cases h1
      · rw [List.mem_singleton.1 h1]
        omega
def honestL (w : WorldD) : List Int := honestTo w.2.1 w.2.2.1.length
theorem honest_step {β : Type} (X : List Int → β) (l xs : List Int) (k : Int) : br (!decide (k ∈ l)) (X (xs ++ [k])) (X xs) = X (xs ++ if k ∈ l then [] else [k]) := by
  by_cases h : k ∈ l
  · rw [decide_eq_true h, if_pos h, List.append_nil]
    rfl
  · rw [decide_eq_false h, if_neg h]
    rfl
theorem Honest_law {w : WorldD} (h : WorldL w) : spec_Honest F0 w = some (honestL w, ()) := by
  have hr := h.r
  have hl := h.l
  rw [spec_Honest_eq]
  refine loop_to (fun n i (xs : List Int) => spec_Honest_1 F0 (spec_Honest_1_k F0) n (spec_Honest_1_s i w.1.1 w.1.2 w.2.1 w.2.2.1 w.2.2.2.1 w.2.2.2.2 xs)) w.2.2.1.length (fun k xs => xs = honestTo w.2.1 k) _ (fun n k xs hk hx => .inr ⟨honestTo w.2.1 (k + 1), ?_, rfl⟩) (fun n xs hx => ?_) _ 0 [] (Nat.zero_le _) rfl (by rw [n_eq]; omega)
  · have hn := honest_len w.2.1 k
    rw [← hx] at hn
    rw [spec_Honest_1_step, dec_lt hk, br_true, SetHas_law (by omega), bnd, okA_le (by omega) (by omega) (by rw [List.length_singleton]; omega), ck_true, w64_succ (by omega)]
    dsimp only
    rw [honest_step (fun xs => spec_Honest_1 F0 (spec_Honest_1_k F0) n (spec_Honest_1_s ((k + 1 : Nat) : Int) w.1.1 w.1.2 w.2.1 w.2.2.1 w.2.2.2.1 w.2.2.2.2 xs)), hx]
    rfl
  · rw [spec_Honest_1_step, dec_nlt, br_false, spec_Honest_1_ce0, hx]
    rfl
theorem Honest_law2 {w : WorldD} (h : WorldL w) : impl_Honest F0 w = some (honestL w, ()) := by
  have hr := h.r
  have hl := h.l
  rw [impl_Honest_eq]
  refine loop_to (fun n i (xs : List Int) => impl_Honest_1 F0 (impl_Honest_1_k F0) n (impl_Honest_1_s (w.2.2.1.length : Int) i w.1.1 w.1.2 w.2.1 w.2.2.1 w.2.2.2.1 w.2.2.2.2 xs)) w.2.2.1.length (fun k xs => xs = honestTo w.2.1 k) _ (fun n k xs hk hx => .inr ⟨honestTo w.2.1 (k + 1), ?_, rfl⟩) (fun n xs hx => ?_) _ 0 [] (Nat.zero_le _) rfl (by rw [n_eq]; omega)
  · have hn := honest_len w.2.1 k
    rw [← hx] at hn
    rw [impl_Honest_1_step, dec_lt hk, br_true, SetHas_law2 (by omega), bnd, okA_le (by omega) (by omega) (by rw [List.length_singleton]; omega), ck_true, w64_succ (by omega)]
    dsimp only
    rw [honest_step (fun xs => impl_Honest_1 F0 (impl_Honest_1_k F0) n (impl_Honest_1_s (w.2.2.1.length : Int) ((k + 1 : Nat) : Int) w.1.1 w.1.2 w.2.1 w.2.2.1 w.2.2.2.1 w.2.2.2.2 xs)), hx]
    rfl
  · rw [impl_Honest_1_step, dec_nlt, br_false, impl_Honest_1_ce0, hx]
    rfl
/-! ### The longest -/
/-- The honest ones' numbers as places. -/
theorem honest_at {w : WorldD} {k : Nat} (hk : k < (honestL w).length) : ∃ j : Nat, (honestL w)[k] = (j : Int) ∧ j < w.2.2.1.length := by
  have := honest_in w.2.1 w.2.2.1.length _ (List.getElem_mem hk)
  exact ⟨(honestL w)[k].toNat, by show _ = (((honestL w)[k]).toNat : Int); have h0 : 0 ≤ (honestL w)[k] := this.1; omega, by have h0 : 0 ≤ (honestL w)[k] := this.1; have h1 : (honestL w)[k] < w.2.2.1.length := this.2; omega⟩
def doneOf (w : WorldD) (x : Int) : ByteArray := (w.2.2.1.getD x.toNat d0Rep).2.2.2.1.2.2.2
/-! ### Chains that meet -/
def extD (s t : ByteArray) : Bool := nameOk s.data.toList && (nameOk t.data.toList && (decide ((s.size : Int) ≥ (t.size : Int)) && (((s.extract 0 t.size).toList == t.toList) && (((s.size : Int) == (t.size : Int)) || (byteAt s (t.size : Int) == 47)))))
theorem Extends_law {s t : ByteArray} (hs : s.size ≤ 1048576) (ht : t.size ≤ 1048576) : spec_Extends F0 s t = some (extD s t, ()) := by
  rw [spec_Extends_eq, NameOk_at hs, bnd, NameOk_at ht, bnd]
  unfold extD
  dsimp only
  cases nameOk s.data.toList <;> cases nameOk t.data.toList <;> try rfl
  rw [Bool.not_true, br_false, br_false, Bool.true_and, Bool.true_and]
  by_cases hz : t.size ≤ s.size
  · rw [decide_eq_false (show ¬ (t.size : Int) > (s.size : Int) by omega), br_false, decide_eq_true (show (s.size : Int) ≥ (t.size : Int) by omega), Bool.true_and, okS0 hz, ck_true, Int.toNat_natCast, show (0 : Int).toNat = 0 from rfl]
    cases ((s.extract 0 t.size).toList == t.toList) <;> try rfl
    rw [Bool.not_true, br_false, Bool.true_and]
    by_cases he : (s.size : Int) = (t.size : Int)
    · rw [show ((s.size : Int) == (t.size : Int)) = true from beq_iff_eq.2 he]
      rfl
    · rw [beq_eq_false_iff_ne.2 he, br_false, okI_nat (by omega), ck_true]
      rfl
  · rw [decide_eq_true (show (t.size : Int) > (s.size : Int) by omega), br_true, decide_eq_false (show ¬ (s.size : Int) ≥ (t.size : Int) by omega)]
    rfl
theorem Extends_law2 {s t : ByteArray} (hs : s.size ≤ 1048576) (ht : t.size ≤ 1048576) : impl_Extends F0 s t = some (extD s t, ()) := by
  rw [impl_Extends_eq, NameOk_at2 hs, bnd, NameOk_at2 ht, bnd, strings_HasPrefix_eq, stringslite_HasPrefix_eq]
  unfold extD
  dsimp only
  cases nameOk s.data.toList <;> cases nameOk t.data.toList <;> try rfl
  rw [br_true, br_true, Bool.true_and, Bool.true_and]
  by_cases hz : t.size ≤ s.size
  · rw [decide_eq_true (show (s.size : Int) ≥ (t.size : Int) by omega), Bool.true_and, br_true, okS0 hz, ck_true, Int.toNat_natCast, show (0 : Int).toNat = 0 from rfl, bnd, bnd]
    dsimp only
    cases ((s.extract 0 t.size).toList == t.toList) <;> try rfl
    rw [br_true, Bool.true_and]
    by_cases he : (s.size : Int) = (t.size : Int)
    · rw [show ((s.size : Int) == (t.size : Int)) = true from beq_iff_eq.2 he]
      rfl
    · rw [beq_eq_false_iff_ne.2 he, br_false, okI_nat (by omega), ck_true]
      rfl
  · rw [decide_eq_false (show ¬ (s.size : Int) ≥ (t.size : Int) by omega)]
    rfl
def meetD (s t : ByteArray) : Bool := extD s t || extD t s
theorem Meets_law {s t : ByteArray} (hs : s.size ≤ 1048576) (ht : t.size ≤ 1048576) : spec_Meets F0 s t = some (meetD s t, ()) := by
  rw [spec_Meets_eq, Extends_law hs ht, bnd, Extends_law ht hs, bnd]
  unfold meetD
  cases extD s t <;> rfl
theorem Meets_law2 {s t : ByteArray} (hs : s.size ≤ 1048576) (ht : t.size ≤ 1048576) : impl_Meets F0 s t = some (meetD s t, ()) := by
  rw [impl_Meets_eq, Extends_law2 hs ht, bnd, Extends_law2 ht hs, bnd]
  unfold meetD
  cases extD s t <;> rfl
theorem meetD_comm (s t : ByteArray) : meetD s t = meetD t s := Bool.or_comm _ _
theorem extract_all (s : ByteArray) : s.extract 0 s.size = s := by
  have := extract_mid s.data.toList 0 s.data.toList.length
  rw [List.drop_zero, Nat.sub_zero, List.take_length] at this
  exact this
theorem meetD_self {s : ByteArray} (h : nameOk s.data.toList = true) : meetD s s = true := by
  unfold meetD extD
  rw [h, extract_all, beq_self_eq_true, beq_self_eq_true, decide_eq_true (show (s.size : Int) ≥ (s.size : Int) by omega)]
  rfl
end Go.Am.Tryz
