/- Plain laws: who is honest; votes judged; the longest; the laws of JudgeVotes, Top. No condition. -/
import Derived.Test.YtkkgagllehdhhaaGreatDoorZkLawShow
set_option linter.unusedVariables false
set_option linter.unusedSimpArgs false
namespace Go.Am.Tryz
open Go.Am
theorem all_pairs {n : Nat} {q : Nat → Nat → Bool} (hs : ∀ i k, i < n → k < n → q i k = q k i) (hd : ∀ i, i < n → q i i = true) : ((List.range n).all fun i => (List.range i).all (q i)) = (List.range n).all fun i => (List.range n).all (q i) := by
  rw [Bool.eq_iff_iff]
  simp only [List.all_eq_true, List.mem_range]
  constructor
  · intro h i hi k hk
    rcases Nat.lt_trichotomy i k with hlt | heq | hgt
    · rw [hs i k hi hk]
      exact h k hk i hlt
    · subst heq
      exact hd i hi
    · exact h i hi k hgt
  · intro h i hi k hk
    exact h i hi k (by omega)
/-! ### Votes -/
def badV (l : List Int) (a b : SaidD) : Bool := !decide (a.2.2 ∈ l) && ((a.2.2 == b.2.2) && ((a.1 == b.1) && !(a.2.1.toList == b.2.1.toList)))
theorem badV_comm (l : List Int) (a b : SaidD) : badV l a b = badV l b a := by
  unfold badV
  rw [BEq.comm (a := b.2.2), BEq.comm (a := b.1), BEq.comm (a := b.2.1.toList)]
  by_cases h : a.2.2 = b.2.2
  · rw [h]
  · rw [beq_eq_false_iff_ne.2 h, Bool.false_and, Bool.and_false, Bool.and_false]
theorem badV_self (l : List Int) (a : SaidD) : badV l a a = false := by
  unfold badV
  rw [beq_self_eq_true a.2.1.toList]
  simp
def okV (w : WorldD) (i k : Nat) : Bool := !badV w.2.1 (w.2.2.2.2.getD i d0Said) (w.2.2.2.2.getD k d0Said)
def votesOk (w : WorldD) : Bool := worldOk w && (List.range w.2.2.2.2.length).all fun i => (List.range w.2.2.2.2.length).all (okV w i)
theorem votes_pairs (w : WorldD) : ((List.range w.2.2.2.2.length).all fun i => (List.range i).all (okV w i)) = (List.range w.2.2.2.2.length).all fun i => (List.range w.2.2.2.2.length).all (okV w i) :=
  all_pairs (fun i k _ _ => by unfold okV; rw [badV_comm]) (fun i _ => by unfold okV; rw [badV_self]; rfl)
theorem votes_step {β : Type} (h e1 e2 e3 : Bool) (x y : β) : br (!h) (br e1 (br e2 (br (!e3) x y) y) y) y = if (!(!h && (e1 && (e2 && !e3)))) = true then y else x := by
  cases h <;> cases e1 <;> cases e2 <;> cases e3 <;> rfl
/-! ### Who is honest -/
def honestTo (l : List Int) : Nat → List Int
  | 0 => []
  | k + 1 => honestTo l k ++ if (k : Int) ∈ l then [] else [(k : Int)]
theorem honest_len (l : List Int) : ∀ k, (honestTo l k).length ≤ k
  | 0 => Nat.le_refl _
  | k + 1 => by
    have := honest_len l k
    unfold honestTo
    split
    · rw [List.append_nil]
      omega
    · rw [List.length_append, List.length_singleton]
      omega
theorem honest_in (l : List Int) : ∀ k, ∀ x ∈ honestTo l k, 0 ≤ x ∧ x < k
  | 0, x, h => by cases h
  | k + 1, x, h => by
    unfold honestTo at h
    rcases List.mem_append.1 h with h1 | h1
    · have := honest_in l k x h1
      omega
    · split at h1
      · cases h1
      · rw [List.mem_singleton.1 h1]
        omega
def honestL (w : WorldD) : List Int := honestTo w.2.1 w.2.2.1.length
theorem honest_step {β : Type} (X : List Int → β) (l xs : List Int) (k : Int) : br (!decide (k ∈ l)) (X (xs ++ [k])) (X xs) = X (xs ++ if k ∈ l then [] else [k]) := by
  by_cases h : k ∈ l
  · rw [decide_eq_true h, if_pos h, List.append_nil]
    rfl
  · rw [decide_eq_false h, if_neg h]
    rfl
theorem Honest_law {w : WorldD} (h : WorldL w) : spec_Honest F0 w = some (honestL w, ()) := by
  have hr := h.r
  have hl := h.l
  rw [spec_Honest_eq]
  refine loop_to (fun n i (xs : List Int) => spec_Honest_1 F0 (spec_Honest_1_k F0) n (spec_Honest_1_s i w.1.1 w.1.2 w.2.1 w.2.2.1 w.2.2.2.1 w.2.2.2.2 xs)) w.2.2.1.length (fun k xs => xs = honestTo w.2.1 k) _ (fun n k xs hk hx => .inr ⟨honestTo w.2.1 (k + 1), ?_, rfl⟩) (fun n xs hx => ?_) _ 0 [] (Nat.zero_le _) rfl (by rw [n_eq]; omega)
  · have hn := honest_len w.2.1 k
    rw [← hx] at hn
    rw [spec_Honest_1_step, dec_lt hk, br_true, SetHas_law (by omega), bnd, okA_le (by omega) (by omega) (by rw [List.length_singleton]; omega), ck_true, w64_succ (by omega)]
    dsimp only
    rw [honest_step (fun xs => spec_Honest_1 F0 (spec_Honest_1_k F0) n (spec_Honest_1_s ((k + 1 : Nat) : Int) w.1.1 w.1.2 w.2.1 w.2.2.1 w.2.2.2.1 w.2.2.2.2 xs)), hx]
    rfl
  · rw [spec_Honest_1_step, dec_nlt, br_false, spec_Honest_1_ce0, hx]
    rfl
theorem Honest_law2 {w : WorldD} (h : WorldL w) : impl_Honest F0 w = some (honestL w, ()) := by
  have hr := h.r
  have hl := h.l
  rw [impl_Honest_eq]
  refine loop_to (fun n i (xs : List Int) => impl_Honest_1 F0 (impl_Honest_1_k F0) n (impl_Honest_1_s (w.2.2.1.length : Int) i w.1.1 w.1.2 w.2.1 w.2.2.1 w.2.2.2.1 w.2.2.2.2 xs)) w.2.2.1.length (fun k xs => xs = honestTo w.2.1 k) _ (fun n k xs hk hx => .inr ⟨honestTo w.2.1 (k + 1), ?_, rfl⟩) (fun n xs hx => ?_) _ 0 [] (Nat.zero_le _) rfl (by rw [n_eq]; omega)
  · have hn := honest_len w.2.1 k
    rw [← hx] at hn
    rw [impl_Honest_1_step, dec_lt hk, br_true, SetHas_law2 (by omega), bnd, okA_le (by omega) (by omega) (by rw [List.length_singleton]; omega), ck_true, w64_succ (by omega)]
    dsimp only
    rw [honest_step (fun xs => impl_Honest_1 F0 (impl_Honest_1_k F0) n (impl_Honest_1_s (w.2.2.1.length : Int) ((k + 1 : Nat) : Int) w.1.1 w.1.2 w.2.1 w.2.2.1 w.2.2.2.1 w.2.2.2.2 xs)), hx]
    rfl
  · rw [impl_Honest_1_step, dec_nlt, br_false, impl_Honest_1_ce0, hx]
    rfl
/-! ### The longest -/
/-- The honest ones' numbers as places. -/
theorem honest_at {w : WorldD} {k : Nat} (hk : k < (honestL w).length) : ∃ j : Nat, (honestL w)[k] = (j : Int) ∧ j < w.2.2.1.length := by
  have := honest_in w.2.1 w.2.2.1.length _ (List.getElem_mem hk)
  exact ⟨(honestL w)[k].toNat, by show _ = (((honestL w)[k]).toNat : Int); have h0 : 0 ≤ (honestL w)[k] := this.1; omega, by have h0 : 0 ≤ (honestL w)[k] := this.1; have h1 : (honestL w)[k] < w.2.2.1.length := this.2; omega⟩
def doneOf (w : WorldD) (x : Int) : ByteArray := (w.2.2.1.getD x.toNat d0Rep).2.2.2.1.2.2.2
def higher (a b : ByteArray) : ByteArray := if heightOf a.data.toList > heightOf b.data.toList then a else b
def topTo (w : WorldD) (l : List Int) : ByteArray := l.foldl (fun out x => higher (doneOf w x) out) (ByteArray.mk #[])
theorem topTo_size {w : WorldD} (h : WorldL w) : ∀ {l : List Int}, (∀ x ∈ l, 0 ≤ x ∧ x < w.2.2.1.length) → ∀ (out : ByteArray), out.size ≤ 1048576 → (l.foldl (fun out x => higher (doneOf w x) out) out).size ≤ 1048576
  | [], _, _, ho => ho
  | x :: l, hl, out, ho => by
    refine topTo_size h (l := l) (fun y hy => hl y (List.mem_cons_of_mem _ hy)) _ ?_
    show (higher (doneOf w x) out).size ≤ 1048576
    unfold higher
    split
    · have hx := hl x List.mem_cons_self
      have hj : x.toNat < w.2.2.1.length := by omega
      unfold doneOf
      rw [getD_is hj]
      exact (h.rl _ (List.getElem_mem hj)).s.2
    · exact ho
def topOf (w : WorldD) : ByteArray := if worldOk w = true then topTo w (honestL w) else ByteArray.mk #[]
theorem top_step {β : Type} (X : ByteArray → β) (a b : ByteArray) : br (decide (heightOf a.data.toList > heightOf b.data.toList)) (X a) (X b) = X (higher a b) := by
  unfold higher
  by_cases h : heightOf a.data.toList > heightOf b.data.toList
  · rw [decide_eq_true h, if_pos h]
    rfl
  · rw [decide_eq_false h, if_neg h]
    rfl
theorem topTo_snoc (w : WorldD) (l : List Int) (x : Int) : topTo w (l ++ [x]) = higher (doneOf w x) (topTo w l) := by
  unfold topTo
  rw [List.foldl_append]
  rfl
/-! ### Chains that meet -/
def extD (s t : ByteArray) : Bool := nameOk s.data.toList && (nameOk t.data.toList && (decide ((s.size : Int) ≥ (t.size : Int)) && (((s.extract 0 t.size).toList == t.toList) && (((s.size : Int) == (t.size : Int)) || (byteAt s (t.size : Int) == 47)))))
def meetD (s t : ByteArray) : Bool := extD s t || extD t s
theorem meetD_comm (s t : ByteArray) : meetD s t = meetD t s := Bool.or_comm _ _
theorem extract_all (s : ByteArray) : s.extract 0 s.size = s := by
  have := extract_mid s.data.toList 0 s.data.toList.length
  rw [List.drop_zero, Nat.sub_zero, List.take_length] at this
  exact this
theorem meetD_self {s : ByteArray} (h : nameOk s.data.toList = true) : meetD s s = true := by
  unfold meetD extD
  rw [h, extract_all, beq_self_eq_true, beq_self_eq_true, decide_eq_true (show (s.size : Int) ≥ (s.size : Int) by omega)]
  rfl
end Go.Am.Tryz
