/- Plain laws: lists of payments, chains out of texts. No condition. -/
import Derived.Test.YtmmajfbohkbpjaaPaLawSplit
set_option linter.unusedVariables false
set_option linter.unusedSimpArgs false
namespace Go.Am.Try
open Go.Am
theorem splitB_parts (c : UInt8) : ∀ (n : Nat) (l : List UInt8), l.length ≤ n → ∀ k, k = Lib.countB (tx l) (tx [c]) → Lib.splitB (tx [c]) 0 k (tx l) = (parts c l).map tx := by
  intro n
  induction n with
  | zero =>
    intro l hl k hk
    obtain rfl : l = [] := List.eq_nil_of_length_eq_zero (by omega)
    have hi : Lib.indexB (tx []) (tx [c]) = -1 := by
      show Lib.index (tx []).data.toList (tx [c]).data.toList = -1
      rw [tx_list, tx_list, Lib.index_one]
      rfl
    rw [Lib.splitB_miss _ _ _ _ hi]
    rfl
  | succ n ih =>
    intro l hl k hk
    by_cases h : c ∈ l
    · obtain ⟨a, b, rfl, h2⟩ := exists_first h
      have hi : Lib.indexB (tx (a ++ c :: b)) (tx [c]) = (a.length : Int) := by
        show Lib.index (tx (a ++ c :: b)).data.toList (tx [c]).data.toList = _
        rw [tx_list, tx_list, Lib.index_one, indexByte_at h2]
      have hsz : (tx [c]).size = 1 := tx_size [c]
      have hext : (tx (a ++ c :: b)).extract (a.length + (tx [c]).size) (tx (a ++ c :: b)).size = tx b := by
        rw [extract_from, hsz]
        congr 1
        simp [List.drop_append]
      have hcnt := Lib.countB_hit (tx (a ++ c :: b)) (tx [c]) a.length (by rw [hsz]; omega) hi
      rw [hext] at hcnt
      obtain ⟨k', rfl⟩ : ∃ k', k = k' + 1 := ⟨Lib.countB (tx b) (tx [c]), by omega⟩
      rw [Lib.splitB_hit _ _ _ _ _ hi, hext, ih b (by simp only [List.length_append, List.length_cons] at hl; omega) k' (by omega), parts_at h2, Nat.add_zero, extract_to]
      simp [List.take_append]
    · have hi : Lib.indexB (tx l) (tx [c]) = -1 := by
        show Lib.index (tx l).data.toList (tx [c]).data.toList = -1
        rw [tx_list, tx_list, Lib.index_one, indexByte_no h]
      rw [Lib.splitB_miss _ _ _ _ hi, parts_no h]
      rfl
/-! ### Lists gathered, all or none -/
def allF {σ β : Type} (f : σ → List UInt8 → Option (σ × β)) : σ → List (List UInt8) → Option (List β)
  | _, [] => some []
  | s, p :: ps => match f s p with
    | none => none
    | some (s', b) => match allF f s' ps with
      | none => none
      | some r => some (b :: r)
theorem fold_loop {σ β γ : Type} (f : σ → List UInt8 → Option (σ × β)) (I : σ → Prop) (P : List (List UInt8)) (X : Nat → σ → Int → List β → Option γ) (R0 : Option γ) (R1 : List β → Option γ)
    (hs : ∀ n k s xs p, k < P.length → P[k]? = some p → I s → xs.length = k → X (n + 1) s (k : Int) xs = match f s p with | none => R0 | some (s', b) => X n s' ((k + 1 : Nat) : Int) (xs ++ [b]))
    (he : ∀ n s xs, xs.length = P.length → X (n + 1) s (P.length : Int) xs = R1 xs) (hI : ∀ s p s' b, I s → f s p = some (s', b) → I s') :
    ∀ (n k : Nat) (s : σ) (xs : List β), k ≤ P.length → P.length - k < n → I s → xs.length = k → X n s (k : Int) xs = match allF f s (P.drop k) with | none => R0 | some l => R1 (xs ++ l)
  | 0, _, _, _, _, h, _, _ => absurd h (Nat.not_lt_zero _)
  | n + 1, k, s, xs, hk, hn, hIs, hx => by
    rcases Nat.lt_or_ge k P.length with hlt | hge
    · have hp : P[k]? = some P[k] := List.getElem?_eq_getElem hlt
      rw [hs n k s xs P[k] hlt hp hIs hx, List.drop_eq_getElem_cons hlt]
      simp only [allF]
      cases hf : f s P[k] with
      | none => rfl
      | some q =>
        obtain ⟨s', b⟩ := q
        simp only
        rw [fold_loop f I P X R0 R1 hs he hI n (k + 1) s' (xs ++ [b]) hlt (by omega) (hI _ _ _ _ hIs hf) (by simp [hx])]
        cases allF f s' (P.drop (k + 1)) with
        | none => rfl
        | some r => simp
    · obtain rfl : k = P.length := by omega
      rw [he n s xs hx, List.drop_length]
      simp [allF]
theorem allF_len {σ β : Type} {f : σ → List UInt8 → Option (σ × β)} : ∀ {P : List (List UInt8)} {s : σ} {r : List β}, allF f s P = some r → r.length = P.length
  | [], _, r, h => by cases h; rfl
  | p :: ps, s, r, h => by
    simp only [allF] at h
    split at h
    · cases h
    · split at h
      · cases h
      · rename_i hr
        cases h
        simp [allF_len hr]
theorem allF_all {σ β : Type} {f : σ → List UInt8 → Option (σ × β)} {Q : β → Prop} (hQ : ∀ s p s' b, f s p = some (s', b) → Q b) : ∀ {P : List (List UInt8)} {s : σ} {r : List β}, allF f s P = some r → ∀ b ∈ r, Q b
  | [], _, r, h => by cases h; simp
  | p :: ps, s, r, h => by
    simp only [allF] at h
    split at h
    · cases h
    · rename_i hf
      split at h
      · cases h
      · rename_i hr
        cases h
        intro b hb
        rcases List.mem_cons.1 hb with rfl | hb
        · exact hQ _ _ _ _ hf
        · exact allF_all hQ hr b hb
/-! ### Payments -/
def txF (_ : Unit) (p : List UInt8) : Option (Unit × TxD) := if (txOf p).2 = true then some ((), (txOf p).1) else none
def txsOf (l : List UInt8) : List TxD × Bool := if l = [] then ([], true) else match allF txF () (parts 44 l) with | none => ([], false) | some r => (r, true)
theorem txsOf_len (l : List UInt8) : (txsOf l).1.length ≤ l.length + 1 := by
  unfold txsOf
  split
  · simp
  · split
    · simp
    · rename_i r hr
      have := allF_len hr
      have := parts_len 44 l
      simp only
      omega
theorem txsOf_ok (l : List UInt8) : ∀ x ∈ (txsOf l).1, txOk x = true := by
  unfold txsOf
  split
  · simp
  · split
    · simp
    · rename_i r hr
      refine allF_all (Q := fun x => txOk x = true) (fun s p s' b h => ?_) hr
      unfold txF at h
      split at h
      · cases h
        exact txOf_i64 p
      · cases h
theorem nil_eq (l : List UInt8) : ((tx l).toList == (ByteArray.mk #[]).toList) = decide (l = []) := tl_eq l []
theorem at_map (P : List (List UInt8)) (k : Nat) {p : List UInt8} (h : P[k]? = some p) : at_ (P.map tx) (k : Int) ByteArray.empty = tx p := by
  show (P.map tx).getD k ByteArray.empty = _
  simp [List.getD_eq_getElem?_getD, h]
theorem TxsOf_law {l : List UInt8} (hl : l.length ≤ 1073741824) : spec_TxsOf F0 (tx l) = some ((txsOf l).1, (txsOf l).2, ()) := by
  have hpl := parts_len 44 l
  rw [spec_TxsOf_eq, nil_eq]
  unfold txsOf
  by_cases h0 : l = []
  · rw [decide_eq_true h0, if_pos h0]
    rfl
  · rw [decide_eq_false h0, br_false, if_neg h0, show spec_Split F0 (tx l) 44 = _ from Split_law 44 (by omega), bnd]
    have := fold_loop txF (fun _ => True) (parts 44 l) (fun n _ i xs => spec_TxsOf_1 F0 (spec_TxsOf_1_k F0) n (spec_TxsOf_1_s i xs ((parts 44 l).map tx))) (some ([], false, ())) (fun xs => some (xs, true, ())) (fun n k s xs p hk hp _ hx => ?_) (fun n s xs hx => ?_) (fun _ _ _ _ _ _ => trivial) F0.n 0 () [] (Nat.zero_le _) (by rw [n_eq]; omega) trivial rfl
    · simp only [List.drop_zero, List.nil_append] at this
      rw [show ((0 : Nat) : Int) = 0 from rfl] at this
      rw [this]
      cases allF txF () (parts 44 l) <;> rfl
    · have hpm := parts_mem (List.mem_of_getElem? hp)
      rw [spec_TxsOf_1_step, List.length_map, dec_lt hk, br_true, okI_nat hk, ck_true, at_map _ _ hp, TxOf_law (by omega), bnd]
      unfold txF
      cases hok : (txOf p).2 with
      | false => simp only [Bool.not_false, br_true, spec_TxsOf_1_cr]; rfl
      | true =>
        simp only [Bool.not_true, br_false]
        rw [okA_le (b := [(txOf p).1].length) (k := 32) (by omega) (by omega) (by simp only [List.length_cons, List.length_nil]; omega), ck_true, w64_succ (by omega)]
        rfl
    · rw [spec_TxsOf_1_step, List.length_map, dec_nlt, br_false, spec_TxsOf_1_ce0]
end Go.Am.Try
