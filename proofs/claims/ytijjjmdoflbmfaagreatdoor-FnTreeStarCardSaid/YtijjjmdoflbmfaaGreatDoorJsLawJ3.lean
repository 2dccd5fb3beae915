/- Plain laws. No condition. -/
import Derived.Test.YtijjjmdoflbmfaaGreatDoorJsLawJ2
set_option linter.unusedVariables false
set_option linter.unusedSimpArgs false
namespace Go.Am.Tryz
open Go.Am
/-! ### Rising rows -/
def Srt (l : List Int) : Prop := l.Pairwise (· < ·)
theorem insL_mem {i x : Int} : ∀ {l : List Int}, x ∈ insL i l ↔ x = i ∨ x ∈ l
  | [] => by simp [insL]
  | y :: l => by
    unfold insL
    split
    · rw [List.mem_cons]
    · rw [List.mem_cons, insL_mem, List.mem_cons]
      constructor
      · rintro (h | h | h)
        · exact .inr (.inl h)
        · exact .inl h
        · exact .inr (.inr h)
      · rintro (h | h | h)
        · exact .inr (.inl h)
        · exact .inl h
        · exact .inr (.inr h)
theorem insL_srt {i : Int} : ∀ {l : List Int}, Srt l → i ∉ l → Srt (insL i l)
  | [], _, _ => List.pairwise_singleton _ _
  | y :: l, h, hi => by
    obtain ⟨h1, h2⟩ := List.pairwise_cons.1 h
    have hy : i ≠ y := fun e => hi (e ▸ List.mem_cons_self)
    unfold insL
    split
    · rename_i hlt
      refine List.pairwise_cons.2 ⟨fun z hz => ?_, h⟩
      rcases List.mem_cons.1 hz with rfl | hz
      · omega
      · have := h1 z hz
        omega
    · rename_i hlt
      refine List.pairwise_cons.2 ⟨fun z hz => ?_, insL_srt h2 (fun hm => hi (List.mem_cons_of_mem _ hm))⟩
      rcases insL_mem.1 hz with rfl | hz
      · omega
      · exact h1 z hz
theorem setA_mem {i x : Int} {l : List Int} : x ∈ setA l i ↔ x = i ∨ x ∈ l := by
  unfold setA
  split
  · rename_i h
    exact ⟨.inr, fun h' => h'.elim (fun e => e ▸ h) id⟩
  · exact insL_mem
theorem setA_srt {i : Int} {l : List Int} (h : Srt l) : Srt (setA l i) := by
  unfold setA
  split
  · exact h
  · exact insL_srt h (by assumption)
theorem foldl_setA_srt : ∀ (l out : List Int), Srt out → Srt (l.foldl setA out)
  | [], _, h => h
  | _ :: l, _, h => foldl_setA_srt l _ (setA_srt h)
theorem foldl_setA_mem {x : Int} : ∀ (l out : List Int), x ∈ l.foldl setA out ↔ x ∈ out ∨ x ∈ l
  | [], out => by simp
  | y :: l, out => by
    rw [List.foldl_cons, foldl_setA_mem l, setA_mem, List.mem_cons]
    constructor
    · rintro ((h | h) | h)
      · exact .inr (.inl h)
      · exact .inl h
      · exact .inr (.inr h)
    · rintro (h | h | h)
      · exact .inl (.inr h)
      · exact .inl (.inl h)
      · exact .inr h
theorem joinA_mem {x : Int} {a b : List Int} : x ∈ joinA a b ↔ x ∈ a ∨ x ∈ b := by
  unfold joinA
  rw [foldl_setA_mem, foldl_setA_mem]
  simp
theorem joinA_srt (a b : List Int) : Srt (joinA a b) := foldl_setA_srt _ _ (foldl_setA_srt _ _ List.Pairwise.nil)
theorem srt_ext : ∀ {a b : List Int}, Srt a → Srt b → (∀ x, x ∈ a ↔ x ∈ b) → a = b
  | [], [], _, _, _ => rfl
  | [], y :: b, _, _, h => by have := (h y).2 List.mem_cons_self; cases this
  | x :: a, [], _, _, h => by have := (h x).1 List.mem_cons_self; cases this
  | x :: a, y :: b, ha, hb, h => by
    obtain ⟨a1, a2⟩ := List.pairwise_cons.1 ha
    obtain ⟨b1, b2⟩ := List.pairwise_cons.1 hb
    have e : x = y := by
      rcases List.mem_cons.1 ((h x).1 List.mem_cons_self) with e | hx
      · exact e
      · rcases List.mem_cons.1 ((h y).2 List.mem_cons_self) with e | hy
        · exact e.symm
        · have := b1 x hx
          have := a1 y hy
          omega
    subst e
    refine congrArg _ (srt_ext a2 b2 fun z => ?_)
    constructor
    · intro hz
      rcases List.mem_cons.1 ((h z).1 (List.mem_cons_of_mem _ hz)) with e | h'
      · have := a1 z hz
        omega
      · exact h'
    · intro hz
      rcases List.mem_cons.1 ((h z).2 (List.mem_cons_of_mem _ hz)) with e | h'
      · have := b1 z hz
        omega
      · exact h'
theorem someL_srt {hi : Int} : ∀ (l out : List Int), Srt out → Srt (someL hi out l)
  | [], _, h => h
  | y :: l, out, h => by
    unfold someL
    refine someL_srt l _ ?_
    split
    · exact setA_srt h
    · exact h
theorem someL_mem {hi x : Int} : ∀ (l out : List Int), x ∈ someL hi out l ↔ x ∈ out ∨ (x ∈ l ∧ inR 0 hi x = true)
  | [], out => by simp [someL]
  | y :: l, out => by
    unfold someL
    rw [someL_mem l]
    constructor
    · rintro (h | h)
      · split at h
        · rename_i hy
          rcases setA_mem.1 h with rfl | h
          · exact .inr ⟨List.mem_cons_self, hy⟩
          · exact .inl h
        · exact .inl h
      · exact .inr ⟨List.mem_cons_of_mem _ h.1, h.2⟩
    · rintro (h | ⟨h, hx⟩)
      · left
        split
        · exact setA_mem.2 (.inr h)
        · exact h
      · rcases List.mem_cons.1 h with rfl | h
        · left
          rw [if_pos hx]
          exact setA_mem.2 (.inl rfl)
        · exact .inr ⟨h, hx⟩
/-! ### A tree's rows -/
/-- What stands in a tree's rows when the seats from k on are done. -/
structure RowsOk (c : Int × Int) (view : Int) (who : List Int) (k : Nat) (xs : List (List Int)) : Prop where
  len : (xs.length : Int) = c.1
  srt : ∀ i, 0 ≤ i → i < c.1 → Srt (at_ xs i [])
  mem : ∀ i x, 0 ≤ i → i < c.1 → x ∈ at_ xs i [] → x ∈ who ∧ 0 ≤ x ∧ x < c.1
  up : ∀ x, x ∈ who → 0 ≤ x → x < c.1 → (k : Int) ≤ seatOf c view x → ∃ a : Int, 0 ≤ a ∧ a < max k 1 ∧ x ∈ at_ xs (sitsOf c view a) []
theorem sits_seat {c : Int × Int} {view x : Int} (hc : confOk c = true) (hv : 0 ≤ view) (h0 : 0 ≤ x) (h : x < c.1) : sitsOf c view (seatOf c view x) = x ∧ 0 ≤ seatOf c view x ∧ seatOf c view x < c.1 := by
  have hn := confOk_n hc
  have hm := mod_in hn.1 view
  have hs : seatOf c view x = (x + c.1 - view % c.1) % c.1 := if_pos ⟨hc, hv, h0, by omega⟩
  have h1 := Int.emod_nonneg (x + c.1 - view % c.1) (show c.1 ≠ 0 by omega)
  have h2 := Int.emod_lt_of_pos (x + c.1 - view % c.1) (show 0 < c.1 by omega)
  have e : sitsOf c view ((x + c.1 - view % c.1) % c.1) = (view % c.1 + (x + c.1 - view % c.1) % c.1) % c.1 := if_pos ⟨hc, hv, h1, by omega⟩
  rw [hs]
  refine ⟨?_, h1, h2⟩
  rw [e, Int.add_emod_emod, show view % c.1 + (x + c.1 - view % c.1) = x + c.1 by omega, Int.add_emod_right]
  exact Int.emod_eq_of_lt h0 h
theorem mine_at {who : List Int} {i j : Int} {xs : List (List Int)} (hi : 0 ≤ i) (hl : i < xs.length) (hj : 0 ≤ j) : at_ (treeMine who i xs) j [] = if i = j ∧ i ∈ who then setA (at_ xs i []) i else at_ xs j [] := by
  unfold treeMine
  split
  · rename_i hw
    by_cases e : i = j
    · subst e
      rw [at_set_self hi hl, if_pos ⟨rfl, hw⟩]
    · rw [at_set_ne hi hj e, if_neg (fun h => e h.1)]
  · rename_i hw
    rw [if_neg (fun h => hw h.2)]
theorem join_at {u i j : Int} {xs : List (List Int)} (hu : 0 ≤ u → u < xs.length) (hj : 0 ≤ j) : at_ (treeJoin u i xs) j [] = if 0 ≤ u ∧ u = j then joinA (at_ xs u []) (at_ xs i []) else at_ xs j [] := by
  unfold treeJoin
  split
  · rename_i h0
    by_cases e : u = j
    · subst e
      rw [at_set_self h0 (hu h0), if_pos ⟨h0, rfl⟩]
    · rw [at_set_ne h0 hj e, if_neg (fun h => e h.2)]
  · rename_i h0
    rw [if_neg (fun h => h0 h.1)]
theorem rows_step {c : Int × Int} {view : Int} {who : List Int} (hc : confOk c = true) (hv : 0 ≤ view) {k : Nat} (hk : (k : Int) < c.1) {xs : List (List Int)} (h : RowsOk c view who (k + 1) xs) :
    RowsOk c view who k (treeJoin (upOf c view (sitsOf c view k)) (sitsOf c view k) (treeMine who (sitsOf c view k) xs)) := by
  have hn := confOk_n hc
  have hi := sits_in hc hv (s := k) (by omega) hk
  have hsk : seatOf c view (sitsOf c view k) = k := seat_sits hc hv (by omega) (by omega)
  have hup : upOf c view (sitsOf c view k) = if (k : Int) ≤ 0 then -1 else sitsOf c view (((k : Int) - 1) / c.2) := by unfold upOf; rw [hsk]
  have hu : 0 ≤ upOf c view (sitsOf c view k) → upOf c view (sitsOf c view k) < c.1 := upOf_in
  have hml : (treeMine who (sitsOf c view k) xs).length = xs.length := by
    unfold treeMine
    split
    · rw [List.length_set]
    · rfl
  have hjl : (treeJoin (upOf c view (sitsOf c view k)) (sitsOf c view k) (treeMine who (sitsOf c view k) xs)).length = xs.length := by
    unfold treeJoin
    split
    · rw [List.length_set, hml]
    · exact hml
  have hlen := h.len
  generalize hie : sitsOf c view k = i at *
  generalize hue : upOf c view i = u at *
  have m1 : ∀ j, 0 ≤ j → at_ (treeMine who i xs) j [] = if i = j ∧ i ∈ who then setA (at_ xs i []) i else at_ xs j [] := fun j hj => mine_at hi.1 (by omega) hj
  have j1 : ∀ j, 0 ≤ j → at_ (treeJoin u i (treeMine who i xs)) j [] = if 0 ≤ u ∧ u = j then joinA (at_ (treeMine who i xs) u []) (at_ (treeMine who i xs) i []) else at_ (treeMine who i xs) j [] := fun j hj => join_at (fun h => by rw [hml]; have := hu h; omega) hj
  have ms : ∀ j, 0 ≤ j → j < c.1 → Srt (at_ (treeMine who i xs) j []) := fun j hj0 hj => by
    rw [m1 j hj0]
    split
    · exact setA_srt (h.srt i hi.1 hi.2)
    · exact h.srt j hj0 hj
  have mm : ∀ j x, 0 ≤ j → j < c.1 → x ∈ at_ (treeMine who i xs) j [] → x ∈ who ∧ 0 ≤ x ∧ x < c.1 := fun j x hj0 hj hx => by
    rw [m1 j hj0] at hx
    split at hx
    · rename_i hw
      rcases setA_mem.1 hx with rfl | hx
      · exact ⟨hw.2, hi.1, hi.2⟩
      · exact h.mem i x hi.1 hi.2 hx
    · exact h.mem j x hj0 hj hx
  have mg : ∀ j x, 0 ≤ j → x ∈ at_ xs j [] → x ∈ at_ (treeMine who i xs) j [] := fun j x hj hx => by
    rw [m1 j hj]
    split
    · rename_i hw
      rw [hw.1]
      exact setA_mem.2 (.inr hx)
    · exact hx
  have jg : ∀ j x, 0 ≤ j → x ∈ at_ (treeMine who i xs) j [] → x ∈ at_ (treeJoin u i (treeMine who i xs)) j [] := fun j x hj hx => by
    rw [j1 j hj]
    split
    · rename_i hw
      rw [hw.2]
      exact joinA_mem.2 (.inl hx)
    · exact hx
  refine ⟨by rw [hjl]; exact hlen, fun j hj0 hj => ?_, fun j x hj0 hj hx => ?_, fun x hx h0 h1 hs => ?_⟩
  · rw [j1 j hj0]
    split
    · exact joinA_srt _ _
    · exact ms j hj0 hj
  · rw [j1 j hj0] at hx
    split at hx
    · rename_i hw
      rcases joinA_mem.1 hx with hx | hx
      · exact mm u x hw.1 (hu hw.1) hx
      · exact mm i x hi.1 hi.2 hx
    · exact mm j x hj0 hj hx
  · -- who sits at k, or behind
    have key : ∀ x, x ∈ at_ (treeMine who i xs) i [] → ∃ a : Int, 0 ≤ a ∧ a < max k 1 ∧ x ∈ at_ (treeJoin u i (treeMine who i xs)) (sitsOf c view a) [] := by
      intro x hx
      by_cases hk0 : (k : Int) ≤ 0
      · refine ⟨0, Int.le_refl _, by omega, ?_⟩
        have : k = 0 := by omega
        subst this
        rw [show sitsOf c view 0 = i from hie]
        exact jg i x hi.1 hx
      · rw [if_neg hk0] at hup
        have d0 : 0 ≤ ((k : Int) - 1) / c.2 := Int.ediv_nonneg (by omega) (by omega)
        have d1 : ((k : Int) - 1) / c.2 ≤ (k : Int) - 1 := Int.ediv_le_self c.2 (by omega)
        have hsi := sits_in hc hv (s := ((k : Int) - 1) / c.2) d0 (by omega)
        refine ⟨((k : Int) - 1) / c.2, d0, by omega, ?_⟩
        rw [← hup] at hsi ⊢
        rw [j1 u hsi.1, if_pos ⟨hsi.1, rfl⟩]
        exact joinA_mem.2 (.inr hx)
    have hxs := sits_seat hc hv h0 h1
    by_cases hek : seatOf c view x = k
    · refine key x ?_
      have : i = x := by rw [← hie, ← hek]; exact hxs.1
      rw [m1 i hi.1, if_pos ⟨rfl, by rw [this]; exact hx⟩, this]
      exact setA_mem.2 (.inl rfl)
    · obtain ⟨a, a0, a1, ha⟩ := h.up x hx h0 h1 (by omega)
      have hsa := sits_in hc hv (s := a) a0 (by omega)
      by_cases hak : a = k
      · subst hak
        rw [hie] at ha
        exact key x (mg i x hi.1 ha)
      · exact ⟨a, a0, by omega, jg _ x hsa.1 (mg _ x hsa.1 ha)⟩
theorem rows_all {c : Int × Int} {view : Int} {who : List Int} (hc : confOk c = true) (hv : 0 ≤ view) : ∀ (k : Nat) (xs : List (List Int)), (k : Int) ≤ c.1 → RowsOk c view who k xs → RowsOk c view who 0 (treeRows c view who k xs)
  | 0, xs, _, h => h
  | k + 1, xs, hk, h => rows_all hc hv k _ (by omega) (rows_step hc hv (by omega) h)
theorem at_rep (n : Nat) (i : Int) : at_ (List.replicate n ([] : List Int)) i [] = [] := by
  rw [at_toNat, List.getD_eq_getElem?_getD, List.getElem?_replicate]
  split <;> rfl
theorem tree_root {c : Int × Int} {view : Int} (hc : confOk c = true) (hv : 0 ≤ view) (who : List Int) : at_ (treeRows c view who c.1.toNat (List.replicate c.1.toNat [])) (view % c.1) [] = someL (w64 (c.1 - 1)) [] who := by
  have hn := confOk_n hc
  have hm := mod_in hn.1 view
  have h := rows_all (who := who) hc hv c.1.toNat (List.replicate c.1.toNat []) (by omega) ⟨by rw [List.length_replicate]; omega, fun i _ _ => by rw [at_rep]; exact List.Pairwise.nil, fun i x _ _ hx => (by rw [at_rep] at hx; cases hx), fun x hx h0 h1 hs => by have := (sits_seat hc hv h0 h1).2.2; omega⟩
  refine srt_ext (h.srt _ hm.1 hm.2) (someL_srt _ _ List.Pairwise.nil) fun x => ?_
  rw [someL_mem, w64_n1 hn.1 hn.2.1]
  constructor
  · intro hx
    obtain ⟨h1, h2, h3⟩ := h.mem _ x hm.1 hm.2 hx
    refine .inr ⟨h1, ?_⟩
    simp only [inR, Bool.and_eq_true, decide_eq_true_eq]
    omega
  · rintro (hx | ⟨hx, hr⟩)
    · cases hx
    · simp only [inR, Bool.and_eq_true, decide_eq_true_eq] at hr
      obtain ⟨a, a0, a1, ha⟩ := h.up x hx hr.1 (by omega) (by have := (sits_seat hc hv hr.1 (by omega)).2.1; omega)
      have : a = 0 := by omega
      subst this
      rw [sits_root hc hv] at ha
      exact ha
end Go.Am.Tryz
