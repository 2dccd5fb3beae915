/- Plain laws: what a disk keeps; the law of JudgeKept. No condition. -/
import Derived.Test.YtkkgagllehdhhaaGreatDoorZlLawOne
set_option linter.unusedVariables false
set_option linter.unusedSimpArgs false
namespace Go.Am.Tryz
open Go.Am
def newSafe : SafeD := (0, 0, d0Qc, ByteArray.mk #[])
theorem newSafe_l : SafeL newSafe := ⟨d0Qc_l, Nat.zero_le _⟩
theorem rdText_true {b : List Int} {s : RdS} (h : (rdText b s).2.2 = true) : s.2 = true := by
  unfold rdText at h
  split at h
  · split at h
    · assumption
    · cases h
  · cases h
def rdSafe (b : List Int) : SafeD × RdS :=
  (((rd0 b).1, (rdNum b (rd0 b).2).1, (rdQc b (rdNum b (rd0 b).2).2).1, (rdText b (rdQc b (rdNum b (rd0 b).2).2).2).1), (rdText b (rdQc b (rdNum b (rd0 b).2).2).2).2)
def safeOf (c : Int × Int) (b : List Int) : SafeD × Bool := if (rdSafe b).2.2 = true ∧ ((rdSafe b).2.1 : Int) = (b.length : Int) ∧ safeOk c (rdSafe b).1 = true then ((rdSafe b).1, true) else (newSafe, false)
theorem rdSafe_l {b : List Int} (hb : Bytes b) (h : (rdSafe b).2.2 = true) : SafeL (rdSafe b).1 := by
  have h0 : (rd0 b).2.1 ≤ b.length := (rdNum_ok hb (s := (0, true)) (Nat.zero_le _)).1
  have h1 := (rdNum_ok hb h0).1
  have q := rdQc_ok hb h1
  have x := rdText_ok hb q.1
  have ht : (rdText b (rdQc b (rdNum b (rd0 b).2).2).2).2.2 = true → (rdQc b (rdNum b (rd0 b).2).2).2.2 = true := rdText_true
  unfold rdSafe at h ⊢
  generalize rdText b (rdQc b (rdNum b (rd0 b).2).2).2 = r3 at h x ht ⊢
  generalize rdQc b (rdNum b (rd0 b).2).2 = r2 at q ht ⊢
  generalize rdNum b (rd0 b).2 = r1
  generalize rd0 b = r0
  exact ⟨q.2 (ht h), x.2⟩
theorem safeOf_l {b : List Int} (hb : Bytes b) (c : Int × Int) : SafeL (safeOf c b).1 := by
  unfold safeOf
  split
  · rename_i h
    exact rdSafe_l hb h.1
  · exact newSafe_l
theorem finS {c : Int × Int} {b : List Int} {m : SafeD} {s : RdS} {f : SafeD → Option (Bool × Unit)} (h : s.2 = true → f m = some (safeOk c m, ())) :
    br (!s.2) (some (newSafe, false, ())) (br ((s.1 : Int) != (b.length : Int)) (some (newSafe, false, ())) ((f m).bind fun r87 => br (!r87.1) (some (newSafe, false, ())) (some (m, true, ())))) =
      some ((if s.2 = true ∧ (s.1 : Int) = (b.length : Int) ∧ safeOk c m = true then ((m, true) : SafeD × Bool) else (newSafe, false)).1, (if s.2 = true ∧ (s.1 : Int) = (b.length : Int) ∧ safeOk c m = true then ((m, true) : SafeD × Bool) else (newSafe, false)).2, ()) := by
  cases hs : s.2 with
  | false =>
    rw [if_neg (fun h => by cases h.1)]
    rfl
  | true =>
    rw [Bool.not_true, br_false, h hs, bnd]
    by_cases hl : (s.1 : Int) = (b.length : Int)
    · rw [show ((s.1 : Int) != (b.length : Int)) = false from bne_eq_false_iff_eq.2 hl, br_false]
      cases hm : safeOk c m with
      | false =>
        rw [if_neg (fun h => by cases h.2.2)]
        rfl
      | true =>
        rw [if_pos ⟨rfl, hl, rfl⟩]
        rfl
    · rw [bne_iff_ne.2 hl, br_true, if_neg (fun h => hl h.2.1)]
theorem SafeOf_law {b : List Int} (hb : Bytes b) (c : Int × Int) : spec_SafeOf F0 c b = some ((safeOf c b).1, (safeOf c b).2, ()) := by
  have e0 : spec_l12Num F0 (b, 0, true) = some (((rd0 b).1, ()), (cell b (rd0 b).2, ())) := Num_law hb (s := (0, true)) (Nat.zero_le _)
  have h0 : (rd0 b).2.1 ≤ b.length := (rdNum_ok hb (s := (0, true)) (Nat.zero_le _)).1
  have h1 := (rdNum_ok hb h0).1
  have q := rdQc_ok hb h1
  have hl := rdSafe_l hb
  rw [spec_SafeOf_eq, e0, bnd, Num_law hb h0, bnd, Qc_law hb h1, bnd, Text_law hb q.1, bnd]
  unfold safeOf
  unfold rdSafe at hl ⊢
  generalize rdText b (rdQc b (rdNum b (rd0 b).2).2).2 = r3 at hl ⊢
  generalize rdQc b (rdNum b (rd0 b).2).2 = r2 at hl ⊢
  generalize rdNum b (rd0 b).2 = r1 at hl ⊢
  generalize rd0 b = r0 at hl ⊢
  exact finS (c := c) (b := b) (m := (r0.1, r1.1, r2.1, r3.1)) (s := r3.2) (f := fun m => spec_SafeOk F0 c m) fun h => SafeOk_law (hl h) c
theorem SafeOf_law2 {b : List Int} (hb : Bytes b) (c : Int × Int) : impl_SafeOf F0 c b = some ((safeOf c b).1, (safeOf c b).2, ()) := by
  have e0 : impl_reader_num F0 (b, 0, false) = some (((rd0 b).1, ()), (cell2 b (rd0 b).2, ())) := Num_law2 hb (s := (0, true)) (Nat.zero_le _)
  have h0 : (rd0 b).2.1 ≤ b.length := (rdNum_ok hb (s := (0, true)) (Nat.zero_le _)).1
  have h1 := (rdNum_ok hb h0).1
  have q := rdQc_ok hb h1
  have hl := rdSafe_l hb
  rw [impl_SafeOf_eq, e0, bnd, Num_law2 hb h0, bnd, Qc_law2 hb h1, bnd, Text_law2 hb q.1, bnd]
  unfold safeOf
  unfold rdSafe at hl ⊢
  generalize rdText b (rdQc b (rdNum b (rd0 b).2).2).2 = r3 at hl ⊢
  generalize rdQc b (rdNum b (rd0 b).2).2 = r2 at hl ⊢
  generalize rdNum b (rd0 b).2 = r1 at hl ⊢
  generalize rd0 b = r0 at hl ⊢
  exact finS (c := c) (b := b) (m := (r0.1, r1.1, r2.1, r3.1)) (s := r3.2) (f := fun m => impl_SafeOk F0 c m) fun h => SafeOk_law2 (hl h) c
/-! ### The last note -/
def subB (b : List Int) (i j : Nat) : List Int := (b.take j).drop i
theorem subB_ok {b : List Int} (hb : Bytes b) (i j : Nat) : Bytes (subB b i j) := by
  have hl := hb.1
  refine ⟨?_, fun x hx => hb.2 x (List.mem_of_mem_take (List.mem_of_mem_drop hx))⟩
  unfold subB
  rw [List.length_drop, List.length_take]
  omega
theorem bytes_str {b : List Int} (hb : Bytes b) : bytesOf (strOf b) = b := by
  unfold bytesOf strOf
  simp only [List.map_map]
  refine (List.map_congr_left fun x hx => ?_).trans (List.map_id b)
  have := hb.2 x hx
  simp only [Function.comp, id, UInt8.toNat_ofNat']
  omega
def note1 (c : Int × Int) (b : List Int) (a : Nat) : Option (SafeD × Nat) := match getN b a with
  | none => none
  | some (v, a') => if v ≥ (b.length : Int) - a' then none else if b.getD (a' + v.toNat) 0 ≠ 10 then none else if (safeOf c (subB b a' (a' + v.toNat))).2 = true then some ((safeOf c (subB b a' (a' + v.toNat))).1, a' + v.toNat + 1) else none
def lastN (c : Int × Int) (b : List Int) : Nat → SafeD → Nat → SafeD × Nat
  | 0, s, a => (s, a)
  | f + 1, s, a => match note1 c b a with
    | none => (s, a)
    | some (s', a') => lastN c b f s' a'
def lastNote (c : Int × Int) (b : List Int) : SafeD × Nat := lastN c b (b.length + 1) newSafe 0
theorem note1_some {c : Int × Int} {b : List Int} {a : Nat} {v : Int} {a' : Nat} (h : getN b a = some (v, a')) : note1 c b a =
    if v ≥ (b.length : Int) - a' then none else if b.getD (a' + v.toNat) 0 ≠ 10 then none else if (safeOf c (subB b a' (a' + v.toNat))).2 = true then some ((safeOf c (subB b a' (a' + v.toNat))).1, a' + v.toNat + 1) else none := by
  unfold note1
  rw [h]
theorem note1_none {c : Int × Int} {b : List Int} {a : Nat} (h : getN b a = none) : note1 c b a = none := by
  unfold note1
  rw [h]
theorem lastN_none {c : Int × Int} {b : List Int} {f : Nat} {s : SafeD} {a : Nat} (h : note1 c b a = none) : lastN c b (f + 1) s a = (s, a) := by
  unfold lastN
  rw [h]
theorem lastN_some {c : Int × Int} {b : List Int} {f : Nat} {s s' : SafeD} {a a' : Nat} (h : note1 c b a = some (s', a')) : lastN c b (f + 1) s a = lastN c b f s' a' := by
  rw [lastN, h]
theorem note1_ok {c : Int × Int} {b : List Int} (hb : Bytes b) {a : Nat} (ha : a ≤ b.length) {s : SafeD} {a' : Nat} (h : note1 c b a = some (s, a')) : a < a' ∧ a' ≤ b.length ∧ SafeL s := by
  cases hg : getN b a with
  | none => rw [note1_none hg] at h; cases h
  | some r =>
    obtain ⟨v, a0⟩ := r
    have h0 := getN_ok hb ha hg
    have hs := safeOf_l (subB_ok hb a0 (a0 + v.toNat)) c
    rw [note1_some hg] at h
    generalize safeOf c (subB b a0 (a0 + v.toNat)) = r at h hs
    split at h
    · cases h
    · rename_i hv
      split at h
      · cases h
      · split at h
        · cases h
          exact ⟨by omega, by omega, hs⟩
        · cases h
theorem last_spec (c : Int × Int) {b : List Int} (hb : Bytes b) (t4 t41 t42 : Int) (t43 t44 : ByteArray) (xs : List Int) : ∀ (f : Nat) (s : SafeD) (a n : Nat), a ≤ b.length → b.length + 1 ≤ a + f → f < n →
    spec_LastNote_1 F0 (spec_LastNote_1_k F0) n (spec_LastNote_1_s b (a : Int) c.1 c.2 t4 t41 t42 t43 t44 s.1 s.2.1 s.2.2.1.1 s.2.2.1.2.1 s.2.2.2 xs s.2.2.1.2.2) = some ((lastN c b f s a).1, ((lastN c b f s a).2 : Int), ())
  | 0, s, a, n, ha, hf, hn => by omega
  | f + 1, s, a, n, ha, hf, hn => by
    obtain ⟨n, rfl⟩ : ∃ m, n = m + 1 := ⟨n - 1, by omega⟩
    have hl := hb.1
    cases hg : getN b a with
    | none =>
      have law : spec_GetNum F0 b (a : Int) = some (0, 0, false, ()) := by rw [getN_law hb ha, hg]; rfl
      rw [spec_LastNote_1_step, law, bnd, spec_LastNote_1_cr, lastN_none (note1_none hg)]
      rfl
    | some r =>
      obtain ⟨v, a'⟩ := r
      have h0 := getN_ok hb ha hg
      have law : spec_GetNum F0 b (a : Int) = some (v, (a' : Int), true, ()) := by rw [getN_law hb ha, hg]; rfl
      have hn1 := note1_some (c := c) hg
      rw [spec_LastNote_1_step, law, bnd, spec_LastNote_1_cr]
      dsimp only
      rw [Bool.not_true, br_false, w64_in (n := (b.length : Int) - a') (by omega) (by omega), show w64 ((a' : Int) + v) = ((a' + v.toNat : Nat) : Int) by rw [w64_in (by omega) (by omega)]; omega]
      by_cases hv : v ≥ (b.length : Int) - a'
      · rw [if_pos hv] at hn1
        rw [decide_eq_true hv, br_true, lastN_none hn1]
      · have hi : a' + v.toNat < b.length := by omega
        rw [if_neg hv] at hn1
        rw [decide_eq_false hv, br_false, okI_nat hi, ck_true, at_nat]
        by_cases h10 : b.getD (a' + v.toNat) 0 = 10
        · rw [if_neg (fun h => h h10)] at hn1
          rw [show (b.getD (a' + v.toNat) 0 != 10) = false from bne_eq_false_iff_eq.2 h10, br_false, okS_nat (by omega) (by omega), ck_true, show ((c.1, c.2) : Int × Int) = c from rfl, Int.toNat_natCast, Int.toNat_natCast,
            show ((b.take (a' + v.toNat)).drop a') = subB b a' (a' + v.toNat) from rfl, SafeOf_law (subB_ok hb _ _), bnd]
          dsimp only
          generalize safeOf c (subB b a' (a' + v.toNat)) = r at hn1 ⊢
          cases hs : r.2 with
          | false =>
            rw [hs, if_neg (by decide)] at hn1
            rw [Bool.not_false, br_true, lastN_none hn1]
          | true =>
            rw [hs, if_pos rfl] at hn1
            rw [Bool.not_true, br_false, w64_succ (by omega), lastN_some hn1]
            exact last_spec c hb t4 t41 t42 t43 t44 xs f r.1 (a' + v.toNat + 1) n (by omega) (by omega) (by omega)
        · rw [if_pos h10] at hn1
          rw [bne_iff_ne.2 h10, br_true, lastN_none hn1]
theorem LastNote_law {b : List Int} (hb : Bytes b) (c : Int × Int) : spec_LastNote F0 c b = some ((lastNote c b).1, ((lastNote c b).2 : Int), ()) := by
  have hl := hb.1
  rw [spec_LastNote_eq, spec_SafeNew_eq, bnd]
  exact last_spec c hb 0 0 0 _ _ [] (b.length + 1) newSafe 0 _ (Nat.zero_le _) (by omega) (by rw [n_eq]; omega)
theorem getT_some {b : List Int} {a : Nat} {v : Int} {a' : Nat} (h : getN b a = some (v, a')) : getT b a = if v > (b.length : Int) - a' then none else some (strOf (subB b a' (a' + v.toNat)), a' + v.toNat) := by
  unfold getT
  rw [h]
  rfl
theorem getT_none {b : List Int} {a : Nat} (h : getN b a = none) : getT b a = none := by
  unfold getT
  rw [h]
theorem last_impl2 (c : Int × Int) {b : List Int} (hb : Bytes b) (t4 t41 t42 : Int) (t43 t44 : ByteArray) (xs : List Int) : ∀ (f : Nat) (s : SafeD) (a n : Nat), a ≤ b.length → b.length + 1 ≤ a + f → f < n →
    impl_LastNote_1 F0 (impl_LastNote_1_k F0) n (impl_LastNote_1_s b (a : Int) c.1 c.2 t4 t41 t42 t43 t44 s.1 s.2.1 s.2.2.1.1 s.2.2.1.2.1 s.2.2.2 xs s.2.2.1.2.2) = some ((lastN c b f s a).1, ((lastN c b f s a).2 : Int), ())
  | 0, s, a, n, ha, hf, hn => by omega
  | f + 1, s, a, n, ha, hf, hn => by
    obtain ⟨n, rfl⟩ : ∃ m, n = m + 1 := ⟨n - 1, by omega⟩
    have hl := hb.1
    have bad : impl_GetText F0 b (a : Int) = some (ByteArray.mk #[], 0, false, ()) → note1 c b a = none → impl_LastNote_1 F0 (impl_LastNote_1_k F0) (n + 1) (impl_LastNote_1_s b (a : Int) c.1 c.2 t4 t41 t42 t43 t44 s.1 s.2.1 s.2.2.1.1 s.2.2.1.2.1 s.2.2.2 xs s.2.2.1.2.2) = some ((lastN c b (f + 1) s a).1, ((lastN c b (f + 1) s a).2 : Int), ()) := by
      intro law hn1
      rw [impl_LastNote_1_step, law, bnd, impl_LastNote_1_cr, lastN_none hn1]
      rfl
    cases hg : getN b a with
    | none => exact bad (by rw [GetText_law2 hb ha, getT_none hg]; rfl) (note1_none hg)
    | some r =>
      obtain ⟨v, a'⟩ := r
      have h0 := getN_ok hb ha hg
      have hn1 := note1_some (c := c) hg
      have hT := getT_some hg
      by_cases hv0 : v > (b.length : Int) - a'
      · rw [if_pos hv0] at hT
        rw [if_pos (show v ≥ (b.length : Int) - a' by omega)] at hn1
        exact bad (by rw [GetText_law2 hb ha, hT]; rfl) hn1
      · rw [if_neg hv0] at hT
        have law : impl_GetText F0 b (a : Int) = some (strOf (subB b a' (a' + v.toNat)), ((a' + v.toNat : Nat) : Int), true, ()) := by rw [GetText_law2 hb ha, hT]; rfl
        rw [impl_LastNote_1_step, law, bnd, impl_LastNote_1_cr]
        dsimp only
        rw [Bool.not_true, br_false]
        by_cases hv : v ≥ (b.length : Int) - a'
        · rw [if_pos hv] at hn1
          rw [decide_eq_true (show ((a' + v.toNat : Nat) : Int) ≥ (b.length : Int) by omega), br_true, lastN_none hn1]
        · have hi : a' + v.toNat < b.length := by omega
          rw [if_neg hv] at hn1
          rw [decide_eq_false (show ¬ ((a' + v.toNat : Nat) : Int) ≥ (b.length : Int) by omega), br_false, okI_nat hi, ck_true, at_nat]
          by_cases h10 : b.getD (a' + v.toNat) 0 = 10
          · have hsz : ((strOf (subB b a' (a' + v.toNat))).size : Int) ≤ 1048576 := by
              have := (subB_ok hb a' (a' + v.toNat)).1
              show ((((subB b a' (a' + v.toNat)).map fun n => UInt8.ofNat n.toNat).toArray.size : Nat) : Int) ≤ 1048576
              rw [List.size_toArray, List.length_map]
              omega
            rw [if_neg (fun h => h h10)] at hn1
            rw [show (b.getD (a' + v.toNat) 0 != 10) = false from bne_eq_false_iff_eq.2 h10, br_false, show ((c.1, c.2) : Int × Int) = c from rfl, decide_eq_true (show ((strOf (subB b a' (a' + v.toNat))).size : Int) ≤ F0.mem by rw [mem_eq]; omega), ck_true, bytes_str (subB_ok hb _ _), SafeOf_law2 (subB_ok hb _ _), bnd]
            dsimp only
            generalize safeOf c (subB b a' (a' + v.toNat)) = r at hn1 ⊢
            cases hs : r.2 with
            | false =>
              rw [hs, if_neg (by decide)] at hn1
              rw [Bool.not_false, br_true, lastN_none hn1]
            | true =>
              rw [hs, if_pos rfl] at hn1
              rw [Bool.not_true, br_false, w64_succ (by omega), lastN_some hn1]
              exact last_impl2 c hb t4 t41 t42 t43 t44 xs f r.1 (a' + v.toNat + 1) n (by omega) (by omega) (by omega)
          · rw [if_pos h10] at hn1
            rw [bne_iff_ne.2 h10, br_true, lastN_none hn1]
theorem LastNote_law2 {b : List Int} (hb : Bytes b) (c : Int × Int) : impl_LastNote F0 c b = some ((lastNote c b).1, ((lastNote c b).2 : Int), ()) := by
  have hl := hb.1
  rw [impl_LastNote_eq, impl_SafeNew_eq, bnd]
  exact last_impl2 c hb 0 0 0 _ _ [] (b.length + 1) newSafe 0 _ (Nat.zero_le _) (by omega) (by rw [n_eq]; omega)
theorem lastN_l (c : Int × Int) {b : List Int} (hb : Bytes b) : ∀ (f : Nat) (s : SafeD) (a : Nat), a ≤ b.length → SafeL s → SafeL (lastN c b f s a).1
  | 0, _, _, _, h => h
  | f + 1, s, a, ha, h => by
    cases hn : note1 c b a with
    | none =>
      rw [lastN_none hn]
      exact h
    | some r =>
      obtain ⟨s', a'⟩ := r
      have := note1_ok hb ha hn
      rw [lastN_some hn]
      exact lastN_l c hb f s' a' this.2.1 this.2.2
theorem lastNote_l (c : Int × Int) {b : List Int} (hb : Bytes b) : SafeL (lastNote c b).1 := lastN_l c hb _ _ _ (Nat.zero_le _) newSafe_l
/-! ### What is kept -/
def safeSame (a b : SafeD) : Bool := (a.1 == b.1) && ((a.2.1 == b.2.1) && (qcSame a.2.2.1 b.2.2.1 && (a.2.2.2.toList == b.2.2.2.toList)))
theorem SafeSame_law {a b : SafeD} (ha : SafeL a) (hb : SafeL b) : spec_SafeSame F0 a b = some (safeSame a b, ()) := by
  rw [spec_SafeSame_eq, QcSame_at ha.1 hb.1, bnd]
  unfold safeSame
  cases (a.1 == b.1) <;> cases (a.2.1 == b.2.1) <;> cases qcSame a.2.2.1 b.2.2.1 <;> rfl
theorem SafeSame_law2 {a b : SafeD} (ha : SafeL a) : impl_SafeSame F0 a b = some (safeSame a b, ()) := by
  rw [impl_SafeSame_eq, QcSame_at2 ha.1, bnd]
  unfold safeSame
  cases (a.1 == b.1) <;> cases (a.2.1 == b.2.1) <;> cases qcSame a.2.2.1 b.2.2.1 <;> rfl
def keptD (c : Int × Int) (r : RepD) : Bool := repOk c r && (safeSame (lastNote c r.2.2.2.2.2.2.1.1).1 r.2.2.2.1 && (((lastNote c r.2.2.2.2.2.2.1.1).2 : Int) == (r.2.2.2.2.2.2.1.1.length : Int)))
theorem Kept_law {r : RepD} (h : RepL r) (hb : Bytes r.2.2.2.2.2.2.1.1) (c : Int × Int) : spec_Kept F0 c r = some (keptD c r, ()) := by
  rw [spec_Kept_eq, RepOk_law h, bnd, LastNote_law hb, bnd, SafeSame_law (lastNote_l c hb) h.s, bnd]
  unfold keptD
  cases repOk c r <;> cases safeSame (lastNote c r.2.2.2.2.2.2.1.1).1 r.2.2.2.1 <;> rfl
theorem Kept_law2 {r : RepD} (h : RepL r) (hb : Bytes r.2.2.2.2.2.2.1.1) (c : Int × Int) : impl_Kept F0 c r = some (keptD c r, ()) := by
  rw [impl_Kept_eq, LastNote_law2 hb, bnd, RepOk_law2 h, bnd, SafeSame_law2 (lastNote_l c hb), bnd]
  unfold keptD
  cases repOk c r <;> cases safeSame (lastNote c r.2.2.2.2.2.2.1.1).1 r.2.2.2.1 <;> rfl
def rp (w : WorldD) (i : Nat) : RepD := w.2.2.1.getD ((honestL w).getD i 0).toNat d0Rep
theorem rp_is {w : WorldD} {i j : Nat} (hi : i < (honestL w).length) (e : (honestL w)[i] = (j : Int)) (hj : j < w.2.2.1.length) : rp w i = w.2.2.1[j] := by
  unfold rp
  rw [getD_is hi, e, Int.toNat_natCast, getD_is hj]
def heldAt (w : WorldD) (i k : Nat) : Bool := !(((w.2.2.2.2.getD k d0Said).2.2 == (honestL w).getD i 0) && decide ((w.2.2.2.2.getD k d0Said).1 > (rp w i).2.2.2.1.1))
def keptAt (w : WorldD) (i : Nat) : Bool := keptD w.1 (rp w i) && (List.range w.2.2.2.2.length).all (heldAt w i)
def keptOk (w : WorldD) : Bool := worldOk w && (List.range (honestL w).length).all (keptAt w)
def WorldB (w : WorldD) : Prop := ∀ r ∈ w.2.2.1, Bytes r.2.2.2.2.2.2.1.1
theorem worldB_of {w : K49.D} (h : Wf K49 w) (hl : Lim 1048576 K49 w) : WorldB w := fun r hr => ⟨(hl.2.2.1.2 r hr).2.2.2.2.2.2.1.1.1, fun y hy => u8_in ((h.2.2.1.2 r hr).2.2.2.2.2.2.1.1.2 y hy)⟩
theorem held_step {β : Type} (e1 e2 : Bool) (x y : β) : br e1 (br e2 x y) y = if (!(e1 && e2)) = true then y else x := by cases e1 <;> cases e2 <;> rfl
theorem kept_in {w : WorldD} (h : WorldL w) {γ : Type} (κ : Ex → St → Option γ) (n : Nat) {i : Nat} (hi : i < (honestL w).length) :
    spec_JudgeKept_2 F0 (spec_JudgeKept_2_k F0 κ n) F0.n (spec_JudgeKept_2_s (i : Int) 0 w.1.1 w.1.2 w.2.1 w.2.2.1 w.2.2.2.1 w.2.2.2.2 (honestL w)) =
    if (List.range w.2.2.2.2.length).all (heldAt w i) = true then spec_JudgeKept_1 F0 κ n (spec_JudgeKept_1_s ((i + 1 : Nat) : Int) w.1.1 w.1.2 w.2.1 w.2.2.1 w.2.2.2.1 w.2.2.2.2 (honestL w)) else κ .ret (spec_JudgeKept_1_r false) := by
  have hlen : (honestL w).length ≤ 1048576 := Nat.le_trans (honest_len w.2.1 w.2.2.1.length) h.r
  have hs := h.s
  obtain ⟨j, e, hj⟩ := honest_at hi
  refine all_to (fun m k => spec_JudgeKept_2 F0 (spec_JudgeKept_2_k F0 κ n) m (spec_JudgeKept_2_s (i : Int) k w.1.1 w.1.2 w.2.1 w.2.2.1 w.2.2.2.1 w.2.2.2.2 (honestL w))) w.2.2.2.2.length (heldAt w i) _ _ (fun m k hk => ?_) (fun m => ?_) _ (by rw [n_eq]; omega)
  · unfold heldAt
    rw [spec_JudgeKept_2_step, dec_lt hk, br_true, okI_nat hk, ck_true, okI_nat hi, ck_true, at_isD hi, e, okI_nat hj, at_isD hk, at_isD hj, ck_true, ck_true, ck_true, spec_JudgeKept_2_cr, w64_succ (by omega), held_step, getD_is hk, rp_is hi e hj, getD_is hi, e]
  · rw [spec_JudgeKept_2_step, dec_nlt, br_false, spec_JudgeKept_2_ce2, w64_succ (by omega)]
theorem JudgeKept_law {w : WorldD} (h : WorldL w) (hb : WorldB w) : spec_JudgeKept F0 w = some (keptOk w, ()) := by
  have hlen : (honestL w).length ≤ 1048576 := Nat.le_trans (honest_len w.2.1 w.2.2.1.length) h.r
  rw [spec_JudgeKept_eq, WorldOk_law h, bnd, Honest_law h, bnd]
  dsimp only
  rw [all_to (fun m k => spec_JudgeKept_1 F0 (spec_JudgeKept_1_k F0) m (spec_JudgeKept_1_s k w.1.1 w.1.2 w.2.1 w.2.2.1 w.2.2.2.1 w.2.2.2.2 (honestL w))) (honestL w).length (keptAt w) (some (true, ())) (some (false, ())) (fun m k hk => ?_) (fun m => ?_) _ (by rw [n_eq]; omega), ite_some]
  · unfold keptOk
    cases worldOk w <;> rfl
  · obtain ⟨j, e, hj⟩ := honest_at hk
    have hm := List.getElem_mem hj
    rw [spec_JudgeKept_1_step, dec_lt hk, br_true, okI_nat hk, ck_true, at_isD hk, e, okI_nat hj, ck_true, at_isD hj, show ((w.1.1, w.1.2) : Int × Int) = w.1 from rfl, Kept_law (h.rl _ hm) (hb _ hm), bnd, kept_in h _ _ hk, spec_JudgeKept_1_cr]
    unfold keptAt
    rw [rp_is hk e hj]
    dsimp only
    cases keptD w.1 w.2.2.1[j] <;> rfl
  · rw [spec_JudgeKept_1_step, dec_nlt, br_false, spec_JudgeKept_1_ce0]
theorem kept_in2 {w : WorldD} (h : WorldL w) {γ : Type} (κ : Ex → St → Option γ) (n : Nat) {i : Nat} (hi : i < (honestL w).length) :
    impl_JudgeKept_2 F0 (impl_JudgeKept_2_k F0 κ n) F0.n (impl_JudgeKept_2_s (honestL w)[i] ((honestL w).length : Int) (i : Int) w.2.2.2.2 (w.2.2.2.2.length : Int) 0 w.1.1 w.1.2 w.2.1 w.2.2.1 w.2.2.2.1 w.2.2.2.2 (honestL w)) =
    if (List.range w.2.2.2.2.length).all (heldAt w i) = true then impl_JudgeKept_1 F0 κ n (impl_JudgeKept_1_s ((honestL w).length : Int) ((i + 1 : Nat) : Int) w.1.1 w.1.2 w.2.1 w.2.2.1 w.2.2.2.1 w.2.2.2.2 (honestL w)) else κ .ret (impl_JudgeKept_1_r false) := by
  have hlen : (honestL w).length ≤ 1048576 := Nat.le_trans (honest_len w.2.1 w.2.2.1.length) h.r
  have hs := h.s
  obtain ⟨j, e, hj⟩ := honest_at hi
  refine all_to (fun m k => impl_JudgeKept_2 F0 (impl_JudgeKept_2_k F0 κ n) m (impl_JudgeKept_2_s (honestL w)[i] ((honestL w).length : Int) (i : Int) w.2.2.2.2 (w.2.2.2.2.length : Int) k w.1.1 w.1.2 w.2.1 w.2.2.1 w.2.2.2.1 w.2.2.2.2 (honestL w))) w.2.2.2.2.length (heldAt w i) _ _ (fun m k hk => ?_) (fun m => ?_) _ (by rw [n_eq]; omega)
  · unfold heldAt
    rw [impl_JudgeKept_2_step, dec_lt hk, br_true, okI_nat hk, ck_true, e, okI_nat hj, at_isD hk, at_isD hj, ck_true, impl_JudgeKept_2_cr, w64_succ (by omega), held_step, getD_is hk, rp_is hi e hj, getD_is hi, e]
  · rw [impl_JudgeKept_2_step, dec_nlt, br_false, impl_JudgeKept_2_ce2, w64_succ (by omega)]
theorem JudgeKept_law2 {w : WorldD} (h : WorldL w) (hb : WorldB w) : impl_JudgeKept F0 w = some (keptOk w, ()) := by
  have hlen : (honestL w).length ≤ 1048576 := Nat.le_trans (honest_len w.2.1 w.2.2.1.length) h.r
  rw [impl_JudgeKept_eq, WorldOk_law2 h, bnd, Honest_law2 h, bnd]
  dsimp only
  rw [all_to (fun m k => impl_JudgeKept_1 F0 (impl_JudgeKept_1_k F0) m (impl_JudgeKept_1_s ((honestL w).length : Int) k w.1.1 w.1.2 w.2.1 w.2.2.1 w.2.2.2.1 w.2.2.2.2 (honestL w))) (honestL w).length (keptAt w) (some (true, ())) (some (false, ())) (fun m k hk => ?_) (fun m => ?_) _ (by rw [n_eq]; omega), ite_some]
  · unfold keptOk
    cases worldOk w <;> rfl
  · obtain ⟨j, e, hj⟩ := honest_at hk
    have hm := List.getElem_mem hj
    rw [impl_JudgeKept_1_step, dec_lt hk, br_true, okI_nat hk, ck_true, at_isD hk, kept_in2 h _ _ hk, e, okI_nat hj, ck_true, at_isD hj, show ((w.1.1, w.1.2) : Int × Int) = w.1 from rfl, Kept_law2 (h.rl _ hm) (hb _ hm), bnd, impl_JudgeKept_1_cr]
    unfold keptAt
    rw [rp_is hk e hj]
    dsimp only
    cases keptD w.1 w.2.2.1[j] <;> rfl
  · rw [impl_JudgeKept_1_step, dec_nlt, br_false, impl_JudgeKept_1_ce0]
end Go.Am.Tryz
