/- Plain laws: one chain, certificates judged; the laws of JudgeOne, JudgeCerts. No condition. -/
import Derived.Test.YtkkgagllehdhhaaGreatDoorZnLawTop
set_option linter.unusedVariables false
set_option linter.unusedSimpArgs false
namespace Go.Am.Tryz
open Go.Am
theorem rep_name {w : WorldD} (h : worldOk w = true) {j : Nat} (hj : j < w.2.2.1.length) : nameOk (w.2.2.1[j]).2.2.2.1.2.2.2.data.toList = true := by
  simp only [worldOk, Bool.and_eq_true] at h
  have h1 := List.all_eq_true.1 h.2.2.2.2.2.2.1 j (List.mem_range.2 hj)
  simp only [repAt, getD_is hj, Bool.and_eq_true] at h1
  have h2 := h1.1
  simp only [repOk, Bool.and_eq_true] at h2
  have h3 := h2.2.2.2.2.1
  simp only [safeOk, Bool.and_eq_true] at h3
  exact h3.2.2.2
def dn (w : WorldD) (i : Nat) : ByteArray := doneOf w ((honestL w).getD i 0)
theorem dn_is {w : WorldD} {i j : Nat} (hi : i < (honestL w).length) (e : (honestL w)[i] = (j : Int)) (hj : j < w.2.2.1.length) : dn w i = (w.2.2.1[j]).2.2.2.1.2.2.2 := by
  unfold dn doneOf
  rw [getD_is hi, e, Int.toNat_natCast, getD_is hj]
def oneOk (w : WorldD) : Bool := worldOk w && (List.range (honestL w).length).all fun i => (List.range (honestL w).length).all fun k => meetD (dn w i) (dn w k)
theorem one_pairs {w : WorldD} (hw : worldOk w = true) : ((List.range (honestL w).length).all fun i => (List.range i).all fun k => meetD (dn w i) (dn w k)) = (List.range (honestL w).length).all fun i => (List.range (honestL w).length).all fun k => meetD (dn w i) (dn w k) :=
  all_pairs (q := fun i k => meetD (dn w i) (dn w k)) (fun i k _ _ => meetD_comm _ _) (fun i hi => by
    obtain ⟨j, e, hj⟩ := honest_at hi
    rw [dn_is hi e hj]
    exact meetD_self (rep_name hw hj))
theorem one_in {w : WorldD} (h : WorldL w) {γ : Type} (κ : Ex → St → Option γ) (n : Nat) {i : Nat} (hi : i < (honestL w).length) :
    spec_JudgeOne_2 F0 (spec_JudgeOne_2_k F0 κ n) F0.n (spec_JudgeOne_2_s (i : Int) 0 w.1.1 w.1.2 w.2.1 w.2.2.1 w.2.2.2.1 w.2.2.2.2 (honestL w)) =
    if ((List.range i).all fun k => meetD (dn w i) (dn w k)) = true then spec_JudgeOne_1 F0 κ n (spec_JudgeOne_1_s ((i + 1 : Nat) : Int) w.1.1 w.1.2 w.2.1 w.2.2.1 w.2.2.2.1 w.2.2.2.2 (honestL w)) else κ .ret (spec_JudgeOne_1_r false) := by
  have hlen : (honestL w).length ≤ 1048576 := Nat.le_trans (honest_len w.2.1 w.2.2.1.length) h.r
  obtain ⟨j, e, hj⟩ := honest_at hi
  refine all_to (fun m k => spec_JudgeOne_2 F0 (spec_JudgeOne_2_k F0 κ n) m (spec_JudgeOne_2_s (i : Int) k w.1.1 w.1.2 w.2.1 w.2.2.1 w.2.2.2.1 w.2.2.2.2 (honestL w))) i (fun k => meetD (dn w i) (dn w k)) _ _ (fun m k hk => ?_) (fun m => ?_) _ (by rw [n_eq]; omega)
  · have hk' : k < (honestL w).length := by omega
    obtain ⟨j', e', hj'⟩ := honest_at hk'
    rw [spec_JudgeOne_2_step, dec_lt hk, br_true, okI_nat hi, ck_true, at_isD hi, e, okI_nat hj, ck_true, okI_nat hk', ck_true, at_isD hk', e', okI_nat hj', ck_true, at_isD hj, at_isD hj', Meets_law (h.rl _ (List.getElem_mem hj)).s.2 (h.rl _ (List.getElem_mem hj')).s.2, bnd, spec_JudgeOne_2_cr, w64_succ (by omega), dn_is hi e hj, dn_is hk' e' hj']
    dsimp only
    cases meetD (w.2.2.1[j]).2.2.2.1.2.2.2 (w.2.2.1[j']).2.2.2.1.2.2.2 <;> rfl
  · rw [spec_JudgeOne_2_step, dec_nlt, br_false, spec_JudgeOne_2_ce2, w64_succ (by omega)]
theorem JudgeOne_law {w : WorldD} (h : WorldL w) : spec_JudgeOne F0 w = some (oneOk w, ()) := by
  have hlen : (honestL w).length ≤ 1048576 := Nat.le_trans (honest_len w.2.1 w.2.2.1.length) h.r
  rw [spec_JudgeOne_eq, WorldOk_law h, bnd, Honest_law h, bnd]
  unfold oneOk
  dsimp only
  cases hw : worldOk w with
  | false => rfl
  | true =>
    rw [Bool.not_true, br_false, Bool.true_and, all_to (fun m k => spec_JudgeOne_1 F0 (spec_JudgeOne_1_k F0) m (spec_JudgeOne_1_s k w.1.1 w.1.2 w.2.1 w.2.2.1 w.2.2.2.1 w.2.2.2.2 (honestL w))) (honestL w).length (fun i => (List.range i).all fun k => meetD (dn w i) (dn w k)) (some (true, ())) (some (false, ())) (fun m k hk => ?_) (fun m => ?_) _ (by rw [n_eq]; omega), ite_some, one_pairs hw]
    · rw [spec_JudgeOne_1_step, dec_lt hk, br_true, one_in h _ _ hk, spec_JudgeOne_1_cr]
    · rw [spec_JudgeOne_1_step, dec_nlt, br_false, spec_JudgeOne_1_ce0]
theorem one_in2 {w : WorldD} (h : WorldL w) {γ : Type} (κ : Ex → St → Option γ) (n : Nat) {i : Nat} (hi : i < (honestL w).length) :
    impl_JudgeOne_2 F0 (impl_JudgeOne_2_k F0 κ n) F0.n (impl_JudgeOne_2_s (honestL w)[i] ((honestL w).length : Int) (i : Int) ((honestL w).length : Int) 0 w.1.1 w.1.2 w.2.1 w.2.2.1 w.2.2.2.1 w.2.2.2.2 (honestL w) (honestL w)) =
    if ((List.range (honestL w).length).all fun k => meetD (dn w i) (dn w k)) = true then impl_JudgeOne_1 F0 κ n (impl_JudgeOne_1_s ((honestL w).length : Int) ((i + 1 : Nat) : Int) w.1.1 w.1.2 w.2.1 w.2.2.1 w.2.2.2.1 w.2.2.2.2 (honestL w)) else κ .ret (impl_JudgeOne_1_r false) := by
  have hlen : (honestL w).length ≤ 1048576 := Nat.le_trans (honest_len w.2.1 w.2.2.1.length) h.r
  obtain ⟨j, e, hj⟩ := honest_at hi
  refine all_to (fun m k => impl_JudgeOne_2 F0 (impl_JudgeOne_2_k F0 κ n) m (impl_JudgeOne_2_s (honestL w)[i] ((honestL w).length : Int) (i : Int) ((honestL w).length : Int) k w.1.1 w.1.2 w.2.1 w.2.2.1 w.2.2.2.1 w.2.2.2.2 (honestL w) (honestL w))) (honestL w).length (fun k => meetD (dn w i) (dn w k)) _ _ (fun m k hk => ?_) (fun m => ?_) _ (by rw [n_eq]; omega)
  · obtain ⟨j', e', hj'⟩ := honest_at hk
    rw [impl_JudgeOne_2_step, dec_lt hk, br_true, okI_nat hk, ck_true, e, okI_nat hj, ck_true, at_isD hk, e', okI_nat hj', ck_true, at_isD hj, at_isD hj', Meets_law2 (h.rl _ (List.getElem_mem hj)).s.2 (h.rl _ (List.getElem_mem hj')).s.2, bnd, impl_JudgeOne_2_cr, w64_succ (by omega), dn_is hi e hj, dn_is hk e' hj']
    dsimp only
    cases meetD (w.2.2.1[j]).2.2.2.1.2.2.2 (w.2.2.1[j']).2.2.2.1.2.2.2 <;> rfl
  · rw [impl_JudgeOne_2_step, dec_nlt, br_false, impl_JudgeOne_2_ce2, w64_succ (by omega)]
theorem JudgeOne_law2 {w : WorldD} (h : WorldL w) : impl_JudgeOne F0 w = some (oneOk w, ()) := by
  have hlen : (honestL w).length ≤ 1048576 := Nat.le_trans (honest_len w.2.1 w.2.2.1.length) h.r
  rw [impl_JudgeOne_eq, WorldOk_law2 h, bnd, Honest_law2 h, bnd]
  unfold oneOk
  dsimp only
  cases hw : worldOk w with
  | false => rfl
  | true =>
    rw [Bool.not_true, br_false, Bool.true_and, all_to (fun m k => impl_JudgeOne_1 F0 (impl_JudgeOne_1_k F0) m (impl_JudgeOne_1_s ((honestL w).length : Int) k w.1.1 w.1.2 w.2.1 w.2.2.1 w.2.2.2.1 w.2.2.2.2 (honestL w))) (honestL w).length (fun i => (List.range (honestL w).length).all fun k => meetD (dn w i) (dn w k)) (some (true, ())) (some (false, ())) (fun m k hk => ?_) (fun m => ?_) _ (by rw [n_eq]; omega), ite_some]
    · rw [impl_JudgeOne_1_step, dec_lt hk, br_true, okI_nat hk, ck_true, show (((w.1.1, w.1.2), (w.2.1, (w.2.2.1, (w.2.2.2.1, w.2.2.2.2)))) : WorldD) = w from rfl, Honest_law2 h, bnd]
      dsimp only
      rw [at_isD hk, one_in2 h _ _ hk, impl_JudgeOne_1_cr]
    · rw [impl_JudgeOne_1_step, dec_nlt, br_false, impl_JudgeOne_1_ce0]
theorem FnExactJudgeOne_true (w : K49.D) (h : Wf K49 w) : laws_FnExactJudgeOne F0 w = some (true, ()) := by
  rw [laws_FnExactJudgeOne_eq]
  obtain ⟨left, h1, h2, h3⟩ := szWorld_ok (lim_of_wf h) 1048576 (by omega) (by omega)
  rw [h1, bnd]
  by_cases hn : left < 0
  · rw [decide_eq_true (show (left, ()).1 < 0 from hn), br_true]
  · have hl := h3 (by omega)
    have hw := worldL_of h hl
    simp only [decide_eq_false hn, br_false, toWorld_ok hl, bnd, JudgeOne_law hw, JudgeOne_law2 hw, eqWorld_ok hl, beq_self_eq_true, Bool.not_true]
/-! ### Certificates -/
def lockOf (w : WorldD) (x : Int) : QcD := (w.2.2.1.getD x.toNat d0Rep).2.2.2.1.2.2.1
def certOf (c : Int × Int) (x : WireD) : List QcD := if ((msgOf c x.2).1.1 == 1) = true then [(msgOf c x.2).1.2.2.1.2] else if ((msgOf c x.2).1.1 == 3) = true then [(msgOf c x.2).1.2.2.2.2.1] else []
def certsTo (c : Int × Int) : List WireD → List QcD → List QcD
  | [], xs => xs
  | x :: l, xs => certsTo c l (xs ++ certOf c x)
theorem certsTo_snoc (c : Int × Int) : ∀ (l : List WireD) (xs : List QcD) (x : WireD), certsTo c (l ++ [x]) xs = certsTo c l xs ++ certOf c x
  | [], _, _ => rfl
  | _ :: l, _, x => certsTo_snoc c l _ x
theorem certOf_len (c : Int × Int) (x : WireD) : (certOf c x).length ≤ 1 := by
  unfold certOf
  split
  · exact Nat.le_refl _
  · split
    · exact Nat.le_refl _
    · exact Nat.zero_le _
theorem certsTo_len (c : Int × Int) : ∀ (l : List WireD) (xs : List QcD), (certsTo c l xs).length ≤ xs.length + l.length
  | [], _ => Nat.le_refl _
  | x :: l, xs => by
    have h1 := certsTo_len c l (xs ++ certOf c x)
    have h2 := certOf_len c x
    rw [List.length_append] at h1
    unfold certsTo
    rw [List.length_cons]
    omega
def certsL (w : WorldD) : List QcD := certsTo w.1 w.2.2.2.1 ((honestL w).map (lockOf w))
theorem cert_step {β : Type} (X : List QcD → β) (c : Int × Int) (x : WireD) (xs : List QcD) :
    br ((msgOf c x.2).1.1 == 1) (X (xs ++ [(msgOf c x.2).1.2.2.1.2])) (br ((msgOf c x.2).1.1 == 3) (X (xs ++ [(msgOf c x.2).1.2.2.2.2.1])) (X xs)) = X (xs ++ certOf c x) := by
  unfold certOf
  cases ((msgOf c x.2).1.1 == 1) with
  | true => rfl
  | false =>
    cases ((msgOf c x.2).1.1 == 3) with
    | true => rfl
    | false =>
      rw [if_neg (by decide), if_neg (by decide), List.append_nil]
      rfl
theorem map_snoc' {α β : Type} (f : α → β) (l : List α) (x : α) : (l ++ [x]).map f = l.map f ++ [f x] := by rw [List.map_append, List.map_singleton]
def badC (a b : QcD) : Bool := (a.1 == b.1) && !(a.2.1.toList == b.2.1.toList)
def okC (l : List QcD) (i k : Nat) : Bool := !badC (l.getD i d0Qc) (l.getD k d0Qc)
theorem badC_comm (a b : QcD) : badC a b = badC b a := by
  unfold badC
  rw [BEq.comm (a := a.1), BEq.comm (a := a.2.1.toList)]
theorem badC_self (a : QcD) : badC a a = false := by
  unfold badC
  rw [beq_self_eq_true a.2.1.toList]
  simp
def certsOk (w : WorldD) : Bool := worldOk w && (List.range (certsL w).length).all fun i => (List.range (certsL w).length).all (okC (certsL w) i)
theorem certs_pairs (l : List QcD) : ((List.range l.length).all fun i => (List.range i).all (okC l i)) = (List.range l.length).all fun i => (List.range l.length).all (okC l i) :=
  all_pairs (fun i k _ _ => by unfold okC; rw [badC_comm]) (fun i _ => by unfold okC; rw [badC_self]; rfl)
theorem certsL_len {w : WorldD} (h : WorldL w) : (certsL w).length ≤ 2097152 := by
  have hlen : (honestL w).length ≤ 1048576 := Nat.le_trans (honest_len w.2.1 w.2.2.1.length) h.r
  have h1 := certsTo_len w.1 w.2.2.2.1 ((honestL w).map (lockOf w))
  have h2 := h.n
  rw [List.length_map] at h1
  unfold certsL
  omega
theorem certs_step {β : Type} (e1 e2 : Bool) (x y : β) : br e1 (br (!e2) x y) y = if (!(e1 && !e2)) = true then y else x := by cases e1 <;> cases e2 <;> rfl
end Go.Am.Tryz
