/- Plain laws: one chain, certificates judged; the laws of JudgeOne, JudgeCerts. No condition. -/
import Derived.Test.YtkkgagllehdhhaaGreatDoorZlLawTop
set_option linter.unusedVariables false
set_option linter.unusedSimpArgs false
namespace Go.Am.Tryz
open Go.Am
theorem rep_name {w : WorldD} (h : worldOk w = true) {j : Nat} (hj : j < w.2.2.1.length) : nameOk (w.2.2.1[j]).2.2.2.1.2.2.2.data.toList = true := by
  simp only [worldOk, Bool.and_eq_true] at h
  have h1 := List.all_eq_true.1 h.2.2.2.2.2.2.1 j (List.mem_range.2 hj)
  simp only [repAt, getD_is hj, Bool.and_eq_true] at h1
  have h2 := h1.1
  simp only [repOk, Bool.and_eq_true] at h2
  have h3 := h2.2.2.2.2.1
  simp only [safeOk, Bool.and_eq_true] at h3
  exact h3.2.2.2
def dn (w : WorldD) (i : Nat) : ByteArray := doneOf w ((honestL w).getD i 0)
theorem dn_is {w : WorldD} {i j : Nat} (hi : i < (honestL w).length) (e : (honestL w)[i] = (j : Int)) (hj : j < w.2.2.1.length) : dn w i = (w.2.2.1[j]).2.2.2.1.2.2.2 := by
  unfold dn doneOf
  rw [getD_is hi, e, Int.toNat_natCast, getD_is hj]
def oneOk (w : WorldD) : Bool := worldOk w && (List.range (honestL w).length).all fun i => (List.range (honestL w).length).all fun k => meetD (dn w i) (dn w k)
theorem one_pairs {w : WorldD} (hw : worldOk w = true) : ((List.range (honestL w).length).all fun i => (List.range i).all fun k => meetD (dn w i) (dn w k)) = (List.range (honestL w).length).all fun i => (List.range (honestL w).length).all fun k => meetD (dn w i) (dn w k) :=
  all_pairs (q := fun i k => meetD (dn w i) (dn w k)) (fun i k _ _ => meetD_comm _ _) (fun i hi => by
    obtain ⟨j, e, hj⟩ := honest_at hi
    rw [dn_is hi e hj]
    exact meetD_self (rep_name hw hj))
theorem one_in {w : WorldD} (h : WorldL w) {γ : Type} (κ : Ex → St → Option γ) (n : Nat) {i : Nat} (hi : i < (honestL w).length) :
    spec_JudgeOne_2 F0 (spec_JudgeOne_2_k F0 κ n) F0.n (spec_JudgeOne_2_s (i : Int) 0 w.1.1 w.1.2 w.2.1 w.2.2.1 w.2.2.2.1 w.2.2.2.2 (honestL w)) =
    if ((List.range i).all fun k => meetD (dn w i) (dn w k)) = true then spec_JudgeOne_1 F0 κ n (spec_JudgeOne_1_s ((i + 1 : Nat) : Int) w.1.1 w.1.2 w.2.1 w.2.2.1 w.2.2.2.1 w.2.2.2.2 (honestL w)) else κ .ret (spec_JudgeOne_1_r false) := by
  have hlen : (honestL w).length ≤ 1048576 := Nat.le_trans (honest_len w.2.1 w.2.2.1.length) h.r
  obtain ⟨j, e, hj⟩ := honest_at hi
  refine all_to (fun m k => spec_JudgeOne_2 F0 (spec_JudgeOne_2_k F0 κ n) m (spec_JudgeOne_2_s (i : Int) k w.1.1 w.1.2 w.2.1 w.2.2.1 w.2.2.2.1 w.2.2.2.2 (honestL w))) i (fun k => meetD (dn w i) (dn w k)) _ _ (fun m k hk => ?_) (fun m => ?_) _ (by rw [n_eq]; omega)
  · have hk' : k < (honestL w).length := by omega
    obtain ⟨j', e', hj'⟩ := honest_at hk'
    rw [spec_JudgeOne_2_step, dec_lt hk, br_true, okI_nat hi, ck_true, at_isD hi, e, okI_nat hj, ck_true, okI_nat hk', ck_true, at_isD hk', e', okI_nat hj', ck_true, at_isD hj, at_isD hj', Meets_law (h.rl _ (List.getElem_mem hj)).s.2 (h.rl _ (List.getElem_mem hj')).s.2, bnd, spec_JudgeOne_2_cr, w64_succ (by omega), dn_is hi e hj, dn_is hk' e' hj']
    dsimp only
    cases meetD (w.2.2.1[j]).2.2.2.1.2.2.2 (w.2.2.1[j']).2.2.2.1.2.2.2 <;> rfl
  · rw [spec_JudgeOne_2_step, dec_nlt, br_false, spec_JudgeOne_2_ce2, w64_succ (by omega)]
theorem JudgeOne_law {w : WorldD} (h : WorldL w) : spec_JudgeOne F0 w = some (oneOk w, ()) := by
  have hlen : (honestL w).length ≤ 1048576 := Nat.le_trans (honest_len w.2.1 w.2.2.1.length) h.r
  rw [spec_JudgeOne_eq, WorldOk_law h, bnd, Honest_law h, bnd]
  unfold oneOk
  dsimp only
  cases hw : worldOk w with
  | false => rfl
  | true =>
    rw [Bool.not_true, br_false, Bool.true_and, all_to (fun m k => spec_JudgeOne_1 F0 (spec_JudgeOne_1_k F0) m (spec_JudgeOne_1_s k w.1.1 w.1.2 w.2.1 w.2.2.1 w.2.2.2.1 w.2.2.2.2 (honestL w))) (honestL w).length (fun i => (List.range i).all fun k => meetD (dn w i) (dn w k)) (some (true, ())) (some (false, ())) (fun m k hk => ?_) (fun m => ?_) _ (by rw [n_eq]; omega), ite_some, one_pairs hw]
    · rw [spec_JudgeOne_1_step, dec_lt hk, br_true, one_in h _ _ hk, spec_JudgeOne_1_cr]
    · rw [spec_JudgeOne_1_step, dec_nlt, br_false, spec_JudgeOne_1_ce0]
theorem one_in2 {w : WorldD} (h : WorldL w) {γ : Type} (κ : Ex → St → Option γ) (n : Nat) {i : Nat} (hi : i < (honestL w).length) :
    impl_JudgeOne_2 F0 (impl_JudgeOne_2_k F0 κ n) F0.n (impl_JudgeOne_2_s (honestL w)[i] ((honestL w).length : Int) (i : Int) ((honestL w).length : Int) 0 w.1.1 w.1.2 w.2.1 w.2.2.1 w.2.2.2.1 w.2.2.2.2 (honestL w) (honestL w)) =
    if ((List.range (honestL w).length).all fun k => meetD (dn w i) (dn w k)) = true then impl_JudgeOne_1 F0 κ n (impl_JudgeOne_1_s ((honestL w).length : Int) ((i + 1 : Nat) : Int) w.1.1 w.1.2 w.2.1 w.2.2.1 w.2.2.2.1 w.2.2.2.2 (honestL w)) else κ .ret (impl_JudgeOne_1_r false) := by
  have hlen : (honestL w).length ≤ 1048576 := Nat.le_trans (honest_len w.2.1 w.2.2.1.length) h.r
  obtain ⟨j, e, hj⟩ := honest_at hi
  refine all_to (fun m k => impl_JudgeOne_2 F0 (impl_JudgeOne_2_k F0 κ n) m (impl_JudgeOne_2_s (honestL w)[i] ((honestL w).length : Int) (i : Int) ((honestL w).length : Int) k w.1.1 w.1.2 w.2.1 w.2.2.1 w.2.2.2.1 w.2.2.2.2 (honestL w) (honestL w))) (honestL w).length (fun k => meetD (dn w i) (dn w k)) _ _ (fun m k hk => ?_) (fun m => ?_) _ (by rw [n_eq]; omega)
  · obtain ⟨j', e', hj'⟩ := honest_at hk
    rw [impl_JudgeOne_2_step, dec_lt hk, br_true, okI_nat hk, ck_true, e, okI_nat hj, ck_true, at_isD hk, e', okI_nat hj', ck_true, at_isD hj, at_isD hj', Meets_law2 (h.rl _ (List.getElem_mem hj)).s.2 (h.rl _ (List.getElem_mem hj')).s.2, bnd, impl_JudgeOne_2_cr, w64_succ (by omega), dn_is hi e hj, dn_is hk e' hj']
    dsimp only
    cases meetD (w.2.2.1[j]).2.2.2.1.2.2.2 (w.2.2.1[j']).2.2.2.1.2.2.2 <;> rfl
  · rw [impl_JudgeOne_2_step, dec_nlt, br_false, impl_JudgeOne_2_ce2, w64_succ (by omega)]
theorem JudgeOne_law2 {w : WorldD} (h : WorldL w) : impl_JudgeOne F0 w = some (oneOk w, ()) := by
  have hlen : (honestL w).length ≤ 1048576 := Nat.le_trans (honest_len w.2.1 w.2.2.1.length) h.r
  rw [impl_JudgeOne_eq, WorldOk_law2 h, bnd, Honest_law2 h, bnd]
  unfold oneOk
  dsimp only
  cases hw : worldOk w with
  | false => rfl
  | true =>
    rw [Bool.not_true, br_false, Bool.true_and, all_to (fun m k => impl_JudgeOne_1 F0 (impl_JudgeOne_1_k F0) m (impl_JudgeOne_1_s ((honestL w).length : Int) k w.1.1 w.1.2 w.2.1 w.2.2.1 w.2.2.2.1 w.2.2.2.2 (honestL w))) (honestL w).length (fun i => (List.range (honestL w).length).all fun k => meetD (dn w i) (dn w k)) (some (true, ())) (some (false, ())) (fun m k hk => ?_) (fun m => ?_) _ (by rw [n_eq]; omega), ite_some]
    · rw [impl_JudgeOne_1_step, dec_lt hk, br_true, okI_nat hk, ck_true, show (((w.1.1, w.1.2), (w.2.1, (w.2.2.1, (w.2.2.2.1, w.2.2.2.2)))) : WorldD) = w from rfl, Honest_law2 h, bnd]
      dsimp only
      rw [at_isD hk, one_in2 h _ _ hk, impl_JudgeOne_1_cr]
    · rw [impl_JudgeOne_1_step, dec_nlt, br_false, impl_JudgeOne_1_ce0]
/-! ### Certificates -/
def lockOf (w : WorldD) (x : Int) : QcD := (w.2.2.1.getD x.toNat d0Rep).2.2.2.1.2.2.1
def certOf (c : Int × Int) (x : WireD) : List QcD := if ((msgOf c x.2).1.1 == 1) = true then [(msgOf c x.2).1.2.2.1.2] else if ((msgOf c x.2).1.1 == 3) = true then [(msgOf c x.2).1.2.2.2.2.1] else []
def certsTo (c : Int × Int) : List WireD → List QcD → List QcD
  | [], xs => xs
  | x :: l, xs => certsTo c l (xs ++ certOf c x)
theorem certsTo_snoc (c : Int × Int) : ∀ (l : List WireD) (xs : List QcD) (x : WireD), certsTo c (l ++ [x]) xs = certsTo c l xs ++ certOf c x
  | [], _, _ => rfl
  | _ :: l, _, x => certsTo_snoc c l _ x
theorem certOf_len (c : Int × Int) (x : WireD) : (certOf c x).length ≤ 1 := by
  unfold certOf
  split
  · exact Nat.le_refl _
  · split
    · exact Nat.le_refl _
    · exact Nat.zero_le _
theorem certsTo_len (c : Int × Int) : ∀ (l : List WireD) (xs : List QcD), (certsTo c l xs).length ≤ xs.length + l.length
  | [], _ => Nat.le_refl _
  | x :: l, xs => by
    have h1 := certsTo_len c l (xs ++ certOf c x)
    have h2 := certOf_len c x
    rw [List.length_append] at h1
    unfold certsTo
    rw [List.length_cons]
    omega
def certsL (w : WorldD) : List QcD := certsTo w.1 w.2.2.2.1 ((honestL w).map (lockOf w))
theorem cert_step {β : Type} (X : List QcD → β) (c : Int × Int) (x : WireD) (xs : List QcD) :
    br ((msgOf c x.2).1.1 == 1) (X (xs ++ [(msgOf c x.2).1.2.2.1.2])) (br ((msgOf c x.2).1.1 == 3) (X (xs ++ [(msgOf c x.2).1.2.2.2.2.1])) (X xs)) = X (xs ++ certOf c x) := by
  unfold certOf
  cases ((msgOf c x.2).1.1 == 1) with
  | true => rfl
  | false =>
    cases ((msgOf c x.2).1.1 == 3) with
    | true => rfl
    | false =>
      rw [if_neg (by decide), if_neg (by decide), List.append_nil]
      rfl
theorem map_snoc' {α β : Type} (f : α → β) (l : List α) (x : α) : (l ++ [x]).map f = l.map f ++ [f x] := by rw [List.map_append, List.map_singleton]
theorem certs_net {w : WorldD} (h : WorldL w) {base : List QcD} (hb : base.length ≤ 1048576) : spec_l21Certs_2 F0 (spec_l21Certs_2_k F0) F0.n (spec_l21Certs_2_s w 0 base) = some (certsTo w.1 w.2.2.2.1 base, ()) := by
  have hn := h.n
  refine loop_to (fun n i (xs : List QcD) => spec_l21Certs_2 F0 (spec_l21Certs_2_k F0) n (spec_l21Certs_2_s w i xs)) w.2.2.2.1.length (fun k xs => xs = certsTo w.1 (w.2.2.2.1.take k) base) _ (fun n k xs hk hx => .inr ⟨certsTo w.1 (w.2.2.2.1.take (k + 1)) base, ?_, rfl⟩) (fun n xs hx => ?_) _ 0 base (Nat.zero_le _) rfl (by rw [n_eq]; omega)
  · have hl := certsTo_len w.1 (w.2.2.2.1.take k) base
    rw [← hx, List.length_take] at hl
    rw [spec_l21Certs_2_step, dec_lt hk, br_true, okI_nat hk, ck_true, at_isD hk, MsgOf_law (h.nb _ (List.getElem_mem hk)), bnd, okA_le (by omega) (by omega) (by rw [List.length_singleton]; omega), ck_true, okA_le (by omega) (by omega) (by rw [List.length_singleton]; omega), ck_true, w64_succ (by omega), take_succ_is hk, certsTo_snoc, ← hx]
    exact cert_step (fun xs => spec_l21Certs_2 F0 (spec_l21Certs_2_k F0) n (spec_l21Certs_2_s w ((k + 1 : Nat) : Int) xs)) w.1 w.2.2.2.1[k] xs
  · rw [spec_l21Certs_2_step, dec_nlt, br_false, spec_l21Certs_2_ce2, hx, List.take_length]
theorem l21Certs_law {w : WorldD} (h : WorldL w) : spec_l21Certs F0 w = some (certsL w, ()) := by
  have hlen : (honestL w).length ≤ 1048576 := Nat.le_trans (honest_len w.2.1 w.2.2.1.length) h.r
  rw [spec_l21Certs_eq, Honest_law h, bnd]
  refine loop_to (fun n i (xs : List QcD) => spec_l21Certs_1 F0 (spec_l21Certs_1_k F0) n (spec_l21Certs_1_s w i xs (honestL w))) (honestL w).length (fun k xs => xs = ((honestL w).take k).map (lockOf w)) _ (fun n k xs hk hx => .inr ⟨((honestL w).take (k + 1)).map (lockOf w), ?_, rfl⟩) (fun n xs hx => ?_) _ 0 [] (Nat.zero_le _) rfl (by rw [n_eq]; omega)
  · obtain ⟨j, e, hj⟩ := honest_at hk
    have hl : xs.length ≤ 1048576 := by
      rw [hx, List.length_map, List.length_take]
      omega
    have hd : lockOf w (j : Int) = (w.2.2.1[j]).2.2.2.1.2.2.1 := by
      unfold lockOf
      rw [Int.toNat_natCast, getD_is hj]
    rw [spec_l21Certs_1_step, dec_lt hk, br_true, okI_nat hk, ck_true, at_isD hk, e, okI_nat hj, ck_true, okA_le (by omega) (by omega) (by rw [List.length_singleton]; omega), ck_true, w64_succ (by omega), at_isD hj, take_succ_is hk, map_snoc', ← hx, e, hd]
  · rw [spec_l21Certs_1_step, dec_nlt, br_false, spec_l21Certs_1_ce0, hx, List.take_length, certs_net h (by rw [List.length_map]; omega)]
    rfl
def badC (a b : QcD) : Bool := (a.1 == b.1) && !(a.2.1.toList == b.2.1.toList)
def okC (l : List QcD) (i k : Nat) : Bool := !badC (l.getD i d0Qc) (l.getD k d0Qc)
theorem badC_comm (a b : QcD) : badC a b = badC b a := by
  unfold badC
  rw [BEq.comm (a := a.1), BEq.comm (a := a.2.1.toList)]
theorem badC_self (a : QcD) : badC a a = false := by
  unfold badC
  rw [beq_self_eq_true a.2.1.toList]
  simp
def certsOk (w : WorldD) : Bool := worldOk w && (List.range (certsL w).length).all fun i => (List.range (certsL w).length).all (okC (certsL w) i)
theorem certs_pairs (l : List QcD) : ((List.range l.length).all fun i => (List.range i).all (okC l i)) = (List.range l.length).all fun i => (List.range l.length).all (okC l i) :=
  all_pairs (fun i k _ _ => by unfold okC; rw [badC_comm]) (fun i _ => by unfold okC; rw [badC_self]; rfl)
theorem certsL_len {w : WorldD} (h : WorldL w) : (certsL w).length ≤ 2097152 := by
  have hlen : (honestL w).length ≤ 1048576 := Nat.le_trans (honest_len w.2.1 w.2.2.1.length) h.r
  have h1 := certsTo_len w.1 w.2.2.2.1 ((honestL w).map (lockOf w))
  have h2 := h.n
  rw [List.length_map] at h1
  unfold certsL
  omega
theorem certs_step {β : Type} (e1 e2 : Bool) (x y : β) : br e1 (br (!e2) x y) y = if (!(e1 && !e2)) = true then y else x := by cases e1 <;> cases e2 <;> rfl
theorem certs_in {l : List QcD} (hl : l.length ≤ 2097152) {γ : Type} (κ : Ex → St → Option γ) (n : Nat) {i : Nat} (hi : i < l.length) : spec_JudgeCerts_2 F0 (spec_JudgeCerts_2_k F0 κ n) F0.n (spec_JudgeCerts_2_s l (i : Int) 0) =
    if (List.range i).all (okC l i) = true then spec_JudgeCerts_1 F0 κ n (spec_JudgeCerts_1_s l ((i + 1 : Nat) : Int)) else κ .ret (spec_JudgeCerts_1_r false) := by
  refine all_to (fun m k => spec_JudgeCerts_2 F0 (spec_JudgeCerts_2_k F0 κ n) m (spec_JudgeCerts_2_s l (i : Int) k)) i (okC l i) _ _ (fun m k hk => ?_) (fun m => ?_) _ (by rw [n_eq]; omega)
  · have hk' : k < l.length := by omega
    rw [spec_JudgeCerts_2_step, dec_lt hk, br_true, okI_nat hi, ck_true, okI_nat hk', ck_true, at_isD hi, at_isD hk', ck_true, ck_true, spec_JudgeCerts_2_cr, w64_succ (by omega), certs_step]
    unfold okC badC
    rw [getD_is hi, getD_is hk']
  · rw [spec_JudgeCerts_2_step, dec_nlt, br_false, spec_JudgeCerts_2_ce2, w64_succ (by omega)]
theorem JudgeCerts_law {w : WorldD} (h : WorldL w) : spec_JudgeCerts F0 w = some (certsOk w, ()) := by
  have hl := certsL_len h
  rw [spec_JudgeCerts_eq, WorldOk_law h, bnd, l21Certs_law h, bnd]
  dsimp only
  rw [all_to (fun m k => spec_JudgeCerts_1 F0 (spec_JudgeCerts_1_k F0) m (spec_JudgeCerts_1_s (certsL w) k)) (certsL w).length (fun i => (List.range i).all (okC (certsL w) i)) (some (true, ())) (some (false, ())) (fun m k hk => ?_) (fun m => ?_) _ (by rw [n_eq]; omega), ite_some, certs_pairs]
  · unfold certsOk
    cases worldOk w <;> rfl
  · rw [spec_JudgeCerts_1_step, dec_lt hk, br_true, certs_in hl _ _ hk, spec_JudgeCerts_1_cr]
  · rw [spec_JudgeCerts_1_step, dec_nlt, br_false, spec_JudgeCerts_1_ce0]
theorem certs_in2 {l : List QcD} (hl : l.length ≤ 2097152) {γ : Type} (κ : Ex → St → Option γ) (n : Nat) {i : Nat} (hi : i < l.length) : impl_JudgeCerts_4 F0 (impl_JudgeCerts_4_k F0 κ n) F0.n (impl_JudgeCerts_4_s (l.length : Int) (i : Int) (l.length : Int) 0 (l[i]).1 (l[i]).2.1 (l[i]).2.2 l) =
    if (List.range l.length).all (okC l i) = true then impl_JudgeCerts_3 F0 κ n (impl_JudgeCerts_3_s (l.length : Int) ((i + 1 : Nat) : Int) l) else κ .ret (impl_JudgeCerts_3_r false) := by
  refine all_to (fun m k => impl_JudgeCerts_4 F0 (impl_JudgeCerts_4_k F0 κ n) m (impl_JudgeCerts_4_s (l.length : Int) (i : Int) (l.length : Int) k (l[i]).1 (l[i]).2.1 (l[i]).2.2 l)) l.length (okC l i) _ _ (fun m k hk => ?_) (fun m => ?_) _ (by rw [n_eq]; omega)
  · rw [impl_JudgeCerts_4_step, dec_lt hk, br_true, okI_nat hk, ck_true, at_isD hk, impl_JudgeCerts_4_cr, w64_succ (by omega), certs_step]
    unfold okC badC
    rw [getD_is hi, getD_is hk]
  · rw [impl_JudgeCerts_4_step, dec_nlt, br_false, impl_JudgeCerts_4_ce7, w64_succ (by omega)]
theorem certs_all2 {l : List QcD} (hl : l.length ≤ 2097152) : impl_JudgeCerts_3 F0 (impl_JudgeCerts_3_k F0) F0.n (impl_JudgeCerts_3_s (l.length : Int) 0 l) = some (((List.range l.length).all fun i => (List.range l.length).all (okC l i)), ()) := by
  rw [all_to (fun m k => impl_JudgeCerts_3 F0 (impl_JudgeCerts_3_k F0) m (impl_JudgeCerts_3_s (l.length : Int) k l)) l.length (fun i => (List.range l.length).all (okC l i)) (some (true, ())) (some (false, ())) (fun m k hk => ?_) (fun m => ?_) _ (by rw [n_eq]; omega), ite_some]
  · rw [impl_JudgeCerts_3_step, dec_lt hk, br_true, okI_nat hk, ck_true, at_isD hk, certs_in2 hl _ _ hk, impl_JudgeCerts_3_cr]
  · rw [impl_JudgeCerts_3_step, dec_nlt, br_false, impl_JudgeCerts_3_ce5]
theorem certs_net2 {w : WorldD} (h : WorldL w) {base : List QcD} (hb : base.length ≤ 1048576) {R : Option (Bool × Unit)} (hR : impl_JudgeCerts_2_k F0 (.exit 2) (impl_JudgeCerts_2_e2 (certsTo w.1 w.2.2.2.1 base)) = R) :
    impl_JudgeCerts_2 F0 (impl_JudgeCerts_2_k F0) F0.n (impl_JudgeCerts_2_s w.2.2.2.1 (w.2.2.2.1.length : Int) 0 w.1.1 w.1.2 w.2.1 w.2.2.1 w.2.2.2.1 w.2.2.2.2 base) = R := by
  have hn := h.n
  refine loop_to (fun n i (xs : List QcD) => impl_JudgeCerts_2 F0 (impl_JudgeCerts_2_k F0) n (impl_JudgeCerts_2_s w.2.2.2.1 (w.2.2.2.1.length : Int) i w.1.1 w.1.2 w.2.1 w.2.2.1 w.2.2.2.1 w.2.2.2.2 xs)) w.2.2.2.1.length (fun k xs => xs = certsTo w.1 (w.2.2.2.1.take k) base) _ (fun n k xs hk hx => .inr ⟨certsTo w.1 (w.2.2.2.1.take (k + 1)) base, ?_, rfl⟩) (fun n xs hx => ?_) _ 0 base (Nat.zero_le _) rfl (by rw [n_eq]; omega)
  · have hl := certsTo_len w.1 (w.2.2.2.1.take k) base
    rw [← hx, List.length_take] at hl
    rw [impl_JudgeCerts_2_step, dec_lt hk, br_true, okI_nat hk, ck_true, at_isD hk, show ((w.1.1, w.1.2) : Int × Int) = w.1 from rfl, MsgOf_law2 (h.nb _ (List.getElem_mem hk)), bnd, okA_le (by omega) (by omega) (by rw [List.length_singleton]; omega), ck_true, okA_le (by omega) (by omega) (by rw [List.length_singleton]; omega), ck_true, w64_succ (by omega), take_succ_is hk, certsTo_snoc, ← hx]
    exact cert_step (fun xs => impl_JudgeCerts_2 F0 (impl_JudgeCerts_2_k F0) n (impl_JudgeCerts_2_s w.2.2.2.1 (w.2.2.2.1.length : Int) ((k + 1 : Nat) : Int) w.1.1 w.1.2 w.2.1 w.2.2.1 w.2.2.2.1 w.2.2.2.2 xs)) w.1 w.2.2.2.1[k] xs
  · rw [impl_JudgeCerts_2_step, dec_nlt, br_false, hx, List.take_length]
    exact hR
theorem JudgeCerts_law2 {w : WorldD} (h : WorldL w) : impl_JudgeCerts F0 w = some (certsOk w, ()) := by
  have hlen : (honestL w).length ≤ 1048576 := Nat.le_trans (honest_len w.2.1 w.2.2.1.length) h.r
  have hl := certsL_len h
  rw [impl_JudgeCerts_eq, WorldOk_law2 h, bnd, Honest_law2 h, bnd]
  dsimp only
  have key : impl_JudgeCerts_1 F0 (impl_JudgeCerts_1_k F0) F0.n (impl_JudgeCerts_1_s ((honestL w).length : Int) 0 w.1.1 w.1.2 w.2.1 w.2.2.1 w.2.2.2.1 w.2.2.2.2 [] (honestL w)) = some (((List.range (certsL w).length).all fun i => (List.range (certsL w).length).all (okC (certsL w) i)), ()) := by
    refine loop_to (fun n i (xs : List QcD) => impl_JudgeCerts_1 F0 (impl_JudgeCerts_1_k F0) n (impl_JudgeCerts_1_s ((honestL w).length : Int) i w.1.1 w.1.2 w.2.1 w.2.2.1 w.2.2.2.1 w.2.2.2.2 xs (honestL w))) (honestL w).length (fun k xs => xs = ((honestL w).take k).map (lockOf w)) _ (fun n k xs hk hx => .inr ⟨((honestL w).take (k + 1)).map (lockOf w), ?_, rfl⟩) (fun n xs hx => ?_) _ 0 [] (Nat.zero_le _) rfl (by rw [n_eq]; omega)
    · obtain ⟨j, e, hj⟩ := honest_at hk
      have hl : xs.length ≤ 1048576 := by
        rw [hx, List.length_map, List.length_take]
        omega
      have hd : lockOf w (j : Int) = (w.2.2.1[j]).2.2.2.1.2.2.1 := by
        unfold lockOf
        rw [Int.toNat_natCast, getD_is hj]
      rw [impl_JudgeCerts_1_step, dec_lt hk, br_true, okI_nat hk, ck_true, at_isD hk, e, okI_nat hj, ck_true, okA_le (by omega) (by omega) (by rw [List.length_singleton]; omega), ck_true, w64_succ (by omega), at_isD hj, take_succ_is hk, map_snoc', ← hx, e, hd]
    · rw [impl_JudgeCerts_1_step, dec_nlt, br_false, impl_JudgeCerts_1_ce0, hx, List.take_length]
      exact certs_net2 h (by rw [List.length_map]; omega) (by rw [impl_JudgeCerts_2_ce2]; exact certs_all2 hl)
  rw [key]
  unfold certsOk
  cases worldOk w <;> rfl
end Go.Am.Tryz
