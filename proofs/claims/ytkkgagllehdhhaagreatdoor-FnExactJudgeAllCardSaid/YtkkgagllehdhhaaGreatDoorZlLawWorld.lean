/- Plain laws: worlds that are right, that have room; the law of RoomOk. No condition. -/
import Derived.Test.YtkkgagllehdhhaaGreatDoorZlLawC
import Derived.Test.YtkkgagllehdhhaaGreatDoorZlLawData
import Derived.Test.YtkkgagllehdhhaaGreatDoorAmWf
set_option linter.unusedVariables false
set_option linter.unusedSimpArgs false
namespace Go.Am.Tryz
open Go.Am
theorem i64_in {n : Int} (h : Wf (.int .i64) n) : I64 n := by
  have h0 : (Lit.int .i64 n).wf = true := h
  have h1 : IntKind.i64.min = -9223372036854775808 := rfl
  have h2 : IntKind.i64.max = 9223372036854775807 := rfl
  simp only [Lit.wf, Bool.and_eq_true, decide_eq_true_eq, h1, h2] at h0
  exact h0
theorem u8_in {n : Int} (h : Wf (.int .u8) n) : 0 ≤ n ∧ n ≤ 255 := by
  have h0 : (Lit.int .u8 n).wf = true := h
  have h1 : IntKind.u8.min = 0 := rfl
  have h2 : IntKind.u8.max = 255 := rfl
  simp only [Lit.wf, Bool.and_eq_true, decide_eq_true_eq, h1, h2] at h0
  exact h0
/-- A world's bulk. -/
structure WorldL (w : WorldD) : Prop where
  l : w.2.1.length ≤ 1048576
  r : w.2.2.1.length ≤ 1048576
  rl : ∀ x ∈ w.2.2.1, RepL x
  n : w.2.2.2.1.length ≤ 1048576
  nb : ∀ x ∈ w.2.2.2.1, Bytes x.2
  s : w.2.2.2.2.length ≤ 1048576
  st : ∀ x ∈ w.2.2.2.2, x.2.1.size ≤ 1048576
theorem qcL_of {q : QcD} (h : Lim 1048576 K8 q) : QcL q := ⟨h.2.1, h.2.2.1⟩
theorem repL_of {r : K30.D} (h : Lim 1048576 K30 r) : RepL r :=
  ⟨⟨qcL_of h.2.2.2.1.2.2.1, h.2.2.2.1.2.2.2⟩, h.2.2.2.2.1.1, h.2.2.2.2.2.1.1, fun q hq => qcL_of (h.2.2.2.2.2.1.2 q hq), h.2.2.2.2.2.2.2.1, fun q hq => by
    have := h.2.2.2.2.2.2.2.2 q hq
    exact ⟨this.2.2.2.1.1, qcL_of this.2.2.2.1.2, qcL_of this.2.2.2.2.1, qcL_of this.2.2.2.2.2.1⟩⟩
theorem worldL_of {w : K49.D} (h : Wf K49 w) (hl : Lim 1048576 K49 w) : WorldL w :=
  ⟨hl.2.1.1, hl.2.2.1.1, fun x hx => repL_of (hl.2.2.1.2 x hx), hl.2.2.2.1.1, fun x hx => ⟨(hl.2.2.2.1.2 x hx).2.1, fun y hy => u8_in ((h.2.2.2.1.2 x hx).2.2 y hy)⟩, hl.2.2.2.2.1, fun x hx => (hl.2.2.2.2.2 x hx).2.1⟩
theorem Faults_law (c : Int × Int) : spec_Faults F0 c = some (faults c, ()) := by
  rw [spec_Faults_eq, ConfOk_law, bnd]
  unfold faults
  dsimp only
  cases h : confOk c with
  | false => rfl
  | true =>
    have := confOk_n h
    have h3 := third this.1 this.2.1
    have e : w64 (c.1 - 1) = c.1 - 1 := w64_in (by omega) (by omega)
    rw [Bool.not_true, br_false, e, w64_in (n := Int.tdiv (c.1 - 1) 3) (by omega) (by omega), if_pos rfl]
def d0Rep : RepD := (0, 0, 0, (0, 0, d0Qc, ByteArray.mk #[]), [], [], ([], 0), [])
def d0Wire : WireD := (0, [])
def d0Said : SaidD := (0, ByteArray.mk #[], 0)
def repAt (c : Int × Int) (l : List RepD) (k : Nat) : Bool := repOk c (l.getD k d0Rep) && ((l.getD k d0Rep).1 == (k : Int))
def wireAt (c : Int × Int) (l : List WireD) (k : Nat) : Bool := (msgOf c (l.getD k d0Wire).2).2 && inR 0 (w64 (c.1 - 1)) (l.getD k d0Wire).1
def saidAt (c : Int × Int) (l : List SaidD) (k : Nat) : Bool := inR 0 (w64 (c.1 - 1)) (l.getD k d0Said).2.2 && (nameOk (l.getD k d0Said).2.1.data.toList && (viewOf (l.getD k d0Said).2.1.data.toList == (l.getD k d0Said).1))
def repsOk (w : WorldD) : Bool := (List.range w.2.2.1.length).all (repAt w.1 w.2.2.1)
def wiresOk (w : WorldD) : Bool := (List.range w.2.2.2.1.length).all (wireAt w.1 w.2.2.2.1)
def saidsOk (w : WorldD) : Bool := (List.range w.2.2.2.2.length).all (saidAt w.1 w.2.2.2.2)
def worldOk (w : WorldD) : Bool :=
  confOk w.1 && (setOk w.1.1 w.2.1 && (!decide ((w.2.1.length : Int) > faults w.1) && (!((w.2.2.1.length : Int) != w.1.1) && (!decide ((w.2.2.2.1.length : Int) > 60) && (!decide ((w.2.2.2.2.length : Int) > 300) && (repsOk w && (wiresOk w && saidsOk w)))))))
theorem ite_and (a b : Bool) : (if a = true then some (b, ()) else some (false, ())) = some ((a && b), ()) := by cases a <;> rfl
theorem saids_spec {w : WorldD} (h : WorldL w) : spec_WorldOk_3 F0 (spec_WorldOk_3_k F0) F0.n (spec_WorldOk_3_s 0 w.1.1 w.1.2 w.2.1 w.2.2.1 w.2.2.2.1 w.2.2.2.2) = some (saidsOk w, ()) := by
  have hs := h.s
  rw [all_to (fun m k => spec_WorldOk_3 F0 (spec_WorldOk_3_k F0) m (spec_WorldOk_3_s k w.1.1 w.1.2 w.2.1 w.2.2.1 w.2.2.2.1 w.2.2.2.2)) w.2.2.2.2.length (saidAt w.1 w.2.2.2.2) (some (true, ())) (some (false, ())) (fun m k hk => ?_) (fun m => ?_) _ (by rw [n_eq]; omega), ite_some]
  · rfl
  · have hz := h.st _ (List.getElem_mem hk)
    rw [spec_WorldOk_3_step, dec_lt hk, br_true, okI_nat hk, ck_true, at_isD hk, l1In_lawR, bnd, NameOk_at hz, bnd, ViewOf_at hz, bnd, spec_WorldOk_3_cr, w64_succ (by omega)]
    unfold saidAt
    rw [getD_is hk]
    dsimp only
    cases inR 0 (w64 (w.1.1 - 1)) (w.2.2.2.2[k]).2.2 <;> cases nameOk (w.2.2.2.2[k]).2.1.data.toList <;> try rfl
    by_cases hv : viewOf (w.2.2.2.2[k]).2.1.data.toList = (w.2.2.2.2[k]).1
    · rw [show (viewOf (w.2.2.2.2[k]).2.1.data.toList != (w.2.2.2.2[k]).1) = false from bne_eq_false_iff_eq.2 hv, show (viewOf (w.2.2.2.2[k]).2.1.data.toList == (w.2.2.2.2[k]).1) = true from beq_iff_eq.2 hv]
      rfl
    · rw [bne_iff_ne.2 hv, beq_eq_false_iff_ne.2 hv]
      rfl
  · rw [spec_WorldOk_3_step, dec_nlt, br_false, spec_WorldOk_3_ce4]
theorem wires_spec {w : WorldD} (h : WorldL w) : spec_WorldOk_2 F0 (spec_WorldOk_2_k F0) F0.n (spec_WorldOk_2_s 0 w.1.1 w.1.2 w.2.1 w.2.2.1 w.2.2.2.1 w.2.2.2.2) = some ((wiresOk w && saidsOk w), ()) := by
  have hs := h.n
  rw [all_to (fun m k => spec_WorldOk_2 F0 (spec_WorldOk_2_k F0) m (spec_WorldOk_2_s k w.1.1 w.1.2 w.2.1 w.2.2.1 w.2.2.2.1 w.2.2.2.2)) w.2.2.2.1.length (wireAt w.1 w.2.2.2.1) (some (saidsOk w, ())) (some (false, ())) (fun m k hk => ?_) (fun m => ?_) _ (by rw [n_eq]; omega), ite_and]
  · rfl
  · rw [spec_WorldOk_2_step, dec_lt hk, br_true, okI_nat hk, ck_true, at_isD hk, show ((w.1.1, w.1.2) : Int × Int) = w.1 from rfl, MsgOf_law (h.nb _ (List.getElem_mem hk)), bnd, ck_true, l1In_lawR, bnd, spec_WorldOk_2_cr, w64_succ (by omega)]
    unfold wireAt
    rw [getD_is hk]
    dsimp only
    cases (msgOf w.1 (w.2.2.2.1[k]).2).2 <;> cases inR 0 (w64 (w.1.1 - 1)) (w.2.2.2.1[k]).1 <;> rfl
  · rw [spec_WorldOk_2_step, dec_nlt, br_false, spec_WorldOk_2_ce2, saids_spec h]
theorem reps_spec {w : WorldD} (h : WorldL w) : spec_WorldOk_1 F0 (spec_WorldOk_1_k F0) F0.n (spec_WorldOk_1_s 0 w.1.1 w.1.2 w.2.1 w.2.2.1 w.2.2.2.1 w.2.2.2.2) = some ((repsOk w && (wiresOk w && saidsOk w)), ()) := by
  have hs := h.r
  rw [all_to (fun m k => spec_WorldOk_1 F0 (spec_WorldOk_1_k F0) m (spec_WorldOk_1_s k w.1.1 w.1.2 w.2.1 w.2.2.1 w.2.2.2.1 w.2.2.2.2)) w.2.2.1.length (repAt w.1 w.2.2.1) (some ((wiresOk w && saidsOk w), ())) (some (false, ())) (fun m k hk => ?_) (fun m => ?_) _ (by rw [n_eq]; omega), ite_and]
  · rfl
  · rw [spec_WorldOk_1_step, dec_lt hk, br_true, okI_nat hk, ck_true, at_isD hk, ck_true, show ((w.1.1, w.1.2) : Int × Int) = w.1 from rfl, RepOk_law (h.rl _ (List.getElem_mem hk)), bnd, spec_WorldOk_1_cr, w64_succ (by omega)]
    unfold repAt
    rw [getD_is hk]
    dsimp only
    by_cases hv : (w.2.2.1[k]).1 = (k : Int)
    · rw [show ((w.2.2.1[k]).1 != (k : Int)) = false from bne_eq_false_iff_eq.2 hv, show ((w.2.2.1[k]).1 == (k : Int)) = true from beq_iff_eq.2 hv, br_false, Bool.and_true]
      cases repOk w.1 w.2.2.1[k] <;> rfl
    · rw [bne_iff_ne.2 hv, beq_eq_false_iff_ne.2 hv, br_true, Bool.and_false]
      rfl
  · rw [spec_WorldOk_1_step, dec_nlt, br_false, spec_WorldOk_1_ce0, wires_spec h]
theorem WorldOk_law {w : WorldD} (h : WorldL w) : spec_WorldOk F0 w = some (worldOk w, ()) := by
  rw [spec_WorldOk_eq, ConfOk_law, bnd, SetOk_law (Nat.le_trans h.l (by omega)), bnd, Faults_law, bnd, reps_spec h]
  unfold worldOk
  cases confOk w.1 <;> cases setOk w.1.1 w.2.1 <;> cases decide ((w.2.1.length : Int) > faults w.1) <;> cases ((w.2.2.1.length : Int) != w.1.1) <;> cases decide ((w.2.2.2.1.length : Int) > 60) <;> cases decide ((w.2.2.2.2.length : Int) > 300) <;> rfl
theorem saids_impl {w : WorldD} (h : WorldL w) : impl_WorldOk_3 F0 (impl_WorldOk_3_k F0) F0.n (impl_WorldOk_3_s w.2.2.2.2 (w.2.2.2.2.length : Int) 0 w.1.1 w.1.2) = some (saidsOk w, ()) := by
  have hs := h.s
  rw [all_to (fun m k => impl_WorldOk_3 F0 (impl_WorldOk_3_k F0) m (impl_WorldOk_3_s w.2.2.2.2 (w.2.2.2.2.length : Int) k w.1.1 w.1.2)) w.2.2.2.2.length (saidAt w.1 w.2.2.2.2) (some (true, ())) (some (false, ())) (fun m k hk => ?_) (fun m => ?_) _ (by rw [n_eq]; omega), ite_some]
  · rfl
  · have hz := h.st _ (List.getElem_mem hk)
    rw [impl_WorldOk_3_step, dec_lt hk, br_true, okI_nat hk, ck_true, at_isD hk, within_law3, bnd, NameOk_at2 hz, bnd, ViewOf_at2 hz, bnd, impl_WorldOk_3_cr, w64_succ (by omega)]
    unfold saidAt
    rw [getD_is hk]
    dsimp only
    cases inR 0 (w64 (w.1.1 - 1)) (w.2.2.2.2[k]).2.2 <;> cases nameOk (w.2.2.2.2[k]).2.1.data.toList <;> try rfl
    by_cases hv : viewOf (w.2.2.2.2[k]).2.1.data.toList = (w.2.2.2.2[k]).1
    · rw [show (viewOf (w.2.2.2.2[k]).2.1.data.toList != (w.2.2.2.2[k]).1) = false from bne_eq_false_iff_eq.2 hv, show (viewOf (w.2.2.2.2[k]).2.1.data.toList == (w.2.2.2.2[k]).1) = true from beq_iff_eq.2 hv]
      rfl
    · rw [bne_iff_ne.2 hv, beq_eq_false_iff_ne.2 hv]
      rfl
  · rw [impl_WorldOk_3_step, dec_nlt, br_false, impl_WorldOk_3_ce4]
theorem wires_impl {w : WorldD} (h : WorldL w) : impl_WorldOk_2 F0 (impl_WorldOk_2_k F0) F0.n (impl_WorldOk_2_s w.2.2.2.1 (w.2.2.2.1.length : Int) 0 w.1.1 w.1.2 w.2.1 w.2.2.1 w.2.2.2.1 w.2.2.2.2 w.1.1 w.1.2) = some ((wiresOk w && saidsOk w), ()) := by
  have hs := h.n
  rw [all_to (fun m k => impl_WorldOk_2 F0 (impl_WorldOk_2_k F0) m (impl_WorldOk_2_s w.2.2.2.1 (w.2.2.2.1.length : Int) k w.1.1 w.1.2 w.2.1 w.2.2.1 w.2.2.2.1 w.2.2.2.2 w.1.1 w.1.2)) w.2.2.2.1.length (wireAt w.1 w.2.2.2.1) (some (saidsOk w, ())) (some (false, ())) (fun m k hk => ?_) (fun m => ?_) _ (by rw [n_eq]; omega), ite_and]
  · rfl
  · rw [impl_WorldOk_2_step, dec_lt hk, br_true, okI_nat hk, ck_true, at_isD hk, show ((w.1.1, w.1.2) : Int × Int) = w.1 from rfl, MsgOf_law2 (h.nb _ (List.getElem_mem hk)), bnd, within_law3, bnd, impl_WorldOk_2_cr, w64_succ (by omega)]
    unfold wireAt
    rw [getD_is hk]
    dsimp only
    cases (msgOf w.1 (w.2.2.2.1[k]).2).2 <;> cases inR 0 (w64 (w.1.1 - 1)) (w.2.2.2.1[k]).1 <;> rfl
  · rw [impl_WorldOk_2_step, dec_nlt, br_false, impl_WorldOk_2_ce2, saids_impl h]
theorem reps_impl {w : WorldD} (h : WorldL w) : impl_WorldOk_1 F0 (impl_WorldOk_1_k F0) F0.n (impl_WorldOk_1_s w.2.2.1 (w.2.2.1.length : Int) 0 w.1.1 w.1.2 w.2.1 w.2.2.1 w.2.2.2.1 w.2.2.2.2 w.1.1 w.1.2) = some ((repsOk w && (wiresOk w && saidsOk w)), ()) := by
  have hs := h.r
  rw [all_to (fun m k => impl_WorldOk_1 F0 (impl_WorldOk_1_k F0) m (impl_WorldOk_1_s w.2.2.1 (w.2.2.1.length : Int) k w.1.1 w.1.2 w.2.1 w.2.2.1 w.2.2.2.1 w.2.2.2.2 w.1.1 w.1.2)) w.2.2.1.length (repAt w.1 w.2.2.1) (some ((wiresOk w && saidsOk w), ())) (some (false, ())) (fun m k hk => ?_) (fun m => ?_) _ (by rw [n_eq]; omega), ite_and]
  · rfl
  · rw [impl_WorldOk_1_step, dec_lt hk, br_true, okI_nat hk, ck_true, at_isD hk, show ((w.1.1, w.1.2) : Int × Int) = w.1 from rfl, RepOk_law2 (h.rl _ (List.getElem_mem hk)), bnd, impl_WorldOk_1_cr, w64_succ (by omega)]
    unfold repAt
    rw [getD_is hk]
    dsimp only
    by_cases hv : (w.2.2.1[k]).1 = (k : Int)
    · rw [show ((w.2.2.1[k]).1 != (k : Int)) = false from bne_eq_false_iff_eq.2 hv, show ((w.2.2.1[k]).1 == (k : Int)) = true from beq_iff_eq.2 hv, br_false, Bool.and_true]
      cases repOk w.1 w.2.2.1[k] <;> rfl
    · rw [bne_iff_ne.2 hv, beq_eq_false_iff_ne.2 hv, br_true, Bool.and_false]
      cases repOk w.1 w.2.2.1[k] <;> rfl
  · rw [impl_WorldOk_1_step, dec_nlt, br_false, impl_WorldOk_1_ce0, wires_impl h]
theorem WorldOk_law2 {w : WorldD} (h : WorldL w) : impl_WorldOk F0 w = some (worldOk w, ()) := by
  rw [impl_WorldOk_eq, ConfOk_law2, bnd, SetOk_law2 (Nat.le_trans h.l (by omega)), bnd, Faults_law2, bnd, reps_impl h]
  unfold worldOk
  cases confOk w.1 <;> cases setOk w.1.1 w.2.1 <;> cases decide ((w.2.1.length : Int) > faults w.1) <;> cases ((w.2.2.1.length : Int) != w.1.1) <;> cases decide ((w.2.2.2.1.length : Int) > 60) <;> cases decide ((w.2.2.2.2.length : Int) > 300) <;> rfl
/-! ### Room -/
end Go.Am.Tryz
