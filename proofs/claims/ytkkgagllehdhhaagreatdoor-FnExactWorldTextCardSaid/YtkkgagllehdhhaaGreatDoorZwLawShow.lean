/- Plain laws: replicas and worlds as texts. No condition. -/
import Derived.Test.YtkkgagllehdhhaaGreatDoorZwLawQc
import Derived.Test.YtkkgagllehdhhaaGreatDoorZwLawData
import Derived.Test.YtkkgagllehdhhaaGreatDoorAmWf
set_option linter.unusedVariables false
set_option linter.unusedSimpArgs false
namespace Go.Am.Tryz
open Go.Am
abbrev SafeD := Int × Int × QcD × ByteArray
abbrev MsgD := Int × Int × (ByteArray × QcD) × QcD × QcD × Int × TxD
abbrev RepD := Int × Int × Int × SafeD × List TxD × List QcD × (List Int × Int) × List (Int × MsgD)
def heightOf (l : List UInt8) : Int := if nameOk l = true then ((stepsOf l).1.length : Int) else -1
theorem Height_law {l : List UInt8} (h : l.length ≤ 1073741824) : spec_Height F0 (tx l) = some (heightOf l, ()) := by
  rw [spec_Height_eq, Steps_law h, bnd]
  unfold heightOf nameOk
  dsimp only
  cases (stepsOf l).2 <;> rfl
theorem Height_law2 {l : List UInt8} (h : l.length ≤ 1073741824) : impl_Height F0 (tx l) = some (heightOf l, ()) := by
  rw [impl_Height_eq, Steps_law2 h, bnd]
  unfold heightOf nameOk
  dsimp only
  cases (stepsOf l).2 <;> rfl
theorem heightOf_in (l : List UInt8) : -1 ≤ heightOf l ∧ heightOf l ≤ 30 := by
  unfold heightOf
  have := stepsOf_len l
  split <;> omega
def repInts (r : RepD) : List Int := [r.2.1, r.2.2.2.1.1, r.2.2.2.1.2.1, r.2.2.2.1.2.2.1.1, heightOf r.2.2.2.1.2.2.2.data.toList, (r.2.2.2.2.1.length : Int) + r.2.2.2.2.2.1.length + r.2.2.2.2.2.2.2.length]
def repL (r : RepD) : List UInt8 := Lib.join ((r.1 :: repInts r).map Lib.itoa) [32]
structure RepI (r : RepD) : Prop where
  i1 : I64 r.1
  i2 : I64 r.2.1
  i3 : I64 r.2.2.2.1.1
  i4 : I64 r.2.2.2.1.2.1
  i5 : I64 r.2.2.2.1.2.2.1.1
  d : r.2.2.2.1.2.2.2.size ≤ 1048576
  p : r.2.2.2.2.1.length ≤ 1048576
  t : r.2.2.2.2.2.1.length ≤ 1048576
  h : r.2.2.2.2.2.2.2.length ≤ 1048576
theorem RepI.ints {r : RepD} (h : RepI r) : ∀ x ∈ r.1 :: repInts r, I64 x := by
  have hh := heightOf_in r.2.2.2.1.2.2.2.data.toList
  have hp := h.p
  have ht := h.t
  have hd := h.h
  intro x hx
  simp only [repInts, List.mem_cons, List.not_mem_nil, or_false] at hx
  rcases hx with rfl | rfl | rfl | rfl | rfl | rfl | rfl
  · exact h.i1
  · exact h.i2
  · exact h.i3
  · exact h.i4
  · exact h.i5
  · exact ⟨by omega, by omega⟩
  · exact ⟨by omega, by omega⟩
theorem Load_law {r : RepD} (h : RepI r) : spec_Load F0 r = some ((r.2.2.2.2.1.length : Int) + r.2.2.2.2.2.1.length + r.2.2.2.2.2.2.2.length, ()) := by
  have hp := h.p
  have ht := h.t
  have hd := h.h
  rw [spec_Load_eq, w64_in (n := (r.2.2.2.2.1.length : Int) + (r.2.2.2.2.2.1.length : Int)) (by omega) (by omega), w64_in (by omega) (by omega)]
theorem Load_law2 {r : RepD} (h : RepI r) : impl_Load F0 r = some ((r.2.2.2.2.1.length : Int) + r.2.2.2.2.2.1.length + r.2.2.2.2.2.2.2.length, ()) := by
  have hp := h.p
  have ht := h.t
  have hd := h.h
  rw [impl_Load_eq, w64_in (n := (r.2.2.2.2.1.length : Int) + (r.2.2.2.2.2.1.length : Int)) (by omega) (by omega), w64_in (by omega) (by omega)]
theorem join_le' {a : List Int} (h : ∀ x ∈ a, I64 x) (s : UInt8) : (Lib.join (a.map Lib.itoa) [s]).length ≤ 22 * a.length := by
  have := join_le (itoas_le h) s
  rwa [List.length_map] at this
theorem Height_at (b : ByteArray) (h : b.size ≤ 1048576) : spec_Height F0 b = some (heightOf b.data.toList, ()) := Height_law (l := b.data.toList) (Nat.le_trans (Nat.le_of_eq (show b.data.toList.length = b.size from rfl)) (by omega))
theorem Height_at2 (b : ByteArray) (h : b.size ≤ 1048576) : impl_Height F0 b = some (heightOf b.data.toList, ()) := Height_law2 (l := b.data.toList) (Nat.le_trans (Nat.le_of_eq (show b.data.toList.length = b.size from rfl)) (by omega))
theorem joined_at {s : List Int} (hi : ∀ x ∈ s, I64 x) (hl : s.length ≤ 1048576) (sep : UInt8) : impl_joined F0 s (tx [sep]) = some (tx (Lib.join (s.map Lib.itoa) [sep]), ()) := by
  rw [impl_joined_eq]
  refine push_to (fun n i (xs : List ByteArray) => impl_joined_1 F0 (impl_joined_1_k F0) n (impl_joined_1_s (tx [sep]) s (s.length : Int) i xs)) s (fun n => tx (Lib.itoa n)) _ (fun n k hk xs hx => ?_) (fun n => ?_) _ (by rw [n_eq]; omega)
  · rw [impl_joined_1_step, dec_lt hk, br_true, okI_nat hk, ck_true, at_isD hk, itoa_law (hi _ (List.getElem_mem hk)), bnd]
    dsimp only
    rw [okA_le (by omega) (by omega) (by simp only [List.length_cons, List.length_nil]; omega), ck_true, w64_succ (by omega)]
  · have hj := join_le' hi sep
    rw [impl_joined_1_step, dec_nlt, br_false, impl_joined_1_ce0, strings_Join_law (data_map s) (by rw [List.length_map]; omega) (by omega), bnd]
theorem RepText_law2 {r : RepD} (h : RepI r) : impl_RepText F0 r = some (tx (repL r), ()) := by
  rw [impl_RepText_eq, Height_at2 _ h.d, bnd, Load_law2 h, bnd]
  have := joined_at h.ints (by simp [repInts]) 32
  rw [show ByteArray.mk #[32] = tx [32] from rfl]
  dsimp only
  rw [show impl_joined F0 [r.1, r.2.1, r.2.2.2.1.1, r.2.2.2.1.2.1, r.2.2.2.1.2.2.1.1, heightOf r.2.2.2.1.2.2.2.data.toList, (r.2.2.2.2.1.length : Int) + r.2.2.2.2.2.1.length + r.2.2.2.2.2.2.2.length] (tx [32]) = some (tx (repL r), ()) from this, bnd]
theorem RepText_law {r : RepD} (h : RepI r) : spec_RepText F0 r = some (tx (repL r), ()) := by
  rw [spec_RepText_eq, Height_at _ h.d, bnd, Load_law h, bnd, digits_law h.i1, bnd]
  dsimp only
  show spec_RepText_1 F0 (spec_RepText_1_k F0) F0.n (spec_RepText_1_s (tx (Lib.itoa r.1)) 0 (repInts r)) = _
  have hint := h.ints
  have hlen : (repInts r).length = 6 := rfl
  unfold repL
  generalize repInts r = s at hint hlen
  refine loop_to (fun n i (out : ByteArray) => spec_RepText_1 F0 (spec_RepText_1_k F0) n (spec_RepText_1_s out i s)) s.length (fun k out => out = tx (Lib.join ((r.1 :: s.take k).map Lib.itoa) [32])) _ (fun n k out hk ho => .inr ⟨_, ?_, rfl⟩) (fun n out ho => ?_) _ 0 _ (Nat.zero_le _) (by simp [Lib.join_one]) (by rw [n_eq]; omega)
  · subst ho
    have hx := hint s[k] (List.mem_cons_of_mem _ (List.getElem_mem hk))
    have hd := itoa_le hx
    have hj := join_le' (a := r.1 :: s.take k) (fun x hx => hint x (by
      rcases List.mem_cons.1 hx with rfl | hx
      · exact List.mem_cons_self
      · exact List.mem_cons_of_mem _ (List.mem_of_mem_take hx))) 32
    rw [List.length_cons, List.length_take] at hj
    rw [spec_RepText_1_step, dec_lt hk, br_true, show ByteArray.mk #[32] = tx [32] from rfl, okC_le (by rw [tx_size, tx_size, List.length_singleton]; omega), ck_true, okI_nat hk, ck_true, at_isD hk, digits_law hx, bnd]
    dsimp only
    rw [tx_append, okC_le (by rw [tx_size, tx_size, List.length_append, List.length_singleton]; omega), ck_true, tx_append, w64_succ (by omega), take_succ_is hk, ← List.cons_append, List.map_append, List.map_singleton, join_snoc (by simp)]
  · subst ho
    rw [spec_RepText_1_step, dec_nlt, br_false, spec_RepText_1_ce0, List.take_length]
theorem repL_len {r : RepD} (h : RepI r) : (repL r).length ≤ 154 := by
  have := join_le' h.ints 32
  exact this
/-! ### Worlds -/
abbrev WireD := Int × List Int
abbrev SaidD := Int × ByteArray × Int
abbrev WorldD := (Int × Int) × List Int × List RepD × List WireD × List SaidD
def repsL : List RepD → List UInt8
  | [] => []
  | r :: l => repL r ++ 10 :: repsL l
def tailL (a b : Nat) : List UInt8 := [110, 101, 116, 32] ++ Lib.itoa (a : Int) ++ [32, 115, 97, 105, 100, 32] ++ Lib.itoa (b : Int) ++ [10]
def worldL (w : WorldD) : List UInt8 := repsL w.2.2.1 ++ tailL w.2.2.2.1.length w.2.2.2.2.length
theorem repsL_snoc : ∀ (l : List RepD) (r : RepD), repsL (l ++ [r]) = repsL l ++ (repL r ++ [10])
  | [], r => by simp [repsL]
  | x :: l, r => by
    simp only [List.cons_append, repsL]
    rw [repsL_snoc l r]
    simp
theorem repsL_len : ∀ {l : List RepD}, (∀ r ∈ l, RepI r) → (repsL l).length ≤ 155 * l.length
  | [], _ => by simp [repsL]
  | r :: l, h => by
    have h1 := repL_len (h r List.mem_cons_self)
    have h2 := repsL_len (l := l) fun x hx => h x (List.mem_cons_of_mem _ hx)
    simp only [repsL, List.length_append, List.length_cons]
    omega
theorem WorldText_law {w : WorldD} (hr : ∀ r ∈ w.2.2.1, RepI r) (h1 : w.2.2.1.length ≤ 1048576) (h2 : w.2.2.2.1.length ≤ 1048576) (h3 : w.2.2.2.2.length ≤ 1048576) : spec_WorldText F0 w = some (tx (worldL w), ()) := by
  rw [spec_WorldText_eq]
  refine loop_to (fun n i (out : ByteArray) => spec_WorldText_1 F0 (spec_WorldText_1_k F0) n (spec_WorldText_1_s out i w.1.1 w.1.2 w.2.1 w.2.2.1 w.2.2.2.1 w.2.2.2.2)) w.2.2.1.length (fun k out => out = tx (repsL (w.2.2.1.take k))) _ (fun n k out hk ho => .inr ⟨_, ?_, rfl⟩) (fun n out ho => ?_) _ 0 _ (Nat.zero_le _) rfl (by rw [n_eq]; omega)
  · subst ho
    have hx := hr _ (List.getElem_mem hk)
    have hl := repL_len hx
    have hj := repsL_len (l := w.2.2.1.take k) fun x hx => hr x (List.mem_of_mem_take hx)
    rw [List.length_take] at hj
    rw [spec_WorldText_1_step, dec_lt hk, br_true, okI_nat hk, ck_true, at_isD hk, RepText_law hx, bnd]
    dsimp only
    rw [show ByteArray.mk #[10] = tx [10] from rfl, okC_le (by rw [tx_size, tx_size]; omega), ck_true, tx_append, okC_le (by rw [tx_size, tx_size, List.length_append, List.length_singleton]; omega), ck_true, tx_append, w64_succ (by omega), take_succ_is hk, repsL_snoc, List.append_assoc]
  · subst ho
    have hj := repsL_len hr
    have i1 : I64 (w.2.2.2.1.length : Int) := ⟨by omega, by omega⟩
    have i2 : I64 (w.2.2.2.2.length : Int) := ⟨by omega, by omega⟩
    have d1 := itoa_le i1
    have d2 := itoa_le i2
    rw [List.take_length, spec_WorldText_1_step, dec_nlt, br_false, spec_WorldText_1_ce0, show ByteArray.mk #[110, 101, 116, 32] = tx [110, 101, 116, 32] from rfl, show ByteArray.mk #[32, 115, 97, 105, 100, 32] = tx [32, 115, 97, 105, 100, 32] from rfl, show ByteArray.mk #[10] = tx [10] from rfl]
    have z4 : ([110, 101, 116, 32] : List UInt8).length = 4 := rfl
    have z6 : ([32, 115, 97, 105, 100, 32] : List UInt8).length = 6 := rfl
    have z1 : ([10] : List UInt8).length = 1 := rfl
    rw [okC_le (by rw [tx_size, tx_size]; omega), ck_true, digits_law i1, bnd]
    dsimp only
    rw [tx_append, okC_le (by rw [tx_size, tx_size, List.length_append]; omega), ck_true, tx_append, okC_le (by rw [tx_size, tx_size, List.length_append, List.length_append]; omega), ck_true, digits_law i2, bnd]
    dsimp only
    rw [tx_append, okC_le (by rw [tx_size, tx_size, List.length_append, List.length_append, List.length_append]; omega), ck_true, tx_append, okC_le (by rw [tx_size, tx_size, List.length_append, List.length_append, List.length_append, List.length_append]; omega), ck_true, tx_append]
    simp only [worldL, tailL, List.append_assoc]
theorem WorldText_law2 {w : WorldD} (hr : ∀ r ∈ w.2.2.1, RepI r) (h1 : w.2.2.1.length ≤ 1048576) (h2 : w.2.2.2.1.length ≤ 1048576) (h3 : w.2.2.2.2.length ≤ 1048576) : impl_WorldText F0 w = some (tx (worldL w), ()) := by
  rw [impl_WorldText_eq]
  refine loop_to (fun n i (out : ByteArray) => impl_WorldText_1 F0 (impl_WorldText_1_k F0) n (impl_WorldText_1_s out w.2.2.1 (w.2.2.1.length : Int) i w.1.1 w.1.2 w.2.1 w.2.2.1 w.2.2.2.1 w.2.2.2.2)) w.2.2.1.length (fun k out => out = tx (repsL (w.2.2.1.take k))) _ (fun n k out hk ho => .inr ⟨_, ?_, rfl⟩) (fun n out ho => ?_) _ 0 _ (Nat.zero_le _) rfl (by rw [n_eq]; omega)
  · subst ho
    have hx := hr _ (List.getElem_mem hk)
    have hl := repL_len hx
    have hj := repsL_len (l := w.2.2.1.take k) fun x hx => hr x (List.mem_of_mem_take hx)
    rw [List.length_take] at hj
    rw [impl_WorldText_1_step, dec_lt hk, br_true, okI_nat hk, ck_true, at_isD hk, RepText_law2 hx, bnd]
    dsimp only
    rw [show ByteArray.mk #[10] = tx [10] from rfl, okC_le (by rw [tx_size, tx_size, List.length_singleton]; omega), ck_true, tx_append, okC_le (by rw [tx_size, tx_size, List.length_append, List.length_singleton]; omega), ck_true, tx_append, w64_succ (by omega), take_succ_is hk, repsL_snoc]
  · subst ho
    have hj := repsL_len hr
    have i1 : I64 (w.2.2.2.1.length : Int) := ⟨by omega, by omega⟩
    have i2 : I64 (w.2.2.2.2.length : Int) := ⟨by omega, by omega⟩
    have d1 := itoa_le i1
    have d2 := itoa_le i2
    rw [List.take_length, impl_WorldText_1_step, dec_nlt, br_false, impl_WorldText_1_ce0, show ByteArray.mk #[110, 101, 116, 32] = tx [110, 101, 116, 32] from rfl, show ByteArray.mk #[32, 115, 97, 105, 100, 32] = tx [32, 115, 97, 105, 100, 32] from rfl, show ByteArray.mk #[10] = tx [10] from rfl]
    have z4 : ([110, 101, 116, 32] : List UInt8).length = 4 := rfl
    have z6 : ([32, 115, 97, 105, 100, 32] : List UInt8).length = 6 := rfl
    have z1 : ([10] : List UInt8).length = 1 := rfl
    rw [okC_le (by rw [tx_size, tx_size]; omega), ck_true, itoa_law i1, bnd]
    dsimp only
    rw [tx_append, okC_le (by rw [tx_size, tx_size, List.length_append]; omega), ck_true, tx_append, okC_le (by rw [tx_size, tx_size, List.length_append, List.length_append]; omega), ck_true, itoa_law i2, bnd]
    dsimp only
    rw [tx_append, okC_le (by rw [tx_size, tx_size, List.length_append, List.length_append, List.length_append]; omega), ck_true, tx_append, okC_le (by rw [tx_size, tx_size, List.length_append, List.length_append, List.length_append, List.length_append]; omega), ck_true, tx_append]
    simp only [worldL, tailL, List.append_assoc]
/-! ### The laws -/
theorem i64_of {n : Int} (h : Wf (.int .i64) n) : I64 n := by
  have h0 : (Lit.int .i64 n).wf = true := h
  have h1 : IntKind.i64.min = -9223372036854775808 := rfl
  have h2 : IntKind.i64.max = 9223372036854775807 := rfl
  simp only [Lit.wf, Bool.and_eq_true, decide_eq_true_eq, h1, h2] at h0
  exact h0
theorem repI_of {r : K30.D} (h : Wf K30 r) (hl : Lim 1048576 K30 r) : RepI r :=
  ⟨i64_of h.1, i64_of h.2.1, i64_of h.2.2.2.1.1, i64_of h.2.2.2.1.2.1, i64_of h.2.2.2.1.2.2.1.1, hl.2.2.2.1.2.2.2, hl.2.2.2.2.1.1, hl.2.2.2.2.2.1.1, hl.2.2.2.2.2.2.2.1⟩
theorem FnExactRepText_true (r : K30.D) (h : Wf K30 r) : laws_FnExactRepText F0 r = some (true, ()) := by
  rw [laws_FnExactRepText_eq]
  obtain ⟨left, h1, h2, h3⟩ := szRep_ok (lim_of_wf h) 1048576 (by omega) (by omega)
  rw [h1, bnd]
  by_cases hn : left < 0
  · rw [decide_eq_true (show (left, ()).1 < 0 from hn), br_true]
  · have hl := h3 (by omega)
    have hr := repI_of h hl
    simp only [decide_eq_false hn, br_false, toRep_ok hl, bnd, RepText_law hr, RepText_law2 hr, eqRep_ok hl, same_text, Bool.not_true]
theorem FnExactWorldText_true (w : K49.D) (h : Wf K49 w) : laws_FnExactWorldText F0 w = some (true, ()) := by
  rw [laws_FnExactWorldText_eq]
  obtain ⟨left, h1, h2, h3⟩ := szWorld_ok (lim_of_wf h) 1048576 (by omega) (by omega)
  rw [h1, bnd]
  by_cases hn : left < 0
  · rw [decide_eq_true (show (left, ()).1 < 0 from hn), br_true]
  · have hl := h3 (by omega)
    have hr : ∀ r ∈ w.2.2.1, RepI r := fun r hr => repI_of (h.2.2.1.2 r hr) (hl.2.2.1.2 r hr)
    simp only [decide_eq_false hn, br_false, toWorld_ok hl, bnd, WorldText_law hr hl.2.2.1.1 hl.2.2.2.1.1 hl.2.2.2.2.1, WorldText_law2 hr hl.2.2.1.1 hl.2.2.2.1.1 hl.2.2.2.2.1, eqWorld_ok hl, same_text, Bool.not_true]
end Go.Am.Tryz
