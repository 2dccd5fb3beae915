/- Plain laws. No condition. -/
import Derived.Test.YtijjjmdoflbmfaaGreatDoorJrLawJ1
import Derived.Test.YtijjjmdoflbmfaaGreatDoorAmData
import Derived.Test.YtijjjmdoflbmfaaGreatDoorAmMark
set_option linter.unusedVariables false
set_option linter.unusedSimpArgs false
namespace Go.Am.Tryz
open Go.Am
/-! ### Searches -/
/-! ### Adding -/
/-! ### The replicas that are named -/
end Go.Am.Tryz
set_option linter.unusedVariables false
set_option linter.unusedSimpArgs false
namespace Go.Am.Tryz
open Go.Am
def nameOk (l : List UInt8) : Bool := (stepsOf l).2
def viewOf (l : List UInt8) : Int := match (stepsOf l).1.getLast? with | some s => s.1 | none => 0
theorem NameOk_law {l : List UInt8} (h : l.length ≤ 1073741824) : spec_NameOk F0 (tx l) = some (nameOk l, ()) := by
  rw [spec_NameOk_eq, Steps_law h, bnd]
  rfl
theorem NameOk_law2 {l : List UInt8} (h : l.length ≤ 1073741824) : impl_NameOk F0 (tx l) = some (nameOk l, ()) := by
  rw [impl_NameOk_eq, Steps_law2 h, bnd]
  rfl
theorem last_view (ss : List StepD) (hlen : ss.length ≤ 30) (d : StepD := (0, [])) : br ((ss.length : Int) == 0) (some ((0 : Int), ())) (ck (okI (w64 ((ss.length : Int) - 1)) (ss.length : Int)) (some ((at_ ss (w64 ((ss.length : Int) - 1)) d).1, ()))) = some ((match ss.getLast? with | some s => s.1 | none => 0), ()) := by
  cases hs : ss with
  | nil => rfl
  | cons s r =>
    rw [← hs]
    have h0 : ss.length ≠ 0 := by rw [hs]; simp
    have h1 : ((ss.length : Int) == 0) = false := beq_eq_false_iff_ne.2 (by omega)
    have h2 : w64 ((ss.length : Int) - 1) = ((ss.length - 1 : Nat) : Int) := by rw [w64_in (by omega) (by omega)]; omega
    rw [h1, br_false, h2, okI_nat (by omega), ck_true, at_is (by omega), List.getLast?_eq_getElem?, List.getElem?_eq_getElem (by omega)]
theorem ViewOf_law2 {l : List UInt8} (h : l.length ≤ 1073741824) : impl_ViewOf F0 (tx l) = some (viewOf l, ()) := by
  rw [impl_ViewOf_eq, Steps_law2 h, bnd]
  exact last_view _ (stepsOf_len l)
theorem viewOf_ok (l : List UInt8) : 0 ≤ viewOf l ∧ viewOf l ≤ 60 := by
  unfold viewOf
  split
  · rename_i s hs
    have := stepsOf_ok l s (List.mem_of_getLast? hs)
    exact ⟨this.1, this.2.1⟩
  · omega
/-! ### Quorums -/
/-! ### Sets in order -/
/-! ### Certificates -/
theorem nameOk_nil : nameOk [] = true := rfl
/-! ### Parts -/
end Go.Am.Tryz
set_option linter.unusedVariables false
set_option linter.unusedSimpArgs false
namespace Go.Am.Tryz
open Go.Am
/-! ### Marks -/
end Go.Am.Tryz
set_option linter.unusedVariables false
set_option linter.unusedSimpArgs false
namespace Go.Am.Tryz
open Go.Am
/-! ### Seats -/
end Go.Am.Tryz
set_option linter.unusedVariables false
set_option linter.unusedSimpArgs false
namespace Go.Am.Tryz
open Go.Am
abbrev CurD := List Int × Int × Int
/-- A cursor over bytes. -/
def Cur (c : CurD) : Prop := c.1.length ≤ 1048576 ∧ 0 ≤ c.2.1 ∧ c.2.1 ≤ 1048576
theorem and255 (n : Int) : 0 ≤ w64 ((BitVec.ofInt 64 n &&& BitVec.ofInt 64 255).toNat : Int) ∧ w64 ((BitVec.ofInt 64 n &&& BitVec.ofInt 64 255).toNat : Int) ≤ 255 := by
  have h : (BitVec.ofInt 64 n &&& BitVec.ofInt 64 255).toNat ≤ 255 := by
    rw [BitVec.toNat_and]
    exact Nat.le_trans Nat.and_le_right (by decide)
  rw [w64_in (by omega) (by omega)]
  omega
theorem Byte_ok {c : CurD} (h : Cur c) : ∃ (v : Int) (c' : CurD), spec_l1Byte F0 c = some ((v, ()), (c', ())) ∧ 0 ≤ v ∧ v ≤ 255 ∧ Cur c' := by
  rw [spec_l1Byte_eq]
  by_cases hlt : c.2.1 < (c.1.length : Int)
  · rw [decide_eq_true hlt, br_true, show okI c.2.1 (c.1.length : Int) = true by simp [okI]; exact ⟨h.2.1, hlt⟩, ck_true]
    have hl := h.1
    have h0 := h.2.1
    refine ⟨_, _, rfl, (and255 _).1, (and255 _).2, h.1, ?_, ?_⟩
    · show 0 ≤ w64 (c.2.1 + 1)
      rw [w64_in (by omega) (by omega)]
      omega
    · show w64 (c.2.1 + 1) ≤ 1048576
      rw [w64_in (by omega) (by omega)]
      omega
  · rw [decide_eq_false hlt, br_false]
    exact ⟨_, _, rfl, (and255 _).1, (and255 _).2, h⟩
theorem tmod_in {a n : Int} (h0 : 0 ≤ a) (hn : 0 < n) : 0 ≤ Int.tmod a n ∧ Int.tmod a n < n := by
  rw [Int.tmod_eq_emod_of_nonneg h0]
  exact ⟨Int.emod_nonneg _ (by omega), Int.emod_lt_of_pos _ hn⟩
theorem Below_ok {c : CurD} (h : Cur c) {n : Int} (hn : 0 < n) (hn2 : n ≤ 256) : ∃ (v : Int) (c' : CurD), spec_l1Below F0 c n = some ((v, ()), (c', ())) ∧ 0 ≤ v ∧ v < n ∧ Cur c' := by
  obtain ⟨v, c', h1, h2, h3, h4⟩ := Byte_ok h
  rw [spec_l1Below_eq, decide_eq_false (show ¬ n ≤ 0 by omega), br_false, decide_eq_true hn2, br_true, h1, bnd, show (!(n == 0)) = true by rw [beq_eq_false_iff_ne.2 (show n ≠ 0 by omega)]; rfl, ck_true]
  exact ⟨_, _, rfl, (tmod_in h2 hn).1, (tmod_in h2 hn).2, h4⟩
theorem PickInt_ok {c : CurD} (h : Cur c) {l : List Int} (hn : 0 < l.length) (hn2 : l.length ≤ 256) : ∃ (v : Int) (c' : CurD), spec_l1PickInt F0 c l = some ((v, ()), (c', ())) ∧ v ∈ l ∧ Cur c' := by
  obtain ⟨v, c', h1, h2, h3, h4⟩ := Below_ok h (n := (l.length : Int)) (by omega) (by omega)
  have hv : v.toNat < l.length := by omega
  rw [spec_l1PickInt_eq, h1, bnd, show okI v (l.length : Int) = true by simp [okI]; exact ⟨h2, h3⟩, ck_true]
  refine ⟨_, _, rfl, ?_, h4⟩
  have e : v = (v.toNat : Int) := by omega
  show at_ l v 0 ∈ l
  rw [e, at_isD hv]
  exact List.getElem_mem hv
theorem Once_ok {c : CurD} (h : Cur c) {n : Int} (hn : 0 < n) (hn2 : n ≤ 256) : ∃ (v : Bool) (c' : CurD), spec_l1Once F0 c n = some ((v, ()), (c', ())) ∧ Cur c' := by
  obtain ⟨v, c', h1, h2, h3, h4⟩ := Below_ok h hn hn2
  rw [spec_l1Once_eq, h1, bnd]
  exact ⟨_, _, rfl, h4⟩
theorem New_ok {code : List Int} (h : code.length ≤ 1048576) : ∃ c' : CurD, spec_l1New F0 code = some (((c', ()), ())) ∧ Cur c' := by
  rw [spec_l1New_eq]
  suffices hh : ∀ (j : Nat) (q : Int) (k n : Nat), k + j = code.length → j < n → ∃ q' : Int, spec_l1New_1 F0 (spec_l1New_1_k F0) n (spec_l1New_1_s code q (k : Int) code) = some ((((code, (0, q')) : CurD), ()), ()) by
    obtain ⟨q', e⟩ := hh code.length (w64 (26583 + (code.length : Int))) 0 F0.n (Nat.zero_add _) (by rw [n_eq]; omega)
    exact ⟨_, e, h, Int.le_refl _, by show (0 : Int) ≤ 1048576; decide⟩
  intro j
  induction j with
  | zero =>
    intro q k n hk hn
    obtain ⟨n, rfl⟩ : ∃ m, n = m + 1 := ⟨n - 1, by omega⟩
    obtain rfl : k = code.length := by omega
    rw [spec_l1New_1_step, dec_nlt, br_false, spec_l1New_1_ce0]
    exact ⟨q, rfl⟩
  | succ j ih =>
    intro q k n hk hn
    obtain ⟨n, rfl⟩ : ∃ m, n = m + 1 := ⟨n - 1, by omega⟩
    have hlt : k < code.length := by omega
    rw [spec_l1New_1_step, dec_lt hlt, br_true]
    cases decide ((k : Int) < 4000) with
    | false =>
      rw [br_false, spec_l1New_1_ce0]
      exact ⟨q, rfl⟩
    | true =>
      rw [br_true, okI_nat hlt, ck_true, w64_succ (by omega)]
      exact ih _ (k + 1) n (by omega) (by omega)
end Go.Am.Tryz
set_option linter.unusedVariables false
set_option linter.unusedSimpArgs false
namespace Go.Am.Tryz
open Go.Am
theorem parts_cons (c x : UInt8) (l : List UInt8) : parts c (x :: l) = if x = c then [] :: parts c l else match parts c l with
    | p :: ps => (x :: p) :: ps
    | [] => [[x]] := by
  conv => lhs; unfold parts
  cases parts c l <;> rfl
theorem parts_app {c : UInt8} : ∀ (a b : List UInt8), parts c (a ++ c :: b) = parts c a ++ parts c b
  | [], b => by
    rw [List.nil_append, parts_cons, if_pos rfl]
    rfl
  | x :: a, b => by
    rw [List.cons_append, parts_cons c x (a ++ c :: b), parts_cons c x a]
    by_cases hx : x = c
    · rw [if_pos hx, if_pos hx, parts_app a b]
      rfl
    · rw [if_neg hx, if_neg hx, parts_app a b]
      have hne := parts_ne c a
      cases hp : parts c a with
      | nil => exact absurd hp hne
      | cons p ps => rfl
theorem allF_app {σ β : Type} {f : σ → List UInt8 → Option (σ × β)} : ∀ {l m : List (List UInt8)} {s : σ} {r : List β}, allF f s (l ++ m) = some r → ∃ r1 r2, allF f s l = some r1 ∧ r = r1 ++ r2 ∧ r2.length = m.length
  | [], m, s, r, h => ⟨[], r, rfl, rfl, allF_len h⟩
  | p :: l, m, s, r, h => by
    rw [List.cons_append] at h
    unfold allF at h ⊢
    cases hp : f s p with
    | none => rw [hp] at h; cases h
    | some x =>
      obtain ⟨s', b⟩ := x
      rw [hp] at h
      dsimp only at h ⊢
      cases hr : allF f s' (l ++ m) with
      | none => rw [hr] at h; cases h
      | some r' =>
        rw [hr] at h
        cases h
        obtain ⟨r1, r2, h1, h2, h3⟩ := allF_app hr
        rw [h1]
        exact ⟨b :: r1, r2, rfl, by rw [h2]; rfl, h3⟩
/-- A right name's beginning, up to a step, is right; its steps are the beginning of the name's. -/
theorem steps_tail {a t : List UInt8} (ht : (47 : UInt8) ∉ t) (h : nameOk (a ++ 47 :: t) = true) : nameOk a = true ∧ ∃ x, (stepsOf (a ++ 47 :: t)).1 = (stepsOf a).1 ++ [x] := by
  have hne : a ++ 47 :: t ≠ [] := by simp
  unfold nameOk at h ⊢
  unfold stepsOf at h ⊢
  rw [if_neg hne, parts_app, parts_no ht] at h ⊢
  cases hp : parts 47 a with
  | nil => exact absurd hp (parts_ne 47 a)
  | cons p0 ps =>
    rw [hp, List.cons_append] at h
    rw [List.cons_append]
    dsimp only at h ⊢
    by_cases hc : ¬ p0 = [] ∨ 30 < (ps ++ [t]).length
    · rw [if_pos hc] at h
      cases h
    · rw [if_neg hc] at h ⊢
      have h0 : p0 = [] := Classical.byContradiction fun hn => hc (.inl hn)
      have hl : ¬ 30 < (ps ++ [t]).length := fun hn => hc (.inr hn)
      rw [List.length_append, List.length_singleton] at hl
      cases hr : allF stepF 0 (ps ++ [t]) with
      | none => rw [hr] at h; cases h
      | some r =>
        obtain ⟨r1, r2, h1, h2, h3⟩ := allF_app hr
        obtain ⟨x, rfl⟩ : ∃ x, r2 = [x] := by
          cases r2 with
          | nil => cases h3
          | cons x r2 =>
            cases r2 with
            | nil => exact ⟨x, rfl⟩
            | cons _ _ => simp at h3
        by_cases ha : a = []
        · subst ha
          have : ps = [] := by
            have := hp
            unfold parts at this
            exact (List.cons.inj this).2.symm
          subst this
          cases h1
          rw [if_pos rfl]
          exact ⟨rfl, x, h2⟩
        · rw [if_neg ha, if_neg (fun hn => hn.elim (fun hn => hn h0) (fun hn => by omega)), h1]
          exact ⟨rfl, x, h2⟩
end Go.Am.Tryz
set_option linter.unusedVariables false
set_option linter.unusedSimpArgs false
namespace Go.Am.Tryz
open Go.Am
def txsJoin (l : List TxD) : List UInt8 := Lib.join (l.map txL) [44]
def txsText (l : List TxD) : List UInt8 := if l.all txOk = true then txsJoin l else []
theorem txL_all {l : List TxD} (h : l.all txOk = true) : ∀ x ∈ l.map txL, x.length ≤ 90 := by
  intro x hx
  obtain ⟨y, hy, rfl⟩ := List.mem_map.1 hx
  exact txL_le (List.all_eq_true.1 h y hy)
theorem txsJoin_le {l : List TxD} (h : l.all txOk = true) : (txsJoin l).length ≤ 91 * l.length := by
  have := join_le (txL_all h) 44
  rw [List.length_map] at this
  exact this
theorem all_take {l : List TxD} {k : Nat} (hk : k < l.length) : (l.take (k + 1)).all txOk = ((l.take k).all txOk && txOk l[k]) := by
  rw [List.take_add_one, List.getElem?_eq_getElem hk, List.all_append]
  simp
theorem map_take_succ {α β : Type} {l : List α} {f : α → β} {k : Nat} (hk : k < l.length) : (l.take (k + 1)).map f = (l.take k).map f ++ [f l[k]] := by
  rw [List.take_add_one, List.getElem?_eq_getElem hk, List.map_append]
  rfl
theorem all_false_at {l : List TxD} {k : Nat} (hk : k < l.length) (h : txOk l[k] = false) : l.all txOk = false := by
  rw [List.all_eq_false]
  exact ⟨l[k], List.getElem_mem hk, by simp [h]⟩
theorem txText_ok {x : TxD} (h : txOk x = true) : txText x = txL x := if_pos h
theorem TxsText_law {l : List TxD} (h : l.length ≤ 1048576) : spec_TxsText F0 l = some (tx (txsText l), ()) := by
  rw [spec_TxsText_eq]
  refine loop_to (fun n i (out : ByteArray) => spec_TxsText_1 F0 (spec_TxsText_1_k F0) n (spec_TxsText_1_s l out i)) l.length (fun k out => (l.take k).all txOk = true ∧ out = tx (txsJoin (l.take k))) _ (fun n k out hk ho => ?_) (fun n out ho => ?_) _ 0 _ (Nat.zero_le _) ⟨rfl, rfl⟩ (by rw [n_eq]; omega)
  · obtain ⟨ha, rfl⟩ := ho
    have hj := txsJoin_le ha
    rw [List.length_take, Nat.min_eq_left (by omega)] at hj
    rw [spec_TxsText_1_step, dec_lt hk, br_true, okI_nat hk, ck_true, at_is hk, TxOk_law, bnd, spec_TxsText_1_cr]
    dsimp only
    cases hx : txOk l[k] with
    | false =>
      left
      rw [Bool.not_false, br_true, txsText, all_false_at hk hx]
      rfl
    | true =>
      right
      have hl := txL_le hx
      refine ⟨tx (txsJoin (l.take (k + 1))), ?_, by rw [all_take hk, ha, hx]; rfl, rfl⟩
      rw [Bool.not_true, br_false, ck_true, ck_true, TxText_law, bnd, bnd, txText_ok hx, show ByteArray.mk #[44] = tx [44] from rfl, tx_append]
      dsimp only
      rw [okC_le (by rw [tx_size, tx_size, List.length_singleton]; omega), ck_true, okC_le (by rw [tx_size, tx_size, List.length_append, List.length_singleton]; omega), ck_true, okC_le (by rw [tx_size, tx_size]; omega), ck_true, tx_append, tx_append, w64_succ (by omega)]
      by_cases h0 : k = 0
      · subst h0
        rw [show decide (((0 : Nat) : Int) > 0) = false from rfl, br_false, show txsJoin (l.take (0 + 1)) = txsJoin (l.take 0) ++ txL l[0] by rw [txsJoin, map_take_succ hk]; simp [txsJoin, Lib.join_one, Lib.join_nil]]
      · have hne : (l.take k).map txL ≠ [] := by
          intro e
          have := congrArg List.length e
          rw [List.length_map, List.length_take, List.length_nil] at this
          omega
        rw [decide_eq_true (show (k : Int) > 0 by omega), br_true, show txsJoin (l.take (k + 1)) = txsJoin (l.take k) ++ [44] ++ txL l[k] by rw [txsJoin, map_take_succ hk, join_snoc hne]; rfl]
  · obtain ⟨ha, rfl⟩ := ho
    rw [List.take_length] at ha ⊢
    rw [spec_TxsText_1_step, dec_nlt, br_false, spec_TxsText_1_ce0, txsText, if_pos ha]
theorem data_tx (l : List TxD) : ((l.map fun x => tx (txL x)).map fun b => b.data.toList) = l.map txL := by
  rw [List.map_map]
  exact List.map_congr_left fun n _ => tx_list _
theorem TxsText_law2 {l : List TxD} (h : l.length ≤ 524288) : impl_TxsText F0 l = some (tx (txsText l), ()) := by
  rw [impl_TxsText_eq]
  refine loop_to (fun n i (xs : List ByteArray) => impl_TxsText_1 F0 (impl_TxsText_1_k F0) n (impl_TxsText_1_s l (l.length : Int) i xs)) l.length (fun k xs => (l.take k).all txOk = true ∧ xs = (l.take k).map fun x => tx (txL x)) _ (fun n k xs hk ho => ?_) (fun n xs ho => ?_) F0.n 0 [] (Nat.zero_le _) ⟨rfl, rfl⟩ (by rw [n_eq]; omega)
  · obtain ⟨ha, rfl⟩ := ho
    rw [impl_TxsText_1_step, dec_lt hk, br_true, okI_nat hk, ck_true, at_is hk, TxOk_law2, bnd, impl_TxsText_1_cr]
    dsimp only
    cases hx : txOk l[k] with
    | false =>
      left
      rw [Bool.not_false, br_true, txsText, all_false_at hk hx]
      rfl
    | true =>
      right
      refine ⟨(l.take (k + 1)).map fun x => tx (txL x), ?_, by rw [all_take hk, ha, hx]; rfl, rfl⟩
      rw [Bool.not_true, br_false, TxText_law2, bnd, txText_ok hx, okA_le (by omega) (by omega) (by rw [List.length_map, List.length_take, List.length_singleton]; omega), ck_true, w64_succ (by omega), map_take_succ hk]
  · obtain ⟨ha, rfl⟩ := ho
    rw [List.take_length] at ha ⊢
    rw [impl_TxsText_1_step, dec_nlt, br_false, impl_TxsText_1_ce0, show ByteArray.mk #[44] = tx [44] from rfl, strings_Join_law (data_tx l) (by rw [List.length_map]; omega) (by have := txsJoin_le ha; unfold txsJoin at this; omega), bnd, txsText, if_pos ha]
    rfl
/-! ### Names -/
def nameNew (up : List UInt8) (view : Int) (l : List TxD) : List UInt8 := up ++ [47] ++ Lib.itoa view ++ [124] ++ txsJoin l
def nameOf (up : List UInt8) (view : Int) (l : List TxD) : List UInt8 := if l.all txOk = true ∧ nameOk (nameNew up view l) = true then nameNew up view l else []
theorem nameNew_le (up : List UInt8) {view : Int} (hv : I64 view) {l : List TxD} (ha : l.all txOk = true) : (nameNew up view l).length ≤ up.length + 23 + 91 * l.length := by
  have := txsJoin_le ha
  have := itoa_le hv
  simp only [nameNew, List.length_append, List.length_singleton]
  omega
theorem NameOf_law {up : List UInt8} (hu : up.length ≤ 1048576) {view : Int} (hv : I64 view) {l : List TxD} (h : l.length ≤ 1048576) : spec_NameOf F0 (tx up) view l = some (tx (nameOf up view l), ()) := by
  have hd := itoa_le hv
  rw [spec_NameOf_eq]
  refine loop_to (fun n i (_ : Unit) => spec_NameOf_1 F0 (spec_NameOf_1_k F0) n (spec_NameOf_1_s (tx up) view l i)) l.length (fun k _ => (l.take k).all txOk = true) _ (fun n k out hk ho => ?_) (fun n out ho => ?_) _ 0 () (Nat.zero_le _) rfl (by rw [n_eq]; omega)
  · rw [spec_NameOf_1_step, dec_lt hk, br_true, okI_nat hk, ck_true, at_is hk, TxOk_law, bnd, spec_NameOf_1_cr]
    dsimp only
    cases hx : txOk l[k] with
    | false =>
      left
      rw [Bool.not_false, br_true, nameOf, if_neg (by rw [all_false_at hk hx]; simp)]
      rfl
    | true =>
      right
      exact ⟨(), by rw [Bool.not_true, br_false, w64_succ (by omega)], by rw [all_take hk, ho, hx]; rfl⟩
  · rw [List.take_length] at ho
    have hj := txsJoin_le ho
    have hn := nameNew_le up hv ho
    rw [spec_NameOf_1_step, dec_nlt, br_false, spec_NameOf_1_ce0, digits_law hv, bnd, TxsText_law h, bnd, txsText, if_pos ho, show ByteArray.mk #[47] = tx [47] from rfl, show ByteArray.mk #[124] = tx [124] from rfl]
    dsimp only
    rw [okC_le (by rw [tx_size, tx_size, List.length_singleton]; omega), ck_true, tx_append, okC_le (by rw [tx_size, tx_size, List.length_append, List.length_singleton]; omega), ck_true, tx_append, okC_le (by rw [tx_size, tx_size, List.length_append, List.length_append, List.length_singleton, List.length_singleton]; omega), ck_true, tx_append,
      okC_le (by rw [tx_size, tx_size, List.length_append, List.length_append, List.length_append, List.length_singleton, List.length_singleton]; omega), ck_true, tx_append, show up ++ [47] ++ Lib.itoa view ++ [124] ++ txsJoin l = nameNew up view l from rfl, NameOk_law (by omega), bnd, nameOf]
    dsimp only
    cases hn : nameOk (nameNew up view l) with
    | false => rw [if_neg (by simp)]; rfl
    | true => rw [if_pos ⟨ho, rfl⟩]; rfl
theorem NameOf_law2 {up : List UInt8} (hu : up.length ≤ 1048576) {view : Int} (hv : I64 view) {l : List TxD} (h : l.length ≤ 2) : impl_NameOf F0 (tx up) view l = some (tx (nameOf up view l), ()) := by
  have hd := itoa_le hv
  rw [impl_NameOf_eq]
  refine loop_to (fun n i (_ : Unit) => impl_NameOf_1 F0 (impl_NameOf_1_k F0) n (impl_NameOf_1_s (tx up) view l l (l.length : Int) i)) l.length (fun k _ => (l.take k).all txOk = true) _ (fun n k out hk ho => ?_) (fun n out ho => ?_) _ 0 () (Nat.zero_le _) rfl (by rw [n_eq]; omega)
  · rw [impl_NameOf_1_step, dec_lt hk, br_true, okI_nat hk, ck_true, at_is hk, TxOk_law2, bnd, impl_NameOf_1_cr]
    dsimp only
    cases hx : txOk l[k] with
    | false =>
      left
      rw [Bool.not_false, br_true, nameOf, if_neg (by rw [all_false_at hk hx]; simp)]
      rfl
    | true =>
      right
      exact ⟨(), by rw [Bool.not_true, br_false, w64_succ (by omega)], by rw [all_take hk, ho, hx]; rfl⟩
  · rw [List.take_length] at ho
    have hj := txsJoin_le ho
    have hn := nameNew_le up hv ho
    rw [impl_NameOf_1_step, dec_nlt, br_false, impl_NameOf_1_ce0, itoa_law hv, bnd, TxsText_law2 (by omega), bnd, txsText, if_pos ho, show ByteArray.mk #[47] = tx [47] from rfl, show ByteArray.mk #[124] = tx [124] from rfl]
    dsimp only
    rw [okC_le (by rw [tx_size, tx_size, List.length_singleton]; omega), ck_true, tx_append, okC_le (by rw [tx_size, tx_size, List.length_append, List.length_singleton]; omega), ck_true, tx_append, okC_le (by rw [tx_size, tx_size, List.length_append, List.length_append, List.length_singleton, List.length_singleton]; omega), ck_true, tx_append,
      okC_le (by rw [tx_size, tx_size, List.length_append, List.length_append, List.length_append, List.length_singleton, List.length_singleton]; omega), ck_true, tx_append, show up ++ [47] ++ Lib.itoa view ++ [124] ++ txsJoin l = nameNew up view l from rfl, NameOk_law2 (by omega), bnd, nameOf]
    dsimp only
    rw [decide_eq_false (show ¬ ((l.length : Int) > 2) by omega), br_false]
    cases hn : nameOk (nameNew up view l) with
    | false => rw [if_neg (by simp)]; rfl
    | true => rw [if_pos ⟨ho, rfl⟩]; rfl
end Go.Am.Tryz
set_option linter.unusedVariables false
set_option linter.unusedSimpArgs false
namespace Go.Am.Tryz
open Go.Am
/-- It comes, and is such. -/
def Gd {α : Type} (X : Option α) (P : α → Prop) : Prop := ∃ v, X = some v ∧ P v
abbrev DrT (α : Type) := (α × Unit) × (CurD × Unit)
def Dr {α : Type} (X : Option (DrT α)) (Q : α → Prop) : Prop := Gd X fun z => Q z.1.1 ∧ Cur z.2.1
theorem Gd.bind {α β : Type} {X : Option α} {P : α → Prop} (h : Gd X P) {f : α → Option β} {R : β → Prop} (hf : ∀ v, P v → Gd (f v) R) : Gd (X.bind f) R := by
  obtain ⟨v, rfl, hv⟩ := h
  exact hf v hv
theorem Dr.bind {α β : Type} {X : Option (DrT α)} {Q : α → Prop} (h : Dr X Q) {f : DrT α → Option β} {R : β → Prop} (hf : ∀ z : DrT α, Q z.1.1 → Cur z.2.1 → Gd (f z) R) : Gd (X.bind f) R := by
  obtain ⟨z, rfl, h1, h2⟩ := h
  exact hf z h1 h2
theorem Gd.let {α β : Type} {X : Option α} {v : α} (h : X = some v) {f : α → Option β} {R : β → Prop} (hf : Gd (f v) R) : Gd (X.bind f) R := by
  subst h
  exact hf
theorem Gd.ret {α : Type} {v : α} {P : α → Prop} (h : P v) : Gd (some v) P := ⟨v, rfl, h⟩
theorem Gd.br {α : Type} {c : Bool} {x y : Option α} {P : α → Prop} (h1 : c = true → Gd x P) (h2 : c = false → Gd y P) : Gd (br c x y) P := by
  cases c with
  | true => exact h1 rfl
  | false => exact h2 rfl
theorem Gd.ck {α : Type} {c : Bool} {x : Option α} {P : α → Prop} (h1 : c = true) (h2 : Gd x P) : Gd (ck c x) P := by
  subst h1
  exact h2
theorem Gd.mono {α : Type} {X : Option α} {P Q : α → Prop} (h : Gd X P) (hq : ∀ v, P v → Q v) : Gd X Q := by
  obtain ⟨v, e, hv⟩ := h
  exact ⟨v, e, hq v hv⟩
theorem Gd.br0 {α : Type} {c : Bool} {x y : Option α} {P : α → Prop} (h : c = false) (h2 : Gd y P) : Gd (Am.br c x y) P := by
  subst h
  exact h2
theorem gd_loop {ζ β : Type} (X : Nat → Int → ζ → Option β) (L : Nat) (I : Nat → ζ → Prop) (P : β → Prop)
    (hs : ∀ n k z, k < L → I k z → (∀ z', I (k + 1) z' → Gd (X n ((k + 1 : Nat) : Int) z') P) → Gd (X (n + 1) (k : Int) z) P) (he : ∀ n z, I L z → Gd (X (n + 1) (L : Int) z) P) :
    ∀ n k z, k ≤ L → I k z → L - k < n → Gd (X n (k : Int) z) P := by
  intro n
  induction n with
  | zero => intro k z _ _ h; omega
  | succ n ih =>
    intro k z hk hI hn
    by_cases h : k = L
    · subst h
      exact he n z hI
    · exact hs n k z (by omega) hI fun z' hI' => ih (k + 1) z' (by omega) hI' (by omega)
/-! ### Cursors -/
theorem Byte_dr {c : CurD} (h : Cur c) : Dr (α := Int) (spec_l1Byte F0 c) fun v => 0 ≤ v ∧ v ≤ 255 := by
  obtain ⟨v, c', e, h1, h2, h3⟩ := Byte_ok h
  exact ⟨_, e, ⟨h1, h2⟩, h3⟩
theorem four_in {x y z w : Int} (x0 : 0 ≤ x) (x1 : x ≤ 255) (y0 : 0 ≤ y) (y1 : y ≤ 255) (z0 : 0 ≤ z) (z1 : z ≤ 255) (w0 : 0 ≤ w) (w1 : w ≤ 255) : 0 ≤ w64 (w64 (w64 (w64 (x * 16777216) + w64 (y * 65536)) + w64 (z * 256)) + w) := by
  rw [w64_in (n := x * 16777216) (by omega) (by omega), w64_in (n := y * 65536) (by omega) (by omega), w64_in (n := z * 256) (by omega) (by omega), w64_in (n := x * 16777216 + y * 65536) (by omega) (by omega), w64_in (n := x * 16777216 + y * 65536 + z * 256) (by omega) (by omega), w64_in (by omega) (by omega)]
  omega
theorem Below_dr {c : CurD} (h : Cur c) {n : Int} (hn : 0 < n) (hn2 : n ≤ 9223372036854775807) : Dr (α := Int) (spec_l1Below F0 c n) fun v => 0 ≤ v ∧ v < n := by
  by_cases h256 : n ≤ 256
  · obtain ⟨v, c', e, h1, h2, h3⟩ := Below_ok h hn h256
    exact ⟨_, e, ⟨h1, h2⟩, h3⟩
  · unfold Dr
    rw [spec_l1Below_eq]
    refine Gd.br0 (decide_eq_false (by omega)) (Gd.br0 (decide_eq_false h256) ?_)
    refine Dr.bind (Byte_dr h) fun x hx cx => Dr.bind (Byte_dr cx) fun y hy cy => Dr.bind (Byte_dr cy) fun z hz cz => Dr.bind (Byte_dr cz) fun w hw cw => Gd.ck ?_ (Gd.ret ⟨?_, cw⟩)
    · rw [beq_eq_false_iff_ne.2 (show n ≠ 0 by omega)]
      rfl
    · exact tmod_in (four_in hx.1 hx.2 hy.1 hy.2 hz.1 hz.2 hw.1 hw.2) hn
theorem Once_dr {c : CurD} (h : Cur c) {n : Int} (hn : 0 < n) (hn2 : n ≤ 256) : Dr (α := Bool) (spec_l1Once F0 c n) fun _ => True := by
  obtain ⟨v, c', e, h3⟩ := Once_ok h hn hn2
  exact ⟨_, e, trivial, h3⟩
theorem PickInt_dr {c : CurD} (h : Cur c) {l : List Int} (hn : 0 < l.length) (hn2 : l.length ≤ 256) : Dr (α := Int) (spec_l1PickInt F0 c l) fun v => v ∈ l := by
  obtain ⟨v, c', e, h1, h3⟩ := PickInt_ok h hn hn2
  exact ⟨_, e, h1, h3⟩
theorem Pick_dr {c : CurD} (h : Cur c) {l : List ByteArray} (hn : 0 < l.length) (hn2 : l.length ≤ 256) : Dr (α := ByteArray) (spec_l1Pick F0 c l) fun v => v ∈ l := by
  unfold Dr
  rw [spec_l1Pick_eq]
  refine Dr.bind (Below_dr h (n := (l.length : Int)) (by omega) (by omega)) fun v hv cv => Gd.ck ?_ (Gd.ret ⟨?_, cv⟩)
  · simp [okI, hv.1, hv.2]
  · have hlt : v.1.1.toNat < l.length := by have := hv.1; have := hv.2; omega
    have e : v.1.1 = (v.1.1.toNat : Int) := by have := hv.1; omega
    show at_ l v.1.1 ByteArray.empty ∈ l
    rw [e, at_isD hlt]
    exact List.getElem_mem hlt
theorem New_dr {code : List Int} (h : code.length ≤ 1048576) : Gd (spec_l1New F0 code) fun z => Cur z.1.1 := by
  obtain ⟨c, e, hc⟩ := New_ok h
  exact ⟨_, e, hc⟩
theorem tx_in {x y z w : Int} (x0 : 0 ≤ x) (x1 : x < 4) (y0 : 0 ≤ y) (y1 : y < 4) (z0 : z ∈ [(0 : Int), 5, 60, 100, 1000]) (w0 : 0 ≤ w) (w1 : w < 3) : txOk (x, (y, (z, w))) = true := by
  simp only [List.mem_cons, List.not_mem_nil, or_false] at z0
  simp only [txOk, inB, Bool.and_eq_true, decide_eq_true_eq]
  rcases z0 with rfl | rfl | rfl | rfl | rfl <;> omega
theorem DrawTx_dr {c : CurD} (h : Cur c) : Dr (α := TxD) (spec_l2DrawRight F0 c) fun v => txOk v = true := by
  unfold Dr
  rw [spec_l2DrawRight_eq]
  refine Dr.bind (Below_dr h (n := 4) (by omega) (by omega)) fun x hx cx => Dr.bind (Below_dr cx (n := 4) (by omega) (by omega)) fun y hy cy => Dr.bind (PickInt_dr cy (l := [0, 5, 60, 100, 1000]) (by decide) (by decide)) fun z hz cz => Dr.bind (Below_dr cz (n := 3) (by omega) (by omega)) fun w hw cw => Gd.ret ⟨?_, cw⟩
  exact tx_in hx.1 hx.2 hy.1 hy.2 hz hw.1 hw.2
def TxI (x : TxD) : Prop := I64 x.1 ∧ I64 x.2.1 ∧ I64 x.2.2.1 ∧ I64 x.2.2.2
theorem txI_of {x : TxD} (h : txOk x = true) : TxI x := by
  obtain ⟨h1, h2, h3, h4⟩ := txOk_spec h
  exact ⟨⟨by omega, by omega⟩, ⟨by omega, by omega⟩, ⟨by omega, by omega⟩, ⟨by omega, by omega⟩⟩
theorem DrawTx2_dr {c : CurD} (h : Cur c) : Dr (α := TxD) (spec_l2Draw F0 c) TxI := by
  unfold Dr
  rw [spec_l2Draw_eq]
  have i2 : ∀ a b : Int, I64 a → I64 b → ∀ {v : Int}, v ∈ [a, b] → I64 v := fun a b ha hb v hv => by
    simp only [List.mem_cons, List.not_mem_nil, or_false] at hv
    rcases hv with rfl | rfl <;> assumption
  have lt : ∀ n : Int, -1 ≤ n → n ≤ 1001 → I64 n := fun n h1 h2 => ⟨by omega, by omega⟩
  refine Dr.bind (DrawTx_dr h) fun x hx cx => ?_
  have hi := txI_of hx
  refine Dr.bind (Below_dr cx (n := 12) (by omega) (by omega)) fun y hy cy => ?_
  refine Gd.br (fun _ => ?_) fun _ => ?_
  · exact Dr.bind (PickInt_dr cy (by decide) (by decide)) fun z hz cz => Gd.ret ⟨⟨i2 _ _ (lt _ (by decide) (by decide)) (lt _ (by decide) (by decide)) hz, hi.2⟩, cz⟩
  refine Gd.br (fun _ => ?_) fun _ => ?_
  · exact Dr.bind (PickInt_dr cy (by decide) (by decide)) fun z hz cz => Gd.ret ⟨⟨hi.1, i2 _ _ (lt _ (by decide) (by decide)) (lt _ (by decide) (by decide)) hz, hi.2.2⟩, cz⟩
  refine Gd.br (fun _ => ?_) fun _ => ?_
  · exact Dr.bind (PickInt_dr cy (by decide) (by decide)) fun z hz cz => Gd.ret ⟨⟨hi.1, hi.2.1, i2 _ _ (lt _ (by decide) (by decide)) (lt _ (by decide) (by decide)) hz, hi.2.2.2⟩, cz⟩
  refine Gd.br (fun _ => ?_) fun _ => ?_
  · refine Dr.bind (PickInt_dr cy (by decide) (by decide)) fun z hz cz => Gd.ret ⟨⟨hi.1, hi.2.1, hi.2.2.1, ?_⟩, cz⟩
    have := hz
    simp only [List.mem_cons, List.not_mem_nil, or_false] at this
    show I64 z.1.1
    rcases this with h | h | h <;> rw [show z.1.1 = _ from h] <;> exact lt _ (by decide) (by decide)
  · exact Gd.ret ⟨hi, cy⟩
theorem DrawTxs_dr {c : CurD} (h : Cur c) : Dr (α := List TxD) (spec_l2DrawList F0 c) fun v => v.length ≤ 5 ∧ ∀ x ∈ v, TxI x := by
  unfold Dr
  rw [spec_l2DrawList_eq]
  refine gd_loop (fun n i (z : CurD × List TxD) => spec_l2DrawList_1 F0 (spec_l2DrawList_1_k F0) n (spec_l2DrawList_1_s i z.1.1 z.1.2.1 z.1.2.2 z.2)) 5 (fun k z => Cur z.1 ∧ z.2.length ≤ k ∧ ∀ x ∈ z.2, TxI x) _ (fun n k z hk hI ih => ?_) (fun n z hI => ?_) F0.n 0 (c, []) (Nat.zero_le _) ⟨h, Nat.le_refl _, fun x hx => by cases hx⟩ (by rw [n_eq]; omega)
  · dsimp only
    rw [spec_l2DrawList_1_step]
    refine Dr.bind (Below_dr hI.1 (n := 5) (by omega) (by omega)) fun x hx cx => Gd.br (fun _ => ?_) fun _ => ?_
    · refine Dr.bind (DrawTx2_dr cx) fun y hy cy => Gd.ck (okA_le (by omega) (by omega) (by rw [List.length_singleton]; have := hI.2.1; omega)) ?_
      rw [w64_succ (by omega)]
      refine ih (y.2.1, z.2 ++ [y.1.1]) ⟨cy, by rw [List.length_append, List.length_singleton]; have := hI.2.1; omega, fun x hx => ?_⟩
      rcases List.mem_append.1 hx with h | h
      · exact hI.2.2 x h
      · rw [List.mem_singleton.1 h]
        exact hy
    · rw [spec_l2DrawList_1_ce0]
      exact Gd.ret ⟨⟨by have := hI.2.1; show z.2.length ≤ 5; omega, hI.2.2⟩, cx⟩
  · dsimp only
    rw [spec_l2DrawList_1_step]
    refine Dr.bind (Below_dr hI.1 (n := 5) (by omega) (by omega)) fun x hx cx => ?_
    refine Gd.br0 (decide_eq_false (by have := hx.2; show ¬ (5 : Int) < x.1.1; omega)) ?_
    rw [spec_l2DrawList_1_ce0]
    exact Gd.ret ⟨⟨hI.2.1, hI.2.2⟩, cx⟩
/-! ### Names -/
theorem name_gd (up : List UInt8) (view : Int) (i : Nat) {γ : Type} (κ : Ex → St → Option γ) {P : γ → Prop} (hR : ∀ xs (c : CurD), xs.length ≤ 3 → (∀ x ∈ xs, txOk x = true) → Cur c → Gd (κ (.exit 2) (spec_l5DrawRight_2_e2 (tx up) view (i : Int) c.1 c.2.1 c.2.2 xs)) P) {c : CurD} (hc : Cur c) :
    Gd (spec_l5DrawRight_2 F0 κ F0.n (spec_l5DrawRight_2_s (tx up) view (i : Int) 0 c.1 c.2.1 c.2.2 [])) P := by
  refine gd_loop (fun n k (z : CurD × List TxD) => spec_l5DrawRight_2 F0 κ n (spec_l5DrawRight_2_s (tx up) view (i : Int) k z.1.1 z.1.2.1 z.1.2.2 z.2)) 3 (fun k z => Cur z.1 ∧ z.2.length ≤ k ∧ ∀ x ∈ z.2, txOk x = true) _ (fun n k z hk hI ih => ?_) (fun n z hI => ?_) F0.n 0 (c, []) (Nat.zero_le _) ⟨hc, Nat.le_refl _, fun x hx => by cases hx⟩ (by rw [n_eq]; omega)
  · rw [spec_l5DrawRight_2_step]
    refine Dr.bind (Below_dr hI.1 (n := 3) (by omega) (by omega)) fun x hx cx => Gd.br (fun _ => ?_) fun _ => ?_
    · refine Dr.bind (DrawTx_dr cx) fun y hy cy => Gd.ck (okA_le (by omega) (by omega) (by rw [List.length_singleton]; have := hI.2.1; omega)) ?_
      rw [w64_succ (by omega)]
      refine ih (y.2.1, z.2 ++ [y.1.1]) ⟨cy, by rw [List.length_append, List.length_singleton]; have := hI.2.1; omega, fun x hx => ?_⟩
      rcases List.mem_append.1 hx with h | h
      · exact hI.2.2 x h
      · rw [List.mem_singleton.1 h]
        exact hy
    · exact hR z.2 x.2.1 (by have := hI.2.1; omega) hI.2.2 cx
  · rw [spec_l5DrawRight_2_step]
    refine Dr.bind (Below_dr hI.1 (n := 3) (by omega) (by omega)) fun x hx cx => ?_
    refine Gd.br0 (decide_eq_false (by have := hx.2; show ¬ (3 : Int) < x.1.1; omega)) ?_
    exact hR z.2 x.2.1 hI.2.1 hI.2.2 cx
theorem nameOf_ok {up : List UInt8} {view : Int} {l : List TxD} : nameOk (nameOf up view l) = true := by
  unfold nameOf
  split
  · rename_i h; exact h.2
  · exact nameOk_nil
theorem nameOf_le {up : List UInt8} {view : Int} (hv : I64 view) (l : List TxD) : (nameOf up view l).length ≤ up.length + 23 + 91 * l.length := by
  unfold nameOf
  split
  · rename_i h; exact nameNew_le up hv h.1
  · exact Nat.zero_le _
/-- A drawn text that is a name. -/
def NmOk (b : ByteArray) : Prop := b.size ≤ 10000 ∧ nameOk b.data.toList = true
theorem DrawName_dr {c : CurD} (h : Cur c) : Dr (α := ByteArray) (spec_l5DrawRight F0 c) NmOk := by
  unfold Dr
  rw [spec_l5DrawRight_eq]
  refine gd_loop (fun n i (z : CurD × (List UInt8 × Int)) => spec_l5DrawRight_1 F0 (spec_l5DrawRight_1_k F0) n (spec_l5DrawRight_1_s (tx z.2.1) z.2.2 i z.1.1 z.1.2.1 z.1.2.2)) 6 (fun k z => Cur z.1 ∧ z.2.1.length ≤ 300 * k ∧ nameOk z.2.1 = true ∧ 0 ≤ z.2.2 ∧ z.2.2 ≤ 2 * k) _ (fun n k z hk hI ih => ?_) (fun n z hI => ?_) F0.n 0 (c, ([], 0)) (Nat.zero_le _) ⟨h, Nat.zero_le _, nameOk_nil, Int.le_refl _, Int.le_refl _⟩ (by rw [n_eq]; omega)
  · obtain ⟨hc, hl, ho, h0, hv⟩ := hI
    rw [spec_l5DrawRight_1_step]
    refine Dr.bind (Below_dr hc (n := 6) (by omega) (by omega)) fun x hx cx => Gd.br (fun _ => ?_) fun _ => ?_
    · refine Dr.bind (Below_dr cx (n := 4) (by omega) (by omega)) fun y hy cy => ?_
      have hd : Int.tdiv y.1.1 3 = y.1.1 / 3 := Int.tdiv_eq_ediv_of_nonneg hy.1
      have y0 := hy.1
      have y1 := hy.2
      rw [hd, w64_in (n := z.2.2 + 1) (by omega) (by omega), w64_in (n := y.1.1 / 3) (by omega) (by omega), w64_in (n := z.2.2 + 1 + y.1.1 / 3) (by omega) (by omega)]
      refine name_gd z.2.1 (z.2.2 + 1 + y.1.1 / 3) k _ (fun xs c' hxs hxo hc' => ?_) cy
      rw [spec_l5DrawRight_2_ce2]
      have hv' : I64 (z.2.2 + 1 + y.1.1 / 3) := ⟨by omega, by omega⟩
      refine Gd.let (NameOf_law (by omega) hv' (by omega)) ?_
      rw [w64_succ (by omega)]
      exact ih (c', (nameOf z.2.1 (z.2.2 + 1 + y.1.1 / 3) xs, z.2.2 + 1 + y.1.1 / 3)) ⟨hc', by have := nameOf_le (up := z.2.1) hv' xs; dsimp only; omega, nameOf_ok, by dsimp only; omega, by dsimp only; omega⟩
    · rw [spec_l5DrawRight_1_ce0]
      exact Gd.ret ⟨⟨by rw [show (tx z.2.1).size = _ from tx_size _]; omega, by rw [show (tx z.2.1).data.toList = _ from tx_list _]; exact ho⟩, cx⟩
  · obtain ⟨hc, hl, ho, h0, hv⟩ := hI
    rw [spec_l5DrawRight_1_step]
    refine Dr.bind (Below_dr hc (n := 6) (by omega) (by omega)) fun x hx cx => ?_
    refine Gd.br0 (decide_eq_false (by have := hx.2; show ¬ (6 : Int) < x.1.1; omega)) ?_
    rw [spec_l5DrawRight_1_ce0]
    exact Gd.ret ⟨⟨by rw [show (tx z.2.1).size = _ from tx_size _]; omega, by rw [show (tx z.2.1).data.toList = _ from tx_list _]; exact ho⟩, cx⟩
theorem ext_size (s : ByteArray) (a b : Nat) : (s.extract a b).size ≤ s.size := by
  rw [ByteArray.size_extract]
  omega
theorem app_size (a b : ByteArray) : (a ++ b).size = a.size + b.size := ByteArray.size_append
theorem okS_of {l h n : Int} (h0 : 0 ≤ l) (h1 : l ≤ h) (h2 : h ≤ n) : okS l h n = true := by simp [okS, h0, h1, h2]
theorem Dent_dr {c : CurD} (h : Cur c) {s : ByteArray} (hs : s.size ≤ 20000) : Dr (α := ByteArray) (spec_l2Dent F0 c s) fun v => v.size ≤ 20100 := by
  unfold Dr
  rw [spec_l2Dent_eq]
  rw [w64_in (n := (s.size : Int) + 1) (by omega) (by omega)]
  refine Dr.bind (Below_dr h (n := (s.size : Int) + 1) (by omega) (by omega)) fun x hx cx => Dr.bind (Below_dr cx (n := 5) (by omega) (by omega)) fun y hy cy => ?_
  have x0 := hx.1
  have x1 := hx.2
  refine Gd.br (fun _ => Gd.ck (okS_of (by omega) (by omega) (by omega)) (Gd.ret ⟨?_, cy⟩)) fun _ => Gd.br (fun _ => ?_) fun _ => Gd.ret ⟨by show s.size ≤ 20100; omega, cy⟩
  · have := ext_size s (0 : Int).toNat x.1.1.toNat
    show (s.extract _ _).size ≤ 20100
    omega
  · refine Gd.ck (okS_of (by omega) (by omega) (by omega)) (Gd.ck (okS_of (by omega) (by omega) (by omega)) (Dr.bind (Pick_dr cy (by decide) (by decide)) fun z hz cz => ?_))
    have e1 := ext_size s (0 : Int).toNat x.1.1.toNat
    have e2 := ext_size s x.1.1.toNat (s.size : Int).toNat
    have hz1 : z.1.1.size = 1 := by
      have := hz
      simp only [List.mem_cons, List.not_mem_nil, or_false] at this
      rcases this with h | h | h | h | h | h | h <;> rw [show z.1.1 = _ from h] <;> rfl
    refine Gd.ck (okC_le (by omega)) (Gd.ck (okC_le (by rw [app_size]; omega)) (Gd.ret ⟨?_, cz⟩))
    show (_ ++ _ ++ _ : ByteArray).size ≤ 20100
    rw [app_size, app_size]
    have : (s.extract (0 : Int).toNat x.1.1.toNat).size + (s.extract x.1.1.toNat (s.size : Int).toNat).size ≤ s.size := by
      rw [ByteArray.size_extract, ByteArray.size_extract]
      omega
    omega
theorem Draw5_dr {c : CurD} (h : Cur c) : Dr (α := ByteArray) (spec_l5Draw F0 c) fun v => v.size ≤ 20100 := by
  unfold Dr
  rw [spec_l5Draw_eq]
  refine Dr.bind (Once_dr h (by omega) (by omega)) fun x hx cx => Gd.br (fun _ => ?_) fun _ => ?_
  · refine gd_loop (fun n i (z : CurD × List UInt8) => spec_l5Draw_1 F0 (spec_l5Draw_1_k F0) n (spec_l5Draw_1_s (tx z.2) i z.1.1 z.1.2.1 z.1.2.2)) 33 (fun k z => 1 ≤ k ∧ Cur z.1 ∧ z.2.length ≤ 30 * k) _ (fun n k z hk hI ih => ?_) (fun n z hI => ?_) F0.n 1 (x.2.1, []) (by omega) ⟨Nat.le_refl _, cx, Nat.zero_le _⟩ (by rw [n_eq]; omega)
    · obtain ⟨hI1, hI2, hI3⟩ := hI
      rw [spec_l5Draw_1_step]
      refine Dr.bind (Below_dr hI2 (n := 2) (by omega) (by omega)) fun y hy cy => Gd.br (fun _ => ?_) fun _ => ?_
      · have hi : I64 (k : Int) := ⟨by omega, by omega⟩
        have hl := itoa_le hi
        refine Gd.ck (okC_le (by rw [tx_size]; show _ + 1 ≤ _; omega)) (Gd.let (digits_law hi) ?_)
        rw [show ByteArray.mk #[47] = tx [47] from rfl, show ByteArray.mk #[124] = tx [124] from rfl, tx_append]
        dsimp only
        rw [tx_append, tx_append, w64_succ (by omega)]
        refine Gd.ck (okC_le (by rw [tx_size, tx_size, List.length_append, List.length_singleton]; omega)) (Gd.ck (okC_le (by rw [tx_size, tx_size, List.length_append, List.length_append, List.length_singleton, List.length_singleton]; omega)) ?_)
        exact ih (y.2.1, z.2 ++ [47] ++ Lib.itoa (k : Int) ++ [124]) ⟨by omega, cy, by rw [List.length_append, List.length_append, List.length_append, List.length_singleton, List.length_singleton]; omega⟩
      · rw [spec_l5Draw_1_ce0]
        exact Gd.ret ⟨by show (tx z.2).size ≤ 20100; rw [tx_size]; omega, cy⟩
    · obtain ⟨hI1, hI2, hI3⟩ := hI
      rw [spec_l5Draw_1_step]
      refine Dr.bind (Below_dr hI2 (n := 2) (by omega) (by omega)) fun y hy cy => ?_
      refine Gd.br0 (decide_eq_false ?_) ?_
      · rw [w64_in (by omega) (by omega)]
        omega
      · rw [spec_l5Draw_1_ce0]
        exact Gd.ret ⟨by show (tx z.2).size ≤ 20100; rw [tx_size]; omega, cy⟩
  · refine Dr.bind (DrawName_dr cx) fun y hy cy => Dr.bind (Dent_dr cy (by have := hy.1; omega)) fun z hz cz => Gd.ret ⟨hz, cz⟩
end Go.Am.Tryz
set_option linter.unusedVariables false
set_option linter.unusedSimpArgs false
namespace Go.Am.Tryz
open Go.Am
def rcsOf (name : List UInt8) (list : List TxD) : List (Int × Int) := list.map fun x => rcOf name x.1 x.2.2.2
theorem Receipts_law {name : List UInt8} (hn : name.length ≤ 1073741824) {list : List TxD} (hl : list.length ≤ 1048576) : spec_Receipts F0 (tx name) list = some (rcsOf name list, ()) := by
  rw [spec_Receipts_eq]
  refine push_to (fun n i xs => spec_Receipts_1 F0 (spec_Receipts_1_k F0) n (spec_Receipts_1_s (tx name) list i xs)) list (fun x => rcOf name x.1 x.2.2.2) _ (fun n k hk xs hx => ?_) (fun n => ?_) _ (by rw [n_eq]; omega)
  · simp only [spec_Receipts_1_step, dec_lt hk, okI_nat hk, br_true, ck_true, at_is hk, ReceiptOf_law hn, bnd]
    rw [okA_le (k := 16) (by omega) (by omega) (by simp only [List.length_cons, List.length_nil]; omega), ck_true, w64_succ (by omega)]
  · simp only [spec_Receipts_1_step, dec_nlt, br_false, spec_Receipts_1_ce0]
    rfl
theorem Receipts_law2 {name : List UInt8} (hn : name.length ≤ 1073741824) {list : List TxD} (hl : list.length ≤ 1048576) : impl_Receipts F0 (tx name) list = some (rcsOf name list, ()) := by
  rw [impl_Receipts_eq]
  refine push_to (fun n i xs => impl_Receipts_1 F0 (impl_Receipts_1_k F0) n (impl_Receipts_1_s (tx name) list (list.length : Int) i xs)) list (fun x => rcOf name x.1 x.2.2.2) _ (fun n k hk xs hx => ?_) (fun n => ?_) _ (by rw [n_eq]; omega)
  · simp only [impl_Receipts_1_step, dec_lt hk, okI_nat hk, br_true, ck_true, at_is hk, ReceiptOf_law2 hn, bnd]
    rw [okA_le (k := 16) (by omega) (by omega) (by simp only [List.length_cons, List.length_nil]; omega), ck_true, w64_succ (by omega)]
  · simp only [impl_Receipts_1_step, dec_nlt, br_false, impl_Receipts_1_ce0]
    rfl
/-! ### Marks -/
end Go.Am.Tryz
