/- A search with a function literal, a row put into a row: contracts. No condition. -/
import Derived.Test.YtijjjmdoflbmfaaGreatDoorProg
import Derived.Test.YtijjjmdoflbmfaaGreatDoorAmEdit
import Derived.Maps.AppendAt
import Derived.Test.YtijjjmdoflbmfaaGreatDoorJShelfD
import Derived.Shelf.Spec.SlicesInsert
import Derived.Lib.AppendZerosOnto
import Derived.Laws.NewBlocks
import Derived.Deep.LoopGhost
import Derived.Deep.Draws
set_option linter.unusedVariables false
set_option linter.unusedSimpArgs false
namespace Go.Am.Tryz
open Go.Am Go.Proofs Go.RowKit Go.Lib
def geP (x y : Int) : Bool := decide (x ≥ y)
def slices_IndexFunc_int_idx : Idx := ⟨89, (.int .i64, false), .int .i64, geP⟩
def slices_IndexFunc_int_con : Any := .idx slices_IndexFunc_int_idx
theorem SetAdd_lit (W : World) (x y : Int) (B : Nat) (cs : Array Value) (e : TypeId) (hB : W.heap[B]? = some (.cells cs e (0, 0))) (hy : cs.toList = [.int .i64 y]) :
    Calls Tryz.prog 89 #[.int .i64 x, .pointer (some ⟨B, 0, none⟩)] W fun e w' => e = .returned (.bool (geP x y)) ∧ w' = W := by
  have hc : W.cell? ⟨B, 0, none⟩ = some (.int .i64 y) := by
    rw [cell_of_row W B 0 cs e (0, 0) hB, ← Array.getElem?_toList, hy]
    rfl
  go_enter Tryz.func89, Tryz.ntmps89
  go_wp2
  go_ret
  exact ⟨rfl, rfl⟩
theorem idxL_drop {α : Type} (p : α → Bool) (xs : List α) (k : Nat) (h : k < xs.length) : idxL p (xs.drop k) (k : Int) = if p xs[k] = true then (k : Int) else idxL p (xs.drop (k + 1)) ((k + 1 : Nat) : Int) := by
  rw [List.drop_eq_getElem_cons h, idxL]
  cases p xs[k] with
  | true => rfl
  | false => rw [show (k : Int) + 1 = ((k + 1 : Nat) : Int) by omega]; rfl
set_option maxHeartbeats 2000000 in
theorem slices_IndexFunc_int_at (W : World) (xs : List Int) (y : Int) (s : Value) (B : Nat) (cs : Array Value) (e e' : TypeId) (hs : Rd W (fun _ => True) (.sl e' (.int .i64)) xs [s]) (hB : W.heap[B]? = some (.cells cs e (0, 0))) (hy' : cs.toList = [.int .i64 y]) :
    Calls Tryz.prog 88 #[s, .func (.func 89) #[] #[.pointer (some ⟨B, 0, none⟩)]] W fun e' w' => e' = .returned (.int .i64 (idxL (fun x => geP x y) xs 0)) ∧ Below W.heap.size W w' := by
  obtain ⟨A, cap, h1, hcap, h63, hcell⟩ := hs
  have hs' : s = .slice A xs.length cap := (List.cons.inj h1).1
  subst hs'
  have eg : ∀ args w, (callFunc 89 args).run Tryz.prog w = .ok (.enter 89 args) w := enters_of Tryz.func89 (by kernel_rfl) rfl
  have hcall : ∀ x, Calls Tryz.prog 89 (#[.int .i64 x] ++ #[.pointer (some ⟨B, 0, none⟩)]) W fun e w' => e = .returned (.bool (geP x y)) ∧ w' = W := fun x => SetAdd_lit W x y B cs e hB hy'
  clear hB hy' h1
  have hel : ∀ j (h : j < xs.length), ∃ b o, A = some ⟨b, o, none⟩ ∧ W.cell? ⟨b, o + j, none⟩ = some (.int .i64 xs[j]) := by
    intro j h
    obtain ⟨b, o, hA, _, _, hh⟩ := hcell (by omega)
    obtain ⟨c, hc1, hc2⟩ := hh j xs[j] (List.getElem?_eq_getElem h)
    have hc1 : c = [.int .i64 xs[j]] := hc1
    refine ⟨b, o, hA, ?_⟩
    have := hc2 0 (.int .i64 xs[j]) (by rw [hc1]; rfl)
    rw [show j * (Ty.int .i64).n + 0 = j by simp [Ty.n]] at this
    exact this
  clear hcell
  have hst := idxL_drop (fun x => geP x y) xs
  obtain ⟨R, hR⟩ : ∃ R, R = idxL (fun x => geP x y) xs 0 := ⟨_, rfl⟩
  have hR0 : Aside (R = idxL (fun x => geP x y) (xs.drop 0) ((0 : Nat) : Int)) := hR
  rw [← hR]
  clear hR
  obtain ⟨n, hn⟩ : ∃ n, n = xs.length := ⟨_, rfl⟩
  have hnA : Aside (n = xs.length) := hn
  rw [← hn]
  clear hn
  go_enter Tryz.func88, Tryz.ntmps88
  go_wp2
  go_loopg [5, 8] n (fun gg _ s8 wr => ∃ kk : Nat, kk ≤ n ∧ n - kk ≤ gg ∧ s8 = .int .i64 kk ∧ wr = W ∧ Aside (R = idxL (fun x => geP x y) (xs.drop kk) (kk : Int)))
  case atStart => exact ⟨0, Nat.zero_le _, by omega, rfl, rfl, hR0⟩
  case round =>
    obtain ⟨kk, hkn, hg, rfl, rfl, A1⟩ := hrel
    by_cases hlt : kk < n
    · have hltz : (kk : Int) < (n : Int) := by omega
      have hk' : kk < xs.length := by rw [← hnA.out]; exact hlt
      obtain ⟨b, o, hA, hcl⟩ := hel kk hk'
      subst hA
      have hst' := hst kk hk'
      clear hel hst
      generalize hy : xs[kk] = z at hcl hst'
      have hc := hcall z
      cases hq : geP z y with
      | true =>
        rw [hq] at hc
        have B1 : Aside (R = (kk : Int)) := by
          show R = _
          rw [A1.out, hst']
          rw [hq]
          rfl
        clear hst'
        go_wp2_with (go_at_fn 89; refine hc.mono ?_; rintro e w' ⟨rfl, rfl⟩)
        go_ret
        exact ⟨by rw [B1.out]; rfl, Below.refl _ _⟩
      | false =>
        rw [hq] at hc
        have B1 : Aside (R = idxL (fun x => geP x y) (xs.drop (kk + 1)) ((kk + 1 : Nat) : Int)) := by
          show R = _
          rw [A1.out, hst']
          rw [hq]
          rfl
        clear hst'
        go_wp2_with (go_at_fn 89; refine hc.mono ?_; rintro e w' ⟨rfl, rfl⟩)
        go_roundg (n - (kk + 1))
        case measure => omega
        case rel => exact ⟨kk + 1, by omega, by omega, by go_num, rfl, B1⟩
    · have hltz : ¬ (kk : Int) < (n : Int) := by omega
      have : kk = n := by omega
      subst this
      clear hel hst hcall
      have B1 : Aside (R = -1) := by
        show R = _
        rw [A1.out, hnA.out, List.drop_length]
        rfl
      go_wp2
      go_ret
      exact ⟨by rw [B1.out]; rfl, Below.refl _ _⟩
theorem slices_IndexFunc_int_ok : AnyOk Tryz.prog TB 88 slices_IndexFunc_int_con := ⟨⟨_, Tryz.func88, by kernel_rfl, by kernel_rfl⟩, fun W _ xs y s B cs e e' hs hB hy => slices_IndexFunc_int_at W xs y s B cs e e' hs hB hy⟩
end Go.Am.Tryz
