/- Plain laws: replicas and worlds as texts. No condition. -/
import Derived.Test.YtkkgagllehdhhaaGreatDoorZkLawWorld

set_option linter.unusedVariables false
set_option linter.unusedSimpArgs false
namespace Go.Am.Tryz
open Go.Am

def heightOf (l : List UInt8) : Int := if nameOk l = true then ((stepsOf l).1.length : Int) else -1
theorem heightOf_in (l : List UInt8) : -1 ≤ heightOf l ∧ heightOf l ≤ 30 := by
  unfold heightOf
  have := stepsOf_len l
  split <;> omega
def repInts (r : RepD) : List Int := [r.2.1, r.2.2.2.1.1, r.2.2.2.1.2.1, r.2.2.2.1.2.2.1.1, heightOf r.2.2.2.1.2.2.2.data.toList, (r.2.2.2.2.1.length : Int) + r.2.2.2.2.2.1.length + r.2.2.2.2.2.2.2.length]
def repL (r : RepD) : List UInt8 := Lib.join ((r.1 :: repInts r).map Lib.itoa) [32]
structure RepI (r : RepD) : Prop where
  i1 : I64 r.1
  i2 : I64 r.2.1
  i3 : I64 r.2.2.2.1.1
  i4 : I64 r.2.2.2.1.2.1
  i5 : I64 r.2.2.2.1.2.2.1.1
  d : r.2.2.2.1.2.2.2.size ≤ 1048576
  p : r.2.2.2.2.1.length ≤ 1048576
  t : r.2.2.2.2.2.1.length ≤ 1048576
  h : r.2.2.2.2.2.2.2.length ≤ 1048576
theorem RepI.ints {r : RepD} (h : RepI r) : ∀ x ∈ r.1 :: repInts r, I64 x := by
  have hh := heightOf_in r.2.2.2.1.2.2.2.data.toList
  have hp := h.p
  have ht := h.t
  have hd := h.h
  intro x hx
  simp only [repInts, List.mem_cons, List.not_mem_nil, or_false] at hx
  rcases hx with rfl | rfl | rfl | rfl | rfl | rfl | rfl
  · exact h.i1
  · exact h.i2
  · exact h.i3
  · exact h.i4
  · exact h.i5
  · exact ⟨by omega, by omega⟩
  · exact ⟨by omega, by omega⟩
theorem join_le' {a : List Int} (h : ∀ x ∈ a, I64 x) (s : UInt8) : (Lib.join (a.map Lib.itoa) [s]).length ≤ 22 * a.length := by
  have := join_le (itoas_le h) s
  rwa [List.length_map] at this
theorem repL_len {r : RepD} (h : RepI r) : (repL r).length ≤ 154 := by
  have := join_le' h.ints 32
  exact this
/-! ### Worlds -/
def repsL : List RepD → List UInt8
  | [] => []
  | r :: l => repL r ++ 10 :: repsL l
def tailL (a b : Nat) : List UInt8 := [110, 101, 116, 32] ++ Lib.itoa (a : Int) ++ [32, 115, 97, 105, 100, 32] ++ Lib.itoa (b : Int) ++ [10]
def worldL (w : WorldD) : List UInt8 := repsL w.2.2.1 ++ tailL w.2.2.2.1.length w.2.2.2.2.length
theorem repsL_snoc : ∀ (l : List RepD) (r : RepD), repsL (l ++ [r]) = repsL l ++ (repL r ++ [10])
  | [], r => by simp [repsL]
  | x :: l, r => by
    simp only [List.cons_append, repsL]
    rw [repsL_snoc l r]
    simp
theorem repsL_len : ∀ {l : List RepD}, (∀ r ∈ l, RepI r) → (repsL l).length ≤ 155 * l.length
  | [], _ => by simp [repsL]
  | r :: l, h => by
    have h1 := repL_len (h r List.mem_cons_self)
    have h2 := repsL_len (l := l) fun x hx => h x (List.mem_cons_of_mem _ hx)
    simp only [repsL, List.length_append, List.length_cons]
    omega
/-! ### The laws -/
theorem repI_of {r : K30.D} (h : Wf K30 r) (hl : Lim 1048576 K30 r) : RepI r :=
  ⟨i64_in h.1, i64_in h.2.1, i64_in h.2.2.2.1.1, i64_in h.2.2.2.1.2.1, i64_in h.2.2.2.1.2.2.1.1, hl.2.2.2.1.2.2.2, hl.2.2.2.2.1.1, hl.2.2.2.2.2.1.1, hl.2.2.2.2.2.2.2.1⟩
end Go.Am.Tryz
