/- Plain laws: ledgers of chains. No condition. -/
import Derived.Test.YtmmajfbohkbpjaaPaLawPay2
import Derived.Test.YtmmajfbohkbpjaaAmMark
set_option linter.unusedVariables false
set_option linter.unusedSimpArgs false
namespace Go.Am.Try
open Go.Am
def led0 : LedD := ([100, 100, 100, 100], [0, 0, 0, 0])
def Led4 (l : LedD) : Prop := l.1.length = 4 ∧ l.2.length = 4
theorem pay4 {l : LedD} (h : Led4 l) (x : TxD) : Led4 (payD l x).1 := ⟨(payD_len l x).1.trans h.1, (payD_len l x).2.trans h.2⟩
theorem at_is {α : Type} {a : List α} {k : Nat} (h : k < a.length) (d : α) : at_ a (k : Int) d = a[k] := by
  rw [at_nat]
  simp [List.getD, h]
theorem eta4 (x : TxD) : (x.1, (x.2.1, (x.2.2.1, x.2.2.2))) = x := rfl
def payCodes : LedD → List TxD → List Int
  | _, [] => []
  | l, x :: xs => (payD l x).2 :: payCodes (payD l x).1 xs
def payFin : LedD → List TxD → LedD
  | l, [] => l
  | l, x :: xs => payFin (payD l x).1 xs
theorem payFin4 : ∀ {xs : List TxD} {l : LedD}, Led4 l → Led4 (payFin l xs)
  | [], _, h => h
  | x :: xs, l, h => payFin4 (xs := xs) (pay4 h x)
theorem payCodes_len : ∀ (xs : List TxD) (l : LedD), (payCodes l xs).length = xs.length
  | [], _ => rfl
  | x :: xs, l => by simp [payCodes, payCodes_len xs]
theorem payCodes_app : ∀ (a b : List TxD) (l : LedD), payCodes l (a ++ b) = payCodes l a ++ payCodes (payFin l a) b
  | [], _, _ => rfl
  | x :: a, b, l => by simp [payCodes, payFin, payCodes_app a b]
theorem payFin_snoc : ∀ (a : List TxD) (x : TxD) (l : LedD), payFin l (a ++ [x]) = (payD (payFin l a) x).1
  | [], _, _ => rfl
  | y :: a, x, l => by simp [payFin, payFin_snoc a x]
theorem payCodes_get : ∀ (xs : List TxD) (l : LedD) (j : Nat) (h : j < xs.length), (payCodes l xs)[j]? = some (payD (payFin l (xs.take j)) xs[j]).2
  | x :: xs, l, 0, h => rfl
  | x :: xs, l, j + 1, h => by
    simp only [payCodes, List.getElem?_cons_succ, List.take_succ_cons, payFin, List.getElem_cons_succ]
    exact payCodes_get xs _ j (by simpa using h)
theorem flat_len : ∀ {ss : List StepD}, (∀ s ∈ ss, StepOk s) → (ss.flatMap (·.2)).length ≤ 2 * ss.length
  | [], _ => by simp
  | s :: ss, h => by
    have h1 := (h s List.mem_cons_self).2.2.1
    have h2 := flat_len (ss := ss) fun x hx => h x (List.mem_cons_of_mem _ hx)
    rw [List.flatMap_cons, List.length_append, List.length_cons]
    omega
theorem br3 {α : Type} (a b c d : Bool) (x y : α) : br a (br b (br c x (br d x y)) y) y = if (a && (b && (c || d))) = true then x else y := by cases a <;> cases b <;> cases c <;> cases d <;> rfl
end Go.Am.Try
