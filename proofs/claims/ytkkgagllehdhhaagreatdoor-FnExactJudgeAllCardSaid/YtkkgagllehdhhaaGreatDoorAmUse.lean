/- What the printed texts use. No condition. -/
import Derived.Test.YtkkgagllehdhhaaGreatDoorAmFn2
namespace Go.Am
abbrev w64 (n : Int) : Int := IntKind.i64.wrap n
def N0 : Nat := 2 ^ 64
def F0 : Par := Par.std N0
/-! ### What is asked of indices, of sizes -/
def okI (i n : Int) : Bool := decide (0 ≤ i) && decide (i < n)
def okS (l h n : Int) : Bool := decide (0 ≤ l) && decide (l ≤ h) && decide (h ≤ n)
def okT (h n : Int) : Bool := decide (0 ≤ h) && decide (h ≤ n)
def okA (F : Par) (a b : Nat) (k : Int) : Bool := decide (((a + b : Nat) : Int) * k ≤ F.mem)
def okC (F : Par) (a b : Nat) : Bool := decide (((a + b : Nat) : Int) ≤ F.str)
def okM (F : Par) (n m k : Int) : Bool := decide (0 ≤ n) && n == m && decide (n * k ≤ F.mem)
/-- An element. -/
def at_ {α : Type} (xs : List α) (i : Int) (d : α) : α := xs.getD i.toNat d
def AllOk (P : Program) (T : Tab) : List (Nat × Any) → Prop
  | [] => True
  | (f, c) :: l => AnyOk P T f c ∧ AllOk P T l
theorem look_ok {P : Program} {T : Tab} : ∀ {l : List (Nat × Any)}, AllOk P T l → ∀ f con, look l f = some con → AnyOk P T f con
  | [], _, f, con, h => by simp [look] at h
  | (g, c) :: l, h, f, con, hl => by
    rw [look_cons] at hl
    by_cases he : g = f
    · simp only [he, if_true] at hl
      cases hl
      exact he ▸ h.1
    · simp only [he, if_false] at hl
      exact look_ok h.2 f con hl
theorem ok1 {P : Program} {T : Tab} {f : FuncId} {fn : Func} {l : List (Nat × Any)} (hl : AllOk P T l) (hf : P.funcs[f]? = some fn) (hn : (fn.name == "runtime.NumGoroutine") = false) (hb : fn.body.isNone = false) (H : Nat → Option Hint)
    {ps rs : List (Ty × Bool)} {m : Nat} {g : Args ps → Option (Args rs)} (hg : (fun x => runF P (look l) F0 H fn ps rs m x) = g) : AnyOk P T f (.one ⟨ps, rs, m, g⟩) :=
  conOk_of_run (con := ⟨ps, rs, m, g⟩) (look_ok hl) hf hn hb H fun x r h => ⟨N0, (congrFun hg x).trans h⟩
theorem ok3 {P : Program} {T : Tab} {f : FuncId} {fn : Func} {l : List (Nat × Any)} (hl : AllOk P T l) (hf : P.funcs[f]? = some fn) (hn : (fn.name == "runtime.NumGoroutine") = false) (hb : fn.body.isNone = false) (H : Nat → Option Hint)
    {ps rs : List (Ty × Bool)} {i m : Nat} {pm : PM} {p : Ty × Bool} {g : Args ps → Option (Args rs × Args [p])} (hp : nth? ps i = some p) (hg : (fun x => runF2 P (look l) F0 H fn ps i pm rs [p] m x) = g) : AnyOk P T f (.two ⟨ps, i, pm, rs, m, [p], g⟩) :=
  conOk2_of_run (con := ⟨ps, i, pm, rs, m, [p], g⟩) (look_ok hl) hf hn hb (.inr ⟨p, rfl, hp⟩) H fun x r h => ⟨N0, (congrFun hg x).trans h⟩
end Go.Am
