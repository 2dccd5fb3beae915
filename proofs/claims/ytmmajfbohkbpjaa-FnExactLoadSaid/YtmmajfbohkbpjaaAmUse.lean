/- What the printed texts use. No condition. -/
import Derived.Test.YtmmajfbohkbpjaaAmFn
namespace Go.Am
abbrev w64 (n : Int) : Int := IntKind.i64.wrap n
def N0 : Nat := 2 ^ 64
def F0 : Par := Par.std N0
theorem br_t {α : Type} {c : Bool} {x y x' y' : Option α} (h1 : x = x') (h2 : y = y') : br c x y = br c x' y' := by rw [h1, h2]
theorem ck_t {α : Type} {c : Bool} {x x' : Option α} (h1 : x = x') : ck c x = ck c x' := by rw [h1]
theorem bind_t {α β : Type} {g : Option β} {f f' : β → Option α} (h : ∀ v, f v = f' v) : g.bind f = g.bind f' := by rw [funext h]
theorem br_b {α β : Type} {c : Bool} {x y : Option α} {x' y' : Option β} {f : β → Option α} (h1 : x = x'.bind f) (h2 : y = y'.bind f) : br c x y = (br c x' y').bind f := by rw [h1, h2]; cases c <;> rfl
theorem ck_b {α β : Type} {c : Bool} {x : Option α} {x' : Option β} {f : β → Option α} (h1 : x = x'.bind f) : ck c x = (ck c x').bind f := by rw [h1]; cases c <;> rfl
theorem bind_b {α β γ : Type} {g : Option γ} {k : γ → Option α} {k' : γ → Option β} {f : β → Option α} (h : ∀ v, k v = (k' v).bind f) : g.bind k = (g.bind k').bind f := by
  rw [funext h]; cases g <;> rfl
def AllOk (P : Program) : List (Nat × Con) → Prop
  | [] => True
  | (f, c) :: l => ConOk P f c ∧ AllOk P l
theorem look_ok {P : Program} : ∀ {l : List (Nat × Con)}, AllOk P l → ∀ f con, look l f = some con → ConOk P f con
  | [], _, f, con, h => by simp [look] at h
  | (g, c) :: l, h, f, con, hl => by
    rw [look_cons] at hl
    by_cases he : g = f
    · simp only [he, if_true] at hl
      cases hl
      exact he ▸ h.1
    · simp only [he, if_false] at hl
      exact look_ok h.2 f con hl
end Go.Am
