/- Plain laws: what a disk keeps; the law of JudgeKept. No condition. -/
import Derived.Test.YtkkgagllehdhhaaGreatDoorZqLawOne
set_option linter.unusedVariables false
set_option linter.unusedSimpArgs false
namespace Go.Am.Tryz
open Go.Am
/-! ### The last note -/
/-! ### What is kept -/
def rp (w : WorldD) (i : Nat) : RepD := w.2.2.1.getD ((honestL w).getD i 0).toNat d0Rep
theorem rp_is {w : WorldD} {i j : Nat} (hi : i < (honestL w).length) (e : (honestL w)[i] = (j : Int)) (hj : j < w.2.2.1.length) : rp w i = w.2.2.1[j] := by
  unfold rp
  rw [getD_is hi, e, Int.toNat_natCast, getD_is hj]
end Go.Am.Tryz
