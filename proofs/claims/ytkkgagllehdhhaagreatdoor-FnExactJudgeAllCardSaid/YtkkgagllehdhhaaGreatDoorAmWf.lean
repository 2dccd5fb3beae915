/- Data that came in: what the reader has seen of it. No condition. -/
import Derived.Test.YtkkgagllehdhhaaGreatDoorAmData
import Derived.Test.YtkkgagllehdhhaaGreatDoorAmOpen
set_option linter.unusedVariables false
set_option linter.unusedSimpArgs false
namespace Go.Am
theorem lim_of_wf : ∀ {t : Ty} {x : t.D}, Wf t x → Lim 9223372036854775807 t x
  | .int _, _, _ => trivial
  | .bool, _, _ => trivial
  | .unit, _, _ => trivial
  | .str, _, h => h
  | .pair _ _, _, h => ⟨lim_of_wf h.1, lim_of_wf h.2⟩
  | .sl _ _, _, h => ⟨h.1, fun x hx => lim_of_wf (h.2 x hx)⟩
end Go.Am
