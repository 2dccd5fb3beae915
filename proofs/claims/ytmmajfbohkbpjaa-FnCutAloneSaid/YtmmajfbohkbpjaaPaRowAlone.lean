/- FnCutAlone holds: for every input the law returns true, and the input reads as it did. No condition. -/
import Derived.Test.YtmmajfbohkbpjaaRows
import Derived.Test.YtmmajfbohkbpjaaPaLawAlone
import Derived.Test.YtmmajfbohkbpjaaAmRow
import Derived.ProofKit
set_option maxRecDepth 100000
namespace Go.Am.Try
open Go.Am Go.Proofs
def law_ps : List (Ty × Bool) := [(.sl 5 (.int .u8), false)]
noncomputable def law_c : Con := ⟨law_ps, [(.bool, false)], 1, fun x => laws_FnCutAlone F0 x.1⟩
theorem law_c_ok : ConOk Try.prog TB 5 law_c := laws_FnCutAlone_ok
theorem law_args (x : Args law_ps) : law_c.g x = some (true, ()) := FnCutAlone_true x.1
end Go.Am.Try
namespace Go.Proofs.Ytmmajfbohkbpjaa
open Go.ChangeShapes Go.WideShapes Go.ChangeAt Go.RowKit

theorem Try.own : ownKnob Try.prog.godebug = none := by kernel_rfl
theorem Try.laidOut : laidOutB Try.prog = true := by kernel_rfl

set_option maxRecDepth 100000 in
theorem alone_lifted (os : Os) (started : os.Started) (H : Type) (enc : TypeId × Value → H) :
    ReturnsInHanded {} Try.checked os 5 .any (Rows.fnCutAloneSpec.pre6 enc Try.prog Try.f5 Rows.fnCutAloneRow.domain false) (Rows.fnCutAloneSpec.post enc Try.prog Try.f5 false true false false) := by
  refine returnsInHanded_of_change (C := Try.checked) Try.own started (by kernel_rfl) Try.func5
    (ChangeSpec.witness6 (enc := enc) (C := Try.checked) false ⟨#[], #[.slice none 0 0], []⟩ 8 (by kernel_rfl) (by kernel_rfl) (by kernel_rfl) (by kernel_rfl)) ?_
  intro W base args ds gs before hval0 hW hcnd _
  have hval : ∀ (j : Nat) t v, Try.f5.params.toList[j]? = some t → args.toList[j]? = some v → Value.okWide Try.prog W .any base t v := fun j t v h1 h2 => hval0 j t v (by simpa using h1) (by simpa using h2)
  obtain ⟨p, q, hA, hV, _⟩ := id hW
  have hk : Go.Am.psChk Try.prog Try.f5.params.toList = some Go.Am.Try.law_ps := by kernel_rfl
  obtain ⟨x, hx, _⟩ := Go.Am.args_open hk hval hA
  have htrue := Go.Am.Try.law_args x
  have hcall := Go.Am.Try.law_c_ok.2 x (true, ()) htrue W trivial _ args.toList hx
  rw [Array.toArray_toList] at hcall
  refine hcall.mono fun e W' he => ?_
  obtain ⟨us, rfl, hres, hB⟩ := he
  have hus : us = [.bool true] := by
    obtain ⟨v, vs, rfl, ⟨cs, h1, h2⟩, h3⟩ := (show Go.Am.ArgsRd _ _ [(.bool, false)] (true, ()) us from hres)
    rw [show vs = [] from h3, h2, show cs = [.bool true] from h1]
    rfl
  subst hus
  have hds : ∃ d0, ds = [d0] := by
    have hl := Go.Am.trodAll_len hA
    have hl1 : ds.length = 1 := hl.trans (by kernel_rfl)
    match ds, hl1 with
    | [d0], _ => exact ⟨d0, rfl⟩
  have hgs : gs = [] := by
    cases gs with
    | nil => rfl
    | cons _ _ => exact hV.elim
  obtain ⟨d0, rfl⟩ := hds
  subst hgs
  exact ⟨_, rfl, Go.Am.row_post Try.laidOut rfl (by kernel_rfl) (tb := 4) (by kernel_rfl) Try.underlying4 hW hB rfl⟩

theorem FnCutAlone_holds : Rows.FnCutAloneSaid :=
  OpenClaim.holds_of_wide 5 Try.f5 rfl rfl rfl rfl rfl rfl rfl ⟨rfl, rfl, rfl, rfl, rfl⟩ rfl rfl rfl rfl rfl (by kernel_rfl) Try.func5 (by kernel_rfl)
    (of_decide_eq_true (by kernel_rfl)) (by unfold Func.isWrapper; first | (rw [if_pos (by decide +kernel)]; kernel_rfl) | (rw [if_neg (by decide +kernel)]; exact ⟨rfl, rfl⟩))
    (fun os started H enc _ => alone_lifted os started H enc)
end Go.Proofs.Ytmmajfbohkbpjaa
