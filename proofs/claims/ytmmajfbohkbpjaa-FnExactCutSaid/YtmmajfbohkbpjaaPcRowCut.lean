/- FnExactCut holds: for every input the law returns true, and the input reads as it did. No condition. -/
import Derived.Test.YtmmajfbohkbpjaaRows
import Derived.Test.YtmmajfbohkbpjaaPcLawCut
import Derived.Test.YtmmajfbohkbpjaaAmRow
import Derived.ProofKit
set_option maxRecDepth 100000
namespace Go.Am.Try
open Go.Am Go.Proofs
def law_ps : List (Ty × Bool) := [(.pair (.int .i64) (.int .i64), true), (.int .i64, false), (.sl 3 (.int .i64), false), (.sl 3 (.int .i64), false)]
noncomputable def law_c : Con := ⟨law_ps, [(.bool, false)], 1, fun x => laws_FnExactCut F0 x.1 x.2.1 x.2.2.1 x.2.2.2.1⟩
theorem law_c_ok : ConOk Try.prog TB 3 law_c := laws_FnExactCut_ok
theorem law_args (x : Args law_ps) : law_c.g x = some (true, ()) := FnExactCut_true x.1 x.2.1 x.2.2.1 x.2.2.2.1
end Go.Am.Try
namespace Go.Proofs.Ytmmajfbohkbpjaa
open Go.ChangeShapes Go.WideShapes Go.ChangeAt Go.RowKit

theorem Try.own : ownKnob Try.prog.godebug = none := by kernel_rfl
theorem Try.laidOut : laidOutB Try.prog = true := by kernel_rfl

set_option maxRecDepth 100000 in
theorem cut_lifted (os : Os) (started : os.Started) (H : Type) (enc : TypeId × Value → H) :
    ReturnsInHanded {} Try.checked os 3 .any (Rows.fnExactCutSpec.pre6 enc Try.prog Try.f3 Rows.fnExactCutRow.domain false) (Rows.fnExactCutSpec.post enc Try.prog Try.f3 false true false false) := by
  refine returnsInHanded_of_change (C := Try.checked) Try.own started (by kernel_rfl) Try.func3
    (ChangeSpec.witness6 (enc := enc) (C := Try.checked) false ⟨#[], #[.agg #[.int .i64 0, .int .i64 0], .int .i64 0, .slice none 0 0, .slice none 0 0], []⟩ 8 (by kernel_rfl) (by kernel_rfl) (by kernel_rfl) (by kernel_rfl)) ?_
  intro W base args ds gs before hval0 hW hcnd _
  have hval : ∀ (j : Nat) t v, Try.f3.params.toList[j]? = some t → args.toList[j]? = some v → Value.okWide Try.prog W .any base t v := fun j t v h1 h2 => hval0 j t v (by simpa using h1) (by simpa using h2)
  obtain ⟨p, q, hA, hV, _⟩ := id hW
  have hk : Go.Am.psChk Try.prog Try.f3.params.toList = some Go.Am.Try.law_ps := by kernel_rfl
  obtain ⟨x, hx, _⟩ := Go.Am.args_open hk hval hA
  have htrue := Go.Am.Try.law_args x
  have hcall := Go.Am.Try.law_c_ok.2 x (true, ()) htrue W trivial _ args.toList hx
  rw [Array.toArray_toList] at hcall
  refine hcall.mono fun e W' he => ?_
  obtain ⟨us, rfl, hres, hB⟩ := he
  have hus : us = [.bool true] := by
    obtain ⟨v, vs, rfl, ⟨cs, h1, h2⟩, h3⟩ := (show Go.Am.ArgsRd _ _ [(.bool, false)] (true, ()) us from hres)
    rw [show vs = [] from h3, h2, show cs = [.bool true] from h1]
    rfl
  subst hus
  have hds : ∃ d0 d1 d2 d3, ds = [d0, d1, d2, d3] := by
    have hl := Go.Am.trodAll_len hA
    have hl1 : ds.length = 4 := hl.trans (by kernel_rfl)
    match ds, hl1 with
    | [d0, d1, d2, d3], _ => exact ⟨d0, d1, d2, d3, rfl⟩
  have hgs : gs = [] := by
    cases gs with
    | nil => rfl
    | cons _ _ => exact hV.elim
  obtain ⟨d0, d1, d2, d3, rfl⟩ := hds
  subst hgs
  exact ⟨_, rfl, Go.Am.row_post Try.laidOut rfl (by kernel_rfl) (tb := 4) (by kernel_rfl) Try.underlying4 hW hB rfl⟩

theorem FnExactCut_holds : Rows.FnExactCutSaid :=
  OpenClaim.holds_of_wide 3 Try.f3 rfl rfl rfl rfl rfl rfl rfl ⟨rfl, rfl, rfl, rfl, rfl⟩ rfl rfl rfl rfl rfl (by kernel_rfl) Try.func3 (by kernel_rfl)
    (of_decide_eq_true (by kernel_rfl)) (by unfold Func.isWrapper; first | (rw [if_pos (by decide +kernel)]; kernel_rfl) | (rw [if_neg (by decide +kernel)]; exact ⟨rfl, rfl⟩))
    (fun os started H enc _ => cut_lifted os started H enc)
end Go.Proofs.Ytmmajfbohkbpjaa
