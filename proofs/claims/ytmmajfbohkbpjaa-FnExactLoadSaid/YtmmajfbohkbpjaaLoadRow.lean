/- FnExactLoad holds: for every input the law returns true, and the input reads as it did. No condition. -/
import Derived.Test.YtmmajfbohkbpjaaRows
import Derived.Test.YtmmajfbohkbpjaaLoadLaw
import Derived.ProofKit
namespace Go.Proofs.Ytmmajfbohkbpjaa
open Go.ChangeShapes Go.WideShapes Go.ChangeAt Go.RowKit

theorem Try.own : ownKnob Try.prog.godebug = none := by kernel_rfl
theorem Try.laidOut : laidOutB Try.prog = true := by kernel_rfl

open Go.Am in
theorem wf_rep {x : Go.Am.Try.RepD} (h : WfArgs [(.pair (.int .i64) (.pair (.int .i64) (.pair (.int .i64) (.pair (.pair (.int .i64) (.pair (.int .i64) (.pair (.pair (.int .i64) (.pair (.str) (.sl 3 (.int .i64)))) (.str)))) (.pair (.sl 99 (.pair (.int .i64) (.pair (.int .i64) (.pair (.int .i64) (.int .i64))))) (.pair (.sl 93 (.pair (.int .i64) (.pair (.str) (.sl 3 (.int .i64))))) (.pair (.pair (.sl 5 (.int .u8)) (.int .i64)) (.sl 103 (.pair (.int .i64) (.pair (.int .i64) (.pair (.int .i64) (.pair (.pair (.str) (.pair (.int .i64) (.pair (.str) (.sl 3 (.int .i64))))) (.pair (.pair (.int .i64) (.pair (.str) (.sl 3 (.int .i64)))) (.pair (.pair (.int .i64) (.pair (.str) (.sl 3 (.int .i64)))) (.pair (.int .i64) (.pair (.int .i64) (.pair (.int .i64) (.pair (.int .i64) (.int .i64)))))))))))))))))), true)] (x, ())) : Go.Am.Try.LRep x := by
  have hmax : maxLen = 9223372036854775807 := rfl
  obtain ⟨⟨h1, h2, h3, hs, ht, hp, hd, hq⟩, _⟩ := h
  refine ⟨⟨⟨hs.2.2.1.2.1, hs.2.2.1.2.2.1⟩, hs.2.2.2⟩, ht.1, ⟨hp.1, fun y hy => ⟨(hp.2 y hy).2.1, (hp.2 y hy).2.2.1⟩⟩, hd.1.1, hq.1, fun y hy => ?_⟩
  have := hq.2 y hy
  exact ⟨⟨this.2.2.2.1.1, this.2.2.2.1.2.2.1, this.2.2.2.1.2.2.2.1⟩, ⟨this.2.2.2.2.1.2.1, this.2.2.2.2.1.2.2.1⟩, ⟨this.2.2.2.2.2.1.2.1, this.2.2.2.2.2.1.2.2.1⟩⟩

set_option maxRecDepth 100000 in
theorem load_lifted (os : Os) (started : os.Started) (H : Type) (enc : TypeId × Value → H) :
    ReturnsInHanded {} Try.checked os 4 .any (Rows.fnExactLoadSpec.pre6 enc Try.prog Try.f4 Rows.fnExactLoadRow.domain false) (Rows.fnExactLoadSpec.post enc Try.prog Try.f4 false true false false) := by
  refine returnsInHanded_of_change (C := Try.checked) Try.own started (by kernel_rfl) Try.func4
    (ChangeSpec.witness6 (enc := enc) (C := Try.checked) false ⟨#[], #[.agg #[.int .i64 0, .int .i64 0, .int .i64 0, .int .i64 0, .int .i64 0, .int .i64 0, .string (ByteArray.mk #[]), .slice none 0 0, .string (ByteArray.mk #[]), .slice none 0 0, .slice none 0 0, .slice none 0 0, .int .i64 0, .slice none 0 0]], []⟩ 8 (by kernel_rfl) (by kernel_rfl) (by kernel_rfl) (by kernel_rfl)) ?_
  intro W base args ds gs before hval0 hW hcnd _
  have hval : ∀ (j : Nat) t v, Try.f4.params.toList[j]? = some t → args.toList[j]? = some v → Value.okWide Try.prog W .any base t v := fun j t v h1 h2 => hval0 j t v (by simpa using h1) (by simpa using h2)
  obtain ⟨p, q, hA, hV, _⟩ := id hW
  have hk : Go.Am.psChk Try.prog Try.f4.params.toList = some Go.Am.Try.laws_FnExactLoad_con.ps := by kernel_rfl
  obtain ⟨x, hx, hwf⟩ := Go.Am.args_open hk hval hA
  have htrue : Go.Am.Try.laws_FnExactLoad_con.g x = some (true, ()) := Go.Am.Try.FnExactLoad_true (wf_rep (x := x.1) hwf)
  have hcall := Go.Am.Try.laws_FnExactLoad_ok.2 x (true, ()) htrue W _ args.toList hx
  rw [Array.toArray_toList] at hcall
  refine hcall.mono fun e W' he => ?_
  obtain ⟨us, rfl, hres, hB⟩ := he
  have hus : us = [.bool true] := by
    obtain ⟨v, vs, rfl, ⟨cs, h1, h2⟩, h3⟩ := (show Go.Am.ArgsRd _ _ [(.bool, false)] (true, ()) us from hres)
    rw [show vs = [] from h3, h2, show cs = [.bool true] from h1]
    rfl
  subst hus
  have hds : ∃ d, ds = [d] := by
    have hl := Go.Am.trodAll_len hA
    have hl1 : ds.length = 1 := hl.trans (by kernel_rfl)
    match ds, hl1 with
    | [d], _ => exact ⟨d, rfl⟩
  have hgs : gs = [] := by
    cases gs with
    | nil => rfl
    | cons _ _ => exact hV.elim
  obtain ⟨d, rfl⟩ := hds
  subst hgs
  exact ⟨_, rfl, Go.Am.row_post Try.laidOut rfl (by kernel_rfl) (tb := 4) (by kernel_rfl) Try.underlying4 hW hB rfl⟩

theorem FnExactLoad_holds : Rows.FnExactLoadSaid :=
  OpenClaim.holds_of_wide 4 Try.f4 rfl rfl rfl rfl rfl rfl rfl ⟨rfl, rfl, rfl, rfl, rfl⟩ rfl rfl rfl rfl rfl (by kernel_rfl) Try.func4 (by kernel_rfl)
    (of_decide_eq_true (by kernel_rfl)) (by unfold Func.isWrapper; first | (rw [if_pos (by decide +kernel)]; kernel_rfl) | (rw [if_neg (by decide +kernel)]; exact ⟨rfl, rfl⟩))
    (fun os started H enc _ => load_lifted os started H enc)
end Go.Proofs.Ytmmajfbohkbpjaa
