/- FnExactStar holds: for every input the law returns true, and the input reads as it did; the tables that it reads are tied to the program's text. No condition. -/
import Derived.Test.YtmmajfbohkbpjaaDoorTie
import Derived.Test.YtmmajfbohkbpjaaDoorCards
import Derived.Test.YtmmajfbohkbpjaaDoorLawStar
import Derived.Test.YtmmajfbohkbpjaaDoorAmHand
import Derived.ProofKit
import Derived.LaidMore
import Derived.Lay
import Derived.OpenShut
import Derived.Stop.Joined
import Derived.Stop.LaidErr
import Derived.SevenTiedAt
set_option maxRecDepth 100000
namespace Go.Am.Tryd
open Go.Am Go.Proofs
def law_ps : List (Ty × Bool) := [(.pair (.int .i64) (.int .i64), true), (.int .i64, false), (.str, false), (.sl 3 (.int .i64), false)]
noncomputable def law_c : Con := ⟨law_ps, [(.bool, false)], 1, fun x => laws_FnExactStar F0 x.1 x.2.1 x.2.2.1 x.2.2.2.1⟩
theorem law_c_ok : ConOk Tryd.prog TB 9 law_c := laws_FnExactStar_ok
theorem int_of {n : Int} (h : (Lit.int .i64 n).wf = true) : I64 n := by
  have h1 : IntKind.i64.min = -9223372036854775808 := rfl
  have h2 : IntKind.i64.max = 9223372036854775807 := rfl
  simp only [Lit.wf, Bool.and_eq_true, decide_eq_true_eq, h1, h2] at h
  exact h
theorem ints_of {a : List Int} (h : ∀ x ∈ a, Wf (.int .i64) x) : ∀ x ∈ a, I64 x := fun x hx => int_of (h x hx)
theorem law_args (x : Args law_ps) (h : WfArgs law_ps x) : law_c.g x = some (true, ()) := FnExactStar_true x.1 x.2.1 x.2.2.1 x.2.2.2.1
end Go.Am.Tryd
namespace Go.Proofs.YtmmajfbohkbpjaaDoor
open Go.ChangeShapes Go.WideShapes Go.ChangeAt Go.RowKit

theorem Tryd.own : ownKnob Tryd.prog.godebug = none := by kernel_rfl
theorem Tryd.laidOut : laidOutB Tryd.prog = true := by kernel_rfl
theorem tab_of {W : World} (hs : W.ShapedOpen Tryd.prog) (h : laidMetH Tryd.prog Rows.fnExactStarRow.laid W) : Go.Am.Tryd.TB.p W := by
  refine ⟨?_, Tryd.laysM145.s1_3 W hs⟩
  rw [MakeChecks.laidMetH_plain _ _ _ (by kernel_rfl)] at h
  have h3 : laidMet Tryd.prog (("internal/strconv.uint64pow10", Lib.tabData .u64 Lib.pow10Tab) :: Rows.fnExactStarRow.laid.drop 3) W := laidMet.tail (laidMet.tail h)
  exact Lib.tabIs_of_head (g := 1) (t := 157) (e := 147) (n := 20) (by kernel_rfl) (by kernel_rfl) (by kernel_rfl) (by kernel_rfl) (by kernel_rfl) (by kernel_rfl) h3

set_option maxRecDepth 100000 in
theorem law_lifted (os : Os) (started : os.Started) (H : Type) (enc : TypeId × Value → H) :
    ReturnsInHanded {} Tryd.checked os 9 .any (fun w args => (Rows.fnExactStarSpec.pre enc Tryd.prog Tryd.f9 [] false w args ∧ laidMetH Tryd.prog Rows.fnExactStarRow.laid w) ∧ sizedMet enc Tryd.prog Tryd.f9 (OpenSpec.ofChange Rows.fnExactStarSpec) false w args)
      (Rows.fnExactStarSpec.post enc Tryd.prog Tryd.f9 false true false false) := by
  refine Go.Am.returnsIn_shaped (C := Tryd.checked) (X := fun w _ => laidMetH Tryd.prog Rows.fnExactStarRow.laid w) (fun _ _ _ hh h => h.of_heap hh) Tryd.own started (by kernel_rfl) Tryd.func9
    (ChangeSpec.witness_shaped (enc := enc) (C := Tryd.checked) (os := os) (X := fun w _ => laidMetH Tryd.prog Rows.fnExactStarRow.laid w) false (World.laidAll Tryd.prog os Rows.fnExactStarRow.laid) #[.agg #[.int .i64 0, .int .i64 0], .int .i64 0, .string (ByteArray.mk #[]), .slice none 0 0] 8 (World.laidAll_os _ _ _)
      (World.shaped_of_ZipB (by kernel_rfl) (by kernel_rfl)) (by kernel_rfl) (by kernel_rfl) (by kernel_rfl)
      (by rw [MakeChecks.laidMetH_plain _ _ _ (by kernel_rfl)]; exact laidMet_laidAll _ (by kernel_rfl) (by kernel_rfl))) ?_
  intro W base args ds gs before hsh hval0 hW hL
  have hval : ∀ (j : Nat) t v, Tryd.f9.params.toList[j]? = some t → args.toList[j]? = some v → Value.okWide Tryd.prog W .any base t v := fun j t v h1 h2 => hval0 j t v (by simpa using h1) (by simpa using h2)
  obtain ⟨p, q, hA, hV, _⟩ := id hW
  have hk : Go.Am.psChk Tryd.prog Tryd.f9.params.toList = some Go.Am.Tryd.law_ps := by kernel_rfl
  obtain ⟨x, hx, hwf⟩ := Go.Am.args_open hk hval hA
  have htrue := Go.Am.Tryd.law_args x hwf
  have hcall := Go.Am.Tryd.law_c_ok.2 x (true, ()) htrue W (tab_of hsh hL) _ args.toList hx
  rw [Array.toArray_toList] at hcall
  refine hcall.mono fun e W' he => ?_
  obtain ⟨us, rfl, hres, hB⟩ := he
  have hus : us = [.bool true] := by
    obtain ⟨v, vs, rfl, ⟨cs, h1, h2⟩, h3⟩ := (show Go.Am.ArgsRd _ _ [(.bool, false)] (true, ()) us from hres)
    rw [show vs = [] from h3, h2, show cs = [.bool true] from h1]
    rfl
  subst hus
  have hds : ∃ d0 d1 d2 d3, ds = [d0, d1, d2, d3] := by
    have hl := Go.Am.trodAll_len hA
    have hl1 : ds.length = 4 := hl.trans (by kernel_rfl)
    match ds, hl1 with
    | [d0, d1, d2, d3], _ => exact ⟨d0, d1, d2, d3, rfl⟩
  have hgs : gs = [] := by
    cases gs with
    | nil => rfl
    | cons _ _ => exact hV.elim
  obtain ⟨d0, d1, d2, d3, rfl⟩ := hds
  subst hgs
  exact ⟨_, rfl, Go.Am.row_post Tryd.laidOut rfl (by kernel_rfl) (tb := 4) (by kernel_rfl) Tryd.underlying4 hW hB rfl⟩

theorem FnExactStar_row : Rows.FnExactStarSaid :=
  OpenClaim.holds_of_wide 9 Tryd.f9 rfl rfl rfl rfl rfl rfl rfl ⟨rfl, rfl, rfl, rfl, rfl⟩ rfl rfl rfl rfl rfl (by kernel_rfl) Tryd.func9 (by kernel_rfl)
    (of_decide_eq_true (by kernel_rfl)) (by unfold Func.isWrapper; first | (rw [if_pos (by decide +kernel)]; kernel_rfl) | (rw [if_neg (by decide +kernel)]; exact ⟨rfl, rfl⟩))
    (fun os started H enc _ => law_lifted os started H enc)

theorem FnExactStar_card : Rows.FnExactStarCardSaid :=
  Claim7.holds_tied_plain_at .later [] [.data, .data, .data, .data, .pinned] true (true, "5b42eb92b01dae6cce0f7e550b84a6aaf708862c1d3db1496655ee01d56b7055") false
    FnExactStar_row (fun _ h => by cases h) (by kernel_rfl) (fun _ h => by cases h) fnExactStar_row_tie rfl ⟨rfl, rfl⟩ (by kernel_rfl) rfl
    (fun f fn hf hfn => by
      obtain rfl : f = 9 := Option.some.inj ((show Tryd.prog.funcNamed Rows.fnExactStarRow.func = some 9 by kernel_rfl).symm.trans hf) |>.symm
      obtain rfl : fn = Tryd.f9 := (Option.some.inj (Tryd.func9.symm.trans hfn)).symm
      exact ⟨by kernel_rfl, fun j t ht => by
        have hall : (Tryd.f9.params.toList.all fun u => !Tryd.prog.wantsStandIn u) = true := by kernel_rfl
        have hm : t ∈ Tryd.f9.params.toList := by simpa using Array.mem_of_getElem? ht
        exact (show Tryd.prog.wantsStandIn t = false by simpa using List.all_eq_true.1 hall t hm)⟩)
    (by kernel_rfl)
end Go.Proofs.YtmmajfbohkbpjaaDoor
