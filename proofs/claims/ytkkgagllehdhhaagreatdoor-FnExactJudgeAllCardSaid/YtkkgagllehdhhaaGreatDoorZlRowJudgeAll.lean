/- FnExactJudgeAll holds: for every input the law returns true, and the input reads as it did; the tables that it reads are tied to the program's text. No condition. -/
import Derived.Test.YtkkgagllehdhhaaGreatDoorTie
import Derived.Test.YtkkgagllehdhhaaGreatDoorCards
import Derived.Test.YtkkgagllehdhhaaGreatDoorZlLawPaid
import Derived.Test.YtkkgagllehdhhaaGreatDoorAmHand
import Derived.Test.YtkkgagllehdhhaaGreatDoorAmFacts
import Derived.ProofKit
import Derived.LaidMore
import Derived.Lay
import Derived.OpenShut
import Derived.Stop.Joined
import Derived.Stop.LaidErr
import Derived.SevenTiedAt
set_option maxRecDepth 100000
namespace Go.Am.Tryz
open Go.Am Go.Proofs
def law_ps : List (Ty × Bool) := [(K49, true)]
noncomputable def law_c : Con := ⟨law_ps, [(.bool, false)], 1, fun x => laws_FnExactJudgeAll F0 x.1⟩
theorem law_c_ok : ConOk Tryz.prog TB 13 law_c := laws_FnExactJudgeAll_ok
theorem int_of {n : Int} (h : (Lit.int .i64 n).wf = true) : I64 n := by
  have h1 : IntKind.i64.min = -9223372036854775808 := rfl
  have h2 : IntKind.i64.max = 9223372036854775807 := rfl
  simp only [Lit.wf, Bool.and_eq_true, decide_eq_true_eq, h1, h2] at h
  exact h
theorem ints_of {a : List Int} (h : ∀ x ∈ a, Wf (.int .i64) x) : ∀ x ∈ a, I64 x := fun x hx => int_of (h x hx)
theorem law_args (x : Args law_ps) (h : WfArgs law_ps x) : law_c.g x = some (true, ()) := FnExactJudgeAll_true x.1 h.1
end Go.Am.Tryz
namespace Go.Proofs.YtkkgagllehdhhaaGreatDoor
open Go.ChangeShapes Go.WideShapes Go.ChangeAt Go.RowKit

theorem Tryz.own : ownKnob Tryz.prog.godebug = none := by kernel_rfl
theorem Tryz.laidOut : laidOutB Tryz.prog = true := by kernel_rfl
theorem tab_of {W : World} (hs : W.ShapedOpen Tryz.prog) (h : laidMetH Tryz.prog Rows.fnExactJudgeAllRow.laid W) : Go.Am.Tryz.TB.p W := by
  refine ⟨?_, Tryz.laysM145.s1_3 W hs⟩
  rw [MakeChecks.laidMetH_plain _ _ _ (by kernel_rfl)] at h
  have h3 : laidMet Tryz.prog (("internal/strconv.uint64pow10", Lib.tabData .u64 Lib.pow10Tab) :: Rows.fnExactJudgeAllRow.laid.drop 3) W := laidMet.tail (laidMet.tail h)
  exact Lib.tabIs_of_head (g := 1) (t := 275) (e := 264) (n := 20) (by kernel_rfl) (by kernel_rfl) (by kernel_rfl) (by kernel_rfl) (by kernel_rfl) (by kernel_rfl) h3

set_option maxRecDepth 100000 in
theorem law_lifted (os : Os) (started : os.Started) (H : Type) (enc : TypeId × Value → H) :
    ReturnsInHanded {} Tryz.checked os 13 .any (fun w args => (Rows.fnExactJudgeAllSpec.pre enc Tryz.prog Tryz.f13 [] false w args ∧ laidMetH Tryz.prog Rows.fnExactJudgeAllRow.laid w) ∧ sizedMet enc Tryz.prog Tryz.f13 (OpenSpec.ofChange Rows.fnExactJudgeAllSpec) false w args)
      (Rows.fnExactJudgeAllSpec.post enc Tryz.prog Tryz.f13 false true false false) := by
  refine Go.Am.returnsIn_shaped (C := Tryz.checked) (X := fun w _ => laidMetH Tryz.prog Rows.fnExactJudgeAllRow.laid w) (fun _ _ _ hh h => h.of_heap hh) Tryz.own started (by kernel_rfl) Tryz.func13
    (ChangeSpec.witness_shaped (enc := enc) (C := Tryz.checked) (os := os) (X := fun w _ => laidMetH Tryz.prog Rows.fnExactJudgeAllRow.laid w) false (World.laidAll Tryz.prog os Rows.fnExactJudgeAllRow.laid) #[.agg #[.int .i64 0, .int .i64 0, .slice none 0 0, .slice none 0 0, .slice none 0 0, .slice none 0 0]] 8 (World.laidAll_os _ _ _)
      (World.shaped_of_ZipB (by kernel_rfl) (by kernel_rfl)) (by kernel_rfl) (by kernel_rfl) (by kernel_rfl)
      (by rw [MakeChecks.laidMetH_plain _ _ _ (by kernel_rfl)]; exact laidMet_laidAll _ (by kernel_rfl) (by kernel_rfl))) ?_
  intro W base args ds gs before hsh hval0 hW hL
  have hval : ∀ (j : Nat) t v, Tryz.f13.params.toList[j]? = some t → args.toList[j]? = some v → Value.okWide Tryz.prog W .any base t v := fun j t v h1 h2 => hval0 j t v (by simpa using h1) (by simpa using h2)
  obtain ⟨p, q, hA, hV, _⟩ := id hW
  have hk : Go.Am.psChk Tryz.prog Tryz.f13.params.toList = some Go.Am.Tryz.law_ps := by kernel_rfl
  obtain ⟨x, hx, hwf⟩ := Go.Am.args_open hk hval hA
  have htrue := Go.Am.Tryz.law_args x hwf
  have hcall := Go.Am.Tryz.law_c_ok.2 x (true, ()) htrue W (tab_of hsh hL) _ args.toList hx
  rw [Array.toArray_toList] at hcall
  refine hcall.mono fun e W' he => ?_
  obtain ⟨us, rfl, hres, hB⟩ := he
  have hus : us = [.bool true] := by
    obtain ⟨v, vs, rfl, ⟨cs, h1, h2⟩, h3⟩ := (show Go.Am.ArgsRd _ _ [(.bool, false)] (true, ()) us from hres)
    rw [show vs = [] from h3, h2, show cs = [.bool true] from h1]
    rfl
  subst hus
  have hds : ∃ d0, ds = [d0] := by
    have hl := Go.Am.trodAll_len hA
    have hl1 : ds.length = 1 := hl.trans (by kernel_rfl)
    match ds, hl1 with
    | [d0], _ => exact ⟨d0, rfl⟩
  have hgs : gs = [] := by
    cases gs with
    | nil => rfl
    | cons _ _ => exact hV.elim
  obtain ⟨d0, rfl⟩ := hds
  subst hgs
  exact ⟨_, rfl, Go.Am.row_post Tryz.laidOut rfl (by kernel_rfl) (tb := 4) (by kernel_rfl) Tryz.underlying4 hW hB rfl⟩

theorem fact0 : (Rows.fnExactJudgeAllRow.wf (OpenSpec.ofChange Rows.fnExactJudgeAllSpec) && laidOutB Tryz.checked.prog && mapsRowed Tryz.checked.prog && Tryz.f13.params.all (Tryz.checked.prog.readableRec ·) && namedTie Tryz.checked.prog Rows.fnExactJudgeAllRow.named Rows.fnExactJudgeAllSpec.vars && (Rows.fnExactJudgeAllRow.stops == []) && (Tryz.checked.prog.stops == []) && (Rows.fnExactJudgeAllRow.knobs == []) && (Tryz.checked.prog.stopKnobs == [])) = true := by kernel_rfl
theorem fact1 : (Rows.fnExactJudgeAllRow.inPlace == Tryz.checked.prog.inPlace 13) = true := by kernel_rfl
theorem fact2 : (Rows.fnExactJudgeAllRow.unfollowed == Tryz.checked.prog.unfollowed 13) = true := by kernel_rfl
theorem fact3 : (Rows.fnExactJudgeAllRow.recurses == Tryz.checked.prog.recurses 13) = true := by kernel_rfl
theorem fact4 : (Rows.fnExactJudgeAllRow.named == Tryz.checked.prog.varsNamed 13) = true := by kernel_rfl
theorem fact5 : ((Rows.fnExactJudgeAllRow.maps == (Tryz.f13.params.toList ++ Rows.fnExactJudgeAllSpec.plain.varTypes Tryz.checked.prog).any (Tryz.checked.prog.mapsRec ·)) && (Rows.fnExactJudgeAllRow.ifaces == (Tryz.f13.params.toList ++ Rows.fnExactJudgeAllSpec.plain.varTypes Tryz.checked.prog).any (Tryz.checked.prog.ifacesRec ·)) && (Rows.fnExactJudgeAllRow.mapsOut == Tryz.checked.prog.mapsAmong Tryz.f13.resultTypes.toList) && (Rows.fnExactJudgeAllRow.loops == (Tryz.f13.params.toList ++ Rows.fnExactJudgeAllSpec.plain.varTypes Tryz.checked.prog).any (Tryz.checked.prog.loopsFrom ·)) && (Rows.fnExactJudgeAllRow.wideKeys == (Tryz.f13.params.toList ++ Rows.fnExactJudgeAllSpec.plain.varTypes Tryz.checked.prog ++ Tryz.f13.resultTypes.toList).any (Tryz.checked.prog.wideKeysFrom ·))) = true := by kernel_rfl
theorem fact6 : (Rows.fnExactJudgeAllSpec.vars.all (Tryz.checked.prog.varReadable ·) && Tryz.f13.resultTypes.all (fun t => Tryz.checked.prog.readableRec t && decide (t < Tryz.checked.prog.types.size)) && (Rows.fnExactJudgeAllRow.ifacesOut == Tryz.f13.resultTypes.toList.any (Tryz.checked.prog.ifacesRec ·)) && (Rows.fnExactJudgeAllRow.loopsOut == Tryz.f13.resultTypes.toList.any (Tryz.checked.prog.loopsFrom ·)) && (Rows.fnExactJudgeAllRow.plainKeys == Tryz.checked.prog.plainKeys) && Rows.fnExactJudgeAllRow.shortTexts.isNone) = true := by kernel_rfl
theorem fact7 : Tryz.checked.prog.stopsHeard = true := by kernel_rfl
theorem fact7b : Tryz.checked.prog.mayEnter = true := by kernel_rfl
theorem fact8 : (Rows.fnExactJudgeAllRow.lifted == Tryz.checked.prog.liftsFinal) = true := by kernel_rfl
theorem fact9 : ((Tryz.checked.prog.make == some Rows.fnExactJudgeAllRow.make) && (Rows.fnExactJudgeAllRow.kinds == (if Rows.fnExactJudgeAllRow.domain.isEmpty then [] else Tryz.f13.params.toList.map fun t => match Tryz.checked.prog.underlying t with | some (.int k) => some k | _ => none)) && (Rows.fnExactJudgeAllRow.pinned == Rows.fnExactJudgeAllRow.pinnedBy)) = true := by kernel_rfl
theorem fact10 : ((Rows.fnExactJudgeAllRow.veiled == (Tryz.f13.params.toList ++ Rows.fnExactJudgeAllSpec.plain.varTypes Tryz.checked.prog ++ Tryz.f13.resultTypes.toList).any (Tryz.checked.prog.veiledRec ·)) && Rows.fnExactJudgeAllRow.veiledFits Tryz.checked.prog Tryz.f13.params.toList (Tryz.f13.params.toList ++ Rows.fnExactJudgeAllSpec.plain.varTypes Tryz.checked.prog ++ Tryz.f13.resultTypes.toList)) = true := by kernel_rfl
theorem fact11 : Tryz.checked.prog.funcNamed Rows.fnExactJudgeAllRow.func = some 13 := by kernel_rfl
theorem fact12 : Tryz.checked.prog.mainIs = some (true, ("afe1742701a88fb1b47df2f0da2ae4ecf1630b7315291b42bc6113cde6548e0b" : String).toList) := by kernel_rfl
theorem fact13 : false = Tryz.checked.prog.looks [] := by kernel_rfl
theorem fact14 : false = Rows.fnExactJudgeAllRow.goesBy Tryz.checked.prog := by kernel_rfl
theorem fact15 : Rows.fnExactJudgeAllRow.wfByText (OpenSpec.ofChange Rows.fnExactJudgeAllSpec) = true := by kernel_rfl
theorem fact16 : (Tryz.f13.params.toList.all fun u => !Tryz.prog.wantsStandIn u) = true := by kernel_rfl
theorem fact17 : Tryz.f13.isInstance Tryz.checked.prog Rows.fnExactJudgeAllRow.origin Rows.fnExactJudgeAllRow.targs := of_decide_eq_true (by kernel_rfl)
theorem fact18 : Tryz.f13.isWrapper Tryz.checked.prog Rows.fnExactJudgeAllRow.wrapper Rows.fnExactJudgeAllRow.mainSum := by unfold Func.isWrapper; first | (rw [if_pos (by decide +kernel)]; kernel_rfl) | (rw [if_neg (by decide +kernel)]; exact ⟨rfl, rfl⟩)

theorem FnExactJudgeAll_row : Rows.FnExactJudgeAllSaid :=
  OpenClaim.holds_of_wide 13 Tryz.f13 rfl rfl rfl rfl rfl rfl rfl ⟨rfl, rfl, rfl, rfl, rfl⟩ rfl rfl rfl rfl rfl fact11 Tryz.func13 (Go.Am.joinedFacts_of fact0 fact1 fact2 fact3 fact4 fact5 fact6 fact7 fact7b fact8 fact9 fact10)
    fact17 fact18
    (fun os started H enc _ => law_lifted os started H enc)

theorem FnExactJudgeAll_card : Rows.FnExactJudgeAllCardSaid :=
  Claim7.holds_tied_plain_at .later [] [.data, .data, .data, .data, .pinned] true (true, "afe1742701a88fb1b47df2f0da2ae4ecf1630b7315291b42bc6113cde6548e0b") false
    FnExactJudgeAll_row (fun _ h => by cases h) fact15 (fun _ h => by cases h) fnExactJudgeAll_row_tie rfl ⟨rfl, rfl⟩ fact12 rfl
    (fun f fn hf hfn => by
      obtain rfl : f = 13 := Option.some.inj (fact11.symm.trans hf) |>.symm
      obtain rfl : fn = Tryz.f13 := (Option.some.inj (Tryz.func13.symm.trans hfn)).symm
      exact ⟨fact13, fun j t ht => by
        have hm : t ∈ Tryz.f13.params.toList := by simpa using Array.mem_of_getElem? ht
        exact (show Tryz.prog.wantsStandIn t = false by simpa using List.all_eq_true.1 fact16 t hm)⟩)
    fact14
end Go.Proofs.YtkkgagllehdhhaaGreatDoor
