/- FnTreeStar holds: for every input the law returns true, and the input reads as it did; the tables that it reads are tied to the program's text. No condition. -/
import Derived.Test.YtijjjmdoflbmfaaGreatDoorTie
import Derived.Test.YtijjjmdoflbmfaaGreatDoorCards
import Derived.Test.YtijjjmdoflbmfaaGreatDoorJsLawTreeStar
import Derived.Test.YtijjjmdoflbmfaaGreatDoorAmHand
import Derived.Test.YtijjjmdoflbmfaaGreatDoorAmFacts
import Derived.ProofKit
import Derived.LaidMore
import Derived.Lay
import Derived.OpenShut
import Derived.Stop.Joined
import Derived.Stop.LaidErr
import Derived.SevenTiedAt
set_option maxRecDepth 100000
namespace Go.Am.Tryz
open Go.Am Go.Proofs
def law_ps : List (Ty × Bool) := [(.sl 5 (.int .u8), false)]
noncomputable def law_c : Con := ⟨law_ps, [(.bool, false)], 1, fun x => laws_FnTreeStar F0 x.1⟩
theorem law_c_ok : ConOk Tryz.prog TB 4 law_c := laws_FnTreeStar_ok
theorem int_of {n : Int} (h : (Lit.int .i64 n).wf = true) : I64 n := by
  have h1 : IntKind.i64.min = -9223372036854775808 := rfl
  have h2 : IntKind.i64.max = 9223372036854775807 := rfl
  simp only [Lit.wf, Bool.and_eq_true, decide_eq_true_eq, h1, h2] at h
  exact h
theorem ints_of {a : List Int} (h : ∀ x ∈ a, Wf (.int .i64) x) : ∀ x ∈ a, I64 x := fun x hx => int_of (h x hx)
theorem law_args (x : Args law_ps) (_ : WfArgs law_ps x) : law_c.g x = some (true, ()) := FnTreeStar_true x.1
end Go.Am.Tryz
namespace Go.Proofs.YtijjjmdoflbmfaaGreatDoor
open Go.ChangeShapes Go.WideShapes Go.ChangeAt Go.RowKit

theorem Tryz.own : ownKnob Tryz.prog.godebug = none := by kernel_rfl
theorem Tryz.laidOut : laidOutB Tryz.prog = true := by kernel_rfl
theorem tab_of {W : World} (hs : W.ShapedOpen Tryz.prog) (h : laidMetH Tryz.prog Rows.fnTreeStarRow.laid W) : Go.Am.Tryz.TB.p W := by
  refine ⟨?_, Tryz.laysM145.s1_3 W hs⟩
  rw [MakeChecks.laidMetH_plain _ _ _ (by kernel_rfl)] at h
  have h3 : laidMet Tryz.prog (("internal/strconv.uint64pow10", Lib.tabData .u64 Lib.pow10Tab) :: Rows.fnTreeStarRow.laid.drop 3) W := laidMet.tail (laidMet.tail (h))
  exact Lib.tabIs_of_head (g := 1) (t := 160) (e := 146) (n := 20) (by kernel_rfl) (by kernel_rfl) (by kernel_rfl) (by kernel_rfl) (by kernel_rfl) (by kernel_rfl) h3

set_option maxRecDepth 100000 in
theorem law_lifted (os : Os) (started : os.Started) (H : Type) (enc : TypeId × Value → H) :
    ReturnsInHanded {} Tryz.checked os 4 .any (fun w args => (Rows.fnTreeStarSpec.pre enc Tryz.prog Tryz.f4 [] false w args ∧ laidMetH Tryz.prog Rows.fnTreeStarRow.laid w) ∧ sizedMet enc Tryz.prog Tryz.f4 (OpenSpec.ofChange Rows.fnTreeStarSpec) false w args)
      (Rows.fnTreeStarSpec.post enc Tryz.prog Tryz.f4 false true false false) := by
  refine Go.Am.returnsIn_shaped (C := Tryz.checked) (X := fun w _ => laidMetH Tryz.prog Rows.fnTreeStarRow.laid w) (fun _ _ _ hh h => h.of_heap hh) Tryz.own started (by kernel_rfl) Tryz.func4
    (ChangeSpec.witness_shaped (enc := enc) (C := Tryz.checked) (os := os) (X := fun w _ => laidMetH Tryz.prog Rows.fnTreeStarRow.laid w) false (World.laidAll Tryz.prog os Rows.fnTreeStarRow.laid) #[.slice none 0 0] 8 (World.laidAll_os _ _ _)
      (World.shaped_of_ZipB (by kernel_rfl) (by kernel_rfl)) (by kernel_rfl) (by kernel_rfl) (by kernel_rfl)
      (by rw [MakeChecks.laidMetH_plain _ _ _ (by kernel_rfl)]; exact laidMet_laidAll _ (by kernel_rfl) (by kernel_rfl))) ?_
  intro W base args ds gs before hsh hval0 hW hL
  have hval : ∀ (j : Nat) t v, Tryz.f4.params.toList[j]? = some t → args.toList[j]? = some v → Value.okWide Tryz.prog W .any base t v := fun j t v h1 h2 => hval0 j t v (by simpa using h1) (by simpa using h2)
  obtain ⟨p, q, hA, hV, _⟩ := id hW
  have hk : Go.Am.psChk Tryz.prog Tryz.f4.params.toList = some Go.Am.Tryz.law_ps := by kernel_rfl
  obtain ⟨x, hx, hwf⟩ := Go.Am.args_open hk hval hA
  have htrue := Go.Am.Tryz.law_args x hwf
  have hcall := Go.Am.Tryz.law_c_ok.2 x (true, ()) htrue W (tab_of hsh hL) _ args.toList hx
  rw [Array.toArray_toList] at hcall
  refine hcall.mono fun e W' he => ?_
  obtain ⟨us, rfl, hres, hB⟩ := he
  have hus : us = [.bool true] := by
    obtain ⟨v, vs, rfl, ⟨cs, h1, h2⟩, h3⟩ := (show Go.Am.ArgsRd _ _ [(.bool, false)] (true, ()) us from hres)
    rw [show vs = [] from h3, h2, show cs = [.bool true] from h1]
    rfl
  subst hus
  have hds : ∃ d0, ds = [d0] := by
    have hl := Go.Am.trodAll_len hA
    have hl1 : ds.length = 1 := hl.trans (by kernel_rfl)
    match ds, hl1 with
    | [d0], _ => exact ⟨d0, rfl⟩
  have hgs : gs = [] := by
    cases gs with
    | nil => rfl
    | cons _ _ => exact hV.elim
  obtain ⟨d0, rfl⟩ := hds
  subst hgs
  exact ⟨_, rfl, Go.Am.row_post Tryz.laidOut rfl (by kernel_rfl) (tb := 4) (by kernel_rfl) Tryz.underlying4 hW hB rfl⟩

theorem fact0 : (Rows.fnTreeStarRow.wf (OpenSpec.ofChange Rows.fnTreeStarSpec) && laidOutB Tryz.checked.prog && mapsRowed Tryz.checked.prog && Tryz.f4.params.all (Tryz.checked.prog.readableRec ·) && namedTie Tryz.checked.prog Rows.fnTreeStarRow.named Rows.fnTreeStarSpec.vars && (Rows.fnTreeStarRow.stops == []) && (Tryz.checked.prog.stops == []) && (Rows.fnTreeStarRow.knobs == []) && (Tryz.checked.prog.stopKnobs == [])) = true := by kernel_rfl
theorem fact1 : (Rows.fnTreeStarRow.inPlace == Tryz.checked.prog.inPlace 4) = true := by kernel_rfl
theorem fact2 : (Rows.fnTreeStarRow.unfollowed == Tryz.checked.prog.unfollowed 4) = true := by kernel_rfl
theorem fact3 : (Rows.fnTreeStarRow.recurses == Tryz.checked.prog.recurses 4) = true := by kernel_rfl
theorem fact4 : (Rows.fnTreeStarRow.named == Tryz.checked.prog.varsNamed 4) = true := by kernel_rfl
theorem fact5 : ((Rows.fnTreeStarRow.maps == (Tryz.f4.params.toList ++ Rows.fnTreeStarSpec.plain.varTypes Tryz.checked.prog).any (Tryz.checked.prog.mapsRec ·)) && (Rows.fnTreeStarRow.ifaces == (Tryz.f4.params.toList ++ Rows.fnTreeStarSpec.plain.varTypes Tryz.checked.prog).any (Tryz.checked.prog.ifacesRec ·)) && (Rows.fnTreeStarRow.mapsOut == Tryz.checked.prog.mapsAmong Tryz.f4.resultTypes.toList) && (Rows.fnTreeStarRow.loops == (Tryz.f4.params.toList ++ Rows.fnTreeStarSpec.plain.varTypes Tryz.checked.prog).any (Tryz.checked.prog.loopsFrom ·)) && (Rows.fnTreeStarRow.wideKeys == (Tryz.f4.params.toList ++ Rows.fnTreeStarSpec.plain.varTypes Tryz.checked.prog ++ Tryz.f4.resultTypes.toList).any (Tryz.checked.prog.wideKeysFrom ·))) = true := by kernel_rfl
theorem fact6 : (Rows.fnTreeStarSpec.vars.all (Tryz.checked.prog.varReadable ·) && Tryz.f4.resultTypes.all (fun t => Tryz.checked.prog.readableRec t && decide (t < Tryz.checked.prog.types.size)) && (Rows.fnTreeStarRow.ifacesOut == Tryz.f4.resultTypes.toList.any (Tryz.checked.prog.ifacesRec ·)) && (Rows.fnTreeStarRow.loopsOut == Tryz.f4.resultTypes.toList.any (Tryz.checked.prog.loopsFrom ·)) && (Rows.fnTreeStarRow.plainKeys == Tryz.checked.prog.plainKeys) && Rows.fnTreeStarRow.shortTexts.isNone) = true := by kernel_rfl
theorem fact7 : Tryz.checked.prog.stopsHeard = true := by kernel_rfl
theorem fact7b : Tryz.checked.prog.mayEnter = true := by kernel_rfl
theorem fact8 : (Rows.fnTreeStarRow.lifted == Tryz.checked.prog.liftsFinal) = true := by kernel_rfl
theorem fact9 : ((Tryz.checked.prog.make == some Rows.fnTreeStarRow.make) && (Rows.fnTreeStarRow.kinds == (if Rows.fnTreeStarRow.domain.isEmpty then [] else Tryz.f4.params.toList.map fun t => match Tryz.checked.prog.underlying t with | some (.int k) => some k | _ => none)) && (Rows.fnTreeStarRow.pinned == Rows.fnTreeStarRow.pinnedBy)) = true := by kernel_rfl
theorem fact10 : ((Rows.fnTreeStarRow.veiled == (Tryz.f4.params.toList ++ Rows.fnTreeStarSpec.plain.varTypes Tryz.checked.prog ++ Tryz.f4.resultTypes.toList).any (Tryz.checked.prog.veiledRec ·)) && Rows.fnTreeStarRow.veiledFits Tryz.checked.prog Tryz.f4.params.toList (Tryz.f4.params.toList ++ Rows.fnTreeStarSpec.plain.varTypes Tryz.checked.prog ++ Tryz.f4.resultTypes.toList)) = true := by kernel_rfl
theorem fact11 : Tryz.checked.prog.funcNamed Rows.fnTreeStarRow.func = some 4 := by kernel_rfl
theorem fact12 : Tryz.checked.prog.mainIs = some (true, ("a253b06a131888085c15ac314fe5701b3609aadc59a165b26da8b04b88baa533" : String).toList) := by kernel_rfl
theorem fact13 : false = Tryz.checked.prog.looks [] := by kernel_rfl
theorem fact14 : false = Rows.fnTreeStarRow.goesBy Tryz.checked.prog := by kernel_rfl
theorem fact15 : Rows.fnTreeStarRow.wfByText (OpenSpec.ofChange Rows.fnTreeStarSpec) = true := by kernel_rfl
theorem fact16 : (Tryz.f4.params.toList.all fun u => !Tryz.prog.wantsStandIn u) = true := by kernel_rfl
theorem fact17 : Tryz.f4.isInstance Tryz.checked.prog Rows.fnTreeStarRow.origin Rows.fnTreeStarRow.targs := of_decide_eq_true (by kernel_rfl)
theorem fact18 : Tryz.f4.isWrapper Tryz.checked.prog Rows.fnTreeStarRow.wrapper Rows.fnTreeStarRow.mainSum := by unfold Func.isWrapper; first | (rw [if_pos (by decide +kernel)]; kernel_rfl) | (rw [if_neg (by decide +kernel)]; exact ⟨rfl, rfl⟩)

theorem FnTreeStar_row : Rows.FnTreeStarSaid :=
  OpenClaim.holds_of_wide 4 Tryz.f4 rfl rfl rfl rfl rfl rfl rfl ⟨rfl, rfl, rfl, rfl, rfl⟩ rfl rfl rfl rfl rfl fact11 Tryz.func4 (Go.Am.joinedFacts_of fact0 fact1 fact2 fact3 fact4 fact5 fact6 fact7 fact7b fact8 fact9 fact10)
    fact17 fact18
    (fun os started H enc _ => law_lifted os started H enc)

theorem FnTreeStar_card : Rows.FnTreeStarCardSaid :=
  Claim7.holds_tied_plain_at .later [] [.data, .data, .data, .data, .pinned] true (true, "a253b06a131888085c15ac314fe5701b3609aadc59a165b26da8b04b88baa533") false
    FnTreeStar_row (fun _ h => by cases h) fact15 (fun _ h => by cases h) fnTreeStar_row_tie rfl ⟨rfl, rfl⟩ fact12 rfl
    (fun f fn hf hfn => by
      obtain rfl : f = 4 := Option.some.inj (fact11.symm.trans hf) |>.symm
      obtain rfl : fn = Tryz.f4 := (Option.some.inj (Tryz.func4.symm.trans hfn)).symm
      exact ⟨fact13, fun j t ht => by
        have hm : t ∈ Tryz.f4.params.toList := by simpa using Array.mem_of_getElem? ht
        exact (show Tryz.prog.wantsStandIn t = false by simpa using List.all_eq_true.1 fact16 t hm)⟩)
    fact14
end Go.Proofs.YtijjjmdoflbmfaaGreatDoor
