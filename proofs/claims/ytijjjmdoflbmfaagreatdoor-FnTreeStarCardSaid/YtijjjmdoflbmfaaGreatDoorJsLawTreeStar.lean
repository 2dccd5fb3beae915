/- Plain laws: FnTreeStar. No condition. -/
import Derived.Test.YtijjjmdoflbmfaaGreatDoorJsLawJ3
import Derived.Test.YtijjjmdoflbmfaaGreatDoorJsLawJ2
import Derived.Test.YtijjjmdoflbmfaaGreatDoorJsLawJ2
import Derived.Test.YtijjjmdoflbmfaaGreatDoorJsLawJ2
set_option linter.unusedVariables false
set_option linter.unusedSimpArgs false
namespace Go.Am.Tryz
open Go.Am
theorem l22Draw_gd {code : List Int} (h : code.length ≤ 1048576) : Gd (spec_l22Draw F0 code) fun v => v.2.2.1.size ≤ 10000 ∧ v.2.2.2.1.length ≤ 9 := by
  rw [spec_l22Draw_eq]
  have sets : ∀ {c : CurD} (hc : Cur c) (cf : Int × Int) (view : Int) (name : ByteArray) (hn : name.size ≤ 10000),
      Gd ((spec_l1Once F0 c 2).bind fun r26 => br r26.1.1 ((spec_l6DrawSet F0 r26.2.1 7).bind fun r28 => some (cf, view, name, r28.1.1, ())) (some (cf, view, name, [0, 1, 2, 3, 4, 5, 6], ()))) fun v => v.2.2.1.size ≤ 10000 ∧ v.2.2.2.1.length ≤ 9 := by
    intro c hc cf view name hn
    refine Dr.bind (Once_dr hc (by omega) (by omega)) fun x hx cx => Gd.br (fun _ => ?_) fun _ => Gd.ret ⟨hn, show List.length [(0 : Int), 1, 2, 3, 4, 5, 6] ≤ 9 by decide⟩
    exact Dr.bind (DrawSet_dr cx (by omega) (by omega)) fun y hy cy => Gd.ret ⟨hn, hy⟩
  refine Gd.bind (New_dr h) fun x hx => Dr.bind (DrawBent_dr hx) fun y hy cy => Dr.bind (DrawName_dr cy) fun z hz cz => ?_
  refine Gd.let (ViewOf_law (l := z.1.1.data.toList) (Nat.le_trans (Nat.le_of_eq (show z.1.1.data.toList.length = z.1.1.size from rfl)) (by have := hz.1; omega))) ?_
  refine Dr.bind (Once_dr cz (by omega) (by omega)) fun w hw cw => Gd.br (fun _ => ?_) fun _ => sets cw _ _ _ hz.1
  exact Dr.bind (PickInt_dr cw (by decide) (by decide)) fun u hu cu => sets cu _ _ _ hz.1
theorem DrawTree_gd {code : List Int} (h : code.length ≤ 1048576) : Gd (spec_DrawTree F0 code) fun v => v.2.2.1.size ≤ 10000 ∧ v.2.2.2.1.length ≤ 9 := by
  rw [spec_DrawTree_eq]
  exact Gd.bind (l22Draw_gd h) fun v hv => Gd.ret hv
theorem DrawCut_gd {code : List Int} (h : code.length ≤ 1048576) : Gd (spec_DrawCut F0 code) fun v => v.2.2.1.length ≤ 9 ∧ v.2.2.2.1.length ≤ 1 := by
  rw [spec_DrawCut_eq]
  refine Gd.bind (l22Draw_gd h) fun v hv => Gd.bind (New_dr h) fun x hx => Dr.bind (Below_dr hx (by omega) (by omega)) fun y hy cy => Gd.ret ⟨hv.2, ?_⟩
  exact Nat.le_refl 1
theorem sameInts_law {a : List Int} (h : a.length ≤ 1048576) : laws_sameInts F0 a a = some (true, ()) := by
  rw [laws_sameInts_eq, bne_self_eq_false, br_false]
  refine same_to (fun n i => laws_sameInts_1 F0 (laws_sameInts_1_k F0) n (laws_sameInts_1_s a a i)) a.length _ (fun n k hk => ?_) (fun n => ?_) _ (by rw [n_eq]; omega)
  · simp only [laws_sameInts_1_step, dec_lt hk, br_true, okI_nat hk, ck_true, at_isD hk, w64_succ (show k + 1 ≤ 9223372036854775807 by omega), bne_self_eq_false, br_false]
  · rw [laws_sameInts_1_step, dec_nlt, br_false, laws_sameInts_1_ce0]
theorem withinInts_law {l : List Int} (h : l.length ≤ 1048576) (x : Int) : laws_within F0 l x = some (decide (x ∈ l), ()) := by
  rw [laws_within_eq, all_to (fun n k => laws_within_1 F0 (laws_within_1_k F0) n (laws_within_1_s l x k)) l.length (fun k => !(l.getD k 0 == x)) (some (false, ())) (some (true, ())) (fun n k hk => ?_) (fun n => ?_) _ (by rw [n_eq]; omega), all_getD l (fun y => !(y == x)), all_ne, ite_not]
  · by_cases hm : x ∈ l <;> simp [hm]
  · rw [laws_within_1_step, dec_lt hk, br_true, okI_nat hk, ck_true, at_nat, w64_succ (by omega), ite_not, br_ite, laws_within_1_cr]
  · rw [laws_within_1_step, dec_nlt, br_false, laws_within_1_ce0]
theorem tree_star (c : Int × Int) (view : Int) (name : List UInt8) (who : List Int) : treeOf c view name who = starOf c view name who := by
  unfold treeOf starOf
  split
  · rename_i h
    rw [tree_root h.1 h.2]
  · rfl
theorem qcOk_fan {n a b : Int} (ha : confOk (n, a) = true) (hb : confOk (n, b) = true) (q : Int × List UInt8 × List Int) : qcOk (n, a) q = qcOk (n, b) q := by
  unfold qcOk quorum
  rw [ha, hb]
theorem starOf_fan {n a b : Int} (ha : confOk (n, a) = true) (hb : confOk (n, b) = true) (view : Int) (name : List UInt8) (who : List Int) : starOf (n, a) view name who = starOf (n, b) view name who := by
  unfold starOf partQc
  simp only [ha, hb, qcOk_fan ha hb]
theorem cut_off {c : Int × Int} {view : Int} {who off : List Int} {x : Int} (h : x ∈ cutOf c view who off) : x ∉ off ∧ x ∈ who := by
  unfold cutOf at h
  obtain ⟨h1, h2⟩ := List.mem_filter.1 h
  refine ⟨fun ho => ?_, ?_⟩
  · unfold cutP at h2
    rw [Bool.and_eq_true, decide_eq_true_eq, decide_eq_true_eq] at h2
    obtain ⟨h3, h4⟩ := h2
    have hw : x ∈ wayOf c view x := by
      unfold wayOf wayFrom at h3 ⊢
      split
      · exact List.mem_cons_self
      · rename_i hn
        rw [if_neg hn] at h3
        exact absurd h3 (Nat.lt_irrefl _)
    unfold cmn at h4
    rw [List.countP_eq_zero] at h4
    exact h4 x hw (by simpa using ho)
  · rcases (someL_mem _ _).1 h1 with h | h
    · cases h
    · exact h.1
/-- The law behind its loop. -/
theorem star_end {c : Int × Int} {l : List UInt8} (hl : l.length ≤ 10000) {who : List Int} (hw : who.length ≤ 9) (view : Int) {v : Int} {b : ByteArray} {s : List Int} {ok : Bool} (hr : qcOut (starOf c view l who) = ((v, b, s), ok)) :
    laws_FnTreeStar_1_k F0 (.exit 0) (laws_FnTreeStar_1_e0 view (tx l) who ok c.1 c.2 v b s) = some (true, ()) := by
  rw [laws_FnTreeStar_1_ce0, Tree_law2 (by omega) (by omega), bnd, Tree_law2 (by omega) (by omega), bnd, ConfOk_law2, bnd, tree_star, tree_star]
  dsimp only
  cases hc : confOk (c.1, c.2) with
  | false => rfl
  | true =>
    have hn := confOk_n hc
    have h1 : confOk (c.1, 1) = true := by
      simp only [confOk, inR, Bool.and_eq_true, decide_eq_true_eq]
      exact ⟨⟨hn.1, hn.2.1⟩, by decide, by decide⟩
    have h6 : confOk (c.1, 6) = true := by
      simp only [confOk, inR, Bool.and_eq_true, decide_eq_true_eq]
      exact ⟨⟨hn.1, hn.2.1⟩, by decide, by decide⟩
    have e1 : starOf (c.1, 1) view l who = starOf c view l who := starOf_fan (a := 1) (b := c.2) h1 hc view l who
    have e6 : starOf (c.1, 6) view l who = starOf c view l who := starOf_fan (a := 6) (b := c.2) h6 hc view l who
    have hq := starOf_len c view l who
    rw [e1, e6, hr]
    rw [hr] at hq
    dsimp only at hq ⊢
    obtain ⟨b, rfl⟩ : ∃ b', b = tx b' := ⟨_, tx_of b⟩
    rw [beq_self_eq_true, Bool.not_true, br_false, br_true, br_true, QcSame_law (by omega), bnd]
    simp [br_true]
theorem FnTreeStar_true (code : List Int) : laws_FnTreeStar F0 code = some (true, ()) := by
  rw [laws_FnTreeStar_eq, laws_big_eq, bnd]
  by_cases h : (code.length : Int) > 1048576
  · rw [decide_eq_true h, br_true]
  · rw [decide_eq_false h, br_false]
    obtain ⟨⟨c, view, nm, who, u1⟩, e1, hn, hw⟩ := DrawTree_gd (code := code) (by omega)
    obtain ⟨⟨c2, view2, all, off, u2⟩, e2, ha, ho⟩ := DrawCut_gd (code := code) (by omega)
    obtain ⟨l, rfl⟩ : ∃ l, nm = tx l := ⟨_, tx_of nm⟩
    dsimp only at hn hw ha ho
    rw [tx_size] at hn
    have hq := starOf_len c view l who
    have hcl := cutOf_len (who := all) (by omega) c2 view2 off
    rw [e1, bnd]
    dsimp only
    rw [Tree_law2 (by omega) (by omega), bnd, Star_law2 (by omega) (by omega), bnd, Star_law (by omega) (by omega), bnd, e2, bnd, tree_star]
    dsimp only
    rw [Cut_law2 (by omega) (by omega), bnd, Cut_law (by omega) (by omega)]
    generalize hr : qcOut (starOf c view l who) = r at hq
    obtain ⟨⟨v, b, s⟩, ok⟩ := r
    dsimp only at hq ⊢
    obtain ⟨b', rfl⟩ : ∃ b', b = tx b' := ⟨_, tx_of b⟩
    rw [beq_self_eq_true, Bool.not_true, br_false, br_false, QcSame_law (by omega), bnd]
    rw [beq_self_eq_true, decide_eq_true rfl, decide_eq_true rfl]
    simp only [Bool.and_self, Bool.not_true, br_false, bnd]
    rw [sameInts_law hcl, bnd, Bool.not_true, br_false]
    refine same_to (fun m i => laws_FnTreeStar_1 F0 (laws_FnTreeStar_1_k F0) m (laws_FnTreeStar_1_s view (tx l) who ok all off i c.1 c.2 v (tx b') (cutOf c2 view2 all off) s)) (cutOf c2 view2 all off).length _ (fun m k hk => ?_) (fun m => ?_) _ (by rw [n_eq]; omega)
    · obtain ⟨h1, h2⟩ := cut_off (List.getElem_mem hk)
      rw [laws_FnTreeStar_1_step, dec_lt hk, br_true, okI_nat hk, ck_true, at_isD hk, withinInts_law (by omega), bnd, ck_true, withinInts_law (by omega), bnd, decide_eq_false h1, br_false, decide_eq_true h2, Bool.not_true, br_false, w64_succ (by omega)]
    · rw [laws_FnTreeStar_1_step, dec_nlt, br_false]
      exact star_end (by omega) hw view hr
end Go.Am.Tryz
