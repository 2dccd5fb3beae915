/- Plain laws: stars; the law. No condition. -/
import Derived.Test.YtmmajfbohkbpjaaDoorLawQc
set_option linter.unusedVariables false
set_option linter.unusedSimpArgs false
namespace Go.Am.Tryd
open Go.Am
def starOf (c : Int × Int) (view : Int) (name : List UInt8) (who : List Int) : Option (Int × List UInt8 × List Int) :=
  if confOk c = true ∧ 0 ≤ view then partQc c (view, name, someL (w64 (c.1 - 1)) [] who) else none
theorem Star_law {name : List UInt8} (hn : name.length ≤ 1073741824) {who : List Int} (hw : who.length ≤ 1048576) (c : Int × Int) (view : Int) : spec_Star F0 c view (tx name) who = some ((qcOut (starOf c view name who)).1, (qcOut (starOf c view name who)).2, ()) := by
  have hl := someL_len (w64 (c.1 - 1)) who []
  rw [List.length_nil] at hl
  rw [spec_Star_eq, ConfOk_law, bnd, nil_tx]
  unfold starOf
  dsimp only
  by_cases hc : confOk c = true
  · rw [hc, Bool.not_true, br_false]
    by_cases hv : view < 0
    · rw [decide_eq_true hv, br_true, if_neg (fun h => by omega)]
      rfl
    · rw [decide_eq_false hv, br_false, l22Some_law c hw, bnd]
      dsimp only
      rw [PartQc_law hn (by omega), bnd, if_pos ⟨rfl, by omega⟩]
  · rw [Bool.eq_false_iff.2 hc, Bool.not_false, br_true, if_neg (fun h => by cases h.1)]
    rfl
theorem Star_law2 {name : List UInt8} (hn : name.length ≤ 1073741824) {who : List Int} (hw : who.length ≤ 1048576) (c : Int × Int) (view : Int) : impl_Star F0 c view (tx name) who = some ((qcOut (starOf c view name who)).1, (qcOut (starOf c view name who)).2, ()) := by
  have hl := someL_len (w64 (c.1 - 1)) who []
  rw [List.length_nil] at hl
  rw [impl_Star_eq, ConfOk_law2, bnd, nil_tx]
  unfold starOf
  dsimp only
  by_cases hc : confOk c = true
  · rw [hc, Bool.not_true, br_false]
    by_cases hv : view < 0
    · rw [decide_eq_true hv, br_true, if_neg (fun h => by omega)]
      rfl
    · rw [decide_eq_false hv, br_false, replicasOf_law c hw, bnd]
      dsimp only
      rw [PartQc_law2 hn (by omega), bnd, if_pos ⟨rfl, by omega⟩]
  · rw [Bool.eq_false_iff.2 hc, Bool.not_false, br_true, if_neg (fun h => by cases h.1)]
    rfl
/-! ### Marks -/
theorem toConf_law (c : Int × Int) : laws_toConf F0 c = some (c, ()) := laws_toConf_eq F0 c
def mInt (k : Int) (_ : Int) : Int := k
theorem markIntS_law {a : List Int} (h : a.length ≤ 1073741824) {k : Int} (h0 : 0 ≤ k) (h1 : k ≤ 1125899906842624) : laws_markIntS F0 a k = some ((k + a.length, ()), (mk mInt (fun _ => 1) k a, ())) := by
  rw [laws_markIntS_eq]
  refine mark_to mInt (fun _ => 1) (fun n i k xs => laws_markIntS_1 F0 (laws_markIntS_1_k F0) n (laws_markIntS_1_s k i xs)) a k _ (fun n i xs hi hl hx => ?_) (fun n => ?_) _ (by rw [n_eq]; omega)
  · have hi' : i < xs.length := by omega
    have hc := cnt_const (fun _ : Int => 1) (c0 := 1) (fun _ => rfl) (a.take i)
    rw [List.length_take] at hc
    generalize hq : k + (cnt (fun _ : Int => 1) (a.take i) : Int) = q
    have w1 : w64 (q + 1) = q + 1 := w64_in (by omega) (by omega)
    simp only [laws_markIntS_1_step, dec_lt hi', okI_nat hi', br_true, ck_true, Int.toNat_natCast, w1, w64_succ (show i + 1 ≤ 9223372036854775807 by omega)]
    rfl
  · rw [laws_markIntS_1_step, mk_len, dec_nlt, br_false, laws_markIntS_1_ce0, cnt_const _ (c0 := 1) (fun _ => rfl)]
    simp
theorem heldIntS_law {a : List Int} (h : a.length ≤ 1073741824) {k : Int} (h0 : 0 ≤ k) (h1 : k ≤ 1125899906842624) : laws_heldIntS F0 (mk mInt (fun _ => 1) k a) k = some (k + a.length, ()) := by
  rw [laws_heldIntS_eq]
  refine held_to mInt (fun _ => 1) (fun n i q => laws_heldIntS_1 F0 (laws_heldIntS_1_k F0) n (laws_heldIntS_1_s (mk mInt (fun _ => 1) k a) q i)) a k _ (fun n i hi hx => ?_) (fun n => ?_) _ (by rw [n_eq]; omega)
  · have hi' := get_lt hx
    have hc := cnt_const (fun _ : Int => 1) (c0 := 1) (fun _ => rfl) (a.take i)
    rw [List.length_take] at hc
    generalize hq : k + (cnt (fun _ : Int => 1) (a.take i) : Int) = q at hx ⊢
    have w1 : w64 (q + 1) = q + 1 := w64_in (by omega) (by omega)
    simp only [laws_heldIntS_1_step, dec_lt hi', okI_nat hi', br_true, ck_true, at_get hx, mInt, bne_self_eq_false, br_false, w1, w64_succ (show i + 1 ≤ 9223372036854775807 by omega)]
    rfl
  · rw [laws_heldIntS_1_step, mk_len, dec_nlt, br_false, laws_heldIntS_1_ce0, cnt_const _ (c0 := 1) (fun _ => rfl)]
    simp
theorem markQc_law {v : Int} {b : ByteArray} {s : List Int} (h : s.length ≤ 1073741824) {k : Int} (h0 : 0 ≤ k) (h1 : k ≤ 1125899906842624) : laws_markQc F0 (v, b, s) k = some ((k + s.length, ()), ((v, b, mk mInt (fun _ => 1) k s), ())) := by
  rw [laws_markQc_eq, markIntS_law h h0 h1, bnd]
theorem heldQc_law {v : Int} {b : ByteArray} {s : List Int} (h : s.length ≤ 1073741824) {k : Int} (h0 : 0 ≤ k) (h1 : k ≤ 1125899906842624) : laws_heldQc F0 (v, b, mk mInt (fun _ => 1) k s) k = some (k + s.length, ()) := by
  rw [laws_heldQc_eq, heldIntS_law h h0 h1, bnd]
  dsimp only
  rw [decide_eq_false (show ¬ k + (s.length : Int) < 0 by omega), br_false]
theorem eqQc_law {v : Int} {b : ByteArray} {s : List Int} (h : s.length ≤ 1048576) : laws_eqQc F0 (v, b, s) (v, b, s) = some (true, ()) := by
  rw [laws_eqQc_eq]
  simp only [bne_self_eq_false, br_false, same_text, eqIntS_law h, bnd, Bool.not_true]
theorem qcOut_len {o : Option (Int × List UInt8 × List Int)} {n : Nat} (h : ∀ q, o = some q → q.2.2.length ≤ n) : (qcOut o).1.2.2.length ≤ n := by
  unfold qcOut
  split
  · exact h _ rfl
  · simp
theorem starOf_len (c : Int × Int) (view : Int) (name : List UInt8) (who : List Int) : (qcOut (starOf c view name who)).1.2.2.length ≤ who.length := by
  refine qcOut_len fun q hq => ?_
  unfold starOf partQc at hq
  split at hq
  · split at hq
    · cases hq
      have := someL_len (w64 (c.1 - 1)) who []
      rw [List.length_nil] at this
      show (someL _ _ _).length ≤ _
      omega
    · cases hq
  · cases hq
theorem FnExactStar_true (c : Int × Int) (view : Int) (name : ByteArray) (who : List Int) : laws_FnExactStar F0 c view name who = some (true, ()) := by
  obtain ⟨l, rfl⟩ : ∃ l, name = tx l := ⟨_, tx_of name⟩
  rw [laws_FnExactStar_eq, tx_size]
  by_cases h : (l.length : Int) > 1048576
  · rw [decide_eq_true h, br_true]
  · rw [decide_eq_false h, br_false]
    by_cases hw : (who.length : Int) > 1048576
    · rw [decide_eq_true hw, br_true]
    · rw [decide_eq_false hw, br_false]
      have hwl : who.length ≤ 1048576 := by omega
      have hs := Star_law (name := l) (by omega) hwl c view
      have hi := Star_law2 (name := l) (by omega) hwl c view
      have hq := starOf_len c view l who
      generalize qcOut (starOf c view l who) = r at hs hi hq
      obtain ⟨⟨v, b, s⟩, ok⟩ := r
      dsimp only at hq hs hi
      have d1 : decide ((1 : Int) + who.length < 0) = false := decide_eq_false (by omega)
      have d2 : decide ((1 : Int) + s.length < 0) = false := decide_eq_false (by omega)
      simp only [toConf_law, toIntS_law hwl, bnd, hs, hi, eqQc_law (show s.length ≤ 1048576 by omega), eqIntS_law hwl, markIntS_law (show who.length ≤ 1073741824 by omega) (k := 1) (by omega) (by omega), d1, markQc_law (show s.length ≤ 1073741824 by omega) (k := 1) (by omega) (by omega),
        heldQc_law (show s.length ≤ 1073741824 by omega) (k := 1) (by omega) (by omega), d2, bne_self_eq_false, beq_self_eq_true, Bool.not_true, br_false]
end Go.Am.Tryd
