/- Plain laws: one chain, certificates judged; the laws of JudgeOne, JudgeCerts. No condition. -/
import Derived.Test.YtkkgagllehdhhaaGreatDoorZkLawTop
set_option linter.unusedVariables false
set_option linter.unusedSimpArgs false
namespace Go.Am.Tryz
open Go.Am
theorem rep_name {w : WorldD} (h : worldOk w = true) {j : Nat} (hj : j < w.2.2.1.length) : nameOk (w.2.2.1[j]).2.2.2.1.2.2.2.data.toList = true := by
  simp only [worldOk, Bool.and_eq_true] at h
  have h1 := List.all_eq_true.1 h.2.2.2.2.2.2.1 j (List.mem_range.2 hj)
  simp only [repAt, getD_is hj, Bool.and_eq_true] at h1
  have h2 := h1.1
  simp only [repOk, Bool.and_eq_true] at h2
  have h3 := h2.2.2.2.2.1
  simp only [safeOk, Bool.and_eq_true] at h3
  exact h3.2.2.2
def dn (w : WorldD) (i : Nat) : ByteArray := doneOf w ((honestL w).getD i 0)
theorem dn_is {w : WorldD} {i j : Nat} (hi : i < (honestL w).length) (e : (honestL w)[i] = (j : Int)) (hj : j < w.2.2.1.length) : dn w i = (w.2.2.1[j]).2.2.2.1.2.2.2 := by
  unfold dn doneOf
  rw [getD_is hi, e, Int.toNat_natCast, getD_is hj]
def oneOk (w : WorldD) : Bool := worldOk w && (List.range (honestL w).length).all fun i => (List.range (honestL w).length).all fun k => meetD (dn w i) (dn w k)
theorem one_pairs {w : WorldD} (hw : worldOk w = true) : ((List.range (honestL w).length).all fun i => (List.range i).all fun k => meetD (dn w i) (dn w k)) = (List.range (honestL w).length).all fun i => (List.range (honestL w).length).all fun k => meetD (dn w i) (dn w k) :=
  all_pairs (q := fun i k => meetD (dn w i) (dn w k)) (fun i k _ _ => meetD_comm _ _) (fun i hi => by
    obtain ⟨j, e, hj⟩ := honest_at hi
    rw [dn_is hi e hj]
    exact meetD_self (rep_name hw hj))
/-! ### Certificates -/
def lockOf (w : WorldD) (x : Int) : QcD := (w.2.2.1.getD x.toNat d0Rep).2.2.2.1.2.2.1
def certOf (c : Int × Int) (x : WireD) : List QcD := if ((msgOf c x.2).1.1 == 1) = true then [(msgOf c x.2).1.2.2.1.2] else if ((msgOf c x.2).1.1 == 3) = true then [(msgOf c x.2).1.2.2.2.2.1] else []
def certsTo (c : Int × Int) : List WireD → List QcD → List QcD
  | [], xs => xs
  | x :: l, xs => certsTo c l (xs ++ certOf c x)
theorem certsTo_snoc (c : Int × Int) : ∀ (l : List WireD) (xs : List QcD) (x : WireD), certsTo c (l ++ [x]) xs = certsTo c l xs ++ certOf c x
  | [], _, _ => rfl
  | _ :: l, _, x => certsTo_snoc c l _ x
theorem certOf_len (c : Int × Int) (x : WireD) : (certOf c x).length ≤ 1 := by
  unfold certOf
  split
  · exact Nat.le_refl _
  · split
    · exact Nat.le_refl _
    · exact Nat.zero_le _
theorem certsTo_len (c : Int × Int) : ∀ (l : List WireD) (xs : List QcD), (certsTo c l xs).length ≤ xs.length + l.length
  | [], _ => Nat.le_refl _
  | x :: l, xs => by
    have h1 := certsTo_len c l (xs ++ certOf c x)
    have h2 := certOf_len c x
    rw [List.length_append] at h1
    unfold certsTo
    rw [List.length_cons]
    omega
def certsL (w : WorldD) : List QcD := certsTo w.1 w.2.2.2.1 ((honestL w).map (lockOf w))
theorem cert_step {β : Type} (X : List QcD → β) (c : Int × Int) (x : WireD) (xs : List QcD) :
    br ((msgOf c x.2).1.1 == 1) (X (xs ++ [(msgOf c x.2).1.2.2.1.2])) (br ((msgOf c x.2).1.1 == 3) (X (xs ++ [(msgOf c x.2).1.2.2.2.2.1])) (X xs)) = X (xs ++ certOf c x) := by
  unfold certOf
  cases ((msgOf c x.2).1.1 == 1) with
  | true => rfl
  | false =>
    cases ((msgOf c x.2).1.1 == 3) with
    | true => rfl
    | false =>
      rw [if_neg (by decide), if_neg (by decide), List.append_nil]
      rfl
theorem map_snoc' {α β : Type} (f : α → β) (l : List α) (x : α) : (l ++ [x]).map f = l.map f ++ [f x] := by rw [List.map_append, List.map_singleton]
def badC (a b : QcD) : Bool := (a.1 == b.1) && !(a.2.1.toList == b.2.1.toList)
def okC (l : List QcD) (i k : Nat) : Bool := !badC (l.getD i d0Qc) (l.getD k d0Qc)
theorem badC_comm (a b : QcD) : badC a b = badC b a := by
  unfold badC
  rw [BEq.comm (a := a.1), BEq.comm (a := a.2.1.toList)]
theorem badC_self (a : QcD) : badC a a = false := by
  unfold badC
  rw [beq_self_eq_true a.2.1.toList]
  simp
def certsOk (w : WorldD) : Bool := worldOk w && (List.range (certsL w).length).all fun i => (List.range (certsL w).length).all (okC (certsL w) i)
theorem certs_pairs (l : List QcD) : ((List.range l.length).all fun i => (List.range i).all (okC l i)) = (List.range l.length).all fun i => (List.range l.length).all (okC l i) :=
  all_pairs (fun i k _ _ => by unfold okC; rw [badC_comm]) (fun i _ => by unfold okC; rw [badC_self]; rfl)
theorem certsL_len {w : WorldD} (h : WorldL w) : (certsL w).length ≤ 2097152 := by
  have hlen : (honestL w).length ≤ 1048576 := Nat.le_trans (honest_len w.2.1 w.2.2.1.length) h.r
  have h1 := certsTo_len w.1 w.2.2.2.1 ((honestL w).map (lockOf w))
  have h2 := h.n
  rw [List.length_map] at h1
  unfold certsL
  omega
theorem certs_step {β : Type} (e1 e2 : Bool) (x y : β) : br e1 (br (!e2) x y) y = if (!(e1 && !e2)) = true then y else x := by cases e1 <;> cases e2 <;> rfl
end Go.Am.Tryz
