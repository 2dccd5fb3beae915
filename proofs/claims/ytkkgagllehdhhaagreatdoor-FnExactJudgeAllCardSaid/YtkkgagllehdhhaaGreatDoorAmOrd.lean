/- Regions that draw their order: whatever comes up when, it is as the machine's own order says. No condition. -/
import Derived.Test.YtkkgagllehdhhaaGreatDoorAmDraw
import Derived.Test.YtkkgagllehdhhaaGreatDoorAmKeep
import Derived.OrdersHeld
set_option linter.unusedVariables false
set_option linter.unusedSimpArgs false
namespace Go.Am
open Go.RowKit
section
variable {N : Nat} {P : Program} {C : FuncId → Option Any} {w0 : Root} {w : World} {G : Gh} {st : St} {a : Act} {α : Type} {r : α} {o : Oper}

/-! ### What holds while a region comes up -/
def Sup (ops : Array Oper) (l l' : Array Bool) : Prop :=
  l.size = l'.size ∧ (∀ i, l.getD i false = true → l'.getD i false = true) ∧
    ∀ i o, ops[i]? = some o → l.getD i false = false → l'.getD i false = true → ∀ e ∈ o.after, Region.binds .any e = true → l'.getD e.on false = true
theorem Sup.refl (ops : Array Oper) (l : Array Bool) : Sup ops l l := ⟨rfl, fun _ h => h, fun _ _ _ h h' => by rw [h] at h'; cases h'⟩
theorem Sup.trans {ops : Array Oper} {a b c : Array Bool} (h : Sup ops a b) (k : Sup ops b c) : Sup ops a c :=
  ⟨h.1.trans k.1, fun i hi => k.2.1 i (h.2.1 i hi), fun i o ho h1 h2 e he hb => by
    cases hx : b.getD i false with
    | true => exact k.2.1 _ (h.2.2 i o ho h1 hx e he hb)
    | false => exact k.2.2 i o ho hx h2 e he hb⟩
theorem Sup.set {ops : Array Oper} {l : Array Bool} {i : Nat} (hi : i ∈ Region.ready .any ops l) : Sup ops l (l.setIfInBounds i true) := by
  refine ⟨by simp, fun _ h => getD_set_true h, fun j o ho h1 h2 e he hb => ?_⟩
  by_cases hij : i = j
  · subst hij
    obtain ⟨_, o', ho', hall⟩ := mem_ready.1 hi
    rw [ho] at ho'
    cases ho'
    exact getD_set_true (hall e he hb)
  · rw [getD_set_ne false hij, h1] at h2
    cases h2
theorem getD_tf {l : Array Bool} {i : Nat} (h : i < l.size) : l.getD i true = l.getD i false := by
  simp [Array.getD_eq_getD_getElem?, h]

def wpAnyI (P : Program) (ops : Array Oper) (Q : Exit → Act → World → Prop) (S : Array Bool → World → Prop) : Nat → Array Bool → Act → World → Prop
  | 0, l, a, w => Region.ready .any ops l = [] ∧ Q .normal a w
  | n + 1, l, a, w =>
    (Region.ready .any ops l = [] → Q .normal a w) ∧
    ∀ i ∈ Region.ready .any ops l, wpOp P ops Q i (fun a' w' => S (l.setIfInBounds i true) w' ∧ wpAnyI P ops Q S n (l.setIfInBounds i true) a' w') a w

theorem wpAny_of_I {ops : Array Oper} {Q : Exit → Act → World → Prop} {S : Array Bool → World → Prop} : ∀ (n : Nat) (l : Array Bool) (a : Act) (w : World), wpAnyI P ops Q S n l a w → wpAny P .any ops Q n l a w
  | 0, _, _, _, h => h
  | n + 1, _, _, _, h => ⟨h.1, fun i hi => wpOp_mono (fun a' w' h' => wpAny_of_I n _ a' w' h'.2) (h.2 i hi)⟩

theorem wpAnyI_mono {ops : Array Oper} {Q : Exit → Act → World → Prop} {S S' : Array Bool → World → Prop} : ∀ (n : Nat) {l : Array Bool} {a : Act} {w : World}, (∀ l' w', Sup ops l l' → S' l' w' → S l' w') → wpAnyI P ops Q S' n l a w → wpAnyI P ops Q S n l a w
  | 0, _, _, _, _, h => h
  | n + 1, l, _, _, hS, h => ⟨h.1, fun i hi => wpOp_mono (fun a' w' h' => ⟨hS _ _ (Sup.set hi) h'.1, wpAnyI_mono n (fun l' w' hs => hS l' w' ((Sup.set hi).trans hs)) h'.2⟩) (h.2 i hi)⟩

theorem wpAnyI_done {ops : Array Oper} {Q : Exit → Act → World → Prop} {S : Array Bool → World → Prop} {l : Array Bool} {a : Act} {w : World} (hr : Region.ready .any ops l = []) (h : Q .normal a w) : ∀ n, wpAnyI P ops Q S n l a w
  | 0 => ⟨hr, h⟩
  | _ + 1 => ⟨fun _ => h, by rw [hr]; simp⟩

theorem wpAnyI_first {ops : Array Oper} {Q : Exit → Act → World → Prop} {S : Array Bool → World → Prop} {S0 : World → Prop} {i : Nat} {oi : Oper} {v : Value} (hi : ops[i]? = some oi)
    (hsel : ∀ (j : Nat) (o : Oper) cs b, ops[j]? = some o → o.op ≠ .select cs b) (hQ : ∀ c a w, Q (.panic c) (a.put oi.dst v) w → Q (.panic c) a w) (hSi : ∀ l w, S (l.setIfInBounds i true) w ↔ S l w) :
    ∀ (fuel : Nat) (l : Array Bool) (a : Act) (w : World),
      (∀ j oj, ops[j]? = some oj → j ≠ i → l.getD j true = false → (∀ e ∈ oj.after, Region.binds .any e = true → e.on ≠ i) → oi.apart ops oj = true) →
      i ∈ Region.ready .any ops l → YieldsIf P ops S0 oi v a → (∀ l' w', Sup ops l l' → l'.getD i true = false → S l' w' → S0 w') → S l w →
      wpAnyI P ops Q S fuel (l.setIfInBounds i true) (a.put oi.dst v) w → wpAnyI P ops Q S (fuel + 1) l a w := by
  intro fuel
  induction fuel with
  | zero =>
    intro l a w _ hr hy hS0 hS H
    refine ⟨fun h => (by rw [h] at hr; cases hr), fun j hj => ?_⟩
    by_cases hji : j = i
    · subst hji; exact hy.wpOp hi (hS0 l w (Sup.refl ops l) (mem_ready.1 hr).1 hS) ⟨(hSi l w).2 hS, H⟩
    · have := ready_mono hj hji
      rw [H.1] at this
      cases this
  | succ fuel ih =>
    intro l a w hfree hr hy hS0 hS H
    refine ⟨fun h => (by rw [h] at hr; cases hr), fun j hj => ?_⟩
    by_cases hji : j = i
    · subst hji; exact hy.wpOp hi (hS0 l w (Sup.refl ops l) (mem_ready.1 hr).1 hS) ⟨(hSi l w).2 hS, H⟩
    · have h1 := H.2 j (ready_mono hj hji)
      obtain ⟨hjun, oj, hoj, hall⟩ := mem_ready.1 hj
      have hnot : ∀ e ∈ oj.after, Region.binds .any e = true → e.on ≠ i := fun e he hb heq => by
        have h1 := hall e he hb
        have h0 := (mem_ready.1 hr).1
        rw [heq] at h1
        rcases Nat.lt_or_ge i l.size with h' | h'
        · rw [getD_tf h'] at h0; rw [h0] at h1; cases h1
        · simp [Array.getElem?_eq_none h'] at h1
      have h2 := wpOp_putIf hoj (hfree j oj hoj hji hjun hnot) (fun cs b => hsel i oi cs b hi) (fun cs b => hsel j oj cs b hoj) hQ hy h1
      have hfree' : ∀ k ok, ops[k]? = some ok → k ≠ i → (l.setIfInBounds j true).getD k true = false →
          (∀ e ∈ ok.after, Region.binds .any e = true → e.on ≠ i) → oi.apart ops ok = true := fun k ok hk hki hun hno => by
        refine hfree k ok hk hki ?_ hno
        by_cases hjk : j = k
        · subst hjk; exact hjun
        · rw [getD_set_ne true hjk] at hun; exact hun
      refine wpOp_mono (fun a' w' h3 => ?_) h2
      have hSj : S (l.setIfInBounds j true) w' := by
        have := h3.2.1
        rw [Array.setIfInBounds_comm _ _ (Ne.symm hji)] at this
        exact (hSi _ _).1 this
      refine ⟨hSj, ih (l.setIfInBounds j true) a' w' hfree' (ready_mono hr (Ne.symm hji)) h3.1 (fun l' w'' hs => hS0 l' w'' ((Sup.set hj).trans hs)) hSj ?_⟩
      rw [Array.setIfInBounds_comm _ _ hji]
      exact h3.2.2

/-- From w on: what nobody owns stays; all that stood stays where nothing came up that turns memory. -/
def SI (P : Program) (C : FuncId → Option Any) (ops : Array Oper) (G : Gh) (w : World) (l0 l : Array Bool) (w' : World) : Prop :=
  w.heap.size ≤ w'.heap.size ∧ (∀ g, g < w.heap.size → G.own g = none → w'.heap[g]? = w.heap[g]?) ∧
    ((∀ c oc, ops[c]? = some oc → isLow P C oc = false → l.getD c true = l0.getD c true) → Below w.heap.size w w')

theorem SI.refl {ops : Array Oper} (l0 l : Array Bool) : SI P C ops G w l0 l w := ⟨Nat.le_refl _, fun _ _ _ => rfl, fun _ => Below.refl _ w⟩
theorem SI.set {ops : Array Oper} {l0 : Array Bool} {i : Nat} {oi : Oper} (hi : ops[i]? = some oi) (hl : isLow P C oi = true) (l : Array Bool) (w' : World) : SI P C ops G w l0 (l.setIfInBounds i true) w' ↔ SI P C ops G w l0 l w' := by
  have key : ∀ c oc, ops[c]? = some oc → isLow P C oc = false → (l.setIfInBounds i true).getD c true = l.getD c true := by
    intro c oc hc hlc
    have : i ≠ c := by
      rintro rfl
      rw [hi] at hc
      cases hc
      rw [hl] at hlc
      cases hlc
    exact getD_set_ne true this
  refine ⟨fun h => ⟨h.1, h.2.1, fun hm => h.2.2 fun c oc hc hlc => (key c oc hc hlc).trans (hm c oc hc hlc)⟩, fun h => ⟨h.1, h.2.1, fun hm => h.2.2 fun c oc hc hlc => ((key c oc hc hlc).symm.trans (hm c oc hc hlc))⟩⟩
theorem SI.step {ops : Array Oper} {l0 l1 l2 : Array Bool} {w1 w2 : World} {G1 : Gh} (h0 : l0.size = ops.size) (h : SI P C ops G w l0 l1 w1) (hG : ∀ g, g < w.heap.size → G.own g = none → G1.own g = none) (s1 : Sup ops l0 l1) (s2 : Sup ops l1 l2) (h2 : SI P C ops G1 w1 l1 l2 w2) : SI P C ops G w l0 l2 w2 := by
  refine ⟨Nat.le_trans h.1 h2.1, fun g hg ho => (h2.2.1 g (Nat.lt_of_lt_of_le hg h.1) (hG g hg ho)).trans (h.2.1 g hg ho), fun hm => ?_⟩
  have mid : ∀ c oc, ops[c]? = some oc → isLow P C oc = false → l1.getD c true = l0.getD c true := by
    intro c oc hc hlc
    have hlt : c < ops.size := (Array.getElem?_eq_some_iff.1 hc).1
    have e0 := hm c oc hc hlc
    have l1s : l1.size = ops.size := s1.1.symm.trans h0
    have l2s : l2.size = ops.size := s2.1.symm.trans l1s
    rw [getD_tf (by omega), getD_tf (by omega)] at e0 ⊢
    cases hx : l0.getD c false with
    | true => exact s1.2.1 c hx
    | false =>
      cases hy : l1.getD c false with
      | false => rfl
      | true =>
        rw [s2.2.1 c hy, hx] at e0
        cases e0
  have b1 := h.2.2 mid
  have b2 := h2.2.2 fun c oc hc hlc => (hm c oc hc hlc).trans (mid c oc hc hlc).symm
  exact ⟨b2.os.trans b1.os, b2.tape.trans b1.tape, b2.output.trans b1.output, Nat.le_trans b1.size b2.size, fun k hk => (b2.block k (Nat.lt_of_lt_of_le hk b1.size)).trans (b1.block k hk)⟩

/-! ### Blocks made ahead of their turn -/
theorem Inv.unhideBox (h : Inv w0 G st a w) {d g : Nat} (hd : look st.bx d = none) (hdt : d < st.nt) (hg : G.own g = some .hid) (hno : w0.hd g = none) {cs : Array Value} {e : TypeId} (hh : w.heap[g]? = some (.cells cs e (0, 0))) {l : List AC}
    (hl : All2 (RelC G w st.bx st.bl) l cs.toList) (htm : a.tmps.getD d undef = .pointer (some ⟨g, 0, none⟩)) :
    Inv w0 (G.box d g) { (st.put d (.v (.c (.ptr d 0)))) with bx := (d, l) :: st.bx } a w := by
  have hx : Ext0 G w (G.box d g) w := ⟨rfl, rfl, Nat.le_refl _, fun b hb ho => ⟨by
    have : b ≠ g := by rintro rfl; rw [hg] at ho; cases ho
    simp [Gh.box, this, ho], rfl⟩⟩
  have hne : ∀ x, (look st.bx x).isSome = true → x ≠ d := by
    rintro x hs rfl
    rw [hd] at hs
    cases hs
  have hs : StLe G st.bx st.bl (G.box d g) ((d, l) :: st.bx) st.bl := by
    refine ⟨fun x hs => ⟨isSome_cons _ trivial hs, by simp [Gh.box, hne x hs]⟩, fun id hd => ⟨hd, rfl, fun b' hb' => ⟨b', hb', rfl⟩⟩⟩
  refine ⟨h.nw, h.rok, h.below, h.defers, h.size, RelAV.mono0 hx hs h.sp, fun g' b o hm => ?_, fun t v hv => ?_, fun x m hm => ?_, fun id b hb => ?_, fun g' k hk => ?_⟩
  · obtain ⟨h1, h2, h3⟩ := h.hd g' b o hm
    refine ⟨?_, h2, h3⟩
    have : g' ≠ g := by rintro rfl; rw [hno] at hm; cases hm
    simp only [Gh.box, this, if_false]
    exact h1
  · simp only [St.put, look_cons] at hv
    by_cases ht : d = t
    · subst ht
      rw [if_pos rfl] at hv
      cases hv
      rw [htm]
      exact ⟨by simp [look_cons], by simp [Gh.box]⟩
    · rw [if_neg ht] at hv
      exact RelAV.mono0 hx hs (h.tm t v hv)
  · simp only [look_cons] at hm
    by_cases hxd : d = x
    · subst hxd
      rw [if_pos rfl] at hm
      cases hm
      exact ⟨cs, e, by simpa [Gh.box] using hh, by simp [Gh.box], hl.imp fun _ _ => RelC.mono0 hx hs⟩
    · rw [if_neg hxd] at hm
      obtain ⟨cs', e', h1, h2, h3⟩ := h.bx x m hm
      have hxd' : x ≠ d := fun e => hxd e.symm
      have hgn : G.hb x ≠ g := by
        intro e3
        rw [e3, hg] at h2
        cases h2
      exact ⟨cs', e', by simpa [Gh.box, hxd'] using h1, by simp [Gh.box, hxd', hgn, h2], h3.imp fun _ _ => RelC.mono0 hx hs⟩
  · refine (h.bl id b hb).mono0 hx rfl fun hw g' hgo hown => ⟨?_, rfl⟩
    have : g' ≠ g := by rintro rfl; rw [hg] at hown; cases hown
    simp [Gh.box, this, hown]
  · by_cases he : g' = g
    · subst he
      simp only [Gh.box, if_true] at hk
      cases hk
      exact ⟨(h.own g' _ hg).1, (h.own g' _ hg).2.1, by simp [look_cons], by simp [Gh.box]⟩
    · simp only [Gh.box, he, if_false] at hk
      obtain ⟨h1, h2, h3⟩ := h.own g' k hk
      refine ⟨h1, h2, ?_⟩
      cases k with
      | hid => trivial
      | bx x =>
        obtain ⟨h4, h5⟩ := hs.bx x h3.1
        exact ⟨h4, by rw [h5]; exact h3.2⟩
      | bl id => exact h3

def Gh.rowAt (G : Gh) (id g : Nat) (v : Value) : Gh :=
  { nw := G.nw, ok := G.ok, hb := G.hb, hv := fun x => if x = id then v else G.hv x, own := fun x => if x = g then some (.bl id) else G.own x }

theorem Inv.unhideRow (h : Inv w0 G st a w) {d g : Nat} (hd : look st.bl (d * 64) = none) (hdt : d < st.nt) (hg : G.own g = some .hid) (hno : w0.hd g = none) {e : TypeId} {cs : List Value} (hh : w.heap[g]? = some (.cells cs.toArray e (0, 0))) {u : Ty} (hu : 0 < u.n) {n : Nat} {xs : List u.D} {f : Bool}
    (hx1 : xs.length = n) (hx2 : cs.length = xs.length * u.n) (hx3 : n ≤ maxLen) (hels : ElsIn w (RO G f) u cs xs)
    (htm : a.tmps.getD d undef = .slice (some ⟨g, 0, none⟩) n n) :
    Inv w0 (G.rowAt (d * 64) g (.slice (some ⟨g, 0, none⟩) n n)) { (st.put d (.v (.c (.own (d * 64) none)))) with bl := (d * 64, some ⟨e, u, xs, f, true⟩) :: st.bl } a w := by
  have hx : Ext0 G w (G.rowAt (d * 64) g (.slice (some ⟨g, 0, none⟩) n n)) w := ⟨rfl, rfl, Nat.le_refl _, fun b hb ho => ⟨by
    have : b ≠ g := by rintro rfl; rw [hg] at ho; cases ho
    simp [Gh.rowAt, this, ho], rfl⟩⟩
  have hne : ∀ x, (look st.bl x).isSome = true → x ≠ d * 64 := by
    rintro x hs rfl
    rw [hd] at hs
    cases hs
  have hs : StLe G st.bx st.bl (G.rowAt (d * 64) g (.slice (some ⟨g, 0, none⟩) n n)) st.bx ((d * 64, some ⟨e, u, xs, f, true⟩) :: st.bl) := by
    refine ⟨fun x hs => ⟨hs, rfl⟩, fun id hs => ⟨isSome_cons _ trivial hs, by simp [Gh.rowAt, hne id hs], fun b' hb' => ?_⟩⟩
    rw [look_cons, if_neg (fun e => hne id hs e.symm)] at hb'
    exact ⟨b', hb', rfl⟩
  refine ⟨h.nw, h.rok, h.below, h.defers, h.size, RelAV.mono0 hx hs h.sp, fun g' b o hm => ?_, fun t v hv => ?_, fun x m hm => ?_, fun id b hb => ?_, fun g' k hk => ?_⟩
  · obtain ⟨h1, h2, h3⟩ := h.hd g' b o hm
    refine ⟨?_, h2, h3⟩
    have : g' ≠ g := by rintro rfl; rw [hno] at hm; cases hm
    simp only [Gh.rowAt, this, if_false]
    exact h1
  · simp only [St.put, look_cons] at hv
    by_cases ht : d = t
    · subst ht
      rw [if_pos rfl] at hv
      cases hv
      rw [htm]
      exact ⟨by simp [look_cons], ⟨some ⟨g, 0, none⟩, n, n, by simp [Gh.rowAt]⟩, by simp [Gh.rowAt]⟩
    · rw [if_neg ht] at hv
      exact RelAV.mono0 hx hs (h.tm t v hv)
  · obtain ⟨cs', e', h1, h2, h3⟩ := h.bx x m hm
    have hgn : G.hb x ≠ g := by
      intro e3
      rw [e3, hg] at h2
      cases h2
    exact ⟨cs', e', h1, by simp [Gh.rowAt, hgn, h2], h3.imp fun _ _ => RelC.mono0 hx hs⟩
  · simp only [look_cons] at hb
    by_cases hi : d * 64 = id
    · subst hi
      rw [if_pos rfl] at hb
      cases hb
      refine ⟨fun _ => ⟨cs, ⟨hx2, .inr ⟨g, n, cs.toArray, by simp [Gh.rowAt, hx1], Nat.zero_le _, hh, by show xs.length ≤ n; omega, hx3, by simp [hx2, hx1], ?_⟩⟩, fun g' hg' => ?_, hels.mono0 hx⟩, (fun hw => by cases hw), hu⟩
      · show List.take (xs.length * u.n) cs.toArray.toList = cs
        rw [← hx2]
        simp
      · simp only [Gh.rowAt, if_true, Value.ownBlock] at hg' ⊢
        cases hg'
        simp
    · rw [if_neg hi] at hb
      have hi' : id ≠ d * 64 := fun e => hi e.symm
      refine (h.bl id b hb).mono0 hx (by simp [Gh.rowAt, hi']) fun hw g' hgo hown => ⟨?_, rfl⟩
      have : g' ≠ g := by rintro rfl; rw [hg] at hown; cases hown
      simp [Gh.rowAt, this, hown]
  · by_cases he : g' = g
    · subst he
      simp only [Gh.rowAt, if_true] at hk
      cases hk
      exact ⟨(h.own g' _ hg).1, (h.own g' _ hg).2.1, by simp [look_cons], by simp [Gh.rowAt, Value.ownBlock]⟩
    · simp only [Gh.rowAt, he, if_false] at hk
      obtain ⟨h1, h2, h3⟩ := h.own g' k hk
      refine ⟨h1, h2, ?_⟩
      cases k with
      | hid => trivial
      | bx x => exact h3
      | bl id =>
        obtain ⟨h4, h5, _⟩ := hs.bl id h3.1
        exact ⟨h4, by rw [h5]; exact h3.2⟩

theorem act_put_ne {d t : Nat} (h : t ≠ d) (u : Value) : (a.put (some d) u).tmps.getD t undef = a.tmps.getD t undef := by
  simp [Act.put, Array.getD_eq_getD_getElem?, Array.getElem?_setIfInBounds, Ne.symm h]
theorem Inv.junk (h : Inv w0 G st a w) {d : Nat} (hd : look st.tm d = none) (u : Value) : Inv w0 G st (a.put (some d) u) w := by
  refine { h with defers := h.defers, size := by simp [Act.put, h.size], tm := fun t v hv => ?_ }
  rw [act_put_ne (by rintro rfl; rw [hd] at hv; cases hv)]
  exact h.tm t v hv
theorem Inv.hide (h : Inv w0 G st a w) (o : Obj) :
    Inv { w0 with hd := fun g => if g = w.heap.size then some (true, o) else w0.hd g } { G with own := fun g => if g = w.heap.size then some .hid else G.own g } st a (w.alloc o) := by
  have hne : ∀ b, b < w.heap.size → b ≠ w.heap.size := fun b hb => Nat.ne_of_lt hb
  have hold : ∀ b, b < w.heap.size → (w.alloc o).heap[b]? = w.heap[b]? := fun b hb => by
    show (w.heap.push o)[b]? = _
    rw [Array.getElem?_push, if_neg (hne b hb)]
  have hsz : (w.alloc o).heap.size = w.heap.size + 1 := by
    show (w.heap.push o).size = _
    rw [Array.size_push]
  have hx : Ext0 G w { G with own := fun g => if g = w.heap.size then some .hid else G.own g } (w.alloc o) := ⟨rfl, rfl, by omega, fun b hb ho => ⟨by simp [hne b hb, ho], hold b hb⟩⟩
  have hs : StLe G st.bx st.bl { G with own := fun g => if g = w.heap.size then some .hid else G.own g } st.bx st.bl := ⟨fun _ h => ⟨h, rfl⟩, fun _ h => ⟨h, rfl, fun b' hb' => ⟨b', hb', rfl⟩⟩⟩
  refine ⟨h.nw, h.rok, h.below.step rfl rfl rfl (by omega) fun k hk _ => hold k (Nat.lt_of_lt_of_le hk h.below.size), h.defers, h.size, RelAV.mono0 hx hs h.sp, fun g b ob hm => ?_, fun t v hv => RelAV.mono0 hx hs (h.tm t v hv), fun d l hl => ?_, fun id b hb => ?_, fun g k hk => ?_⟩
  · dsimp only at hm
    by_cases hg : g = w.heap.size
    · rw [if_pos hg] at hm
      cases hm
      subst hg
      exact ⟨by simp [hdKey], by omega, by show (w.heap.push o)[w.heap.size]? = _; rw [Array.getElem?_push, if_pos rfl]⟩
    · rw [if_neg hg] at hm
      obtain ⟨h1, h2, h3⟩ := h.hd g b ob hm
      exact ⟨by simp [hg, h1], by omega, (hold g h2).trans h3⟩
  · obtain ⟨cs, e, h1, h2, h3⟩ := h.bx d l hl
    have hlt := (h.own _ _ h2).2.1
    exact ⟨cs, e, (hold _ hlt).trans h1, by simp [hne _ hlt, h2], h3.imp fun _ _ => RelC.mono0 hx hs⟩
  · exact BlkOk.mono0 hx rfl (fun hw g hg ho => by
      have hlt := (h.own _ _ ho).2.1
      exact ⟨by simp [hne _ hlt, ho], hold _ hlt⟩) (h.bl id b hb)
  · dsimp only at hk
    by_cases hg : g = w.heap.size
    · rw [if_pos hg] at hk
      cases hk
      exact ⟨.inl (by rw [hg]; exact h.below.size), by omega, trivial⟩
    · rw [if_neg hg] at hk
      obtain ⟨h1, h2, h3⟩ := h.own g k hk
      refine ⟨h1, by omega, ?_⟩
      cases k with
      | hid => trivial
      | bx x => exact h3
      | bl id => exact h3

/-! ### What is not known yet is dropped -/
theorem look_drop {β : Type} (t s : Nat) : ∀ l : List (Nat × β), look (l.filter fun p => !Nat.beq p.1 t) s = if s = t then none else look l s
  | [] => by simp [look]
  | (k, v) :: l => by
    have ih := look_drop t s l
    by_cases hk : k = t
    · have : (!Nat.beq (k, v).1 t) = false := by simp [hk]
      rw [List.filter_cons_of_neg (by simp [this]), ih, look_cons]
      by_cases hs : s = t
      · simp [hs]
      · simp [hs, hk, Ne.symm hs]
    · have hb : (!Nat.beq (k, v).1 t) = true := by
        cases h : Nat.beq k t with
        | true => exact absurd (beq_nat h) hk
        | false => simp [h]
      rw [List.filter_cons_of_pos (p := fun p : Nat × β => !Nat.beq p.1 t) hb, look_cons, look_cons, ih]
      by_cases hs : s = t
      · simp [hs, hk]
      · simp [hs]
theorem Inv.dropOne (h : Inv w0 G st a w) (t : Tmp) : Inv w0 G (st.drop t) a w := by
  refine { h with tm := fun s v hs => h.tm s v ?_ }
  unfold St.drop at hs
  dsimp only at hs
  rw [look_drop] at hs
  split at hs
  · cases hs
  · exact hs
theorem dropFl_inv {ops : Array Oper} {l : Array Bool} : ∀ (is : List Nat) {st : St}, Inv w0 G st a w → Inv w0 G (dropFl P ops l is st) a w
  | [], _, h => h
  | i :: is, st, h => by
    unfold dropFl
    split
    · split
      · exact (dropFl_inv is h).dropOne _
      · exact dropFl_inv is h
    · exact dropFl_inv is h
theorem dropFl_none {ops : Array Oper} {l : Array Bool} {x : Nat} {o : Oper} {d : Tmp} (ho : ops[x]? = some o) (hf : isFloat P o = true) (hl : l.getD x true = false) (hd : o.dst = some d) : ∀ (is : List Nat) (st : St), x ∈ is → look (dropFl P ops l is st).tm d = none
  | [], _, h => by cases h
  | i :: is, st, h => by
    unfold dropFl
    rcases List.mem_cons.1 h with rfl | h
    · rw [ho]
      simp only [hf, hl, hd, Bool.not_false, Bool.and_self]
      show look (List.filter _ _) d = none
      rw [look_drop, if_pos rfl]
    · have ih := dropFl_none ho hf hl hd is st h
      split
      · split
        · show look (List.filter _ _) d = none
          rw [look_drop]
          split
          · rfl
          · exact ih
        · exact ih
      · exact ih

/-! ### Operations that make a block out of nothing -/
def mkF (o : Oper) (g : Nat) : Value := match o.op with
  | .alloc _ => .pointer (some ⟨g, 0, none⟩)
  | .buildSlice _ len _ => .slice (some ⟨g, 0, none⟩) len len
  | _ => undef
/-- What stands in it. -/
def ObjF (P : Program) (o : Oper) (a : Act) (obj : Obj) : Prop := match o.op with
  | .alloc t => ∃ i v, P.info? t = some i ∧ i.zero = some v ∧ obj = .cells v.cells t (0, 0)
  | .buildSlice t _ parts => ∃ e, elemT P t = some e ∧ obj = .cells (partsV a parts.toList).toArray e (0, 0)
  | _ => False
theorem partsV_same {a a' : Act} : ∀ {l : List (Nat × Operand)}, (∀ p ∈ l, ∀ s, p.2 = .tmp s → a'.tmps.getD s undef = a.tmps.getD s undef) → partsV a' l = partsV a l
  | [], _ => rfl
  | (j, x) :: l, h => by
    have h1 : a'.eval x = a.eval x := by
      cases x with
      | tmp s => exact h (j, .tmp s) (by simp) s rfl
      | _ => rfl
    simp only [partsV, h1, partsV_same fun p hp => h p (List.mem_cons_of_mem _ hp)]
theorem ObjF.same {a a' : Act} {obj : Obj} (h : ObjF P o a obj) (ha : ∀ t, usesTmp o t = true → a'.tmps.getD t undef = a.tmps.getD t undef) : ObjF P o a' obj := by
  unfold ObjF at h ⊢
  unfold usesTmp at ha
  split at h
  · exact h
  · rename_i t len parts ho
    simp only [ho] at ha
    obtain ⟨e, h1, h2⟩ := h
    refine ⟨e, h1, ?_⟩
    rw [partsV_same (a := a)]
    · exact h2
    · intro p hp s hs
      exact ha s (List.any_eq_true.2 ⟨p, hp, by rw [hs]; simp⟩)
  · exact h
/-- What happens at its turn, where its block stands already. -/
def Turns (P : Program) (C : FuncId → Option Any) (N : Nat) (o : Oper) (d : Tmp) : Prop :=
  ∀ {w0 : Root} {G : Gh} {st : St} {a : Act} {w : World} {g : Nat} {obj : Obj} {α : Type} {k : St → Option α} {r : α}, Inv w0 G st a w → G.own g = some .hid → w0.hd g = none → w.heap[g]? = some obj → ObjF P o a obj → a.tmps.getD d undef = mkF o g →
    opRun P C (Par.std N) o st k = some r → ∃ G' st', Inv w0 G' st' a w ∧ k st' = some r ∧ (∀ b, G.own b = none → G'.own b = none)
theorem freeze_noOwn : ∀ {l : List AC} {st : St}, noOwn l = true → st.freeze l = st
  | [], _, _ => rfl
  | c :: l, st, h => by
    have h1 : st.freeze1 c = st := by cases c <;> first | rfl | (simp [noOwn] at h)
    have h2 : noOwn l = true := by cases c <;> first | exact h | (simp [noOwn] at h)
    show List.foldl St.freeze1 (st.freeze1 c) l = st
    rw [h1]
    exact freeze_noOwn h2
theorem noOwn_app {l m : List AC} (h1 : noOwn l = true) (h2 : noOwn m = true) : noOwn (l ++ m) = true := by
  induction l with
  | nil => exact h2
  | cons c l ih => cases c <;> first | exact ih h1 | (simp [noOwn] at h1)
theorem flat_noOwn : ∀ {t : Ty} {l r : List AC} {x : t.D}, flat t = true → im st t l = some (x, r) → ∃ p, l = p ++ r ∧ noOwn p = true
  | .int k, [], _, _, _, h => by simp [im] at h
  | .int k, c :: l, _, _, _, h => by
    cases c <;> simp [im] at h
    exact ⟨[_], by rw [h.2.2]; rfl, rfl⟩
  | .bool, [], _, _, _, h => by simp [im] at h
  | .bool, c :: l, _, _, _, h => by
    cases c <;> simp [im] at h
    exact ⟨[_], by rw [h.2]; rfl, rfl⟩
  | .str, [], _, _, _, h => by simp [im] at h
  | .str, c :: l, _, _, _, h => by
    cases c <;> simp [im] at h
    exact ⟨[_], by rw [h.2]; rfl, rfl⟩
  | .unit, l, r, x, _, h => by
    simp only [im] at h
    cases h
    exact ⟨[], rfl, rfl⟩
  | .pair t u, l, r, x, hf, h => by
    simp only [flat, Bool.and_eq_true] at hf
    simp only [im] at h
    split at h
    · rename_i y r1 h1
      split at h
      · rename_i z r2 h2
        cases h
        obtain ⟨p, e1, n1⟩ := flat_noOwn hf.1 h1
        obtain ⟨q, e2, n2⟩ := flat_noOwn hf.2 h2
        exact ⟨p ++ q, by rw [e1, e2, List.append_assoc], noOwn_app n1 n2⟩
      · cases h
    · cases h
  | .sl _ _, _, _, _, hf, _ => by simp [flat] at hf
theorem lit_noOwn {u : Ty} (hf : flat u = true) : ∀ {l : List (Nat × Operand)} {i : Nat} {xs : List u.D}, litElems st u i l = some xs → noOwn (litCells st l) = true
  | [], _, _, _ => rfl
  | (j, x) :: l, i, xs, h => by
    simp only [litElems] at h
    split at h
    · split at h
      · rename_i y hy
        split at h
        · rename_i ys hys
          obtain ⟨p, e, n⟩ := flat_noOwn hf hy
          rw [List.append_nil] at e
          exact noOwn_app (by rw [e]; exact n) (lit_noOwn hf hys)
        · cases h
      · cases h
    · cases h
theorem float_spec (hf : isFloat P o = true) : ∃ d, o.dst = some d ∧ o.guard = none ∧ (∀ {w0 : Root} {G : Gh} {st : St} {a : Act} {w : World}, Inv w0 G st a w → partsKn P st o = true → ∃ obj, (execOp a.eval o).run P w = .ok (.value (mkF o w.heap.size)) (w.alloc obj) ∧ ObjF P o a obj) ∧ Turns P C N o d := by
  unfold isFloat at hf
  split at hf
  · rename_i d t hg hd ho
    split at hf
    · rename_i z hz
      obtain ⟨i, v, hi, hv, rfl⟩ := zeroOf_some hz
      refine ⟨d, hd, hg, fun _ _ => ⟨.cells v.cells t (0, 0), ?_, ?_⟩, ?_⟩
      · unfold execOp mkF
        rw [ho]
        simp [Instr.alloc, zeroValue, typeInfo, hi, hv, run_newVar]
      · unfold ObjF
        rw [ho]
        exact ⟨i, v, hi, hv, rfl⟩
      · intro w0 G st a w g obj α k r h hg' hno hh hobj htm hr
        unfold ObjF at hobj
        simp only [ho] at hobj
        obtain ⟨i', v', hi', hv', rfl⟩ := hobj
        rw [hi] at hi'
        cases hi'
        rw [hv] at hv'
        cases hv'
        simp only [opRun, ho, hd, hz] at hr
        split at hr
        · rename_i hb
          obtain ⟨hc, hk⟩ := ck_some hr
          rw [Bool.and_eq_true] at hc
          refine ⟨_, _, h.unhideBox hb (blt_lt hc.1) hg' hno hh ((ofConst_rel v).cells hc.2) (by rw [htm]; unfold mkF; rw [ho]), hk, fun b hb => ?_⟩
          have : b ≠ g := by rintro rfl; rw [hg'] at hb; cases hb
          simp [Gh.box, this, hb]
        · cases hr
    · cases hf
  · rename_i d t len parts hg hd ho
    split at hf
    · rename_i e he
      split at hf
      · rename_i u hu
        simp only [Bool.and_eq_true] at hf
        obtain ⟨⟨h1, h2⟩, ⟨⟨⟨h3, h4⟩, h6⟩, h5⟩⟩ := hf
        have hlen := beq_nat h2
        have hp : 0 < u.n := Nat.pos_of_ne_zero (beq_nat_false h4)
        have h16 := ble_le h6
        obtain ⟨i, hi, his⟩ := info_of_cells (beq_nat h3) hp
        obtain ⟨z, hz⟩ := Option.isSome_iff_exists.1 h5
        obtain ⟨i', zv, hi', hiz, _⟩ := zeroOf_some hz
        rw [hi] at hi'
        cases hi'
        have hut : P.underlying t = some (.slice e) := by
          unfold elemT at he
          split at he
          · rename_i e' hu; cases he; exact hu
          · cases he
        refine ⟨d, hd, hg, ?_, ?_⟩
        · intro w0 G st a w h hkn
          unfold partsKn at hkn
          simp only [ho, he, hu] at hkn
          obtain ⟨xs, hl⟩ := Option.isSome_iff_exists.1 hkn
          have hacc : ((Array.range (len * u.n)).map (fun q => (if len * u.n = 0 then #[] else zv.cells)[q % (if len * u.n = 0 then #[] else zv.cells).size]!)).size = (0 + parts.toList.length) * u.n := by
            simp [← hlen]
          obtain ⟨cs, hfl, hcl, hxl, hels, hpv⟩ := lit_fill (ok := fun _ => True) h hp parts.toList 0 _ xs (fun t c v ys _ => any_rd h t c v ys) hacc hl
          simp only [Nat.zero_mul, List.take_zero, List.nil_append] at hfl
          refine ⟨.cells cs.toArray e (0, 0), ?_, ?_⟩
          · unfold execOp mkF
            rw [ho]
            dsimp only
            have := run_buildSlice (P := P) (w := w) hut hi hiz (len := len) (parts := parts.map fun (i, x) => (i, a.eval x)) (cells := cs.toArray) (by rw [his]; omega) (by rw [his, Array.toList_map]; exact hfl)
            simp only [Sem.run_bind, this, Result.andThen_ok]
            rfl
          · unfold ObjF
            rw [ho]
            exact ⟨e, he, by rw [hpv]⟩
        · intro w0 G st a w g obj α k r h hg' hno hh hobj htm hr
          unfold ObjF at hobj
          simp only [ho] at hobj
          obtain ⟨e', he', rfl⟩ := hobj
          rw [he] at he'
          cases he'
          simp only [opRun, ho, hd, he, hu] at hr
          split at hr
          · rename_i xs hl
            split at hr
            · rename_i hcond
              have hacc : ((Array.range (len * u.n)).map (fun q => (if len * u.n = 0 then #[] else zv.cells)[q % (if len * u.n = 0 then #[] else zv.cells).size]!)).size = (0 + parts.toList.length) * u.n := by
                simp [← hlen]
              obtain ⟨cs, _, hcl, hxl, hels, hpv⟩ := lit_fill (ok := fun _ => True) h hp parts.toList 0 _ xs (fun t c v ys _ => any_rd h t c v ys) hacc hl
              have hfz : noOwn (litCells st parts.toList) = true := by
                rw [Bool.or_eq_true] at h1
                rcases h1 with h1 | h1
                · exact lit_noOwn h1 hl
                · have h0 := beq_nat h1
                  have : parts.toList = [] := List.eq_nil_of_length_eq_zero (by omega)
                  rw [this]
                  rfl
              have hels' : ElsIn w (RO G (newAll (litCells st parts.toList))) u cs xs := by
                rw [Bool.or_eq_true] at h1
                rcases h1 with h1 | h1
                · exact els_flat h1 hels
                · have h0 := beq_nat h1
                  have : xs = [] := List.eq_nil_of_length_eq_zero (by omega)
                  subst this
                  exact fun j x hj => by simp at hj
              rw [freeze_noOwn hfz] at hr
              unfold St.row at hr
              split at hr
              · cases hr
              · rename_i hb
                obtain ⟨hc, hk⟩ := ck_some hr
                rw [← hpv] at hh
                have hle : len ≤ len * u.n := Nat.le_mul_of_pos_right _ hp
                have hmax : maxLen = 9223372036854775807 := rfl
                refine ⟨_, _, Inv.unhideRow (e := e) (u := u) (n := len) h hb (blt_lt hc) hg' hno hh hp (by omega) hcl (by omega) hels' (by rw [htm]; unfold mkF; rw [ho]), hk, fun b hb => ?_⟩
                have : b ≠ g := by rintro rfl; rw [hg'] at hb; cases hb
                simp [Gh.rowAt, this, hb]
            · cases hr
          · cases hr
      · cases hf
    · cases hf
  · cases hf
theorem kn_of_run {k : St → Option α} (hf : isFloat P o = true) (hr : opRun P C (Par.std N) o st k = some r) : partsKn P st o = true := by
  unfold isFloat at hf
  split at hf
  · rename_i d t hg hd ho
    unfold partsKn
    rw [ho]
  · rename_i d t len parts hg hd ho
    unfold partsKn
    simp only [ho]
    simp only [opRun, ho, hd] at hr
    split at hf
    · rename_i e he
      split at hf
      · rename_i u hu
        simp only [he, hu] at hr ⊢
        split at hr
        · rename_i xs hl
          rw [hl]
          rfl
        · cases hr
      · cases hf
    · cases hf
  · cases hf

/-! ### From here on -/
def Root.from (w0 : Root) (G : Gh) (w : World) (h1 : w0.w.heap.size ≤ w.heap.size) (h2 : ∀ g k, G.own g = some k → w0.nw g) : Root where
  w := w
  ok := w0.ok
  nw := w0.nw
  fr g := (G.own g).isSome = true
  hnw b hb := w0.hnw b (Nat.le_trans h1 hb)
  hfr b hb := by
    obtain ⟨k, hk⟩ := Option.isSome_iff_exists.1 hb
    exact h2 b k hk
  pv := w0.pv
  hd g := match w0.hd g with
    | some x => some x
    | none => match G.own g with
      | none => (w.heap[g]?).map fun o => (false, o)
      | some _ => none
theorem Inv.nwAll (h : Inv w0 G st a w) : ∀ g k, G.own g = some k → w0.nw g := fun g k hk => by
  rw [← h.nw]
  exact h.ownNw hk
abbrev Inv.root (h : Inv w0 G st a w) : Root := w0.from G w h.below.size h.nwAll
theorem Inv.from (h : Inv w0 G st a w) : Inv h.root G st a w := by
  refine ⟨h.nw, h.rok, Keeps.refl _ _, h.defers, h.size, h.sp, fun g b o hm => ?_, h.tm, h.bx, h.bl, fun g k hk => ?_⟩
  · simp only [Inv.root, Root.from] at hm
    split at hm
    · rename_i x hx
      cases hm
      exact h.hd g b o hx
    · split at hm
      · rename_i hg
        cases hh : w.heap[g]? with
        | none => rw [hh] at hm; cases hm
        | some o' =>
          rw [hh] at hm
          cases hm
          exact ⟨hg, (Array.getElem?_eq_some_iff.1 hh).1, rfl⟩
      · cases hm
  · obtain ⟨_, h2, h3⟩ := h.own g k hk
    exact ⟨.inr (by simp [Inv.root, Root.from, hk]), h2, h3⟩
theorem Inv.keepsRoot (h : Inv w0 G st a w) {w1 : World} (hk : Keeps h.root.fr w w1) : Keeps w0.fr w0.w w1 :=
  h.below.step hk.os hk.tape hk.output hk.size fun k hk1 hk2 => hk.block k (Nat.lt_of_lt_of_le hk1 h.below.size) fun hfr => by
    obtain ⟨q, hq⟩ := Option.isSome_iff_exists.1 (show (G.own k).isSome = true from hfr)
    rcases (h.own k q hq).1 with h1 | h1
    · omega
    · exact hk2 h1
theorem Inv.backRoot (h : Inv w0 G st a w) {G' : Gh} {st' : St} {a' : Act} {w' : World} (h' : Inv h.root G' st' a' w') :
    Inv w0 G' st' a' w' ∧ w.heap.size ≤ w'.heap.size ∧ ∀ g, g < w.heap.size → G.own g = none → G'.own g = none ∧ w'.heap[g]? = w.heap[g]? := by
  refine ⟨⟨h'.nw, h'.rok, h.keepsRoot h'.below, h'.defers, h'.size, h'.sp, fun g b o hm => h'.hd g b o ?_, h'.tm, h'.bx, h'.bl, fun g k hk => ?_⟩, h'.below.size, fun g hg ho => ?_⟩
  · simp only [Inv.root, Root.from, hm]
  · obtain ⟨h1, h2, h3⟩ := h'.own g k hk
    refine ⟨?_, h2, h3⟩
    rcases h1 with h1 | h1
    · exact .inl (Nat.le_trans h.below.size h1)
    · obtain ⟨q, hq⟩ := Option.isSome_iff_exists.1 (show (G.own g).isSome = true from h1)
      exact (h.own g q hq).1
  · cases hx : w0.hd g with
    | some x =>
      obtain ⟨b, o⟩ := x
      obtain ⟨h1, h2, h3⟩ := h.hd g b o hx
      obtain ⟨h4, h5, h6⟩ := h'.hd g b o (by simp only [Inv.root, Root.from, hx])
      cases b with
      | true =>
        rw [ho] at h1
        cases h1
      | false => exact ⟨h4, h6.trans h3.symm⟩
    | none =>
      have hh : w.heap[g]? = some w.heap[g] := Array.getElem?_eq_getElem hg
      obtain ⟨h4, h5, h6⟩ := h'.hd g false w.heap[g] (by simp only [Inv.root, Root.from, hx, ho, hh, Option.map_some])
      exact ⟨h4, h6.trans hh.symm⟩
theorem Inv.anyAt (h : Inv w0 G st a w) {f : FuncId} {con : Any} (hc : AnyAt P w0 f con) : AnyAt P h.root f con := by
  cases con with
  | one c => exact ⟨hc.1, fun x r hg w1 hk => hc.2 x r hg w1 (h.keepsRoot hk)⟩
  | idx i => exact ⟨hc.1, fun W hk => hc.2 W (h.keepsRoot hk)⟩
  | ins e u => exact ⟨hc.1, fun W hk => hc.2 W (h.keepsRoot hk)⟩
  | del e u => exact ⟨hc.1, fun W hk => hc.2 W (h.keepsRoot hk)⟩
  | two c =>
    refine ⟨hc.1, hc.2.1, fun x r hg w1 hk ok nw own g0 vs u hh ha => hc.2.2 x r hg w1 (h.keepsRoot hk) ok nw own g0 vs u ⟨hh.hnew, fun g j hj => ?_, hh.hok⟩ ha⟩
    obtain ⟨h1, h2, h3⟩ := hh.hown g j hj
    refine ⟨h1, h2, ?_⟩
    rcases h3 with h3 | h3
    · exact .inl (Nat.le_trans h.below.size h3)
    · obtain ⟨q, hq⟩ := Option.isSome_iff_exists.1 (show (G.own g).isSome = true from h3)
      exact (h.own g q hq).1

/-! ### One operation -/
theorem wp_tmps {K : Act → World → Prop} {Q : Exit → Act → World → Prop} (h : o.wp P a w K Q) :
    o.wp P a w (fun a' w' => K a' w' ∧ a'.tmps.size = a.tmps.size ∧ ∀ t, o.dst ≠ some t → a'.tmps.getD t undef = a.tmps.getD t undef) Q := by
  have key : ∀ (b : Act) u, b.tmps = a.tmps → (b.put o.dst u).tmps.size = a.tmps.size ∧ ∀ t, o.dst ≠ some t → (b.put o.dst u).tmps.getD t undef = a.tmps.getD t undef := by
    intro b u hb
    cases hd : o.dst with
    | none => exact ⟨by simp [Act.put, hb], fun t _ => by simp [Act.put, hb]⟩
    | some d =>
      refine ⟨by simp [Act.put, hb], fun t ht => ?_⟩
      have hne : t ≠ d := fun e => ht (by rw [e])
      rw [act_put_ne hne, hb]
  unfold Oper.wp Oper.upon at h ⊢
  split at h
  · exact ⟨h, key a _ rfl⟩
  · exact ⟨h, key a _ rfl⟩
  · exact ⟨h, key _ _ rfl⟩
  · refine Calls.mono h fun e w' he => ?_
    cases e with
    | returned v => exact ⟨he, key a _ rfl⟩
    | panicked c => exact he
    | _ => exact he
  · exact Rows.mono h fun v w' he => ⟨he, key a _ rfl⟩
  all_goals exact h

theorem calm_not_float (hc : calmOp P o = true) : isFloat P o = false := by
  unfold isFloat
  split
  · rename_i ho
    simp [calmOp, ho] at hc
  · rename_i ho
    simp [calmOp, ho] at hc
  · rfl
/-- One operation, from w on. -/
theorem step_sound {Q : Exit → Act → World → Prop} {k : St → Option α} (hC : ∀ f con, C f = some con → AnyAt P w0 f con) (h : Inv w0 G st a w) (hr : opRun P C (Par.std N) o st k = some r) :
    o.wp P a w (fun a' w' => ((∃ G' st', Inv w0 G' st' a' w' ∧ k st' = some r) ∧ (isLow P C o = true → Below w.heap.size w w')) ∧ a'.tmps.size = a.tmps.size ∧ ∀ t, o.dst ≠ some t → a'.tmps.getD t undef = a.tmps.getD t undef) Q := by
  refine wp_tmps ?_
  have hK : Goes w0 k r (fun a' w' => ∃ G' st', Inv w0 G' st' a' w' ∧ k st' = some r) := fun G' st' a' w' h' hr' => ⟨G', st', h', hr'⟩
  by_cases hl : isLow P C o = true
  · by_cases hc : calmOp P o = true
    · obtain ⟨v, G', st', he, hi, hk⟩ := opRun_calm hc h hr
      exact wp_val (he w (memOk_of_below (Below.refl _ w))) ⟨⟨G', st', hi, hk⟩, fun _ => Below.refl _ w⟩
    · by_cases hf : isFloat P o = true
      · obtain ⟨d, hd, hg, he, _⟩ := float_spec (C := C) (N := N) hf
        obtain ⟨obj, he, _⟩ := he h (kn_of_run hf hr)
        have := opRun_sound (Q := Q) hC h hr hK
        unfold Oper.wp at this ⊢
        rw [he] at this ⊢
        exact ⟨this, fun _ => ⟨rfl, rfl, rfl, by simp, fun k hk => Below.heap_alloc _ _ _ hk⟩⟩
      · have hcall : callOp C o = true := by
          unfold isLow at hl
          simp only [Bool.or_eq_true] at hl
          rcases hl with (hl | hl) | hl
          · exact absurd hl hc
          · exact absurd hl hf
          · exact hl
        unfold callOp at hcall
        split at hcall
        · rename_i f args ts hop
          simp only [opRun, hop] at hr
          split at hr
          · rename_i con hcon
            exact sound_callB (show ConAt P w0 f con from hC f (.one con) hcon) h hop hr fun G' st' a' w' h' hr' hB => ⟨⟨G', st', h', hr'⟩, fun _ => hB⟩
          · rename_i con hcon
            rw [hcon] at hcall
            cases hcall
          · rename_i hcon
            rw [hcon] at hcall
            cases hcall
          · rename_i hcon
            rw [hcon] at hcall
            cases hcall
          · rename_i hcon
            rw [hcon] at hcall
            cases hcall
          · cases hr
        · cases hcall
  · exact Oper.wp_mono (fun a' w' h' => ⟨h', fun h => absurd h hl⟩) (opRun_sound (Q := Q) hC h hr hK)

/-- One operation, guarded: carried out or passed by. -/
theorem yielded_of {ops : Array Oper} {j : Nat} {oj : Oper} {dj : Tmp} {tmps : Array Value} (h1 : nth? ops.toList j = some oj) (h2 : oj.dst = some dj) :
    yielded ops tmps j = match tmps.getD dj undef with | .bool b => some b | _ => none := by
  have h3 : ops[j]? = some oj := by
    rw [nth?_eq] at h1
    simpa using h1
  unfold yielded
  rw [h3]
  simp only [Option.bind_some, h2]
  rw [Array.getD_eq_getD_getElem?]
  cases tmps[dj]? with
  | none => rfl
  | some v => cases v <;> rfl
theorem stepRun_cases {ops : Array Oper} {k : St → Option α} (h : Inv w0 G st a w) (hr : stepRun P C (Par.std N) ops.toList o st k = some r) :
    (Region.wanted o (yielded ops a.tmps) = true ∧ ∃ st', (st' = st ∨ ∃ dj b b', st.get dj = .v (.c (.bool b)) ∧ st' = st.put dj (.v (.c (.bool b')))) ∧ Inv w0 G st' a w ∧ opRun P C (Par.std N) o st' k = some r) ∨
    (Region.wanted o (yielded ops a.tmps) = false ∧ ∃ G' st', Inv w0 G' st' (a.put o.dst undef) w ∧ k st' = some r) := by
  have skip_ : ∀ {st : St}, Inv w0 G st a w → St.pk st o.dst (.tup []) k = some r → ∃ G' st', Inv w0 G' st' (a.put o.dst undef) w ∧ k st' = some r := by
    intro st h hr
    obtain ⟨G', st', h1, h2⟩ := pk_goes (K := fun a' w' => ∃ G' st', Inv w0 G' st' a' w' ∧ k st' = some r) h (v := .tup []) (u := undef) ⟨#[], rfl, trivial⟩ hr fun G' st' a' w' h' hr' => ⟨G', st', h', hr'⟩
    exact ⟨G', st', h1, h2⟩
  unfold stepRun at hr
  split at hr
  · rename_i hg
    exact .inl ⟨by simp [Region.wanted, hg], st, .inl rfl, h, hr⟩
  · rename_i j want hg
    split at hr
    · rename_i oj hoj
      split at hr
      · rename_i dj hdj
        have hy := yielded_of (tmps := a.tmps) hoj hdj
        have hev := h.ev (.tmp dj)
        rw [show st.ev (.tmp dj) = st.get dj from rfl] at hev
        split at hr
        · rename_i b hb
          rw [hb] at hev
          have hv : a.tmps.getD dj undef = .bool b := hev
          rw [hv] at hy
          have hlit : ∀ b', b = b' → Inv w0 G (st.put dj (.v (.c (.bool b')))) a w := by
            intro b' hb'
            subst hb'
            exact h.lit (.tmp dj) b hv
          rcases br_some hr with ⟨hb1, hr⟩ | ⟨hb1, hr⟩
          · subst hb1
            cases want with
            | true => exact .inl ⟨by simp [Region.wanted, hg, hy], _, .inr ⟨dj, _, _, hb, rfl⟩, hlit true rfl, hr⟩
            | false => exact .inr ⟨by simp [Region.wanted, hg, hy], skip_ (hlit true rfl) hr⟩
          · subst hb1
            cases want with
            | true => exact .inr ⟨by simp [Region.wanted, hg, hy], skip_ (hlit false rfl) hr⟩
            | false => exact .inl ⟨by simp [Region.wanted, hg, hy], _, .inr ⟨dj, _, _, hb, rfl⟩, hlit false rfl, hr⟩
        · rename_i hb
          rw [hb] at hev
          obtain ⟨vs, hv, hvs⟩ := hev
          have hv : a.tmps.getD dj undef = .tuple vs := hv
          rw [hv] at hy
          exact .inr ⟨by simp [Region.wanted, hg, hy], skip_ h hr⟩
        · cases hr
      · cases hr
    · cases hr

/-! ### The machine's order -/
theorem pickCalm_spec {ops : Array Oper} {M : Array Bool} : ∀ {l : List Nat} {j : Nat} {o : Oper}, pickCalm P C ops M st l = some (j, o) → j ∈ l ∧ ops[j]? = some o ∧ calmOp P o = true ∧ Region.free .any ops M j = true ∧ ((roLoad st o = true ∨ skips ops.toList st o = true) ∨ mutAfter P C ops M j = true)
  | [], _, _, h => by simp [pickCalm] at h
  | i :: l, j, o, h => by
    simp only [pickCalm] at h
    split at h
    · rename_i o' ho'
      split at h
      · rename_i hc
        cases h
        simp only [Bool.and_eq_true, Bool.or_eq_true] at hc
        exact ⟨by simp, ho', hc.1.1, hc.1.2, hc.2.elim (fun h => h.elim (fun h => .inl (.inl h)) .inr) fun h => .inl (.inr h)⟩
      · obtain ⟨h1, h2⟩ := pickCalm_spec h
        exact ⟨by simp [h1], h2⟩
    · cases h
theorem pickNext_spec {ops : Array Oper} {M : Array Bool} : ∀ {l : List Nat} {j : Nat} {o : Oper}, pickNext P ops M st l = some (j, o) → j ∈ l ∧ ops[j]? = some o ∧ allB j (Region.ready .any ops (markAll P ops j (List.range ops.size) M)) = true ∧ fltKn P ops M st (List.range ops.size) = true
  | [], _, _, h => by simp [pickNext] at h
  | i :: l, j, o, h => by
    simp only [pickNext] at h
    split at h
    · rename_i o' ho'
      split at h
      · rename_i hc
        cases h
        rw [Bool.and_eq_true] at hc
        exact ⟨by simp, ho', hc.1, hc.2⟩
      · obtain ⟨h1, h2⟩ := pickNext_spec h
        exact ⟨by simp [h1], h2⟩
    · cases h
theorem fltKn_spec {ops : Array Oper} {M : Array Bool} : ∀ {l : List Nat}, fltKn P ops M st l = true → ∀ i ∈ l, ∀ o, ops[i]? = some o → isFloat P o = true → M.getD i true = false → waits P ops M o = true ∨ partsKn P st o = true
  | [], _, i, h => by cases h
  | j :: l, h, i, hi => by
    simp only [fltKn, Bool.and_eq_true] at h
    intro o ho hf hM
    rcases List.mem_cons.1 hi with rfl | hi
    · have := h.1
      rw [ho] at this
      simpa [hf, hM] using this
    · exact fltKn_spec h.2 i hi o ho hf hM
theorem waits_spec {ops : Array Oper} {M : Array Bool} (h : waits P ops M o = true) : ∃ e ∈ o.after, Region.binds .any e = true ∧ ∃ oe, ops[e.on]? = some oe ∧ isFloat P oe = false ∧ M.getD e.on true = false := by
  unfold waits at h
  obtain ⟨e, he, hb⟩ := Array.any_eq_true'.1 h
  rw [Bool.and_eq_true] at hb
  refine ⟨e, he, hb.1, ?_⟩
  have h2 := hb.2
  split at h2
  · rename_i oe hoe
    rw [Bool.and_eq_true] at h2
    exact ⟨oe, hoe, by simpa using h2.1, by simpa using h2.2⟩
  · cases h2
theorem allB_spec {x : Nat} : ∀ {l : List Nat}, allB x l = true → ∀ i ∈ l, i = x
  | [], _, i, h => by cases h
  | j :: l, h, i, hi => by
    simp only [allB, Bool.and_eq_true] at h
    rcases List.mem_cons.1 hi with rfl | hi
    · exact beq_nat h.1
    · exact allB_spec h.2 i hi
theorem markAll_mono {ops : Array Oper} {x : Nat} : ∀ (is : List Nat) {l : Array Bool} {i : Nat}, l.getD i false = true → (markAll P ops x is l).getD i false = true
  | [], _, _, h => h
  | j :: is, l, i, h => by
    unfold markAll
    split
    · split
      · exact markAll_mono is (getD_set_true h)
      · exact markAll_mono is h
    · exact markAll_mono is h
theorem markAll_float {ops : Array Oper} {x y : Nat} {o : Oper} (ho : ops[y]? = some o) (hf : isFloat P o = true) (hxy : y ≠ x) : ∀ (is : List Nat) {l : Array Bool}, y < l.size → y ∈ is → (markAll P ops x is l).getD y false = true
  | [], _, _, h => by cases h
  | j :: is, l, hl, h => by
    have hb : Nat.beq y x = false := by
      cases hb : Nat.beq y x with
      | true => exact absurd (beq_nat hb) hxy
      | false => rfl
    unfold markAll
    rcases List.mem_cons.1 h with rfl | h
    · rw [ho]
      simp only [hf, hb, Bool.not_false, Bool.and_self]
      exact markAll_mono is (by simp [Array.getD_eq_getD_getElem?, hl])
    · split
      · split
        · exact markAll_float ho hf hxy is (by simpa using hl) h
        · exact markAll_float ho hf hxy is hl h
      · exact markAll_float ho hf hxy is hl h
theorem markAll_other {ops : Array Oper} {x y : Nat} {o : Oper} (ho : ops[y]? = some o) (hf : isFloat P o = false ∨ y = x) : ∀ (is : List Nat) {l : Array Bool}, (markAll P ops x is l).getD y true = l.getD y true
  | [], _ => rfl
  | j :: is, l => by
    unfold markAll
    split
    · rename_i o' ho'
      split
      · rename_i hc
        rw [markAll_other ho hf is]
        refine getD_set_ne true ?_
        rintro rfl
        rw [ho] at ho'
        cases ho'
        rw [Bool.and_eq_true] at hc
        rcases hf with hf | rfl
        · rw [hf] at hc
          cases hc.1
        · simp at hc
      · exact markAll_other ho hf is
    · exact markAll_other ho hf is
theorem allListed_spec {ops : Array Oper} {M : Array Bool} : ∀ {l : List Nat}, allListed P ops M l = true → ∀ i ∈ l, ∀ o, ops[i]? = some o → isFloat P o = true → M.getD i true = true
  | [], _, i, h => by cases h
  | j :: l, h, i, hi => by
    simp only [allListed, Bool.and_eq_true] at h
    intro o ho hf
    rcases List.mem_cons.1 hi with rfl | hi
    · have := h.1
      rw [ho] at this
      simpa [hf] using this
    · exact allListed_spec h.2 i hi o ho hf
theorem dropFl_same {ops : Array Oper} {M : Array Bool} : ∀ {l : List Nat} {st : St}, (∀ i ∈ l, ∀ o, ops[i]? = some o → isFloat P o = true → M.getD i true = true) → dropFl P ops M l st = st
  | [], _, _ => rfl
  | i :: l, st, h => by
    have ih := dropFl_same (st := st) fun j hj => h j (List.mem_cons_of_mem _ hj)
    unfold dropFl
    split
    · rename_i o ho
      split
      · rename_i hc _
        rw [Bool.and_eq_true] at hc
        have := h i List.mem_cons_self o ho hc.1
        rw [this] at hc
        cases hc.2
      · exact ih
    · exact ih
theorem mutAfter_spec {ops : Array Oper} {M : Array Bool} {i : Nat} (h : mutAfter P C ops M i = true) {c : Nat} {oc : Oper} (hc : ops[c]? = some oc) (hl : isLow P C oc = false) : M.getD c true = true ∨ waitsFor ops M i 3 oc = true := by
  unfold mutAfter at h
  rw [List.all_eq_true] at h
  have := h c (List.mem_range.2 (Array.getElem?_eq_some_iff.1 hc).1)
  rw [hc] at this
  simpa only [hl, Bool.false_or, Bool.or_eq_true] using this
theorem waitsFor_spec {ops : Array Oper} {M : Array Bool} {i n : Nat} (h : waitsFor ops M i (n + 1) o = true) : ∃ e ∈ o.after, Region.binds .any e = true ∧ (e.on = i ∨ (M.getD e.on true = false ∧ ∃ oe, ops[e.on]? = some oe ∧ waitsFor ops M i n oe = true)) := by
  unfold waitsFor at h
  obtain ⟨e, he, hb⟩ := Array.any_eq_true'.1 h
  rw [Bool.and_eq_true, Bool.or_eq_true] at hb
  refine ⟨e, he, hb.1, ?_⟩
  rcases hb.2 with h1 | h1
  · exact .inl (by simpa using h1)
  · rw [Bool.and_eq_true] at h1
    refine .inr ⟨by simpa using h1.1, ?_⟩
    have h2 := h1.2
    split at h2
    · exact ⟨_, by assumption, h2⟩
    · cases h2
theorem waitsFor_in {ops : Array Oper} {M R : Array Bool} {i : Nat} (hR : ∀ d od, ops[d]? = some od → M.getD d true = false → R.getD d false = true → ∀ e ∈ od.after, Region.binds .any e = true → R.getD e.on false = true) (hi : R.getD i false = false) :
    ∀ (n d : Nat) (od : Oper), ops[d]? = some od → M.getD d true = false → R.getD d false = true → waitsFor ops M i n od = true → False
  | 0, _, _, _, _, _, h => by simp [waitsFor] at h
  | n + 1, d, od, ho, hM, hRd, h => by
    obtain ⟨e, he, hb, h1⟩ := waitsFor_spec h
    have h2 := hR d od ho hM hRd e he hb
    rcases h1 with h1 | ⟨h1, oe, hoe, hw⟩
    · rw [h1, hi] at h2
      cases h2
    · exact waitsFor_in hR hi n e.on oe hoe h1 h2 hw
theorem waitsFor_sup {ops : Array Oper} {M R l : Array Bool} {i : Nat} (hR : ∀ d od, ops[d]? = some od → M.getD d true = false → R.getD d false = true → ∀ e ∈ od.after, Region.binds .any e = true → R.getD e.on false = true) (hi : R.getD i false = false) (hs : Sup ops R l) (hl : l.getD i false = false) :
    ∀ (n c : Nat) (oc : Oper), ops[c]? = some oc → R.getD c false = false → l.getD c false = true → waitsFor ops M i n oc = true → False
  | 0, _, _, _, _, _, h => by simp [waitsFor] at h
  | n + 1, c, oc, ho, hRc, hlc, h => by
    obtain ⟨e, he, hb, h1⟩ := waitsFor_spec h
    have h2 := hs.2.2 c oc ho hRc hlc e he hb
    rcases h1 with h1 | ⟨h1, oe, hoe, hw⟩
    · rw [h1, hl] at h2
      cases h2
    · cases hx : R.getD e.on false with
      | true => exact waitsFor_in hR hi n e.on oe hoe h1 hx hw
      | false => exact waitsFor_sup hR hi hs hl n e.on oe hoe hx h2 hw
theorem floatDsts_spec {ops : Array Oper} {nt : Nat} (h : floatDsts P ops nt = true) {x : Nat} {o : Oper} (ho : ops[x]? = some o) (hf : isFloat P o = true) {d : Tmp} (hd : o.dst = some d) : d < nt ∧ ∀ y o', ops[y]? = some o' → y ≠ x → o'.dst ≠ some d := by
  unfold floatDsts at h
  rw [Bool.and_eq_true] at h
  replace h := h.2
  rw [List.all_eq_true] at h
  have := h x (List.mem_range.2 (Array.getElem?_eq_some_iff.1 ho).1)
  rw [ho] at this
  simp only [hf, Bool.not_true, Bool.false_or, Bool.and_eq_true, hd] at this
  refine ⟨blt_lt this.1, fun y o' ho' hne hd' => ?_⟩
  have h2 := this.2
  rw [List.all_eq_true] at h2
  have := h2 y (List.mem_range.2 (Array.getElem?_eq_some_iff.1 ho').1)
  rw [ho'] at this
  simp only [hd'] at this
  have hb : Nat.beq y x = false := by
    cases hb : Nat.beq y x with
    | true => exact absurd (beq_nat hb) hne
    | false => rfl
  rw [hb] at this
  simp [eqDst] at this

theorem floatParts_spec {ops : Array Oper} {nt : Nat} (h : floatDsts P ops nt = true) {x : Nat} {o : Oper} (ho : ops[x]? = some o) (hf : isFloat P o = true) {y : Nat} {o' : Oper} (ho' : ops[y]? = some o') {t : Tmp} (hd : o'.dst = some t) (hu : usesTmp o t = true) :
    isFloat P o' = false ∧ ∃ e ∈ o.after, Region.binds .any e = true ∧ e.on = y := by
  unfold floatDsts at h
  rw [Bool.and_eq_true] at h
  replace h := h.1
  unfold floatParts at h
  rw [List.all_eq_true] at h
  have := h x (List.mem_range.2 (Array.getElem?_eq_some_iff.1 ho).1)
  rw [ho] at this
  simp only [hf, Bool.not_true, Bool.false_or] at this
  rw [List.all_eq_true] at this
  have := this y (List.mem_range.2 (Array.getElem?_eq_some_iff.1 ho').1)
  rw [ho'] at this
  simp only [hd, hu, Bool.not_true, Bool.false_or, Bool.and_eq_true] at this
  refine ⟨by simpa using this.1, ?_⟩
  obtain ⟨e, he, hb⟩ := Array.any_eq_true'.1 this.2
  rw [Bool.and_eq_true] at hb
  exact ⟨e, he, hb.1, beq_nat hb.2⟩

/-! ### Any order -/
def unl (R : Array Bool) (n : Nat) : Nat := (List.range n).countP fun i => !R.getD i true
theorem countP_lt {p q : Nat → Bool} {i : Nat} (hpq : ∀ x, q x = true → p x = true) (hp : p i = true) (hq : q i = false) : ∀ {l : List Nat}, i ∈ l → l.countP q < l.countP p
  | [], h => by cases h
  | j :: l, h => by
    have hle : l.countP q ≤ l.countP p := List.countP_mono_left fun x _ hx => hpq x hx
    rcases List.mem_cons.1 h with rfl | h
    · rw [List.countP_cons, List.countP_cons, hp, hq]
      simp
      omega
    · have ih := countP_lt hpq hp hq h
      rw [List.countP_cons, List.countP_cons]
      cases hqj : q j with
      | false => simp; omega
      | true => rw [hpq j hqj]; simp; omega
theorem unl_set {R : Array Bool} {n i : Nat} (hi : i < n) (hR : R.size = n) (hu : R.getD i true = false) : unl (R.setIfInBounds i true) n < unl R n := by
  refine countP_lt (i := i) (fun x hx => ?_) (by simp [hu]) ?_ (List.mem_range.2 hi)
  · by_cases hxi : i = x
    · subst hxi
      simp [hu]
    · rw [getD_set_ne true hxi] at hx
      exact hx
  · have : (R.setIfInBounds i true).getD i true = true := by simp [Array.getD_eq_getD_getElem?, Array.getElem?_setIfInBounds, hR, hi]
    simp [this]
theorem unl_pos {R : Array Bool} {n i : Nat} (hi : i < n) (hu : R.getD i true = false) : 0 < unl R n :=
  List.countP_pos_iff.2 ⟨i, List.mem_range.2 hi, by simp [hu]⟩

structure Early (P : Program) (C : FuncId → Option Any) (N : Nat) (ops : Array Oper) (hd0 hd1 : Nat → Option (Bool × Obj)) (M R : Array Bool) (E : Nat → Option Nat) (a : Act) : Prop where
  szM : M.size = ops.size
  szR : R.size = ops.size
  rel : ∀ i, R.getD i false = (M.getD i false || (E i).isSome)
  early : ∀ x g, E x = some g → M.getD x false = false ∧ ∃ o d obj, ops[x]? = some o ∧ isFloat P o = true ∧ o.dst = some d ∧ (Turns P C N o d ∧ ObjF P o a obj ∧ ∀ e ∈ o.after, Region.binds .any e = true → R.getD e.on false = true) ∧ a.tmps.getD d undef = mkF o g ∧ hd1 g = some (true, obj) ∧ hd0 g = none
  inj : ∀ x y g, E x = some g → E y = some g → x = y
  hd : ∀ g v, hd0 g = some v → hd1 g = some v

section
variable {ops : Array Oper} {hd0 hd1 : Nat → Option (Bool × Obj)} {M R : Array Bool} {E : Nat → Option Nat}
theorem getD_ft {l : Array Bool} {i : Nat} (h : l.getD i true = false) : l.getD i false = false := by
  rcases Nat.lt_or_ge i l.size with h' | h'
  · rw [← getD_tf h']
    exact h
  · simp [Array.getElem?_eq_none h', Array.getD_eq_getD_getElem?]
theorem getD_fs {l : Array Bool} {i : Nat} (h : l.getD i false = false) (hi : i < l.size) : l.getD i true = false := by
  rw [getD_tf hi]
  exact h
theorem set_self {l : Array Bool} {i : Nat} (hi : i < l.size) : (l.setIfInBounds i true).getD i false = true := by
  simp [Array.getD_eq_getD_getElem?, Array.getElem?_setIfInBounds, hi]

/-- What is ready by the machine's count, and was not made ahead, is ready. -/
theorem Early.ready (hE : Early P C N ops hd0 hd1 M R E a) {j : Nat} (hj : j ∈ Region.ready .any ops M) (hn : E j = none) : j ∈ Region.ready .any ops R := by
  obtain ⟨h1, o, ho, hall⟩ := mem_ready.1 hj
  have hlt : j < ops.size := (Array.getElem?_eq_some_iff.1 ho).1
  refine mem_ready.2 ⟨getD_fs ?_ (by rw [hE.szR]; exact hlt), o, ho, fun e he hb => ?_⟩
  · rw [hE.rel, getD_ft h1, hn]
    rfl
  · rw [hE.rel, hall e he hb, Bool.true_or]
theorem Early.unM (hE : Early P C N ops hd0 hd1 M R E a) {j : Nat} (h : R.getD j true = false) (hlt : j < ops.size) : M.getD j true = false ∧ E j = none := by
  have h1 := getD_ft h
  rw [hE.rel] at h1
  simp only [Bool.or_eq_false_iff] at h1
  refine ⟨getD_fs h1.1 (by rw [hE.szM]; exact hlt), ?_⟩
  cases hx : E j with
  | none => rfl
  | some g =>
    rw [hx] at h1
    cases h1.2
/-- One that was not made ahead has come up, for both. -/
theorem Early.next (hE : Early P C N ops hd0 hd1 M R E a) {nt : Nat} (hfd : floatDsts P ops nt = true) {j : Nat} {o : Oper} (ho : ops[j]? = some o) (hn : E j = none) (hjR : R.getD j true = false) {a' : Act} (ha : ∀ t, o.dst ≠ some t → a'.tmps.getD t undef = a.tmps.getD t undef) :
    Early P C N ops hd0 hd1 (M.setIfInBounds j true) (R.setIfInBounds j true) E a' := by
  have hlt : j < ops.size := (Array.getElem?_eq_some_iff.1 ho).1
  refine ⟨by simpa using hE.szM, by simpa using hE.szR, fun i => ?_, fun x g hx => ?_, hE.inj, hE.hd⟩
  · by_cases hij : j = i
    · subst hij
      rw [set_self (by rw [hE.szR]; exact hlt), set_self (by rw [hE.szM]; exact hlt)]
      rfl
    · rw [getD_set_ne false hij, getD_set_ne false hij]
      exact hE.rel i
  · obtain ⟨h1, ox, d, obj, h2, h3, h4, h5, h6, h7, h8⟩ := hE.early x g hx
    have hne : j ≠ x := by
      rintro rfl
      rw [hn] at hx
      cases hx
    refine ⟨by rw [getD_set_ne false hne]; exact h1, ox, d, obj, h2, h3, h4, ⟨h5.1, h5.2.1.same fun t ht => ha t fun hdt => ?_, fun e he hb => getD_set_true (h5.2.2 e he hb)⟩, ?_, h7, h8⟩
    · obtain ⟨_, e, he, hb, hon⟩ := floatParts_spec hfd h2 h3 ho hdt ht
      have := h5.2.2 e he hb
      rw [hon, getD_ft hjR] at this
      cases this
    rw [ha d ((floatDsts_spec hfd h2 h3 h4).2 j o ho hne)]
    exact h6

theorem roLoad_same {st1 : St} (h : st1 = st ∨ ∃ dj b b', st.get dj = .v (.c (.bool b)) ∧ st1 = st.put dj (.v (.c (.bool b')))) (hro : roLoad st o = true) : roLoad st1 o = true := by
  rcases h with rfl | ⟨dj, b, b', hg, rfl⟩
  · exact hro
  · cases hop : o.op with
    | load t x =>
      simp only [roLoad, hop] at hro ⊢
      cases x with
      | const _ => exact hro
      | tmp s =>
        by_cases hs : dj = s
        · subst hs
          simp only [St.ac, St.evc, St.ev, hg] at hro
          cases hro
        · have : (st.put dj (.v (.c (.bool b')))).ac (.tmp s) = st.ac (.tmp s) := by
            simp only [St.ac, St.evc, St.ev, St.get, St.put, look_cons, if_neg hs]
          rw [this]
          exact hro
      | _ => exact hro
    | convert _ _ _ => simp [roLoad, hop] at hro
    | _ => simp [roLoad, hop]
theorem skips_spec (h : Inv w0 G st a w) (hs : skips ops.toList st o = true) : Region.wanted o (yielded ops a.tmps) = false := by
  unfold skips at hs
  split at hs
  · cases hs
  · rename_i j want hg
    split at hs
    · rename_i oj hoj
      split at hs
      · rename_i dj hdj
        have hy := yielded_of (tmps := a.tmps) hoj hdj
        have hev := h.ev (.tmp dj)
        rw [show st.ev (.tmp dj) = st.get dj from rfl] at hev
        split at hs
        · rename_i hb
          rw [hb] at hev
          rw [show a.tmps.getD dj undef = .bool true from hev] at hy
          simp [Region.wanted, hg, hy]
        · rename_i hb
          rw [hb] at hev
          rw [show a.tmps.getD dj undef = .bool false from hev] at hy
          simp [Region.wanted, hg, hy]
        · rename_i hb
          rw [hb] at hev
          obtain ⟨vs, hv, hvs⟩ := hev
          have hv : a.tmps.getD dj undef = .tuple vs := hv
          rw [hv] at hy
          simp [Region.wanted, hg, hy]
        · cases hs
      · cases hs
    · cases hs
theorem draw_sim (hC : ∀ f con, C f = some con → AnyAt P w0 f con) {Q : Exit → Act → World → Prop} (hQ : ∀ c a a' w, Q (.panic c) a w → Q (.panic c) a' w) (hs : Region.noSelect ops = true) {nt : Nat} (hfd : floatDsts P ops nt = true) {k : St → Option α} (hK : Goes w0 k r (Q .normal)) :
    ∀ (s m n : Nat), m + n = s → ∀ {M R : Array Bool} {E : Nat → Option Nat} {hd1 : Nat → Option (Bool × Obj)} {G : Gh} {st : St} {a : Act} {w : World}, unl R ops.size ≤ n → a.tmps.size = nt → Early P C N ops w0.hd hd1 M R E a →
      Inv { w0 with hd := hd1 } G (dropFl P ops M (List.range ops.size) st) a w → drawRun P C (Par.std N) ops m M st k = some r → wpAnyI P ops Q (SI P C ops G w R) n R a w := by
  intro s
  induction s using Nat.strongRecOn with
  | ind s ih =>
  intro m n hmn M R E hd1 G st a w hcnt hnt hE hI hr
  have hlt : ∀ {i : Nat} {o : Oper}, ops[i]? = some o → i < ops.size := fun h => (Array.getElem?_eq_some_iff.1 h).1
  -- nothing is left
  have doneA : Region.ready .any ops M = [] → ck (allListed P ops M (List.range ops.size)) (k st) = some r → wpAnyI P ops Q (SI P C ops G w R) n R a w := by
    intro hrd hr
    obtain ⟨hall, hr⟩ := ck_some hr
    have hal := fun i hi => allListed_spec hall i (List.mem_range.2 hi)
    have hEn : ∀ x, E x = none := by
      intro x
      cases hx : E x with
      | none => rfl
      | some g =>
        obtain ⟨h1, o, d, obj, h2, h3, _⟩ := hE.early x g hx
        have := hal x (hlt h2) o h2 h3
        rw [getD_fs h1 (by rw [hE.szM]; exact hlt h2)] at this
        cases this
    rw [dropFl_same (fun i hi o ho hf => hal i (List.mem_range.1 hi) o ho hf)] at hI
    have hI0 : Inv w0 G st a w := ⟨hI.nw, hI.rok, hI.below, hI.defers, hI.size, hI.sp, fun g b o hm => hI.hd g b o (hE.hd g _ hm), hI.tm, hI.bx, hI.bl, hI.own⟩
    refine wpAnyI_done (List.eq_nil_iff_forall_not_mem.2 fun i hi => ?_) (hK _ _ _ _ hI0 hr) n
    obtain ⟨h1, o, ho, hdeps⟩ := mem_ready.1 hi
    have : i ∈ Region.ready .any ops M := by
      refine mem_ready.2 ⟨(hE.unM h1 (hlt ho)).1, o, ho, fun e he hb => ?_⟩
      have := hdeps e he hb
      rw [hE.rel, hEn] at this
      simpa using this
    rw [hrd] at this
    cases this
  cases m with
  | zero =>
    simp only [drawRun] at hr
    split at hr
    · rename_i hrd
      exact doneA hrd hr
    · cases hr
  | succ m =>
    have hr0 := hr
    simp only [drawRun] at hr
    split at hr
    · rename_i hrd
      exact doneA hrd hr
    · rename_i i0 rest hrd
      have hCF := fun f con h => hI.anyAt (hC f con h : AnyAt P { w0 with hd := hd1 } f con)
      split at hr
      · -- a calm one
        rename_i j o hp
        obtain ⟨h1, ho, hcalm, hfree, hmem⟩ := pickCalm_spec hp
        rw [← hrd] at h1
        have hEj : E j = none := by
          cases hx : E j with
          | none => rfl
          | some g =>
            obtain ⟨_, o', d, obj, h2, h3, _⟩ := hE.early j g hx
            rw [ho] at h2
            cases h2
            rw [calm_not_float hcalm] at h3
            cases h3
        have hjR := hE.ready h1 hEj
        have hun := (mem_ready.1 hjR).1
        have hlow : isLow P C o = true := by unfold isLow; rw [hcalm]; rfl
        cases n with
        | zero => exact absurd (unl_pos (hlt ho) hun) (by omega)
        | succ n =>
          have hcnt' := unl_set (hlt ho) hE.szR hun
          have fin : ∀ {v : Value} {G2 : Gh} {st2 : St}, Inv hI.root G2 st2 (a.put o.dst v) w → drawRun P C (Par.std N) ops m (M.setIfInBounds j true) st2 k = some r → (∃ S0 : World → Prop, YieldsIf P ops S0 o v a ∧ ∀ l' w', Sup ops R l' → l'.getD j true = false → SI P C ops G w R l' w' → S0 w') →
              wpAnyI P ops Q (SI P C ops G w R) (n + 1) R a w := by
            intro v G2 st2 hi2 hr2 ⟨S0, hy, hS0⟩
            obtain ⟨hb1, hb2, hb3⟩ := hI.backRoot hi2
            have hih := ih (m + n) (by omega) m n rfl (M := M.setIfInBounds j true) (R := R.setIfInBounds j true) (by omega) (by rw [← hnt]; cases o.dst <;> simp [Act.put])
              (hE.next hfd ho hEj hun (a' := a.put o.dst v) fun t ht => by
                cases hd : o.dst with
                | none => simp [Act.put]
                | some d => exact act_put_ne (fun e => ht (by rw [hd, e])) v) (dropFl_inv _ hb1) hr2
            refine wpAnyI_first ho (Region.noSelect_spec hs) (fun c a w hq => hQ c _ _ w hq) (fun l w' => SI.set ho hlow l w') n R a w ?_ hjR hy hS0 (SI.refl R R) (wpAnyI_mono n (fun l' w' hs' hS' => ?_) hih)
            · intro j' oj' hj' hne hu hnot
              exact Region.free_spec ho hfree j' oj' hj' hne ((hE.unM hu (hlt hj')).1) hnot
            · exact SI.step hE.szR ((SI.set ho hlow R w).2 (SI.refl R R)) (fun g hg ho => (hb3 g hg ho).1) (Sup.set hjR) hs' hS'
          rcases stepRun_cases hI.from hr with ⟨hw, st1, hst1, hi, hr1⟩ | ⟨hw, G1, st1, hi, hr1⟩
          · rcases hmem with (hro | hskip) | hmut
            · have hro1 : roLoad st1 o = true := roLoad_same hst1 hro
              obtain ⟨v, G2, st2, he, hi2, hr2⟩ := opRun_calmRO hcalm hro1 hi hr1
              exact fin hi2 hr2 ⟨_, .inl ⟨hw, he⟩, fun l' w' _ _ hS' => hS'.2.1⟩
            · rw [skips_spec hI hskip] at hw
              cases hw
            · obtain ⟨v, G2, st2, he, hi2, hr2⟩ := opRun_calm hcalm hi hr1
              refine fin hi2 hr2 ⟨fun w' => Below w.heap.size w w', .inl ⟨hw, fun w' hB => he w' (memOk_of_below hB)⟩, fun l' w' hsup hun' hS' => hS'.2.2 fun c oc hc hlc => ?_⟩
              have l's : l'.size = ops.size := hsup.1.symm.trans hE.szR
              rw [getD_tf (by rw [l's]; exact hlt hc), getD_tf (by rw [hE.szR]; exact hlt hc)]
              rcases mutAfter_spec hmut hc hlc with hlist | hwf
              · have hR : R.getD c false = true := by
                  rw [hE.rel, ← getD_tf (by rw [hE.szM]; exact hlt hc), hlist, Bool.true_or]
                rw [hR, hsup.2.1 c hR]
              · cases hx : R.getD c false with
                | true => rw [hsup.2.1 c hx]
                | false =>
                  cases hy : l'.getD c false with
                  | false => rfl
                  | true =>
                    refine (waitsFor_sup (R := R) (i := j) (fun d od hd hMd hRd e he hb => ?_) (getD_ft hun) hsup (getD_ft hun') 3 c oc hc hx hy hwf).elim
                    rw [hE.rel, getD_ft hMd, Bool.false_or] at hRd
                    obtain ⟨g, hg⟩ := Option.isSome_iff_exists.1 hRd
                    obtain ⟨_, od', _, _, hod', _, _, h5, _⟩ := hE.early d g hg
                    rw [hd] at hod'
                    cases hod'
                    exact h5.2.2 e he hb
          · exact fin hi hr1 ⟨fun _ => True, .inr ⟨hw, rfl⟩, fun _ _ _ _ _ => trivial⟩
      · rename_i hpn
        split at hr
        · -- the one that must come next
          rename_i x o hx
          obtain ⟨h1, ho, hall, hkn⟩ := pickNext_spec hx
          rw [← hrd] at h1
          cases hEx : E x with
          | some g =>
            -- its block stands already
            obtain ⟨h2, o', d, obj, ho', hfl, hdst, ⟨hturn, hobj, _⟩, htm, hh1, hh0⟩ := hE.early x g hEx
            rw [ho] at ho'
            cases ho'
            obtain ⟨_, _, hguard, _, _⟩ := float_spec (C := C) (N := N) hfl
            have hr1 : opRun P C (Par.std N) o (dropFl P ops M (List.range ops.size) st) (fun st => drawRun P C (Par.std N) ops m (M.setIfInBounds x true) st k) = some r := by
              unfold stepRun at hr
              rw [hguard] at hr
              exact hr
            obtain ⟨hg1, hg2, hg3⟩ := hI.hd g true obj hh1
            have hI2 : Inv { w0 with hd := fun g' => if g' = g then none else hd1 g' } G (dropFl P ops M (List.range ops.size) st) a w :=
              ⟨hI.nw, hI.rok, hI.below, hI.defers, hI.size, hI.sp, fun g' b o' hm => hI.hd g' b o' (by
                dsimp only at hm
                split at hm
                · cases hm
                · exact hm), hI.tm, hI.bx, hI.bl, hI.own⟩
            obtain ⟨G1, st1, hi1, hr2, hun1⟩ := hturn hI2 hg1 (by simp) hg3 hobj htm hr1
            have hE' : Early P C N ops w0.hd (fun g' => if g' = g then none else hd1 g') (M.setIfInBounds x true) R (fun y => if y = x then none else E y) a := by
              refine ⟨by simpa using hE.szM, hE.szR, fun i => ?_, fun y g' hy => ?_, fun y z g' hy hz => ?_, fun g' v hv => ?_⟩
              · by_cases hix : i = x
                · subst hix
                  rw [set_self (by rw [hE.szM]; exact hlt ho), hE.rel, hEx]
                  simp
                · rw [getD_set_ne false (Ne.symm hix), hE.rel, if_neg hix]
              · by_cases hyx : y = x
                · rw [if_pos hyx] at hy
                  cases hy
                · rw [if_neg hyx] at hy
                  obtain ⟨q1, oy, dy, objy, q2, q3, q4, q5, q6, q7, q8⟩ := hE.early y g' hy
                  refine ⟨by rw [getD_set_ne false (Ne.symm hyx)]; exact q1, oy, dy, objy, q2, q3, q4, q5, q6, ?_, q8⟩
                  have : g' ≠ g := by
                    rintro rfl
                    exact hyx (hE.inj y x g' hy hEx)
                  rw [if_neg this]
                  exact q7
              · split at hy
                · cases hy
                · split at hz
                  · cases hz
                  · exact hE.inj y z g' hy hz
              · have : g' ≠ g := by
                  rintro rfl
                  rw [hh0] at hv
                  cases hv
                rw [if_neg this]
                exact hE.hd g' v hv
            have hih := ih (m + n) (by omega) m n rfl (M := M.setIfInBounds x true) (R := R) hcnt hnt hE' (dropFl_inv _ hi1) hr2
            exact wpAnyI_mono n (fun l' w' _ hS' => ⟨hS'.1, fun g' hg' ho' => hS'.2.1 g' hg' (hun1 g' ho'), hS'.2.2⟩) hih
          | none =>
            have hxR := hE.ready h1 hEx
            have hun := (mem_ready.1 hxR).1
            cases n with
            | zero => exact absurd (unl_pos (hlt ho) hun) (by omega)
            | succ n =>
              have hsetS : ∀ {w' : World}, w.heap.size ≤ w'.heap.size → (∀ g, g < w.heap.size → G.own g = none → w'.heap[g]? = w.heap[g]?) → ∀ {i : Nat} {oi : Oper}, ops[i]? = some oi → i ∈ Region.ready .any ops R → (isLow P C oi = true → Below w.heap.size w w') → SI P C ops G w R (R.setIfInBounds i true) w' := by
                intro w' h1 h2 i oi hoi hi h3
                refine ⟨h1, h2, fun hm => ?_⟩
                cases hl : isLow P C oi with
                | true => exact h3 hl
                | false =>
                  have := hm i oi hoi hl
                  rw [getD_tf (by simp [hE.szR, hlt hoi]), set_self (by rw [hE.szR]; exact hlt hoi), (mem_ready.1 hi).1] at this
                  cases this
              refine ⟨fun h0 => by (rw [h0] at hxR; cases hxR), fun i hi => ?_⟩
              obtain ⟨hiun, oi, hoi, hdeps⟩ := mem_ready.1 hi
              have hcnt' := unl_set (hlt hoi) hE.szR hiun
              by_cases hix : i = x
              · subst hix
                rw [ho] at hoi
                cases hoi
                unfold Go.wpOp
                simp only [ho]
                rcases stepRun_cases hI.from hr with ⟨hw, st1, _, hi1, hr1⟩ | ⟨hw, G1, st1, hi1, hr1⟩
                · rw [hw]
                  simp only [if_true]
                  refine .inl (Oper.wp_mono (fun a' w' h' => ?_) (step_sound hCF hi1 hr1))
                  obtain ⟨⟨⟨G2, st2, hi2, hr2⟩, hbel⟩, hsz, htm⟩ := h'
                  obtain ⟨hb1, hb2, hb3⟩ := hI.backRoot hi2
                  have hS1 := hsetS hb2 (fun g hg ho => (hb3 g hg ho).2) ho hi hbel
                  have hih := ih (m + n) (by omega) m n rfl (M := M.setIfInBounds i true) (R := R.setIfInBounds i true) (by omega) (hsz.trans hnt) (hE.next hfd ho hEx hun htm) (dropFl_inv _ hb1) hr2
                  exact ⟨hS1, wpAnyI_mono n (fun l' w'' hs' hS' => SI.step hE.szR hS1 (fun g hg ho => (hb3 g hg ho).1) (Sup.set hi) hs' hS') hih⟩
                · rw [hw]
                  simp only [Bool.false_eq_true, if_false]
                  obtain ⟨hb1, hb2, hb3⟩ := hI.backRoot hi1
                  have hS1 := hsetS (Nat.le_refl _) (fun g hg ho => rfl) ho hi (fun _ => Below.refl _ w)
                  have hih := ih (m + n) (by omega) m n rfl (M := M.setIfInBounds i true) (R := R.setIfInBounds i true) (by omega) (by rw [← hnt]; cases o.dst <;> simp [Act.put])
                    (hE.next hfd ho hEx hun (a' := a.put o.dst undef) fun t ht => by
                      cases hd : o.dst with
                      | none => simp [Act.put]
                      | some d => exact act_put_ne (fun e => ht (by rw [hd, e])) undef) (dropFl_inv _ hb1) hr1
                  exact ⟨hS1, wpAnyI_mono n (fun l' w'' hs' hS' => SI.step hE.szR hS1 (fun g hg ho => (hb3 g hg ho).1) (Sup.set hi) hs' hS') hih⟩
              · -- a block ahead of its turn
                obtain ⟨hiM, hEi⟩ := hE.unM hiun (hlt hoi)
                have hfl : isFloat P oi = true := by
                  cases hfl : isFloat P oi with
                  | true => rfl
                  | false =>
                    refine absurd (allB_spec hall i (mem_ready.2 ⟨?_, oi, hoi, fun e he hb => ?_⟩)) hix
                    · rw [markAll_other hoi (.inl hfl)]
                      exact hiM
                    · have := hdeps e he hb
                      rw [hE.rel, Bool.or_eq_true] at this
                      rcases this with hM | hEe
                      · exact markAll_mono _ hM
                      · obtain ⟨g, hg⟩ := Option.isSome_iff_exists.1 hEe
                        obtain ⟨_, oe, _, _, hoe, hfe, _⟩ := hE.early e.on g hg
                        refine markAll_float hoe hfe (fun e' => ?_) _ (by rw [hE.szM]; exact hlt hoe) (List.mem_range.2 (hlt hoe))
                        rw [e', hEx] at hg
                        cases hg
                obtain ⟨d, hd, hguard, hexec, hturn⟩ := float_spec (C := C) (N := N) hfl
                have hpk : partsKn P (dropFl P ops M (List.range ops.size) st) oi = true := by
                  rcases fltKn_spec hkn i (List.mem_range.2 (hlt hoi)) oi hoi hfl hiM with hw | hk
                  · exfalso
                    obtain ⟨e, he, hb, oe, hoe, hfe, hMe⟩ := waits_spec hw
                    have := hdeps e he hb
                    rw [hE.rel, getD_ft hMe, Bool.false_or] at this
                    obtain ⟨g, hg⟩ := Option.isSome_iff_exists.1 this
                    obtain ⟨_, oe', _, _, hoe', hfe', _⟩ := hE.early e.on g hg
                    rw [hoe] at hoe'
                    cases hoe'
                    rw [hfe] at hfe'
                    cases hfe'
                  · exact hk
                obtain ⟨obj, hexec, hobj⟩ := hexec hI hpk
                have hself : ∀ (y : Nat) (oy : Oper), ops[y]? = some oy → isFloat P oy = true → (∀ e ∈ oy.after, Region.binds .any e = true → R.getD e.on false = true) → usesTmp oy d = true → False := by
                  intro y oy hoy hfy hdy hu
                  obtain ⟨_, e, he, hb, hon⟩ := floatParts_spec hfd hoy hfy hoi hd hu
                  have := hdy e he hb
                  rw [hon, getD_ft hiun] at this
                  cases this
                obtain ⟨hdlt, hdne⟩ := floatDsts_spec hfd hoi hfl hd
                have hlow : isLow P C oi = true := by unfold isLow; rw [hfl]; simp
                unfold Go.wpOp
                simp only [hoi]
                rw [show Region.wanted oi (yielded ops a.tmps) = true by simp [Region.wanted, hguard]]
                simp only [if_true]
                refine .inl (wp_val hexec ?_)
                have hB : Below w.heap.size w (w.alloc obj) := ⟨rfl, rfl, rfl, by simp, fun k hk => Below.heap_alloc _ _ _ hk⟩
                have hS1 := hsetS hB.size (fun g hg _ => hB.block g hg) hoi hi (fun _ => hB)
                have hI2 := (hI.hide obj).junk (dropFl_none hoi hfl hiM hd _ st (List.mem_range.2 (hlt hoi))) (mkF oi w.heap.size)
                have hsz : (a.put oi.dst (mkF oi w.heap.size)).tmps.size = nt := by rw [hd, ← hnt]; simp [Act.put]
                have hput : (a.put oi.dst (mkF oi w.heap.size)).tmps.getD d undef = mkF oi w.heap.size := by
                  rw [hd]
                  simp [Act.put, Array.getD_eq_getD_getElem?, hnt, hdlt]
                have hE' : Early P C N ops w0.hd (fun g => if g = w.heap.size then some (true, obj) else hd1 g) M (R.setIfInBounds i true) (fun y => if y = i then some w.heap.size else E y) (a.put oi.dst (mkF oi w.heap.size)) := by
                  refine ⟨hE.szM, by simpa using hE.szR, fun y => ?_, fun y g hy => ?_, fun y z g hy hz => ?_, fun g v hv => ?_⟩
                  · by_cases hyi : y = i
                    · subst hyi
                      rw [set_self (by rw [hE.szR]; exact hlt hoi), if_pos rfl]
                      simp
                    · rw [getD_set_ne false (Ne.symm hyi), hE.rel, if_neg hyi]
                  · by_cases hyi : y = i
                    · rw [if_pos hyi] at hy
                      cases hy
                      subst hyi
                      refine ⟨getD_ft hiM, oi, d, obj, hoi, hfl, hd, ⟨hturn, hobj.same fun t ht => ?_, fun e he hb => getD_set_true (hdeps e he hb)⟩, hput, by simp, ?_⟩
                      · rw [hd]
                        exact act_put_ne (fun e => hself y oi hoi hfl hdeps (by rw [← e]; exact ht)) _
                      cases hz : w0.hd w.heap.size with
                      | none => rfl
                      | some v =>
                        obtain ⟨b, ob⟩ := v
                        have := (hI.hd _ _ _ (hE.hd _ _ hz)).2.1
                        omega
                    · rw [if_neg hyi] at hy
                      obtain ⟨q1, oy, dy, objy, q2, q3, q4, q5, q6, q7, q8⟩ := hE.early y g hy
                      refine ⟨q1, oy, dy, objy, q2, q3, q4, ⟨q5.1, q5.2.1.same fun t ht => ?_, fun e he hb => getD_set_true (q5.2.2 e he hb)⟩, ?_, ?_, q8⟩
                      · rw [hd]
                        exact act_put_ne (fun e => hself y oy q2 q3 q5.2.2 (by rw [← e]; exact ht)) _
                      · have hne : dy ≠ d := fun e => hdne y oy q2 hyi (by rw [q4, e])
                        rw [hd, act_put_ne hne]
                        exact q6
                      · have : g ≠ w.heap.size := Nat.ne_of_lt (hI.hd _ _ _ q7).2.1
                        rw [if_neg this]
                        exact q7
                  · by_cases hyi : y = i
                    · rw [if_pos hyi] at hy
                      cases hy
                      by_cases hzi : z = i
                      · rw [hyi, hzi]
                      · rw [if_neg hzi] at hz
                        obtain ⟨_, _, _, _, _, _, _, _, _, q7, _⟩ := hE.early z _ hz
                        exact absurd (hI.hd _ _ _ q7).2.1 (Nat.lt_irrefl _)
                    · rw [if_neg hyi] at hy
                      by_cases hzi : z = i
                      · rw [if_pos hzi] at hz
                        cases hz
                        obtain ⟨_, _, _, _, _, _, _, _, _, q7, _⟩ := hE.early y _ hy
                        exact absurd (hI.hd _ _ _ q7).2.1 (Nat.lt_irrefl _)
                      · rw [if_neg hzi] at hz
                        exact hE.inj y z g hy hz
                  · obtain ⟨b, ob⟩ := v
                    have hv1 := hE.hd g _ hv
                    have : g ≠ w.heap.size := Nat.ne_of_lt (hI.hd _ _ _ hv1).2.1
                    rw [if_neg this]
                    exact hv1
                have hih := ih (m + 1 + n) (by omega) (m + 1) n rfl (M := M) (R := R.setIfInBounds i true) (by omega) hsz hE' (by rw [hd] at *; exact hI2) hr0
                refine ⟨hS1, wpAnyI_mono n (fun l' w'' hs' hS' => SI.step hE.szR hS1 (fun g hg ho => ?_) (Sup.set hi) hs' hS') hih⟩
                show (if g = w.heap.size then some Key.hid else G.own g) = none
                rw [if_neg (Nat.ne_of_lt hg)]
                exact ho
        · cases hr

theorem drawRun_sound (hC : ∀ f con, C f = some con → AnyAt P w0 f con) {Q : Exit → Act → World → Prop} (hQ : ∀ c a a' w, Q (.panic c) a w → Q (.panic c) a' w) (hs : Region.noSelect ops = true) (hfd : floatDsts P ops st.nt = true) {k : St → Option α} (hK : Goes w0 k r (Q .normal))
    (h : Inv w0 G st a w) (hr : drawRun P C (Par.std N) ops ops.size (Array.replicate ops.size false) st k = some r) : wpAny P .any ops Q ops.size (Array.replicate ops.size false) a w := by
  refine wpAny_of_I _ _ _ _ (draw_sim (hd1 := w0.hd) (E := fun _ => none) hC hQ hs hfd hK _ _ _ rfl ?_ h.size ⟨by simp, by simp, fun i => (by simp), fun x g hx => (by cases hx), fun x y g hx => (by cases hx), fun _ _ h => h⟩ (dropFl_inv _ h) hr)
  refine Nat.le_trans List.countP_le_length ?_
  simp
end
end
end Go.Am
