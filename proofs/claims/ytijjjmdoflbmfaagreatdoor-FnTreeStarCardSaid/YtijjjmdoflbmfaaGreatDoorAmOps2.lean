/- Each operation of the abstract machine is Go's own, part two. No condition. -/
import Derived.Test.YtijjjmdoflbmfaaGreatDoorAmOps
set_option linter.unusedVariables false
set_option linter.unusedSimpArgs false
namespace Go.Am
open Go.RowKit
section
variable {N : Nat} {P : Program} {w0 : Root} {w : World} {G : Gh} {st : St} {a : Act} {α : Type} {k : St → Option α} {r : α} {K : Act → World → Prop} {Q : Exit → Act → World → Prop} {o : Oper}

/-! ### Small ones -/
theorem calm_nilCheck (h : Inv w0 G st a w) (x : Operand) (ho : o.op = .nilCheck x) {b off : Nat} (hx : st.ac x = .ptr b off) (hr : st.pk o.dst (.v (.c (.ptr b off))) k = some r) : Calmly P w0 w a o k r := by
  have hp := h.ac x
  rw [hx] at hp
  have hp2 := hp.2
  refine calm_of (u := a.eval x) h (v := .v (.c (.ptr b off))) hp hr fun w1 hB => ?_
  unfold execOp
  rw [ho]
  simp [hp2]

theorem calm_makeFunc (h : Inv w0 G st a w) (g : FuncId) (first caps : Array Operand) (ho : o.op = .makeFunc (.func g) first caps) (h1 : first.toList = []) {x : Operand} (h2 : caps.toList = [x]) {b : Nat} (hx : st.ac x = .ptr b 0)
    (hr : st.pk o.dst (.v (.c (.fnp g b))) k = some r) : Calmly P w0 w a o k r := by
  have hp := h.ac x
  rw [hx] at hp
  have hp2 : a.eval x = .pointer (some ⟨G.hb b, 0, none⟩) := hp.2
  have e1 : first = #[] := by rw [← Array.toArray_toList (xs := first), h1]
  have e2 : caps = #[x] := by rw [← Array.toArray_toList (xs := caps), h2]
  refine calm_of (u := .func (.func g) #[] #[.pointer (some ⟨G.hb b, 0, none⟩)]) h (v := .v (.c (.fnp g b))) ⟨hp.1, rfl⟩ hr fun w1 hB => ?_
  unfold execOp
  rw [ho, e1, e2]
  simp [Instr.makeFunc, hp2]

theorem calm_extract (h : Inv w0 G st a w) (x : Operand) (i : Nat) (ho : o.op = .extract x i) {l : List CV} (hx : st.ev x = .tup l) {v : CV} (hv : nth? l i = some v) (hr : st.pk o.dst (.v v) k = some r) : Calmly P w0 w a o k r := by
  have hp := h.ev x
  rw [hx] at hp
  obtain ⟨vs, he, hrel⟩ := hp
  obtain ⟨y, hy, hry⟩ := hrel.nth hv
  refine calm_of (u := y) h (v := .v v) hry hr fun w1 hB => ?_
  unfold execOp
  rw [ho]
  dsimp only
  rw [he]
  have : vs[i]? = some y := by simpa using hy
  simp [Instr.extract, this]

theorem offOf_some {t : TypeId} {f q : Nat} (h : offOf P t f = some q) : ∃ fs x i, P.underlying t = some (.struct fs) ∧ fs[f]? = some x ∧ P.info? x.type = some i ∧ i.size ≠ 0 ∧ x.offset = q := by
  unfold offOf at h
  split at h
  · rename_i fs hu
    split at h
    · rename_i x hx
      split at h
      · cases h
      · rename_i n hn
        cases h
        have hn0 : P.cellsOf x.type ≠ 0 := hn
        unfold Program.cellsOf at hn0
        cases hi : P.info? x.type with
        | none => rw [hi] at hn0; simp at hn0
        | some i => exact ⟨fs, x, i, hu, hx, hi, by rw [hi] at hn0; simpa using hn0, rfl⟩
    · cases h
  · cases h

theorem add_at (g o n : Nat) : (⟨g, o, none⟩ : Addr).add n = ⟨g, o + n, none⟩ := Addr.add_lit g o n

theorem run_fieldAt {t : TypeId} {f q : Nat} (h : offOf P t f = some q) (g o : Nat) : (Instr.fieldAt t (.pointer (some ⟨g, o, none⟩)) f).run P w = .ok (.pointer (some ⟨g, o + q, none⟩)) w := by
  obtain ⟨fs, x, i, hu, hx, hi, hs, rfl⟩ := offOf_some h
  simp [Instr.fieldAt, run_underlying hu, hx, Instr.sureAddr, fieldPlace, sizeOf, typeInfo, hi, hs, add_at]

/-- A pointer some cells further on. -/
def ShiftTo (bl : List (Nat × Option Blk)) (q : Nat) : AC → AC → Prop
  | .ptr b off, c => c = .ptr b (off + q)
  | .eown id i off, c => c = .eown id i (off + q) ∧ ∃ b, look bl id = some (some b)
  | .ero f t x off, c => c = .ero f t x (off + q)
  | _, _ => False
theorem RelC.shift {bx : List (Nat × List AC)} {bl : List (Nat × Option Blk)} {c c' : AC} {v : Value} (q : Nat) (h : RelC G w bx bl c v)
    (hc : ShiftTo bl q c c') :
    ∃ g o, v = .pointer (some ⟨g, o, none⟩) ∧ RelC G w bx bl c' (.pointer (some ⟨g, o + q, none⟩)) := by
  cases c with
  | ptr b off =>
    have hc : c' = _ := hc
    subst hc
    obtain ⟨h1, rfl⟩ := h
    exact ⟨_, _, rfl, h1, rfl⟩
  | eown id i off =>
    obtain ⟨rfl, b, hb⟩ := hc
    obtain ⟨h1, h2, h3, g, o, n, cap, hv, hi, hp⟩ := h
    have := hp b hb
    subst this
    refine ⟨_, _, rfl, h1, rfl, h3, g, o, n, cap, hv, hi, fun b' hb' => ?_⟩
    rw [hb] at hb'
    cases hb'
    congr 3
    omega
  | ero f t x off =>
    have hc : c' = _ := hc
    subst hc
    obtain ⟨b, o, c, rfl, h1, h2, h3, h4⟩ := h
    exact ⟨_, _, rfl, b, o, c, by congr 3; omega, h1, h2, h3, h4⟩
  | _ => exact hc.elim

theorem calm_fieldAddr (h : Inv w0 G st a w) (t : TypeId) (x : Operand) (f : Nat) (ho : o.op = .fieldAddr t x f) {q : Nat} (hq : offOf P t f = some q) {c c' : AC} (hc : st.ac x = c)
    (hcc : ShiftTo st.bl q c c')
    (hr : st.pk o.dst (.v (.c c')) k = some r) : Calmly P w0 w a o k r := by
  have hp := h.ac x
  rw [hc] at hp
  obtain ⟨g, q', hv, hrel⟩ := hp.shift q hcc
  refine calm_of (u := .pointer (some ⟨g, q' + q, none⟩)) h (v := .v (.c c')) hrel hr fun w1 hB => ?_
  unfold execOp
  rw [ho]
  simp only [hv, run_fieldAt hq, Sem.run_bind, Result.andThen_ok]
  rfl

/-! ### Operators -/
theorem calm_not (h : Inv w0 G st a w) (t : TypeId) (x : Operand) (ho : o.op = .unOp .not t x) {b : Bool} (hx : st.ac x = .bool b) (hr : st.pk o.dst (.v (.c (.bool (!b)))) k = some r) : Calmly P w0 w a o k r := by
  have hb := bool_of (h.ac x) hx
  refine calm_of (u := .bool (!b)) h (v := .v (.c (.bool (!b)))) rfl hr fun w1 hB => ?_
  unfold execOp
  rw [ho]
  dsimp only
  rw [hb]
  rfl
theorem calm_neg (h : Inv w0 G st a w) (t : TypeId) (x : Operand) (ho : o.op = .unOp .neg t x) {kd : IntKind} {n : Int} (hx : st.ac x = .int kd n) (hr : st.pk o.dst (.v (.c (.int kd (kd.wrap (0 - n))))) k = some r) : Calmly P w0 w a o k r := by
  have hb : a.eval x = .int kd n := by have := h.ac x; rw [hx] at this; exact this
  refine calm_of (u := .int kd (kd.wrap (0 - n))) h (v := .v (.c (.int kd (kd.wrap (0 - n))))) rfl hr fun w1 hB => ?_
  unfold execOp
  rw [ho]
  dsimp only
  rw [hb]
  rfl

theorem eqGuard_plain (op : BinOp) (t : TypeId) (x y : Operand) (u v : Value) (hu : u.oneCell' = true) (hn : u ≠ .nilIface) : eqGuard op t x y u v = pure () := by
  cases u <;> first | (simp [Value.oneCell'] at hu; done) | exact absurd rfl hn | (cases op <;> rfl)

theorem intOp_run {op : BinOp} {kd : IntKind} {p q : Int} {kk : AC → Option α} (hr : intOp op kd p q kk = some r) (t : TypeId) :
    ∃ c v, kk c = some r ∧ (∀ w, (binOp op t (.int kd p) (.int kd q)).run P w = .ok v w) ∧ ∀ G bx bl, RelC G w bx bl c v := by
  cases op with
  | add => exact ⟨_, _, hr, fun w => by rw [binOp_add]; rfl, fun _ _ _ => rfl⟩
  | sub => exact ⟨_, _, hr, fun w => by rw [binOp_sub]; rfl, fun _ _ _ => rfl⟩
  | mul => exact ⟨_, _, hr, fun w => by rw [binOp_mul]; rfl, fun _ _ _ => rfl⟩
  | quo =>
    obtain ⟨hc, hr⟩ := ck_some hr
    have hq : q ≠ 0 := by rintro rfl; simp at hc
    exact ⟨_, _, hr, fun w => by rw [binOp_quo]; simp [Op.intDiv, hq], fun _ _ _ => rfl⟩
  | rem =>
    obtain ⟨hc, hr⟩ := ck_some hr
    have hq : q ≠ 0 := by rintro rfl; simp at hc
    exact ⟨_, _, hr, fun w => by rw [binOp_rem]; simp [Op.intDiv, hq], fun _ _ _ => rfl⟩
  | and => exact ⟨_, _, hr, fun w => by rw [binOp_and]; rfl, fun _ _ _ => rfl⟩
  | or => exact ⟨_, _, hr, fun w => by rw [binOp_or]; rfl, fun _ _ _ => rfl⟩
  | xor => exact ⟨_, _, hr, fun w => by rw [binOp_xor]; rfl, fun _ _ _ => rfl⟩
  | eql => exact ⟨_, _, hr, fun w => by rw [binOp_eql]; rfl, fun _ _ _ => rfl⟩
  | neq => exact ⟨_, _, hr, fun w => by rw [binOp_neq]; rfl, fun _ _ _ => rfl⟩
  | lss => exact ⟨_, _, hr, fun w => by rw [binOp_lss]; rfl, fun _ _ _ => rfl⟩
  | leq => exact ⟨_, _, hr, fun w => by rw [binOp_leq]; rfl, fun _ _ _ => rfl⟩
  | gtr => exact ⟨_, _, hr, fun w => by rw [binOp_gtr]; rfl, fun _ _ _ => rfl⟩
  | geq => exact ⟨_, _, hr, fun w => by rw [binOp_geq]; rfl, fun _ _ _ => rfl⟩
  | _ => cases hr

theorem shiftOp_run {op : BinOp} {kd ke : IntKind} {p q : Int} {kk : AC → Option α} (hr : shiftOp op kd p q kk = some r) (t : TypeId) :
    ∃ c v, kk c = some r ∧ (∀ w, (binOp op t (.int kd p) (.int ke q)).run P w = .ok v w) ∧ ∀ G bx bl, RelC G w bx bl c v := by
  cases op with
  | shl =>
    obtain ⟨hc, hr⟩ := ck_some hr
    have hq : ¬ q < 0 := by have := of_decide_eq_true hc; omega
    exact ⟨_, _, hr, fun w => by rw [binOp_shl]; simp [Op.shift, hq], fun _ _ _ => rfl⟩
  | shr =>
    obtain ⟨hc, hr⟩ := ck_some hr
    have hq : ¬ q < 0 := by have := of_decide_eq_true hc; omega
    exact ⟨_, _, hr, fun w => by rw [binOp_shr]; simp [Op.shift, hq], fun _ _ _ => rfl⟩
  | _ => cases hr

theorem strOp_run {op : BinOp} {p q : ByteArray} {kk : AC → Option α} (hr : strOp (Par.std N) op p q kk = some r) (t : TypeId) :
    ∃ c v, kk c = some r ∧ (∀ w, (binOp op t (.string p) (.string q)).run P w = .ok v w) ∧ ∀ G bx bl, RelC G w bx bl c v := by
  have hb : ∀ op, binOp op t (.string p) (.string q) = Op.stringOp op p q := fun op => by cases op <;> rfl
  rw [hb]
  cases op with
  | add =>
    obtain ⟨hc, hr⟩ := ck_some hr
    have hq : ¬ ((p.size + q.size : Nat) : Int) > IntKind.i64.max := by
      have := of_decide_eq_true hc
      dsimp only [Par.std] at this
      rw [IntKind.max_i64]
      omega
    refine ⟨_, .string (p ++ q), hr, fun w => ?_, fun _ _ _ => rfl⟩
    unfold Op.stringOp
    dsimp only
    rw [if_neg hq]
    rfl
  | eql => exact ⟨_, _, hr, fun _ => rfl, fun _ _ _ => rfl⟩
  | neq => exact ⟨_, _, hr, fun _ => rfl, fun _ _ _ => rfl⟩
  | lss => exact ⟨_, _, hr, fun _ => rfl, fun _ _ _ => rfl⟩
  | leq => exact ⟨_, _, hr, fun _ => rfl, fun _ _ _ => rfl⟩
  | gtr => exact ⟨_, _, hr, fun _ => rfl, fun _ _ _ => rfl⟩
  | geq => exact ⟨_, _, hr, fun _ => rfl, fun _ _ _ => rfl⟩
  | _ => cases hr

theorem binC_run {op : BinOp} {t : TypeId} {x y : AC} {u v : Value} {bx : List (Nat × List AC)} {bl : List (Nat × Option Blk)} {kk : AC → Option α} (hx : RelC G w bx bl x u) (hy : RelC G w bx bl y v)
    (hr : binC P (Par.std N) op t x y kk = some r) : ∃ c z, kk c = some r ∧ (∀ w, (binOp op t u v).run P w = .ok z w) ∧ u.oneCell' = true ∧ u ≠ .nilIface ∧ ∀ G bx bl, RelC G w bx bl c z := by
  unfold binC at hr
  split at hr
  · rename_i kd p ke q
    cases hx
    cases hy
    split at hr
    · obtain ⟨c, z, h1, h2, h3⟩ := shiftOp_run (P := P) (w := w) (ke := ke) hr t
      exact ⟨c, z, h1, h2, rfl, by simp, h3⟩
    · obtain ⟨c, z, h1, h2, h3⟩ := shiftOp_run (P := P) (w := w) (ke := ke) hr t
      exact ⟨c, z, h1, h2, rfl, by simp, h3⟩
    · obtain ⟨hc, hr2⟩ := ck_some hr
      have hk := kbeq_eq hc
      subst hk
      obtain ⟨c, z, h1, h2, h3⟩ := intOp_run (P := P) (w := w) hr2 t
      exact ⟨c, z, h1, h2, rfl, by simp, h3⟩
  · cases hx
    cases hy
    obtain ⟨c, z, h1, h2, h3⟩ := strOp_run (P := P) (w := w) hr t
    exact ⟨c, z, h1, h2, rfl, by simp, h3⟩
  · cases hx
    cases hy
    split at hr
    · rename_i ht
      exact ⟨_, _, hr, fun w => run_eql_bool w t _ _ ht, rfl, by simp, fun _ _ _ => rfl⟩
    · rename_i ht
      exact ⟨_, _, hr, fun w => run_neq_bool w t _ _ ht, rfl, by simp, fun _ _ _ => rfl⟩
    · cases hr
  · cases hr

theorem calm_binOp (h : Inv w0 G st a w) (op : BinOp) (t : TypeId) (x y : Operand) (yt : TypeId) (ho : o.op = .binOp op t x y yt) {p q : AC} (hp : st.evc x = .c p) (hq : st.evc y = .c q)
    (hr : binC P (Par.std N) op t p q (fun r => st.pk o.dst (.v (.c r)) k) = some r) : Calmly P w0 w a o k r := by
  have h1 := h.evc x
  have h2 := h.evc y
  rw [hp] at h1
  rw [hq] at h2
  obtain ⟨c, z, hr, hrun, hone, hnil, hrel⟩ := binC_run (P := P) h1 h2 hr
  refine calm_of (u := z) h (v := .v (.c c)) (hrel _ _ _) hr fun w1 hB => ?_
  unfold execOp
  rw [ho]
  simp [eqGuard_plain op t x y _ _ hone hnil, hrun]

/-! ### Structs compared -/
theorem eqFields_run {w1 : World} {bx : List (Nat × List AC)} {bl : List (Nat × Option Blk)} {d : Nat} {xs ys : Array Value} : ∀ (fs : List Field) (i : Nat) (l m : List AC) (c : Bool), eqFields P fs i l m = some c →
    All2 (RelC G w bx bl) l (xs.toList.drop i) → All2 (RelC G w bx bl) m (ys.toList.drop i) → (Op.eqFields (d + 1) xs ys fs).run P w1 = .ok c w1
  | [], _, [], [], c, h, _, _ => by cases h; rfl
  | [], _, _ :: _, _, _, h, _, _ => by simp [eqFields] at h
  | [], _, [], _ :: _, _, h, _, _ => by simp [eqFields] at h
  | _ :: _, _, [], _, _, h, _, _ => by simp [eqFields] at h
  | _ :: _, _, _ :: _, [], _, h, _, _ => by simp [eqFields] at h
  | f :: fs, i, a :: r, b :: s, c, h, hx, hy => by
    simp only [eqFields] at h
    split at h
    · rename_i hck
      rw [Bool.and_eq_true] at hck
      have hoff := beq_nat hck.1
      have hname : f.name ≠ "_" := by have := hck.2; simpa using this
      split at h
      · rename_i c' hc'
        have tail : ∀ {v : Value} {zs : Array Value} {l : List AC} {a : AC}, All2 (RelC G w bx bl) (a :: l) (zs.toList.drop i) → ∃ v, zs[i]? = some v ∧ RelC G w bx bl a v ∧ All2 (RelC G w bx bl) l (zs.toList.drop (i + 1)) := by
          intro _ zs l a hz
          cases hd : zs.toList.drop i with
          | nil => rw [hd] at hz; exact hz.elim
          | cons v vs =>
            rw [hd] at hz
            have h1 : zs.toList[i]? = some v := by
              have := List.getElem?_drop (xs := zs.toList) (i := i) (j := 0)
              rw [hd] at this
              simpa using this.symm
            have h2 : zs.toList.drop (i + 1) = vs := by
              rw [← List.drop_drop, hd]
              rfl
            exact ⟨v, by simpa using h1, hz.1, by rw [h2]; exact hz.2⟩
        obtain ⟨v, hv, hra, hrx⟩ := tail (v := undef) hx
        obtain ⟨u, hu, hrb, hry⟩ := tail (v := undef) hy
        have ih := eqFields_run (w1 := w1) (d := d) fs (i + 1) r s c' hc' hrx hry
        have hpart : ∀ {e : TypeId} {zs : Array Value} {z : Value} {q : TypeDesc}, P.underlying e = some q → (q = .string ∨ q = .bool ∨ ∃ k, q = .int k) → zs[i]? = some z → (part e zs i).run P w1 = .ok z w1 := by
          intro e zs z q hq hk hz
          rcases hk with rfl | rfl | ⟨k, rfl⟩ <;> simp [part, isAgg, run_underlying hq, hz]
        have fin_ : ∀ {q : TypeDesc} {e : Bool}, P.underlying f.type = some q → (q = .string ∨ q = .bool ∨ ∃ k, q = .int k) → (Op.equalIn (d + 1) f.type v u).run P w1 = .ok e w1 → c = (e && c') → (Op.eqFields (d + 1) xs ys (f :: fs)).run P w1 = .ok c w1 := by
          intro q e hq hk he hc
          have h1 := hpart hq hk hv
          have h2 := hpart hq hk hu
          rw [← hoff] at h1 h2
          simp only [Op.eqFields, hname, ne_eq, not_false_eq_true, if_true, Sem.run_bind, h1, h2, he, Result.andThen_ok]
          cases e with
          | true => simpa [hc] using ih
          | false => simp [hc]
        split at h
        · rename_i k' k x l y hq
          split at h
          · rename_i hk
            have hk := kbeq_eq hk
            subst hk
            have e1 : v = .int k x := hra
            have e2 : u = .int k y := hrb
            exact fin_ hq (.inr (.inr ⟨_, rfl⟩)) (by rw [e1, e2]; exact run_equalIn_int w1 d _ k k' x y hq) (Option.some.inj h).symm
          · cases h
        · rename_i x y hq
          have e1 : v = .string x := hra
          have e2 : u = .string y := hrb
          exact fin_ hq (.inl rfl) (by rw [e1, e2]; exact run_equalIn_string w1 d _ x y hq) (Option.some.inj h).symm
        · rename_i x y hq
          have e1 : v = .bool x := hra
          have e2 : u = .bool y := hrb
          exact fin_ hq (.inr (.inl rfl)) (by rw [e1, e2]; exact run_equalIn_bool' w1 d _ x y hq) (Option.some.inj h).symm
        · cases h
      · cases h
    · cases h

theorem calm_eqStruct (h : Inv w0 G st a w) (op : BinOp) (t : TypeId) (x y : Operand) (yt : TypeId) (ho : o.op = .binOp op t x y yt) {l m : List AC} (hp : st.evc x = .agg l) (hq : st.evc y = .agg m)
    {c b : Bool} (he : eqStruct P t l m = some c) (hop : (op = .eql ∧ b = c) ∨ (op = .neq ∧ b = !c)) (hr : st.pk o.dst (.v (.c (.bool b))) k = some r) : Calmly P w0 w a o k r := by
  have h1 := h.evc x
  have h2 := h.evc y
  rw [hp] at h1
  rw [hq] at h2
  obtain ⟨xs, hx, hrx⟩ := h1
  obtain ⟨ys, hy, hry⟩ := h2
  unfold eqStruct at he
  split at he
  · rename_i fs hfs
    split at he
    · rename_i hg
      rw [Bool.or_eq_false_iff] at hg
      have hfo : P.fieldsOf t = fs := by simp [Program.fieldsOf, hfs]
      refine calm_of (u := .bool b) h (v := .v (.c (.bool b))) rfl hr fun w1 hB => ?_
      have hrun : (Op.equalIn 10000 t (.agg xs) (.agg ys)).run P w1 = .ok c w1 := by
        rw [show (10000 : Nat) = 9999 + 1 from rfl, run_equalIn_struct w1 9999 t xs ys (by rw [hfo]; exact hfs) hg.1, hfo]
        exact eqFields_run (d := 9998) fs.toList 0 l m c he hrx hry
      unfold execOp
      rw [ho]
      dsimp only
      rw [hx, hy]
      simp only [Sem.run_bind, run_eqGuard_agg w1 op t x y xs ys hg.2, Result.andThen_ok]
      rcases hop with ⟨rfl, rfl⟩ | ⟨rfl, rfl⟩
      · rw [run_eql_struct, hrun]
        rfl
      · rw [run_neq_struct, hrun]
        rfl
    · cases he
  · cases he

/-! ### Conversions -/
theorem calm_convInt (h : Inv w0 G st a w) (src dst : TypeId) (x : Operand) (ho : o.op = .convert src dst x) {ks kd ki : IntKind} {n : Int} (hs : P.underlying src = some (.int ks)) (hd : P.underlying dst = some (.int kd))
    (hx : st.ac x = .int ki n) (hr : st.pk o.dst (.v (.c (.int kd (kd.wrap n)))) k = some r) : Calmly P w0 w a o k r := by
  have hb : a.eval x = .int ki n := by have := h.ac x; rw [hx] at this; exact this
  refine calm_of (u := .int kd (kd.wrap n)) h (v := .v (.c (.int kd (kd.wrap n)))) rfl hr fun w1 hB => ?_
  unfold execOp
  rw [ho]
  dsimp only
  rw [hb]
  simp [convert, run_underlying hs, run_underlying hd, Conv.intToInt]

theorem calm_convStr (h : Inv w0 G st a w) (src dst : TypeId) (x : Operand) (ho : o.op = .convert src dst x) {s : ByteArray} (hs : P.underlying src = some .string) (hd : P.underlying dst = some .string)
    (hx : st.ac x = .str s) (hr : st.pk o.dst (.v (.c (.str s))) k = some r) : Calmly P w0 w a o k r := by
  have hb : a.eval x = .string s := by have := h.ac x; rw [hx] at this; exact this
  refine calm_of (u := .string s) h (v := .v (.c (.str s))) rfl hr fun w1 hB => ?_
  unfold execOp
  rw [ho]
  dsimp only
  rw [hb]
  simp [convert, run_underlying hs, run_underlying hd]

/-! ### len, index -/
theorem slLen_rel (h : Inv w0 G st a w) {c : AC} {v : Value} (hc : RelC G w st.bx st.bl c v) {n : Int} (hn : slLen st c = some n) :
    (∃ s, c = .str s ∧ v = .string s ∧ n = (s.size : Int)) ∨ ∃ A m cap, v = .slice A m cap ∧ n = (m : Int) ∧ ∀ s, c ≠ .str s := by
  cases c with
  | nil => cases hn; exact .inr ⟨_, _, _, hc, rfl, by simp⟩
  | ro f e t xs =>
    cases hn
    obtain ⟨A, cap, hv, _⟩ := hc
    have := (List.cons.inj hv).1
    exact .inr ⟨A, _, cap, this, rfl, by simp⟩
  | own id len =>
    cases len with
    | none =>
      simp only [slLen] at hn
      unfold St.blk at hn
      cases hl : look st.bl id with
      | none => rw [hl] at hn; cases hn
      | some ob =>
        rw [hl] at hn
        cases ob with
        | none => cases hn
        | some b =>
          cases hn
          have hb := h.bl id b hl
          have hv : v = G.hv id := hc.2.2
          rw [hv]
          cases hw : b.w with
          | true =>
            obtain ⟨cs, h1, _, _⟩ := hb.wr hw
            rcases h1.2 with ⟨he, hz⟩ | ⟨g, cap, cur, he, _⟩
            · exact .inr ⟨_, _, _, he, by omega, by simp⟩
            · exact .inr ⟨_, _, _, he, rfl, by simp⟩
          | false =>
            obtain ⟨A, cap, he, _⟩ := hb.rd hw
            exact .inr ⟨A, _, cap, (List.cons.inj he).1, rfl, by simp⟩
    | some l =>
      cases hn
      obtain ⟨_, h0, A, m, cap, _, hl, rfl⟩ := hc
      exact .inr ⟨A, _, cap, rfl, by omega, by simp⟩
  | str s => cases hn; exact .inl ⟨s, rfl, hc, rfl⟩
  | _ => cases hn

theorem calm_len (h : Inv w0 G st a w) (x : Operand) (t : TypeId) {args : Array Operand} {ts : Array TypeId} (ho : o.op = .call { callee := .builtin .len, args := args, argTypes := ts }) (ha : args.toList = [x]) (ht : ts.toList = [t])
    {n : Int} (hn : slLen st (st.ac x) = some n) (hu : (P.underlying t = some .string ∧ ∃ s, st.ac x = .str s) ∨ ((∃ e, P.underlying t = some (.slice e)) ∧ ∀ s, st.ac x ≠ .str s))
    (hr : st.pk o.dst (.v (.c (.int .i64 n))) k = some r) : Calmly P w0 w a o k r := by
  have hargs : args = #[x] := by rw [← Array.toArray_toList (xs := args), ha]
  have htys : ts = #[t] := by rw [← Array.toArray_toList (xs := ts), ht]
  subst hargs htys
  refine calm_of (u := .int .i64 n) h (v := .v (.c (.int .i64 n))) rfl hr fun w1 hB => ?_
  unfold execOp
  rw [ho]
  rcases slLen_rel h (h.ac x) hn with ⟨s, hs, hv, rfl⟩ | ⟨A, m, cap, hv, rfl, hns⟩
  · rcases hu with ⟨hu, _⟩ | ⟨_, hu⟩
    · simp [resolve, invoke, builtin, hv, Builtin.len_, run_underlying hu, goInt]
    · exact absurd hs (hu s)
  · rcases hu with ⟨_, s, hu⟩ | ⟨⟨e, hu⟩, _⟩
    · exact absurd hu (hns s)
    · simp [resolve, invoke, builtin, hv, Builtin.len_, run_underlying hu, goInt]

theorem calm_index (h : Inv w0 G st a w) (t : TypeId) (x i : Operand) (ho : o.op = .index t x i) (hu : P.underlying t = some .string) {s : ByteArray} {kd : IntKind} {n : Int} (hx : st.ac x = .str s) (hi : st.ac i = .int kd n)
    (h0 : 0 ≤ n) (h1 : n < (s.size : Int)) (hr : st.pk o.dst (.v (.c (.int .u8 (byteAt s n)))) k = some r) : Calmly P w0 w a o k r := by
  have hs : a.eval x = .string s := by have := h.ac x; rw [hx] at this; exact this
  have hn : a.eval i = .int kd n := by have := h.ac i; rw [hi] at this; exact this
  refine calm_of (u := .int .u8 (byteAt s n)) h (v := .v (.c (.int .u8 (byteAt s n)))) rfl hr fun w1 hB => ?_
  unfold execOp
  rw [ho]
  dsimp only
  rw [hs, hn]
  have hlt : n.toNat < s.size := by omega
  have hg : s[n.toNat]? = some (s[n.toNat]'hlt) := by simp [getElem?_pos, hlt]
  have hb : byteAt s n = ((s[n.toNat]'hlt).toNat : Int) := by
    have hlt' : n.toNat < s.data.toList.length := by simpa using hlt
    simp only [byteAt, List.getD_eq_getElem?_getD, List.getElem?_eq_getElem hlt']
    rfl
  simp [Instr.index, run_underlying hu, asIntOf, h0, hg, hb]
end
end Go.Am
