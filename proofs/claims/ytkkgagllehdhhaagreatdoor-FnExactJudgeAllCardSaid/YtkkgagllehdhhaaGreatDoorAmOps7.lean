/- Each operation of the abstract machine is Go's own, part seven: literals, make, conversions, min and max. No condition. -/
import Derived.Test.YtkkgagllehdhhaaGreatDoorAmOps6
import Derived.Lib.ConvBytes
set_option linter.unusedVariables false
set_option linter.unusedSimpArgs false
namespace Go.Am
open Go.RowKit
section
variable {P : Program} {w0 : Root} {w : World} {G : Gh} {st : St} {a : Act} {α : Type} {k : St → Option α} {r : α} {K : Act → World → Prop} {Q : Exit → Act → World → Prop} {o : Oper}

theorem im_none : ∀ {t : Ty} {l : List AC} {x : t.D} {l' : List AC}, im st t (.none :: l) = some (x, l') → t.n = 0 ∧ l' = .none :: l
  | .int _, l, x, l', h => by simp [im] at h
  | .bool, l, x, l', h => by simp [im] at h
  | .str, l, x, l', h => by simp [im] at h
  | .unit, l, x, l', h => by simp only [im] at h; cases h; exact ⟨rfl, rfl⟩
  | .pair a b, l, x, l', h => by
    simp only [im] at h
    split at h
    · rename_i y r1 h1
      obtain ⟨h2, rfl⟩ := im_none h1
      split at h
      · rename_i z r2 h3
        obtain ⟨h4, rfl⟩ := im_none h3
        cases h
        exact ⟨by simp [Ty.n, h2, h4], rfl⟩
      · cases h
    · cases h
  | .sl _ _, l, x, l', h => by simp [im, slData] at h

theorem im_kn {t : Ty} (hp : 0 < t.n) {c : CV} {x : t.D} {l' : List AC} (h : im st t c.cells = some (x, l')) : c.kn = true := by
  cases c with
  | agg l => rfl
  | c y =>
    cases y with
    | none =>
      have := (im_none (l := []) h).1
      omega
    | _ => rfl

/-! ### A slice's literal -/
def partsV (a : Act) : List (Nat × Operand) → List Value
  | [] => []
  | (_, x) :: l => (a.eval x).cells.toList ++ partsV a l
theorem lit_fill (h : Inv w0 G st a w) {t : Ty} (hp : 0 < t.n) {ok : Nat → Prop} : ∀ (parts : List (Nat × Operand)) (i : Nat) (acc : Array Value) (xs : List t.D),
    (∀ u c v ys, c ∈ litCells st parts → RelC G w st.bx st.bl c v → slData st u c = some ys → ∀ e, Rd w ok (.sl e u) ys [v]) →
    acc.size = (i + parts.length) * t.n → litElems st t i parts = some xs →
    ∃ cs : List Value, Instr.fill (fun i => some (i * t.n, t.n)) acc (parts.map fun (i, x) => (i, a.eval x)) = some (acc.toList.take (i * t.n) ++ cs).toArray ∧ cs.length = xs.length * t.n ∧ xs.length = parts.length ∧ ElsIn w ok t cs xs ∧ cs = partsV a parts
  | [], i, acc, xs, hc, hs, hl => by
    simp only [litElems] at hl
    cases hl
    refine ⟨[], ?_, by simp, rfl, fun j x hj => by simp at hj, rfl⟩
    simp only [List.map_nil, Instr.fill, List.append_nil]
    have : acc.toList.take (i * t.n) = acc.toList := List.take_of_length_le (by simp [hs])
    rw [this]
  | (j, x) :: parts, i, acc, xs, hc, hs, hl => by
    simp only [litElems] at hl
    split at hl
    · rename_i hij
      have hij := beq_nat hij
      subst hij
      split at hl
      · rename_i y hy
        split at hl
        · rename_i ys hys
          cases hl
          have hk := im_kn hp hy
          have hcell := (h.evc x).cells hk
          obtain ⟨vs1, vs2, he, hrd, hr2, _⟩ := im_rd (ok := ok) (fun u c v zs hm => hc u c v zs (by simp [litCells, hm])) hcell hy
          have hv2 : vs2 = [] := by
            cases vs2 with
            | nil => rfl
            | cons _ _ => exact hr2.elim
          subst hv2
          rw [List.append_nil] at he
          have hlen := hrd.len
          rw [← he] at hlen hrd
          have hsz : (a.eval x).cells.size = t.n := by simpa using hlen
          have hrow : (i + 1) * t.n ≤ acc.size := by
            rw [hs]
            exact Nat.mul_le_mul_right _ (by simp)
          rw [Nat.add_mul, Nat.one_mul] at hrow
          obtain ⟨cs, hf, hcl, hxl, hels, hpv⟩ := lit_fill h hp parts (i + 1) ((a.eval x).cells.zipIdx.foldl (fun cs (c, j) => cs.setIfInBounds (i * t.n + j) c) acc) ys (fun u c v zs hm => hc u c v zs (by simp [litCells, hm])) (by
            have : ∀ (l : List (Value × Nat)) (cs : Array Value), (l.foldl (fun cs (c, j) => cs.setIfInBounds (i * t.n + j) c) cs).size = cs.size := by
              intro l
              induction l with
              | nil => intro cs; rfl
              | cons p l ih => intro cs; rw [List.foldl_cons, ih, Array.size_setIfInBounds]
            rw [← Array.foldl_toList, this, hs]
            simp [Nat.add_assoc, Nat.add_comm 1]) hys
          refine ⟨(a.eval x).cells.toList ++ cs, ?_, ?_, by simp [hxl], els_app (xs := [y]) (by simpa using hlen) ?_ hels, by rw [hpv]; rfl⟩
          · simp only [List.map_cons, Instr.fill]
            rw [if_neg (by simp [hsz]; omega), hf]
            congr 2
            rw [← Array.foldl_toList, Array.toList_zipIdx, foldl_setManyV, Nat.add_zero, setManyV_eq _ _ _ (by simp [hsz]; omega)]
            have e1 : (i + 1) * t.n = (acc.toList.take (i * t.n) ++ (a.eval x).cells.toList).length := by
              rw [Nat.add_mul, Nat.one_mul]
              simp [hsz]
              omega
            simp only [Nat.add_zero]
            rw [e1, List.take_left]
            simp
          · rw [List.length_append, hcl, hlen]
            simp [Nat.add_mul, Nat.add_comm]
          · intro jj xx hj
            cases jj with
            | zero =>
              cases hj
              exact ⟨_, hrd, fun ii u hu => by simpa using hu⟩
            | succ jj => simp at hj
        · cases hl
      · cases hl
    · cases hl

theorem grown_new (w : World) (ob : Obj) : w.grownBy (w.alloc ob) none := ⟨rfl, rfl, rfl, by simp, fun k hk _ => Below.heap_alloc _ _ _ hk⟩

theorem run_buildSlice {t e : TypeId} {i : TypeInfo} {zv : Value} (hu : P.underlying t = some (.slice e)) (hi : P.info? e = some i) (hz : i.zero = some zv) {len : Nat} {parts : Array (Nat × Value)} {cells : Array Value} (h16 : len * i.size ≤ 16777216)
    (hf : Instr.fill (fun q => some (q * i.size, i.size)) ((Array.range (len * i.size)).map (fun q => (if len * i.size = 0 then #[] else zv.cells)[q % (if len * i.size = 0 then #[] else zv.cells).size]!)) parts.toList = some cells) :
    (Instr.buildSlice t len parts).run P w = .ok (.slice (some ⟨w.heap.size, 0, none⟩) len len) (w.alloc (.cells cells e)) := by
  have hn16 : ¬ 2 ^ 24 < len * i.size := by omega
  by_cases h0 : len * i.size = 0
  · have e0 : ∀ f : Nat → Value, (Array.range 0).map f = #[] := fun f => by simp [Array.range_zero']
    simp only [h0, if_true, e0] at hf
    simp [Instr.buildSlice, run_underlying hu, sizeOf, typeInfo, hi, h0, e0, hf, newRow]
  · simp only [h0, if_false] at hf
    simp [Instr.buildSlice, run_underlying hu, sizeOf, typeInfo, hi, h0, hn16, zeroValue, hz, hf, newRow]

theorem sound_buildSlice (h : Inv w0 G st a w) (t : TypeId) (len : Nat) (parts : Array (Nat × Operand)) (ho : o.op = .buildSlice t len parts) {d : Tmp} (hdst : o.dst = some d) {e : TypeId} (he : elemT P t = some e) {u : Ty}
    {xs : List u.D} (hl : litElems st u 0 parts.toList = some xs)
    (hc : (Nat.beq parts.toList.length len && ownNew st (litCells st parts.toList) && (Nat.beq (P.cellsOf e) u.n && !Nat.beq u.n 0 && Nat.ble (len * u.n) 16777216 && (zeroOf P e).isSome)) = true)
    (hr : (st.freeze (litCells st parts.toList)).row d ⟨e, u, xs, newAll (litCells st parts.toList), true⟩ k = some r) (hK : Goes w0 k r K) : o.wp P a w K Q := by
  simp only [Bool.and_eq_true] at hc
  obtain ⟨⟨h1, h2⟩, ⟨⟨⟨h3, h4⟩, h5⟩, h6⟩⟩ := hc
  have hu : P.underlying t = some (.slice e) := by
    unfold elemT at he
    split at he
    · rename_i e' hu; cases he; exact hu
    · cases he
  have hlen := beq_nat h1
  have hp : 0 < u.n := Nat.pos_of_ne_zero (beq_nat_false h4)
  obtain ⟨i, hi, his⟩ := info_of_cells (beq_nat h3) hp
  have h16 := ble_le h5
  obtain ⟨z, hz⟩ := Option.isSome_iff_exists.1 h6
  obtain ⟨i', zv, hi', hiz, _⟩ := zeroOf_some hz
  rw [hi] at hi'
  cases hi'
  obtain ⟨G', h', hx, hs, hsd⟩ := Inv.freeze (litCells st parts.toList) h
  have hlc : ∀ l, litCells (st.freeze (litCells st parts.toList)) l = litCells st l := by
    intro l
    induction l with
    | nil => rfl
    | cons p l ih =>
      obtain ⟨j, x⟩ := p
      have hev : (st.freeze (litCells st parts.toList)).evc x = st.evc x := by
        unfold St.evc St.ev St.get
        rw [hsd.tm]
      simp only [litCells, ih, hev]
  have hle : ∀ i l, litElems (st.freeze (litCells st parts.toList)) u i l = litElems st u i l := by
    intro i l
    induction l generalizing i with
    | nil => rfl
    | cons p l ih =>
      obtain ⟨j, x⟩ := p
      have hev : (st.freeze (litCells st parts.toList)).evc x = st.evc x := by
        unfold St.evc St.ev St.get
        rw [hsd.tm]
      simp only [litElems, hev, im_same hsd, ih]
  have hacc : ((Array.range (len * u.n)).map (fun q => (if len * u.n = 0 then #[] else zv.cells)[q % (if len * u.n = 0 then #[] else zv.cells).size]!)).size = (0 + parts.toList.length) * u.n := by
    simp [← hlen]
  obtain ⟨cs, hf, hcl, hxl, hels, _⟩ := lit_fill h' hp parts.toList 0 _ xs (by
    rw [hlc]
    exact frozen_rd (bx := st.bx) h' h2 fun h => h) hacc (by rw [hle]; exact hl)
  simp only [Nat.zero_mul, List.take_zero, List.nil_append] at hf
  refine wp_val (v := .slice (some ⟨w.heap.size, 0, none⟩) len len) (w' := w.alloc (.cells cs.toArray e)) ?_ ?_
  · unfold execOp
    rw [ho]
    dsimp only
    have := run_buildSlice (P := P) (w := w) hu hi hiz (len := len) (parts := parts.map fun (i, x) => (i, a.eval x)) (cells := cs.toArray) (by rw [his]; omega) (by rw [his, Array.toList_map]; exact hf)
    simp only [Sem.run_bind, this, Result.andThen_ok]
    rfl
  · rw [hdst]
    have hbase : 0 ≤ w.heap.size := Nat.zero_le _
    refine row_goes h' none (grown_new w _) (fun g hg => by cases hg) d ⟨e, u, xs, newAll (litCells st parts.toList), true⟩ rfl hp _ cs ?_ (fun g hg => by simp [Value.ownBlock] at hg; omega) hels hr hK
    have hxl' : xs.length = len := by rw [hxl, hlen]
    have hmax : maxLen = 9223372036854775807 := rfl
    have hle : len ≤ len * u.n := Nat.le_mul_of_pos_right _ hp
    refine ⟨hcl, .inr ⟨w.heap.size, len, cs.toArray, by rw [hxl'], hbase, heap_alloc_new w _, by show xs.length ≤ len; omega, by omega, by simp [hcl, hxl'], ?_⟩⟩
    rw [← hcl]
    simp

/-! ### make -/
theorem ofCell_plain (v : Value) : (∀ id len, ofCell v ≠ .own id len) ∧ (∀ f e t xs, ofCell v ≠ .ro f e t xs) := by
  unfold ofCell
  split <;> simp
theorem ofConst_plain (v : Value) : ∀ c ∈ (ofConst v).cells, (∀ id len, c ≠ .own id len) ∧ (∀ f e t xs, c ≠ .ro f e t xs) := by
  intro c hc
  unfold ofConst at hc
  split at hc
  · simp only [CV.cells, List.mem_map] at hc
    obtain ⟨u, _, rfl⟩ := hc
    exact ofCell_plain u
  · simp only [CV.cells, List.mem_singleton] at hc
    rw [hc]
    exact ofCell_plain _

theorem sound_makeSlice (h : Inv w0 G st a w) (t : TypeId) (p q : Operand) (ho : o.op = .makeSlice t p q) {d : Tmp} (hdst : o.dst = some d) {e : TypeId} (he : elemT P t = some e) {n m : Int} (hp : st.ac p = .int .i64 n) (hq : st.ac q = .int .i64 m)
    {u : Ty} {z : CV} (hz : zeroOf P e = some z) {x : u.D} (hx : im st u z.cells = some (x, []))
    (hc : (z.kn && (Nat.beq (P.cellsOf e) u.n && !Nat.beq u.n 0 && !Nat.beq (P.bytesOf e) 0) && decide (0 ≤ n) && n == m && decide (n * (P.bytesOf e : Int) ≤ 140737488355328)) = true)
    (hr : st.row d ⟨e, u, List.replicate n.toNat x, true, true⟩ k = some r) (hK : Goes w0 k r K) : o.wp P a w K Q := by
  simp only [Bool.and_eq_true, decide_eq_true_eq, beq_iff_eq] at hc
  obtain ⟨⟨⟨⟨h1, ⟨h2, h3⟩, h7⟩, h4⟩, rfl⟩, h6⟩ := hc
  have hu : P.underlying t = some (.slice e) := by
    unfold elemT at he
    split at he
    · rename_i e' hu; cases he; exact hu
    · cases he
  have hpu : 0 < u.n := Nat.pos_of_ne_zero (beq_nat_false h3)
  obtain ⟨i, zv, hi, hiz, rfl⟩ := zeroOf_some hz
  obtain ⟨hby, hsz⟩ := bytes_of hi
  have hcu : i.size = u.n := by rw [← hsz]; exact beq_nat h2
  have hpv : a.eval p = .int .i64 n := by have := h.ac p; rw [hp] at this; exact this
  have hqv : a.eval q = .int .i64 n := by have := h.ac q; rw [hq] at this; exact this
  have hzc := (ofConst_rel (G := G) (w := w) (bx := st.bx) (bl := st.bl) zv).cells h1
  obtain ⟨vs1, vs2, hzv, hrd, hr2, _⟩ := im_rd (ok := RO G true) (fun u' c v zs hm hrc hd => by
    refine slData_rd h hrc hd (fun id len b hcc => ?_) (fun f e u ys hcc => ?_)
    · exact absurd hcc ((ofConst_plain zv c hm).1 id len)
    · exact absurd hcc ((ofConst_plain zv c hm).2 f e u ys)) hzc hx
  have hv2 : vs2 = [] := by
    cases vs2 with
    | nil => rfl
    | cons _ _ => exact hr2.elim
  subst hv2
  rw [List.append_nil] at hzv
  rw [← hzv] at hrd
  have hzs : zv.cells.size = u.n := by simpa using hrd.len
  rw [hby] at h6 h7
  have hb : 0 < i.bytes := Nat.pos_of_ne_zero (beq_nat_false h7)
  have hlen : n ≤ 140737488355328 := by
    have : n * 1 ≤ n * (i.bytes : Int) := Int.mul_le_mul_of_nonneg_left (by omega) h4
    omega
  have hrun := run_make (P := P) w t e i zv hu hi hiz .i64 .i64 n n h4 (Int.le_refl _) (by rw [Int.mul_comm]; omega) (by omega)
  rw [hcu] at hrun
  refine wp_val (v := .slice (some ⟨w.heap.size, 0, none⟩) n.toNat n.toNat) (w' := w.alloc (.cells (madeCells zv.cells (n.toNat * u.n)) e)) ?_ ?_
  · unfold execOp
    rw [ho]
    dsimp only
    rw [hpv, hqv]
    simp only [Sem.run_bind, hrun, Result.andThen_ok]
    rfl
  · rw [hdst]
    have hbase : 0 ≤ w.heap.size := Nat.zero_le _
    have hmax : maxLen = 9223372036854775807 := rfl
    have hsz : (madeCells zv.cells (n.toNat * u.n)).size = n.toNat * u.n := size_madeCells _ _
    refine row_goes h none (grown_new w _) (fun g hg => by cases hg) d ⟨e, u, List.replicate n.toNat x, true, true⟩ rfl hpu _ (madeCells zv.cells (n.toNat * u.n)).toList ?_ (fun g hg => by simp [Value.ownBlock] at hg; omega) ?_ hr hK
    · refine ⟨by simp [hsz], .inr ⟨w.heap.size, n.toNat, madeCells zv.cells (n.toNat * u.n), by simp, hbase, heap_alloc_new w _, by simp, by omega, hsz, ?_⟩⟩
      rw [List.take_of_length_le (by simp [hsz])]
    · intro j y hj
      have hjl : j < n.toNat := by
        have := (List.getElem?_eq_some_iff.1 hj).1
        simpa using this
      have hy : y = x := by
        simp [List.getElem?_replicate, hjl] at hj
        exact hj.symm
      rw [hy]
      refine ⟨zv.cells.toList, hrd, fun ii v hv => ?_⟩
      have hil : ii < u.n := by
        have := (List.getElem?_eq_some_iff.1 hv).1
        simpa [hzs] using this
      have hlt : j * u.n + ii < n.toNat * u.n := by
        have : (j + 1) * u.n ≤ n.toNat * u.n := Nat.mul_le_mul_right _ (by omega)
        rw [Nat.add_mul, Nat.one_mul] at this
        omega
      have hmod : (j * u.n + ii) % u.n = ii := by
        rw [Nat.mul_comm, Nat.mul_add_mod]
        exact Nat.mod_eq_of_lt hil
      have hgz : zv.cells[ii]? = some v := by simpa using hv
      simp [madeCells, hlt, hzs, hmod, hil]
      rw [Array.getElem?_eq_getElem (by omega)] at hgz
      have h2 := Option.some.inj hgz
      rw [← h2]

/-! ### Conversions between strings and bytes -/
theorem grownBy_bytes (w : World) (e : TypeId) (s : ByteArray) : w.grownBy (Lib.bytesWorld w e s) none := by
  exact ⟨rfl, rfl, rfl, by rw [Lib.bytesWorld_size]; omega, fun k hk _ => Lib.bytesWorld_at_old w e s k hk⟩

theorem sound_toBytes (h : Inv w0 G st a w) (src dst : TypeId) (x : Operand) (ho : o.op = .convert src dst x) {e : TypeId} (hs : P.underlying src = some .string) (hd : P.underlying dst = some (.slice e)) (he : P.underlying e = some (.int .u8))
    {s : ByteArray} (hx : st.ac x = .str s) (hc : s.size ≤ 140737488355328) (hr : st.pk o.dst (.v (.c (.ro true e (.int .u8) (bytesOf s)))) k = some r) (hK : Goes w0 k r K) : o.wp P a w K Q := by
  have hv : a.eval x = .string s := by have := h.ac x; rw [hx] at this; exact this
  have hg := grownBy_bytes w e s
  obtain ⟨h', hxt, hst⟩ := h.grow none hg (fun g hg => by cases hg) [] G.hv (fun _ => none) (fun id hs => by simp [look] at hs) (fun g id hn => by cases hn) (fun id b hb => by simp [look] at hb)
  have hge := grownCap_ge w s.size 0 e
  refine wp_val (v := .slice (some ⟨w.heap.size, 0, none⟩) s.size (grownCap w s.size 0 e)) (w' := Lib.bytesWorld w e s) ?_ (pk_goes h' (v := .v (.c (.ro true e (.int .u8) (bytesOf s)))) ?_ hr hK)
  · unfold execOp
    rw [ho]
    dsimp only
    rw [hv]
    simp only [Sem.run_bind, Lib.run_convert_string_bytes w src dst e s hs hd he, Result.andThen_ok]
    rfl
  · refine ⟨_, _, by rw [bytesOf_length], by rw [bytesOf_length]; exact hge, by rw [bytesOf_length]; omega, fun h0 => ⟨w.heap.size, 0, rfl, ?_, ⟨?_, .inl ?_⟩, fun j y hj => ⟨[.int .u8 y], rfl, fun i u hu => ?_⟩⟩⟩
    · have := Lib.bytesWorld_cell w e s 0 (by rw [bytesOf_length] at h0; exact h0)
      exact World.block_lt_of_cell? _ _ this
    · have : G.own w.heap.size = none := by
        cases ho : G.own w.heap.size with
        | none => rfl
        | some k => have := (h.own _ _ ho).2.1; omega
      simp [Gh.grow, this]
    · exact h.newNw (Nat.le_refl _)
    · cases i with
      | succ i => simp at hu
      | zero =>
        cases hu
        have hjl := (List.getElem?_eq_some_iff.1 hj).1
        rw [bytesOf_length] at hjl
        have := Lib.bytesWorld_cell w e s j hjl
        simp only [Ty.n, Nat.mul_one, Nat.add_zero, Nat.zero_add]
        rw [this]
        simp only [bytesOf, List.getElem?_map] at hj
        cases hb : s.data.toList[j]? with
        | none => rw [hb] at hj; cases hj
        | some b =>
          rw [hb] at hj
          cases hj
          simp [List.getD_eq_getElem?_getD, hb]

theorem calm_toStr (h : Inv w0 G st a w) (src dst : TypeId) (x : Operand) (ho : o.op = .convert src dst x) {e : TypeId} (hs : P.underlying src = some (.slice e)) (hd : P.underlying dst = some .string) (he : P.underlying e = some (.int .u8))
    {xs : List Int} (hx : slData st (.int .u8) (st.ac x) = some xs) (hr : st.pk o.dst (.v (.c (.str (strOf xs)))) k = some r) : Calmly P w0 w a o k r := by
  have hrd := slData_rd (ok := fun _ => True) h (h.ac x) hx (fun _ _ _ _ _ => ⟨fun _ _ => trivial, fun _ _ _ => trivial⟩) (fun _ _ _ _ _ _ _ => trivial) 0
  obtain ⟨A, cap, hv, hc, h63, hcell⟩ := hrd
  have hv := (List.cons.inj hv).1
  have hexec : ∀ w1, Below w.heap.size w w1 → (convert src dst (a.eval x)).run P w1 = .ok (.string (strOf xs)) w1 := by
    intro w1 hB
    rw [hv]
    rcases Nat.eq_zero_or_pos xs.length with h0 | h0
    · have hxs : xs = [] := List.eq_nil_of_length_eq_zero h0
      subst hxs
      cases A with
      | none => rw [run_convert_bytes_nil w1 src e hs he _ _ dst hd]; rfl
      | some ad =>
        rw [run_convert_bytes_string w1 src dst e _ _ _ hs he hd]
        simp [Conv.bytesToString, loadCells, loadCellsFrom, strOf]
        rfl
    · obtain ⟨b, o', rfl, hlt, _, hcell⟩ := hcell h0
      refine run_convert_bytes_arg w1 src e hs he b o' xs.length cap xs rfl (fun i hi => ?_) dst hd
      obtain ⟨c, hrd, hcc⟩ := hcell i _ (getD_some hi 0)
      have := hcc 0 (.int .u8 (xs.getD i 0)) (by rw [show c = _ from hrd]; rfl)
      rw [cell_of_heap (hB.block b hlt)]
      simpa [Ty.n] using this
  refine calm_of (u := .string (strOf xs)) h (v := .v (.c (.str (strOf xs)))) rfl hr fun w1 hB => ?_
  unfold execOp
  rw [ho]
  have hB : Below w.heap.size w w1 := by unfold memOk at hB; rw [ho] at hB; exact hB
  simp only [Sem.run_bind, hexec w1 hB, Result.andThen_ok]
  rfl
end
end Go.Am
