/- Each operation of the abstract machine is Go's own, part six: new rows. No condition. -/
import Derived.Test.YtijjjmdoflbmfaaGreatDoorAmOps5
import Derived.Lib.AppendStr
set_option linter.unusedVariables false
set_option linter.unusedSimpArgs false
namespace Go.Am
open Go.RowKit
section
variable {N : Nat} {P : Program} {w0 : Root} {w : World} {G : Gh} {st : St} {a : Act} {α : Type} {k : St → Option α} {r : α} {K : Act → World → Prop} {Q : Exit → Act → World → Prop} {o : Oper}

theorem Inv.grow_ext {w' : World} (h : Inv w0 G st a w) (row : Option Nat) (hg : w.grownBy w' row)
    (hrow : ∀ g, row = some g → ∃ id, G.own g = some (.bl id) ∧ look st.bl id = some none)
    (q : List (Nat × Option Blk)) (hv' : Nat → Value) (nw : Nat → Option Nat)
    (hn : ∀ g id, nw g = some id → (w.heap.size ≤ g ∨ row = some g)) : Ext G w (G.grow row q hv' nw) w' := by
  have key : ∀ b x, b < w.heap.size → G.own b = x → (∀ id, x ≠ some (.bl id)) → (G.grow row q hv' nw).own b = x ∧ w'.heap[b]? = w.heap[b]? := by
    intro b x hb ho hx
    have hne : row ≠ some b := by
      intro e
      obtain ⟨id, h1, _⟩ := hrow b e
      exact hx id (ho.symm.trans h1)
    refine ⟨?_, hg.block b hb (fun e => hne e.symm)⟩
    unfold Gh.grow
    dsimp only
    cases hnw : nw b with
    | none => simp [hne, ho]
    | some id =>
      rcases hn b id hnw with h4 | h4
      · omega
      · exact absurd h4 hne
  exact ⟨rfl, rfl, hg.size, fun b hb ho => key b _ hb ho (by simp), fun b hb ho => key b _ hb ho (by simp)⟩

/-- A new row, in the machine and in memory. -/
theorem row_goes {w' : World} (h : Inv w0 G st a w) (row : Option Nat) (hg : w.grownBy w' row) (hrow : ∀ g, row = some g → ∃ id, G.own g = some (.bl id) ∧ look st.bl id = some none)
    (d : Tmp) (b : Blk) (hw : b.w = true) (hp : 0 < b.t.n) (sv : Value) (cs : List Value) (ho : w'.ownsRow 0 b.e b.t.n sv b.xs.length cs)
    (hnew : ∀ g, sv.ownBlock = some g → w.heap.size ≤ g ∨ row = some g) (he : ElsIn w (RO G b.f) b.t cs b.xs)
    (hr : st.row d b k = some r) (hK : Goes w0 k r K) : K (a.put (some d) sv) w' := by
  unfold St.row at hr
  cases hl : look st.bl (d * 64) with
  | some x => rw [hl] at hr; cases hr
  | none =>
    rw [hl] at hr
    obtain ⟨hc, hr⟩ := ck_some hr
    have hlook : ∀ id, (look [(d * 64, some b)] id).isSome = true → id = d * 64 := by
      intro id hs
      rw [look_cons] at hs
      by_cases hi : d * 64 = id
      · exact hi.symm
      · simp [hi, look] at hs
    have hx := h.grow_ext row hg hrow [(d * 64, some b)] (fun _ => sv) (fun g => if sv.ownBlock = some g then some (d * 64) else none) (by
      intro g id hn
      split at hn
      · exact hnew g (by assumption)
      · cases hn)
    obtain ⟨hinv, _, hs⟩ := h.grow row hg hrow [(d * 64, some b)] (fun _ => sv) (fun g => if sv.ownBlock = some g then some (d * 64) else none)
      (fun id hs => by rw [hlook id hs]; exact hl)
      (fun g id hn => by
        split at hn
        · rename_i hsv
          cases hn
          refine ⟨by simp [look_cons], hsv, ?_, hnew g hsv⟩
          rcases ho.2 with ⟨rfl, _⟩ | ⟨g', cap, cur, rfl, _, hh, _⟩
          · simp [Value.ownBlock] at hsv
          · have : g' = g := by simpa [Value.ownBlock] using hsv
            subst this
            exact (Array.getElem?_eq_some_iff.1 hh).1
        · cases hn)
      (fun id b' hb' => by
        have hi := hlook id (by rw [hb']; rfl)
        subst hi
        simp [look_cons] at hb'
        subst hb'
        refine ⟨fun _ => ⟨cs, ?_, ?_, he.mono hx⟩, (fun hw' => by rw [hw] at hw'; exact Bool.noConfusion hw'), hp⟩
        · simpa [Gh.grow, look_cons] using ho
        · intro g hgo
          have hgo : sv.ownBlock = some g := by simpa [Gh.grow, look_cons] using hgo
          simp [Gh.grow, hgo])
    have hform : ∃ A n cap, sv = .slice A n cap := by
      rcases ho.2 with ⟨rfl, _⟩ | ⟨g', cap, cur, rfl, _⟩
      · exact ⟨_, _, _, rfl⟩
      · exact ⟨_, _, _, rfl⟩
    have h2 := hinv.put d (blt_lt hc) (v := .v (.c (.own (d * 64) none))) (u := sv) (by
      refine ⟨by simp [look_append, look_cons], ?_, ?_⟩
      · simpa [Gh.grow, look_cons] using hform
      · simp [Gh.grow, look_cons])
    exact hK _ _ _ _ h2 hr

/-! ### The cells of a slice that is read -/
theorem slice_cells {ok : Nat → Prop} {e : TypeId} {t : Ty} (hp : 0 < t.n) {ys : List t.D} {A : Option Addr} {m cap : Nat} (h : Rd w ok (.sl e t) ys [.slice A m cap]) :
    m = ys.length ∧ m ≤ 9223372036854775807 ∧ ∃ news : List Value, news.length = m * t.n ∧ ElsIn w ok t news ys ∧ (∀ u ∈ news, u.oneCell' = true) ∧ (0 < m → ∃ b o, A = some ⟨b, o, none⟩ ∧ CellsAt w b o news) := by
  obtain ⟨A', cap', he, hc, h63, hr⟩ := h
  have he := (List.cons.inj he).1
  injection he with e1 e2 e3
  subst e1 e2 e3
  refine ⟨rfl, h63, ?_⟩
  rcases Nat.eq_zero_or_pos ys.length with h0 | h0
  · refine ⟨[], by simp [h0], fun j x hj => ?_, by simp, fun h => by omega⟩
    have := (List.getElem?_eq_some_iff.1 hj).1
    omega
  · obtain ⟨b, o, hA, _, _, hcell⟩ := hr h0
    have cellq : ∀ q, q < ys.length * t.n → ∃ u, w.cell? ⟨b, o + q, none⟩ = some u ∧ u.oneCell' = true := by
      intro q hq
      have hj : q / t.n < ys.length := by rw [Nat.div_lt_iff_lt_mul hp]; exact hq
      obtain ⟨c, hrd, hcc⟩ := hcell (q / t.n) _ (getD_some hj t.dflt)
      have hi : q % t.n < c.length := by rw [hrd.len]; exact Nat.mod_lt _ hp
      have hu := List.getElem?_eq_getElem hi
      refine ⟨_, ?_, hrd.one _ (List.getElem_mem hi)⟩
      have := hcc (q % t.n) _ hu
      have e : q / t.n * t.n + q % t.n = q := Nat.div_add_mod' q t.n
      rwa [e] at this
    refine ⟨(List.range (ys.length * t.n)).map fun q => (w.cell? ⟨b, o + q, none⟩).getD undef, by simp, fun j x hj => ?_, fun u hu => ?_, fun _ => ⟨b, o, hA, fun q u hu => ?_⟩⟩
    · obtain ⟨c, hrd, hcc⟩ := hcell j x hj
      refine ⟨c, hrd, fun i u hu => ?_⟩
      have hjl := (List.getElem?_eq_some_iff.1 hj).1
      have hil := (List.getElem?_eq_some_iff.1 hu).1
      rw [hrd.len] at hil
      have : j * t.n + i < ys.length * t.n := by
        have : (j + 1) * t.n ≤ ys.length * t.n := Nat.mul_le_mul_right _ (by omega)
        rw [Nat.add_mul, Nat.one_mul] at this
        omega
      simp [this, hcc i u hu]
    · simp only [List.mem_map, List.mem_range] at hu
      obtain ⟨q, hq, rfl⟩ := hu
      obtain ⟨u, hu, h1⟩ := cellq q hq
      rw [hu]
      exact h1
    · have hq : q < ys.length * t.n := by
        have := (List.getElem?_eq_some_iff.1 hu).1
        simpa using this
      obtain ⟨u', hu', _⟩ := cellq q hq
      simp [hq, hu'] at hu
      rw [hu', ← hu]

theorem els_weak {ok ok' : Nat → Prop} (h : ∀ g, ok g → ok' g) {t : Ty} {cs : List Value} {xs : List t.D} (he : ElsIn w ok t cs xs) : ElsIn w ok' t cs xs := by
  intro j x hj
  obtain ⟨c, h1, h2⟩ := he j x hj
  exact ⟨c, rd_weak h h1, h2⟩

theorem rd_flat {ok ok' : Nat → Prop} : ∀ {t : Ty} {x : t.D} {cs : List Value}, flat t = true → Rd w ok t x cs → Rd w ok' t x cs
  | .int _, _, _, _, h => h
  | .bool, _, _, _, h => h
  | .str, _, _, _, h => h
  | .unit, _, _, _, h => h
  | .pair a b, _, _, hf, h => by
    obtain ⟨c1, c2, rfl, h1, h2⟩ := h
    have hf' : (flat a && flat b) = true := hf
    rw [Bool.and_eq_true] at hf'
    exact ⟨c1, c2, rfl, rd_flat hf'.1 h1, rd_flat hf'.2 h2⟩
  | .sl _ _, _, _, hf, _ => by cases hf
theorem els_flat {ok ok' : Nat → Prop} {t : Ty} (hf : flat t = true) {cs : List Value} {xs : List t.D} (he : ElsIn w ok t cs xs) : ElsIn w ok' t cs xs := by
  intro j x hj
  obtain ⟨c, hr, hc⟩ := he j x hj
  exact ⟨c, rd_flat hf hr, hc⟩
theorem castD_els {ok : Nat → Prop} {t u : Ty} (h : t = u) {xs : List t.D} {cs : List Value} (he : ElsIn w ok t cs xs) : ElsIn w ok u cs (castD h xs) := by
  subst h
  exact he
theorem castD_len {t u : Ty} (h : t = u) {xs : List t.D} : (castD h xs).length = xs.length := by
  subst h
  rfl

/-- The cells of a row that is known by name. -/
theorem own_cells {id : Nat} {b : Blk} (hb : BlkOk G w id b) {A : Option Addr} {n cap : Nat} (hv : G.hv id = .slice A n cap) :
    n = b.xs.length ∧ n ≤ 9223372036854775807 ∧ ∃ news : List Value, news.length = n * b.t.n ∧ ElsIn w (RO G b.f) b.t news b.xs ∧ (∀ u ∈ news, u.oneCell' = true) ∧ (0 < n → ∃ b o, A = some ⟨b, o, none⟩ ∧ CellsAt w b o news) := by
  cases hw : b.w with
  | false =>
    have := hb.rd hw
    rw [hv] at this
    exact slice_cells hb.pos this
  | true =>
    obtain ⟨cs, ho, _, he⟩ := hb.wr hw
    obtain ⟨hl, hf⟩ := ho
    have hone : ∀ u ∈ cs, u.oneCell' = true := by
      intro u hu
      obtain ⟨q, hq, rfl⟩ := List.mem_iff_getElem.1 hu
      have hp := hb.pos
      have hj : q / b.t.n < b.xs.length := by rw [Nat.div_lt_iff_lt_mul hp, ← hl]; exact hq
      obtain ⟨c, hrd, hcc⟩ := he (q / b.t.n) _ (getD_some hj b.t.dflt)
      have hi : q % b.t.n < c.length := by rw [hrd.len]; exact Nat.mod_lt _ hp
      have := hcc (q % b.t.n) _ (List.getElem?_eq_getElem hi)
      rw [Nat.div_add_mod' q b.t.n, List.getElem?_eq_getElem hq] at this
      rw [Option.some.inj this]
      exact hrd.one _ (List.getElem_mem hi)
    rcases hf with ⟨hn, h0⟩ | ⟨g, cap', cur, hn, _, hh, hc, hm, hs, htk⟩
    · rw [hv] at hn
      injection hn with e1 e2 e3
      subst e2
      refine ⟨h0.symm, by omega, cs, by rw [hl, h0], he, hone, fun h => by omega⟩
    · rw [hv] at hn
      injection hn with e1 e2 e3
      subst e2
      have : maxLen = 9223372036854775807 := rfl
      refine ⟨rfl, by omega, cs, hl, he, hone, fun _ => ⟨g, 0, e1, fun q u hu => ?_⟩⟩
      rw [Nat.zero_add, cell_of_row w g q cur b.e (0, 0) hh]
      rw [← htk, List.getElem?_take] at hu
      split at hu
      · simpa using hu
      · cases hu

theorem els_take {ok : Nat → Prop} {t : Ty} {cs : List Value} {xs : List t.D} (he : ElsIn w ok t cs xs) (m : Nat) : ElsIn w ok t (cs.take (m * t.n)) (xs.take m) := by
  intro j x hj
  rw [List.getElem?_take] at hj
  split at hj
  · rename_i hjm
    obtain ⟨c, hr, hc⟩ := he j x hj
    refine ⟨c, hr, fun i u hu => ?_⟩
    have hil := (List.getElem?_eq_some_iff.1 hu).1
    rw [hr.len] at hil
    have : (j + 1) * t.n ≤ m * t.n := Nat.mul_le_mul_right _ hjm
    rw [Nat.add_mul, Nat.one_mul] at this
    rw [List.getElem?_take, if_pos (by omega)]
    exact hc i u hu
  · cases hj

/-- What an append's second argument brings: its cells, and where they lie. -/
theorem newRow_cells (h : Inv w0 G st a w) {u : Ty} (hp : 0 < u.n) {x : AC} {v : Value} (hx : RelC G w st.bx st.bl x v) {ys : List u.D} {g : Bool} (hn : newRow' st u x = some (ys, g)) :
    ∃ A cap, v = .slice A ys.length cap ∧ ys.length ≤ 9223372036854775807 ∧ ∃ news : List Value, news.length = ys.length * u.n ∧ ElsIn w (RO G g) u news ys ∧ (∀ z ∈ news, z.oneCell' = true) ∧ (0 < ys.length → ∃ b o, A = some ⟨b, o, none⟩ ∧ CellsAt w b o news) := by
  cases x with
  | nil =>
    simp only [newRow'] at hn
    cases hn
    exact ⟨none, 0, hx, by simp, [], by simp, fun j x hj => by simp at hj, by simp, fun h => by simp at h⟩
  | ro f e t ys' =>
    simp only [newRow'] at hn
    split at hn
    · rename_i ys0 hd
      cases hn
      have hrd := slData_rd (ok := RO G g) h (c := .ro g e t ys') hx hd (fun _ _ _ hc => by cases hc) (fun f' e' u' ys'' hc => by cases hc; exact fun _ h => h) 0
      obtain ⟨A, cap, hv, _⟩ := id hrd
      have hv := (List.cons.inj hv).1
      rw [hv] at hrd
      obtain ⟨_, h63, news, h1, h2, h3, h4⟩ := slice_cells hp hrd
      exact ⟨A, cap, hv, h63, news, h1, h2, h3, h4⟩
    · cases hn
  | own id len =>
    simp only [newRow'] at hn
    split at hn
    · rename_i ys0 b hd hb
      cases hn
      simp only [slData, hb] at hd
      split at hd
      · rename_i hu
        cases hd
        have hl := blk_some hb
        have hbo := h.bl id b hl
        have ht := Ty.beq_eq hu
        cases len with
        | none =>
          obtain ⟨_, ⟨A, n, cap, hv⟩, hve⟩ := hx
          obtain ⟨hn, h63, news, h1, h2, h3, h4⟩ := own_cells hbo hv
          refine ⟨A, cap, ?_, ?_, news, ?_, castD_els ht h2, h3, ?_⟩
          · rw [hve, hv]; simp [cutLen, castD_len, hn]
          · simp [cutLen, castD_len]; omega
          · simp [cutLen, castD_len, ← ht, h1, hn]
          · intro h0
            simp [cutLen, castD_len] at h0
            exact h4 (by omega)
        | some m =>
          obtain ⟨_, h0, A, n, cap, hv, hmn, rfl⟩ := hx
          obtain ⟨hn, h63, news, h1, h2, h3, h4⟩ := own_cells hbo hv
          have hlen : (cutLen (castD ht b.xs) (some m)).length = m.toNat := by
            simp [cutLen, castD_len]
            omega
          rw [hlen]
          refine ⟨A, cap, rfl, by omega, news.take (m.toNat * u.n), ?_, ?_, fun z hz => h3 z (List.mem_of_mem_take hz), fun hm0 => ?_⟩
          · rw [List.length_take, h1, ← ht]
            have : m.toNat * b.t.n ≤ n * b.t.n := Nat.mul_le_mul_right _ (by omega)
            omega
          · exact els_take (castD_els ht h2) m.toNat
          · obtain ⟨b', o', hA, hc⟩ := h4 (by omega)
            exact ⟨b', o', hA, hc.take⟩
      · cases hd
    · cases hn
  | _ => simp [newRow'] at hn

/-! ### append -/
theorem run_append_none {base : Nat} {t ty e : TypeId} {i : TypeInfo} {size : Nat} (ht : P.underlying t = some (.slice e)) (hi : P.info? e = some i) {v : Value} {n : Nat} {xs : List Value} (hown : w.ownsRow base e size v n xs) (c : Nat) :
    (Builtin.append_ #[t, t] ty #[v, .slice none 0 c]).run P w = .ok v w := by
  rcases hown.2 with ⟨rfl, rfl⟩ | ⟨g, cap, cur, rfl, _, hh, hc, _⟩
  · simp [Builtin.append_, run_underlying ht, sizeOf, typeInfo, hi, Builtin.lenOf, Builtin.firstCells]
  · simp [Builtin.append_, run_underlying ht, sizeOf, typeInfo, hi, Builtin.lenOf, Builtin.firstCells, hc, storeCells]

/-- The old row: nil, or one's own, that is named no more. -/
theorem oldRow_rel (h : Inv w0 G st a w) {e : TypeId} {u : Ty} {s : AC} {v : Value} (hs : RelC G w st.bx st.bl s v) {xs : List u.D} {f : Bool} {st1 : St} (ho : oldRow st e u s = some (xs, f, st1)) (hp : 0 < u.n) :
    Inv w0 G st1 a w ∧ st1.nt = st.nt ∧ st1.bx = st.bx ∧ (∃ cs, w.ownsRow 0 e u.n v xs.length cs ∧ ElsIn w (RO G f) u cs xs) ∧ (∀ g, v.ownBlock = some g → ∃ id, G.own g = some (.bl id) ∧ look st1.bl id = some none) := by
  cases s with
  | nil =>
    simp only [oldRow] at ho
    cases ho
    rw [show v = _ from hs]
    exact ⟨h, rfl, rfl, ⟨[], World.ownsRow_nil w _ _ _, fun j x hj => by simp at hj⟩, fun g hg => by simp [Value.ownBlock] at hg⟩
  | own id len =>
    cases len with
    | some l => simp [oldRow] at ho
    | none =>
      simp only [oldRow] at ho
      cases hb : st.blk id with
      | none => rw [hb] at ho; cases ho
      | some b =>
        rw [hb] at ho
        dsimp only at ho
        split at ho
        · rename_i hwe
          rw [Bool.and_eq_true] at hwe
          split at ho
          · rename_i hu
            cases ho
            have hl := blk_some hb
            have hbo := h.bl id b hl
            obtain ⟨cs, h1, h2, h3⟩ := hbo.wr hwe.1
            obtain ⟨hk, _⟩ := h.kill id (by rw [hl]; rfl)
            have ht := Ty.beq_eq hu
            have hbe := beq_nat hwe.2
            refine ⟨hk, rfl, rfl, ⟨cs, ?_, castD_els ht h3⟩, fun g hg => ⟨id, ?_, by simp [look_cons]⟩⟩
            · rw [hs.2.2, castD_len, ← hbe, ← ht]
              exact h1
            · rw [hs.2.2] at hg
              exact h2 g hg
          · cases ho
        · cases ho
  | _ => simp [oldRow] at ho

theorem els_app {ok : Nat → Prop} {t : Ty} {cs ds : List Value} {xs ys : List t.D} (hl : cs.length = xs.length * t.n) (h1 : ElsIn w ok t cs xs) (h2 : ElsIn w ok t ds ys) : ElsIn w ok t (cs ++ ds) (xs ++ ys) := by
  intro j x hj
  rw [List.getElem?_append] at hj
  split at hj
  · rename_i hlt
    obtain ⟨c, hr, hc⟩ := h1 j x hj
    refine ⟨c, hr, fun i u hu => ?_⟩
    have := hc i u hu
    have hq := (List.getElem?_eq_some_iff.1 this).1
    rw [List.getElem?_append, if_pos hq]
    exact this
  · rename_i hge
    obtain ⟨c, hr, hc⟩ := h2 _ x hj
    refine ⟨c, hr, fun i u hu => ?_⟩
    have := hc i u hu
    have : xs.length * t.n ≤ j * t.n := Nat.mul_le_mul_right _ (by omega)
    rw [List.getElem?_append, if_neg (by omega), hl]
    have e : j * t.n + i - xs.length * t.n = (j - xs.length) * t.n + i := by
      rw [Nat.sub_mul]
      omega
    rw [e]
    exact hc i u hu

theorem bytes_of {e : TypeId} {i : TypeInfo} (h : P.info? e = some i) : P.bytesOf e = i.bytes ∧ P.cellsOf e = i.size := by
  simp [Program.bytesOf, Program.cellsOf, h]

theorem bytesOf_length (s : ByteArray) : (bytesOf s).length = s.size := by
  rw [bytesOf, List.length_map, Array.length_toList]
  rfl
theorem bytes_els {ok : Nat → Prop} (s : ByteArray) : ElsIn w ok (.int .u8) (Lib.strCells s) (bytesOf s) := by
  intro j x hj
  refine ⟨[.int .u8 x], rfl, fun i u hu => ?_⟩
  cases i with
  | succ i => simp at hu
  | zero =>
    cases hu
    simp only [bytesOf, List.getElem?_map] at hj
    cases hb : s.data.toList[j]? with
    | none => rw [hb] at hj; cases hj
    | some b =>
      rw [hb] at hj
      cases hj
      simp [Lib.strCells, Ty.n, hb]

/-- Where an append of a string's bytes lies. -/
theorem append_str_at {base : Nat} {t t2 ty e : TypeId} {i : TypeInfo} (hu : P.underlying t = some (.slice e)) (hu2 : P.underlying t2 = some .string) (hi : P.info? e = some i) (hz : i.zero = some (.int .u8 0)) (hs1 : i.size = 1) (hb1 : i.bytes = 1)
    {v : Value} {n : Nat} {cs : List Value} (hown : w.ownsRow base e 1 v n cs) {s : ByteArray} (hle : n + s.size ≤ 140737488355328) {v' : Value} {w' : World} (hr : (Builtin.append_ #[t, t2] ty #[v, .string s]).run P w = .ok v' w') :
    v'.ownBlock = v.ownBlock ∨ v'.ownBlock = some w.heap.size := by
  rcases hown.2 with ⟨rfl, rfl⟩ | ⟨g, cap, cur, rfl, _, hh, hc, hm, hs, htk⟩
  · by_cases hm : s.size = 0
    · have hf := Lib.run_firstCells_string (P := P) w 1 s
      rw [hm] at hf
      have : (Builtin.append_ #[t, t2] ty #[.slice none 0 0, .string s]).run P w = .ok (.slice none 0 0) w := by
        simp [Builtin.append_, run_underlying hu, run_underlying hu2, sizeOf, typeInfo, hi, hs1, Builtin.lenOf, hm, hf]
      rw [this] at hr
      cases hr
      exact .inl rfl
    · have h2 := run_append_nil_string (P := P) w t t2 ty e i (.int .u8 0) hu hu2 hi hz s (by omega) (by omega) (by rw [hb1]; omega)
      rw [h2] at hr
      cases hr
      exact .inr rfl
  · by_cases hroom : n + s.size ≤ cap
    · have hcs : cur.size = cap := by simpa using hs
      have h2 := Lib.run_append_room_string (P := P) w t t2 ty e i hu hu2 hi hs1 g n cap cur hh s hroom (by omega)
      rw [h2] at hr
      cases hr
      exact .inl rfl
    · have hx : cs.length = n := by simpa using hown.1
      have holds : ∀ j u, cs[j]? = some u → w.cell? ((⟨g, 0, none⟩ : Addr).add j) = some u := hown.cells (g := g) rfl
      have h2 := Lib.run_append_grow_string (P := P) w t t2 ty e i (.int .u8 0) hu hu2 hi hz ⟨g, 0, none⟩ n cap cs (by rw [hs1]; simpa using hx) holds s (by omega) (by omega) (by rw [hb1]; exact growslice_fits (by omega) (by omega))
      rw [h2] at hr
      cases hr
      exact .inr rfl

theorem sound_append (h : Inv w0 G st a w) {args : Array Operand} {ts : Array TypeId} (ho : o.op = .call { callee := .builtin .append, args := args, argTypes := ts }) {d : Tmp} (hdst : o.dst = some d) {s x : Operand} (ha : args.toList = [s, x])
    {t t2 : TypeId} (hts : ts.toList = [t, t2]) {e : TypeId} (he : elemT P t = some e) {u : Ty} {z : CV} (hz : zeroOf P e = some z)
    (hr : appendRun P (Par.std N) st d (st.ac s) (st.ac x) t t2 e u z k = some r) (hK : Goes w0 k r K) : o.wp P a w K Q := by
  have hargs : args = #[s, x] := by rw [← Array.toArray_toList (xs := args), ha]
  have htys : ts = #[t, t2] := by rw [← Array.toArray_toList (xs := ts), hts]
  subst hargs htys
  have hu : P.underlying t = some (.slice e) := by
    unfold elemT at he
    split at he
    · rename_i e' hu; cases he; exact hu
    · cases he
  obtain ⟨i, zv, hi, hiz, rfl⟩ := zeroOf_some hz
  obtain ⟨hby, hsz⟩ := bytes_of hi
  have hsr := h.ac s
  have hxr := h.ac x
  unfold appendRun at hr
  split at hr
  · rename_i xs f st1 hold
    have hexec : (execOp a.eval o).run P w = ((Builtin.append_ #[t, t2] o.type #[a.eval s, a.eval x]).run P w).andThen fun v w' => .ok (.value v) w' := by
      unfold execOp
      rw [ho]
      simp [resolve, invoke, builtin]
    split at hr
    · -- a string's bytes
      rename_i str hstr
      split at hr
      · rename_i hbt
        have ht := Ty.beq_eq hbt
        subst ht
        split at hr
        · rename_i hu2
          obtain ⟨hc, hr2⟩ := ck_some hr
          simp only [Bool.and_eq_true] at hc
          obtain ⟨⟨⟨hc1, hc2⟩, hc3⟩, hc4⟩ := hc
          have hb1 : i.bytes = 1 := by rw [← hby]; exact beq_nat hc2
          have hs1 : i.size = 1 := by rw [← hsz]; exact beq_nat hc1
          have hzv : zv = .int .u8 0 := by
            have h1 : RelCV G w st.bx st.bl (ofConst zv) zv := ofConst_rel zv
            unfold isByte0 at hc3
            split at hc3
            · rename_i heq
              rw [heq] at h1
              exact h1
            · cases hc3
          subst hzv
          obtain ⟨h1, hnt, hbx, ⟨cs, hown, hels⟩, hrow⟩ := oldRow_rel h hsr hold (by simp [Ty.n])
          rw [hstr] at hxr
          have hxv : a.eval x = .string str := hxr
          have hlen := of_decide_eq_true hc4
          have hbase : 0 ≤ w.heap.size := Nat.zero_le _
          obtain ⟨v', w', hrun, hown', hg, hat⟩ : ∃ v' w', (Builtin.append_ #[t, t2] o.type #[a.eval s, a.eval x]).run P w = .ok v' w' ∧ w'.ownsRow 0 e 1 v' (xs.length + str.size) (cs ++ Lib.strCells str) ∧ w.grownBy w' (a.eval s).ownBlock ∧ (v'.ownBlock = (a.eval s).ownBlock ∨ v'.ownBlock = some w.heap.size) := by
            rw [hxv]
            have hmax : maxLen = 9223372036854775807 := rfl
            obtain ⟨v', w', h2, h3, h4, _⟩ := Lib.run_append_own_string (P := P) w 0 t t2 o.type e i hu hu2 hi hiz hs1 hb1 (a.eval s) xs.length cs (by simpa [Ty.n] using hown) str (by omega) (by omega) hbase
            refine ⟨v', w', h2, h3, h4, ?_⟩
            exact append_str_at hu hu2 hi hiz hs1 hb1 (by simpa [Ty.n] using hown) (by omega) h2
          refine wp_val (v := v') (w' := w') (by rw [hexec, hrun]; rfl) ?_
          rw [hdst]
          have hcast : castD (Ty.beq_eq hbt) xs = xs := rfl
          rw [hcast] at hr2
          refine row_goes h1 (a.eval s).ownBlock hg hrow d ⟨e, .int .u8, xs ++ bytesOf str, f, true⟩ rfl (by simp [Ty.n]) v' (cs ++ Lib.strCells str) (by simpa [Ty.n, bytesOf_length] using hown') ?_ (els_app (by simpa [Ty.n] using hown.1) hels (bytes_els str)) hr2 hK
          intro q hq
          rcases hat with hat | hat
          · exact .inr (hat ▸ hq)
          · rw [hat] at hq
            cases hq
            exact .inl (Nat.le_refl _)
        · cases hr
      · cases hr
    · split at hr
      · rename_i ys g hnew
        obtain ⟨hc, hr2⟩ := ck_some hr
        simp only [Bool.and_eq_true] at hc
        obtain ⟨⟨⟨⟨⟨⟨hc1, hc2⟩, hc3⟩, hc4⟩, hc5⟩, hc6⟩, hc7⟩ := hc
        have htt := beq_nat hc1
        subst htt
        have hcu : i.size = u.n := by rw [← hsz]; exact beq_nat hc2
        have hp : 0 < u.n := Nat.pos_of_ne_zero (beq_nat_false hc5)
        have hb0 : 0 < i.bytes := by rw [← hby]; exact Nat.pos_of_ne_zero (beq_nat_false hc6)
        have hlen := of_decide_eq_true hc7
        rw [hby] at hlen
        have hzc := ((ofConst_rel (G := G) (w := w) (bx := st.bx) (bl := st.bl) zv).cells hc4).len
        have hzs : zv.cells.size = u.n := by
          have := beq_nat hc3
          simp at hzc
          omega
        obtain ⟨h1, hnt, hbx, ⟨cs, hown, hels⟩, hrow⟩ := oldRow_rel h hsr hold hp
        obtain ⟨A, cap, hxv, h63, news, hn1, hn2, hn3, hn4⟩ := newRow_cells h hp hxr hnew
        have hbase : 0 ≤ w.heap.size := Nat.zero_le _
        have hlen' : (xs.length + ys.length) * i.bytes ≤ 140737488355328 := by
          have : (((xs.length + ys.length) * i.bytes : Nat) : Int) ≤ 140737488355328 := by
            rw [Int.natCast_mul]
            exact hlen
          omega
        have hle : xs.length + ys.length ≤ 140737488355328 := Nat.le_trans (Nat.le_mul_of_pos_right _ hb0) hlen'
        have hmax : maxLen = 9223372036854775807 := rfl
        obtain ⟨v', w', hrun, hown', hg, hat⟩ : ∃ v' w', (Builtin.append_ #[t, t] o.type #[a.eval s, a.eval x]).run P w = .ok v' w' ∧ w'.ownsRow 0 e u.n v' (xs.length + ys.length) (cs ++ news) ∧ w.grownBy w' (a.eval s).ownBlock ∧ (v'.ownBlock = (a.eval s).ownBlock ∨ v'.ownBlock = some w.heap.size) := by
          rw [hxv]
          cases A with
          | none =>
            have hy0 : ys.length = 0 := by
              rcases Nat.eq_zero_or_pos ys.length with h | h
              · exact h
              · obtain ⟨b, o', hA, _⟩ := hn4 h
                cases hA
            have hnews : news = [] := List.eq_nil_of_length_eq_zero (by rw [hn1, hy0, Nat.zero_mul])
            subst hnews
            rw [hy0]
            exact ⟨_, w, run_append_none hu hi hown cap, by simpa using hown, ⟨rfl, rfl, rfl, Nat.le_refl _, fun _ _ _ => rfl⟩, .inl rfl⟩
          | some ad =>
            obtain ⟨v', w', hrun, h2, h3, _, h5⟩ := run_append_own_at (P := P) w 0 t o.type e i zv u.n i.bytes hu hi hiz hcu rfl hzs hp (a.eval s) xs.length cs hown ad ys.length cap news hn1 (fun j uu hj => by
              have h0 : 0 < ys.length := by
                rcases Nat.eq_zero_or_pos ys.length with h | h
                · have := (List.getElem?_eq_some_iff.1 hj).1
                  rw [hn1, h, Nat.zero_mul] at this
                  omega
                · exact h
              obtain ⟨b, o', hA, hcell⟩ := hn4 h0
              cases hA
              rw [add_at]
              exact hcell j uu hj) hn3 (by omega) hlen' hbase
            exact ⟨v', w', hrun, h2, h3, h5⟩
        refine wp_val (v := v') (w' := w') (by rw [hexec, hrun]; rfl) ?_
        rw [hdst]
        have weakL : ∀ q, RO G f q → RO G (f && (g || flat u)) q := fun q hq => hq.weak fun hh => by rw [Bool.and_eq_true] at hh; exact hh.1
        have hnR : ElsIn w (RO G (f && (g || flat u))) u news ys := by
          cases hfl : flat u with
          | true => exact els_flat hfl hn2
          | false => exact els_weak (fun q hq => hq.weak fun hh => by simp at hh; exact hh.2) hn2
        refine row_goes h1 (a.eval s).ownBlock hg hrow d ⟨e, u, xs ++ ys, f && (g || flat u), true⟩ rfl hp v' (cs ++ news) (by simpa using hown') ?_ (els_app hown.1 (els_weak weakL hels) hnR) hr2 hK
        intro q hq
        rcases hat with hat | hat
        · exact .inr (hat ▸ hq)
        · rw [hat] at hq
          cases hq
          exact .inl (Nat.le_refl _)
      · cases hr
  · cases hr
end
end Go.Am
