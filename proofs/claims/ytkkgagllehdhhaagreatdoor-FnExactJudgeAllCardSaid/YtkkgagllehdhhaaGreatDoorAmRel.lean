/- What the abstract machine's states say of Go's memory (definitions and how they are carried on). No condition. -/
import Derived.Test.YtkkgagllehdhhaaGreatDoorAmT
import Derived.Below
import Derived.Maps.AppendAt
import Derived.Laws.Rows
import Derived.Laws.CopyRow
set_option linter.unusedVariables false
set_option linter.unusedSimpArgs false
namespace Go.Am
open Go.RowKit

def All2 {α β : Type} (R : α → β → Prop) : List α → List β → Prop
  | [], [] => True
  | a :: l, b :: m => R a b ∧ All2 R l m
  | _, _ => False

theorem All2.len {α β : Type} {R : α → β → Prop} : ∀ {l : List α} {m : List β}, All2 R l m → l.length = m.length
  | [], [], _ => rfl
  | a :: l, b :: m, h => by simp [All2.len h.2]
  | [], _ :: _, h => h.elim
  | _ :: _, [], h => h.elim
theorem All2.imp {α β : Type} {R S : α → β → Prop} (hi : ∀ a b, R a b → S a b) : ∀ {l : List α} {m : List β}, All2 R l m → All2 S l m
  | [], [], _ => trivial
  | a :: l, b :: m, h => ⟨hi _ _ h.1, All2.imp hi h.2⟩
  | [], _ :: _, h => h.elim
  | _ :: _, [], h => h.elim
theorem All2.app {α β : Type} {R : α → β → Prop} : ∀ {l l' : List α} {m m' : List β}, All2 R l m → All2 R l' m' → All2 R (l ++ l') (m ++ m')
  | [], _, [], _, _, h => h
  | a :: l, _, b :: m, _, h, h' => ⟨h.1, All2.app h.2 h'⟩
  | [], _, _ :: _, _, h, _ => h.elim
  | _ :: _, _, [], _, h, _ => h.elim
theorem All2.nth {α β : Type} {R : α → β → Prop} : ∀ {l : List α} {m : List β}, All2 R l m → ∀ {i : Nat} {x : α}, nth? l i = some x → ∃ y, m[i]? = some y ∧ R x y
  | a :: l, b :: m, h, 0, x, hx => ⟨b, rfl, by cases hx; exact h.1⟩
  | a :: l, b :: m, h, i + 1, x, hx => by
    obtain ⟨y, hy, hr⟩ := All2.nth h.2 (i := i) (x := x) hx
    exact ⟨y, by simpa using hy, hr⟩
  | [], [], _, _, _, hx => by simp [nth?] at hx
  | [], _ :: _, h, _, _, _ => h.elim
  | _ :: _, [], h, _, _, _ => h.elim
theorem All2.take {α β : Type} {R : α → β → Prop} : ∀ (n : Nat) {l : List α} {m : List β}, All2 R l m → All2 R (takeN n l) (m.take n)
  | 0, l, m, h => by simp [takeN, All2]
  | n + 1, [], [], _ => by simp [takeN, All2]
  | n + 1, a :: l, b :: m, h => ⟨h.1, All2.take n h.2⟩
  | _ + 1, [], _ :: _, h => h.elim
  | _ + 1, _ :: _, [], h => h.elim
theorem All2.drop {α β : Type} {R : α → β → Prop} : ∀ (n : Nat) {l : List α} {m : List β}, All2 R l m → All2 R (dropN n l) (m.drop n)
  | 0, l, m, h => by simpa [dropN] using h
  | n + 1, [], [], _ => by simp [dropN, All2]
  | n + 1, a :: l, b :: m, h => All2.drop n h.2
  | _ + 1, [], _ :: _, h => h.elim
  | _ + 1, _ :: _, [], h => h.elim
theorem All2.set {α β : Type} {R : α → β → Prop} : ∀ {l : List α} {m : List β}, All2 R l m → ∀ (i : Nat) {x : α} {y : β}, R x y → All2 R (setNth l i x) (m.set i y)
  | a :: l, b :: m, h, 0, x, y, hr => ⟨hr, h.2⟩
  | a :: l, b :: m, h, i + 1, x, y, hr => ⟨h.1, All2.set h.2 i hr⟩
  | [], [], _, _, _, _, _ => by simp [setNth, All2]
  | [], _ :: _, h, _, _, _, _ => h.elim
  | _ :: _, [], h, _, _, _, _ => h.elim
def setManyV {α : Type} : List α → Nat → List α → List α
  | l, _, [] => l
  | l, n, v :: vs => setManyV (l.set n v) (n + 1) vs
theorem All2.setMany {α β : Type} {R : α → β → Prop} : ∀ {vs : List α} {us : List β} {l : List α} {m : List β} (i : Nat), All2 R l m → All2 R vs us → All2 R (Am.setMany l i vs) (setManyV m i us)
  | [], [], _, _, _, h, _ => h
  | v :: vs, u :: us, _, _, i, h, hv => All2.setMany (i + 1) (h.set i hv.1) hv.2
  | [], _ :: _, _, _, _, _, h => h.elim
  | _ :: _, [], _, _, _, _, h => h.elim
/-! ### Memory that is read -/
/-- Data of a kind, read out of cells. -/
def Rd (w : World) (ok : Nat → Prop) : (t : Ty) → t.D → List Value → Prop
  | .int k, x, cs => cs = [.int k x]
  | .bool, x, cs => cs = [.bool x]
  | .str, x, cs => cs = [.string x]
  | .unit, _, cs => cs = []
  | .pair a b, x, cs => ∃ c1 c2, cs = c1 ++ c2 ∧ Rd w ok a x.1 c1 ∧ Rd w ok b x.2 c2
  | .sl _ t, xs, cs => ∃ A cap, cs = [.slice A xs.length cap] ∧ xs.length ≤ cap ∧ xs.length ≤ 9223372036854775807 ∧
      (0 < xs.length → ∃ b o, A = some ⟨b, o, none⟩ ∧ b < w.heap.size ∧ ok b ∧
        ∀ j x, xs[j]? = some x → ∃ c, Rd w ok t x c ∧ ∀ i u, c[i]? = some u → w.cell? ⟨b, o + (j * t.n + i), none⟩ = some u)

theorem Rd.len {w : World} {ok : Nat → Prop} : ∀ {t : Ty} {x : t.D} {cs : List Value}, Rd w ok t x cs → cs.length = t.n
  | .int _, _, _, h => by rw [show _ = _ from h]; rfl
  | .bool, _, _, h => by rw [show _ = _ from h]; rfl
  | .str, _, _, h => by rw [show _ = _ from h]; rfl
  | .unit, _, _, h => by rw [show _ = _ from h]; rfl
  | .pair a b, _, _, h => by
    obtain ⟨c1, c2, rfl, h1, h2⟩ := h
    simp [Ty.n, h1.len, h2.len]
  | .sl e t, xs, cs, h => by
    obtain ⟨A, cap, rfl, _⟩ := h
    rfl

theorem Rd.one {w : World} {ok : Nat → Prop} : ∀ {t : Ty} {x : t.D} {cs : List Value}, Rd w ok t x cs → ∀ u ∈ cs, u.oneCell' = true
  | .int _, _, _, h, u, hu => by rw [show _ = _ from h] at hu; simp at hu; subst hu; rfl
  | .bool, _, _, h, u, hu => by rw [show _ = _ from h] at hu; simp at hu; subst hu; rfl
  | .str, _, _, h, u, hu => by rw [show _ = _ from h] at hu; simp at hu; subst hu; rfl
  | .unit, _, _, h, u, hu => by rw [show _ = _ from h] at hu; simp at hu
  | .pair a b, _, _, h, u, hu => by
    obtain ⟨c1, c2, rfl, h1, h2⟩ := h
    rcases List.mem_append.1 hu with hu | hu
    · exact h1.one u hu
    · exact h2.one u hu
  | .sl e t, xs, cs, h, u, hu => by
    obtain ⟨A, cap, rfl, _⟩ := h
    simp at hu; subst hu; rfl

theorem cell_of_heap {w w' : World} {b : Nat} (h : w'.heap[b]? = w.heap[b]?) (o : Nat) : w'.cell? ⟨b, o, none⟩ = w.cell? ⟨b, o, none⟩ := World.cell?_of_block (w := w) (w' := w') (a := ⟨b, o, none⟩) h

theorem Rd.mono {w w' : World} {ok ok' : Nat → Prop} (hs : w.heap.size ≤ w'.heap.size) (hm : ∀ b, b < w.heap.size → ok b → ok' b ∧ w'.heap[b]? = w.heap[b]?) :
    ∀ {t : Ty} {x : t.D} {cs : List Value}, Rd w ok t x cs → Rd w' ok' t x cs
  | .int _, _, _, h => h
  | .bool, _, _, h => h
  | .str, _, _, h => h
  | .unit, _, _, h => h
  | .pair a b, _, _, h => by
    obtain ⟨c1, c2, rfl, h1, h2⟩ := h
    exact ⟨c1, c2, rfl, h1.mono hs hm, h2.mono hs hm⟩
  | .sl e t, xs, cs, h => by
    obtain ⟨A, cap, rfl, hc, h63, h⟩ := h
    refine ⟨A, cap, rfl, hc, h63, fun hp => ?_⟩
    obtain ⟨b, o, rfl, hb, hok, hr⟩ := h hp
    obtain ⟨hok', hh⟩ := hm b hb hok
    refine ⟨b, o, rfl, by omega, hok', fun j x hj => ?_⟩
    obtain ⟨c, hrc, hcell⟩ := hr j x hj
    exact ⟨c, hrc.mono hs hm, fun i u hu => by rw [cell_of_heap hh]; exact hcell i u hu⟩

/-! ### What is known of the call's own memory -/
inductive Key where
  | bx (d : Nat)
  | bl (id : Nat)
  | hid     -- made ahead of its turn

structure Gh where
  nw : Nat → Prop      -- blocks that are new
  own : Nat → Option Key
  hb : Nat → Nat
  hv : Nat → Value
  ok : Nat → Prop      -- what the arguments' readers may read

/-- Blocks that nobody writes to from now on; f: new ones alone. -/
def RO (G : Gh) (f : Bool) (b : Nat) : Prop := G.own b = none ∧ (G.nw b ∨ (f = false ∧ G.ok b))

theorem RO.weak {G : Gh} {f f' : Bool} (h : f' = true → f = true) {g : Nat} (hg : RO G f g) : RO G f' g :=
  ⟨hg.1, hg.2.imp_right fun h2 => ⟨by cases f' with | false => rfl | true => rw [h rfl] at h2; exact absurd h2.1 (by simp), h2.2⟩⟩

def RelC (G : Gh) (w : World) (bx : List (Nat × List AC)) (bl : List (Nat × Option Blk)) : AC → Value → Prop
  | .none, _ => True
  | .int k n, v => v = .int k n
  | .bool b, v => v = .bool b
  | .str s, v => v = .string s
  | .nil, v => v = .slice none 0 0
  | .ro f e t xs, v => Rd w (RO G f) (.sl e t) xs [v]
  | .own id none, v => (look bl id).isSome = true ∧ (∃ A n cap, G.hv id = .slice A n cap) ∧ v = G.hv id
  | .own id (some l), v => (look bl id).isSome = true ∧ 0 ≤ l ∧ ∃ A n cap, G.hv id = .slice A n cap ∧ l ≤ n ∧ v = .slice A l.toNat cap
  | .ptr b off, v => (look bx b).isSome = true ∧ v = .pointer (some ⟨G.hb b, off, none⟩)
  | .fnp g b, v => (look bx b).isSome = true ∧ v = .func (.func g) #[] #[.pointer (some ⟨G.hb b, 0, none⟩)]
  | .eown id i off, v => (look bl id).isSome = true ∧ v.oneCell' = true ∧ 0 ≤ i ∧ ∃ g o n cap, G.hv id = .slice (some ⟨g, o, none⟩) n cap ∧ i < n ∧
      ∀ b, look bl id = some (some b) → v = .pointer (some ⟨g, o + (i.toNat * b.t.n + off), none⟩)
  | .ero f t x off, v => ∃ b o c, v = .pointer (some ⟨b, o + off, none⟩) ∧ b < w.heap.size ∧ RO G f b ∧ Rd w (RO G f) t x c ∧ ∀ i u, c[i]? = some u → w.cell? ⟨b, o + i, none⟩ = some u

def RelCV (G : Gh) (w : World) (bx : List (Nat × List AC)) (bl : List (Nat × Option Blk)) : CV → Value → Prop
  | .c x, v => RelC G w bx bl x v
  | .agg l, v => ∃ cs, v = .agg cs ∧ All2 (RelC G w bx bl) l cs.toList
def RelAV (G : Gh) (w : World) (bx : List (Nat × List AC)) (bl : List (Nat × Option Blk)) : AV → Value → Prop
  | .v x, v => RelCV G w bx bl x v
  | .tup l, v => ∃ vs, v = .tuple vs ∧ All2 (RelCV G w bx bl) l vs.toList

/-- The elements of a row: xs read out of the row's cells. -/
def ElsIn (w : World) (ok : Nat → Prop) (t : Ty) (cs : List Value) (xs : List t.D) : Prop :=
  ∀ j x, xs[j]? = some x → ∃ c, Rd w ok t x c ∧ ∀ i u, c[i]? = some u → cs[j * t.n + i]? = some u

structure BlkOk (G : Gh) (w : World) (id : Nat) (b : Blk) : Prop where
  wr : b.w = true → ∃ cs, w.ownsRow 0 b.e b.t.n (G.hv id) b.xs.length cs ∧ (∀ g, (G.hv id).ownBlock = some g → G.own g = some (.bl id)) ∧ ElsIn w (RO G b.f) b.t cs b.xs
  rd : b.w = false → Rd w (RO G b.f) (.sl b.e b.t) b.xs [G.hv id]
  pos : 0 < b.t.n

/-- What stood stays, but for the blocks fr. -/
structure Keeps (fr : Nat → Prop) (w w' : World) : Prop where
  os : w'.os = w.os
  tape : w'.tape = w.tape
  output : w'.output = w.output
  size : w.heap.size ≤ w'.heap.size
  block : ∀ k, k < w.heap.size → ¬ fr k → w'.heap[k]? = w.heap[k]?
theorem Keeps.refl (fr : Nat → Prop) (w : World) : Keeps fr w w := ⟨rfl, rfl, rfl, Nat.le_refl _, fun _ _ _ => rfl⟩
theorem Keeps.trans {fr : Nat → Prop} {a b c : World} (h : Keeps fr a b) (k : Keeps fr b c) : Keeps fr a c :=
  ⟨k.os.trans h.os, k.tape.trans h.tape, k.output.trans h.output, Nat.le_trans h.size k.size, fun i hi hf => (k.block i (Nat.lt_of_lt_of_le hi h.size) hf).trans (h.block i hi hf)⟩
/-- Behind a step that turns one block of the call's own at the most. -/
theorem Keeps.step {fr : Nat → Prop} {a w w' : World} (h : Keeps fr a w) (ho : w'.os = w.os) (ht : w'.tape = w.tape) (hu : w'.output = w.output) (hs : w.heap.size ≤ w'.heap.size)
    (hb : ∀ k, k < a.heap.size → ¬ fr k → w'.heap[k]? = w.heap[k]?) : Keeps fr a w' :=
  ⟨ho.trans h.os, ht.trans h.tape, hu.trans h.output, Nat.le_trans h.size hs, fun i hi hf => (hb i hi hf).trans (h.block i hi hf)⟩
theorem Keeps.below {fr : Nat → Prop} {w w' : World} (h : Keeps fr w w') (hf : ∀ b, ¬ fr b) : Below w.heap.size w w' := ⟨h.os, h.tape, h.output, h.size, fun k hk => h.block k hk (hf k)⟩
/-- Where a call began: its memory, what its arguments' readers may read, what counts as new, which blocks it was handed as its own. -/
structure Root where
  w : World
  ok : Nat → Prop
  nw : Nat → Prop
  fr : Nat → Prop
  hnw : ∀ b, w.heap.size ≤ b → nw b
  hfr : ∀ b, fr b → nw b
  pv : Value := .slice none 0 0     -- the parameter that was handed over
  hd : Nat → Option (Bool × Obj) := fun _ => none     -- blocks made ahead of their turn (true); blocks that nobody owns (false)

def hdKey : Bool → Option Key
  | true => some .hid
  | false => none
structure Inv (w0 : Root) (G : Gh) (st : St) (a : Act) (w : World) : Prop where
  nw : G.nw = w0.nw
  rok : G.ok = w0.ok
  below : Keeps w0.fr w0.w w
  defers : a.defers = []
  size : a.tmps.size = st.nt
  sp : RelAV G w st.bx st.bl st.sp w0.pv
  hd : ∀ g b o, w0.hd g = some (b, o) → G.own g = hdKey b ∧ g < w.heap.size ∧ w.heap[g]? = some o
  tm : ∀ t v, look st.tm t = some v → RelAV G w st.bx st.bl v (a.tmps.getD t undef)
  bx : ∀ d l, look st.bx d = some l → ∃ cs e, w.heap[G.hb d]? = some (.cells cs e (0, 0)) ∧ G.own (G.hb d) = some (.bx d) ∧ All2 (RelC G w st.bx st.bl) l cs.toList
  bl : ∀ id b, look st.bl id = some (some b) → BlkOk G w id b
  own : ∀ g k, G.own g = some k → (w0.w.heap.size ≤ g ∨ w0.fr g) ∧ g < w.heap.size ∧ match k with
    | .bx d => (look st.bx d).isSome = true ∧ g = G.hb d
    | .bl id => (look st.bl id).isSome = true ∧ (G.hv id).ownBlock = some g
    | .hid => True

theorem Inv.setRob {w0 : Root} {G : Gh} {st : St} {a : Act} {w : World} (h : Inv w0 G st a w) (l : List Nat) : Inv w0 G { st with rob := l } a w := ⟨h.nw, h.rok, h.below, h.defers, h.size, h.sp, h.hd, h.tm, h.bx, h.bl, h.own⟩
theorem Inv.ownNw {w0 : Root} {G : Gh} {st : St} {a : Act} {w : World} (h : Inv w0 G st a w) {g : Nat} {k : Key} (hg : G.own g = some k) : G.nw g := by
  rw [h.nw]
  rcases (h.own g k hg).1 with h1 | h1
  · exact w0.hnw g h1
  · exact w0.hfr g h1
theorem Inv.newNw {w0 : Root} {G : Gh} {st : St} {a : Act} {w : World} (h : Inv w0 G st a w) {g : Nat} (hg : w.heap.size ≤ g) : G.nw g := by
  rw [h.nw]
  exact w0.hnw g (Nat.le_trans h.below.size hg)

/-! ### Steps -/
/-- What nobody writes to stays. -/
structure Ext (G : Gh) (w : World) (G' : Gh) (w' : World) : Prop where
  nw : G'.nw = G.nw
  ok : G'.ok = G.ok
  size : w.heap.size ≤ w'.heap.size
  ro : ∀ b, b < w.heap.size → G.own b = none → G'.own b = none ∧ w'.heap[b]? = w.heap[b]?
  hid : ∀ b, b < w.heap.size → G.own b = some .hid → G'.own b = some .hid ∧ w'.heap[b]? = w.heap[b]?
theorem Inv.hdMono {w0 : Root} {G G' : Gh} {st : St} {a : Act} {w w' : World} (h : Inv w0 G st a w) (hx : Ext G w G' w') : ∀ g b o, w0.hd g = some (b, o) → G'.own g = hdKey b ∧ g < w'.heap.size ∧ w'.heap[g]? = some o := by
  intro g b o hm
  obtain ⟨h1, h2, h3⟩ := h.hd g b o hm
  cases b with
  | true =>
    obtain ⟨h4, h5⟩ := hx.hid g h2 h1
    exact ⟨h4, Nat.lt_of_lt_of_le h2 hx.size, h5.trans h3⟩
  | false =>
    obtain ⟨h4, h5⟩ := hx.ro g h2 h1
    exact ⟨h4, Nat.lt_of_lt_of_le h2 hx.size, h5.trans h3⟩
structure Ext0 (G : Gh) (w : World) (G' : Gh) (w' : World) : Prop where
  nw : G'.nw = G.nw
  ok : G'.ok = G.ok
  size : w.heap.size ≤ w'.heap.size
  ro : ∀ b, b < w.heap.size → G.own b = none → G'.own b = none ∧ w'.heap[b]? = w.heap[b]?
theorem Ext.e0 {G G' : Gh} {w w' : World} (h : Ext G w G' w') : Ext0 G w G' w' := ⟨h.nw, h.ok, h.size, h.ro⟩

theorem Ext0.rd {G G' : Gh} {w w' : World} (h : Ext0 G w G' w') {f : Bool} {t : Ty} {x : t.D} {cs : List Value} (hr : Rd w (RO G f) t x cs) : Rd w' (RO G' f) t x cs :=
  hr.mono h.size fun b hb hok => ⟨⟨(h.ro b hb hok.1).1, by rw [h.nw, h.ok]; exact hok.2⟩, (h.ro b hb hok.1).2⟩

/-- What is known by name stays known. -/
structure StLe (G : Gh) (bx : List (Nat × List AC)) (bl : List (Nat × Option Blk)) (G' : Gh) (bx' : List (Nat × List AC)) (bl' : List (Nat × Option Blk)) : Prop where
  bx : ∀ d, (look bx d).isSome = true → (look bx' d).isSome = true ∧ G'.hb d = G.hb d
  bl : ∀ id, (look bl id).isSome = true → (look bl' id).isSome = true ∧ G'.hv id = G.hv id ∧ ∀ b', look bl' id = some (some b') → ∃ b, look bl id = some (some b) ∧ b.t = b'.t

theorem RelC.mono0 {G G' : Gh} {w w' : World} {bx bx' : List (Nat × List AC)} {bl bl' : List (Nat × Option Blk)} (hx : Ext0 G w G' w') (hs : StLe G bx bl G' bx' bl') :
    ∀ {c : AC} {v : Value}, RelC G w bx bl c v → RelC G' w' bx' bl' c v
  | .none, _, _ => trivial
  | .int _ _, _, h => h
  | .bool _, _, h => h
  | .str _, _, h => h
  | .nil, _, h => h
  | .ro f e t xs, _, h => hx.rd (t := .sl e t) h
  | .own id none, v, h => ⟨(hs.bl id h.1).1, by rw [(hs.bl id h.1).2.1]; exact h.2.1, by rw [(hs.bl id h.1).2.1]; exact h.2.2⟩
  | .own id (some l), v, h => by
    obtain ⟨h1, h0, A, n, cap, hv, hl, rfl⟩ := h
    exact ⟨(hs.bl id h1).1, h0, A, n, cap, by rw [(hs.bl id h1).2.1]; exact hv, hl, rfl⟩
  | .ptr b off, v, h => ⟨(hs.bx b h.1).1, by rw [(hs.bx b h.1).2]; exact h.2⟩
  | .fnp g b, v, h => ⟨(hs.bx b h.1).1, by rw [(hs.bx b h.1).2]; exact h.2⟩
  | .eown id i off, v, h => by
    obtain ⟨h1, hone, h0, g, o, n, cap, hv, hi, h⟩ := h
    refine ⟨(hs.bl id h1).1, hone, h0, g, o, n, cap, by rw [(hs.bl id h1).2.1]; exact hv, hi, fun b' hb' => ?_⟩
    obtain ⟨b, hb, ht⟩ := (hs.bl id h1).2.2 b' hb'
    rw [← ht]
    exact h b hb
  | .ero f t x off, v, h => by
    obtain ⟨b, o, c, hv, hb, hok, hr, hc⟩ := h
    obtain ⟨ho', hh⟩ := hx.ro b hb hok.1
    exact ⟨b, o, c, hv, Nat.lt_of_lt_of_le hb hx.size, ⟨ho', by rw [hx.nw, hx.ok]; exact hok.2⟩, hx.rd hr, fun i u hu => by rw [cell_of_heap hh]; exact hc i u hu⟩

theorem RelCV.mono0 {G G' : Gh} {w w' : World} {bx bx' : List (Nat × List AC)} {bl bl' : List (Nat × Option Blk)} (hx : Ext0 G w G' w') (hs : StLe G bx bl G' bx' bl')
    {c : CV} {v : Value} (h : RelCV G w bx bl c v) : RelCV G' w' bx' bl' c v := by
  cases c with
  | c x => exact RelC.mono0 hx hs (c := x) h
  | agg l =>
    obtain ⟨cs, rfl, h⟩ := h
    exact ⟨cs, rfl, h.imp fun _ _ => RelC.mono0 hx hs⟩
theorem RelAV.mono0 {G G' : Gh} {w w' : World} {bx bx' : List (Nat × List AC)} {bl bl' : List (Nat × Option Blk)} (hx : Ext0 G w G' w') (hs : StLe G bx bl G' bx' bl')
    {c : AV} {v : Value} (h : RelAV G w bx bl c v) : RelAV G' w' bx' bl' c v := by
  cases c with
  | v x => exact RelCV.mono0 hx hs (c := x) h
  | tup l =>
    obtain ⟨cs, rfl, h⟩ := h
    exact ⟨cs, rfl, h.imp fun _ _ => RelCV.mono0 hx hs⟩

theorem ElsIn.mono0 {G G' : Gh} {w w' : World} (hx : Ext0 G w G' w') {f : Bool} {t : Ty} {cs : List Value} {xs : List t.D} (h : ElsIn w (RO G f) t cs xs) : ElsIn w' (RO G' f) t cs xs := by
  intro j x hj
  obtain ⟨c, hr, hc⟩ := h j x hj
  exact ⟨c, hx.rd hr, hc⟩

/-- An own row stays where its block does. -/
theorem ownsRow_same {w w' : World} {base : Nat} {e : TypeId} {size n : Nat} {v : Value} {cs : List Value} (h : w.ownsRow base e size v n cs) (hb : ∀ g, v.ownBlock = some g → w'.heap[g]? = w.heap[g]?) : w'.ownsRow base e size v n cs := by
  obtain ⟨h1, h2⟩ := h
  refine ⟨h1, ?_⟩
  rcases h2 with h2 | ⟨g, cap, cur, rfl, hg, hh, r⟩
  · exact .inl h2
  · exact .inr ⟨g, cap, cur, rfl, hg, by rw [hb g rfl]; exact hh, r⟩

theorem BlkOk.mono0 {G G' : Gh} {w w' : World} (hx : Ext0 G w G' w') {id : Nat} {b : Blk} (hv : G'.hv id = G.hv id)
    (ho : b.w = true → ∀ g, (G.hv id).ownBlock = some g → G.own g = some (.bl id) → G'.own g = some (.bl id) ∧ w'.heap[g]? = w.heap[g]?) (h : BlkOk G w id b) : BlkOk G' w' id b where
  wr hw := by
    obtain ⟨cs, h1, h2, h3⟩ := h.wr hw
    refine ⟨cs, ?_, ?_, h3.mono0 hx⟩
    · rw [hv]
      exact ownsRow_same h1 fun g hg => (ho hw g hg (h2 g hg)).2
    · rw [hv]
      exact fun g hg => (ho hw g hg (h2 g hg)).1
  rd hw := by
    rw [hv]
    exact hx.rd (h.rd hw)
  pos := h.pos

theorem Ext.rd {G G' : Gh} {w w' : World} (h : Ext G w G' w') {f : Bool} {t : Ty} {x : t.D} {cs : List Value} (hr : Rd w (RO G f) t x cs) : Rd w' (RO G' f) t x cs := h.e0.rd hr
theorem RelC.mono {G G' : Gh} {w w' : World} {bx bx' : List (Nat × List AC)} {bl bl' : List (Nat × Option Blk)} (hx : Ext G w G' w') (hs : StLe G bx bl G' bx' bl') {c : AC} {v : Value} (h : RelC G w bx bl c v) : RelC G' w' bx' bl' c v := RelC.mono0 hx.e0 hs h
theorem RelCV.mono {G G' : Gh} {w w' : World} {bx bx' : List (Nat × List AC)} {bl bl' : List (Nat × Option Blk)} (hx : Ext G w G' w') (hs : StLe G bx bl G' bx' bl') {c : CV} {v : Value} (h : RelCV G w bx bl c v) : RelCV G' w' bx' bl' c v := RelCV.mono0 hx.e0 hs h
theorem RelAV.mono {G G' : Gh} {w w' : World} {bx bx' : List (Nat × List AC)} {bl bl' : List (Nat × Option Blk)} (hx : Ext G w G' w') (hs : StLe G bx bl G' bx' bl') {c : AV} {v : Value} (h : RelAV G w bx bl c v) : RelAV G' w' bx' bl' c v := RelAV.mono0 hx.e0 hs h
theorem ElsIn.mono {G G' : Gh} {w w' : World} (hx : Ext G w G' w') {f : Bool} {t : Ty} {cs : List Value} {xs : List t.D} (h : ElsIn w (RO G f) t cs xs) : ElsIn w' (RO G' f) t cs xs := h.mono0 hx.e0
theorem BlkOk.mono {G G' : Gh} {w w' : World} (hx : Ext G w G' w') {id : Nat} {b : Blk} (hv : G'.hv id = G.hv id)
    (ho : b.w = true → ∀ g, (G.hv id).ownBlock = some g → G.own g = some (.bl id) → G'.own g = some (.bl id) ∧ w'.heap[g]? = w.heap[g]?) (h : BlkOk G w id b) : BlkOk G' w' id b := BlkOk.mono0 hx.e0 hv ho h

theorem look_cons {α : Type} (k n : Nat) (v : α) (l : List (Nat × α)) : look ((k, v) :: l) n = if k = n then some v else look l n := by
  show (match Nat.beq k n with | true => some v | false => look l n) = _
  by_cases h : k = n
  · subst h
    simp
  · have : Nat.beq k n = false := by rw [← Bool.not_eq_true, Nat.beq_eq]; exact h
    rw [this, if_neg h]
theorem look_append {α : Type} (n : Nat) : ∀ (q l : List (Nat × α)), look (q ++ l) n = match look q n with | some v => some v | none => look l n
  | [], l => rfl
  | (k, v) :: q, l => by
    rw [List.cons_append, look_cons, look_cons, look_append n q l]
    split <;> rfl

/-! ### The frame's slots -/
theorem Inv.put {w0 : Root} {w : World} {G : Gh} {st : St} {a : Act} (h : Inv w0 G st a w) (d : Tmp) (hd : d < st.nt) {v : AV} {u : Value} (hv : RelAV G w st.bx st.bl v u) : Inv w0 G (st.put d v) (a.put (some d) u) w where
  nw := h.nw
  rok := h.rok
  below := h.below
  defers := h.defers
  size := by simp [Act.put, St.put, h.size]
  sp := h.sp
  hd := h.hd
  tm t x hx := by
    simp only [St.put, look_cons] at hx
    by_cases ht : d = t
    · subst ht
      simp only [if_true] at hx
      cases hx
      have : (a.put (some d) u).tmps.getD d undef = u := by
        have : d < a.tmps.size := by rw [h.size]; exact hd
        simp [Act.put, Array.getD_eq_getD_getElem?, this]
      rw [this]
      exact hv
    · simp only [ht, if_false] at hx
      have := h.tm t x hx
      have he : (a.put (some d) u).tmps.getD t undef = a.tmps.getD t undef := by
        simp [Act.put, Array.getD_eq_getD_getElem?, Array.getElem?_setIfInBounds, ht]
      rw [he]
      exact this
  bx := h.bx
  bl := h.bl
  own := h.own

/-! ### New rows -/
def Gh.grow (G : Gh) (row : Option Nat) (q : List (Nat × Option Blk)) (hv' : Nat → Value) (nw : Nat → Option Nat) : Gh :=
  { nw := G.nw, ok := G.ok, hb := G.hb,
    own := fun g => match nw g with | some id => some (.bl id) | none => if row = some g then none else G.own g,
    hv := fun id => if (look q id).isSome then hv' id else G.hv id }

theorem Inv.grow {w0 : Root} {w w' : World} {G : Gh} {st : St} {a : Act} (h : Inv w0 G st a w) (row : Option Nat) (hg : w.grownBy w' row)
    (hrow : ∀ g, row = some g → ∃ id, G.own g = some (.bl id) ∧ look st.bl id = some none)
    (q : List (Nat × Option Blk)) (hv' : Nat → Value) (nw : Nat → Option Nat)
    (hq : ∀ id, (look q id).isSome = true → look st.bl id = none)
    (hn : ∀ g id, nw g = some id → (look q id).isSome = true ∧ (hv' id).ownBlock = some g ∧ g < w'.heap.size ∧ (w.heap.size ≤ g ∨ row = some g))
    (hb : ∀ id b, look q id = some (some b) → BlkOk (G.grow row q hv' nw) w' id b) :
    Inv w0 (G.grow row q hv' nw) { st with bl := q ++ st.bl } a w' ∧ Ext G w (G.grow row q hv' nw) w' ∧ StLe G st.bx st.bl (G.grow row q hv' nw) st.bx (q ++ st.bl) := by
  have hbase : w0.w.heap.size ≤ w.heap.size := h.below.size
  -- an old block that isn't the row
  have hold : ∀ g, g < w.heap.size → row ≠ some g → (G.grow row q hv' nw).own g = G.own g ∧ w'.heap[g]? = w.heap[g]? := by
    intro g hlt hne
    refine ⟨?_, hg.block g hlt (fun e => hne e.symm)⟩
    unfold Gh.grow
    dsimp only
    cases hnw : nw g with
    | none => simp [hne]
    | some id =>
      obtain ⟨_, _, _, h4⟩ := hn g id hnw
      rcases h4 with h4 | h4
      · omega
      · exact absurd h4 hne
  have hx : Ext G w (G.grow row q hv' nw) w' := by
    have key : ∀ b x, b < w.heap.size → G.own b = x → (∀ id, x ≠ some (.bl id)) → (G.grow row q hv' nw).own b = x ∧ w'.heap[b]? = w.heap[b]? := by
      intro b x hb ho hx
      have hne : row ≠ some b := by
        intro e
        obtain ⟨id, h1, _⟩ := hrow b e
        exact hx id (ho.symm.trans h1)
      obtain ⟨h1, h2⟩ := hold b hb hne
      exact ⟨h1.trans ho, h2⟩
    exact ⟨rfl, rfl, hg.size, fun b hb ho => key b _ hb ho (by simp), fun b hb ho => key b _ hb ho (by simp)⟩
  have hlook : ∀ id, (look st.bl id).isSome = true → look (q ++ st.bl) id = look st.bl id ∧ (look q id).isSome = false := by
    intro id hs
    have hqn : (look q id).isSome = false := by
      cases hqs : (look q id).isSome with
      | false => rfl
      | true => rw [hq id hqs] at hs; cases hs
    refine ⟨?_, hqn⟩
    rw [look_append]
    cases hql : look q id with
    | none => rfl
    | some x => rw [hql] at hqn; cases hqn
  have hs : StLe G st.bx st.bl (G.grow row q hv' nw) st.bx (q ++ st.bl) := by
    refine ⟨fun d hd => ⟨hd, rfl⟩, fun id hd => ?_⟩
    obtain ⟨h1, h2⟩ := hlook id hd
    rw [h1]
    refine ⟨hd, ?_, fun b' hb' => ⟨b', hb', rfl⟩⟩
    simp [Gh.grow, h2]
  refine ⟨⟨h.nw, h.rok, ?_, h.defers, h.size, h.sp.mono hx hs, h.hdMono hx, ?_, ?_, ?_, ?_⟩, hx, hs⟩
  · refine h.below.step hg.os hg.tape hg.output hg.size fun k hk hf => hg.block k (Nat.lt_of_lt_of_le hk hbase) fun e => ?_
    obtain ⟨id, h1, _⟩ := hrow k e.symm
    rcases (h.own k _ h1).1 with h2 | h2
    · omega
    · exact hf h2
  · exact fun t v hv => (h.tm t v hv).mono hx hs
  · intro d l hd
    obtain ⟨cs, e, h1, h2, h3⟩ := h.bx d l hd
    have hlt := (h.own _ _ h2).2.1
    have hne : row ≠ some (G.hb d) := by
      intro e
      obtain ⟨id, h4, _⟩ := hrow _ e
      rw [h2] at h4
      cases h4
    obtain ⟨h4, h5⟩ := hold _ hlt hne
    exact ⟨cs, e, h5.trans h1, h4.trans h2, h3.imp fun _ _ => RelC.mono hx hs⟩
  · intro id b hl
    rw [look_append] at hl
    cases hql : look q id with
    | some x =>
      rw [hql] at hl
      cases hl
      exact hb id b hql
    | none =>
      rw [hql] at hl
      dsimp only at hl
      refine (h.bl id b hl).mono hx (by simp [Gh.grow, hql]) fun hw g hgo hown => ?_
      have hlt := (h.own _ _ hown).2.1
      have hne : row ≠ some g := by
        intro e
        obtain ⟨id', h4, h5⟩ := hrow _ e
        rw [hown] at h4
        cases h4
        rw [hl] at h5
        cases h5
      obtain ⟨h4, h5⟩ := hold _ hlt hne
      exact ⟨h4.trans hown, h5⟩
  · intro g k hk
    have hk0 := hk
    unfold Gh.grow at hk
    dsimp only at hk
    cases hnw : nw g with
    | some id =>
      rw [hnw] at hk
      cases hk
      obtain ⟨h1, h2, h3, h4⟩ := hn g id hnw
      refine ⟨?_, h3, ?_, ?_⟩
      · rcases h4 with h4 | h4
        · exact .inl (by omega)
        · obtain ⟨id', h5, _⟩ := hrow g h4
          exact (h.own _ _ h5).1
      · show (look (q ++ st.bl) id).isSome = true
        rw [look_append]
        cases hql : look q id with
        | none => rw [hql] at h1; cases h1
        | some x => rfl
      · show ((G.grow row q hv' nw).hv id).ownBlock = some g
        simp [Gh.grow, h1, h2]
    | none =>
      rw [hnw] at hk
      dsimp only at hk
      by_cases hr : row = some g
      · simp [hr] at hk
      · simp only [hr, if_false] at hk
        obtain ⟨h1, h2, h3⟩ := h.own g k hk
        refine ⟨h1, Nat.lt_of_lt_of_le h2 hg.size, ?_⟩
        cases k with
        | hid => trivial
        | bx d => exact h3
        | bl id =>
          obtain ⟨h4, h5⟩ := hlook id h3.1
          refine ⟨?_, ?_⟩
          · show (look (q ++ st.bl) id).isSome = true
            rw [h4]; exact h3.1
          · show ((G.grow row q hv' nw).hv id).ownBlock = some g
            simp only [Gh.grow, h5, Bool.false_eq_true, if_false]
            exact h3.2

/-! ### A new box -/
def Gh.box (G : Gh) (d g0 : Nat) : Gh :=
  { nw := G.nw, ok := G.ok, hv := G.hv, hb := fun x => if x = d then g0 else G.hb x, own := fun g => if g = g0 then some (.bx d) else G.own g }

theorem Inv.box {w0 : Root} {w : World} {G : Gh} {st : St} {a : Act} (h : Inv w0 G st a w) (d : Nat) (hd : look st.bx d = none) (cs : Array Value) (e : TypeId) (l : List AC)
    (hl : All2 (RelC G w st.bx st.bl) l cs.toList) :
    Inv w0 (G.box d w.heap.size) { st with bx := (d, l) :: st.bx } a (w.alloc (.cells cs e)) ∧ Ext G w (G.box d w.heap.size) (w.alloc (.cells cs e)) ∧
      StLe G st.bx st.bl (G.box d w.heap.size) ((d, l) :: st.bx) st.bl := by
  have hx : Ext G w (G.box d w.heap.size) (w.alloc (.cells cs e)) := by
    refine ⟨rfl, rfl, by simp, fun b hb ho => ⟨?_, Below.heap_alloc _ _ _ hb⟩, fun b hb ho => ⟨?_, Below.heap_alloc _ _ _ hb⟩⟩ <;>
    · have : b ≠ w.heap.size := by omega
      simp [Gh.box, this, ho]
  have hne : ∀ x, (look st.bx x).isSome = true → x ≠ d := by
    rintro x hs rfl
    rw [hd] at hs
    cases hs
  have hs : StLe G st.bx st.bl (G.box d w.heap.size) ((d, l) :: st.bx) st.bl := by
    refine ⟨fun x hs => ⟨?_, ?_⟩, fun id hd => ⟨hd, rfl, fun b' hb' => ⟨b', hb', rfl⟩⟩⟩
    · rw [look_cons]
      split
      · rfl
      · exact hs
    · simp [Gh.box, hne x hs]
  refine ⟨⟨h.nw, h.rok, h.below.step rfl rfl rfl (by simp) (fun k hk _ => Below.heap_alloc _ _ _ (Nat.lt_of_lt_of_le hk h.below.size)), h.defers, h.size, h.sp.mono hx hs, h.hdMono hx, ?_, ?_, ?_, ?_⟩, hx, hs⟩
  · exact fun t v hv => (h.tm t v hv).mono hx hs
  · intro x m hm
    show ∃ cs_1 e_1, _
    simp only [look_cons] at hm
    by_cases hxd : d = x
    · subst hxd
      simp only [if_true] at hm
      cases hm
      refine ⟨cs, e, ?_, ?_, hl.imp fun _ _ => RelC.mono hx hs⟩
      · show (w.alloc _).heap[(G.box d w.heap.size).hb d]? = _
        simp only [Gh.box, if_true]
        exact heap_alloc_new w _
      · simp [Gh.box]
    · simp only [hxd, if_false] at hm
      obtain ⟨cs', e', h1, h2, h3⟩ := h.bx x m hm
      have hlt := (h.own _ _ h2).2.1
      have hxd' : x ≠ d := fun e => hxd e.symm
      refine ⟨cs', e', ?_, ?_, h3.imp fun _ _ => RelC.mono hx hs⟩
      · show (w.alloc _).heap[(G.box d w.heap.size).hb x]? = _
        simp only [Gh.box, hxd', if_false]
        rw [Below.heap_alloc _ _ _ hlt]
        exact h1
      · have : G.hb x ≠ w.heap.size := by omega
        simp [Gh.box, hxd', this, h2]
  · intro id b hb
    refine (h.bl id b hb).mono hx rfl fun hw g hgo hown => ?_
    have hlt := (h.own _ _ hown).2.1
    refine ⟨?_, Below.heap_alloc _ _ _ hlt⟩
    have : g ≠ w.heap.size := by omega
    simp [Gh.box, this, hown]
  · intro g k hk
    by_cases hg : g = w.heap.size
    · subst hg
      simp only [Gh.box, if_true] at hk
      cases hk
      refine ⟨.inl h.below.size, by simp, ?_, by simp [Gh.box]⟩
      · simp [look_cons]
    · simp only [Gh.box, hg, if_false] at hk
      obtain ⟨h1, h2, h3⟩ := h.own g k hk
      refine ⟨h1, by simp; omega, ?_⟩
      cases k with
      | hid => trivial
      | bx x =>
        obtain ⟨h4, h5⟩ := hs.bx x h3.1
        exact ⟨h4, by rw [h5]; exact h3.2⟩
      | bl id => exact h3

/-! ### A box, an own row: written -/
theorem setRow_ne {w : World} {g k : Nat} {cs : Array Value} (h : k ≠ g) : (w.setRow g cs).heap[k]? = w.heap[k]? := setRow_other w g k cs h

theorem setRow_ext {G : Gh} {w : World} {g : Nat} {cs : Array Value} {k : Key} (hk : G.own g = some k) (hn : k ≠ .hid) : Ext G w G (w.setRow g cs) := by
  refine ⟨rfl, rfl, by simp, fun b hb ho => ⟨ho, setRow_ne ?_⟩, fun b hb ho => ⟨ho, setRow_ne ?_⟩⟩
  · rintro rfl
    rw [hk] at ho
    cases ho
  · rintro rfl
    rw [hk] at ho
    cases ho
    exact hn rfl

theorem isSome_cons {α : Type} {n k : Nat} {l : List (Nat × α)} (v : α) (_ : True := trivial) (h : (look l n).isSome = true) : (look ((k, v) :: l) n).isSome = true := by
  rw [look_cons]
  split
  · rfl
  · exact h
theorem StLe.refl (G : Gh) (bx : List (Nat × List AC)) (bl : List (Nat × Option Blk)) : StLe G bx bl G bx bl :=
  ⟨fun _ h => ⟨h, rfl⟩, fun _ h => ⟨h, rfl, fun b' hb' => ⟨b', hb', rfl⟩⟩⟩
theorem StLe.bxCons (G : Gh) (bx : List (Nat × List AC)) (bl : List (Nat × Option Blk)) (b : Nat) (l : List AC) : StLe G bx bl G ((b, l) :: bx) bl :=
  ⟨fun d h => ⟨isSome_cons _ trivial h, rfl⟩, fun _ h => ⟨h, rfl, fun b' hb' => ⟨b', hb', rfl⟩⟩⟩
theorem StLe.blCons {G : Gh} {bx : List (Nat × List AC)} {bl : List (Nat × Option Blk)} {G' : Gh} (id : Nat) (x : Option Blk) (hb : G'.hb = G.hb) (hv : G'.hv = G.hv)
    (hx : ∀ b', x = some b' → ∃ b, look bl id = some (some b) ∧ b.t = b'.t) : StLe G bx bl G' bx ((id, x) :: bl) :=
  ⟨fun d h => ⟨h, by rw [hb]⟩, fun i h => by
    refine ⟨isSome_cons _ trivial h, by rw [hv], fun b' hb' => ?_⟩
    rw [look_cons] at hb'
    by_cases hi : id = i
    · subst hi
      simp only [if_true] at hb'
      cases hb'
      exact hx b' rfl
    · simp only [hi, if_false] at hb'
      exact ⟨b', hb', rfl⟩⟩

theorem Inv.setBox {w0 : Root} {w : World} {G : Gh} {st : St} {a : Act} (h : Inv w0 G st a w) (b : Nat) (l : List AC) (hl : look st.bx b = some l) (cs' : Array Value) (l' : List AC)
    (hr : All2 (RelC G w st.bx st.bl) l' cs'.toList) : Inv w0 G { st with bx := (b, l') :: st.bx } a (w.setRow (G.hb b) cs') := by
  obtain ⟨cs, e, hh, hown, _⟩ := h.bx b l hl
  have hx := setRow_ext (w := w) (cs := cs') hown (by simp)
  have hs := StLe.bxCons G st.bx st.bl b l'
  have hbase := (h.own _ _ hown).1
  refine ⟨h.nw, h.rok, ?_, h.defers, h.size, h.sp.mono hx hs, h.hdMono hx, ?_, ?_, ?_, ?_⟩
  · refine h.below.step rfl rfl rfl (by simp) fun k hk hf => setRow_ne ?_
    rintro rfl
    rcases hbase with hb | hb
    · omega
    · exact hf hb
  · exact fun t v hv => (h.tm t v hv).mono hx hs
  · intro d m hm
    simp only [look_cons] at hm
    by_cases hd : b = d
    · subst hd
      simp only [if_true] at hm
      cases hm
      exact ⟨cs', e, setRow_heap w _ cs _ e _ hh, hown, hr.imp fun _ _ => RelC.mono hx hs⟩
    · simp only [hd, if_false] at hm
      obtain ⟨cs2, e2, h1, h2, h3⟩ := h.bx d m hm
      refine ⟨cs2, e2, ?_, h2, h3.imp fun _ _ => RelC.mono hx hs⟩
      rw [setRow_ne]
      · exact h1
      · intro e3
        rw [e3, hown] at h2
        cases h2
        exact hd rfl
  · intro id bk hb
    refine (h.bl id bk hb).mono hx rfl fun hw g hg ho => ⟨ho, setRow_ne ?_⟩
    rintro rfl
    rw [hown] at ho
    cases ho
  · intro g k hk
    obtain ⟨h1, h2, h3⟩ := h.own g k hk
    refine ⟨h1, by simpa using h2, ?_⟩
    cases k with
    | hid => trivial
    | bx x => exact ⟨(hs.bx x h3.1).1, h3.2⟩
    | bl id => exact h3

theorem Inv.setElem {w0 : Root} {w : World} {G : Gh} {st : St} {a : Act} (h : Inv w0 G st a w) (id : Nat) (b : Blk) (hl : look st.bl id = some (some b)) (hw : b.w = true)
    (g : Nat) (hg : (G.hv id).ownBlock = some g) (cur' : Array Value) (b' : Blk) (ht : b'.t = b.t)
    (hb : BlkOk G (w.setRow g cur') id b') : Inv w0 G { st with bl := (id, some b') :: st.bl } a (w.setRow g cur') := by
  obtain ⟨cs, h1, h2, h3⟩ := (h.bl id b hl).wr hw
  have hown := h2 g hg
  have hx := setRow_ext (w := w) (cs := cur') hown (by simp)
  have hs : StLe G st.bx st.bl G st.bx ((id, some b') :: st.bl) := StLe.blCons id (some b') rfl rfl fun x hx => by cases hx; exact ⟨b, hl, ht.symm⟩
  have hbase := (h.own _ _ hown).1
  refine ⟨h.nw, h.rok, ?_, h.defers, h.size, h.sp.mono hx hs, h.hdMono hx, ?_, ?_, ?_, ?_⟩
  · refine h.below.step rfl rfl rfl (by simp) fun k hk hf => setRow_ne ?_
    rintro rfl
    rcases hbase with hb | hb
    · omega
    · exact hf hb
  · exact fun t v hv => (h.tm t v hv).mono hx hs
  · intro d m hm
    obtain ⟨cs2, e2, h4, h5, h6⟩ := h.bx d m hm
    refine ⟨cs2, e2, ?_, h5, h6.imp fun _ _ => RelC.mono hx hs⟩
    rw [setRow_ne]
    · exact h4
    · intro e3
      rw [e3, hown] at h5
      cases h5
  · intro i bk hbk
    simp only [look_cons] at hbk
    by_cases hi : id = i
    · subst hi
      simp only [if_true] at hbk
      cases hbk
      exact hb
    · simp only [hi, if_false] at hbk
      refine (h.bl i bk hbk).mono hx rfl fun hw g' hg' ho => ⟨ho, setRow_ne ?_⟩
      rintro rfl
      rw [hown] at ho
      cases ho
      exact hi rfl
  · intro g' k hk
    obtain ⟨h4, h5, h6⟩ := h.own g' k hk
    refine ⟨h4, by simpa using h5, ?_⟩
    cases k with
    | hid => trivial
    | bx x => exact h6
    | bl i => exact ⟨(hs.bl i h6.1).1, h6.2⟩

/-- An own row, read as memory that nobody writes to any more. -/
theorem rd_of_own {w : World} {ok : Nat → Prop} {base : Nat} {e : TypeId} {t : Ty} {v : Value} {cs : List Value} {xs : List t.D} (ho : w.ownsRow base e t.n v xs.length cs) (he : ElsIn w ok t cs xs)
    (hok : ∀ g, v.ownBlock = some g → ok g) (hp : 0 < t.n) : Rd w ok (.sl e t) xs [v] := by
  rcases ho.2 with ⟨rfl, hn⟩ | ⟨g, cap, cur, rfl, hb, hh, hc, hm, hs, htk⟩
  · refine ⟨none, 0, by rw [hn], by omega, by omega, fun h0 => by omega⟩
  · refine ⟨some ⟨g, 0, none⟩, cap, rfl, hc, ?_, fun h0 => ⟨g, 0, rfl, (Array.getElem?_eq_some_iff.1 hh).1, hok g rfl, fun j x hj => ?_⟩⟩
    · have : maxLen = 9223372036854775807 := rfl
      omega
    · obtain ⟨c, hr, hcell⟩ := he j x hj
      refine ⟨c, hr, fun i u hu => ?_⟩
      have := hcell i u hu
      rw [← htk] at this
      rw [Nat.zero_add]
      have h2 : w.cell? ⟨g, j * t.n + i, none⟩ = cur[j * t.n + i]? := cell_of_row w g _ cur e (0, 0) hh
      rw [h2]
      rw [List.getElem?_take] at this
      split at this
      · simpa using this
      · cases this

def Gh.drop (G : Gh) (id : Nat) : Gh :=
  { nw := G.nw, ok := G.ok, hb := G.hb, hv := G.hv, own := fun g => match G.own g with | some (.bl i) => if i = id then none else some (.bl i) | k => k }

theorem Gh.drop_none {G : Gh} {id g : Nat} (h : G.own g = none) : (G.drop id).own g = none := by simp [Gh.drop, h]
theorem Gh.drop_bx {G : Gh} {id g d : Nat} (h : G.own g = some (.bx d)) : (G.drop id).own g = some (.bx d) := by simp [Gh.drop, h]
theorem Gh.drop_bl {G : Gh} {id g i : Nat} (h : G.own g = some (.bl i)) (hi : i ≠ id) : (G.drop id).own g = some (.bl i) := by simp [Gh.drop, h, hi]
theorem Gh.drop_same {G : Gh} {id g : Nat} (h : G.own g = some (.bl id)) : (G.drop id).own g = none := by simp [Gh.drop, h]

theorem Inv.drop {w0 : Root} {w : World} {G : Gh} {st : St} {a : Act} (h : Inv w0 G st a w) (id : Nat) (b : Blk) (hl : look st.bl id = some (some b)) :
    Inv w0 (G.drop id) { st with bl := (id, some { b with w := false }) :: st.bl } a w ∧ Ext G w (G.drop id) w ∧ StLe G st.bx st.bl (G.drop id) st.bx ((id, some { b with w := false }) :: st.bl) := by
  have hx : Ext G w (G.drop id) w := ⟨rfl, rfl, Nat.le_refl _, fun g _ ho => ⟨Gh.drop_none ho, rfl⟩, fun g _ ho => ⟨by simp [Gh.drop, ho], rfl⟩⟩
  have hs : StLe G st.bx st.bl (G.drop id) st.bx ((id, some { b with w := false }) :: st.bl) := StLe.blCons id _ rfl rfl fun x hx => by cases hx; exact ⟨b, hl, rfl⟩
  refine ⟨⟨h.nw, h.rok, h.below, h.defers, h.size, h.sp.mono hx hs, h.hdMono hx, ?_, ?_, ?_, ?_⟩, hx, hs⟩
  · exact fun t v hv => (h.tm t v hv).mono hx hs
  · intro d m hm
    obtain ⟨cs2, e2, h4, h5, h6⟩ := h.bx d m hm
    exact ⟨cs2, e2, h4, Gh.drop_bx h5, h6.imp fun _ _ => RelC.mono hx hs⟩
  · intro i bk hbk
    simp only [look_cons] at hbk
    by_cases hi : id = i
    · subst hi
      simp only [if_true] at hbk
      cases hbk
      have hb := h.bl id b hl
      refine ⟨fun hw => by simp at hw, fun _ => ?_, hb.pos⟩
      cases hw : b.w with
      | false => exact hx.rd (hb.rd hw)
      | true =>
        obtain ⟨cs, h1, h2, h3⟩ := hb.wr hw
        refine rd_of_own h1 (h3.mono hx) (fun g hg => ⟨Gh.drop_same (h2 g hg), .inl ?_⟩) hb.pos
        exact h.ownNw (h2 g hg)
    · simp only [hi, if_false] at hbk
      exact (h.bl i bk hbk).mono hx rfl fun hw g' hg' ho => ⟨Gh.drop_bl ho (fun e => hi e.symm), rfl⟩
  · intro g k hk
    unfold Gh.drop at hk
    dsimp only at hk
    cases ho : G.own g with
    | none => rw [ho] at hk; cases hk
    | some k0 =>
      rw [ho] at hk
      obtain ⟨h4, h5, h6⟩ := h.own g k0 ho
      cases k0 with
      | hid => cases hk; exact ⟨h4, h5, trivial⟩
      | bx d =>
        cases hk
        exact ⟨h4, h5, h6⟩
      | bl i =>
        dsimp only at hk
        by_cases hi : i = id
        · simp [hi] at hk
        · simp only [hi, if_false] at hk
          cases hk
          exact ⟨h4, h5, (hs.bl i h6.1).1, h6.2⟩

theorem Inv.kill {w0 : Root} {w : World} {G : Gh} {st : St} {a : Act} (h : Inv w0 G st a w) (id : Nat) (hl : (look st.bl id).isSome = true) :
    Inv w0 G { st with bl := (id, none) :: st.bl } a w ∧ StLe G st.bx st.bl G st.bx ((id, none) :: st.bl) := by
  have hx : Ext G w G w := ⟨rfl, rfl, Nat.le_refl _, fun g _ ho => ⟨ho, rfl⟩, fun g _ ho => ⟨ho, rfl⟩⟩
  have hs : StLe G st.bx st.bl G st.bx ((id, none) :: st.bl) := StLe.blCons id none rfl rfl fun x hx => by cases hx
  refine ⟨⟨h.nw, h.rok, h.below, h.defers, h.size, h.sp.mono hx hs, h.hdMono hx, ?_, ?_, ?_, ?_⟩, hs⟩
  · exact fun t v hv => (h.tm t v hv).mono hx hs
  · intro d m hm
    obtain ⟨cs2, e2, h4, h5, h6⟩ := h.bx d m hm
    exact ⟨cs2, e2, h4, h5, h6.imp fun _ _ => RelC.mono hx hs⟩
  · intro i bk hbk
    simp only [look_cons] at hbk
    by_cases hi : id = i
    · simp [hi] at hbk
    · simp only [hi, if_false] at hbk
      exact h.bl i bk hbk
  · intro g k hk
    obtain ⟨h4, h5, h6⟩ := h.own g k hk
    refine ⟨h4, h5, ?_⟩
    cases k with
    | hid => trivial
    | bx x => exact h6
    | bl i => exact ⟨(hs.bl i h6.1).1, h6.2⟩
end Go.Am
