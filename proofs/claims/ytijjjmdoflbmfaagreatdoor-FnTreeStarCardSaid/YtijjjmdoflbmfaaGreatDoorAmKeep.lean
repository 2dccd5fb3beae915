/- What is kept at a loop's head: renamed, the memory as it was. No condition. -/
import Derived.Test.YtijjjmdoflbmfaaGreatDoorAmRun
set_option linter.unusedVariables false
set_option linter.unusedSimpArgs false
namespace Go.Am
open Go.RowKit
section
variable {P : Program} {w0 : Root} {w : World} {G : Gh} {st : St} {a : Act}

theorem idxOf_spec : ∀ {l : List Nat} {n k i : Nat}, idxOf l n k = some i → k ≤ i ∧ l[i - k]? = some n
  | [], _, _, _, h => by simp [idxOf] at h
  | x :: l, n, k, i, h => by
    simp only [idxOf] at h
    split at h
    · rename_i hb
      cases h
      have := beq_nat hb
      subst this
      exact ⟨Nat.le_refl _, by simp⟩
    · obtain ⟨h1, h2⟩ := idxOf_spec h
      refine ⟨by omega, ?_⟩
      have : i - k = (i - (k + 1)) + 1 := by omega
      rw [this]
      simpa using h2

theorem look_blsOf {st : St} {env : List Nat} : ∀ {l : List Nat} {i n : Nat} {x : Option Blk}, look (blsOf st env i l) n = some x →
    ∃ j id, n = 1000000 + (i + j) ∧ l[j]? = some id ∧ ∀ b, x = some b → idxOf env id 0 = some (i + j) ∧ st.blk id = some b
  | [], i, n, x, h => by simp [blsOf, look] at h
  | id :: l, i, n, x, h => by
    simp only [blsOf] at h
    rw [look_cons] at h
    by_cases hn : 1000000 + i = n
    · simp only [hn, if_true] at h
      refine ⟨0, id, by omega, rfl, fun b hb => ?_⟩
      cases h
      split at hb
      · rename_i j hj
        split at hb
        · rename_i hji
          have := beq_nat hji
          subst this
          exact ⟨hj, hb⟩
        · cases hb
      · cases hb
    · simp only [hn, if_false] at h
      obtain ⟨j, id', h1, h2, h3⟩ := look_blsOf h
      refine ⟨j + 1, id', by omega, by simpa using h2, fun b hb => ?_⟩
      obtain ⟨h4, h5⟩ := h3 b hb
      exact ⟨by rw [h4]; congr 1; omega, h5⟩
theorem look_blsOf_some {st : St} {env : List Nat} : ∀ {l : List Nat} {i j : Nat}, j < l.length → (look (blsOf st env i l) (1000000 + (i + j))).isSome = true
  | [], i, j, h => by simp at h
  | id :: l, i, j, h => by
    simp only [blsOf]
    rw [look_cons]
    split
    · rfl
    · cases j with
      | zero => simp at *
      | succ j =>
        have := look_blsOf_some (st := st) (env := env) (l := l) (i := i + 1) (j := j) (by simpa using h)
        rw [show i + (j + 1) = i + 1 + j by omega]
        exact this

theorem look_mapK {α β : Type} (f : Nat → β) : ∀ {bs : List Nat} {n : Nat} {x : β}, look (bs.map fun b => (b, f b)) n = some x → n ∈ bs ∧ x = f n
  | [], n, x, h => by simp [look] at h
  | b :: bs, n, x, h => by
    rw [List.map_cons, look_cons] at h
    by_cases hn : b = n
    · subst hn
      simp only [if_true] at h
      cases h
      exact ⟨by simp, rfl⟩
    · simp only [hn, if_false] at h
      obtain ⟨h1, h2⟩ := look_mapK (α := α) f h
      exact ⟨by simp [h1], h2⟩
theorem look_mapK_some {β : Type} (f : Nat → β) : ∀ {bs : List Nat} {n : Nat}, n ∈ bs → (look (bs.map fun b => (b, f b)) n).isSome = true
  | b :: bs, n, h => by
    rw [List.map_cons, look_cons]
    split
    · rfl
    · rename_i hn
      rcases List.mem_cons.1 h with rfl | h
      · exact absurd rfl hn
      · exact look_mapK_some f h

theorem look_map2 {α β : Type} (f : α → β) : ∀ {l : List (Nat × α)} {n : Nat} {y : β}, look (l.map fun x => (x.1, f x.2)) n = some y → ∃ x, look l n = some x ∧ y = f x
  | [], n, y, h => by simp [look] at h
  | (k, v) :: l, n, y, h => by
    rw [List.map_cons, look_cons] at h
    rw [look_cons]
    by_cases hn : k = n
    · simp only [hn, if_true] at h ⊢
      cases h
      exact ⟨v, rfl, rfl⟩
    · simp only [hn, if_false] at h ⊢
      exact look_map2 f h

/-- The names turned. -/
def Gh.ren (G : Gh) (bs env : List Nat) : Gh :=
  { nw := G.nw, ok := G.ok, hb := G.hb,
    hv := fun j => match env[j - 1000000]? with | some id => G.hv id | none => undef,
    own := fun g => match G.own g with
      | some (.bx d) => if hasN bs d = true then some (.bx d) else none
      | some (.bl id) => match idxOf env id 0 with | some i => some (.bl (1000000 + i)) | none => none
      | some .hid => some .hid
      | none => none }

theorem ren_ext (G : Gh) (w : World) (bs env : List Nat) : Ext G w (G.ren bs env) w := ⟨rfl, rfl, Nat.le_refl _, fun b _ ho => ⟨by simp [Gh.ren, ho], rfl⟩, fun b _ ho => ⟨by simp [Gh.ren, ho], rfl⟩⟩

theorem ren_hv {bs env : List Nat} {id i : Nat} (h : idxOf env id 0 = some i) : (G.ren bs env).hv (1000000 + i) = G.hv id := by
  have := (idxOf_spec h).2
  have h2 : 1000000 + i - 1000000 = i := by omega
  simp only [Gh.ren, h2]
  rw [Nat.sub_zero] at this
  rw [this]

theorem ren_rel {bs env : List Nat} {bx : List (Nat × List AC)} (hbx : ∀ b, hasN bs b = true → (look bx b).isSome = true) {c : AC} {v : Value} (h : RelC G w st.bx st.bl c v) :
    RelC (G.ren bs env) w bx (blsOf st env 0 env) (reAC env bs c) v := by
  have hx := ren_ext G w bs env
  have some_ : ∀ {id i : Nat}, idxOf env id 0 = some i → (look (blsOf st env 0 env) (1000000 + i)).isSome = true := by
    intro id i hi
    have := (idxOf_spec hi).2
    have h2 : i < env.length := by
      rw [Nat.sub_zero] at this
      exact (List.getElem?_eq_some_iff.1 this).1
    have h3 := look_blsOf_some (st := st) (env := env) (l := env) (i := 0) h2
    rw [Nat.zero_add] at h3
    exact h3
  cases c with
  | none => trivial
  | int k n => exact h
  | bool b => exact h
  | str s => exact h
  | nil => exact h
  | ro f e t xs => exact hx.rd (t := .sl e t) h
  | own id len =>
    unfold reAC
    dsimp only
    split
    · rename_i i hi
      cases len with
      | none => exact ⟨some_ hi, by rw [ren_hv hi]; exact h.2.1, by rw [ren_hv hi]; exact h.2.2⟩
      | some l =>
        obtain ⟨_, h0, A, n, cap, h1, h2, h3⟩ := h
        exact ⟨some_ hi, h0, A, n, cap, by rw [ren_hv hi]; exact h1, h2, h3⟩
    · trivial
  | ptr b off =>
    unfold reAC
    dsimp only
    split
    · exact ⟨hbx b (by assumption), h.2⟩
    · trivial
  | fnp g b => exact trivial
  | eown id i off =>
    unfold reAC
    dsimp only
    split
    · rename_i j hj
      obtain ⟨_, h1, h2, g, o, n, cap, h3, h4, h5⟩ := h
      refine ⟨some_ hj, h1, h2, g, o, n, cap, by rw [ren_hv hj]; exact h3, h4, fun b hb => ?_⟩
      obtain ⟨q, id', h6, h7, h8⟩ := look_blsOf hb
      obtain ⟨h9, h10⟩ := h8 b rfl
      have hq : q = j := by omega
      subst hq
      have : id' = id := by
        have := (idxOf_spec hj).2
        rw [Nat.sub_zero, h7] at this
        exact Option.some.inj this
      subst this
      exact h5 b (blk_some h10)
    · trivial
  | ero f t x off =>
    obtain ⟨b, o, c, hv, hb, hok, hr, hc⟩ := h
    have ho' := hx.ro b hb hok.1
    exact ⟨b, o, c, hv, hb, ⟨ho'.1, hok.2⟩, hx.rd hr, hc⟩

theorem map_all2 {α β γ : Type} {R : α → β → Prop} {S : γ → β → Prop} (f : α → γ) (hf : ∀ a b, R a b → S (f a) b) : ∀ {l : List α} {m : List β}, All2 R l m → All2 S (l.map f) m
  | [], [], _ => trivial
  | a :: l, b :: m, h => ⟨hf _ _ h.1, map_all2 f hf h.2⟩
  | [], _ :: _, h => h.elim
  | _ :: _, [], h => h.elim

theorem ren_relCV {bs env : List Nat} {bx : List (Nat × List AC)} (hbx : ∀ b, hasN bs b = true → (look bx b).isSome = true) {c : CV} {v : Value} (h : RelCV G w st.bx st.bl c v) :
    RelCV (G.ren bs env) w bx (blsOf st env 0 env) (reCV env bs c) v := by
  cases c with
  | c x => exact ren_rel hbx h
  | agg l =>
    obtain ⟨cs, he, hl⟩ := h
    exact ⟨cs, he, map_all2 (reAC env bs) (fun c v hc => ren_rel hbx hc) hl⟩
theorem ren_relAV {bs env : List Nat} {bx : List (Nat × List AC)} (hbx : ∀ b, hasN bs b = true → (look bx b).isSome = true) {c : AV} {v : Value} (h : RelAV G w st.bx st.bl c v) :
    RelAV (G.ren bs env) w bx (blsOf st env 0 env) (reAV env bs c) v := by
  cases c with
  | v x => exact ren_relCV hbx h
  | tup l =>
    obtain ⟨cs, he, hl⟩ := h
    exact ⟨cs, he, map_all2 (reCV env bs) (fun c v hc => ren_relCV hbx hc) hl⟩

theorem reSt_sound (h : Inv w0 G st a w) (tm : List (Nat × AV)) (htm : ∀ x ∈ tm, x.2 = st.get x.1) (bs env : List Nat) (hbs : ∀ b ∈ bs, (look st.bx b).isSome = true) : Inv w0 (G.ren bs env) (reSt st tm bs env) a w := by
  have hx := ren_ext G w bs env
  have hbx : ∀ b, hasN bs b = true → (look (bs.map fun b => (b, (bxOf st b).map (reAC env bs))) b).isSome = true := fun b hb => look_mapK_some (fun b => (bxOf st b).map (reAC env bs)) (hasN_mem.1 hb)
  refine ⟨h.nw, h.rok, h.below, h.defers, h.size, ren_relAV hbx h.sp, h.hdMono hx, ?_, ?_, ?_, ?_⟩
  · intro t v hv
    obtain ⟨x, h1, rfl⟩ := look_map2 (reAV env bs) hv
    have hmem : ∀ {l : List (Nat × AV)} {n : Nat} {x : AV}, look l n = some x → (n, x) ∈ l := by
      intro l
      induction l with
      | nil => intro n x h; simp [look] at h
      | cons z l ih =>
        intro n x h
        rw [show z = (z.1, z.2) from rfl, look_cons] at h
        by_cases hn : z.1 = n
        · simp only [hn, if_true] at h
          cases h
          rw [← hn]
          simp
        · simp only [hn, if_false] at h
          simp [ih h]
    have h2 := htm _ (hmem h1)
    dsimp only at h2
    subst h2
    exact ren_relAV hbx (h.ev (.tmp t))
  · intro d l hl
    obtain ⟨h1, rfl⟩ := look_mapK (α := Nat) (fun b => (bxOf st b).map (reAC env bs)) hl
    obtain ⟨l0, hl0⟩ := Option.isSome_iff_exists.1 (hbs d h1)
    obtain ⟨cs, e, h2, h3, h4⟩ := h.bx d l0 hl0
    refine ⟨cs, e, h2, ?_, ?_⟩
    · show (G.ren bs env).own (G.hb d) = _
      simp [Gh.ren, h3, hasN_mem.2 h1]
    · have : bxOf st d = l0 := by simp [bxOf, hl0]
      rw [this]
      exact map_all2 (reAC env bs) (fun c v hc => ren_rel hbx hc) h4
  · intro n b hb
    obtain ⟨j, id, h1, h2, h3⟩ := look_blsOf hb
    obtain ⟨h4, h5⟩ := h3 b rfl
    rw [Nat.zero_add] at h1 h4
    subst h1
    have hbo := h.bl id b (blk_some h5)
    refine ⟨fun hw => ?_, fun hw => ?_, hbo.pos⟩
    · obtain ⟨cs, h6, h7, h8⟩ := hbo.wr hw
      refine ⟨cs, by rw [ren_hv h4]; exact h6, fun g hg => ?_, h8.mono hx⟩
      rw [ren_hv h4] at hg
      have := h7 g hg
      simp [Gh.ren, this, h4]
    · rw [ren_hv h4]
      exact hx.rd (hbo.rd hw)
  · intro g k hk
    simp only [Gh.ren] at hk
    cases ho : G.own g with
    | none => rw [ho] at hk; cases hk
    | some k0 =>
      rw [ho] at hk
      obtain ⟨h1, h2, h3⟩ := h.own g k0 ho
      cases k0 with
      | hid => cases hk; exact ⟨h1, h2, trivial⟩
      | bx d =>
        dsimp only at hk
        split at hk
        · cases hk
          exact ⟨h1, h2, hbx d (by assumption), h3.2⟩
        · cases hk
      | bl id =>
        dsimp only at hk
        split at hk
        · rename_i i hi
          cases hk
          refine ⟨h1, h2, ?_, ?_⟩
          · have := (idxOf_spec hi).2
            have h4 : i < env.length := by
              rw [Nat.sub_zero] at this
              exact (List.getElem?_eq_some_iff.1 this).1
            have h5 := look_blsOf_some (st := st) (env := env) (l := env) (i := 0) h4
            rw [Nat.zero_add] at h5
            exact h5
          · rw [ren_hv hi]
            exact h3.2
        · cases hk

theorem ptrsOf_mem : ∀ {l : List AV} {b : Nat}, b ∈ ptrsOf l → ∃ off, AV.v (.c (.ptr b off)) ∈ l
  | [], b, h => by simp [ptrsOf] at h
  | x :: l, b, h => by
    unfold ptrsOf at h
    split at h
    · cases ‹_ = []›
    · rename_i b' off l' he
      cases he
      split at h
      · obtain ⟨o, ho⟩ := ptrsOf_mem h
        exact ⟨o, by simp [ho]⟩
      · rcases List.mem_cons.1 h with rfl | h
        · exact ⟨off, by simp⟩
        · obtain ⟨o, ho⟩ := ptrsOf_mem h
          exact ⟨o, by simp [ho]⟩
    · rename_i l' _ he
      cases he
      obtain ⟨o, ho⟩ := ptrsOf_mem h
      exact ⟨o, by simp [ho]⟩

theorem keep_sound (h : Inv w0 G st a w) (live : List Tmp) : ∃ G', Inv w0 G' (keep live st) a w := by
  refine ⟨_, reSt_sound h _ (fun x hx => ?_) _ _ (fun b hb => ?_)⟩
  · obtain ⟨t, _, rfl⟩ := List.mem_map.1 hx
    rfl
  · obtain ⟨off, ho⟩ := ptrsOf_mem hb
    rcases List.mem_cons.1 ho with he | ho
    · have := h.sp
      rw [← he] at this
      exact this.1
    obtain ⟨x, hx, he⟩ := List.mem_map.1 ho
    obtain ⟨t, _, rfl⟩ := List.mem_map.1 hx
    dsimp only at he
    have := h.ev (.tmp t)
    rw [show st.ev (.tmp t) = st.get t from rfl, he] at this
    exact this.1
end
end Go.Am
