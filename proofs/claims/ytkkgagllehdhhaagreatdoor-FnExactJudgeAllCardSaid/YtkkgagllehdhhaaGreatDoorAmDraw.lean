/- The machine's quiet operations, and regions that draw their order. No condition. -/
import Derived.Test.YtkkgagllehdhhaaGreatDoorAmRun
set_option linter.unusedVariables false
set_option linter.unusedSimpArgs false
namespace Go.Am
open Go.RowKit
section
variable {N : Nat} {P : Program} {w0 : Root} {w : World} {G : Gh} {st : St} {a : Act} {α : Type} {k : St → Option α} {r : α} {K : Act → World → Prop} {Q : Exit → Act → World → Prop} {o : Oper}

/-- One value, however much memory has been added. -/
def Quietly (P : Program) (w0 : Root) (w : World) (a : Act) (o : Oper) {α : Type} (k : St → Option α) (r : α) : Prop :=
  ∃ v G' st', (∀ w1, Below w.heap.size w w1 → o.quietAt P a (fun w' => Below w.heap.size w w') w1 v) ∧ Inv w0 G' st' (a.put o.dst v) w ∧ k st' = some r

theorem Calmly.quietly (h : Calmly P w0 w a o k r) : Quietly P w0 w a o k r := by
  obtain ⟨v, G', st', he, h1, h2⟩ := h
  refine ⟨v, G', st', fun w1 hB => ?_, h1, h2⟩
  unfold Oper.quietAt
  rw [he w1 (memOk_of_below hB)]
  exact ⟨rfl, rfl⟩

/-! ### Calls that hand back no memory -/
def flatV : (t : Ty) → t.D → List Value
  | .int k, x => [.int k x]
  | .bool, x => [.bool x]
  | .str, x => [.string x]
  | .unit, _ => []
  | .pair a b, x => flatV a x.1 ++ flatV b x.2
  | .sl _ _, _ => []
theorem rd_flatV {ok : Nat → Prop} : ∀ {t : Ty} {x : t.D} {cs : List Value}, flat t = true → Rd w ok t x cs → cs = flatV t x
  | .int _, _, _, _, h => h
  | .bool, _, _, _, h => h
  | .str, _, _, _, h => h
  | .unit, _, _, _, h => h
  | .pair a b, _, _, hf, h => by
    obtain ⟨c1, c2, rfl, h1, h2⟩ := h
    have hf' : (flat a && flat b) = true := hf
    rw [Bool.and_eq_true] at hf'
    rw [rd_flatV hf'.1 h1, rd_flatV hf'.2 h2]
    rfl
  | .sl _ _, _, _, hf, _ => by cases hf
theorem flatV_rd {ok : Nat → Prop} : ∀ {t : Ty} {x : t.D}, flat t = true → Rd w ok t x (flatV t x)
  | .int _, _, _ => rfl
  | .bool, _, _ => rfl
  | .str, _, _ => rfl
  | .unit, _, _ => rfl
  | .pair a b, _, hf => by
    have hf' : (flat a && flat b) = true := hf
    rw [Bool.and_eq_true] at hf'
    exact ⟨_, _, rfl, flatV_rd hf'.1, flatV_rd hf'.2⟩
  | .sl _ _, _, hf => by cases hf
def flatVs : (rs : List (Ty × Bool)) → Args rs → List Value
  | [], _ => []
  | a :: l, x => (match a.2 with | true => .agg (flatV a.1 x.1).toArray | false => (flatV a.1 x.1).headD undef) :: flatVs l x.2
theorem args_flat {ok : Nat → Prop} : ∀ {rs : List (Ty × Bool)} {x : Args rs} {vs : List Value}, (rs.all fun a => flat a.1) = true → ArgsRd w ok rs x vs → vs = flatVs rs x
  | [], _, _, _, h => h
  | a :: l, x, vs, hf, h => by
    obtain ⟨v, vs', rfl, ⟨cs, h1, h2⟩, h3⟩ := h
    rw [List.all_cons, Bool.and_eq_true] at hf
    rw [args_flat hf.2 h3, h2, rd_flatV hf.1 h1]
    rfl
theorem flat_args {ok : Nat → Prop} : ∀ {rs : List (Ty × Bool)} {x : Args rs}, (rs.all fun a => flat a.1) = true → ArgsRd w ok rs x (flatVs rs x)
  | [], _, _ => rfl
  | a :: l, x, hf => by
    rw [List.all_cons, Bool.and_eq_true] at hf
    exact ⟨_, _, rfl, ⟨_, flatV_rd hf.1, rfl⟩, flat_args hf.2⟩

theorem call_quietly {f : FuncId} {con : Con} (hcon : ConAt P w0 f con) (hq : (Nat.beq con.m 1 && con.rs.all fun a => flat a.1) = true) (h : Inv w0 G st a w) {args : Array Operand} {ts : Array TypeId} (ho : o.op = .call { callee := .value (.func f), args := args, argTypes := ts })
    (hr : callCon con st o.dst args.toList k = some r) : Quietly P w0 w a o k r := by
  rw [Bool.and_eq_true] at hq
  have hm := beq_nat hq.1
  unfold callCon at hr
  split at hr
  · rename_i x hx
    cases hg : con.g x with
    | none => rw [hg] at hr; cases hr
    | some y =>
      rw [hg] at hr
      simp only [Option.bind_some] at hr
      cases hd : o.dst with
      | none => rw [hd] at hr; cases hr
      | some d =>
        rw [hd] at hr
        dsimp only at hr
        split at hr
        · rename_i hm0
          rw [hm] at hm0
          cases hm0
        · obtain ⟨hc, hr⟩ := ck_some hr
          simp only [Bool.and_eq_true] at hc
          have hrel := exF_rel (f := true) (G := G) (bx := st.bx) (bl := st.bl) hc.2 (flat_args (w := w) (x := y) hq.2)
          refine ⟨retVal (flatVs con.rs y), G, _, fun w1 hB => ?_, by rw [hd]; exact h.put d (blt_lt hc.1) (ret_rel (R := fun _ _ => True) hrel), hr⟩
          have h1 := h.more hB
          have hrd := imArgs_rd (ok := fun _ => True) h1 con.ps args.toList x (fun t c v xs _ => any_rd h1 t c v xs) hx
          unfold Oper.quietAt
          rw [run_call hcon.1 ho]
          refine ⟨rfl, ?_⟩
          have hargs : (args.map a.eval) = (args.toList.map a.eval).toArray := by rw [← Array.toList_map, Array.toArray_toList]
          rw [hargs]
          refine Calls.mono (hcon.2 x y hg w1 h1.below _ _ hrd) fun e w' he => ?_
          obtain ⟨us, rfl, hres, hB'⟩ := he
          unfold ResOk at hres
          rw [hm] at hres
          rw [args_flat hq.2 hres]
          have hle := hB.size
          exact ⟨rfl, hB.trans ⟨hB'.os, hB'.tape, hB'.output, hB'.size, fun k hk => hB'.block k (by omega)⟩⟩
        · rename_i hm1
          exact absurd hm hm1
  · cases hr

theorem opRun_quiet {C : FuncId → Option Any} (hC : ∀ f con, C f = some con → AnyAt P w0 f con) (hq : quietOp P C o = true) (h : Inv w0 G st a w) (hr : opRun P C (Par.std N) o st k = some r) : Quietly P w0 w a o k r := by
  unfold opRun at hr
  split at hr
  · exact Calmly.quietly (calm_move h _ (.inl (by assumption)) hr)
  · exact Calmly.quietly (calm_move h _ (.inr (by assumption)) hr)
  · -- pick
    rename_i c x y hop
    split at hr
    · exact Calmly.quietly (calm_pick h c x y hop (by assumption) hr)
    · cases hr
  · -- box
    rename_i t x hop
    simp [quietOp, hop] at hq
  · -- alloc
    rename_i t hop
    simp [quietOp, hop] at hq
  · -- build
    rename_i t parts hop
    split at hr
    · split at hr
      · exact Calmly.quietly (calm_build h t parts hop (by assumption) (by assumption) (by assumption) (by assumption) hr)
      · cases hr
    · cases hr
  · -- buildSlice
    rename_i t len parts hop
    simp [quietOp, hop] at hq
  · -- load
    rename_i t x hop
    split at hr
    · rename_i l off hcell
      dsimp only at hr
      split at hr
      · rename_i hn
        split at hr
        · exact Calmly.quietly (calm_load h t x hop hcell hn (b := true) (by assumption) (v := .agg _) rfl hr)
        · split at hr
          · rename_i hagg _ y hq
            exact Calmly.quietly (calm_load h t x hop hcell hn (b := false) hagg (v := .c y) ⟨y, hq, rfl⟩ hr)
          · cases hr
        · cases hr
      · cases hr
    · cases hr
  · -- store
    rename_i t x y hop
    simp [quietOp, hop] at hq
  · -- nilCheck
    rename_i x hop
    split at hr
    · exact Calmly.quietly (calm_nilCheck h x hop (by assumption) hr)
    · cases hr
  · -- binOp
    rename_i op xt x y yt hop
    split at hr
    · exact Calmly.quietly (calm_binOp h op xt x y yt hop (by assumption) (by assumption) hr)
    · split at hr
      · exact Calmly.quietly (calm_eqStruct h _ xt x y yt hop (by assumption) (by assumption) (by assumption) (.inl ⟨rfl, rfl⟩) hr)
      · exact Calmly.quietly (calm_eqStruct h _ xt x y yt hop (by assumption) (by assumption) (by assumption) (.inr ⟨rfl, rfl⟩) hr)
      · cases hr
    · cases hr
  · -- unOp
    rename_i op t x hop
    split at hr
    · exact Calmly.quietly (calm_not h t x hop (by assumption) hr)
    · exact Calmly.quietly (calm_neg h t x hop (by assumption) hr)
    · cases hr
  · -- convert
    rename_i src dst x hop
    split at hr
    · exact Calmly.quietly (calm_convInt h src dst x hop (by assumption) (by assumption) (by assumption) hr)
    · exact Calmly.quietly (calm_convStr h src dst x hop (by assumption) (by assumption) (by assumption) hr)
    · split at hr
      · obtain ⟨hc, hr⟩ := ck_some hr
        simp [quietOp, hop, (show P.underlying _ = some (.slice _) by assumption)] at hq
      · cases hr
    · split at hr
      · exact Calmly.quietly (calm_toStr h src dst x hop (by assumption) (by assumption) (by assumption) (by assumption) hr)
      · cases hr
    · cases hr
  · -- makeSlice
    rename_i t p q hop
    simp [quietOp, hop] at hq
  · -- slice
    rename_i t x lo hi hop
    split at hr
    · split at hr
      · split at hr
        · obtain ⟨hc, hr⟩ := ck_some hr
          simp only [Bool.and_eq_true, decide_eq_true_eq] at hc
          exact Calmly.quietly (calm_cutStr h t x lo hi hop (by assumption) (by assumption) (by assumption) (by assumption) hc.1.1 hc.1.2 hc.2 hr)
        · cases hr
      · cases hr
    · split at hr
      · split at hr
        · obtain ⟨hc, hr⟩ := ck_some hr
          simp only [Bool.and_eq_true, decide_eq_true_eq] at hc
          exact Calmly.quietly (calm_cutRo h t x lo hi hop (by assumption) (by assumption) (beq_nat hc.1.1) (beq_nat_false hc.1.2) (by assumption) (by assumption) hc.2.1.1 hc.2.1.2 hc.2.2 hr)
        · cases hr
      · split at hr
        · split at hr
          · obtain ⟨hc, hr⟩ := ck_some hr
            simp only [Bool.and_eq_true, decide_eq_true_eq] at hc
            exact Calmly.quietly (calm_cutOwn h t x hi hop (by assumption) (by assumption) (by assumption) (beq_nat hc.1) (by assumption) hc.2.1 hc.2.2 hr)
          · cases hr
        · split at hr
          · obtain ⟨hc, hr⟩ := ck_some hr
            simp only [Bool.and_eq_true, decide_eq_true_eq] at hc
            exact Calmly.quietly (calm_cutOwnLo h t x _ hi hop (by assumption) (by assumption) (by assumption) (beq_nat hc.1) (by assumption) (by assumption) hc.2.1.1 hc.2.1.2 hc.2.2 hr)
          · cases hr
        · cases hr
      · cases hr
    · cases hr
  · -- fieldAddr
    rename_i t x f hop
    split at hr
    · split at hr
      · exact Calmly.quietly (calm_fieldAddr h t x f hop (by assumption) (by assumption) (by exact rfl) hr)
      · split at hr
        · exact Calmly.quietly (calm_fieldAddr h t x f hop (by assumption) (by assumption) (by exact ⟨rfl, _, blk_some (by assumption)⟩) hr)
        · cases hr
      · exact Calmly.quietly (calm_fieldAddr h t x f hop (by assumption) (by assumption) (by exact rfl) hr)
      · cases hr
    · cases hr
  · -- indexAddr
    rename_i t x i hop
    split at hr
    · split at hr
      · split at hr
        · split at hr
          · split at hr
            · obtain ⟨hc, hr⟩ := ck_some hr
              simp only [Bool.and_eq_true, decide_eq_true_eq] at hc
              exact Calmly.quietly (calm_indexOwn h t x i hop (by assumption) (by assumption) (by assumption) (by assumption) (by assumption) (beq_nat hc.1) hc.2.1 hc.2.2 hr)
            · cases hr
          · cases hr
        · obtain ⟨hc, hr⟩ := ck_some hr
          simp only [Bool.and_eq_true, decide_eq_true_eq] at hc
          exact Calmly.quietly (calm_indexRo h t x i hop (by assumption) (by assumption) (by assumption) (beq_nat hc.1.1) (beq_nat_false hc.1.2) hc.2.1 hc.2.2 hr)
        · cases hr
      · split at hr
        · obtain ⟨hc, hr⟩ := ck_some hr
          simp only [Bool.and_eq_true, decide_eq_true_eq] at hc
          exact Calmly.quietly (calm_indexArr h t x i hop (by assumption) (by assumption) (by assumption) (beq_nat_false hc.1) hc.2.1 hc.2.2 hr)
        · cases hr
      · cases hr
    · cases hr
  · -- index
    rename_i t x i hop
    split at hr
    · obtain ⟨hc, hr⟩ := ck_some hr
      simp only [Bool.and_eq_true, decide_eq_true_eq] at hc
      exact Calmly.quietly (calm_index h t x i hop (by assumption) (by assumption) (by assumption) hc.1 hc.2 hr)
    · cases hr
  · -- extract
    rename_i x i hop
    split at hr
    · split at hr
      · exact Calmly.quietly (calm_extract h x i hop (by assumption) (by assumption) hr)
      · cases hr
    · cases hr
  · -- call
    rename_i f args ts hop
    split at hr
    · rename_i con hcon
      exact call_quietly (show ConAt P w0 f con from hC f (.one con) hcon) (by simpa [quietOp, hop, hcon] using hq) h hop hr
    · rename_i con hcon
      simp [quietOp, hop, hcon] at hq
    · rename_i con hcon
      simp [quietOp, hop, hcon] at hq
    · rename_i hcon
      simp [quietOp, hop, hcon] at hq
    · rename_i hcon
      simp [quietOp, hop, hcon] at hq
    · cases hr
  · -- len
    rename_i args ts hop
    split at hr
    · rename_i x t hx ht
      split at hr
      · split at hr
        · exact Calmly.quietly (calm_len h x t hop hx ht (by assumption) (.inl ⟨by assumption, _, by assumption⟩) hr)
        · cases hr
      · split at hr
        · cases hr
        · rename_i hns
          exact Calmly.quietly (calm_len h x t hop hx ht (by assumption) (.inr ⟨⟨_, by assumption⟩, fun s hs => hns s hs⟩) hr)
      · cases hr
    · cases hr
  · -- max
    rename_i args ts hop
    split at hr
    · split at hr
      · split at hr
        · exact Calmly.quietly (calm_max h hop (by assumption) (by assumption) (by assumption) hr)
        · cases hr
      · cases hr
    · cases hr
  · -- min
    rename_i args ts hop
    split at hr
    · split at hr
      · split at hr
        · exact Calmly.quietly (calm_min h hop (by assumption) (by assumption) (by assumption) hr)
        · cases hr
      · cases hr
    · cases hr
  · -- append
    rename_i args ts hop
    simp [quietOp, hop] at hq
  · -- makeFunc
    rename_i g first caps hop
    simp [quietOp, hop] at hq
  · cases hr

theorem opRun_calm {C : FuncId → Option Any} (hq : calmOp P o = true) (h : Inv w0 G st a w) (hr : opRun P C (Par.std N) o st k = some r) : Calmly P w0 w a o k r := by
  unfold opRun at hr
  split at hr
  · exact (calm_move h _ (.inl (by assumption)) hr)
  · exact (calm_move h _ (.inr (by assumption)) hr)
  · -- pick
    rename_i c x y hop
    split at hr
    · exact (calm_pick h c x y hop (by assumption) hr)
    · cases hr
  · -- box
    rename_i t x hop
    simp [calmOp, hop] at hq
  · -- alloc
    rename_i t hop
    simp [calmOp, hop] at hq
  · -- build
    rename_i t parts hop
    split at hr
    · split at hr
      · exact (calm_build h t parts hop (by assumption) (by assumption) (by assumption) (by assumption) hr)
      · cases hr
    · cases hr
  · -- buildSlice
    rename_i t len parts hop
    simp [calmOp, hop] at hq
  · -- load
    rename_i t x hop
    split at hr
    · rename_i l off hcell
      dsimp only at hr
      split at hr
      · rename_i hn
        split at hr
        · exact (calm_load h t x hop hcell hn (b := true) (by assumption) (v := .agg _) rfl hr)
        · split at hr
          · rename_i hagg _ y hq
            exact (calm_load h t x hop hcell hn (b := false) hagg (v := .c y) ⟨y, hq, rfl⟩ hr)
          · cases hr
        · cases hr
      · cases hr
    · cases hr
  · -- store
    rename_i t x y hop
    simp [calmOp, hop] at hq
  · -- nilCheck
    rename_i x hop
    split at hr
    · exact (calm_nilCheck h x hop (by assumption) hr)
    · cases hr
  · -- binOp
    rename_i op xt x y yt hop
    split at hr
    · exact (calm_binOp h op xt x y yt hop (by assumption) (by assumption) hr)
    · split at hr
      · exact (calm_eqStruct h _ xt x y yt hop (by assumption) (by assumption) (by assumption) (.inl ⟨rfl, rfl⟩) hr)
      · exact (calm_eqStruct h _ xt x y yt hop (by assumption) (by assumption) (by assumption) (.inr ⟨rfl, rfl⟩) hr)
      · cases hr
    · cases hr
  · -- unOp
    rename_i op t x hop
    split at hr
    · exact (calm_not h t x hop (by assumption) hr)
    · exact (calm_neg h t x hop (by assumption) hr)
    · cases hr
  · -- convert
    rename_i src dst x hop
    split at hr
    · exact (calm_convInt h src dst x hop (by assumption) (by assumption) (by assumption) hr)
    · exact (calm_convStr h src dst x hop (by assumption) (by assumption) (by assumption) hr)
    · split at hr
      · obtain ⟨hc, hr⟩ := ck_some hr
        simp [calmOp, hop, (show P.underlying _ = some (.slice _) by assumption)] at hq
      · cases hr
    · split at hr
      · exact (calm_toStr h src dst x hop (by assumption) (by assumption) (by assumption) (by assumption) hr)
      · cases hr
    · cases hr
  · -- makeSlice
    rename_i t p q hop
    simp [calmOp, hop] at hq
  · -- slice
    rename_i t x lo hi hop
    split at hr
    · split at hr
      · split at hr
        · obtain ⟨hc, hr⟩ := ck_some hr
          simp only [Bool.and_eq_true, decide_eq_true_eq] at hc
          exact (calm_cutStr h t x lo hi hop (by assumption) (by assumption) (by assumption) (by assumption) hc.1.1 hc.1.2 hc.2 hr)
        · cases hr
      · cases hr
    · split at hr
      · split at hr
        · obtain ⟨hc, hr⟩ := ck_some hr
          simp only [Bool.and_eq_true, decide_eq_true_eq] at hc
          exact (calm_cutRo h t x lo hi hop (by assumption) (by assumption) (beq_nat hc.1.1) (beq_nat_false hc.1.2) (by assumption) (by assumption) hc.2.1.1 hc.2.1.2 hc.2.2 hr)
        · cases hr
      · split at hr
        · split at hr
          · obtain ⟨hc, hr⟩ := ck_some hr
            simp only [Bool.and_eq_true, decide_eq_true_eq] at hc
            exact (calm_cutOwn h t x hi hop (by assumption) (by assumption) (by assumption) (beq_nat hc.1) (by assumption) hc.2.1 hc.2.2 hr)
          · cases hr
        · split at hr
          · obtain ⟨hc, hr⟩ := ck_some hr
            simp only [Bool.and_eq_true, decide_eq_true_eq] at hc
            exact (calm_cutOwnLo h t x _ hi hop (by assumption) (by assumption) (by assumption) (beq_nat hc.1) (by assumption) (by assumption) hc.2.1.1 hc.2.1.2 hc.2.2 hr)
          · cases hr
        · cases hr
      · cases hr
    · cases hr
  · -- fieldAddr
    rename_i t x f hop
    split at hr
    · split at hr
      · exact (calm_fieldAddr h t x f hop (by assumption) (by assumption) (by exact rfl) hr)
      · split at hr
        · exact (calm_fieldAddr h t x f hop (by assumption) (by assumption) (by exact ⟨rfl, _, blk_some (by assumption)⟩) hr)
        · cases hr
      · exact (calm_fieldAddr h t x f hop (by assumption) (by assumption) (by exact rfl) hr)
      · cases hr
    · cases hr
  · -- indexAddr
    rename_i t x i hop
    split at hr
    · split at hr
      · split at hr
        · split at hr
          · split at hr
            · obtain ⟨hc, hr⟩ := ck_some hr
              simp only [Bool.and_eq_true, decide_eq_true_eq] at hc
              exact (calm_indexOwn h t x i hop (by assumption) (by assumption) (by assumption) (by assumption) (by assumption) (beq_nat hc.1) hc.2.1 hc.2.2 hr)
            · cases hr
          · cases hr
        · obtain ⟨hc, hr⟩ := ck_some hr
          simp only [Bool.and_eq_true, decide_eq_true_eq] at hc
          exact (calm_indexRo h t x i hop (by assumption) (by assumption) (by assumption) (beq_nat hc.1.1) (beq_nat_false hc.1.2) hc.2.1 hc.2.2 hr)
        · cases hr
      · split at hr
        · obtain ⟨hc, hr⟩ := ck_some hr
          simp only [Bool.and_eq_true, decide_eq_true_eq] at hc
          exact (calm_indexArr h t x i hop (by assumption) (by assumption) (by assumption) (beq_nat_false hc.1) hc.2.1 hc.2.2 hr)
        · cases hr
      · cases hr
    · cases hr
  · -- index
    rename_i t x i hop
    split at hr
    · obtain ⟨hc, hr⟩ := ck_some hr
      simp only [Bool.and_eq_true, decide_eq_true_eq] at hc
      exact (calm_index h t x i hop (by assumption) (by assumption) (by assumption) hc.1 hc.2 hr)
    · cases hr
  · -- extract
    rename_i x i hop
    split at hr
    · split at hr
      · exact (calm_extract h x i hop (by assumption) (by assumption) hr)
      · cases hr
    · cases hr
  · -- call
    rename_i f args ts hop
    simp [calmOp, hop] at hq
  · -- len
    rename_i args ts hop
    split at hr
    · rename_i x t hx ht
      split at hr
      · split at hr
        · exact (calm_len h x t hop hx ht (by assumption) (.inl ⟨by assumption, _, by assumption⟩) hr)
        · cases hr
      · split at hr
        · cases hr
        · rename_i hns
          exact (calm_len h x t hop hx ht (by assumption) (.inr ⟨⟨_, by assumption⟩, fun s hs => hns s hs⟩) hr)
      · cases hr
    · cases hr
  · -- max
    rename_i args ts hop
    split at hr
    · split at hr
      · split at hr
        · exact (calm_max h hop (by assumption) (by assumption) (by assumption) hr)
        · cases hr
      · cases hr
    · cases hr
  · -- min
    rename_i args ts hop
    split at hr
    · split at hr
      · split at hr
        · exact (calm_min h hop (by assumption) (by assumption) (by assumption) hr)
        · cases hr
      · cases hr
    · cases hr
  · -- append
    rename_i args ts hop
    simp [calmOp, hop] at hq
  · -- makeFunc
    rename_i g first caps hop
    simp [calmOp, hop] at hq
  · cases hr

theorem opRun_calmRO {C : FuncId → Option Any} (hq : calmOp P o = true) (hro : roLoad st o = true) (h : Inv w0 G st a w) (hr : opRun P C (Par.std N) o st k = some r) : CalmlyRO P w0 G w a o k r := by
  cases ho : o.op with
  | load t x =>
    simp only [roLoad, ho] at hro
    split at hro
    · rename_i f u0 y0 off0 hero
      simp only [opRun, ho] at hr
      split at hr
      · rename_i l off hc
        split at hr
        · rename_i hn
          split at hr
          · rename_i hagg
            exact load_ro h t x ho hc hn hagg rfl hero hr
          · rename_i hagg
            split at hr
            · rename_i y hy
              exact load_ro h t x ho hc hn hagg ⟨y, hy, rfl⟩ hero hr
            · cases hr
          · cases hr
        · cases hr
      · cases hr
    · cases hro
  | convert s d x => simp [roLoad, ho] at hro
  | _ =>
    obtain ⟨v, G', st', he, hi, hk⟩ := opRun_calm hq h hr
    exact ⟨v, G', st', fun w1 _ => he w1 (by unfold memOk; rw [ho]; trivial), hi, hk⟩

end
end Go.Am
