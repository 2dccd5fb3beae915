/- FnExactLoad's plain law: what Go's functions compute answers true. -/
import Derived.Test.YtmmajfbohkbpjaaGenLoad
import Derived.Test.YtmmajfbohkbpjaaAmLaw
set_option linter.unusedVariables false
set_option linter.unusedSimpArgs false
namespace Go.Am.Try
open Go.Am
abbrev Tints : Ty := .sl 3 (.int .i64)
abbrev IntsD := List Int
abbrev QcD := Int × (ByteArray × List Int)
abbrev SafeD := Int × (Int × (QcD × ByteArray))
abbrev TxD := Int × (Int × (Int × Int))
abbrev DiskD := List Int × Int
abbrev BlockD := ByteArray × QcD
abbrev MsgD := Int × (Int × (BlockD × (QcD × (QcD × (Int × TxD)))))
abbrev PostD := Int × MsgD
abbrev RepD := Int × (Int × (Int × (SafeD × (List TxD × (List QcD × (DiskD × List PostD))))))

def LQc (a : QcD) : Prop := a.2.1.size ≤ 9223372036854775807 ∧ a.2.2.length ≤ 9223372036854775807
def LBlock (a : BlockD) : Prop := a.1.size ≤ 9223372036854775807 ∧ LQc a.2
def LMsg (a : MsgD) : Prop := LBlock a.2.2.1 ∧ LQc a.2.2.2.1 ∧ LQc a.2.2.2.2.1
def LSafe (a : SafeD) : Prop := LQc a.2.2.1 ∧ a.2.2.2.size ≤ 9223372036854775807
def LRep (a : RepD) : Prop := LSafe a.2.2.2.1 ∧ a.2.2.2.2.1.length ≤ 9223372036854775807 ∧ (a.2.2.2.2.2.1.length ≤ 9223372036854775807 ∧ ∀ x ∈ a.2.2.2.2.2.1, LQc x) ∧ a.2.2.2.2.2.2.1.1.length ≤ 9223372036854775807 ∧
  (a.2.2.2.2.2.2.2.length ≤ 9223372036854775807 ∧ ∀ x ∈ a.2.2.2.2.2.2.2, LMsg x.2)

def SQc (a : QcD) : Prop := a.2.2.length ≤ 1048576
def SBlock (a : BlockD) : Prop := SQc a.2
def SMsg (a : MsgD) : Prop := SBlock a.2.2.1 ∧ SQc a.2.2.2.1 ∧ SQc a.2.2.2.2.1
def SPosts (a : List PostD) : Prop := a.length ≤ 1048576 ∧ ∀ (j : Nat) (x : PostD), a[j]? = some x → SMsg x.2
def SParts (a : List QcD) : Prop := a.length ≤ 1048576 ∧ ∀ (j : Nat) (x : QcD), a[j]? = some x → SQc x
def SRep (a : RepD) : Prop := SQc a.2.2.2.1.2.2.1 ∧ a.2.2.2.2.1.length ≤ 1048576 ∧ SParts a.2.2.2.2.2.1 ∧ a.2.2.2.2.2.2.1.1.length ≤ 1048576 ∧ SPosts a.2.2.2.2.2.2.2

theorem szIntS_ok {a : List Int} (h : a.length ≤ 9223372036854775807) : SzOk (laws_szIntS F0) (fun a => a.length ≤ 1048576) a := by
  intro left h0 h1
  exact sz_len h h0 h1 fun r hr _ _ h4 => ⟨r, by rw [hr], Int.le_refl _, fun _ => h4⟩
theorem szByteS_ok {a : List Int} (h : a.length ≤ 9223372036854775807) : SzOk (laws_szByteS F0) (fun a => a.length ≤ 1048576) a := by
  intro left h0 h1
  exact sz_len h h0 h1 fun r hr _ _ h4 => ⟨r, by rw [hr], Int.le_refl _, fun _ => h4⟩
theorem szTxS_ok {a : List TxD} (h : a.length ≤ 9223372036854775807) : SzOk (laws_szTxS F0) (fun a => a.length ≤ 1048576) a := by
  intro left h0 h1
  exact sz_len h h0 h1 fun r hr _ _ h4 => ⟨r, by rw [hr], Int.le_refl _, fun _ => h4⟩
theorem szQc_ok {a : QcD} (h : LQc a) : SzOk (laws_szQc F0) SQc a := by
  intro left h0 h1
  refine sz_len h.1 h0 h1 fun r hr h2 h3 h4 => ?_
  rw [← hr]
  exact sz_bind (szIntS_ok h.2) h2 (by omega) fun r' h5 h6 h7 => ⟨r', rfl, Int.le_refl _, fun _ => h7⟩
theorem szPart_ok {a : QcD} (h : LQc a) : SzOk (laws_szPart F0) SQc a := by
  intro left h0 h1
  refine sz_len h.1 h0 h1 fun r hr h2 h3 h4 => ?_
  rw [← hr]
  exact sz_bind (szIntS_ok h.2) h2 (by omega) fun r' h5 h6 h7 => ⟨r', rfl, Int.le_refl _, fun _ => h7⟩
theorem szSafe_ok {a : SafeD} (h : LSafe a) : SzOk (laws_szSafe F0) (fun a => SQc a.2.2.1) a := by
  intro left h0 h1
  refine sz_bind (szQc_ok h.1) h0 h1 fun r h2 h3 h4 => ?_
  exact sz_len h.2 h2 (by omega) fun r' hr h5 h6 _ => ⟨r', by rw [hr], Int.le_refl _, fun _ => h4⟩
theorem szDisk_ok {a : DiskD} (h : a.1.length ≤ 9223372036854775807) : SzOk (laws_szDisk F0) (fun a => a.1.length ≤ 1048576) a := by
  intro left h0 h1
  exact sz_bind (szByteS_ok h) h0 h1 fun r h2 h3 h4 => ⟨r, rfl, Int.le_refl _, fun _ => h4⟩
theorem szBlock_ok {a : BlockD} (h : LBlock a) : SzOk (laws_szBlock F0) SBlock a := by
  intro left h0 h1
  refine sz_len h.1 h0 h1 fun r hr h2 h3 _ => ?_
  rw [← hr]
  exact sz_bind (szQc_ok h.2) h2 (by omega) fun r' h5 h6 h7 => ⟨r', rfl, Int.le_refl _, fun _ => h7⟩
theorem szMsg_ok {a : MsgD} (h : LMsg a) : SzOk (laws_szMsg F0) SMsg a := by
  intro left h0 h1
  refine sz_bind (szBlock_ok h.1) h0 h1 fun r h2 h3 h4 => ?_
  refine sz_bind (szPart_ok h.2.1) h2 (by omega) fun r' h5 h6 h7 => ?_
  exact sz_bind (szQc_ok h.2.2) h5 (by omega) fun r'' h8 h9 h10 => ⟨r'', rfl, Int.le_refl _, fun _ => ⟨h4, h7, h10⟩⟩
theorem szPost_ok {a : PostD} (h : LMsg a.2) : SzOk (laws_szPost F0) (fun a => SMsg a.2) a := by
  intro left h0 h1
  exact sz_bind (szMsg_ok h) h0 h1 fun r h2 h3 h4 => ⟨r, rfl, Int.le_refl _, fun _ => h4⟩
theorem N0_eq : F0.n = 18446744073709551616 := rfl
theorem szPartS_ok {a : List QcD} (h : a.length ≤ 9223372036854775807) (hx : ∀ x ∈ a, LQc x) : SzOk (laws_szPartS F0) SParts a := by
  intro left h0 h1
  refine sz_len h h0 h1 fun r hr h2 h3 h4 => ?_
  rw [← hr]
  rcases sz_loop (laws_szPartS_1 F0) _ (laws_szPart F0) SQc (fun _ _ _ _ => rfl) a (fun x hm => szPart_ok (hx x hm)) h F0.n 0 r (Nat.zero_le _) (by rw [N0_eq]; omega) h2 (by omega) with h5 | ⟨r', h5, h6, h7, h8⟩
  · exact ⟨-1, by rw [show (0 : Int) = ((0 : Nat) : Int) from rfl, h5]; rfl, by omega, fun h => by omega⟩
  · exact ⟨r', by rw [show (0 : Int) = ((0 : Nat) : Int) from rfl, h5]; rfl, h7, fun _ => ⟨h4, fun j x hj => h8 j x (Nat.zero_le _) hj⟩⟩
theorem szPostS_ok {a : List PostD} (h : a.length ≤ 9223372036854775807) (hx : ∀ x ∈ a, LMsg x.2) : SzOk (laws_szPostS F0) SPosts a := by
  intro left h0 h1
  refine sz_len h h0 h1 fun r hr h2 h3 h4 => ?_
  rw [← hr]
  rcases sz_loop (laws_szPostS_1 F0) _ (laws_szPost F0) (fun x => SMsg x.2) (fun _ _ _ _ => rfl) a (fun x hm => szPost_ok (hx x hm)) h F0.n 0 r (Nat.zero_le _) (by rw [N0_eq]; omega) h2 (by omega) with h5 | ⟨r', h5, h6, h7, h8⟩
  · exact ⟨-1, by rw [show (0 : Int) = ((0 : Nat) : Int) from rfl, h5]; rfl, by omega, fun h => by omega⟩
  · exact ⟨r', by rw [show (0 : Int) = ((0 : Nat) : Int) from rfl, h5]; rfl, h7, fun _ => ⟨h4, fun j x hj => h8 j x (Nat.zero_le _) hj⟩⟩
theorem szRep_ok {a : RepD} (h : LRep a) : SzOk (laws_szRep F0) SRep a := by
  intro left h0 h1
  refine sz_bind (szSafe_ok h.1) h0 h1 fun r h2 h3 h4 => ?_
  refine sz_bind (szTxS_ok h.2.1) h2 (by omega) fun r' h5 h6 h7 => ?_
  refine sz_bind (szPartS_ok h.2.2.1.1 h.2.2.1.2) h5 (by omega) fun r'' h8 h9 h10 => ?_
  refine sz_bind (szDisk_ok h.2.2.2.1) h8 (by omega) fun r3 h11 h12 h13 => ?_
  exact sz_bind (szPostS_ok h.2.2.2.2.1 h.2.2.2.2.2) h11 (by omega) fun r4 h14 h15 h16 => ⟨r4, rfl, Int.le_refl _, fun _ => ⟨h4, h7, h10, h13, h16⟩⟩

/-! ### Copies -/
theorem mk_ok {n : Nat} {k : Int} (h0 : 0 ≤ k) (hk : k ≤ 1024) (h : n ≤ 1048576) : (decide (0 ≤ (n : Int)) && (n : Int) == (n : Int) && decide ((n : Int) * k ≤ F0.mem)) = true := by
  have h1 : (n : Int) * k ≤ 1048576 * 1024 := Int.mul_le_mul (by omega) hk h0 (by omega)
  have h2 : F0.mem = 140737488355328 := rfl
  rw [h2, Bool.and_eq_true, Bool.and_eq_true]
  exact ⟨⟨decide_eq_true (by omega), beq_self_eq_true _⟩, decide_eq_true (by omega)⟩
theorem toIntS_eq {a : List Int} (h : a.length ≤ 1048576) : laws_toIntS F0 a = some (a, ()) := by
  unfold laws_toIntS
  rw [mk_ok (k := 8) (by omega) (by omega) h]
  have := copy_loop (laws_toIntS_1 F0) 0 (fun x => some (x, ())) (fun _ _ _ _ => rfl) a (fun _ _ => rfl) (by omega) F0.n 0 (List.replicate (a.length : Int).toNat 0) (by simp) (Nat.zero_le _) (by simp) (by rw [N0_eq]; omega)
  simp only [ck]
  replace this : laws_toIntS_1 F0 F0.n a (0 : Int) _ = _ := this
  rw [this]
  rfl
theorem toByteS_eq {a : List Int} (h : a.length ≤ 1048576) : laws_toByteS F0 a = some (a, ()) := by
  unfold laws_toByteS
  rw [mk_ok (k := 1) (by omega) (by omega) h]
  have := copy_loop (laws_toByteS_1 F0) 0 (fun x => some (x, ())) (fun _ _ _ _ => rfl) a (fun _ _ => rfl) (by omega) F0.n 0 (List.replicate (a.length : Int).toNat 0) (by simp) (Nat.zero_le _) (by simp) (by rw [N0_eq]; omega)
  simp only [ck]
  replace this : laws_toByteS_1 F0 F0.n a (0 : Int) _ = _ := this
  rw [this]
  rfl
theorem toTxS_eq {a : List TxD} (h : a.length ≤ 1048576) : laws_toTxS F0 a = some (a, ()) := by
  unfold laws_toTxS
  rw [mk_ok (k := 32) (by omega) (by omega) h]
  have := copy_loop (laws_toTxS_1 F0) (0, (0, (0, 0))) (laws_toTx F0) (fun _ _ _ _ => rfl) a (fun _ _ => rfl) (by omega) F0.n 0 (List.replicate (a.length : Int).toNat (0, (0, (0, 0)))) (by simp) (Nat.zero_le _) (by simp) (by rw [N0_eq]; omega)
  simp only [ck]
  replace this : laws_toTxS_1 F0 F0.n a (0 : Int) _ = _ := this
  rw [this]
  rfl
theorem toQc_eq {a : QcD} (h : SQc a) : laws_toQc F0 a = some (a, ()) := by
  unfold laws_toQc
  rw [toIntS_eq h]
  rfl
theorem toPart_eq {a : QcD} (h : SQc a) : laws_toPart F0 a = some (a, ()) := by
  unfold laws_toPart
  rw [toIntS_eq h]
  rfl
theorem toSafe_eq {a : SafeD} (h : SQc a.2.2.1) : laws_toSafe F0 a = some (a, ()) := by
  unfold laws_toSafe
  rw [toQc_eq h]
  rfl
theorem toDisk_eq {a : DiskD} (h : a.1.length ≤ 1048576) : laws_toDisk F0 a = some (a, ()) := by
  unfold laws_toDisk
  rw [toByteS_eq h]
  rfl
theorem toBlock_eq {a : BlockD} (h : SBlock a) : laws_toBlock F0 a = some (a, ()) := by
  unfold laws_toBlock
  rw [toQc_eq h]
  rfl
theorem toMsg_eq {a : MsgD} (h : SMsg a) : laws_toMsg F0 a = some (a, ()) := by
  unfold laws_toMsg
  rw [toBlock_eq h.1]
  simp only [Option.bind_some]
  rw [toPart_eq h.2.1]
  simp only [Option.bind_some]
  rw [toQc_eq h.2.2]
  rfl
theorem toPost_eq {a : PostD} (h : SMsg a.2) : laws_toPost F0 a = some (a, ()) := by
  unfold laws_toPost
  rw [toMsg_eq h]
  rfl
theorem toPartS_eq {a : List QcD} (h : SParts a) : laws_toPartS F0 a = some (a, ()) := by
  unfold laws_toPartS
  rw [mk_ok (k := 48) (by omega) (by omega) h.1]
  have := copy_loop (laws_toPartS_1 F0) _ (laws_toPart F0) (fun _ _ _ _ => rfl) a (fun x hx => by
    obtain ⟨j, hj⟩ := List.getElem?_of_mem hx
    exact toPart_eq (h.2 j x hj)) (by have := h.1; omega) F0.n 0 (List.replicate (a.length : Int).toNat (0, ((ByteArray.mk #[]), []))) (by simp) (Nat.zero_le _) (by simp) (by have := h.1; rw [N0_eq]; omega)
  simp only [ck]
  replace this : laws_toPartS_1 F0 F0.n a (0 : Int) _ = _ := this
  rw [this]
  rfl
theorem toPostS_eq {a : List PostD} (h : SPosts a) : laws_toPostS F0 a = some (a, ()) := by
  unfold laws_toPostS
  rw [mk_ok (k := 224) (by omega) (by omega) h.1]
  have := fun xs (hxs : xs.length = a.length) => copy_loop (laws_toPostS_1 F0) _ (laws_toPost F0) (fun _ _ _ _ => rfl) a (fun x hx => by
    obtain ⟨j, hj⟩ := List.getElem?_of_mem hx
    exact toPost_eq (h.2 j x hj)) (by have := h.1; omega) F0.n 0 xs hxs (Nat.zero_le _) (by simp) (by have := h.1; rw [N0_eq]; omega)
  simp only [ck]
  rw [show (0 : Int) = ((0 : Nat) : Int) from rfl, this _ (by simp)]
  rfl
theorem toRep_eq {a : RepD} (h : SRep a) : laws_toRep F0 a = some (a, ()) := by
  unfold laws_toRep
  rw [toSafe_eq h.1]
  simp only [Option.bind_some]
  rw [toTxS_eq h.2.1]
  simp only [Option.bind_some]
  rw [toPartS_eq h.2.2.1]
  simp only [Option.bind_some]
  rw [toDisk_eq h.2.2.2.1]
  simp only [Option.bind_some]
  rw [toPostS_eq h.2.2.2.2]
  rfl

/-! ### Alike -/
theorem eqIntS_self {a : List Int} (h : a.length ≤ 9223372036854775807) : laws_eqIntS F0 a a = some (true, ()) := by
  unfold laws_eqIntS
  have := eq_loop (β := Unit) (laws_eqIntS_1 F0) 0 (fun x y r => br (x != y) (some (.inl false)) r) (fun _ _ _ _ => rfl) a (fun x _ r => by simp [br]) h F0.n 0 (Nat.zero_le _) (by rw [N0_eq]; omega)
  rw [show (0 : Int) = ((0 : Nat) : Int) from rfl, this]
  simp [br]
theorem eqByteS_self {a : List Int} (h : a.length ≤ 9223372036854775807) : laws_eqByteS F0 a a = some (true, ()) := by
  unfold laws_eqByteS
  have := eq_loop (β := Unit) (laws_eqByteS_1 F0) 0 (fun x y r => br (x != y) (some (.inl false)) r) (fun _ _ _ _ => rfl) a (fun x _ r => by simp [br]) h F0.n 0 (Nat.zero_le _) (by rw [N0_eq]; omega)
  rw [show (0 : Int) = ((0 : Nat) : Int) from rfl, this]
  simp [br]
theorem eqTx_self (a : TxD) : laws_eqTx F0 a a = some (true, ()) := by
  unfold laws_eqTx
  simp [br]
theorem eqTxS_self {a : List TxD} (h : a.length ≤ 9223372036854775807) : laws_eqTxS F0 a a = some (true, ()) := by
  unfold laws_eqTxS
  have := eq_loop (β := Unit) (laws_eqTxS_1 F0) (0, (0, (0, 0))) (fun x y r => (laws_eqTx F0 x y).bind fun r25 => br (!r25.1) (some (.inl false)) r) (fun _ _ _ _ => rfl) a (fun x _ r => by rw [eqTx_self]; rfl) h F0.n 0 (Nat.zero_le _) (by rw [N0_eq]; omega)
  rw [show (0 : Int) = ((0 : Nat) : Int) from rfl, this]
  simp [br]
theorem eqQc_self {a : QcD} (h : LQc a) : laws_eqQc F0 a a = some (true, ()) := by
  unfold laws_eqQc
  rw [eqIntS_self h.2]
  simp [br]
theorem eqPart_self {a : QcD} (h : LQc a) : laws_eqPart F0 a a = some (true, ()) := by
  unfold laws_eqPart
  rw [eqIntS_self h.2]
  simp [br]
theorem eqSafe_self {a : SafeD} (h : LSafe a) : laws_eqSafe F0 a a = some (true, ()) := by
  unfold laws_eqSafe
  rw [eqQc_self h.1]
  simp [br]
theorem eqDisk_self {a : DiskD} (h : a.1.length ≤ 9223372036854775807) : laws_eqDisk F0 a a = some (true, ()) := by
  unfold laws_eqDisk
  rw [eqByteS_self h]
  simp [br]
theorem eqBlock_self {a : BlockD} (h : LBlock a) : laws_eqBlock F0 a a = some (true, ()) := by
  unfold laws_eqBlock
  rw [eqQc_self h.2]
  simp [br]
theorem eqMsg_self {a : MsgD} (h : LMsg a) : laws_eqMsg F0 a a = some (true, ()) := by
  unfold laws_eqMsg
  rw [eqBlock_self h.1, eqPart_self h.2.1, eqQc_self h.2.2, eqTx_self]
  simp [br]
theorem eqPost_self {a : PostD} (h : LMsg a.2) : laws_eqPost F0 a a = some (true, ()) := by
  unfold laws_eqPost
  rw [eqMsg_self h]
  simp [br]
theorem eqPartS_self {a : List QcD} (h : a.length ≤ 9223372036854775807) (hx : ∀ x ∈ a, LQc x) : laws_eqPartS F0 a a = some (true, ()) := by
  unfold laws_eqPartS
  have := eq_loop (β := Unit) (laws_eqPartS_1 F0) _ (fun x y r => (laws_eqPart F0 x y).bind fun r25 => br (!r25.1) (some (.inl false)) r) (fun _ _ _ _ => rfl) a (fun x hm r => by rw [eqPart_self (hx x hm)]; rfl) h F0.n 0 (Nat.zero_le _) (by rw [N0_eq]; omega)
  rw [show (0 : Int) = ((0 : Nat) : Int) from rfl, this]
  simp [br]
theorem eqPostS_self {a : List PostD} (h : a.length ≤ 9223372036854775807) (hx : ∀ x ∈ a, LMsg x.2) : laws_eqPostS F0 a a = some (true, ()) := by
  unfold laws_eqPostS
  have := eq_loop (β := Unit) (laws_eqPostS_1 F0) _ (fun x y r => (laws_eqPost F0 x y).bind fun r25 => br (!r25.1) (some (.inl false)) r) (fun _ _ _ _ => rfl) a (fun x hm r => by rw [eqPost_self (hx x hm)]; rfl) h F0.n 0 (Nat.zero_le _) (by rw [N0_eq]; omega)
  rw [show (0 : Int) = ((0 : Nat) : Int) from rfl, this]
  simp [br]
theorem eqRep_self {a : RepD} (h : LRep a) : laws_eqRep F0 a a = some (true, ()) := by
  unfold laws_eqRep
  rw [eqSafe_self h.1, eqTxS_self h.2.1, eqPartS_self h.2.2.1.1 h.2.2.1.2, eqDisk_self h.2.2.2.1, eqPostS_self h.2.2.2.2.1 h.2.2.2.2.2]
  simp [br]

/-- The law answers true. -/
theorem FnExactLoad_true {a : RepD} (h : LRep a) : laws_FnExactLoad F0 a = some (true, ()) := by
  obtain ⟨r, h1, h2, h3⟩ := szRep_ok h 1048576 (by omega) (by omega)
  unfold laws_FnExactLoad
  rw [h1]
  simp only [Option.bind_some]
  by_cases hn : r < 0
  · simp [hn, br]
  · have hs := h3 (by omega)
    have h4 : laws_toRep F0 a = some (a, ()) := toRep_eq hs
    have h5 : laws_eqRep F0 a a = some (true, ()) := eqRep_self h
    simp only [hn, decide_false, br, h4, Option.bind_some, spec_Load, impl_Load, h5]
    simp [br]
end Go.Am.Try
