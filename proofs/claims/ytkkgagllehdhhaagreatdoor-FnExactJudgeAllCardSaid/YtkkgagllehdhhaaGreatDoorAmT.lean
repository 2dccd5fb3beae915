/- The abstract machine: Go's loaded code run over plain data (definitions alone). No condition. -/
import Derived.WalkKit
import Derived.KernelRfl
import Derived.Deep.Quiet
import Derived.OrdersHeld
import Derived.Deep.RegionHeld3
set_option linter.unusedVariables false
namespace Go.Am

/-! ### Kinds of data -/
inductive Ty where
  | int (k : IntKind) | bool | str | unit
  | pair (a b : Ty)
  | sl (e : TypeId) (t : Ty)

@[reducible] def Ty.D : Ty → Type
  | .int _ => Int
  | .bool => Bool
  | .str => ByteArray
  | .unit => Unit
  | .pair a b => a.D × b.D
  | .sl _ t => List t.D

def Ty.dflt : (t : Ty) → t.D
  | .int _ => (0 : Int)
  | .bool => false
  | .str => ByteArray.empty
  | .unit => ()
  | .pair a b => (a.dflt, b.dflt)
  | .sl _ _ => []

def Ty.n : Ty → Nat
  | .int _ | .bool | .str | .sl _ _ => 1
  | .unit => 0
  | .pair a b => a.n + b.n

def kbeq : IntKind → IntKind → Bool
  | .i8, .i8 | .i16, .i16 | .i32, .i32 | .i64, .i64 | .u8, .u8 | .u16, .u16 | .u32, .u32 | .u64, .u64 => true
  | _, _ => false
theorem kbeq_eq {a b : IntKind} (h : kbeq a b = true) : a = b := by cases a <;> cases b <;> first | rfl | cases h

def Ty.beq : Ty → Ty → Bool
  | .int k, .int l => kbeq k l
  | .bool, .bool | .str, .str | .unit, .unit => true
  | .pair a b, .pair c d => a.beq c && b.beq d
  | .sl e t, .sl f u => Nat.beq e f && t.beq u
  | _, _ => false

theorem Ty.beq_eq : ∀ {a b : Ty}, a.beq b = true → a = b
  | .int k, .int l, h => by rw [kbeq_eq (show kbeq k l = true from h)]
  | .bool, .bool, _ | .str, .str, _ | .unit, .unit, _ => rfl
  | .pair a b, .pair c d, h => by
    have h' : (a.beq c && b.beq d) = true := h
    rw [Bool.and_eq_true] at h'
    rw [Ty.beq_eq h'.1, Ty.beq_eq h'.2]
  | .sl e t, .sl f u, h => by
    have h' : (Nat.beq e f && t.beq u) = true := h
    rw [Bool.and_eq_true] at h'
    rw [Nat.eq_of_beq_eq_true h'.1, Ty.beq_eq h'.2]

def mkSt : List Ty → Ty
  | [] => .unit
  | [a] => a
  | a :: b :: l => .pair a (mkSt (b :: l))

/-- The kind of a type, off the program's table. -/
def tyOf (P : Program) : Nat → TypeId → Option Ty
  | 0, _ => none
  | n + 1, t =>
    match P.underlying t with
    | some (.int k) => some (.int k)
    | some .bool => some .bool
    | some .string => some .str
    | some (.slice e) => (tyOf P n e).map (.sl e)
    | some (.struct fs) => (fs.toList.mapM fun f => tyOf P n f.type).map mkSt
    | some (.array m e) => (tyOf P n e).map fun t => mkSt (List.replicate m t)
    | _ => none

/-! ### Values -/
/-- What stands in one cell. -/
inductive AC where
  | none
  | int (k : IntKind) (n : Int)
  | bool (b : Bool)
  | str (s : ByteArray)
  | nil
  | ro (f : Bool) (e : TypeId) (t : Ty) (xs : List t.D)
  | own (id : Nat) (len : Option Int)
  | ptr (b : Nat) (off : Nat)
  | eown (id : Nat) (i : Int) (off : Nat)
  | ero (f : Bool) (t : Ty) (x : t.D) (off : Nat)
  | fnp (g : Nat) (b : Nat)     -- a function literal that holds one box
inductive CV where
  | c (x : AC)
  | agg (l : List AC)
inductive AV where
  | v (x : CV)
  | tup (l : List CV)

def CV.cells : CV → List AC
  | .c x => [x]
  | .agg l => l

/-- A block of the call's own that is a slice's row. -/
structure Blk where
  e : TypeId
  t : Ty
  xs : List t.D
  f : Bool     -- what the elements hold is new
  w : Bool     -- may be written

structure St where
  nt : Nat
  tm : List (Nat × AV)
  bx : List (Nat × List AC)
  bl : List (Nat × Option Blk)
  sp : AV := .v (.c .none)     -- the parameter that was handed over, as it came
  rob : List Nat := []     -- temporaries whose boxes are never written to

def look {α : Type} : List (Nat × α) → Nat → Option α
  | [], _ => none
  | (k, v) :: l, n => match Nat.beq k n with | true => some v | false => look l n

def St.get (st : St) (t : Nat) : AV := match look st.tm t with | some v => v | none => .v (.c .none)
def St.put (st : St) (d : Nat) (v : AV) : St := { st with tm := (d, v) :: st.tm }
def St.blk (st : St) (id : Nat) : Option Blk := match look st.bl id with | some b => b | none => none

def ck {α : Type} (c : Bool) (k : Option α) : Option α := match c with | true => k | false => none
def br {α : Type} (c : Bool) (x y : α) : α := match c with | true => x | false => y

def ofCell : Value → AC
  | .int k n => .int k n
  | .bool b => .bool b
  | .string s => .str s
  | .slice none 0 0 => .nil
  | _ => .none
def ofConst : Value → CV
  | .agg cs => .agg (cs.toList.map ofCell)
  | v => .c (ofCell v)

def St.ev (st : St) : Operand → AV
  | .tmp t => st.get t
  | .const v => .v (ofConst v)
  | _ => .v (.c .none)
def St.evc (st : St) (o : Operand) : CV := match st.ev o with | .v x => x | .tup _ => .c .none
def St.ac (st : St) (o : Operand) : AC := match st.evc o with | .c x => x | .agg _ => .none

/-- Is it known what stands there? -/
def CV.kn : CV → Bool
  | .c .none => false
  | _ => true

/-! ### Data out of cells, cells out of data -/
def ex (f : Bool) : (t : Ty) → t.D → List AC
  | .int k, x => [.int k x]
  | .bool, x => [.bool x]
  | .str, x => [.str x]
  | .unit, _ => []
  | .pair a b, x => ex f a x.1 ++ ex f b x.2
  | .sl e t, x => [.ro f e t x]

def castD {t u : Ty} (h : t = u) (x : List t.D) : List u.D := h ▸ x

def cutLen {α : Type} (xs : List α) : Option Int → List α
  | none => xs
  | some n => xs.take n.toNat

/-- The data of a slice. -/
def slData (st : St) (t : Ty) : AC → Option (List t.D)
  | .nil => some []
  | .ro _ _ u xs => if h : u.beq t = true then some (castD (Ty.beq_eq h) xs) else none
  | .own id len => match st.blk id with
    | some b => if h : b.t.beq t = true then some (cutLen (castD (Ty.beq_eq h) b.xs) len) else none
    | none => none
  | _ => none

/-- Data of a kind out of cells; what is left. -/
def im (st : St) : (t : Ty) → List AC → Option (t.D × List AC)
  | .int k, .int l n :: r => if kbeq l k then some (n, r) else none
  | .bool, .bool b :: r => some (b, r)
  | .str, .str s :: r => some (s, r)
  | .unit, r => some ((), r)
  | .pair a b, r => match im st a r with
    | some (x, r1) => match im st b r1 with
      | some (y, r2) => some ((x, y), r2)
      | none => none
    | none => none
  | .sl _ t, c :: r => match slData st t c with
    | some xs => some (xs, r)
    | none => none
  | _, _ => none

/-! ### Contracts of callees -/
@[reducible] def Args : List (Ty × Bool) → Type
  | [] => Unit
  | a :: l => a.1.D × Args l
structure Con where
  ps : List (Ty × Bool)      -- each parameter's kind; is it a struct?
  rs : List (Ty × Bool)      -- each result's
  m : Nat                    -- slices that come back: 2 the caller's own, 1 new but only to be read, 0 new or out of the arguments
  g : Args ps → Option (Args rs)

/-- How a parameter is handed over: to be read; as rows of the callee's own (f: what their elements hold is new); as a pointer to a box. -/
inductive PM where
  | rd | own (f : Bool) | box
/-- A contract of a function that writes: one parameter is handed over. -/
structure Con2 where
  ps : List (Ty × Bool)
  i : Nat                    -- which parameter
  pm : PM                    -- how
  rs : List (Ty × Bool)
  m : Nat                    -- 0, 1, 2 as above; 3: the caller's own rows, of whatever elements; 4: a pointer to a new box; 5: the same, what it holds may be the caller's
  qs : List (Ty × Bool)      -- what the rows (where they come back), the box then hold
  g : Args ps → Option (Args rs × Args qs)
/-- A contract of a function that looks for the first element that a function literal takes; the literal reads one box. -/
structure Idx where
  g : Nat                    -- the literal
  a : Ty × Bool              -- its parameter
  q : Ty                     -- what the box holds
  p : a.1.D → q.D → Bool
inductive Any where
  | one (c : Con) | two (c : Con2) | idx (i : Idx)
  | ins (e : TypeId) (u : Ty)      -- a row is put into a row, at a place
  | del (e : TypeId) (u : Ty)      -- a piece of a row is struck
def idxL {α : Type} (p : α → Bool) : List α → Int → Int
  | [], _ => -1
  | x :: l, i => match p x with | true => i | false => idxL p l (i + 1)

/-- The results, as cells; a slice: a new block each. -/
def exR (id : Nat) (f : Bool) : (t : Ty) → t.D → Nat → List AC × List (Nat × Option Blk)
  | .int k, x, _ => ([.int k x], [])
  | .bool, x, _ => ([.bool x], [])
  | .str, x, _ => ([.str x], [])
  | .unit, _, _ => ([], [])
  | .pair a b, x, j => ((exR id f a x.1 j).1 ++ (exR id f b x.2 (j + a.n)).1, (exR id f a x.1 j).2 ++ (exR id f b x.2 (j + a.n)).2)
  | .sl e t, x, j => ([.own (id * 64 + j) none], [(id * 64 + j, some ⟨e, t, x, f, true⟩)])

/-! ### Pure operations -/
/-- How many rounds; how many bytes a row, a text may have. -/
structure Par where
  n : Nat
  mem : Int
  str : Int
@[reducible] def Par.std (n : Nat) : Par := ⟨n, 140737488355328, 9223372036854775807⟩

def intOp {α : Type} (op : BinOp) (kd : IntKind) (a b : Int) (k : AC → Option α) : Option α :=
  match op with
  | .add => k (.int kd (kd.wrap (a + b)))
  | .sub => k (.int kd (kd.wrap (a - b)))
  | .mul => k (.int kd (kd.wrap (a * b)))
  | .quo => ck (!(b == 0)) (k (.int kd (kd.wrap (a.tdiv b))))
  | .rem => ck (!(b == 0)) (k (.int kd (a.tmod b)))
  | .and => k (.int kd (kd.wrap (BitVec.ofInt kd.bits a &&& BitVec.ofInt kd.bits b).toNat))
  | .or => k (.int kd (kd.wrap (BitVec.ofInt kd.bits a ||| BitVec.ofInt kd.bits b).toNat))
  | .xor => k (.int kd (kd.wrap (BitVec.ofInt kd.bits a ^^^ BitVec.ofInt kd.bits b).toNat))
  | .eql => k (.bool (a == b))
  | .neq => k (.bool (a != b))
  | .lss => k (.bool (decide (a < b)))
  | .leq => k (.bool (decide (a ≤ b)))
  | .gtr => k (.bool (decide (a > b)))
  | .geq => k (.bool (decide (a ≥ b)))
  | _ => none

def shiftOp {α : Type} (op : BinOp) (kd : IntKind) (a b : Int) (k : AC → Option α) : Option α :=
  match op with
  | .shl => ck (decide (0 ≤ b)) (k (.int kd (kd.wrap (a * 2 ^ (min b.toNat kd.bits)))))
  | .shr => ck (decide (0 ≤ b)) (k (.int kd (a.fdiv (2 ^ (min b.toNat kd.bits)))))
  | _ => none

def strOp {α : Type} (F : Par) (op : BinOp) (a b : ByteArray) (k : AC → Option α) : Option α :=
  match op with
  | .add => ck (decide (((a.size + b.size : Nat) : Int) ≤ F.str)) (k (.str (a ++ b)))
  | .eql => k (.bool (a.toList == b.toList))
  | .neq => k (.bool (!(a.toList == b.toList)))
  | .lss => k (.bool (Op.bytesLess a.toList b.toList))
  | .leq => k (.bool (Op.bytesLess a.toList b.toList || a.toList == b.toList))
  | .gtr => k (.bool (!(Op.bytesLess a.toList b.toList || a.toList == b.toList)))
  | .geq => k (.bool (!(Op.bytesLess a.toList b.toList)))
  | _ => none

def binC {α : Type} (P : Program) (F : Par) (op : BinOp) (xt : TypeId) (x y : AC) (k : AC → Option α) : Option α :=
  match x, y with
  | .int kd a, .int ke b => match op with
    | .shl | .shr => shiftOp op kd a b k
    | _ => ck (kbeq kd ke) (intOp op kd a b k)
  | .str a, .str b => strOp F op a b k
  | .bool a, .bool b => match P.underlying xt, op with
    | some .bool, .eql => k (.bool (a == b))
    | some .bool, .neq => k (.bool (!(a == b)))
    | _, _ => none
  | _, _ => none

/-- Structs of plain cells compared. -/
def eqFields (P : Program) : List Field → Nat → List AC → List AC → Option Bool
  | [], _, [], [] => some true
  | f :: fs, i, a :: r, b :: s => match Nat.beq f.offset i && !(f.name == "_") with
    | true => match eqFields P fs (i + 1) r s with
      | some c => match P.underlying f.type, a, b with
        | some (.int _), .int k x, .int l y => match kbeq k l with | true => some ((x == y) && c) | false => none
        | some .string, .str x, .str y => some ((x.toList == y.toList) && c)
        | some .bool, .bool x, .bool y => some ((x == y) && c)
        | _, _, _ => none
      | none => none
    | false => none
  | _, _, _, _ => none
def eqStruct (P : Program) (t : TypeId) (l m : List AC) : Option Bool :=
  match P.underlying t with
  | some (.struct fs) => match P.stoodInHeld t || P.eqGuardType P.depth t with
    | false => eqFields P fs.toList 0 l m
    | true => none
  | _ => none

def flat : Ty → Bool
  | .int _ | .bool | .str | .unit => true
  | .pair a b => flat a && flat b
  | .sl _ _ => false

def slLen (st : St) : AC → Option Int
  | .nil => some 0
  | .ro _ _ _ xs => some (xs.length : Int)
  | .own _ (some n) => some n
  | .own id none => match st.blk id with | some b => some (b.xs.length : Int) | none => none
  | .str s => some (s.size : Int)
  | _ => none

def offOf (P : Program) (t : TypeId) (f : Nat) : Option Nat :=
  match P.underlying t with
  | some (.struct fs) => match fs[f]? with
    | some x => match P.cellsOf x.type with
      | 0 => none
      | _ => some x.offset
    | none => none
  | _ => none
def aggT (P : Program) (t : TypeId) : Option Bool :=
  match P.underlying t with
  | some (.struct _) | some (.array _ _) => some true
  | some _ => some false
  | none => none
def elemT (P : Program) (t : TypeId) : Option TypeId :=
  match P.underlying t with
  | some (.slice e) => some e
  | _ => none

def setNth {α : Type} : List α → Nat → α → List α
  | [], _, _ => []
  | _ :: l, 0, v => v :: l
  | x :: l, n + 1, v => x :: setNth l n v
def nth? {α : Type} : List α → Nat → Option α
  | [], _ => none
  | x :: _, 0 => some x
  | _ :: l, n + 1 => nth? l n
def takeN {α : Type} : Nat → List α → List α
  | 0, _ => []
  | _ + 1, [] => []
  | n + 1, x :: l => x :: takeN n l
def dropN {α : Type} : Nat → List α → List α
  | 0, l => l
  | _ + 1, [] => []
  | n + 1, _ :: l => dropN n l
def setMany {α : Type} : List α → Nat → List α → List α
  | l, _, [] => l
  | l, n, v :: vs => setMany (setNth l n v) (n + 1) vs


/-- Cells of data set anew from place o on. -/
def setD (st : St) : (t : Ty) → t.D → Nat × List AC → Option (t.D × (Nat × List AC))
  | .unit, x, s => some (x, s)
  | .pair a b, x, s => match setD st a x.1 s with
    | some (y, s1) => match setD st b x.2 s1 with
      | some (z, s2) => some ((y, z), s2)
      | none => none
    | none => none
  | .int k, x, (0, c :: r) => match im st (.int k) [c] with | some (n, _) => some (n, (0, r)) | none => none
  | .bool, x, (0, c :: r) => match im st .bool [c] with | some (n, _) => some (n, (0, r)) | none => none
  | .str, x, (0, c :: r) => match im st .str [c] with | some (n, _) => some (n, (0, r)) | none => none
  | .sl e t, x, (0, c :: r) => match im st (.sl e t) [c] with | some (n, _) => some (n, (0, r)) | none => none
  | .int _, x, (0, []) => some (x, (0, []))
  | .bool, x, (0, []) => some (x, (0, []))
  | .str, x, (0, []) => some (x, (0, []))
  | .sl _ _, x, (0, []) => some (x, (0, []))
  | .int _, x, (o + 1, l) => some (x, (o, l))
  | .bool, x, (o + 1, l) => some (x, (o, l))
  | .str, x, (o + 1, l) => some (x, (o, l))
  | .sl _ _, x, (o + 1, l) => some (x, (o, l))

/-- Rows that are read only, from now on. -/
def St.freeze1 (st : St) : AC → St
  | .own id _ => match st.blk id with
    | some b => { st with bl := (id, some { b with w := false }) :: st.bl }
    | none => st
  | _ => st
def St.freeze (st : St) (l : List AC) : St := l.foldl St.freeze1 st
def allKn : List AC → Bool
  | [] => true
  | .none :: _ => false
  | _ :: l => allKn l
def noId (id : Nat) : List AC → Bool
  | [] => true
  | .own i _ :: l => !Nat.beq i id && noId id l
  | _ :: l => noId id l
/-- Is all that these cells hold new? -/
def newAll : List AC → Bool
  | [] => true
  | .ro f _ _ _ :: l => f && newAll l
  | _ :: l => newAll l
/-- An own row whose elements hold what isn't new: it may not be stored into another row. -/
def ownNew (st : St) : List AC → Bool
  | [] => true
  | .own id _ :: l => (match st.blk id with | some b => b.f | none => false) && ownNew st l
  | _ :: l => ownNew st l

def byteAt (s : ByteArray) (i : Int) : Int := ((s.data.toList.getD i.toNat 0).toNat : Int)
def bytesOf (s : ByteArray) : List Int := s.data.toList.map fun b => (b.toNat : Int)
def strOf (xs : List Int) : ByteArray := ⟨(xs.map fun n => UInt8.ofNat n.toNat).toArray⟩

def St.pk {α : Type} (st : St) (d : Option Tmp) (v : AV) (k : St → Option α) : Option α :=
  match d with
  | none => k st
  | some d => ck (Nat.blt d st.nt) (k (st.put d v))
def St.lit (st : St) (o : Operand) (b : Bool) : St :=
  match o with
  | .tmp t => st.put t (.v (.c (.bool b)))
  | _ => st

section
variable (P : Program) (C : FuncId → Option Any) (F : Par) {α : Type}

def zeroOf (t : TypeId) : Option CV :=
  match P.info? t with
  | some i => match i.zero with
    | some v => some (ofConst v)
    | none => none
  | none => none

/-- A new row. -/
def St.row (st : St) (d : Tmp) (b : Blk) (k : St → Option α) : Option α :=
  match look st.bl (d * 64) with
  | some _ => none
  | none => ck (Nat.blt d st.nt) (k { (st.put d (.v (.c (.own (d * 64) none)))) with bl := (d * 64, some b) :: st.bl })

def hasN : List Nat → Nat → Bool
  | [], _ => false
  | x :: l, n => match Nat.beq x n with | true => true | false => hasN l n
/-- The elements of a literal. -/
def litElems (st : St) (t : Ty) : Nat → List (Nat × Operand) → Option (List t.D)
  | _, [] => some []
  | i, (j, o) :: l => match Nat.beq i j with
    | true => match im st t (st.evc o).cells with
      | some (x, []) => match litElems st t (i + 1) l with
        | some xs => some (x :: xs)
        | none => none
      | _ => none
    | false => none

def litCells (st : St) : List (Nat × Operand) → List AC
  | [] => []
  | (_, o) :: l => (st.evc o).cells ++ litCells st l

/-- A struct's literal. -/
def placesOf (t : TypeId) : Option (List (Nat × Nat)) :=
  match P.underlying t with
  | some (.struct fs) => fs.toList.mapM fun f => (P.info? f.type).map fun i => (f.offset, i.size)
  | _ => none
def buildCells (st : St) (places : List (Nat × Nat)) : List AC → List (Nat × Operand) → Option (List AC)
  | acc, [] => some acc
  | acc, (f, o) :: l => match nth? places f with
    | some (off, size) => match (st.evc o).kn && Nat.beq size (st.evc o).cells.length && Nat.ble (off + (st.evc o).cells.length) acc.length with
      | true => buildCells st places (setMany acc off (st.evc o).cells) l
      | false => none
    | none => none

def cellsAt (st : St) : AC → Option (List AC × Nat)
  | .ptr b off => match look st.bx b with | some l => some (l, off) | none => none
  | .eown id i off => match st.blk id with | some b => some (ex b.f b.t (b.xs.getD i.toNat b.t.dflt), off) | none => none
  | .ero f t x off => some (ex f t x, off)
  | _ => none

def bound (o : Option Operand) (st : St) (d : Int) : Option Int :=
  match o with
  | none => some d
  | some x => match st.ac x with | .int _ n => some n | _ => none

def callArgs (st : St) : List Operand → List AC
  | [] => []
  | o :: l => (st.evc o).cells ++ callArgs st l

/-- The arguments' data. -/
def imV (st : St) (a : Ty × Bool) (c : CV) : Option a.1.D :=
  match c, a.2 with
  | .agg l, true => match im st a.1 l with
    | some (x, []) => some x
    | _ => none
  | .c c, false => match im st a.1 [c] with
    | some (x, []) => some x
    | _ => none
  | _, _ => none
def im1 (st : St) (a : Ty × Bool) (o : Operand) : Option a.1.D := imV st a (st.evc o)
def imArgs (st : St) : (ps : List (Ty × Bool)) → List Operand → Option (Args ps)
  | [], [] => some ()
  | a :: l, o :: os => match im1 st a o with
    | some x => match imArgs st l os with
      | some y => some (x, y)
      | none => none
    | none => none
  | _, _ => none
def imVs (st : St) : (ps : List (Ty × Bool)) → List CV → Option (Args ps)
  | [], [] => some ()
  | a :: l, o :: os => match imV st a o with
    | some x => match imVs st l os with
      | some y => some (x, y)
      | none => none
    | none => none
  | _, _ => none
def cvCells : List CV → List AC
  | [] => []
  | c :: l => c.cells ++ cvCells l

/-- What comes back of a call, value by value: each slice a row of its own. -/
def ex1 (id : Nat) (f : Bool) (a : Ty × Bool) (x : a.1.D) (j : Nat) : CV × List (Nat × Option Blk) :=
  (match a.2 with | true => .agg (exR id f a.1 x j).1 | false => .c (match (exR id f a.1 x j).1 with | [c] => c | _ => .none), (exR id f a.1 x j).2)
def exRs (id : Nat) (f : Bool) : (rs : List (Ty × Bool)) → Args rs → Nat → List CV × List (Nat × Option Blk)
  | [], _, _ => ([], [])
  | a :: l, x, j => ((ex1 id f a x.1 j).1 :: (exRs id f l x.2 (j + a.1.n)).1, (ex1 id f a x.1 j).2 ++ (exRs id f l x.2 (j + a.1.n)).2)

def freshNames : List (Nat × Option Blk) → St → Bool
  | [], _ => true
  | (id, _) :: l, st => (match look st.bl id with | some _ => false | none => true) && freshNames l st

/-- Values that aren't structs are one cell each. -/
def flatOk : List (Ty × Bool) → Bool
  | [] => true
  | a :: l => (a.2 || Nat.beq a.1.n 1) && flatOk l
def retAV : List CV → AV
  | [v] => .v v
  | l => .tup l

/-- What comes back, read only; f: is it new? -/
def exF (f : Bool) : (rs : List (Ty × Bool)) → Args rs → List CV
  | [], _ => []
  | a :: l, x => (match a.2 with | true => .agg (ex f a.1 x.1) | false => .c (match ex f a.1 x.1 with | [c] => c | _ => .none)) :: exF f l x.2

def callCon (con : Con) (st : St) (d : Option Tmp) (args : List Operand) (k : St → Option α) : Option α :=
  match imArgs st con.ps args with
  | some x => (con.g x).bind fun r =>
    match d with
    | none => none
    | some d => match con.m with
      | 0 => ck (Nat.blt d st.nt && flatOk con.rs) (k ((st.freeze (callArgs st args)).put d (retAV (exF (ownNew st (callArgs st args) && newAll (callArgs st args)) con.rs r))))
      | 1 => ck (Nat.blt d st.nt && flatOk con.rs) (k (st.put d (retAV (exF true con.rs r))))
      | _ =>
        let q := exRs d true con.rs r 0
        ck (freshNames q.2 st && Nat.blt d st.nt && flatOk con.rs) (k { (st.put d (retAV q.1)) with bl := q.2 ++ st.bl })
  | _ => none

/-! ### Calls that write -/
/-- May these be handed back as the caller's own? -/
def resOk (st : St) (m : Nat) : List Nat → List AC → Bool
  | _, [] => true
  | seen, .own id len :: l => match st.blk id with
    | some b => (b.f || Nat.beq m 0 || Nat.beq m 3) && (match m with | 2 | 3 => b.w && !hasN seen id && (match len with | none => true | some _ => false) | _ => true) && resOk st m (id :: seen) l
    | none => false
  | seen, .ro f _ _ _ :: l => (match m with | 2 | 3 => false | 1 => f | _ => true) && resOk st m seen l
  | seen, _ :: l => resOk st m seen l

/-- Are the rows' elements of the type that is promised? -/
def rowsOf (st : St) : Ty → List AC → Option (List AC)
  | .sl e _, .own id _ :: r => match st.blk id with
    | some b => match Nat.beq b.e e with | true => some r | false => none
    | none => none
  | .sl _ t, .nil :: r => match Nat.beq t.n 0 with | true => none | false => some r
  | .int _, _ :: r | .bool, _ :: r | .str, _ :: r => some r
  | .unit, r => some r
  | .pair a b, r => match rowsOf st a r with | some r => rowsOf st b r | none => none
  | _, _ => none
def rowsOk (st : St) : List (Ty × Bool) → List CV → Bool
  | [], [] => true
  | a :: l, o :: os => (match rowsOf st a.1 o.cells with | some [] => true | _ => false) && rowsOk st l os
  | _, _ => false
def pmM : Bool → Nat
  | true => 2
  | false => 3
def im2 (st : St) (pm : PM) (a : Ty × Bool) (o : Operand) : Option a.1.D := match pm with
  | .rd => im1 st a o
  | .own f => match resOk st (pmM f) [] (st.evc o).cells && rowsOk st [a] [st.evc o] with | true => im1 st a o | false => none
  | .box => match st.evc o with
    | .c (.ptr b 0) => match look st.bx b with | some l => imV st a (.agg l) | none => none
    | _ => none
def imArgs2 (st : St) (pm : PM) : Nat → (ps : List (Ty × Bool)) → List Operand → Option (Args ps)
  | 0, a :: l, o :: os => match im2 st pm a o with
    | some x => match imArgs st l os with | some y => some (x, y) | none => none
    | none => none
  | i + 1, a :: l, o :: os => match im1 st a o with
    | some x => match imArgs2 st pm i l os with | some y => some (x, y) | none => none
    | none => none
  | _, _, _ => none
/-- What is read: all but the parameter that is handed over; its box's contents. -/
def rdArgs (st : St) (pm : PM) : Nat → List Operand → List AC
  | 0, o :: os => (match pm with
    | .rd => (st.evc o).cells
    | .own _ => []
    | .box => match st.evc o with | .c (.ptr b _) => (match look st.bx b with | some l => l | none => []) | _ => []) ++ callArgs st os
  | i + 1, o :: os => (st.evc o).cells ++ rdArgs st pm i os
  | _, [] => []
def spCV (st : St) (i : Nat) (args : List Operand) : CV := match nth? args i with | some o => st.evc o | none => .c .none
/-- The rows that were handed over: gone. -/
def St.gone (st : St) : List AC → St
  | [] => st
  | .own id _ :: l => { st.gone l with bl := (id, none) :: (st.gone l).bl }
  | _ :: l => st.gone l
/-- They come back. -/
def exKeep (f : Bool) : (t : Ty) → t.D → List AC → List (Nat × Option Blk) × List AC
  | .pair a b, x, l => ((exKeep f a x.1 l).1 ++ (exKeep f b x.2 (exKeep f a x.1 l).2).1, (exKeep f b x.2 (exKeep f a x.1 l).2).2)
  | .unit, _, l => ([], l)
  | .sl e t, x, .own id _ :: l => ([(id, some ⟨e, t, x, f, true⟩)], l)
  | _, _, _ :: l => ([], l)
  | _, _, [] => ([], [])
def m2 (m : Nat) : Bool := Nat.beq m 2
def rdM : Nat → Option Bool
  | 4 => some true
  | 5 => some false
  | _ => none
def backRd (f : Bool) (rs : List (Ty × Bool)) (st : St) (d : Tmp) (r : Args rs) (k : St → Option α) : Option α :=
  match rs, r with
  | [a], r => match look st.bx d with
    | none => ck (Nat.blt d st.nt && a.2) (k { (st.put d (.v (.c (.ptr d 0)))) with bx := (d, ex f a.1 r.1) :: st.bx })
    | some _ => none
  | _, _ => none
def backOwn (rs qs : List (Ty × Bool)) (m : Nat) (st : St) (c : CV) (d : Tmp) (r : Args rs × Args qs) (k : St → Option α) : Option α :=
  let q := exRs d (m2 m) rs r.1 0
  ck ((Nat.beq m 2 || Nat.beq m 3) && freshNames q.2 st && Nat.blt d st.nt && flatOk rs) (match qs, r with
    | [], _ => k { (st.put d (retAV q.1)) with bl := q.2 ++ (st.gone c.cells).bl }
    | [p], r => k { (st.put d (retAV q.1)) with bl := q.2 ++ ((exKeep (m2 m) p.1 r.2.1 c.cells).1 ++ st.bl) }
    | _, _ => none)
def backBox (rs qs : List (Ty × Bool)) (m : Nat) (st : St) (c : CV) (d : Tmp) (r : Args rs × Args qs) (k : St → Option α) : Option α :=
  match qs, r, c with
  | [p], r, .c (.ptr b _) => match m with
    | 0 => ck (Nat.blt d st.nt && flatOk rs) (k { (st.put d (retAV (exF false rs r.1))) with bx := (b, ex false p.1 r.2.1) :: st.bx })
    | 1 => ck (Nat.blt d st.nt && flatOk rs) (k { (st.put d (retAV (exF true rs r.1))) with bx := (b, ex false p.1 r.2.1) :: st.bx })
    | m =>
      let q := exRs d (m2 m) rs r.1 0
      ck ((Nat.beq m 2 || Nat.beq m 3) && freshNames q.2 st && Nat.blt d st.nt && flatOk rs) (k { (st.put d (retAV q.1)) with bl := q.2 ++ st.bl, bx := (b, ex false p.1 r.2.1) :: st.bx })
  | _, _, _ => none
def callCon2 (con : Con2) (st : St) (d : Option Tmp) (args : List Operand) (k : St → Option α) : Option α :=
  let st1 := st.freeze (rdArgs st con.pm con.i args)
  match imArgs2 st1 con.pm con.i con.ps args with
  | some x => (con.g x).bind fun r =>
    match d with
    | none => none
    | some d => match con.pm with
      | .rd => match rdM con.m with
        | some f => backRd f con.rs st1 d r.1 k
        | none => none
      | .own _ => backOwn con.rs con.qs con.m st1 (spCV st1 con.i args) d r k
      | .box => backBox con.rs con.qs con.m st1 (spCV st1 con.i args) d r k
  | none => none

/-- The first element that a function literal takes. -/
def callIdx (i : Idx) (st : St) (d : Option Tmp) (args : List Operand) (k : St → Option α) : Option α :=
  match args with
  | [s, f] => match st.ac f with
    | .fnp g b => match Nat.beq g i.g with
      | true => match look st.bx b with
        | some l => match im st i.q l with
          | some (y, []) => match slData st i.a.1 (st.ac s) with
            | some xs => st.pk d (.v (.c (.int .i64 (idxL (fun x => i.p x y) xs 0)))) k
            | none => none
          | _ => none
        | none => none
      | false => none
    | _ => none
  | _ => none

def minMax (op : Bool) (st : St) : Int → List Operand → Option Int
  | a, [] => some a
  | a, o :: l => match st.ac o with
    | .int _ b => minMax op st (match op with | true => if b > a then b else a | false => if b < a then b else a) l
    | _ => none

/-- What was there: its data, are its elements' rows new, the state without it. -/
def oldRow (st : St) (e : TypeId) (u : Ty) : AC → Option (List u.D × Bool × St)
  | .nil => some ([], true, st)
  | .own id none => match st.blk id with
    | some b => match b.w && Nat.beq b.e e with
      | true => if h : b.t.beq u = true then some (castD (Ty.beq_eq h) b.xs, b.f, { st with bl := (id, none) :: st.bl }) else none
      | false => none
    | none => none
  | _ => none
/-- What comes. -/
def newRow' (st : St) (u : Ty) : AC → Option (List u.D × Bool)
  | .own id len => match slData st u (.own id len), st.blk id with
    | some ys, some b => some (ys, b.f)
    | _, _ => none
  | .ro f e' t' ys => match slData st u (.ro f e' t' ys) with
    | some ys => some (ys, f)
    | none => none
  | .nil => some ([], true)
  | _ => none
def insRun (e : TypeId) (u : Ty) (st : St) (d : Option Tmp) (args : List Operand) (k : St → Option α) : Option α :=
  match d, args with
  | some d, [s, i, v] => match st.ac i, st.ac v with
    | .int .i64 n, .own id2 none => match st.blk id2 with
      | some b => match b.w && Nat.beq b.e e with
        | true => if h : b.t.beq u = true then
            match oldRow st e u (st.ac s) with
            | some (xs, f, st1) => match look st1.bl id2 with
              | some (some _) => ck (!Nat.beq u.n 0 && decide (0 ≤ n) && decide (n ≤ (xs.length : Int)) && decide (1 ≤ (b.xs.length : Int)) && decide (((xs.length + b.xs.length : Nat) : Int) ≤ 1073741824))
                  (st1.row d ⟨e, u, xs.take n.toNat ++ castD (Ty.beq_eq h) b.xs ++ xs.drop n.toNat, f && (b.f || flat u), true⟩ k)
              | _ => none
            | none => none
          else none
        | false => none
      | none => none
    | _, _ => none
  | _, _ => none
def delRun (e : TypeId) (u : Ty) (st : St) (d : Option Tmp) (args : List Operand) (k : St → Option α) : Option α :=
  match d, args with
  | some d, [s, i, j] => match st.ac i, st.ac j with
    | .int .i64 n, .int .i64 m => match oldRow st e u (st.ac s) with
      | some (xs, f, st1) => ck (!Nat.beq u.n 0 && decide (0 ≤ n) && decide (n ≤ m) && decide (m ≤ (xs.length : Int)))
          (st1.row d ⟨e, u, xs.take n.toNat ++ xs.drop m.toNat, f, true⟩ k)
      | none => none
    | _, _ => none
  | _, _ => none
def isByte0 : CV → Bool
  | .c (.int .u8 0) => true
  | _ => false

def appendRun (st : St) (d : Tmp) (s x : AC) (t t2 e : TypeId) (u : Ty) (z : CV) (k : St → Option α) : Option α :=
  match oldRow st e u s with
  | some (xs, f, st1) => match x with
    | .str w => if h : u.beq (.int .u8) = true then
        match P.underlying t2 with
        | some .string => ck (Nat.beq (P.cellsOf e) 1 && Nat.beq (P.bytesOf e) 1 && isByte0 z && decide (((xs.length + w.size : Nat) : Int) ≤ F.mem))
            (st1.row d ⟨e, .int .u8, castD (Ty.beq_eq h) xs ++ bytesOf w, f, true⟩ k)
        | _ => none
      else none
    | x => match newRow' st u x with
      | some (ys, g) =>
        ck (Nat.beq t t2 && Nat.beq (P.cellsOf e) u.n && Nat.beq z.cells.length u.n && z.kn && !Nat.beq u.n 0 && !Nat.beq (P.bytesOf e) 0 && decide (((xs.length + ys.length : Nat) : Int) * (P.bytesOf e : Int) ≤ F.mem))
          (st1.row d ⟨e, u, xs ++ ys, f && (g || flat u), true⟩ k)
      | none => none
  | none => none

def opRun (o : Oper) (st : St) (k : St → Option α) : Option α :=
  match o.op with
  | .move x | .assign x => st.pk o.dst (st.ev x) k
  | .pick c a b => match st.ac c with
    | .bool v => br v ((st.lit c true).pk o.dst (st.ev a) k) ((st.lit c false).pk o.dst (st.ev b) k)
    | _ => none
  | .box t x => match o.dst with
    | some d => match hasN st.rob d with
      | true => match tyOf P 20 t with
        | some u => match im st u (st.evc x).cells with
          | some (y, []) => ck (Nat.blt d st.nt && (st.evc x).kn && ownNew st (st.evc x).cells) (k ((st.freeze (st.evc x).cells).put d (.v (.c (.ero (newAll (st.evc x).cells) u y 0)))))
          | _ => none
        | none => none
      | false => match look st.bx d with
        | none => ck (Nat.blt d st.nt && (st.evc x).kn) (k { (st.put d (.v (.c (.ptr d 0)))) with bx := (d, (st.evc x).cells) :: st.bx })
        | some _ => none
    | none => none
  | .alloc t => match o.dst with
    | some d => match look st.bx d with
      | none => match zeroOf P t with
        | some z => ck (Nat.blt d st.nt && z.kn) (k { (st.put d (.v (.c (.ptr d 0)))) with bx := (d, z.cells) :: st.bx })
        | none => none
      | some _ => none
    | none => none
  | .build t parts => match zeroOf P t, placesOf P t with
    | some z, some ps => match z.kn, buildCells st ps z.cells parts.toList with
      | true, some l => st.pk o.dst (.v (.agg l)) k
      | _, _ => none
    | _, _ => none
  | .buildSlice t len parts => match o.dst, elemT P t with
    | some d, some e => match tyOf P 20 e with
      | some u => match litElems st u 0 parts.toList with
        | some xs => match Nat.beq parts.toList.length len && ownNew st (litCells st parts.toList) && (Nat.beq (P.cellsOf e) u.n && !Nat.beq u.n 0 && Nat.ble (len * u.n) 16777216 && (zeroOf P e).isSome) with
          | true => (st.freeze (litCells st parts.toList)).row d ⟨e, u, xs, newAll (litCells st parts.toList), true⟩ k
          | false => none
        | none => none
      | none => none
    | _, _ => none
  | .load t a => match cellsAt st (st.ac a) with
    | some (l, off) =>
      let q := takeN (P.cellsOf t) (dropN off l)
      match Nat.beq q.length (P.cellsOf t) with
      | true => match aggT P t with
        | some true => st.pk o.dst (.v (.agg q)) k
        | some false => match q with
          | [x] => st.pk o.dst (.v (.c x)) k
          | _ => none
        | none => none
      | false => none
    | none => none
  | .store t a x => match (st.evc x).kn && allKn (st.evc x).cells && Nat.beq (P.cellsOf t) (st.evc x).cells.length && (P.info? t).isSome with
    | true => match st.ac a with
      | .ptr b off => match look st.bx b with
        | some l => match Nat.ble (off + (st.evc x).cells.length) l.length with
          | true => ({ st with bx := (b, setMany l off (st.evc x).cells) :: st.bx }).pk o.dst (.tup []) k
          | false => none
        | none => none
      | .eown id i off => match st.blk id with
        | some b => match b.w && ownNew st (st.evc x).cells && noId id (st.evc x).cells with
          | true => match setD st b.t (b.xs.getD i.toNat b.t.dflt) (off, (st.evc x).cells) with
            | some (y, (0, [])) =>
              let st1 := st.freeze (st.evc x).cells
              ({ st1 with bl := (id, some { b with xs := b.xs.set i.toNat y, f := b.f && newAll (st.evc x).cells }) :: st1.bl }).pk o.dst (.tup []) k
            | _ => none
          | false => none
        | none => none
      | _ => none
    | false => none
  | .nilCheck x => match st.ac x with
    | .ptr b off => st.pk o.dst (.v (.c (.ptr b off))) k
    | _ => none
  | .binOp op xt x y _ => match st.evc x, st.evc y with
    | .c a, .c b => binC P F op xt a b fun r => st.pk o.dst (.v (.c r)) k
    | .agg l, .agg m => match op, eqStruct P xt l m with
      | .eql, some c => st.pk o.dst (.v (.c (.bool c))) k
      | .neq, some c => st.pk o.dst (.v (.c (.bool (!c)))) k
      | _, _ => none
    | _, _ => none
  | .unOp op _ x => match op, st.ac x with
    | .not, .bool b => st.pk o.dst (.v (.c (.bool (!b)))) k
    | .neg, .int kd n => st.pk o.dst (.v (.c (.int kd (kd.wrap (0 - n))))) k
    | _, _ => none
  | .convert src dst x => match P.underlying src, P.underlying dst, st.ac x with
    | some (.int _), some (.int kd), .int _ n => st.pk o.dst (.v (.c (.int kd (kd.wrap n)))) k
    | some .string, some .string, .str s => st.pk o.dst (.v (.c (.str s))) k
    | some .string, some (.slice e), .str s => match P.underlying e with
      | some (.int .u8) => ck (decide ((s.size : Int) ≤ F.mem)) (st.pk o.dst (.v (.c (.ro true e (.int .u8) (bytesOf s)))) k)
      | _ => none
    | some (.slice e), some .string, c => match P.underlying e, slData st (.int .u8) c with
      | some (.int .u8), some xs => st.pk o.dst (.v (.c (.str (strOf xs)))) k
      | _, _ => none
    | _, _, _ => none
  | .makeSlice t a b => match o.dst, elemT P t, st.ac a, st.ac b with
    | some d, some e, .int .i64 n, .int .i64 m => match tyOf P 20 e, zeroOf P e with
      | some u, some z => match im st u z.cells with
        | some (x, []) => ck (z.kn && (Nat.beq (P.cellsOf e) u.n && !Nat.beq u.n 0 && !Nat.beq (P.bytesOf e) 0) && decide (0 ≤ n) && n == m && decide (n * (P.bytesOf e : Int) ≤ F.mem))
            (st.row d ⟨e, u, List.replicate n.toNat x, true, true⟩ k)
        | _ => none
      | _, _ => none
    | _, _, _, _ => none
  | .slice t x lo hi none => match P.underlying t with
    | some .string => match st.ac x with
      | .str s => match bound lo st 0, bound hi st (s.size : Int) with
        | some l, some h => ck (decide (0 ≤ l) && decide (l ≤ h) && decide (h ≤ (s.size : Int))) (st.pk o.dst (.v (.c (.str (s.extract l.toNat h.toNat)))) k)
        | _, _ => none
      | _ => none
    | some (.slice e') => match st.ac x with
      | .ro f e u xs => match bound lo st 0, bound hi st (xs.length : Int) with
        | some l, some h => ck (Nat.beq (P.cellsOf e') u.n && !Nat.beq u.n 0 && (decide (0 ≤ l) && decide (l ≤ h) && decide (h ≤ (xs.length : Int)))) (st.pk o.dst (.v (.c (.ro f e u ((xs.take h.toNat).drop l.toNat)))) k)
        | _, _ => none
      | .own id none => match st.blk id, lo with
        | some b, none => match bound hi st (b.xs.length : Int) with
          | some h => ck (Nat.beq (P.cellsOf e') b.t.n && (decide (0 ≤ h) && decide (h ≤ (b.xs.length : Int)))) (st.pk o.dst (.v (.c (.own id (some h)))) k)
          | none => none
        | some b, some lo => match bound (some lo) st 0, bound hi st (b.xs.length : Int) with
          | some l, some h => ck (Nat.beq (P.cellsOf e') b.t.n && (decide (0 ≤ l) && decide (l ≤ h) && decide (h ≤ (b.xs.length : Int))))
              (({ st with bl := (id, some { b with w := false }) :: st.bl }).pk o.dst (.v (.c (.ro b.f b.e b.t ((b.xs.take h.toNat).drop l.toNat)))) k)
          | _, _ => none
        | none, _ => none
      | _ => none
    | _ => none
  | .fieldAddr t x f => match offOf P t f with
    | some q => match st.ac x with
      | .ptr b off => st.pk o.dst (.v (.c (.ptr b (off + q)))) k
      | .eown id i off => match st.blk id with
        | some _ => st.pk o.dst (.v (.c (.eown id i (off + q)))) k
        | none => none
      | .ero fl u y off => st.pk o.dst (.v (.c (.ero fl u y (off + q)))) k
      | _ => none
    | none => none
  | .indexAddr t x i => match st.ac i with
    | .int _ n => match P.underlying t with
      | some (.slice e) => match st.ac x with
        | .own id len => match st.blk id with
          | some b => match slLen st (.own id len) with
            | some m => ck (Nat.beq (P.cellsOf e) b.t.n && (decide (0 ≤ n) && decide (n < m))) (st.pk o.dst (.v (.c (.eown id n 0))) k)
            | none => none
          | none => none
        | .ro f _ u xs => ck (Nat.beq (P.cellsOf e) u.n && !Nat.beq u.n 0 && (decide (0 ≤ n) && decide (n < (xs.length : Int)))) (st.pk o.dst (.v (.c (.ero f u (xs.getD n.toNat u.dflt) 0))) k)
        | _ => none
      | some (.array m e) => match st.ac x with
        | .ptr b off => ck (!Nat.beq (P.cellsOf e) 0 && (decide (0 ≤ n) && decide (n < (m : Int)))) (st.pk o.dst (.v (.c (.ptr b (off + n.toNat * P.cellsOf e)))) k)
        | _ => none
      | _ => none
    | _ => none
  | .index t x i => match P.underlying t, st.ac x, st.ac i with
    | some .string, .str s, .int _ n => ck (decide (0 ≤ n) && decide (n < (s.size : Int))) (st.pk o.dst (.v (.c (.int .u8 (byteAt s n)))) k)
    | _, _, _ => none
  | .extract x i => match st.ev x with
    | .tup l => match nth? l i with
      | some v => st.pk o.dst (.v v) k
      | none => none
    | _ => none
  | .call { callee := .value (.func f), args, .. } => match C f with
    | some (.one con) => callCon con st o.dst args.toList k
    | some (.two con) => callCon2 con st o.dst args.toList k
    | some (.idx i) => callIdx i st o.dst args.toList k
    | some (.ins e u) => insRun e u st o.dst args.toList k
    | some (.del e u) => delRun e u st o.dst args.toList k
    | none => none
  | .call { callee := .builtin .len, args, argTypes } => match args.toList, argTypes.toList with
    | [x], [t] => match P.underlying t, slLen st (st.ac x) with
      | some .string, some n => match st.ac x with | .str _ => st.pk o.dst (.v (.c (.int .i64 n))) k | _ => none
      | some (.slice _), some n => match st.ac x with | .str _ => none | _ => st.pk o.dst (.v (.c (.int .i64 n))) k
      | _, _ => none
    | _, _ => none
  | .call { callee := .builtin .max, args, .. } => match args.toList with
    | x :: l => match st.ac x with
      | .int kd a => match minMax true st a l with
        | some r => st.pk o.dst (.v (.c (.int kd r))) k
        | none => none
      | _ => none
    | _ => none
  | .call { callee := .builtin .min, args, .. } => match args.toList with
    | x :: l => match st.ac x with
      | .int kd a => match minMax false st a l with
        | some r => st.pk o.dst (.v (.c (.int kd r))) k
        | none => none
      | _ => none
    | _ => none
  | .call { callee := .builtin .append, args, argTypes } => match o.dst, args.toList, argTypes.toList with
    | some d, [s, x], [t, t2] => match elemT P t with
      | some e => match tyOf P 20 e, zeroOf P e with
        | some u, some z => appendRun P F st d (st.ac s) (st.ac x) t t2 e u z k
        | _, _ => none
      | none => none
    | _, _, _ => none
  | .makeFunc (.func g) first caps => match first.toList, caps.toList with
    | [], [x] => match st.ac x with
      | .ptr b 0 => st.pk o.dst (.v (.c (.fnp g b))) k
      | _ => none
    | _, _ => none
  | _ => none

def opsRun (all : List Oper) : List Oper → St → (St → Option α) → Option α
  | [], st, k => k st
  | o :: l, st, k => match o.guard with
    | none => opRun P C F o st fun st => opsRun all l st k
    | some (j, want) => match nth? all j with
      | some oj => match oj.dst with
        | some dj => match st.get dj with
          | .v (.c (.bool b)) =>
            let yes (st : St) : Option α := opRun P C F o st fun st => opsRun all l st k
            let no (st : St) : Option α := st.pk o.dst (.tup []) fun st => opsRun all l st k
            br b (let st := st.put dj (.v (.c (.bool true))); match want with | true => yes st | false => no st)
                 (let st := st.put dj (.v (.c (.bool false))); match want with | true => no st | false => yes st)
          | .tup [] => st.pk o.dst (.tup []) fun st => opsRun all l st k
          | _ => none
        | none => none
      | none => none

/-- One operation, if its guard wants it. -/
def stepRun (all : List Oper) (o : Oper) (st : St) (k : St → Option α) : Option α :=
  match o.guard with
  | none => opRun P C F o st k
  | some (j, want) => match nth? all j with
    | some oj => match oj.dst with
      | some dj => match st.get dj with
        | .v (.c (.bool b)) =>
          br b (let st := st.put dj (.v (.c (.bool true))); match want with | true => opRun P C F o st k | false => st.pk o.dst (.tup []) k)
               (let st := st.put dj (.v (.c (.bool false))); match want with | true => st.pk o.dst (.tup []) k | false => opRun P C F o st k)
        | .tup [] => st.pk o.dst (.tup []) k
        | _ => none
      | none => none
    | none => none
/-- Does this operation turn no memory and yield the same value however much has been added? -/
def calmOp (o : Oper) : Bool := match o.op with
  | .move _ | .assign _ | .pick _ _ _ | .load _ _ | .nilCheck _ | .binOp _ _ _ _ _ | .unOp _ _ _ | .fieldAddr _ _ _ | .indexAddr _ _ _ | .index _ _ _ | .extract _ _ | .build _ _ | .slice _ _ _ _ _ => true
  | .convert _ dst _ => match P.underlying dst with | some (.slice _) => false | _ => true
  | .call { callee := .builtin .len, .. } | .call { callee := .builtin .min, .. } | .call { callee := .builtin .max, .. } => true
  | _ => false
def callOp (o : Oper) : Bool := match o.op with
  | .call { callee := .value (.func f), .. } => match C f with | some (.one _) => true | _ => false
  | _ => false
/-- An operation that makes a block out of nothing. -/
def isFloat (o : Oper) : Bool := match o.guard, o.dst, o.op with
  | none, some _, .alloc t => match zeroOf P t with | some z => z.kn | none => false
  | none, some _, .buildSlice t len parts => match elemT P t with
    | some e => match tyOf P 20 e with
      | some u => (flat u || Nat.beq len 0) && Nat.beq parts.toList.length len && (Nat.beq (P.cellsOf e) u.n && !Nat.beq u.n 0 && Nat.ble (len * u.n) 16777216 && (zeroOf P e).isSome)
      | none => false
    | none => false
  | _, _, _ => false
/-- Does it leave all that stood before as it was? -/
def isLow (o : Oper) : Bool := calmOp P o || isFloat P o || callOp C o
/-- Does it read only what nobody owns? -/
def roLoad (st : St) (o : Oper) : Bool := match o.op with
  | .load _ a => match st.ac a with | .ero _ _ _ _ => true | _ => false
  | .convert _ _ _ => false
  | _ => true
/-- Is it known that it is passed by? -/
def skips (ops : List Oper) (st : St) (o : Oper) : Bool := match o.guard with
  | none => false
  | some (j, want) => match nth? ops j with
    | some oj => match oj.dst with
      | some dj => match st.get dj, want with
        | .v (.c (.bool true)), false => true
        | .v (.c (.bool false)), true => true
        | .tup [], _ => true
        | _, _ => false
      | none => false
    | none => false
/-- Temporaries of blocks that may be made ahead of their turn: nothing is known of them yet. -/
def St.drop (st : St) (t : Tmp) : St := { st with tm := st.tm.filter fun p => !Nat.beq p.1 t }
def dropFl (ops : Array Oper) (listed : Array Bool) : List Nat → St → St
  | [], st => st
  | i :: l, st => match ops[i]? with
    | some o => match isFloat P o && !listed.getD i true, o.dst with
      | true, some d => (dropFl ops listed l st).drop d
      | _, _ => dropFl ops listed l st
    | none => dropFl ops listed l st
def eqDst : Option Tmp → Option Tmp → Bool
  | some a, some b => Nat.beq a b
  | _, _ => false
/-- What goes into it. -/
def usesTmp (o : Oper) (t : Tmp) : Bool := match o.op with
  | .buildSlice _ _ parts => parts.toList.any fun p => match p.2 with | .tmp s => Nat.beq s t | _ => false
  | _ => false
/-- Is what goes into it known? -/
def partsKn (st : St) (o : Oper) : Bool := match o.op with
  | .buildSlice t _ parts => match elemT P t with
    | some e => match tyOf P 20 e with
      | some u => (litElems st u 0 parts.toList).isSome
      | none => false
    | none => false
  | _ => true
def waits (ops : Array Oper) (listed : Array Bool) (o : Oper) : Bool := o.after.any fun e => Region.binds .any e && match ops[e.on]? with | some oe => !isFloat P oe && !listed.getD e.on true | none => false
def fltKn (ops : Array Oper) (listed : Array Bool) (st : St) : List Nat → Bool
  | [] => true
  | y :: l => (match ops[y]? with | some o => !isFloat P o || listed.getD y true || waits P ops listed o || partsKn P st o | none => true) && fltKn ops listed st l
def floatParts (ops : Array Oper) : Bool := (List.range ops.size).all fun x => match ops[x]? with
  | some o => !isFloat P o || (List.range ops.size).all fun y => match ops[y]? with
    | some o' => match o'.dst with
      | some t => !usesTmp o t || (!isFloat P o' && o.after.any fun e => Region.binds .any e && Nat.beq e.on y)
      | none => true
    | none => true
  | none => true
def floatDsts (ops : Array Oper) (nt : Nat) : Bool := floatParts P ops && (List.range ops.size).all fun x => match ops[x]? with
  | some o => !isFloat P o || ((match o.dst with | some d => Nat.blt d nt | none => false) && (List.range ops.size).all fun y => Nat.beq y x || match ops[y]? with | some o' => !eqDst o'.dst o.dst | none => true)
  | none => true
/-- Does an operation wait for i, through what has not come up? -/
def waitsFor (ops : Array Oper) (listed : Array Bool) (i : Nat) : Nat → Oper → Bool
  | 0, _ => false
  | n + 1, o => o.after.any fun e => Region.binds .any e && (e.on == i || (!listed.getD e.on true && match ops[e.on]? with | some oe => waitsFor ops listed i n oe | none => false))
/-- Do all that turn memory, and have not come up, wait for this one? -/
def mutAfter (ops : Array Oper) (listed : Array Bool) (i : Nat) : Bool :=
  (List.range ops.size).all fun c => match ops[c]? with
    | some o => isLow P C o || listed.getD c true || waitsFor ops listed i 3 o
    | none => true
def pickCalm (ops : Array Oper) (listed : Array Bool) (st : St) : List Nat → Option (Nat × Oper)
  | [] => none
  | i :: l => match ops[i]? with
    | some o => match calmOp P o && Region.free .any ops listed i && (roLoad st o || mutAfter P C ops listed i || skips ops.toList st o) with
      | true => some (i, o)
      | false => pickCalm ops listed st l
    | none => none
/-- What has come up, if all the others that make a block out of nothing had. -/
def markAll (ops : Array Oper) (x : Nat) : List Nat → Array Bool → Array Bool
  | [], l => l
  | i :: is, l => match ops[i]? with
    | some o => match isFloat P o && !Nat.beq i x with
      | true => markAll ops x is (l.setIfInBounds i true)
      | false => markAll ops x is l
    | none => markAll ops x is l
def allB (x : Nat) : List Nat → Bool
  | [] => true
  | j :: l => Nat.beq j x && allB x l
def pickNext (ops : Array Oper) (listed : Array Bool) (st : St) : List Nat → Option (Nat × Oper)
  | [] => none
  | i :: l => match ops[i]? with
    | some o => match allB i (Region.ready .any ops (markAll P ops i (List.range ops.size) listed)) && fltKn P ops listed st (List.range ops.size) with
      | true => some (i, o)
      | false => pickNext ops listed st l
    | none => none
def allListed (ops : Array Oper) (listed : Array Bool) : List Nat → Bool
  | [] => true
  | i :: l => (match ops[i]? with | some o => !isFloat P o || listed.getD i true | none => true) && allListed ops listed l
/-- A region that draws its order: the calm operations first, else the one that must come next. -/
def drawRun (ops : Array Oper) : Nat → Array Bool → St → (St → Option α) → Option α
  | 0, listed, st, k => match Region.ready .any ops listed with
    | [] => ck (allListed P ops listed (List.range ops.size)) (k st)
    | _ => none
  | n + 1, listed, st, k => match Region.ready .any ops listed with
    | [] => ck (allListed P ops listed (List.range ops.size)) (k st)
    | i :: r => let st := dropFl P ops listed (List.range ops.size) st
      match pickCalm P C ops listed st (i :: r) with
      | some (j, o) => stepRun P C F ops.toList o st fun st => drawRun ops n (listed.setIfInBounds j true) st k
      | none => match pickNext P ops listed st (i :: r) with
        | some (j, o) => stepRun P C F ops.toList o st fun st => drawRun ops n (listed.setIfInBounds j true) st k
        | none => none

inductive Ex where
  | norm | exit (id : Nat) | ret

/-- What is kept at a loop's head. -/
structure Hint where
  live : List Tmp
  mat : List (Tmp × TypeId × Ty) := []
  roT : List Tmp := []
  wk : List Tmp := []      -- whose slices hold what isn't new
  matB : List (Nat × Nat × TypeId × Ty) := []
  xl : List Tmp := []      -- what is kept where the loop is left
  rl : List Tmp := []      -- and where the function is left out of it

def addId (env : List Nat) (c : AC) : List Nat := match c with
  | .own id _ | .eown id _ _ => match hasN env id with | true => env | false => env ++ [id]
  | _ => env
def addIds (env : List Nat) (l : List AC) : List Nat := l.foldl addId env
def AV.cells : AV → List AC
  | .v x => x.cells
  | .tup l => l.flatMap CV.cells
def idxOf : List Nat → Nat → Nat → Option Nat
  | [], _, _ => none
  | x :: l, n, i => match Nat.beq x n with | true => some i | false => idxOf l n (i + 1)
def reAC (env bs : List Nat) : AC → AC
  | .own id len => match idxOf env id 0 with | some i => .own (1000000 + i) len | none => .none
  | .eown id i o => match idxOf env id 0 with | some j => .eown (1000000 + j) i o | none => .none
  | .ptr b o => match hasN bs b with | true => .ptr b o | false => .none
  | .fnp _ _ => .none
  | c => c
def reCV (env bs : List Nat) : CV → CV
  | .c x => .c (reAC env bs x)
  | .agg l => .agg (l.map (reAC env bs))
def reAV (env bs : List Nat) : AV → AV
  | .v x => .v (reCV env bs x)
  | .tup l => .tup (l.map (reCV env bs))

def matNil (st : St) (t : Tmp) (e : TypeId) (u : Ty) : St := match st.get t, look st.bl (2000000 + t), Nat.beq u.n 0 with
  | .v (.c .nil), none, false => { (st.put t (.v (.c (.own (2000000 + t) none)))) with bl := (2000000 + t, some ⟨e, u, [], true, true⟩) :: st.bl }
  | _, _, _ => st
def matNilB (st : St) (b j : Nat) (e : TypeId) (u : Ty) : St := match look st.bx b, look st.bl (3000000 + 100 * b + j), Nat.beq u.n 0 with
  | some l, none, false => match nth? l j with
    | some .nil => { st with bx := (b, setNth l j (.own (3000000 + 100 * b + j) none)) :: st.bx, bl := (3000000 + 100 * b + j, some ⟨e, u, [], true, true⟩) :: st.bl }
    | _ => st
  | _, _, _ => st
def roify (st : St) (t : Tmp) : St := match st.get t with
  | .v (.c (.own id len)) => match st.blk id with
    | some b => (st.freeze1 (.own id len)).put t (.v (.c (.ro b.f b.e b.t (cutLen b.xs len))))
    | none => st
  | _ => st
def weaken (st : St) (t : Tmp) : St := match st.get t with
  | .v (.c (.ro _ e u xs)) => st.put t (.v (.c (.ro false e u xs)))
  | .v (.c (.own id len)) => match st.blk id with
    | some b => { st with bl := (id, some { b with f := false }) :: st.bl }
    | none => st
  | _ => st
def ptrsOf : List AV → List Nat
  | [] => []
  | .v (.c (.ptr b _)) :: l => match hasN (ptrsOf l) b with | true => ptrsOf l | false => b :: ptrsOf l
  | _ :: l => ptrsOf l

def keepEnv (tm : List (Nat × AV)) (bx : List (Nat × List AC)) : List Nat :=
  bx.foldl (fun env b => addIds env b.2) (tm.foldl (fun env x => addIds env x.2.cells) [])
def bxOf (st : St) (b : Nat) : List AC := match look st.bx b with | some l => l | none => []
def blsOf (st : St) (env : List Nat) : Nat → List Nat → List (Nat × Option Blk)
  | _, [] => []
  | i, id :: l => (1000000 + i, match idxOf env id 0 with
    | some j => match Nat.beq j i with | true => st.blk id | false => none
    | none => none) :: blsOf st env (i + 1) l
def reSt (st : St) (tm : List (Nat × AV)) (bs : List Nat) (env : List Nat) : St :=
  { nt := st.nt, tm := tm.map fun x => (x.1, reAV env bs x.2), bx := bs.map fun b => (b, (bxOf st b).map (reAC env bs)), bl := blsOf st env 0 env, sp := reAV env bs st.sp, rob := st.rob }
def keep (live : List Tmp) (st : St) : St :=
  let tm := live.map fun t => (t, st.get t)
  let bs := ptrsOf (st.sp :: tm.map (·.2))
  reSt st tm bs (keepEnv ((0, st.sp) :: tm) (bs.map fun b => (b, bxOf st b)))

def canon (h : Hint) (st : St) : St :=
  keep h.live (h.wk.foldl weaken (h.roT.foldl roify (h.matB.foldl (fun st (b, j, e, u) => matNilB st b j e u) (h.mat.foldl (fun st (t, e, u) => matNil st t e u) st))))
def canonX (h : Hint) (e : Ex) (st : St) : St := match e with
  | .norm => st
  | .exit _ => keep h.xl st
  | .ret => keep h.rl st

/-- A loop's heads and ends, with and without a hint. -/
def atHead (h : Option Hint) (st : St) : St := match h with | some h => canon h st | none => st
def atExit (h : Option Hint) (e : Ex) (st : St) : St := match h with | some h => canonX h e st | none => st

def iter (body : St → (Ex → St → Option α) → Option α) (h : Option Hint) (k : Ex → St → Option α) : Nat → St → Option α
  | 0, _ => none
  | n + 1, st => body st fun e st' => match e with
    | .norm => iter body h k n (atHead h st')
    | .exit j => k (.exit j) (atExit h (.exit j) st')
    | .ret => k .ret (atExit h .ret st')

def firstId : Code → Nat
  | .region id _ _ => id
  | .seq a _ => firstId a
  | .block _ b => firstId b
  | _ => 0

/-- Does this operation yield one value, however much memory has been added, and turn none? -/
def quietOp (o : Oper) : Bool := match o.op with
  | .move _ | .assign _ | .pick _ _ _ | .load _ _ | .nilCheck _ | .binOp _ _ _ _ _ | .unOp _ _ _ | .fieldAddr _ _ _ | .indexAddr _ _ _ | .index _ _ _ | .extract _ _ | .build _ _ | .slice _ _ _ _ _ => true
  | .convert _ dst _ => match P.underlying dst with | some (.slice _) => false | _ => true
  | .call { callee := .builtin .len, .. } | .call { callee := .builtin .min, .. } | .call { callee := .builtin .max, .. } => true
  | .call { callee := .value (.func f), .. } => match C f with | some (.one con) => Nat.beq con.m 1 && con.rs.all fun a => flat a.1 | _ => false
  | _ => false
def drawOk (ops : Array Oper) : Bool := P.follows .mixedOrders && Region.lexB .any ops && ops.toList.all fun o => quietOp P C o

def subC (d : Nat) (c : Nat → AC) : AC → AC
  | .ptr b o => match Nat.beq b d with | true => c o | false => .ptr b o
  | .fnp g b => match Nat.beq b d with | true => .none | false => .fnp g b
  | x => x
def subCV (d : Nat) (c : Nat → AC) : CV → CV
  | .c x => .c (subC d c x)
  | .agg l => .agg (l.map (subC d c))
def subAV (d : Nat) (c : Nat → AC) : AV → AV
  | .v x => .v (subCV d c x)
  | .tup l => .tup (l.map (subCV d c))
def St.frzSt (st : St) (d : Nat) (c : Nat → AC) : St :=
  { st with tm := st.tm.map fun p => (p.1, subAV d c p.2), bx := (st.bx.filter fun p => !Nat.beq p.1 d).map fun p => (p.1, p.2.map (subC d c)), sp := subAV d c st.sp }
/-- The box d, of kind u, is only read from now on. -/
def frzBox (d : Nat) (u : Ty) (st : St) (k : St → Option α) : Option α := match look st.bx d with
  | some cells => match im st u cells with
    | some (y, []) => ck (ownNew st cells) (k ((st.freeze cells).frzSt d fun o => .ero (newAll cells) u y o))
    | _ => none
  | none => none

/-- Boxes that are only read from this region on. -/
def frzs : List (Tmp × TypeId × Ty) → St → (St → Option α) → Option α
  | [], st, k => k st
  | (d, _, u) :: l, st, k => frzBox d u st fun st => frzs l st k
def frzOf (H : Nat → Option Hint) (id : Nat) : List (Tmp × TypeId × Ty) := match H (900000 + id) with | some h => h.mat | none => []
def run (H : Nat → Option Hint) : Code → St → (Ex → St → Option α) → Option α
  | .skip, st, k => k .norm st
  | .region id ops draw, st, k => match (!draw || drawOk P C ops) with
    | true => opsRun P C F ops.toList ops.toList st fun st => k .norm st
    | false => match P.follows .mixedOrders && Region.noSelect ops && floatDsts P ops st.nt with
      | true => frzs (frzOf H id) st fun st => drawRun P C F ops ops.size (Array.replicate ops.size false) st fun st => k .norm st
      | false => none
  | .seq a b, st, k => run H a st fun e st => match e with
    | .norm => run H b st k
    | e => k e st
  | .cond c a b, st, k => match st.ac c with
    | .bool v => br v (run H a (st.lit c true) k) (run H b (st.lit c false) k)
    | _ => none
  | .block id b, st, k => run H b st fun e st => match e with
    | .exit j => match Nat.beq j id with | true => k .norm st | false => k (.exit j) st
    | e => k e st
  | .loop b, st, k => iter (fun st k => run H b st k) (H (firstId b)) k F.n (atHead (H (firstId b)) st)
  | .exit id, st, k => k (.exit id) st
  | .ret, st, k => k .ret st
  | _, _, _ => none

/-- The parameters' values. -/
def exPs (ps : List (Ty × Bool)) (x : Args ps) : List CV := exF false ps x

def tmOf : Nat → List CV → List (Nat × AV)
  | _, [] => []
  | i, v :: l => (i, .v v) :: tmOf (i + 1) l

/-- The results' values. -/
def resCV (st : St) : ResultVar → Option CV
  | .tmp t => some (st.evc (.tmp t))
  | .cell a t => match cellsAt st (st.ac (.tmp a)) with
    | some (l, off) =>
      let q := takeN (P.cellsOf t) (dropN off l)
      match Nat.beq q.length (P.cellsOf t) with
      | true => match aggT P t with
        | some true => some (.agg q)
        | some false => match q with
          | [x] => some (.c x)
          | _ => none
        | none => none
      | false => none
    | none => none
def resCVs (st : St) : List ResultVar → Option (List CV)
  | [] => some []
  | r :: l => match resCV P st r with
    | some c => match resCVs st l with
      | some cs => some (c :: cs)
      | none => none
    | none => none

/-- What a function's end makes. -/
def fin (fn : Func) (rs : List (Ty × Bool)) (m : Nat) : Ex → St → Option (Args rs) := fun e st =>
  match e with
  | .exit _ => none
  | _ => match resCVs P st fn.results.toList with
    | some l => match resOk st m [] (cvCells l) && (match m with | 2 => rowsOk st rs l | _ => true) with
      | true => imVs st rs l
      | false => none
    | none => none

def codeOf (fn : Func) : Code := match fn.body with | some c => c | none => .refuse ""

def robOf (H : Nat → Option Hint) : List Nat := match H 999999 with | some h => h.live | none => []
def runF (H : Nat → Option Hint) (fn : Func) (ps rs : List (Ty × Bool)) (m : Nat) (x : Args ps) : Option (Args rs) :=
  ck (Nat.ble ps.length fn.ntmps && flatOk ps && flatOk rs && Nat.ble m 2) (run P C F H (codeOf fn) { nt := fn.ntmps, tm := tmOf 0 (exPs ps x), bx := [], bl := [], rob := robOf H } (fin P fn rs m))
/-- Are these cells such as nobody owns? -/
def noOwn : List AC → Bool
  | [] => true
  | .own _ _ :: _ => false
  | _ :: l => noOwn l
/-- The parameters' values, the rows, the box of a function that is handed one. -/
def exSp (pm : PM) (a : Ty × Bool) (x : a.1.D) : CV × List (Nat × Option Blk) × List (Nat × List AC) := match pm with
  | .rd => (match a.2 with | true => .agg (ex false a.1 x) | false => .c (match ex false a.1 x with | [c] => c | _ => .none), [], [])
  | .own f => ((ex1 62500 f a x 0).1, (ex1 62500 f a x 0).2, [])
  | .box => (.c (.ptr 4000000 0), [], [(4000000, ex false a.1 x)])
def exP (pm : PM) : Nat → (ps : List (Ty × Bool)) → Args ps → List CV × (CV × List (Nat × Option Blk) × List (Nat × List AC))
  | 0, a :: l, x => ((exSp pm a x.1).1 :: exF false l x.2, exSp pm a x.1)
  | i + 1, a :: l, x => ((match a.2 with | true => .agg (ex false a.1 x.1) | false => .c (match ex false a.1 x.1 with | [c] => c | _ => .none)) :: (exP pm i l x.2).1, (exP pm i l x.2).2)
  | _, [], _ => ([], (.c .none, [], []))
def start2 (nt : Nat) (pm : PM) (i : Nat) (ps : List (Ty × Bool)) (x : Args ps) : St :=
  { nt := nt, tm := tmOf 0 (exP pm i ps x).1, bx := (exP pm i ps x).2.2.2, bl := (exP pm i ps x).2.2.1, sp := .v (exP pm i ps x).2.1 }

/-- What comes back: results, then what the rows or the box hold. -/
def finQ (st : St) (pm : PM) (rs qs : List (Ty × Bool)) (m : Nat) (l : List CV) : Option (Args rs × Args qs) :=
  match pm with
  | .rd => match qs with
    | [] => match rdM m with
      | some f => match l with
        | [.c (.ptr b 0)] => match look st.bx b with
          | some c => match resOk st (match f with | true => 1 | false => 0) [] c && noOwn c with
            | true => match imVs st rs [.agg c] with | some r => some (r, ()) | none => none
            | false => none
          | none => none
        | _ => none
      | none => none
    | _ => none
  | .box => match st.sp, qs with
    | .v (.c (.ptr b 0)), [q] => match look st.bx b with
      | some c => match noOwn c && resOk st m [] (cvCells l) && (match m with | 2 | 3 => rowsOk st rs l | _ => true) && Nat.ble m 3 with
        | true => match imVs st rs l, imV st q (.agg c) with
          | some r, some y => some (r, (y, ()))
          | _, _ => none
        | false => none
      | none => none
    | _, _ => none
  | .own _ => match Nat.beq m 2 || Nat.beq m 3 with
    | true => match qs with
      | [] => match resOk st m [] (cvCells l) && rowsOk st rs l with
        | true => match imVs st rs l with | some r => some (r, ()) | none => none
        | false => none
      | [q] => match st.sp with
        | .v c => match resOk st m [] (cvCells (l ++ [c])) && rowsOk st rs l && rowsOk st [q] [c] with
          | true => match imVs st rs l, imVs st [q] [c] with
            | some r, some y => some (r, y)
            | _, _ => none
          | false => none
        | _ => none
      | _ => none
    | false => none
def fin2 (fn : Func) (pm : PM) (rs qs : List (Ty × Bool)) (m : Nat) : Ex → St → Option (Args rs × Args qs) := fun e st =>
  match e with
  | .exit _ => none
  | _ => match resCVs P st fn.results.toList with
    | some l => finQ st pm rs qs m l
    | none => none
def runF2 (H : Nat → Option Hint) (fn : Func) (ps : List (Ty × Bool)) (i : Nat) (pm : PM) (rs qs : List (Ty × Bool)) (m : Nat) (x : Args ps) : Option (Args rs × Args qs) :=
  ck (Nat.ble ps.length fn.ntmps && Nat.blt i ps.length && flatOk ps && flatOk rs) (run P C F H (codeOf fn) { (start2 fn.ntmps pm i ps x) with rob := robOf H } (fin2 P fn pm rs qs m))
end
end Go.Am

namespace Go.Am
/-! ### Where a loop stands -/
inductive At where
  | l | r | b | t | e | i
def sub : List At → Code → Code
  | [], c => c
  | .l :: p, .seq a _ => sub p a
  | .r :: p, .seq _ b => sub p b
  | .b :: p, .block _ b => sub p b
  | .t :: p, .cond _ a _ => sub p a
  | .e :: p, .cond _ _ a => sub p a
  | .i :: p, .loop a => sub p a
  | _, _ => .skip
section
variable (P : Program) (C : FuncId → Option Any) (F : Par) {α : Type} (H : Nat → Option Hint)
/-- What comes behind a place of a code, up to the code's own end. -/
def cont : List At → Code → (Ex → St → Option α) → (Ex → St → Option α)
  | [], _, k => k
  | .l :: p, .seq a b, k => cont p a fun e st => match e with
    | .norm => run P C F H b st k
    | e => k e st
  | .r :: p, .seq _ b, k => cont p b k
  | .b :: p, .block id b, k => cont p b fun e st => match e with
    | .exit j => match Nat.beq j id with | true => k .norm st | false => k (.exit j) st
    | e => k e st
  | .t :: p, .cond _ a _, k => cont p a k
  | .e :: p, .cond _ _ a, k => cont p a k
  | _, _, k => k
/-- A loop's rounds: its body's code, what comes behind the loop. -/
def lp (b : Code) (k : Ex → St → Option α) (n : Nat) (st : St) : Option α :=
  iter (fun st k => run P C F H b st k) (H (firstId b)) k n st
/-- What comes behind a round. -/
def itk (b : Code) (k : Ex → St → Option α) (n : Nat) : Ex → St → Option α := fun e st' => match e with
  | .norm => lp P C F H b k n (atHead (H (firstId b)) st')
  | .exit j => k (.exit j) (atExit (H (firstId b)) (.exit j) st')
  | .ret => k .ret (atExit (H (firstId b)) .ret st')
end
end Go.Am
