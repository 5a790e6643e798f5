/-
  The abstract machine: abstract values, the store, what one operation does.
-/
import Derived.Calls
import Derived.Orders
import Derived.Laws.Cells
import Derived.Laws.Entries
import Derived.Laws.NewFold
import Derived.Laws.Rows
import Derived.Laws.NewBlocks
import GoSem.ClaimData
import Derived.Laws.CopyRow
import Derived.Laws.Strings
import Derived.Laws.IdiomStrings
import Derived.Laws.Bits
import Derived.Laws.Tables
import Derived.Laws.MakeOwn
import Derived.Laws.AppendOwn
import Derived.Still
set_option linter.unusedSimpArgs false
set_option linter.unusedVariables false
namespace Go.Eng

/-- A value of one cell that is only read. -/
inductive TV where
  | int (k : IntKind) (n : Int)
  | bool (b : Bool)
  | str (s : List UInt8)
  | nilS
  | emp
  | emq (b : Bool)
  | nilP
  | nilF
  | seq (n : Nat) (l : List (List TV))

instance : Inhabited TV := ⟨.nilP⟩

/-- An abstract value. -/
inductive AV where
  | t (x : TV)
  | tok (g n off len : Nat)
  | btok (g n off len : Nat)
  | ptr (g off : Nat)
  | eptr (g n i off : Nat)
  | imm (cells : List TV)
  | fn (f : FuncId) (caps : List AV)
  | agg (cs : List AV)
  | tup (vs : List AV)
  | opt (b : Bool) (v : AV)
  | unk

instance : Inhabited AV := ⟨.unk⟩

inductive Entry where
  | row (n : Nat) (l : List (List TV)) (ro : Bool)
  | box (cs : List AV) (ro : Bool)

/-- The store: finitely many tokens. -/
structure Store where
  f : Nat → Option Entry
  fin : ∃ N, ∀ g, N ≤ g → f g = none

theorem Store.ext' {a b : Store} (h : ∀ g, a.f g = b.f g) : a = b := by
  cases a; cases b; congr; exact funext h

def Store.empty : Store := ⟨fun _ => none, 0, fun _ _ => rfl⟩

def Store.set (s : Store) (g : Nat) (e : Option Entry) : Store :=
  ⟨fun k => if k = g then e else s.f k, by
    obtain ⟨N, h⟩ := s.fin
    refine ⟨max N (g + 1), fun k hk => ?_⟩
    rw [if_neg (by omega)]
    exact h k (by omega)⟩

def Entry.mark : Entry → Entry
  | .row n l _ => .row n l true
  | .box cs _ => .box cs true

def Store.mark (s : Store) (g : Nat) : Store := s.set g ((s.f g).map Entry.mark)

def Store.marks (s : Store) : List Nat → Store
  | [] => s
  | g :: r => (s.mark g).marks r

def Store.adds (s : Store) : List Nat → List Entry → Store
  | g :: gs, e :: es => (s.set g (some e)).adds gs es
  | _, _ => s

/-- Tokens that are new, each another one. -/
def Fresh (s : Store) : List Nat → List Entry → Prop
  | [], [] => True
  | g :: gs, e :: es => s.f g = none ∧ Fresh (s.set g (some e)) gs es
  | _, _ => False

structure St where
  get : Nat → AV
  st : Store

def St.put (σ : St) (d : Option Nat) (v : AV) : St :=
  match d with
  | some d => { σ with get := fun n => if n = d then v else σ.get n }
  | none => σ

/-- Shapes of types. -/
inductive Sh where
  | int (k : IntKind) | bool | str | slice (e : TypeId) | arr (n : Nat) (e : TypeId) | struct (fs : List (TypeId × Nat)) | ptr (e : TypeId) | fn | other

structure TyD where
  sh : Sh
  size : Nat
  bytes : Nat
  zero : List TV

def TyD.agg (d : TyD) : Bool := match d.sh with | .arr .. | .struct _ => true | _ => false

inductive Con where
  | pure (c : List AV → Prop) (es : List AV → List Entry) (mk : List AV → List Nat → AV)
  | scal (c : List AV → Prop) (r : List AV → AV)
  | gen (modes : List Bool) (F : List AV → Store → (AV → Store → Prop) → Prop)

structure Ctx where
  ty : TypeId → Option TyD
  eqk : TypeId → Option (List Nat)
  con : FuncId → Option Con

/-- What a gentle operation asks and gives: a condition; tokens from now on read alone; new tokens; its value. -/
structure B where
  c : Prop
  ros : List Nat
  es : List Entry
  av : List Nat → AV

def B.no : B := ⟨False, [], [], fun _ => .unk⟩
def B.val (c : Prop) (v : AV) : B := ⟨c, [], [], fun _ => v⟩
def B.new (c : Prop) (ros : List Nat) (e : Entry) (mk : Nat → AV) : B := ⟨c, ros, [e], fun gs => mk (gs.headD 0)⟩

def TV.ofValue : Value → Option TV
  | .int k n => some (.int k n)
  | .bool b => some (.bool b)
  | .string s => some (.str s.data.toList)
  | .slice none 0 0 => some .nilS
  | .pointer none => some .nilP
  | .nilFunc => some .nilF
  | _ => none

def AV.ofCell (v : Value) : AV := match TV.ofValue v with | some x => .t x | none => .unk

def AV.one : AV → Bool
  | .agg _ | .tup _ | .opt _ _ | .unk => false
  | _ => true

def AV.ofValue : Value → AV
  | .agg cs => if (cs.toList.map AV.ofCell).all AV.one = true then .agg (cs.toList.map AV.ofCell) else .unk
  | .func q a b => match q, a.toList, b.toList with
    | .func f, [], [] => .fn f []
    | _, _, _ => .unk
  | v => AV.ofCell v

def St.ev (σ : St) : Operand → AV
  | .tmp t => σ.get t
  | .const v => AV.ofValue v
  | .func f => .fn f []
  | .global _ => .unk

/-- The cells of a value. -/
def AV.cells : AV → List AV
  | .agg cs => cs
  | v => [v]

def AV.int? : AV → Option Int
  | .t (.int _ n) => some n
  | _ => none

def AV.tv? : AV → Option TV
  | .t x => some x
  | _ => none

def tvs? : List AV → Option (List TV)
  | [] => some []
  | .t x :: r => (tvs? r).map (x :: ·)
  | _ :: _ => none

/-- Cells in rows of n. -/
def chunks (n : Nat) : Nat → List TV → List (List TV)
  | 0, _ => []
  | k + 1, l => l.take n :: chunks n k (l.drop n)

/-- A cell as one that is only read; the token that is then read alone. -/
def Store.borrow1 (s : Store) : AV → Option (TV × List Nat)
  | .t x => some (x, [])
  | .tok g n off len => match s.f g with
    | some (.row m l _) => if m = n ∧ off + len ≤ l.length then some (.seq n ((l.drop off).take len), [g]) else none
    | _ => none
  | .btok g n off len => match s.f g with
    | some (.box cs _) => if off + len * n ≤ cs.length then (tvs? ((cs.drop off).take (len * n))).map fun c => (.seq n (chunks n len c), [g]) else none
    | _ => none
  | _ => none

def Store.borrowAll (s : Store) : List AV → Option (List TV × List Nat)
  | [] => some ([], [])
  | v :: r => match s.borrow1 v, s.borrowAll r with
    | some (x, a), some (xs, b) => some (x :: xs, a ++ b)
    | _, _ => none

/-- A box of cells that are only read. -/
def Store.immB (s : Store) (g off : Nat) : Option (List TV × List Nat) :=
  match s.f g with
  | some (.box cs _) => (s.borrowAll cs).map fun p => (p.1.drop off, g :: p.2)
  | _ => none

/-- What a closure has, as what is only read. -/
def Store.borrowC (s : Store) : List AV → Option (List AV × List Nat)
  | [] => some ([], [])
  | v :: r => match v, s.borrowC r with
    | .ptr g off, some q => (s.immB g off).map fun p => (.imm p.1 :: q.1, p.2 ++ q.2)
    | .imm l, some q => some (.imm l :: q.1, q.2)
    | .t x, some q => some (.t x :: q.1, q.2)
    | _, _ => none

/-- An argument as one that is only read. -/
def Store.borrow (s : Store) : AV → Option (AV × List Nat)
  | .agg cs => (s.borrowAll cs).map fun (xs, a) => (.agg (xs.map .t), a)
  | .tok g n off len => (s.borrow1 (.tok g n off len)).map fun (x, a) => (.t x, a)
  | .btok g n off len => (s.borrow1 (.btok g n off len)).map fun (x, a) => (.t x, a)
  | .t x => some (.t x, [])
  | .fn f caps => (s.borrowC caps).map fun p => (.fn f p.1, p.2)
  | .ptr g off => (s.immB g off).map fun p => (.imm p.1, p.2)
  | .imm c => some (.imm c, [])
  | _ => none

def Store.borrows (s : Store) : List AV → Option (List AV × List Nat)
  | [] => some ([], [])
  | v :: r => match s.borrow v, s.borrows r with
    | some (x, a), some (xs, b) => some (x :: xs, a ++ b)
    | _, _ => none

/-! ### Values of operations -/

def intBin (op : BinOp) (k : IntKind) (x y : Int) : Option (Prop × TV) :=
  match op with
  | .add => some (True, .int k (k.wrap (x + y)))
  | .sub => some (True, .int k (k.wrap (x - y)))
  | .mul => some (True, .int k (k.wrap (x * y)))
  | .quo => some (y ≠ 0, .int k (k.wrap (x.tdiv y)))
  | .rem => some (y ≠ 0, .int k (x.tmod y))
  | .and => some (True, .int k (k.wrap (BitVec.ofInt k.bits x &&& BitVec.ofInt k.bits y).toNat))
  | .or => some (True, .int k (k.wrap (BitVec.ofInt k.bits x ||| BitVec.ofInt k.bits y).toNat))
  | .xor => some (True, .int k (k.wrap (BitVec.ofInt k.bits x ^^^ BitVec.ofInt k.bits y).toNat))
  | .andNot => some (True, .int k (k.wrap (BitVec.ofInt k.bits x &&& ~~~ BitVec.ofInt k.bits y).toNat))
  | .shl => some (0 ≤ y, .int k (k.wrap (x * 2 ^ min y.toNat k.bits)))
  | .shr => some (0 ≤ y, .int k (x.fdiv (2 ^ min y.toNat k.bits)))
  | .eql => some (True, .bool (x == y))
  | .neq => some (True, .bool (x != y))
  | .lss => some (True, .bool (x < y))
  | .leq => some (True, .bool (x ≤ y))
  | .gtr => some (True, .bool (x > y))
  | .geq => some (True, .bool (x ≥ y))

def strBin (op : BinOp) (x y : List UInt8) : Option (Prop × TV) :=
  match op with
  | .add => some (x.length + y.length ≤ 9223372036854775807, .str (x ++ y))
  | .eql => some (True, .bool (x == y))
  | .neq => some (True, .bool (x != y))
  | .lss => some (True, .bool (Op.bytesLess x y))
  | .leq => some (True, .bool (Op.bytesLess x y || x == y))
  | .gtr => some (True, .bool !(Op.bytesLess x y || x == y))
  | .geq => some (True, .bool !(Op.bytesLess x y))
  | _ => none

/-- Are two flat cells alike? (numbers, bools, texts) -/
def TV.same : TV → TV → Bool
  | .int _ a, .int _ b => a == b
  | .bool a, .bool b => a == b
  | .str a, .str b => a == b
  | _, _ => false

def sameCells : List AV → List AV → Bool
  | [], [] => true
  | .t a :: r, .t b :: s => a.same b && sameCells r s
  | _, _ => false

def ikCode : IntKind → Nat
  | .i8 => 10 | .i16 => 11 | .i32 => 12 | .i64 => 13 | .u8 => 14 | .u16 => 15 | .u32 => 16 | .u64 => 17

def TV.kindB : TV → Nat
  | .int k _ => ikCode k | .bool _ => 2 | .str _ => 3 | _ => 0

def kindsOf : List AV → List Nat
  | [] => []
  | .t x :: r => x.kindB :: kindsOf r
  | _ :: r => 0 :: kindsOf r

def AV.isNil : AV → Option Bool
  | .t .nilS | .t .nilP | .t .nilF => some true
  | .ptr _ _ | .eptr .. | .imm _ | .fn _ _ | .t (.seq _ (_ :: _)) => some false
  | .t (.emq b) => some b
  | _ => none

def orNone (o : Option (Prop × TV)) : B := match o with | some (c, v) => .val c (.t v) | none => .no

def isBool : Option TyD → Bool
  | some ⟨.bool, _, _, _⟩ => true
  | _ => false

def nilSh : Sh → AV → Bool
  | .ptr _, .t .nilP | .ptr _, .ptr .. | .ptr _, .eptr .. | .ptr _, .imm _ => true
  | .slice _, .t .nilS => true
  | .slice _, .t (.emq _) => true
  | .slice _, .t (.seq ..) => true
  | .fn, .t .nilF | .fn, .fn .. => true
  | _, _ => false

def binB (C : Ctx) (T : TypeId) (op : BinOp) (x y : AV) : B :=
  match x, y with
  | .t (.int k a), .t (.int k' b) => match op with
    | .shl | .shr => orNone (intBin op k a b)
    | _ => if k = k' then orNone (intBin op k a b) else .no
  | .t (.str a), .t (.str b) => orNone (strBin op a b)
  | .t (.bool a), .t (.bool b) => match op with
    | .eql => .val (isBool (C.ty T) = true) (.t (.bool (a == b)))
    | .neq => .val (isBool (C.ty T) = true) (.t (.bool (a != b)))
    | _ => .no
  | .agg cs, .agg ds => match op with
    | .eql => .val (C.eqk T = some (kindsOf cs) ∧ C.eqk T = some (kindsOf ds)) (.t (.bool (sameCells cs ds)))
    | .neq => .val (C.eqk T = some (kindsOf cs) ∧ C.eqk T = some (kindsOf ds)) (.t (.bool (!sameCells cs ds)))
    | _ => .no
  | x, y => match C.ty T with
    | some d => match op, x.isNil, y.isNil with
      | .eql, some a, some b => .val ((a = true ∨ b = true) ∧ nilSh d.sh x = true ∧ nilSh d.sh y = true) (.t (.bool (a && b)))
      | .neq, some a, some b => .val ((a = true ∨ b = true) ∧ nilSh d.sh x = true ∧ nilSh d.sh y = true) (.t (.bool (!(a && b))))
      | _, _, _ => .no
    | none => .no

/-- The Bool behind an operand, and what that asks. -/
def AV.asB : AV → Prop × Bool
  | .t (.bool b) => (True, b)
  | .opt c (.t (.bool b)) => (c = true, b)
  | _ => (False, false)

def pickB (c a b : AV) : B :=
  .val (c.asB.1 ∧ (c.asB.2 = true → a.asB.1) ∧ (c.asB.2 = false → b.asB.1)) (.t (.bool (bif c.asB.2 then a.asB.2 else b.asB.2)))

def idxB (C : Ctx) (T : TypeId) (x i : AV) : B :=
  match C.ty T, i with
  | some d, .t (.int _ i) => match d.sh, x with
    | .slice e, .t (.seq n l) => .val ((C.ty e).map (·.size) = some n ∧ 0 ≤ i ∧ i < (l.length : Int)) (.imm (l.getD i.toNat []))
    | .slice e, .tok g n off len => .val ((C.ty e).map (·.size) = some n ∧ 0 ≤ i ∧ i < (len : Int)) (.eptr g n (off + i.toNat) 0)
    | .arr m e, .ptr g off => match C.ty e with
      | some de => .val (0 ≤ i ∧ i < (m : Int)) (.ptr g (off + i.toNat * de.size))
      | none => .no
    | .arr m e, .eptr g n k off => match C.ty e with
      | some de => .val (0 ≤ i ∧ i < (m : Int)) (.eptr g n k (off + i.toNat * de.size))
      | none => .no
    | .arr m e, .imm cells => match C.ty e with
      | some de => .val (0 ≤ i ∧ i < (m : Int)) (.imm (cells.drop (i.toNat * de.size)))
      | none => .no
    | _, _ => .no
  | _, _ => .no

def fieldAddrB (C : Ctx) (T : TypeId) (x : AV) (f : Nat) : B :=
  match C.ty T with
  | some d => match d.sh with
    | .struct fs => match fs[f]? with
      | some (t, o) => match C.ty t with
        | some dt => match x with
          | .ptr g off => .val (dt.size ≠ 0) (.ptr g (off + o))
          | .eptr g n k off => .val (dt.size ≠ 0) (.eptr g n k (off + o))
          | .imm cells => .val (dt.size ≠ 0) (.imm (cells.drop o))
          | _ => .no
        | none => .no
      | none => .no
    | _ => .no
  | none => .no

/-- A part of cells as a value of a type. -/
def partB (d : TyD) (cs : List AV) : B :=
  if d.agg then .val (d.size ≤ cs.length) (.agg (cs.take d.size)) else .val (0 < cs.length) (cs.headD .unk)

def loadB (C : Ctx) (s : Store) (T : TypeId) (x : AV) : B :=
  match C.ty T with
  | some d => match x with
    | .imm cells => partB d (cells.map .t)
    | .ptr g off => match s.f g with
      | some (.box cs _) => partB d (cs.drop off)
      | _ => .no
    | .eptr g n k off => match s.f g with
      | some (.row m l _) => let b := partB d (((l.getD k []).drop off).map .t); .val (m = n ∧ k < l.length ∧ b.c) (b.av [])
      | _ => .no
    | _ => .no
  | none => .no

def fieldB (C : Ctx) (T : TypeId) (x : AV) (f : Nat) : B :=
  match C.ty T, x with
  | some d, .agg cs => match d.sh with
    | .struct fs => match fs[f]? with
      | some (t, o) => match C.ty t with
        | some dt => partB dt (cs.drop o)
        | none => .no
      | none => .no
    | _ => .no
  | _, _ => .no

def indexB (C : Ctx) (T : TypeId) (x i : AV) : B :=
  match i with
  | .t (.int _ i) => match x with
    | .t (.str s) => match C.ty T with
      | some d => match d.sh with
        | .str => .val (0 ≤ i ∧ i < (s.length : Int)) (.t (.int .u8 ((s.getD i.toNat 0).toNat : Int)))
        | _ => .no
      | none => .no
    | .agg cs => match C.ty T with
      | some d => match d.sh with
        | .arr m e => match C.ty e with
          | some de => let b := partB de (cs.drop (i.toNat * de.size)); .val (0 ≤ i ∧ i < (m : Int) ∧ b.c) (b.av [])
          | none => .no
        | _ => .no
      | none => .no
    | _ => .no
  | _ => .no

def lenB (C : Ctx) (T : TypeId) (x : AV) : B :=
  match C.ty T with
  | some d => match d.sh, x with
    | .str, .t (.str s) => .val True (.t (.int .i64 (s.length : Int)))
    | .slice _, .t (.seq _ l) => .val True (.t (.int .i64 (l.length : Int)))
    | .slice _, .t .nilS => .val True (.t (.int .i64 0))
    | .slice _, .t .emp => .val True (.t (.int .i64 0))
    | .slice _, .t (.emq _) => .val True (.t (.int .i64 0))
    | .slice _, .tok _ _ _ len => .val True (.t (.int .i64 (len : Int)))
    | .slice _, .btok _ _ _ len => .val True (.t (.int .i64 (len : Int)))
    | .arr n _, _ => .val True (.t (.int .i64 (n : Int)))
    | _, _ => .no
  | none => .no

def u8s? : List (List TV) → Option (List UInt8)
  | [] => some []
  | [.int .u8 n] :: r => (u8s? r).map (UInt8.ofNat n.toNat :: ·)
  | _ :: _ => none

def bytesOf (s : List UInt8) : List (List TV) := s.map fun b => [.int .u8 (b.toNat : Int)]

def convB (C : Ctx) (s : Store) (a b : TypeId) (x : AV) : B :=
  match C.ty a, C.ty b with
  | some da, some db => match da.sh, db.sh, x with
    | .int _, .int k, .t (.int _ n) => .val True (.t (.int k (k.wrap n)))
    | .str, .str, .t (.str s) => .val True (.t (.str s))
    | .str, .slice e, .t (.str s) => match C.ty e with
      | some de => match de.sh with
        | .int .u8 => .new (de.size = 1 ∧ s.length ≤ 140737488355328) [] (.row 1 (bytesOf s) false) fun g => .tok g 1 0 s.length
        | _ => .no
      | none => .no
    | .slice e, .str, x => match C.ty e with
      | some de => match de.sh with
        | .int .u8 => match x with
          | .t .nilS => .val True (.t (.str []))
          | .t (.seq 1 l) => match u8s? l with
            | some u => .val True (.t (.str u))
            | none => .no
          | .tok g 1 off len => match s.f g with
            | some (.row 1 l _) => match u8s? ((l.drop off).take len) with
              | some u => .val (off + len ≤ l.length) (.t (.str u))
              | none => .no
            | _ => .no
          | .btok g 1 off len => match s.borrow1 (.btok g 1 off len) with
            | some (.seq 1 l, _) => match u8s? l with
              | some u => .val True (.t (.str u))
              | none => .no
            | _ => .no
          | _ => .no
        | _ => .no
      | none => .no
    | _, _, _ => .no
  | _, _ => .no

def AV.intOr (o : Option AV) (d : Int) : Option Int :=
  match o with
  | none => some d
  | some (.t (.int _ n)) => some n
  | some _ => none

def sliceB (C : Ctx) (T : TypeId) (x : AV) (lo hi mx : Option AV) : B :=
  match C.ty T with
  | some d => match d.sh, x with
    | .str, .t (.str s) => match AV.intOr lo 0, AV.intOr hi s.length, mx with
      | some l, some h, none => .val (0 ≤ l ∧ l ≤ h ∧ h ≤ (s.length : Int)) (.t (.str ((s.take h.toNat).drop l.toNat)))
      | _, _, _ => .no
    | .slice e, .t (.seq n c) => match AV.intOr lo 0, AV.intOr hi c.length, mx with
      | some l, some h, none => .val ((C.ty e).map (·.size) = some n ∧ 0 ≤ l ∧ l ≤ h ∧ h ≤ (c.length : Int)) (.t (.seq n ((c.take h.toNat).drop l.toNat)))
      | some l, some h, some (.t (.int _ m)) => .val ((C.ty e).map (·.size) = some n ∧ 0 ≤ l ∧ l ≤ h ∧ h ≤ m ∧ m ≤ (c.length : Int) ∧ hi.isSome = true)
          (if m = 0 then .t .emp else .t (.seq n ((c.take h.toNat).drop l.toNat)))
      | _, _, _ => .no
    | .slice e, .t .nilS => match AV.intOr lo 0, AV.intOr hi 0, AV.intOr mx 0 with
      | some l, some h, some m => .val ((C.ty e).isSome = true ∧ l = 0 ∧ h = 0 ∧ m = 0 ∧ (mx.isSome = true → hi.isSome = true)) (.t .emp)
      | _, _, _ => .no
    | .slice e, .t .emp => match AV.intOr lo 0, AV.intOr hi 0, AV.intOr mx 0 with
      | some l, some h, some m => .val ((C.ty e).isSome = true ∧ l = 0 ∧ h = 0 ∧ m = 0 ∧ (mx.isSome = true → hi.isSome = true)) (.t .emp)
      | _, _, _ => .no
    | .slice e, .tok g n off len => match AV.intOr lo 0, AV.intOr hi len, mx with
      | some l, some h, none => .val ((C.ty e).map (·.size) = some n ∧ 0 ≤ l ∧ l ≤ h ∧ h ≤ (len : Int)) (.tok g n (off + l.toNat) (h.toNat - l.toNat))
      | _, _, _ => .no
    | .arr m e, .ptr g off => match C.ty e, AV.intOr lo 0, AV.intOr hi m, mx with
      | some de, some l, some h, none => .val (0 ≤ l ∧ l ≤ h ∧ h ≤ (m : Int)) (.btok g de.size (off + l.toNat * de.size) (h.toNat - l.toNat))
      | _, _, _, _ => .no
    | _, _ => .no
  | none => .no

def unB (op : UnOp) (x : AV) : B :=
  match op, x with
  | .not, .t (.bool b) => .val True (.t (.bool !b))
  | .neg, .t (.int k n) => .val True (.t (.int k (k.wrap (0 - n))))
  | _, _ => .no

def extB (x : AV) (i : Nat) : B :=
  match x with
  | .tup vs => .val (i < vs.length) (vs.getD i .unk)
  | _ => .no

def nilB (x : AV) : B :=
  match x with
  | .ptr .. | .eptr .. | .imm _ | .fn .. => .val True x
  | _ => .no

def splice (cs : List AV) (off : Nat) (vs : List AV) : List AV := cs.take off ++ vs ++ cs.drop (off + vs.length)

/-- A struct or an array of its parts. -/
def fillB (place : Nat → Option (Nat × Nat)) (cells : List AV) : List (Nat × AV) → Option (List AV)
  | [] => some cells
  | (i, v) :: r => match place i with
    | some (off, size) => if v.cells.length = size ∧ off + size ≤ cells.length ∧ v.cells.all AV.one = true then fillB place (splice cells off v.cells) r else none
    | none => none

def buildB (C : Ctx) (T : TypeId) (parts : List (Nat × AV)) : B :=
  match C.ty T with
  | some d => match d.sh with
    | .struct fs => match fillB (fun i => (fs[i]?).bind fun (t, o) => (C.ty t).map fun dt => (o, dt.size)) (d.zero.map .t) parts with
      | some cs => .val ((fs.all fun p => (C.ty p.1).isSome) = true) (.agg cs)
      | none => .no
    | .arr _ e => match C.ty e with
      | some de => match fillB (fun i => some (i * de.size, de.size)) (d.zero.map .t) parts with
        | some cs => .val True (.agg cs)
        | none => .no
      | none => .no
    | _ => .no
  | none => .no

def rowsOf (s : Store) (n : Nat) : Nat → List (Nat × AV) → Option (List (List TV) × List Nat)
  | _, [] => some ([], [])
  | k, (i, v) :: r => if i = k then match s.borrowAll v.cells, rowsOf s n (k + 1) r with
    | some (xs, a), some (ys, b) => if xs.length = n then some (xs :: ys, a ++ b) else none
    | _, _ => none else none

def buildSliceB (C : Ctx) (s : Store) (T : TypeId) (len : Nat) (parts : List (Nat × AV)) : B :=
  match C.ty T with
  | some d => match d.sh with
    | .slice e => match C.ty e with
      | some de => match rowsOf s de.size 0 parts with
        | some (l, ros) => .new (l.length = len ∧ len * de.size ≤ 1000000 ∧ 0 < de.size) ros (.row de.size l false) fun g => .tok g de.size 0 len
        | none => .no
      | none => .no
    | _ => .no
  | none => .no

def makeSliceB (C : Ctx) (T : TypeId) (len cap : AV) : B :=
  match C.ty T, len, cap with
  | some d, .t (.int _ l), .t (.int _ c) => match d.sh with
    | .slice e => match C.ty e with
      | some de => .new (0 ≤ l ∧ l ≤ c ∧ c * (de.bytes : Int) ≤ 140737488355328 ∧ c ≤ 140737488355328 ∧ 0 < de.size) [] (.row de.size (List.replicate l.toNat de.zero) false) fun g => .tok g de.size 0 l.toNat
      | none => .no
    | _ => .no
  | _, _, _ => .no

def boxB (v : AV) : B := .new (v.cells.all AV.one = true) [] (.box v.cells false) fun g => .ptr g 0

def allocB (C : Ctx) (T : TypeId) : B :=
  match C.ty T with
  | some d => .new True [] (.box (d.zero.map .t) false) fun g => .ptr g 0
  | none => .no

def minB (x y : AV) : B :=
  match x, y with
  | .t (.int k a), .t (.int k' b) => .val (k = k') (.t (.int k (min a b)))
  | _, _ => .no

def maxB (x y : AV) : B :=
  match x, y with
  | .t (.int k a), .t (.int k' b) => .val (k = k') (.t (.int k (max a b)))
  | _, _ => .no

/-- A call of a function whose contract is gentle. -/
def callB (C : Ctx) (s : Store) (f : FuncId) (args : List AV) : B :=
  match C.con f, s.borrows args with
  | some (.pure c es mk), some (as, ros) => ⟨c as, ros, es as, mk as⟩
  | some (.scal c r), some (as, _) => .val (c as) (r as)
  | _, _ => .no

def calleeB (C : Ctx) (s : Store) (h : AV) (args : List AV) : B :=
  match h with
  | .fn f caps => callB C s f (args ++ caps)
  | _ => .no

/-- What a gentle operation does, its guard aside. -/
def opB (C : Ctx) (ev : Operand → AV) (s : Store) (o : Op) : B :=
  match o with
  | .move x | .assign x => .val True (ev x)
  | .pick c a b => pickB (ev c) (ev a) (ev b)
  | .alloc t => allocB C t
  | .box _ x => boxB (ev x)
  | .build t ps => buildB C t (ps.toList.map fun p => (p.1, ev p.2))
  | .buildSlice t n ps => buildSliceB C s t n (ps.toList.map fun p => (p.1, ev p.2))
  | .load t a => loadB C s t (ev a)
  | .nilCheck x => nilB (ev x)
  | .binOp op T x y _ => binB C T op (ev x) (ev y)
  | .unOp op _ x => unB op (ev x)
  | .convert a b x => convB C s a b (ev x)
  | .makeFunc fn first caps => match fn, first.toList with
    | .func f, [] => .val ((caps.toList.map ev).all AV.one = true) (.fn f (caps.toList.map ev))
    | _, _ => .no
  | .makeSlice t l c => makeSliceB C t (ev l) (ev c)
  | .slice t x lo hi mx => sliceB C t (ev x) (lo.map ev) (hi.map ev) (mx.map ev)
  | .fieldAddr t x f => fieldAddrB C t (ev x) f
  | .field t x f => fieldB C t (ev x) f
  | .indexAddr t x i => idxB C t (ev x) (ev i)
  | .index t x i => indexB C t (ev x) (ev i)
  | .extract x i => extB (ev x) i
  | .call c => match c.callee with
    | .value h => calleeB C s (ev h) (c.args.toList.map ev)
    | .builtin .len => match c.argTypes.toList, c.args.toList with
      | T :: _, [x] => lenB C T (ev x)
      | _, _ => .no
    | .builtin .min => match c.args.toList with
      | [x, y] => minB (ev x) (ev y)
      | _ => .no
    | .builtin .max => match c.args.toList with
      | [x, y] => maxB (ev x) (ev y)
      | _ => .no
    | _ => .no
  | _ => .no

end Go.Eng


namespace Go.Eng

abbrev Bt := Nat → Option (Option Nat)

theorem add_at (b off n : Nat) : (⟨b, off, none⟩ : Addr).add n = ⟨b, off + n, none⟩ := by
  unfold Addr.add
  split
  · next h => subst h; rfl
  · rfl

inductive RepT (w : World) (O : Addr → Prop) : TV → Value → Prop
  | int (k n) : RepT w O (.int k n) (.int k n)
  | bool (b) : RepT w O (.bool b) (.bool b)
  | str (s) : RepT w O (.str s) (.string ⟨s.toArray⟩)
  | nilS : RepT w O .nilS (.slice none 0 0)
  | emp (a) : RepT w O .emp (.slice a 0 0)
  | emq (b a cap) (h : a.isNone = b) : RepT w O (.emq b) (.slice a 0 cap)
  | nilP : RepT w O .nilP (.pointer none)
  | nilF : RepT w O .nilF .nilFunc
  | seq (n l) (a : Option Addr) (len cap b off : Nat) (c : Nat → Nat → Value) (hlen : len = l.length) (hcap : len ≤ cap) (ha : l = [] ∨ a = some ⟨b, off, none⟩)
      (hn : ∀ i, i < l.length → (l.getD i []).length = n)
      (hc : ∀ i j, i < l.length → j < n → w.cell? ⟨b, off + (i * n + j), none⟩ = some (c i j))
      (ho : ∀ i j, i < l.length → j < n → ¬ O ⟨b, off + (i * n + j), none⟩)
      (hr : ∀ i j, i < l.length → j < n → RepT w O ((l.getD i []).getD j default) (c i j)) : RepT w O (.seq n l) (.slice a len cap)

inductive Rep (β : Bt) (w : World) (O : Addr → Prop) : AV → Value → Prop
  | t (x v) (h : RepT w O x v) : Rep β w O (.t x) v
  | tokN (g n a) (h : β g = some none) : Rep β w O (.tok g n 0 0) (.slice a 0 0)
  | tok (g n off len b a cap T sz) (h : β g = some (some b)) (hl : len ≤ cap) (hm : cap ≤ maxLen) (hs : w.shape? b = some (T, sz))
      (ha : (a = some ⟨b, off * n, none⟩ ∧ sz = (off + cap) * n) ∨ (cap = 0 ∧ off ≠ 0)) : Rep β w O (.tok g n off len) (.slice a len cap)
  | btok (g n off len b a cap) (h : β g = some (some b)) (hl : len ≤ cap) (ha : len = 0 ∨ a = some ⟨b, off, none⟩) : Rep β w O (.btok g n off len) (.slice a len cap)
  | ptr (g off b) (h : β g = some (some b)) : Rep β w O (.ptr g off) (.pointer (some ⟨b, off, none⟩))
  | eptr (g n i off b) (h : β g = some (some b)) : Rep β w O (.eptr g n i off) (.pointer (some ⟨b, i * n + off, none⟩))
  | imm (cells b off) (c : Nat → Value) (hc : ∀ j, j < cells.length → w.cell? ⟨b, off + j, none⟩ = some (c j)) (ho : ∀ j, j < cells.length → ¬ O ⟨b, off + j, none⟩)
      (hr : ∀ j, j < cells.length → RepT w O (cells.getD j default) (c j)) : Rep β w O (.imm cells) (.pointer (some ⟨b, off, none⟩))
  | fn (f caps) (vs : Array Value) (hl : caps.length = vs.size) (h1 : ∀ i, i < caps.length → (caps.getD i .unk).one = true)
      (h : ∀ i, i < caps.length → Rep β w O (caps.getD i .unk) (vs.getD i undef)) : Rep β w O (.fn f caps) (.func (.func f) #[] vs)
  | agg (cs) (vs : Array Value) (hl : cs.length = vs.size) (h1 : ∀ i, i < cs.length → (cs.getD i .unk).one = true)
      (h : ∀ i, i < cs.length → Rep β w O (cs.getD i .unk) (vs.getD i undef)) : Rep β w O (.agg cs) (.agg vs)
  | tup (cs) (vs : Array Value) (hl : cs.length = vs.size) (h : ∀ i, i < cs.length → Rep β w O (cs.getD i .unk) (vs.getD i undef)) : Rep β w O (.tup cs) (.tuple vs)
  | opt (b v x) (h : b = true → Rep β w O v x) (h' : b = false → x = undef) : Rep β w O (.opt b v) x
  | unk (x) : Rep β w O .unk x

/-- What the tokens own. -/
def OwnOf (β : Bt) (s : Store) : Addr → Prop := fun a =>
  ∃ g b, β g = some (some b) ∧ a.block = b ∧ match s.f g with
    | some (.row n l ro) => ro = true → l.length * n ≤ a.off
    | some (.box _ ro) => ro = false
    | none => False

/-- Nothing below 'size' is frozen. -/
def thawed (fr : Nat × Nat) (size : Nat) : Prop := ∀ i, i < size → ¬ (fr.1 ≤ i ∧ i < fr.2)

def EntOk (β : Bt) (w : World) (O : Addr → Prop) (g : Nat) : Entry → Prop
  | .row n l _ => (∀ i, i < l.length → (l.getD i []).length = n) ∧ ((β g = some none ∧ l = []) ∨
      ∃ b c T fr, β g = some (some b) ∧ w.heap[b]? = some (.cells c T fr) ∧ thawed fr c.size ∧ l.length * n ≤ c.size ∧
        ∀ i j, i < l.length → j < n → RepT w O ((l.getD i []).getD j default) (c.getD (i * n + j) undef))
  | .box cs _ => ∃ b c T fr, β g = some (some b) ∧ w.heap[b]? = some (.cells c T fr) ∧ thawed fr c.size ∧ c.size = cs.length ∧
      ∀ i, i < cs.length → (cs.getD i .unk).one = true ∧ Rep β w O (cs.getD i .unk) (c.getD i undef)

/-- What avoids what. -/
def Or2 (A B : Addr → Prop) : Addr → Prop := fun a => A a ∨ B a

structure StOk (F : Addr → Prop) (β : Bt) (s : Store) (w : World) : Prop where
  ents : ∀ g e, s.f g = some e → EntOk β w (Or2 F (OwnOf β s)) g e
  inj : ∀ g h b, s.f g ≠ none → s.f h ≠ none → β g = some (some b) → β h = some (some b) → g = h
  fin : ∃ N, ∀ g, N ≤ g → β g = none
  dom : ∀ g b, β g = some (some b) → b < w.heap.size
  far : ∀ a, F a → a.block < w.heap.size
  apart : ∀ a, F a → ∀ g, s.f g ≠ none → β g ≠ some (some a.block)

/-- From one world to a later one: what may have turned is what was owned. -/
structure Frame (O₀ : Addr → Prop) (β₀ : Bt) (w₀ : World) (O : Addr → Prop) (β : Bt) (w : World) : Prop where
  os : w.os = w₀.os
  tape : w.tape = w₀.tape
  output : w.output = w₀.output
  size : w₀.heap.size ≤ w.heap.size
  block : ∀ b, b < w₀.heap.size → (∀ off, ¬ O₀ ⟨b, off, none⟩) → w.heap[b]? = w₀.heap[b]?
  cell : ∀ b off, b < w₀.heap.size → ¬ O₀ ⟨b, off, none⟩ → w.cell? ⟨b, off, none⟩ = w₀.cell? ⟨b, off, none⟩
  shape : ∀ b, b < w₀.heap.size → w.shape? b = w₀.shape? b
  own : ∀ b off, b < w₀.heap.size → O ⟨b, off, none⟩ → O₀ ⟨b, off, none⟩
  ext : ∀ g x, β₀ g = some x → β g = some x
  new : ∀ g b, β g = some (some b) → β₀ g = some (some b) ∨ (β₀ g = none ∧ (w₀.heap.size ≤ b ∨ ∃ off, O₀ ⟨b, off, none⟩))

theorem Frame.refl (O : Addr → Prop) (β : Bt) (w : World) : Frame O β w O β w :=
  ⟨rfl, rfl, rfl, Nat.le_refl _, fun _ _ _ => rfl, fun _ _ _ _ => rfl, fun _ _ => rfl, fun _ _ _ h => h, fun _ _ h => h, fun _ _ h => .inl h⟩

theorem Frame.trans {O₀ O₁ O₂ : Addr → Prop} {β₀ β₁ β₂ : Bt} {w₀ w₁ w₂ : World} (h : Frame O₀ β₀ w₀ O₁ β₁ w₁) (k : Frame O₁ β₁ w₁ O₂ β₂ w₂) : Frame O₀ β₀ w₀ O₂ β₂ w₂ where
  os := k.os.trans h.os
  tape := k.tape.trans h.tape
  output := k.output.trans h.output
  size := Nat.le_trans h.size k.size
  block b hb ho := (k.block b (Nat.lt_of_lt_of_le hb h.size) fun off h1 => ho off (h.own b off hb h1)).trans (h.block b hb ho)
  cell b off hb ho := (k.cell b off (Nat.lt_of_lt_of_le hb h.size) fun h1 => ho (h.own b off hb h1)).trans (h.cell b off hb ho)
  shape b hb := (k.shape b (Nat.lt_of_lt_of_le hb h.size)).trans (h.shape b hb)
  own b off hb h2 := h.own b off hb (k.own b off (Nat.lt_of_lt_of_le hb h.size) h2)
  ext g x hx := k.ext g x (h.ext g x hx)
  new g b hb := by
    rcases k.new g b hb with h1 | ⟨h1, h2⟩
    · exact h.new g b h1
    · have h0 : β₀ g = none := by
        cases hg : β₀ g with
        | none => rfl
        | some x => rw [h.ext g x hg] at h1; cases h1
      refine .inr ⟨h0, ?_⟩
      rcases h2 with h2 | ⟨off, h2⟩
      · exact .inl (Nat.le_trans h.size h2)
      · by_cases hlt : b < w₀.heap.size
        · exact .inr ⟨off, h.own b off hlt h2⟩
        · exact .inl (by omega)

theorem cell_lt {w : World} {b off : Nat} {v : Value} (h : w.cell? ⟨b, off, none⟩ = some v) : b < w.heap.size := World.block_lt_of_cell? w _ h

theorem shape_lt {w : World} {b : Nat} {x : TypeId × Nat} (h : w.shape? b = some x) : b < w.heap.size := by
  unfold World.shape? at h
  rcases Nat.lt_or_ge b w.heap.size with h1 | h1
  · exact h1
  · rw [Array.getElem?_eq_none h1] at h; cases h

/-- A value that is only read stays. -/
theorem RepT.frame {F O₀ O : Addr → Prop} {β₀ β : Bt} {w₀ w : World} (hf : Frame O₀ β₀ w₀ O β w) {x : TV} {v : Value} (h : RepT w₀ (Or2 F O₀) x v) : RepT w (Or2 F O) x v := by
  induction h with
  | int k n => exact .int k n
  | bool b => exact .bool b
  | str s => exact .str s
  | nilS => exact .nilS
  | emp a => exact .emp a
  | emq b a c h => exact .emq b a c h
  | nilP => exact .nilP
  | nilF => exact .nilF
  | seq n l a len cap b off c hlen hcap ha hn hc ho hr ih =>
    refine .seq n l a len cap b off c hlen hcap ha hn (fun i j hi hj => ?_) (fun i j hi hj h1 => ?_) ih
    · rw [hf.cell b _ (cell_lt (hc i j hi hj)) fun h1 => ho i j hi hj (.inr h1)]
      exact hc i j hi hj
    · rcases h1 with h1 | h1
      · exact ho i j hi hj (.inl h1)
      · exact ho i j hi hj (.inr (hf.own _ _ (cell_lt (hc i j hi hj)) h1))

theorem Rep.frame {F O₀ O : Addr → Prop} {β₀ β : Bt} {w₀ w : World} (hf : Frame O₀ β₀ w₀ O β w) {x : AV} {v : Value} (h : Rep β₀ w₀ (Or2 F O₀) x v) : Rep β w (Or2 F O) x v := by
  induction h with
  | t x v h => exact .t x v (h.frame hf)
  | tokN g n a h => exact .tokN g n a (hf.ext _ _ h)
  | tok g n off len b a cap T sz h hl hm hs ha => exact .tok g n off len b a cap T sz (hf.ext _ _ h) hl hm ((hf.shape b (shape_lt hs)).trans hs) ha
  | btok g n off len b a cap h hl ha => exact .btok g n off len b a cap (hf.ext _ _ h) hl ha
  | ptr g off b h => exact .ptr g off b (hf.ext _ _ h)
  | eptr g n i off b h => exact .eptr g n i off b (hf.ext _ _ h)
  | imm cells b off c hc ho hr =>
    refine .imm cells b off c (fun j hj => ?_) (fun j hj h1 => ?_) fun j hj => (hr j hj).frame hf
    · rw [hf.cell b _ (cell_lt (hc j hj)) fun h1 => ho j hj (.inr h1)]
      exact hc j hj
    · rcases h1 with h1 | h1
      · exact ho j hj (.inl h1)
      · exact ho j hj (.inr (hf.own _ _ (cell_lt (hc j hj)) h1))
  | fn f caps vs hl h1 h ih => exact .fn f caps vs hl h1 ih
  | agg cs vs hl h1 h ih => exact .agg cs vs hl h1 ih
  | tup cs vs hl h ih => exact .tup cs vs hl ih
  | opt b v x h h' ih => exact .opt b v x ih h'
  | unk x => exact .unk x

/-- Less to avoid. -/
theorem RepT.mono {w : World} {O O' : Addr → Prop} (ho : ∀ a, O' a → O a) {x : TV} {v : Value} (h : RepT w O x v) : RepT w O' x v := by
  induction h with
  | int k n => exact .int k n
  | bool b => exact .bool b
  | str s => exact .str s
  | nilS => exact .nilS
  | emp a => exact .emp a
  | emq b a c h => exact .emq b a c h
  | nilP => exact .nilP
  | nilF => exact .nilF
  | seq n l a len cap b off c hlen hcap ha hn hc ho' hr ih => exact .seq n l a len cap b off c hlen hcap ha hn hc (fun i j hi hj h1 => ho' i j hi hj (ho _ h1)) ih

theorem Rep.mono {β : Bt} {w : World} {O O' : Addr → Prop} (ho : ∀ a, O' a → O a) {x : AV} {v : Value} (h : Rep β w O x v) : Rep β w O' x v := by
  induction h with
  | t x v h => exact .t x v (h.mono ho)
  | tokN g n a h => exact .tokN g n a h
  | tok g n off len b a cap T sz h hl hm hs ha => exact .tok g n off len b a cap T sz h hl hm hs ha
  | btok g n off len b a cap h hl ha => exact .btok g n off len b a cap h hl ha
  | ptr g off b h => exact .ptr g off b h
  | eptr g n i off b h => exact .eptr g n i off b h
  | imm cells b off c hc ho' hr => exact .imm cells b off c hc (fun j hj h1 => ho' j hj (ho _ h1)) fun j hj => (hr j hj).mono ho
  | fn f caps vs hl h1 h ih => exact .fn f caps vs hl h1 ih
  | agg cs vs hl h1 h ih => exact .agg cs vs hl h1 ih
  | tup cs vs hl h ih => exact .tup cs vs hl ih
  | opt b v x h h' ih => exact .opt b v x ih h'
  | unk x => exact .unk x

theorem RepT.one {w : World} {O : Addr → Prop} {x : TV} {v : Value} (h : RepT w O x v) : v.oneCell' = true := by cases h <;> rfl

theorem Rep.oneC {β : Bt} {w : World} {O : Addr → Prop} {x : AV} {v : Value} (h : Rep β w O x v) (h1 : x.one = true) : v.oneCell' = true := by
  cases h with
  | t x v h => exact h.one
  | agg | tup | opt | unk => simp [AV.one] at h1
  | _ => rfl

theorem cells_one {v : Value} (h : v.oneCell' = true) : v.cells = #[v] := by cases v <;> first | rfl | (simp [Value.oneCell'] at h)

/-- The cells of a value stand for the cells of its abstract one. -/
theorem Rep.cells {β : Bt} {w : World} {O : Addr → Prop} {x : AV} {v : Value} (h : Rep β w O x v) (h1 : x.cells.all AV.one = true) :
    v.cells.size = x.cells.length ∧ ∀ i, i < x.cells.length → (x.cells.getD i .unk).one = true ∧ Rep β w O (x.cells.getD i .unk) (v.cells.getD i undef) := by
  have key : x.one = true → x.cells = [x] → v.cells.size = x.cells.length ∧ ∀ i, i < x.cells.length → (x.cells.getD i .unk).one = true ∧ Rep β w O (x.cells.getD i .unk) (v.cells.getD i undef) := by
    intro ho hx
    rw [hx, cells_one (h.oneC ho)]
    refine ⟨rfl, fun i hi => ?_⟩
    obtain rfl : i = 0 := by simpa using hi
    exact ⟨ho, h⟩
  cases h with
  | agg cs vs hl h1' h => exact ⟨hl.symm, fun i hi => ⟨h1' i hi, h i hi⟩⟩
  | tup cs vs hl h => simp [AV.cells, AV.one] at h1
  | opt b v x h h' => simp [AV.cells, AV.one] at h1
  | unk x => simp [AV.cells, AV.one] at h1
  | _ => exact key rfl rfl

end Go.Eng

namespace Go.Eng

def upd (β : Bt) (g : Nat) (x : Option (Option Nat)) : Bt := fun k => if k = g then x else β k

theorem upd_same (β : Bt) (g x) : upd β g x g = x := by simp [upd]
theorem upd_other (β : Bt) {g k : Nat} (x) (h : k ≠ g) : upd β g x k = β k := by simp [upd, h]

theorem Store.set_same (s : Store) (g e) : (s.set g e).f g = e := by simp [Store.set]
theorem Store.set_other (s : Store) {g k : Nat} (e) (h : k ≠ g) : (s.set g e).f k = s.f k := by simp [Store.set, h]

/-- What is new in a store was unknown before. -/
def Grew (β : Bt) (s s' : Store) : Prop := ∀ g, s'.f g ≠ none → s.f g ≠ none ∨ β g = none

structure Inv (F : Addr → Prop) (s₀ : Store) (β₀ : Bt) (w₀ : World) (N : Nat) (β : Bt) (σ : St) (a : Act) (w : World) : Prop where
  st : StOk F β σ.st w
  slots : ∀ n, Rep β w (Or2 F (OwnOf β σ.st)) (σ.get n) (a.tmps.getD n undef)
  fr : Frame (OwnOf β₀ s₀) β₀ w₀ (OwnOf β σ.st) β w
  grew : Grew β₀ s₀ σ.st
  size : a.tmps.size = N
  defers : a.defers = []

section
variable {F O₀ : Addr → Prop} {β₀ β β' : Bt} {w₀ w w' : World} {N : Nat} {σ : St} {a : Act} {s s' s₀ : Store}

theorem Inv.put (h : Inv F s₀ β₀ w₀ N β σ a w) {x : AV} {v : Value} (hr : Rep β w (Or2 F (OwnOf β σ.st)) x v) (d : Option Nat) (hd : ∀ k, d = some k → k < N) :
    Inv F s₀ β₀ w₀ N β (σ.put d x) (a.put d v) w := by
  cases d with
  | none => exact h
  | some k =>
    have hk : k < a.tmps.size := by rw [h.size]; exact hd k rfl
    refine ⟨h.st, fun n => ?_, h.fr, h.grew, by simp [Act.put, h.size], h.defers⟩
    simp only [St.put, Act.put]
    by_cases hn : n = k
    · subst hn
      simp [hk]
      exact hr
    · have hne : ¬ k = n := fun e => hn e.symm
      simp only [if_neg hn]
      have := h.slots n
      simpa [Array.getD_eq_getD_getElem?, Array.getElem?_setIfInBounds, hne] using this

theorem Inv.step (h : Inv F s₀ β₀ w₀ N β σ a w) (hf : Frame (OwnOf β σ.st) β w (OwnOf β' s') β' w') (hs : StOk F β' s' w') (hg : Grew β σ.st s') :
    Inv F s₀ β₀ w₀ N β' { σ with st := s' } a w' :=
  ⟨hs, fun n => (h.slots n).frame hf, h.fr.trans hf, fun g hg' => (hg g hg').elim (h.grew g) (fun h1 => .inr (by
    cases h2 : β₀ g with
    | none => rfl
    | some x => rw [h.fr.ext _ _ h2] at h1; cases h1)), h.size, h.defers⟩

theorem Grew.refl (β : Bt) (s : Store) : Grew β s s := fun _ h => .inl h
theorem Grew.set {β : Bt} {s : Store} {g : Nat} {e : Option Entry} (h : s.f g ≠ none ∨ β g = none ∨ e = none) : Grew β s (s.set g e) := fun k hk => by
  by_cases hkg : k = g
  · subst hkg
    rw [Store.set_same] at hk
    rcases h with h | h | h
    · exact .inl h
    · exact .inr h
    · exact absurd h hk
  · rw [Store.set_other _ _ hkg] at hk; exact .inl hk
theorem Grew.trans {β : Bt} {s s' s'' : Store} (h : Grew β s s') (k : Grew β s' s'') : Grew β s s'' := fun g hg => (k g hg).elim (h g) .inr
theorem Grew.mark (β : Bt) (s : Store) (g : Nat) : Grew β s (s.mark g) := by
  unfold Store.mark
  cases hf : s.f g with
  | none => exact .set (.inr (.inr rfl))
  | some e => exact .set (.inl (by simp [hf]))
theorem Grew.marks (β : Bt) : ∀ (ros : List Nat) (s : Store), Grew β s (s.marks ros)
  | [], s => .refl _ _
  | g :: r, s => (Grew.mark β s g).trans (Grew.marks β r _)
theorem Grew.adds {β : Bt} : ∀ (gs : List Nat) (es : List Entry) (s : Store), (∀ g ∈ gs, β g = none) → Grew β s (s.adds gs es)
  | [], es, s, _ => by cases es <;> exact .refl _ _
  | _ :: _, [], s, _ => .refl _ _
  | g :: gs, e :: es, s, h => (Grew.set (.inr (.inl (h g (by simp))))).trans (Grew.adds gs es _ fun k hk => h k (by simp [hk]))

theorem EntOk.frame (hf : Frame (OwnOf β s) β w (OwnOf β' s') β' w') {g : Nat} {e : Entry} (h : EntOk β w (Or2 F (OwnOf β s)) g e)
    (hb : ∀ b, β g = some (some b) → w'.heap[b]? = w.heap[b]?) : EntOk β' w' (Or2 F (OwnOf β' s')) g e := by
  cases e with
  | row n l ro =>
    obtain ⟨h1, h2⟩ := h
    refine ⟨h1, ?_⟩
    rcases h2 with ⟨h2, h3⟩ | ⟨b, c, T, fr, h2, h3, h4, h5, h6⟩
    · exact .inl ⟨hf.ext _ _ h2, h3⟩
    · exact .inr ⟨b, c, T, fr, hf.ext _ _ h2, (hb b h2).trans h3, h4, h5, fun i j hi hj => (h6 i j hi hj).frame hf⟩
  | box cs ro =>
    obtain ⟨b, c, T, fr, h2, h3, h4, h5, h6⟩ := h
    exact ⟨b, c, T, fr, hf.ext _ _ h2, (hb b h2).trans h3, h4, h5, fun i hi => ⟨(h6 i hi).1, (h6 i hi).2.frame hf⟩⟩

theorem EntOk.mono {A A' : Addr → Prop} (ho : ∀ a, A' a → A a) {g : Nat} {e : Entry} (h : EntOk β w A g e) : EntOk β w A' g e := by
  cases e with
  | row n l ro =>
    obtain ⟨h1, h2⟩ := h
    refine ⟨h1, h2.imp id ?_⟩
    rintro ⟨b, c, T, fr, h2, h3, h4, h5, h6⟩
    exact ⟨b, c, T, fr, h2, h3, h4, h5, fun i j hi hj => (h6 i j hi hj).mono ho⟩
  | box cs ro =>
    obtain ⟨b, c, T, fr, h2, h3, h4, h5, h6⟩ := h
    exact ⟨b, c, T, fr, h2, h3, h4, h5, fun i hi => ⟨(h6 i hi).1, (h6 i hi).2.mono ho⟩⟩

/-- A store whose entries are the old ones, or hold anew. -/
theorem StOk.evolve (h : StOk F β s w) (hf : Frame (OwnOf β s) β w (OwnOf β' s') β' w')
    (he : ∀ g e, s'.f g = some e → (s.f g = some e ∧ ∀ b, β g = some (some b) → w'.heap[b]? = w.heap[b]?) ∨ EntOk β' w' (Or2 F (OwnOf β' s')) g e)
    (hi : ∀ g k b, s'.f g ≠ none → s'.f k ≠ none → β' g = some (some b) → β' k = some (some b) → g = k)
    (hn : ∃ N, ∀ g, N ≤ g → β' g = none) (hd : ∀ g b, β' g = some (some b) → b < w'.heap.size)
    (ha : ∀ a, F a → ∀ g, s'.f g ≠ none → β' g ≠ some (some a.block)) : StOk F β' s' w' where
  ents g e hg := by
    rcases he g e hg with ⟨h1, h2⟩ | h1
    · exact (h.ents g e h1).frame hf h2
    · exact h1
  inj := hi
  fin := hn
  dom := hd
  far a ha := Nat.lt_of_lt_of_le (h.far a ha) hf.size
  apart := ha

theorem Frame.drew (h : Frame O₀ β₀ w₀ F β w) : Frame O₀ β₀ w₀ F β w.drew := ⟨h.os, h.tape, h.output, h.size, h.block, h.cell, h.shape, h.own, h.ext, h.new⟩

theorem StOk.drew (h : StOk F β s w) : StOk F β s w.drew :=
  h.evolve (Frame.refl _ _ _).drew (fun _ _ hg => .inl ⟨hg, fun _ _ => rfl⟩) (h.inj) h.fin h.dom h.apart

theorem Inv.drew (h : Inv F s₀ β₀ w₀ N β σ a w) : Inv F s₀ β₀ w₀ N β σ a w.drew := h.step (Frame.refl _ _ _).drew h.st.drew (.refl _ _)

/-! ### Marks -/

theorem own_mark (g : Nat) (a : Addr) (h : OwnOf β (s.mark g) a) : OwnOf β s a := by
  obtain ⟨k, b, h1, h2, h3⟩ := h
  refine ⟨k, b, h1, h2, ?_⟩
  unfold Store.mark at h3
  by_cases hk : k = g
  · subst hk
    rw [Store.set_same] at h3
    cases he : s.f k with
    | none => simp [he] at h3
    | some e => cases e <;> simp [he, Entry.mark] at h3 ⊢ <;> exact fun _ => h3
  · rwa [Store.set_other _ _ hk] at h3

theorem StOk.shrink (h : StOk F β s w) (ho : ∀ a, OwnOf β s' a → OwnOf β s a) (he : ∀ g e, s'.f g = some e → ∃ e', s.f g = some e' ∧ (∀ A, EntOk β w A g e' → EntOk β w A g e)) : StOk F β s' w where
  ents g e hg := by
    obtain ⟨e', h1, h2⟩ := he g e hg
    exact (h2 _ (h.ents g e' h1)).mono fun a ha => ha.imp id (ho a)
  inj g k b hg hk := by
    refine h.inj g k b (fun h0 => ?_) fun h0 => ?_
    · cases hx : s'.f g with
      | none => exact hg hx
      | some e => obtain ⟨e', h1, _⟩ := he g e hx; rw [h0] at h1; cases h1
    · cases hx : s'.f k with
      | none => exact hk hx
      | some e => obtain ⟨e', h1, _⟩ := he k e hx; rw [h0] at h1; cases h1
  fin := h.fin
  dom := h.dom
  far := h.far
  apart a ha g hg := by
    cases hx : s'.f g with
    | none => exact absurd hx hg
    | some e => obtain ⟨e', h1, _⟩ := he g e hx; exact h.apart a ha g (by rw [h1]; simp)

theorem EntOk.marked {A : Addr → Prop} {g : Nat} {e : Entry} (h : EntOk β w A g e) : EntOk β w A g e.mark := by cases e <;> exact h

theorem StOk.mark (h : StOk F β s w) (g : Nat) : StOk F β (s.mark g) w := by
  refine h.shrink (own_mark g) fun k e hk => ?_
  unfold Store.mark at hk
  by_cases hkg : k = g
  · subst hkg
    rw [Store.set_same] at hk
    cases he : s.f k with
    | none => simp [he] at hk
    | some e' =>
      simp [he] at hk
      exact ⟨e', rfl, fun A h => hk ▸ h.marked⟩
  · rw [Store.set_other _ _ hkg] at hk
    exact ⟨e, hk, fun _ h => h⟩

theorem own_marks : ∀ (gs : List Nat) (s : Store) (a : Addr), OwnOf β (s.marks gs) a → OwnOf β s a
  | [], _, _, h => h
  | g :: gs, s, a, h => own_mark g a (own_marks gs (s.mark g) a h)

theorem StOk.marks : ∀ (gs : List Nat) {s : Store}, StOk F β s w → StOk F β (s.marks gs) w
  | [], _, h => h
  | g :: gs, _, h => StOk.marks gs (h.mark g)

theorem Frame.marks (gs : List Nat) : Frame (OwnOf β s) β w (OwnOf β (s.marks gs)) β w :=
  ⟨rfl, rfl, rfl, Nat.le_refl _, fun _ _ _ => rfl, fun _ _ _ _ => rfl, fun _ _ => rfl, fun _ _ _ h => own_marks gs s _ h, fun _ _ h => h, fun _ _ h => .inl h⟩

/-! ### A new token -/

theorem StOk.none_of (h : StOk F β s w) {g : Nat} (hg : β g = none) : s.f g = none := by
  cases he : s.f g with
  | none => rfl
  | some e =>
    have h1 := h.ents g e he
    cases e with
    | row n l ro =>
      rcases h1.2 with ⟨h2, _⟩ | ⟨b, c, T, fr, h2, _⟩ <;> (rw [hg] at h2; cases h2)
    | box cs ro =>
      obtain ⟨b, c, T, fr, h2, _⟩ := h1
      rw [hg] at h2; cases h2

theorem StOk.fresh (h : StOk F β s w) : ∃ g, β g = none := let ⟨N, hN⟩ := h.fin; ⟨N, hN N (Nat.le_refl _)⟩

theorem fin_upd {g : Nat} {x} (h : ∃ N, ∀ g, N ≤ g → β g = none) : ∃ N, ∀ k, N ≤ k → upd β g x k = none := by
  obtain ⟨N, hN⟩ := h
  exact ⟨max N (g + 1), fun k hk => by rw [upd_other _ _ (by omega)]; exact hN k (by omega)⟩

theorem alloc_frame {g : Nat} (hg : β g = none) (o : Obj) (e : Option Entry) :
    Frame (OwnOf β s) β w (OwnOf (upd β g (some (some w.heap.size))) (s.set g e)) (upd β g (some (some w.heap.size))) (w.alloc o) where
  os := rfl
  tape := rfl
  output := rfl
  size := by simp
  block b hb _ := heap_alloc_old w o b hb
  cell b off hb _ := World.cell?_alloc_past _ _ _ hb
  shape b hb := by simp only [World.shape?, heap_alloc_old w o b hb]
  own b off hb h := by
    obtain ⟨k, b', h1, h2, h3⟩ := h
    by_cases hk : k = g
    · subst hk
      rw [upd_same] at h1
      simp at h1 h2
      omega
    · rw [upd_other _ _ hk] at h1
      rw [Store.set_other _ _ hk] at h3
      exact ⟨k, b', h1, h2, h3⟩
  ext k x hk := by
    rw [upd_other _ _ (fun e => by subst e; rw [hg] at hk; cases hk)]
    exact hk
  new k b hk := by
    by_cases hkg : k = g
    · subst hkg
      rw [upd_same] at hk
      simp at hk
      exact .inr ⟨hg, .inl (by omega)⟩
    · rw [upd_other _ _ hkg] at hk
      exact .inl hk

theorem alloc_ok (h : StOk F β s w) {g : Nat} (hg : β g = none) (o : Obj) (e : Entry)
    (he : EntOk (upd β g (some (some w.heap.size))) (w.alloc o) (Or2 F (OwnOf (upd β g (some (some w.heap.size))) (s.set g (some e)))) g e) :
    StOk F (upd β g (some (some w.heap.size))) (s.set g (some e)) (w.alloc o) := by
  have hf := alloc_frame (s := s) (w := w) hg o (some e)
  refine h.evolve hf (fun k e' hk => ?_) (fun k m b hk hm h1 h2 => ?_) (fin_upd h.fin) (fun k b hk => ?_) fun a ha k hk => ?_
  · by_cases hkg : k = g
    · subst hkg
      rw [Store.set_same] at hk
      cases hk
      exact .inr he
    · rw [Store.set_other _ _ hkg] at hk
      exact .inl ⟨hk, fun b hb => heap_alloc_old w o b (h.dom k b hb)⟩
  · by_cases hkg : k = g <;> by_cases hmg : m = g
    · rw [hkg, hmg]
    · subst hkg
      rw [upd_same] at h1
      rw [upd_other _ _ hmg] at h2
      simp at h1
      have := h.dom m b h2
      omega
    · subst hmg
      rw [upd_same] at h2
      rw [upd_other _ _ hkg] at h1
      simp at h2
      have := h.dom k b h1
      omega
    · rw [upd_other _ _ hkg] at h1
      rw [upd_other _ _ hmg] at h2
      rw [Store.set_other _ _ hkg] at hk
      rw [Store.set_other _ _ hmg] at hm
      exact h.inj k m b hk hm h1 h2
  · by_cases hkg : k = g
    · subst hkg
      rw [upd_same] at hk
      simp at hk ⊢
      omega
    · rw [upd_other _ _ hkg] at hk
      have := h.dom k b hk
      simp
      omega
  · by_cases hkg : k = g
    · subst hkg
      rw [upd_same]
      have := h.far a ha
      simp
      omega
    · rw [upd_other _ _ hkg]
      rw [Store.set_other _ _ hkg] at hk
      exact h.apart a ha k hk

/-- A token without a block. -/
theorem nil_frame {g : Nat} (hg : β g = none) (e : Option Entry) :
    Frame (OwnOf β s) β w (OwnOf (upd β g (some none)) (s.set g e)) (upd β g (some none)) w where
  os := rfl
  tape := rfl
  output := rfl
  size := Nat.le_refl _
  block b hb _ := rfl
  cell b off hb _ := rfl
  shape b hb := rfl
  own b off hb h := by
    obtain ⟨k, b', h1, h2, h3⟩ := h
    by_cases hk : k = g
    · subst hk
      rw [upd_same] at h1
      simp at h1
    · rw [upd_other _ _ hk] at h1
      rw [Store.set_other _ _ hk] at h3
      exact ⟨k, b', h1, h2, h3⟩
  ext k x hk := by
    rw [upd_other _ _ (fun e => by subst e; rw [hg] at hk; cases hk)]
    exact hk
  new k b hk := by
    by_cases hkg : k = g
    · subst hkg
      rw [upd_same] at hk
      simp at hk
    · rw [upd_other _ _ hkg] at hk
      exact .inl hk

theorem nil_ok (h : StOk F β s w) {g : Nat} (hg : β g = none) (n : Nat) (ro : Bool) :
    StOk F (upd β g (some none)) (s.set g (some (.row n [] ro))) w := by
  have hf := nil_frame (s := s) (w := w) hg (some (.row n [] ro))
  refine h.evolve hf (fun k e' hk => ?_) (fun k m b hk hm h1 h2 => ?_) (fin_upd h.fin) (fun k b hk => ?_) fun a ha k hk => ?_
  · by_cases hkg : k = g
    · subst hkg
      rw [Store.set_same] at hk
      cases hk
      exact .inr ⟨fun i hi => by simp at hi, .inl ⟨upd_same _ _ _, rfl⟩⟩
    · rw [Store.set_other _ _ hkg] at hk
      exact .inl ⟨hk, fun b hb => rfl⟩
  · by_cases hkg : k = g
    · subst hkg; rw [upd_same] at h1; simp at h1
    · by_cases hmg : m = g
      · subst hmg; rw [upd_same] at h2; simp at h2
      · rw [upd_other _ _ hkg] at h1
        rw [upd_other _ _ hmg] at h2
        rw [Store.set_other _ _ hkg] at hk
        rw [Store.set_other _ _ hmg] at hm
        exact h.inj k m b hk hm h1 h2
  · by_cases hkg : k = g
    · subst hkg; rw [upd_same] at hk; simp at hk
    · rw [upd_other _ _ hkg] at hk
      exact h.dom k b hk
  · by_cases hkg : k = g
    · subst hkg; rw [upd_same]; simp
    · rw [upd_other _ _ hkg]
      rw [Store.set_other _ _ hkg] at hk
      exact h.apart a ha k hk

/-! ### A row of cells written anew -/

def repl (w : World) (b : Nat) (c : Array Value) (T : TypeId) (fr : Nat × Nat) : World := { w with heap := w.heap.setIfInBounds b (.cells c T fr) }

theorem repl_size (w : World) (b c T fr) : (repl w b c T fr).heap.size = w.heap.size := by simp [repl]

theorem repl_same {b : Nat} {c' : Array Value} {T : TypeId} {fr : Nat × Nat} {x : Obj} (hb : w.heap[b]? = some x) : (repl w b c' T fr).heap[b]? = some (.cells c' T fr) := by
  have hlt : b < w.heap.size := (Array.getElem?_eq_some_iff.1 hb).1
  simp [repl, hlt]

theorem repl_other {b k : Nat} {c' : Array Value} {T : TypeId} {fr : Nat × Nat} (hk : k ≠ b) : (repl w b c' T fr).heap[k]? = w.heap[k]? := by
  have hne : ¬ b = k := fun e => hk e.symm
  simp [repl, hne]

theorem repl_repl (w : World) (b c c' T fr) : repl (repl w b c T fr) b c' T fr = repl w b c' T fr := by
  unfold repl
  simp

theorem repl_self {b : Nat} {c : Array Value} {T : TypeId} {fr : Nat × Nat} (hb : w.heap[b]? = some (.cells c T fr)) : repl w b c T fr = w := by
  have hlt : b < w.heap.size := (Array.getElem?_eq_some_iff.1 hb).1
  have h1 : w.heap.setIfInBounds b (.cells c T fr) = w.heap := by
    apply Array.ext_getElem?
    intro i
    rw [Array.getElem?_setIfInBounds]
    split
    · next h => subst h; rw [hb]
    · rfl
  unfold repl
  rw [h1]

theorem repl_frame {O O' : Addr → Prop} {b : Nat} {c c' : Array Value} {T : TypeId} {fr : Nat × Nat} (hb : w.heap[b]? = some (.cells c T fr)) (hs : c'.size = c.size)
    (hch : ∀ off, ¬ O ⟨b, off, none⟩ → c'[off]? = c[off]?) (hown : ∀ k off, k < w.heap.size → O' ⟨k, off, none⟩ → O ⟨k, off, none⟩)
    (hext : ∀ g x, β g = some x → β' g = some x) (hnew : ∀ g k, β' g = some (some k) → β g = some (some k) ∨ (β g = none ∧ ∃ off, O ⟨k, off, none⟩)) :
    Frame O β w O' β' (repl w b c' T fr) where
  os := rfl
  tape := rfl
  output := rfl
  size := Nat.le_of_eq (repl_size ..).symm
  block k hk ho := by
    by_cases hkb : k = b
    · subst hkb
      have : c' = c := Array.ext_getElem? fun i => hch i (ho i)
      rw [this, repl_self hb]
    · exact repl_other hkb
  cell k off hk ho := by
    by_cases hkb : k = b
    · subst hkb
      have h1 : (repl w k c' T fr).heap[k]? = some (.cells c' T fr) := repl_same hb
      simp [World.cell?, h1, hb, hch off ho]
    · simp [World.cell?, repl_other hkb]
  shape k hk := by
    by_cases hkb : k = b
    · subst hkb
      have h1 : (repl w k c' T fr).heap[k]? = some (.cells c' T fr) := repl_same hb
      simp only [World.shape?, h1, hb, hs]
    · simp [World.shape?, repl_other hkb]
  own := hown
  ext := hext
  new g k hk := (hnew g k hk).imp id fun ⟨h1, h2⟩ => ⟨h1, .inr h2⟩

end
end Go.Eng

namespace Go.Eng

def shOk : Sh → TypeDesc → Prop
  | .int k, .int k' => k = k'
  | .bool, .bool => True
  | .str, .string => True
  | .slice e, .slice e' => e = e'
  | .arr n e, .array n' e' => n = n' ∧ e = e'
  | .struct fs, .struct fs' => fs = fs'.toList.map fun f => (f.type, f.offset)
  | .ptr e, .pointer e' => e = e'
  | .fn, .func .. => True
  | _, _ => False

def zeroOk (d : TyD) (z : Value) : Prop :=
  z.cells.toList.map TV.ofValue = d.zero.map some ∧ d.zero.length = d.size ∧ (d.agg = true → ∃ cs, z = .agg cs) ∧ (d.agg = false → z.oneCell' = true)

def TyOk (P : Program) (ty : TypeId → Option TyD) : Prop :=
  ∀ t d, ty t = some d → ∃ i u z, P.info? t = some i ∧ P.underlying t = some u ∧ shOk d.sh u ∧ i.size = d.size ∧ i.bytes = d.bytes ∧ i.zero = some z ∧ zeroOk d z

section
variable {P : Program} {C : Ctx} {F A : Addr → Prop} {β : Bt} {s : Store} {w : World}

theorem RepT.ofValue {v : Value} {x : TV} (h : TV.ofValue v = some x) : RepT w A x v := by
  unfold TV.ofValue at h
  split at h <;> first | (cases h; done) | (cases h; first | exact .int .. | exact .bool _ | exact .nilS | exact .nilP | exact .nilF | skip)
  exact .str _

theorem Rep.ofCell (v : Value) : Rep β w A (AV.ofCell v) v := by
  unfold AV.ofCell
  split
  · next x h => exact .t _ _ (.ofValue h)
  · exact .unk _

/-- What an operation without effect comes to. -/
def Val (P : Program) (A : Addr → Prop) (β : Bt) (w : World) (m : Sem Value) (b : B) : Prop :=
  b.ros = [] ∧ b.es = [] ∧ ∃ v, m.run P w = .ok v w ∧ Rep β w A (b.av []) v

theorem Val.mk {m : Sem Value} {c : Prop} {x : AV} {v : Value} (h : m.run P w = .ok v w) (hr : Rep β w A x v) : Val P A β w m (.val c x) := ⟨rfl, rfl, v, h, hr⟩

theorem no_elim {p : Prop} (h : B.no.c) : p := h.elim

theorem RepT.int_inv {k : IntKind} {n : Int} {v : Value} (h : RepT w A (.int k n) v) : v = .int k n := by cases h; rfl
theorem RepT.bool_inv {b : Bool} {v : Value} (h : RepT w A (.bool b) v) : v = .bool b := by cases h; rfl
theorem RepT.str_inv {x : List UInt8} {v : Value} (h : RepT w A (.str x) v) : v = .string ⟨x.toArray⟩ := by cases h; rfl
theorem Rep.t_inv {x : TV} {v : Value} (h : Rep β w A (.t x) v) : RepT w A x v := by cases h; assumption
theorem Rep.int_inv {k : IntKind} {n : Int} {v : Value} (h : Rep β w A (.t (.int k n)) v) : v = .int k n := h.t_inv.int_inv
theorem Rep.bool_inv {b : Bool} {v : Value} (h : Rep β w A (.t (.bool b)) v) : v = .bool b := h.t_inv.bool_inv
theorem Rep.str_inv {x : List UInt8} {v : Value} (h : Rep β w A (.t (.str x)) v) : v = .string ⟨x.toArray⟩ := h.t_inv.str_inv

theorem Rep.int (k n) : Rep β w A (.t (.int k n)) (.int k n) := .t _ _ (.int ..)
theorem Rep.bool (b) : Rep β w A (.t (.bool b)) (.bool b) := .t _ _ (.bool _)
theorem Rep.str (x : List UInt8) : Rep β w A (.t (.str x)) (.string ⟨x.toArray⟩) := .t _ _ (.str _)

theorem toList_str (x : List UInt8) : (⟨x.toArray⟩ : ByteArray).toList = x := by
  rw [ByteArray.toList_eq]

/-! ### numbers, bools, texts -/

theorem intBin_sound {op : BinOp} {k k' : IntKind} {a b : Int} {c : Prop} {x : TV} (T : TypeId) (hk : k = k' ∨ op = .shl ∨ op = .shr) (h : intBin op k a b = some (c, x)) (hc : c) :
    ∃ v, (binOp op T (.int k a) (.int k' b)).run P w = .ok v w ∧ RepT w A x v := by
  cases op <;> simp only [intBin, Option.some.injEq, Prod.mk.injEq] at h <;> obtain ⟨rfl, rfl⟩ := h
  case shl => (refine ⟨_, ?_, (.int _ _ : RepT w A (.int _ _) _)⟩; simp [binOp, Op.shift, Int.not_lt.2 hc])
  case shr => (refine ⟨_, ?_, (.int _ _ : RepT w A (.int _ _) _)⟩; simp [binOp, Op.shift, Int.not_lt.2 hc])
  all_goals (obtain rfl : k = k' := by rcases hk with h | h | h <;> first | exact h | cases h)
  case add => (refine ⟨_, ?_, (.int _ _ : RepT w A (.int _ _) _)⟩; simp [binOp, Op.intArith])
  case sub => (refine ⟨_, ?_, (.int _ _ : RepT w A (.int _ _) _)⟩; simp [binOp, Op.intArith])
  case mul => (refine ⟨_, ?_, (.int _ _ : RepT w A (.int _ _) _)⟩; simp [binOp, Op.intArith])
  case quo => (refine ⟨_, ?_, (.int _ _ : RepT w A (.int _ _) _)⟩; simp [binOp, Op.intDiv, hc])
  case rem => (refine ⟨_, ?_, (.int _ _ : RepT w A (.int _ _) _)⟩; simp [binOp, Op.intDiv, hc])
  case and => (refine ⟨_, ?_, (.int _ _ : RepT w A (.int _ _) _)⟩; simp [binOp, Op.intBits])
  case or => (refine ⟨_, ?_, (.int _ _ : RepT w A (.int _ _) _)⟩; simp [binOp, Op.intBits])
  case xor => (refine ⟨_, ?_, (.int _ _ : RepT w A (.int _ _) _)⟩; simp [binOp, Op.intBits])
  case andNot => (refine ⟨_, ?_, (.int _ _ : RepT w A (.int _ _) _)⟩; simp [binOp, Op.intBits])
  case eql => (refine ⟨_, ?_, (.bool _ : RepT w A (.bool _) _)⟩; simp [binOp, Op.intCmp])
  case neq => (refine ⟨_, ?_, (.bool _ : RepT w A (.bool _) _)⟩; simp [binOp, Op.intCmp])
  case lss => (refine ⟨_, ?_, (.bool _ : RepT w A (.bool _) _)⟩; simp [binOp, Op.intCmp])
  case leq => (refine ⟨_, ?_, (.bool _ : RepT w A (.bool _) _)⟩; simp [binOp, Op.intCmp])
  case gtr => (refine ⟨_, ?_, (.bool _ : RepT w A (.bool _) _)⟩; simp [binOp, Op.intCmp])
  case geq => (refine ⟨_, ?_, (.bool _ : RepT w A (.bool _) _)⟩; simp [binOp, Op.intCmp])

theorem strBin_sound {op : BinOp} {a b : List UInt8} {c : Prop} {x : TV} (T : TypeId) (h : strBin op a b = some (c, x)) (hc : c) :
    ∃ v, (binOp op T (.string ⟨a.toArray⟩) (.string ⟨b.toArray⟩)).run P w = .ok v w ∧ RepT w A x v := by
  cases op <;> simp only [strBin, Option.some.injEq, Prod.mk.injEq, reduceCtorEq] at h <;> obtain ⟨rfl, rfl⟩ := h
  case add =>
    refine ⟨.string ⟨(a ++ b).toArray⟩, ?_, .str _⟩
    have h1 : ¬ (IntKind.i64.max : Int) < ((a.length + b.length : Nat) : Int) := by
      have : (IntKind.i64.max : Int) = 9223372036854775807 := by decide
      omega
    have h2 : ((⟨a.toArray⟩ : ByteArray) ++ ⟨b.toArray⟩) = ⟨(a ++ b).toArray⟩ := by
      apply ByteArray.ext; simp
    have h3 : (⟨a.toArray⟩ : ByteArray).size = a.length := rfl
    have h4 : (⟨b.toArray⟩ : ByteArray).size = b.length := rfl
    simp only [binOp, Op.stringOp, h3, h4]
    rw [if_neg (by omega)]
    simp [h2]
  case neq => (refine ⟨_, ?_, (.bool _ : RepT w A (.bool _) _)⟩; simp [binOp, Op.stringOp, bne])
  all_goals (refine ⟨_, ?_, (.bool _ : RepT w A (.bool _) _)⟩; simp [binOp, Op.stringOp])


theorem Val.no {p : Prop} (h : B.no.c) : p := h.elim

theorem ty_some {t : TypeId} {d : TyD} (hT : TyOk P C.ty) (h : C.ty t = some d) :
    ∃ i u z, P.info? t = some i ∧ P.underlying t = some u ∧ shOk d.sh u ∧ i.size = d.size ∧ i.bytes = d.bytes ∧ i.zero = some z ∧ zeroOk d z := hT t d h

theorem sh_bool {u : TypeDesc} (h : shOk .bool u) : u = .bool := by cases u <;> simp [shOk] at h ⊢
theorem sh_str {u : TypeDesc} (h : shOk .str u) : u = .string := by cases u <;> simp [shOk] at h ⊢
theorem sh_int {k : IntKind} {u : TypeDesc} (h : shOk (.int k) u) : u = .int k := by cases u <;> simp [shOk] at h ⊢; exact h.symm
theorem sh_slice {e : TypeId} {u : TypeDesc} (h : shOk (.slice e) u) : u = .slice e := by cases u <;> simp [shOk] at h ⊢; exact h.symm
theorem sh_ptr {e : TypeId} {u : TypeDesc} (h : shOk (.ptr e) u) : u = .pointer e := by cases u <;> simp [shOk] at h ⊢; exact h.symm
theorem sh_arr {n : Nat} {e : TypeId} {u : TypeDesc} (h : shOk (.arr n e) u) : u = .array n e := by cases u <;> simp [shOk] at h ⊢; exact ⟨h.1.symm, h.2.symm⟩
theorem sh_struct {fs : List (TypeId × Nat)} {u : TypeDesc} (h : shOk (.struct fs) u) : ∃ gs, u = .struct gs ∧ fs = gs.toList.map fun f => (f.type, f.offset) := by
  cases u <;> simp [shOk] at h ⊢; exact h
theorem sh_fn {u : TypeDesc} (h : shOk .fn u) : ∃ a b c, u = .func a b c := by cases u <;> simp [shOk] at h ⊢

/-- Equality of structs and arrays of numbers, bools and texts. -/
def EqOk (P : Program) (C : Ctx) : Prop := ∀ T ks, C.eqk T = some ks → P.eqGuardType P.depth T = false ∧
  ∀ (xs ys : Array Value) (as bs : List TV) (w : World), as.map TV.kindB = ks → bs.map TV.kindB = ks → xs.toList.map TV.ofValue = as.map some → ys.toList.map TV.ofValue = bs.map some →
    (Op.equal T (.agg xs) (.agg ys)).run P w = .ok (sameCells (as.map .t) (bs.map .t)) w

theorem RepT.ofV {x : TV} {v : Value} (h : RepT w A x v) (hk : x.kindB ≠ 0) : TV.ofValue v = some x := by
  cases h <;> first | rfl | (simp [TV.kindB] at hk; done)

theorem kindsOf_tv : ∀ (cs : List AV) (ks : List Nat), kindsOf cs = ks → (∀ k ∈ ks, k ≠ 0) → ∃ as : List TV, cs = as.map .t ∧ as.map TV.kindB = ks
  | [], ks, h, _ => ⟨[], rfl, h⟩
  | x :: r, ks, h, hk => by
    cases x with
    | t y =>
      simp only [kindsOf] at h
      subst h
      obtain ⟨as, h1, h2⟩ := kindsOf_tv r _ rfl fun k hm => hk k (by simp [hm])
      exact ⟨y :: as, by simp [h1], by simp [h2]⟩
    | _ =>
      simp only [kindsOf] at h
      subst h
      exact absurd rfl (hk 0 (by simp))

theorem eqGuard_nil {op : BinOp} {T : TypeId} {x y : Operand} {a b : Value} (h : ∀ p q, ¬ (a = .agg p ∧ b = .agg q)) (h' : ¬ (a = .nilIface ∧ b = .nilIface)) :
    (eqGuard op T x y a b).run P w = .ok () w := by
  unfold eqGuard
  cases a <;> first
    | (simp; done)
    | (cases b <;> first | (simp; done) | (exact absurd ⟨rfl, rfl⟩ h') | (exact absurd ⟨rfl, rfl⟩ (h _ _)))

theorem eqGuard_agg {op : BinOp} {T : TypeId} {x y : Operand} {a b : Array Value} (h : P.eqGuardType P.depth T = false) :
    (eqGuard op T x y (.agg a) (.agg b)).run P w = .ok () w := by
  unfold eqGuard
  simp [h]

theorem isNil_rep {sh : Sh} {x : AV} {v : Value} {b : Bool} (hr : Rep β w A x v) (hn : x.isNil = some b) (hs : nilSh sh x = true) :
    (b = true ∧ ((∃ e, sh = .ptr e ∧ v = .pointer none) ∨ (∃ e c, sh = .slice e ∧ v = .slice none 0 c) ∨ (sh = .fn ∧ v = .nilFunc))) ∨
    (b = false ∧ ((∃ e a, sh = .ptr e ∧ v = .pointer (some a)) ∨ (∃ f p q, sh = .fn ∧ v = .func f p q) ∨ (∃ e a l c, sh = .slice e ∧ v = .slice (some a) l c))) := by
  unfold nilSh at hs
  split at hs
  · cases hr.t_inv; simp only [AV.isNil, Option.some.injEq] at hn; exact .inl ⟨hn.symm, .inl ⟨_, rfl, rfl⟩⟩
  · cases hr; simp only [AV.isNil, Option.some.injEq] at hn; exact .inr ⟨hn.symm, .inl ⟨_, _, rfl, rfl⟩⟩
  · cases hr; simp only [AV.isNil, Option.some.injEq] at hn; exact .inr ⟨hn.symm, .inl ⟨_, _, rfl, rfl⟩⟩
  · cases hr; simp only [AV.isNil, Option.some.injEq] at hn; exact .inr ⟨hn.symm, .inl ⟨_, _, rfl, rfl⟩⟩
  · cases hr.t_inv; simp only [AV.isNil, Option.some.injEq] at hn; exact .inl ⟨hn.symm, .inr (.inl ⟨_, _, rfl, rfl⟩)⟩
  · next b' =>
    simp only [AV.isNil, Option.some.injEq] at hn
    subst hn
    have hr := hr.t_inv
    cases hr with
    | emq b a cap h =>
      cases a with
      | none => exact .inl ⟨h.symm, .inr (.inl ⟨_, _, rfl, rfl⟩)⟩
      | some a => exact .inr ⟨h.symm, .inr (.inr ⟨_, _, _, _, rfl, rfl⟩)⟩
  · next n l =>
    cases l with
    | nil => simp [AV.isNil] at hn
    | cons y r =>
      simp only [AV.isNil, Option.some.injEq] at hn
      have hr := hr.t_inv
      cases hr with
      | seq _ _ a len cap b off c hlen hcap ha hns hc ho hr =>
        rcases ha with ha | rfl
        · cases ha
        · exact .inr ⟨hn.symm, .inr (.inr ⟨_, _, _, _, rfl, rfl⟩)⟩
  · cases hr.t_inv; simp only [AV.isNil, Option.some.injEq] at hn; exact .inl ⟨hn.symm, .inr (.inr ⟨rfl, rfl⟩)⟩
  · cases hr; simp only [AV.isNil, Option.some.injEq] at hn; exact .inr ⟨hn.symm, .inr (.inl ⟨_, _, _, rfl, rfl⟩)⟩
  · cases hs

theorem equalIn_nil (d : Nat) {sh : Sh} {u : TypeDesc} {T : TypeId} {x y : AV} {v v' : Value} {a b : Bool} (hu : P.underlying T = some u) (hsh : shOk sh u) (hx : Rep β w A x v) (hy : Rep β w A y v')
    (hnx : x.isNil = some a) (hny : y.isNil = some b) (hsx : nilSh sh x = true) (hsy : nilSh sh y = true) (hab : a = true ∨ b = true) :
    (Op.equalIn (d + 1) T v v').run P w = .ok (a && b) w := by
  rcases isNil_rep hx hnx hsx with ⟨rfl, h1⟩ | ⟨rfl, h1⟩ <;> rcases isNil_rep hy hny hsy with ⟨rfl, h2⟩ | ⟨rfl, h2⟩
  case inr.inr => simp at hab
  all_goals
    (try rcases h1 with ⟨e, rfl, rfl⟩ | ⟨e, c, rfl, rfl⟩ | ⟨rfl, rfl⟩) <;> (try rcases h1 with ⟨e, p, rfl, rfl⟩ | ⟨p, q, r, rfl, rfl⟩ | ⟨e, p, q, r, rfl, rfl⟩) <;>
    (try rcases h2 with ⟨e, h2, rfl⟩ | ⟨e, c, h2, rfl⟩ | ⟨h2, rfl⟩) <;> (try rcases h2 with ⟨e, p, h2, rfl⟩ | ⟨p, q, r, h2, rfl⟩ | ⟨e, p, q, r, h2, rfl⟩) <;>
    first
      | (cases h2; done)
      | (obtain rfl := sh_ptr hsh; simp [Op.equalIn, run_underlying hu]; done)
      | (obtain rfl := sh_slice hsh; simp [Op.equalIn, run_underlying hu]; done)
      | (obtain ⟨_, _, _, rfl⟩ := sh_fn hsh; simp [Op.equalIn, run_underlying hu]; done)

theorem equal_nil {sh : Sh} {u : TypeDesc} {T : TypeId} {x y : AV} {v v' : Value} {a b : Bool} (hu : P.underlying T = some u) (hsh : shOk sh u) (hx : Rep β w A x v) (hy : Rep β w A y v')
    (hnx : x.isNil = some a) (hny : y.isNil = some b) (hsx : nilSh sh x = true) (hsy : nilSh sh y = true) (hab : a = true ∨ b = true) :
    (Op.equal T v v').run P w = .ok (a && b) w := equalIn_nil 9999 hu hsh hx hy hnx hny hsx hsy hab

theorem equal_bool (T : TypeId) (hu : P.underlying T = some .bool) (a b : Bool) : (Op.equal T (.bool a) (.bool b)).run P w = .ok (a == b) w := by
  have key : ∀ d, (Op.equalIn (d + 1) T (.bool a) (.bool b)).run P w = .ok (a == b) w := fun d => by simp [Op.equalIn, run_underlying hu]
  exact key 9999

end
end Go.Eng

namespace Go.Eng
section
variable {P : Program} {C : Ctx} {F A : Addr → Prop} {β : Bt} {s : Store} {w : World}

theorem orNone_c {o : Option (Prop × TV)} (h : (orNone o).c) : ∃ c x, o = some (c, x) ∧ c ∧ orNone o = .val c (.t x) := by
  cases o with
  | none => exact h.elim
  | some p => obtain ⟨c, x⟩ := p; exact ⟨c, x, rfl, h, rfl⟩

theorem run_guarded {op : BinOp} {T : TypeId} {ox oy : Operand} {vx vy v : Value} (hg : (eqGuard op T ox oy vx vy).run P w = .ok () w) (h : (binOp op T vx vy).run P w = .ok v w) :
    (do eqGuard op T ox oy vx vy; binOp op T vx vy : Sem Value).run P w = .ok v w := by
  simp [hg, h]

theorem map_some_eq {xs : List Value} {as : List TV} (h : xs.length = as.length) (h2 : ∀ i, i < as.length → TV.ofValue (xs.getD i undef) = some (as.getD i default)) : xs.map TV.ofValue = as.map some := by
  apply List.ext_getElem?
  intro i
  rcases Nat.lt_or_ge i as.length with hi | hi
  · have := h2 i hi
    rw [List.getElem?_map, List.getElem?_map, List.getElem?_eq_getElem (by omega), List.getElem?_eq_getElem hi]
    simp only [List.getD_eq_getElem?_getD, List.getElem?_eq_getElem hi, List.getElem?_eq_getElem (show i < xs.length by omega), Option.getD_some] at this
    simp [this]
  · rw [List.getElem?_map, List.getElem?_map, List.getElem?_eq_none (by omega), List.getElem?_eq_none hi]
    rfl

theorem agg_tv {as : List TV} {v : Value} (h : Rep β w A (.agg (as.map .t)) v) (hk : ∀ x ∈ as, x.kindB ≠ 0) : ∃ vs : Array Value, v = .agg vs ∧ vs.toList.map TV.ofValue = as.map some := by
  cases h with
  | agg cs vs hl h1 h =>
    refine ⟨vs, rfl, map_some_eq (by simpa using hl.symm) fun i hi => ?_⟩
    have := h i (by simpa using hi)
    simp only [List.getD_eq_getElem?_getD, List.getElem?_map, List.getElem?_eq_getElem hi, Option.map_some, Option.getD_some] at this
    have h2 := this.t_inv.ofV (hk _ (List.getElem_mem hi))
    have h3 : vs.toList.getD i undef = vs.getD i undef := by simp [Array.getD_eq_getD_getElem?, List.getD_eq_getElem?_getD]
    rw [h3]
    simpa [List.getD_eq_getElem?_getD, List.getElem?_eq_getElem hi] using h2

theorem EqOk.use (hE : EqOk P C) {T : TypeId} {cs ds : List AV} {vx vy : Value} (hx : Rep β w A (.agg cs) vx) (hy : Rep β w A (.agg ds) vy)
    (h1 : C.eqk T = some (kindsOf cs)) (h2 : C.eqk T = some (kindsOf ds)) (hk : ∀ k ∈ kindsOf cs, k ≠ 0) :
    ∃ xs ys : Array Value, vx = .agg xs ∧ vy = .agg ys ∧ P.eqGuardType P.depth T = false ∧ (Op.equal T (.agg xs) (.agg ys)).run P w = .ok (sameCells cs ds) w := by
  have h3 : kindsOf ds = kindsOf cs := by rw [h1] at h2; exact (Option.some.inj h2).symm
  obtain ⟨as, rfl, ha⟩ := kindsOf_tv cs _ rfl hk
  obtain ⟨bs, rfl, hb⟩ := kindsOf_tv ds _ h3 hk
  obtain ⟨hg, he⟩ := hE T _ h1
  have nz : ∀ (l : List TV), l.map TV.kindB = kindsOf (as.map .t) → ∀ x ∈ l, x.kindB ≠ 0 := fun l hl x hx => hk _ (hl ▸ List.mem_map.2 ⟨x, hx, rfl⟩)
  obtain ⟨xs, rfl, hxs⟩ := agg_tv hx (nz as ha)
  obtain ⟨ys, rfl, hys⟩ := agg_tv hy (nz bs hb)
  exact ⟨xs, ys, rfl, rfl, hg, he xs ys as bs w ha hb hxs hys⟩

theorem binB_sound (hT : TyOk P C.ty) (hE : EqOk P C) (hz : ∀ T ks, C.eqk T = some ks → ∀ k ∈ ks, k ≠ 0) {T : TypeId} {op : BinOp} {x y : AV} {vx vy : Value} (ox oy : Operand) (hx : Rep β w A x vx) (hy : Rep β w A y vy) (hc : (binB C T op x y).c) :
    Val P A β w (do eqGuard op T ox oy vx vy; binOp op T vx vy) (binB C T op x y) := by
  unfold binB at hc ⊢
  split at hc
  · next k a k' b =>
    obtain rfl := hx.int_inv
    obtain rfl := hy.int_inv
    have hg : (eqGuard op T ox oy (.int k a) (.int k' b)).run P w = .ok () w := eqGuard_nil (by simp) (by simp)
    have fin : ∀ (hk : k = k' ∨ op = .shl ∨ op = .shr), (orNone (intBin op k a b)).c → Val P A β w (do eqGuard op T ox oy (.int k a) (.int k' b); binOp op T (.int k a) (.int k' b)) (orNone (intBin op k a b)) := by
      intro hk hc
      obtain ⟨c, x, h1, h2, h3⟩ := orNone_c hc
      obtain ⟨v, hv, hr⟩ := intBin_sound (P := P) (w := w) (A := A) T hk h1 h2
      rw [h3]
      exact Val.mk (run_guarded hg hv) (.t _ _ hr)
    split at hc
    · exact fin (.inr (.inl rfl)) hc
    · exact fin (.inr (.inr rfl)) hc
    · next h1 h2 =>
      split at hc
      · next hk =>
        simp only [hk, if_true]
        exact hk ▸ fin (.inl hk) hc
      · exact hc.elim
  · next a b =>
    obtain rfl := hx.str_inv
    obtain rfl := hy.str_inv
    obtain ⟨c, x, h1, h2, h3⟩ := orNone_c hc
    obtain ⟨v, hv, hr⟩ := strBin_sound (P := P) (w := w) (A := A) T h1 h2
    simp only [h3]
    exact Val.mk (run_guarded (eqGuard_nil (by simp) (by simp)) hv) (.t _ _ hr)
  · next a b =>
    obtain rfl := hx.bool_inv
    obtain rfl := hy.bool_inv
    have hb : isBool (C.ty T) = true → P.underlying T = some .bool := by
      intro h
      cases hd : C.ty T with
      | none => rw [hd] at h; cases h
      | some d =>
        obtain ⟨i, u, z, _, hu, hsh, _⟩ := hT T d hd
        rw [hd] at h
        obtain ⟨sh, q1, q2, q3⟩ := d
        cases sh <;> first | (cases h; done) | skip
        rw [hu, sh_bool hsh]
    have hg : (eqGuard op T ox oy (.bool a) (.bool b)).run P w = .ok () w := eqGuard_nil (by simp) (by simp)
    split at hc
    · exact Val.mk (run_guarded hg (by simp [binOp, equal_bool T (hb hc)])) (.bool _)
    · exact Val.mk (run_guarded hg (by simp [binOp, equal_bool T (hb hc), bne])) (.bool _)
    · exact hc.elim
  · next cs ds =>
    split at hc
    · obtain ⟨xs, ys, rfl, rfl, hg, he⟩ := hE.use hx hy hc.1 hc.2 (hz T _ hc.1)
      exact Val.mk (run_guarded (eqGuard_agg hg) (by simp [binOp, he])) (.bool _)
    · obtain ⟨xs, ys, rfl, rfl, hg, he⟩ := hE.use hx hy hc.1 hc.2 (hz T _ hc.1)
      exact Val.mk (run_guarded (eqGuard_agg hg) (by simp [binOp, he])) (.bool _)
    · exact hc.elim
  · split at hc
    · next d hd =>
      obtain ⟨i, u, z, _, hu, hsh, _⟩ := hT T d hd
      split at hc
      · next a b ha hb =>
        have he := equal_nil (P := P) (w := w) hu hsh hx hy ha hb hc.2.1 hc.2.2 hc.1
        have hg : (eqGuard .eql T ox oy vx vy).run P w = .ok () w := by
          rcases isNil_rep hx ha hc.2.1 with ⟨_, h1⟩ | ⟨_, h1⟩
          · rcases h1 with ⟨e, _, rfl⟩ | ⟨e, c, _, rfl⟩ | ⟨_, rfl⟩ <;> exact eqGuard_nil (by simp) (by simp)
          · rcases h1 with ⟨e, p, _, rfl⟩ | ⟨p, q, r, _, rfl⟩ | ⟨e, p, q, r, _, rfl⟩ <;> exact eqGuard_nil (by simp) (by simp)
        refine Val.mk (run_guarded hg ?_) (.bool _)
        rcases isNil_rep hx ha hc.2.1 with ⟨_, h1⟩ | ⟨_, h1⟩ <;> rcases isNil_rep hy hb hc.2.2 with ⟨_, h2⟩ | ⟨_, h2⟩
        · rcases h1 with ⟨e, _, rfl⟩ | ⟨e, c, _, rfl⟩ | ⟨_, rfl⟩ <;> rcases h2 with ⟨e, _, rfl⟩ | ⟨e, c, _, rfl⟩ | ⟨_, rfl⟩ <;> simp [binOp, he]
        · rcases h1 with ⟨e, _, rfl⟩ | ⟨e, c, _, rfl⟩ | ⟨_, rfl⟩ <;> rcases h2 with ⟨e, p, _, rfl⟩ | ⟨p, q, r, _, rfl⟩ | ⟨e, p, q, r, _, rfl⟩ <;> simp [binOp, he]
        · rcases h1 with ⟨e, p, _, rfl⟩ | ⟨p, q, r, _, rfl⟩ | ⟨e, p, q, r, _, rfl⟩ <;> rcases h2 with ⟨e, _, rfl⟩ | ⟨e, c, _, rfl⟩ | ⟨_, rfl⟩ <;> simp [binOp, he]
        · rcases h1 with ⟨e, p, _, rfl⟩ | ⟨p, q, r, _, rfl⟩ | ⟨e, p, q, r, _, rfl⟩ <;> rcases h2 with ⟨e, p, _, rfl⟩ | ⟨p, q, r, _, rfl⟩ | ⟨e, p, q, r, _, rfl⟩ <;> simp [binOp, he]
      · next a b ha hb =>
        have he := equal_nil (P := P) (w := w) hu hsh hx hy ha hb hc.2.1 hc.2.2 hc.1
        have hg : (eqGuard .neq T ox oy vx vy).run P w = .ok () w := by
          rcases isNil_rep hx ha hc.2.1 with ⟨_, h1⟩ | ⟨_, h1⟩
          · rcases h1 with ⟨e, _, rfl⟩ | ⟨e, c, _, rfl⟩ | ⟨_, rfl⟩ <;> exact eqGuard_nil (by simp) (by simp)
          · rcases h1 with ⟨e, p, _, rfl⟩ | ⟨p, q, r, _, rfl⟩ | ⟨e, p, q, r, _, rfl⟩ <;> exact eqGuard_nil (by simp) (by simp)
        refine Val.mk (run_guarded hg ?_) (.bool _)
        rcases isNil_rep hx ha hc.2.1 with ⟨_, h1⟩ | ⟨_, h1⟩ <;> rcases isNil_rep hy hb hc.2.2 with ⟨_, h2⟩ | ⟨_, h2⟩
        · rcases h1 with ⟨e, _, rfl⟩ | ⟨e, c, _, rfl⟩ | ⟨_, rfl⟩ <;> rcases h2 with ⟨e, _, rfl⟩ | ⟨e, c, _, rfl⟩ | ⟨_, rfl⟩ <;> simp [binOp, he]
        · rcases h1 with ⟨e, _, rfl⟩ | ⟨e, c, _, rfl⟩ | ⟨_, rfl⟩ <;> rcases h2 with ⟨e, p, _, rfl⟩ | ⟨p, q, r, _, rfl⟩ | ⟨e, p, q, r, _, rfl⟩ <;> simp [binOp, he]
        · rcases h1 with ⟨e, p, _, rfl⟩ | ⟨p, q, r, _, rfl⟩ | ⟨e, p, q, r, _, rfl⟩ <;> rcases h2 with ⟨e, _, rfl⟩ | ⟨e, c, _, rfl⟩ | ⟨_, rfl⟩ <;> simp [binOp, he]
        · rcases h1 with ⟨e, p, _, rfl⟩ | ⟨p, q, r, _, rfl⟩ | ⟨e, p, q, r, _, rfl⟩ <;> rcases h2 with ⟨e, p, _, rfl⟩ | ⟨p, q, r, _, rfl⟩ | ⟨e, p, q, r, _, rfl⟩ <;> simp [binOp, he]
      · exact hc.elim
    · exact hc.elim

theorem asB_rep {c : AV} {v : Value} (h : Rep β w A c v) (hc : c.asB.1) : v = .bool c.asB.2 := by
  unfold AV.asB at hc ⊢
  split at hc
  · exact h.bool_inv
  · cases h with
    | opt b v x h h' => exact (h hc).bool_inv
  · exact hc.elim

theorem pickB_sound {c a b : AV} {vc va vb : Value} (h1 : Rep β w A c vc) (h2 : Rep β w A a va) (h3 : Rep β w A b vb) (hc : (pickB c a b).c) :
    Val P A β w (do pure (if ← asBool vc then va else vb)) (pickB c a b) := by
  obtain ⟨g1, g2, g3⟩ := hc
  have e1 := asB_rep h1 g1
  subst e1
  cases hb : c.asB.2 with
  | true =>
    refine Val.mk (v := va) (by simp [asBool]) ?_
    rw [asB_rep h2 (g2 hb)]
    simp [hb]
    exact .bool _
  | false =>
    refine Val.mk (v := vb) (by simp [asBool]) ?_
    rw [asB_rep h3 (g3 hb)]
    simp [hb]
    exact .bool _

theorem unB_sound {op : UnOp} {x : AV} {v : Value} (h : Rep β w A x v) (hc : (unB op x).c) : Val P A β w (Op.unary op v) (unB op x) := by
  unfold unB at hc ⊢
  split at hc
  · obtain rfl := h.bool_inv; exact Val.mk rfl (.bool _)
  · obtain rfl := h.int_inv; exact Val.mk rfl (.int _ _)
  · exact hc.elim

theorem extB_sound {x : AV} {i : Nat} {v : Value} (h : Rep β w A x v) (hc : (extB x i).c) : Val P A β w (Instr.extract v i) (extB x i) := by
  unfold extB at hc ⊢
  split at hc
  · next vs =>
    cases h with
    | tup cs us hl h =>
      have hi : i < us.size := hl ▸ hc
      have := h i hc
      refine Val.mk (v := us.getD i undef) ?_ this
      simp [Instr.extract, hi]
  · exact hc.elim

end
end Go.Eng

namespace Go.Eng
section
variable {P : Program} {C : Ctx} {F A : Addr → Prop} {β : Bt} {s : Store} {w : World}

theorem run_isAgg (hT : TyOk P C.ty) {T : TypeId} {d : TyD} (hd : C.ty T = some d) : (isAgg T).run P w = .ok d.agg w := by
  obtain ⟨i, u, z, hi, hu, hsh, _⟩ := hT T d hd
  unfold isAgg TyD.agg
  cases hs : d.sh <;> rw [hs] at hsh <;> cases u <;> simp [shOk] at hsh <;> simp [run_underlying hu]

theorem run_sizeOf (hT : TyOk P C.ty) {T : TypeId} {d : TyD} (hd : C.ty T = some d) : (sizeOf T).run P w = .ok d.size w := by
  obtain ⟨i, u, z, hi, hu, hsh, hs, _⟩ := hT T d hd
  simp [sizeOf, typeInfo, hi, hs]

theorem und (hT : TyOk P C.ty) {T : TypeId} {d : TyD} (hd : C.ty T = some d) : ∃ u, P.underlying T = some u ∧ shOk d.sh u := by
  obtain ⟨i, u, z, hi, hu, hsh, _⟩ := hT T d hd
  exact ⟨u, hu, hsh⟩

theorem getD_drop {α : Type} (l : List α) (k j : Nat) (x : α) : (l.drop k).getD j x = l.getD (k + j) x := by
  simp [List.getD_eq_getElem?_getD]

theorem getD_take {α : Type} (l : List α) (k j : Nat) (x : α) (h : j < k) : (l.take k).getD j x = l.getD j x := by
  simp [List.getD_eq_getElem?_getD, h]

theorem getD_map_t (l : List TV) (j : Nat) (h : j < l.length) : (l.map AV.t).getD j .unk = .t (l.getD j default) := by
  simp [List.getD_eq_getElem?_getD, List.getElem?_eq_getElem h]

/-- Cells that lie in memory, read as a value. -/
theorem loadVar_sound (hT : TyOk P C.ty) {T : TypeId} {d : TyD} (hd : C.ty T = some d) {b off : Nat} {cs : List AV}
    (hc : ∀ j, j < cs.length → ∃ v, w.cell? ⟨b, off + j, none⟩ = some v ∧ (cs.getD j .unk).one = true ∧ Rep β w A (cs.getD j .unk) v) (h : (partB d cs).c) :
    Val P A β w (loadVar T ⟨b, off, none⟩) (partB d cs) := by
  unfold partB at h ⊢
  cases ha : d.agg with
  | true =>
    simp only [ha, if_true] at h ⊢
    have h : d.size ≤ cs.length := h
    let f : Nat → Value := fun j => (w.cell? ⟨b, off + j, none⟩).getD undef
    have hf : ∀ j, j < d.size → w.cell? ((⟨b, off, none⟩ : Addr).add j) = some (f j) := by
      intro j hj
      obtain ⟨v, hv, _⟩ := hc j (by omega)
      rw [add_at]; simp [f, hv]
    have hr := run_loadCells (P := P) w ⟨b, off, none⟩ d.size f hf
    refine Val.mk (v := .agg ((List.range d.size).map f).toArray) ?_ (.agg _ _ (by simp; omega) (fun i hi => ?_) fun i hi => ?_)
    · simp [loadVar, run_isAgg hT hd, ha, run_sizeOf hT hd, hr]
    · have hi' : i < d.size := by simp at hi; omega
      obtain ⟨v, hv, h1, h2⟩ := hc i (by omega)
      rw [getD_take _ _ _ _ hi']; exact h1
    · have hi' : i < d.size := by simp at hi; omega
      obtain ⟨v, hv, h1, h2⟩ := hc i (by omega)
      rw [getD_take _ _ _ _ hi']
      simpa [hi', f, hv] using h2
  | false =>
    simp only [ha] at h ⊢
    have h : 0 < cs.length := h
    obtain ⟨v, hv, h1, h2⟩ := hc 0 h
    refine Val.mk (v := v) ?_ ?_
    · simp only [Nat.add_zero] at hv
      simp [loadVar, run_isAgg hT hd, ha, hv]
    · cases cs with
      | nil => simp at h
      | cons x r => simpa using h2

theorem part_sound (hT : TyOk P C.ty) {T : TypeId} {d : TyD} (hd : C.ty T = some d) {cs : List AV} {vs : Array Value} {off : Nat} (hl : cs.length = vs.size)
    (hc : ∀ j, j < cs.length → (cs.getD j .unk).one = true ∧ Rep β w A (cs.getD j .unk) (vs.getD j undef)) (h : (partB d (cs.drop off)).c) :
    Val P A β w (part T vs off) (partB d (cs.drop off)) := by
  unfold partB at h ⊢
  cases ha : d.agg with
  | true =>
    simp only [ha, if_true] at h ⊢
    have h : d.size ≤ (cs.drop off).length := h
    simp only [List.length_drop] at h
    refine Val.mk (v := .agg (vs.extract off (off + d.size))) (by simp [part, run_isAgg hT hd, ha, run_sizeOf hT hd]) (.agg _ _ (by simp; omega) (fun i hi => ?_) fun i hi => ?_)
    · simp at hi
      rw [getD_take _ _ _ _ (by omega), getD_drop]
      exact (hc _ (by omega)).1
    · simp at hi
      rw [getD_take _ _ _ _ (by omega), getD_drop]
      have := (hc (off + i) (by omega)).2
      have hx : off + i < vs.size := by omega
      have hy : i < min (off + d.size) vs.size - off := by omega
      simpa [Array.getD_eq_getD_getElem?, hx, hy] using this
  | false =>
    simp only [ha] at h ⊢
    have h : 0 < (cs.drop off).length := h
    simp only [List.length_drop] at h
    have hx : off < vs.size := by omega
    refine Val.mk (v := vs.getD off undef) (by simp [part, run_isAgg hT hd, ha, hx]) ?_
    have := (hc off (by omega)).2
    have e : (cs.drop off).headD .unk = cs.getD off .unk := by simp [List.headD_eq_head?_getD, List.getD_eq_getElem?_getD]
    simpa [e] using this

theorem thaw_cell {b off : Nat} {c : Array Value} {T : TypeId} {fr : Nat × Nat} (hb : w.heap[b]? = some (.cells c T fr)) (h : off < c.size) : w.cell? ⟨b, off, none⟩ = some (c.getD off undef) := by
  simp [World.cell?, hb, h]

def notNil : Value → Bool
  | .pointer none | .nilIface | .nilFunc => false
  | .func (.method _) _ _ => false
  | _ => true

theorem nilB_sound {x : AV} {v : Value} (h : Rep β w A x v) (hc : (nilB x).c) :
    (nilB x).ros = [] ∧ (nilB x).es = [] ∧ Rep β w A ((nilB x).av []) v ∧ notNil v = true := by
  unfold nilB at hc ⊢
  split at hc
  · exact ⟨rfl, rfl, h, by cases h; rfl⟩
  · exact ⟨rfl, rfl, h, by cases h; rfl⟩
  · exact ⟨rfl, rfl, h, by cases h; rfl⟩
  · exact ⟨rfl, rfl, h, by cases h; rfl⟩
  · exact hc.elim

theorem minB_sound (ts : Array TypeId) (t : TypeId) {x y : AV} {v u : Value} (h : Rep β w A x v) (h' : Rep β w A y u) (hc : (minB x y).c) : Val P A β w (Builtin.min_ ts t #[v, u]) (minB x y) := by
  unfold minB at hc ⊢
  split at hc
  · obtain rfl := h.int_inv; obtain rfl := h'.int_inv
    have hc : _ = _ := hc
    subst hc
    refine Val.mk ?_ (.int _ _)
    simp [Builtin.min_, Builtin.min2]; split <;> omega
  · exact hc.elim

theorem maxB_sound (ts : Array TypeId) (t : TypeId) {x y : AV} {v u : Value} (h : Rep β w A x v) (h' : Rep β w A y u) (hc : (maxB x y).c) : Val P A β w (Builtin.max_ ts t #[v, u]) (maxB x y) := by
  unfold maxB at hc ⊢
  split at hc
  · obtain rfl := h.int_inv; obtain rfl := h'.int_inv
    have hc : _ = _ := hc
    subst hc
    refine Val.mk ?_ (.int _ _)
    simp [Builtin.max_, Builtin.max2]; split <;> omega
  · exact hc.elim

theorem fieldB_sound (hT : TyOk P C.ty) {T : TypeId} {x : AV} {f : Nat} {v : Value} (h : Rep β w A x v) (hc : (fieldB C T x f).c) : Val P A β w (Instr.field T v f) (fieldB C T x f) := by
  unfold fieldB at hc ⊢
  split at hc
  · next d cs hd =>
    cases h with
    | agg cs vs hl h1 h =>
      obtain ⟨u, hu, hsh⟩ := und hT hd
      split at hc
      · next fs hs =>
        rw [hs] at hsh
        obtain ⟨gs, rfl, hgs⟩ := sh_struct hsh
        split at hc
        · next t o hf =>
          split at hc
          · next dt hdt =>
            have hg : ∃ g, gs[f]? = some g ∧ g.type = t ∧ g.offset = o := by
              rw [hgs, List.getElem?_map] at hf
              cases hg : gs.toList[f]? with
              | none => simp [hg] at hf
              | some g =>
                simp [hg] at hf
                exact ⟨g, by simpa using hg, hf.1, hf.2⟩
            obtain ⟨g, hg, rfl, rfl⟩ := hg
            have := part_sound (P := P) hT hdt hl (fun j hj => ⟨h1 j hj, h j hj⟩) hc
            obtain ⟨q1, q2, v, hv, hr⟩ := this
            refine ⟨q1, q2, v, ?_, hr⟩
            simp [Instr.field, run_underlying hu, hg, asAgg, hv]
          · exact hc.elim
        · exact hc.elim
      · exact hc.elim
  · exact hc.elim

theorem indexB_sound (hT : TyOk P C.ty) {T : TypeId} {x i : AV} {v vi : Value} (h : Rep β w A x v) (hi : Rep β w A i vi) (hc : (indexB C T x i).c) : Val P A β w (Instr.index T v vi) (indexB C T x i) := by
  unfold indexB at hc ⊢
  split at hc
  · next k i =>
    obtain rfl := hi.int_inv
    split at hc
    · next l =>
      obtain rfl := h.str_inv
      split at hc
      · next d hd =>
        obtain ⟨u, hu, hsh⟩ := und hT hd
        split at hc
        · next hs =>
          rw [hs] at hsh
          obtain rfl := sh_str hsh
          obtain ⟨h0, h1⟩ := hc
          refine Val.mk ?_ (.int _ _)
          have hlt : i.toNat < l.length := by omega
          have e : (ByteArray.mk l.toArray)[i.toNat]? = some (l[i.toNat]'hlt) := by
            have h2 : i.toNat < (ByteArray.mk l.toArray).size := hlt
            rw [getElem?_pos (ByteArray.mk l.toArray) i.toNat h2]
            rfl
          simp [Instr.index, asIntOf, run_underlying hu, h0, e, List.getD_eq_getElem?_getD, hlt]
        · exact hc.elim
      · exact hc.elim
    · next cs =>
      cases h with
      | agg cs vs hl h1 h =>
        split at hc
        · next d hd =>
          obtain ⟨u, hu, hsh⟩ := und hT hd
          split at hc
          · next m e hs =>
            rw [hs] at hsh
            obtain rfl := sh_arr hsh
            split at hc
            · next de hde =>
              obtain ⟨g1, g2, g3⟩ := hc
              obtain ⟨q1, q2, v, hv, hr⟩ := part_sound (P := P) (β := β) (A := A) hT hde hl (fun j hj => ⟨h1 j hj, h j hj⟩) g3
              refine Val.mk (v := v) ?_ hr
              simp [Instr.index, asIntOf, run_underlying hu, g1, g2, run_sizeOf hT hde, hv]
            · exact hc.elim
          · exact hc.elim
        · exact hc.elim
    · exact hc.elim
  · exact hc.elim

theorem loadB_sound (hT : TyOk P C.ty) (hs : StOk F β s w) {T : TypeId} {x : AV} {v : Value} (h : Rep β w (Or2 F (OwnOf β s)) x v) (hc : (loadB C s T x).c) :
    Val P (Or2 F (OwnOf β s)) β w (Instr.loadAt T v) (loadB C s T x) := by
  unfold loadB at hc ⊢
  split at hc
  · next d hd =>
    split at hc
    · next cells =>
      cases h with
      | imm cells b off c hcell ho hr =>
        obtain ⟨q1, q2, v, hv, hr⟩ := loadVar_sound (P := P) (β := β) (A := Or2 F (OwnOf β s)) (b := b) (off := off) hT hd (fun j hj => ⟨c j, hcell j (by simpa using hj), by rw [getD_map_t _ _ (by simpa using hj)]; rfl, by rw [getD_map_t _ _ (by simpa using hj)]; exact .t _ _ (hr j (by simpa using hj))⟩) hc
        exact ⟨q1, q2, v, by simp [Instr.loadAt, Instr.sureAddr, hv], hr⟩
    · next g off =>
      split at hc
      · next cs ro hg =>
        cases h with
        | ptr g off b hb =>
          obtain ⟨b', c, T', fr, h2, h3, h4, h5, h6⟩ := hs.ents _ _ hg
          rw [hb] at h2
          obtain rfl : b = b' := by simpa using h2
          obtain ⟨q1, q2, v, hv, hr⟩ := loadVar_sound (P := P) (β := β) (A := Or2 F (OwnOf β s)) (b := b) (off := off) (cs := cs.drop off) hT hd (fun j hj => by
            simp only [List.length_drop] at hj
            refine ⟨c.getD (off + j) undef, thaw_cell h3 (by omega), ?_, ?_⟩
            · rw [getD_drop]; exact (h6 _ (by omega)).1
            · rw [getD_drop]; exact (h6 _ (by omega)).2) hc
          exact ⟨q1, q2, v, by simp [Instr.loadAt, Instr.sureAddr, hv], hr⟩
      · exact hc.elim
    · next g n k off =>
      split at hc
      · next m l ro hg =>
        cases h with
        | eptr g n k off b hb =>
          obtain ⟨h1, h2⟩ := hs.ents _ _ hg
          obtain ⟨g1, g2, g3⟩ := hc
          subst g1
          rcases h2 with ⟨h2, h3⟩ | ⟨b', c, T', fr, h2, h3, h4, h5, h6⟩
          · rw [hb] at h2; cases h2
          · rw [hb] at h2
            obtain rfl : b = b' := by simpa using h2
            have hlen : (l.getD k []).length = m := h1 k g2
            obtain ⟨q1, q2, v, hv, hr⟩ := loadVar_sound (P := P) (β := β) (A := Or2 F (OwnOf β s)) (b := b) (off := k * m + off) (cs := ((l.getD k []).drop off).map .t) hT hd (fun j hj => by
              simp only [List.length_map, List.length_drop] at hj
              have hlt : off + j < m := by omega
              have hk : k * m + (off + j) < c.size := by
                have : (k + 1) * m ≤ l.length * m := Nat.mul_le_mul_right _ g2
                rw [Nat.add_mul] at this
                omega
              refine ⟨c.getD (k * m + (off + j)) undef, ?_, ?_, ?_⟩
              · rw [Nat.add_assoc]; exact thaw_cell h3 hk
              · rw [getD_map_t _ _ (by simp only [List.length_drop]; omega)]; rfl
              · rw [getD_map_t _ _ (by simp only [List.length_drop]; omega), getD_drop]; exact .t _ _ (h6 k (off + j) g2 hlt)) g3
            exact Val.mk (v := v) (by simp [Instr.loadAt, Instr.sureAddr, hv]) hr
      · exact hc.elim
    · exact hc.elim
  · exact hc.elim

end
end Go.Eng

namespace Go.Eng
section
variable {P : Program} {C : Ctx} {F A : Addr → Prop} {β : Bt} {s : Store} {w : World}

theorem size_some {e : TypeId} {n : Nat} (h : (C.ty e).map (·.size) = some n) : ∃ d, C.ty e = some d ∧ d.size = n := by
  cases hd : C.ty e with
  | none => rw [hd] at h; cases h
  | some d => rw [hd] at h; exact ⟨d, rfl, by simpa using h⟩

theorem idxB_sound (hT : TyOk P C.ty) {T : TypeId} {x i : AV} {v vi : Value} (h : Rep β w A x v) (hi : Rep β w A i vi) (hc : (idxB C T x i).c) : Val P A β w (Instr.indexAt T v vi) (idxB C T x i) := by
  unfold idxB at hc ⊢
  split at hc
  · next d k i hd =>
    obtain rfl := hi.int_inv
    obtain ⟨u, hu, hsh⟩ := und hT hd
    split at hc
    · next e n l hs =>
      rw [hs] at hsh
      obtain rfl := sh_slice hsh
      obtain ⟨hsz, h0, h1⟩ := hc
      obtain ⟨de, hde, rfl⟩ := size_some hsz
      cases h.t_inv with
      | seq n l a len cap b off c hlen hcap ha hn hcell ho hr =>
        have hlt : i.toNat < l.length := by omega
        have ha' : a = some ⟨b, off, none⟩ := ha.resolve_left (fun e => by subst e; simp at hlt)
        subst ha'
        have hl : (l.getD i.toNat []).length = de.size := hn _ hlt
        have h2 : i < (len : Int) := by omega
        refine Val.mk (v := .pointer (some ⟨b, off + i.toNat * de.size, none⟩)) ?_ (.imm _ b (off + i.toNat * de.size) (c i.toNat) (fun j hj => ?_) (fun j hj => ?_) fun j hj => ?_)
        · simp [Instr.indexAt, asIntOf, run_underlying hu, h0, h2, run_sizeOf hT hde, add_at]
        · rw [Nat.add_assoc]; exact hcell _ _ hlt (by omega)
        · rw [Nat.add_assoc]; exact ho _ _ hlt (by omega)
        · exact hr _ _ hlt (by omega)
    · next e g n off len hs =>
      rw [hs] at hsh
      obtain rfl := sh_slice hsh
      obtain ⟨hsz, h0, h1⟩ := hc
      obtain ⟨de, hde, rfl⟩ := size_some hsz
      cases h with
      | tokN g n a h => simp at h1; omega
      | tok g n off len b a cap T' sz hb hl hm hshp ha =>
        rcases ha with ⟨rfl, _⟩ | ⟨rfl, _⟩
        · refine Val.mk (v := .pointer (some ⟨b, (off + i.toNat) * de.size + 0, none⟩)) ?_ (.eptr _ _ _ _ b hb)
          simp [Instr.indexAt, asIntOf, run_underlying hu, h0, h1, run_sizeOf hT hde, add_at, Nat.add_mul]
        · omega
    · next m e g off hs =>
      rw [hs] at hsh
      obtain rfl := sh_arr hsh
      split at hc
      · next de hde =>
        obtain ⟨h0, h1⟩ := hc
        cases h with
        | ptr g off b hb =>
          refine Val.mk (v := .pointer (some ⟨b, off + i.toNat * de.size, none⟩)) ?_ (.ptr _ _ b hb)
          simp [Instr.indexAt, Instr.sureAddr, asIntOf, run_underlying hu, h0, h1, run_sizeOf hT hde, add_at]
      · exact hc.elim
    · next m e g n k off hs =>
      rw [hs] at hsh
      obtain rfl := sh_arr hsh
      split at hc
      · next de hde =>
        obtain ⟨h0, h1⟩ := hc
        cases h with
        | eptr g n k off b hb =>
          refine Val.mk (v := .pointer (some ⟨b, k * n + (off + i.toNat * de.size), none⟩)) ?_ (.eptr _ _ _ _ b hb)
          simp [Instr.indexAt, Instr.sureAddr, asIntOf, run_underlying hu, h0, h1, run_sizeOf hT hde, add_at, Nat.add_assoc]
      · exact hc.elim
    · next m e cells hs =>
      rw [hs] at hsh
      obtain rfl := sh_arr hsh
      split at hc
      · next de hde =>
        obtain ⟨h0, h1⟩ := hc
        cases h with
        | imm cells b off c hcell ho hr =>
          refine Val.mk (v := .pointer (some ⟨b, off + i.toNat * de.size, none⟩)) ?_ (.imm _ b (off + i.toNat * de.size) (fun j => c (i.toNat * de.size + j)) (fun j hj => ?_) (fun j hj => ?_) fun j hj => ?_)
          · simp [Instr.indexAt, Instr.sureAddr, asIntOf, run_underlying hu, h0, h1, run_sizeOf hT hde, add_at]
          · simp only [List.length_drop] at hj; rw [Nat.add_assoc]; exact hcell _ (by omega)
          · simp only [List.length_drop] at hj; rw [Nat.add_assoc]; exact ho _ (by omega)
          · simp only [List.length_drop] at hj; rw [getD_drop]; exact hr _ (by omega)
      · exact hc.elim
    · exact hc.elim
  · exact hc.elim

theorem fieldAddrB_sound (hT : TyOk P C.ty) {T : TypeId} {x : AV} {f : Nat} {v : Value} (h : Rep β w A x v) (hc : (fieldAddrB C T x f).c) : Val P A β w (Instr.fieldAt T v f) (fieldAddrB C T x f) := by
  unfold fieldAddrB at hc ⊢
  split at hc
  · next d hd =>
    obtain ⟨u, hu, hsh⟩ := und hT hd
    split at hc
    · next fs hs =>
      rw [hs] at hsh
      obtain ⟨gs, rfl, hgs⟩ := sh_struct hsh
      split at hc
      · next t o hf =>
        split at hc
        · next dt hdt =>
          have hg : ∃ g, gs[f]? = some g ∧ g.type = t ∧ g.offset = o := by
            rw [hgs, List.getElem?_map] at hf
            cases hg : gs.toList[f]? with
            | none => simp [hg] at hf
            | some g =>
              simp [hg] at hf
              exact ⟨g, by simpa using hg, hf.1, hf.2⟩
          obtain ⟨g', hg, rfl, rfl⟩ := hg
          split at hc
          · cases h with
            | ptr g off b hb =>
              have hc : dt.size ≠ 0 := hc
              exact Val.mk (by simp [Instr.fieldAt, Instr.sureAddr, run_underlying hu, hg, fieldPlace, run_sizeOf hT hdt, hc, add_at]) (.ptr _ _ b hb)
          · cases h with
            | eptr g n k off b hb =>
              have hc : dt.size ≠ 0 := hc
              exact Val.mk (by simp [Instr.fieldAt, Instr.sureAddr, run_underlying hu, hg, fieldPlace, run_sizeOf hT hdt, hc, add_at, Nat.add_assoc]) (.eptr _ _ _ _ b hb)
          · cases h with
            | imm cells b off c hcell ho hr =>
              have hc : dt.size ≠ 0 := hc
              refine Val.mk (v := .pointer (some ⟨b, off + g'.offset, none⟩)) ?_ (.imm _ b (off + g'.offset) (fun j => c (g'.offset + j)) (fun j hj => ?_) (fun j hj => ?_) fun j hj => ?_)
              · simp [Instr.fieldAt, Instr.sureAddr, run_underlying hu, hg, fieldPlace, run_sizeOf hT hdt, hc, add_at]
              · simp only [List.length_drop] at hj; rw [Nat.add_assoc]; exact hcell _ (by omega)
              · simp only [List.length_drop] at hj; rw [Nat.add_assoc]; exact ho _ (by omega)
              · simp only [List.length_drop] at hj; rw [getD_drop]; exact hr _ (by omega)
          · exact hc.elim
        · exact hc.elim
      · exact hc.elim
    · exact hc.elim
  · exact hc.elim

theorem lenB_sound (hT : TyOk P C.ty) {T t : TypeId} {ts : List TypeId} {x : AV} {v : Value} (h : Rep β w A x v) (hc : (lenB C T x).c) : Val P A β w (Builtin.len_ (T :: ts).toArray t #[v]) (lenB C T x) := by
  unfold lenB at hc ⊢
  split at hc
  · next d hd =>
    obtain ⟨u, hu, hsh⟩ := und hT hd
    split at hc
    · next l hs =>
      rw [hs] at hsh
      obtain rfl := sh_str hsh
      obtain rfl := h.str_inv
      exact Val.mk (by simp [Builtin.len_, run_underlying hu, goInt]; rfl) (.int _ _)
    · next e n l hs =>
      rw [hs] at hsh
      obtain rfl := sh_slice hsh
      cases h.t_inv with
      | seq n l a len cap b off c hlen hcap ha hn hcell ho hr =>
        subst hlen
        exact Val.mk (by simp [Builtin.len_, run_underlying hu, goInt]) (.int _ _)
    · next e hs =>
      rw [hs] at hsh
      obtain rfl := sh_slice hsh
      cases h.t_inv
      exact Val.mk (by simp [Builtin.len_, run_underlying hu, goInt]) (.int _ _)
    · next e hs =>
      rw [hs] at hsh
      obtain rfl := sh_slice hsh
      cases h.t_inv
      exact Val.mk (by simp [Builtin.len_, run_underlying hu, goInt]) (.int _ _)
    · next e hs =>
      rw [hs] at hsh
      obtain rfl := sh_slice hsh
      have h := h.t_inv
      cases h
      exact Val.mk (by simp [Builtin.len_, run_underlying hu, goInt]) (.int _ _)
    · next e g n off len hs =>
      rw [hs] at hsh
      obtain rfl := sh_slice hsh
      cases h <;> exact Val.mk (by simp [Builtin.len_, run_underlying hu, goInt]) (.int _ _)
    · next e g n off len hs =>
      rw [hs] at hsh
      obtain rfl := sh_slice hsh
      cases h; exact Val.mk (by simp [Builtin.len_, run_underlying hu, goInt]) (.int _ _)
    · next n e hs =>
      rw [hs] at hsh
      obtain rfl := sh_arr hsh
      exact Val.mk (by simp [Builtin.len_, run_underlying hu, goInt]) (.int _ _)
    · exact hc.elim
  · exact hc.elim

/-! ### bounds of slices -/

theorem intOr_some {o : Option AV} {vo : Option Value} {d l : Int} (h : AV.intOr o d = some l) (hr : ∀ a, o = some a → ∃ v, vo = some v ∧ Rep β w A a v) (hn : o = none → vo = none) :
    (vo = none ∧ l = d ∧ o = none) ∨ (∃ k, vo = some (.int k l) ∧ o.isSome = true) := by
  unfold AV.intOr at h
  split at h
  · exact .inl ⟨hn rfl, (Option.some.inj h).symm, rfl⟩
  · obtain ⟨v, hv, hr⟩ := hr _ rfl
    obtain rfl := hr.int_inv
    cases h
    exact .inr ⟨_, hv, rfl⟩
  · cases h

theorem run_bound {k : IntKind} {i : Int} {y : Nat} {code : BoundsCode} (h0 : 0 ≤ i) (h1 : i ≤ (y : Int)) : (Instr.sliceBound (.int k i) y code).run P w = .ok i.toNat w := by
  simp [Instr.sliceBound, asIntOf, h0, h1]

theorem run_sliceBounds {isS : Bool} {len cap : Nat} {lo hi : Option Value} {l h : Int} (hlo : (lo = none ∧ l = 0) ∨ ∃ k, lo = some (.int k l)) (hhi : (hi = none ∧ h = len) ∨ ∃ k, hi = some (.int k h))
    (h0 : 0 ≤ l) (h1 : l ≤ h) (h2 : h ≤ (cap : Int)) : (Instr.sliceBounds isS len cap lo hi none).run P w = .ok (l.toNat, h.toNat, cap) w := by
  have hle : l ≤ (h.toNat : Int) := by omega
  rcases hlo with ⟨rfl, rfl⟩ | ⟨k, rfl⟩ <;> rcases hhi with ⟨rfl, rfl⟩ | ⟨k', rfl⟩
  · simp [Instr.sliceBounds]
  · simp [Instr.sliceBounds, run_bound (P := P) (w := w) (k := k') (show 0 ≤ h by omega) h2]
  · simp [Instr.sliceBounds, run_bound (P := P) (w := w) (k := k) h0 h1]
  · simp [Instr.sliceBounds, run_bound (P := P) (w := w) (k := k') (show 0 ≤ h by omega) h2, run_bound (P := P) (w := w) (k := k) h0 hle]

theorem run_sliceBounds3 {isS : Bool} {len cap : Nat} {lo hi : Option Value} {l h m : Int} {k' km : IntKind} (hlo : (lo = none ∧ l = 0) ∨ ∃ k, lo = some (.int k l)) (hhi : hi = some (.int k' h))
    (h0 : 0 ≤ l) (h1 : l ≤ h) (h2 : h ≤ m) (h3 : m ≤ (cap : Int)) : (Instr.sliceBounds isS len cap lo hi (some (.int km m))).run P w = .ok (l.toNat, h.toNat, m.toNat) w := by
  have hle : l ≤ (h.toNat : Int) := by omega
  have hlm : h ≤ (m.toNat : Int) := by omega
  rcases hlo with ⟨rfl, rfl⟩ | ⟨k, rfl⟩
  · simp [Instr.sliceBounds, hhi, run_bound (P := P) (w := w) (k := km) (show 0 ≤ m by omega) h3, run_bound (P := P) (w := w) (k := k') (show 0 ≤ h by omega) hlm]
  · simp [Instr.sliceBounds, hhi, run_bound (P := P) (w := w) (k := km) (show 0 ≤ m by omega) h3, run_bound (P := P) (w := w) (k := k') (show 0 ≤ h by omega) hlm, run_bound (P := P) (w := w) (k := k) h0 hle]

end
end Go.Eng

namespace Go.Eng
section
variable {P : Program} {C : Ctx} {F A : Addr → Prop} {β : Bt} {s : Store} {w : World}

theorem lo0 {o : Option AV} {vo : Option Value} {l : Int} (h : (vo = none ∧ l = 0 ∧ o = none) ∨ (∃ k, vo = some (.int k l) ∧ o.isSome = true)) : (vo = none ∧ l = 0) ∨ ∃ k, vo = some (.int k l) := by
  rcases h with ⟨h1, h2, _⟩ | ⟨k, h1, _⟩
  · exact .inl ⟨h1, h2⟩
  · exact .inr ⟨k, h1⟩

theorem hi0 {o : Option AV} {vo : Option Value} {l d : Int} (h : (vo = none ∧ l = d ∧ o = none) ∨ (∃ k, vo = some (.int k l) ∧ o.isSome = true)) : (vo = none ∧ l = d) ∨ ∃ k, vo = some (.int k l) := by
  rcases h with ⟨h1, h2, _⟩ | ⟨k, h1, _⟩
  · exact .inl ⟨h1, h2⟩
  · exact .inr ⟨k, h1⟩

theorem sliceAt_slice {T e : TypeId} {a : Option Addr} {len cap : Nat} {lo hi mx : Option Value} {l h m n : Nat} (hu : P.underlying T = some (.slice e))
    (hb : (Instr.sliceBounds true len cap lo hi mx).run P w = .ok (l, h, m) w) (hs : (sizeOf e).run P w = .ok n w) :
    (Instr.sliceAt T (.slice a len cap) lo hi mx).run P w = .ok (.slice (if m = l then a else a.map (·.add (l * n))) (h - l) (m - l)) w := by
  simp [Instr.sliceAt, Instr.slice, run_underlying hu, hb, hs]

theorem RepT.cut {n l h len cap m : Nat} {c : List (List TV)} {a : Option Addr} (hr : RepT w A (.seq n c) (.slice a len cap)) (h1 : l ≤ h) (h2 : h ≤ c.length) (h3 : h ≤ m) :
    RepT w A (.seq n ((c.take h).drop l)) (.slice (if m = l then a else a.map (·.add (l * n))) (h - l) (m - l)) := by
  cases hr with
  | seq n c a len cap b off f hlen hcap ha hn hcell ho hr =>
    have hl : ((c.take h).drop l).length = h - l := by simp; omega
    have hg : ∀ i, i < h - l → ((c.take h).drop l).getD i [] = c.getD (l + i) [] := fun i hi => by rw [getD_drop, getD_take _ _ _ _ (by omega)]
    have e : ∀ i j, off + l * n + (i * n + j) = off + ((l + i) * n + j) := fun i j => by rw [Nat.add_mul]; omega
    refine .seq n _ _ _ _ b (off + l * n) (fun i j => f (l + i) j) hl.symm (by omega) ?_ (fun i hi => ?_) (fun i j hi hj => ?_) (fun i j hi hj => ?_) fun i j hi hj => ?_
    · by_cases hml : m = l
      · exact .inl (List.eq_nil_of_length_eq_zero (by omega))
      · rcases ha with rfl | rfl
        · exact .inl (by simp)
        · right; simp [hml, add_at]
    · rw [hl] at hi; rw [hg i hi]; exact hn _ (by omega)
    · rw [hl] at hi; rw [e]; exact hcell _ _ (by omega) hj
    · rw [hl] at hi; rw [e]; exact ho _ _ (by omega) hj
    · rw [hl] at hi; rw [hg i hi]; exact hr _ _ (by omega) hj

theorem sliceB_sound (hT : TyOk P C.ty) {T : TypeId} {x : AV} {v : Value} {lo hi mx : Option AV} {vlo vhi vmx : Option Value} (h : Rep β w A x v)
    (hlo : ∀ a, lo = some a → ∃ v, vlo = some v ∧ Rep β w A a v) (hlo' : lo = none → vlo = none)
    (hhi : ∀ a, hi = some a → ∃ v, vhi = some v ∧ Rep β w A a v) (hhi' : hi = none → vhi = none)
    (hmx : ∀ a, mx = some a → ∃ v, vmx = some v ∧ Rep β w A a v) (hmx' : mx = none → vmx = none)
    (hc : (sliceB C T x lo hi mx).c) : Val P A β w (Instr.sliceAt T v vlo vhi vmx) (sliceB C T x lo hi mx) := by
  unfold sliceB at hc ⊢
  split at hc
  · next d hd =>
    obtain ⟨u, hu, hsh⟩ := und hT hd
    split at hc
    · next l hs =>
      rw [hs] at hsh
      obtain rfl := sh_str hsh
      obtain rfl := h.str_inv
      split at hc
      · next lv hv hl hh =>
        obtain ⟨h0, h1, h2⟩ := hc
        have r := run_sliceBounds (P := P) (w := w) (isS := false) (len := l.length) (cap := l.length) (lo0 (intOr_some hl hlo hlo')) (hi0 (intOr_some hh hhi hhi')) h0 h1 h2
        rw [hmx' rfl]
        refine Val.mk ?_ (.str _)
        have e : (⟨l.toArray⟩ : ByteArray).extract lv.toNat hv.toNat = ⟨((l.take hv.toNat).drop lv.toNat).toArray⟩ := by
          apply ByteArray.ext
          simp [ByteArray.data_extract, List.extract_toArray, List.extract_eq_take_drop, List.drop_take]
        have hsz : (⟨l.toArray⟩ : ByteArray).size = l.length := rfl
        simp [Instr.sliceAt, Instr.slice, run_underlying hu, hsz, r, e]
      · exact hc.elim
    · next e n c hs =>
      rw [hs] at hsh
      obtain rfl := sh_slice hsh
      have hseq := h.t_inv
      cases hseq with
      | seq n c a len cap b off f hlen hcap ha hn hcell ho hr =>
        subst hlen
        split at hc
        · next lv hv hl hh =>
          obtain ⟨hsz, h0, h1, h2⟩ := hc
          obtain ⟨de, hde, rfl⟩ := size_some hsz
          have r := run_sliceBounds (P := P) (w := w) (isS := true) (len := c.length) (cap := cap) (lo0 (intOr_some hl hlo hlo')) (hi0 (intOr_some hh hhi hhi')) h0 h1 (by omega)
          rw [hmx' rfl]
          refine Val.mk (sliceAt_slice hu r (run_sizeOf hT hde)) (.t _ _ (h.t_inv.cut (by omega) (by omega) (by omega)))
        · next lv hv k m hl hh =>
          obtain ⟨hsz, h0, h1, h2, h3, h4⟩ := hc
          obtain ⟨de, hde, rfl⟩ := size_some hsz
          obtain ⟨vm, rfl, hm⟩ := hmx _ rfl
          obtain rfl := hm.int_inv
          rcases intOr_some hh hhi hhi' with ⟨hn1, hn2, hn3⟩ | ⟨k', hk', _⟩
          · rw [hn3] at h4; cases h4
          · have r := run_sliceBounds3 (P := P) (w := w) (isS := true) (len := c.length) (cap := cap) (km := k) (lo0 (intOr_some hl hlo hlo')) hk' h0 h1 h2 (by omega)
            refine Val.mk (sliceAt_slice hu r (run_sizeOf hT hde)) ?_
            split
            · next hm0 =>
              subst hm0
              obtain rfl : hv = 0 := by omega
              obtain rfl : lv = 0 := by omega
              exact .t _ _ (.emp _)
            · exact .t _ _ (h.t_inv.cut (by omega) (by omega) (by omega))
        · exact hc.elim
    · next e hs =>
      rw [hs] at hsh
      obtain rfl := sh_slice hsh
      cases h.t_inv
      split at hc
      · next lv hv m hl hh hm =>
        obtain ⟨hsz, rfl, rfl, rfl, hb⟩ := hc
        obtain ⟨de, hde⟩ := Option.isSome_iff_exists.1 hsz
        have key : (Instr.sliceBounds true 0 0 vlo vhi vmx).run P w = .ok (0, 0, 0) w := by
          rcases intOr_some hm hmx hmx' with ⟨rfl, _, _⟩ | ⟨k, rfl, hms⟩
          · exact run_sliceBounds (P := P) (w := w) (isS := true) (len := 0) (cap := 0) (lo0 (intOr_some hl hlo hlo')) (hi0 (intOr_some hh hhi hhi')) (by omega) (by omega) (by omega)
          · rcases intOr_some hh hhi hhi' with ⟨_, _, hn⟩ | ⟨k', hk', _⟩
            · have := hb hms; rw [hn] at this; cases this
            · exact run_sliceBounds3 (P := P) (w := w) (isS := true) (len := 0) (cap := 0) (km := k) (lo0 (intOr_some hl hlo hlo')) hk' (by omega) (by omega) (by omega) (by omega)
        refine Val.mk (sliceAt_slice hu key (run_sizeOf hT hde)) (.t _ _ ?_)
        simp
        exact .emp _
      · exact hc.elim
    · next e hs =>
      rw [hs] at hsh
      obtain rfl := sh_slice hsh
      cases h.t_inv
      split at hc
      · next lv hv m hl hh hm =>
        obtain ⟨hsz, rfl, rfl, rfl, hb⟩ := hc
        obtain ⟨de, hde⟩ := Option.isSome_iff_exists.1 hsz
        have key : (Instr.sliceBounds true 0 0 vlo vhi vmx).run P w = .ok (0, 0, 0) w := by
          rcases intOr_some hm hmx hmx' with ⟨rfl, _, _⟩ | ⟨k, rfl, hms⟩
          · exact run_sliceBounds (P := P) (w := w) (isS := true) (len := 0) (cap := 0) (lo0 (intOr_some hl hlo hlo')) (hi0 (intOr_some hh hhi hhi')) (by omega) (by omega) (by omega)
          · rcases intOr_some hh hhi hhi' with ⟨_, _, hn⟩ | ⟨k', hk', _⟩
            · have := hb hms; rw [hn] at this; cases this
            · exact run_sliceBounds3 (P := P) (w := w) (isS := true) (len := 0) (cap := 0) (km := k) (lo0 (intOr_some hl hlo hlo')) hk' (by omega) (by omega) (by omega) (by omega)
        refine Val.mk (sliceAt_slice hu key (run_sizeOf hT hde)) (.t _ _ ?_)
        simp
        exact .emp _
      · exact hc.elim
    · next e g n off len hs =>
      rw [hs] at hsh
      obtain rfl := sh_slice hsh
      split at hc
      · next lv hv hl hh =>
        obtain ⟨hsz, h0, h1, h2⟩ := hc
        obtain ⟨de, hde, rfl⟩ := size_some hsz
        rw [hmx' rfl]
        cases h with
        | tokN g n a hb =>
          obtain rfl : hv = 0 := by simp at h2; omega
          obtain rfl : lv = 0 := by omega
          have r := run_sliceBounds (P := P) (w := w) (isS := true) (len := 0) (cap := 0) (lo0 (intOr_some hl hlo hlo')) (hi0 (intOr_some hh hhi hhi')) h0 h1 h2
          refine Val.mk (sliceAt_slice hu r (run_sizeOf hT hde)) ?_
          simp
          exact .tokN _ _ _ hb
        | tok g n off len b a cap T' sz hb hlc hm hshp ha =>
          have r := run_sliceBounds (P := P) (w := w) (isS := true) (len := len) (cap := cap) (lo0 (intOr_some hl hlo hlo')) (hi0 (intOr_some hh hhi hhi')) h0 h1 (by omega)
          refine Val.mk (sliceAt_slice hu r (run_sizeOf hT hde)) (.tok _ _ _ _ b _ _ T' sz hb (by omega) (by omega) hshp ?_)
          by_cases hcl : cap = lv.toNat
          · subst hcl
            rcases ha with ⟨rfl, hsz⟩ | ⟨h3, h4⟩
            · by_cases hz : off + lv.toNat = 0
              · have e1 : off = 0 := by omega
                have e2 : lv.toNat = 0 := by omega
                left; simp [e1, e2] at hsz ⊢; exact hsz
              · right; exact ⟨by omega, hz⟩
            · right; exact ⟨by omega, by omega⟩
          · rcases ha with ⟨rfl, hsz⟩ | ⟨h3, h4⟩
            · left
              refine ⟨by simp [hcl, add_at, Nat.add_mul], ?_⟩
              rw [hsz]; congr 1; omega
            · omega
      · exact hc.elim
    · next m e g off hs =>
      rw [hs] at hsh
      obtain rfl := sh_arr hsh
      split at hc
      · next de lv hv hde hl hh =>
        obtain ⟨h0, h1, h2⟩ := hc
        rw [hmx' rfl]
        cases h with
        | ptr g off b hb =>
          have r := run_sliceBounds (P := P) (w := w) (isS := false) (len := m) (cap := m) (lo0 (intOr_some hl hlo hlo')) (hi0 (intOr_some hh hhi hhi')) h0 h1 h2
          refine Val.mk (v := .slice (some (if m = lv.toNat then ⟨b, off, none⟩ else (⟨b, off, none⟩ : Addr).add (lv.toNat * de.size))) (hv.toNat - lv.toNat) (m - lv.toNat)) ?_ (.btok _ _ _ _ b _ _ hb (by omega) ?_)
          · simp [Instr.sliceAt, Instr.sureAddr, run_underlying hu, r, run_sizeOf hT hde]
          · by_cases hml : m = lv.toNat
            · left; omega
            · right; simp [hml, add_at]
      · exact hc.elim
    · exact hc.elim
  · exact hc.elim

end
end Go.Eng

namespace Go.Eng
section
variable {P : Program} {C : Ctx} {F A : Addr → Prop} {β : Bt} {s : Store} {w : World}

theorem foldl_push (ns : List Int) : ∀ (r : ByteArray), ns.foldl (fun r n => r.push (UInt8.ofNat n.toNat)) r = ⟨r.data ++ (ns.map fun n => UInt8.ofNat n.toNat).toArray⟩ := by
  induction ns with
  | nil => intro r; simp
  | cons n ns ih => intro r; simp only [List.foldl_cons]; rw [ih]; apply ByteArray.ext; simp [ByteArray.push]

theorem u8s_some : ∀ (l : List (List TV)) (u : List UInt8), u8s? l = some u → ∃ ns : List Int, l = ns.map (fun n => [TV.int .u8 n]) ∧ u = ns.map fun n => UInt8.ofNat n.toNat
  | [], u, h => by simp [u8s?] at h; exact ⟨[], rfl, h⟩
  | x :: r, u, h => by
    unfold u8s? at h
    split at h
    · next hx => cases hx
    · next n r' hx =>
      cases hx
      cases hr : u8s? r with
      | none => rw [hr] at h; cases h
      | some u' =>
        rw [hr] at h
        obtain ⟨ns, h1, h2⟩ := u8s_some r u' hr
        refine ⟨n :: ns, by simp [h1], ?_⟩
        simp at h
        rw [← h, h2]; simp
    · cases h

theorem bytes_sound {T e T' : TypeId} (hu : P.underlying T = some (.slice e)) (he : P.underlying e = some (.int .u8)) (hd : P.underlying T' = some .string) {a : Option Addr} {len cap : Nat} {u : List UInt8}
    {l : List (List TV)} (hl : u8s? l = some u) (hlen : l.length = len) (hc : l = [] ∨ ∃ b off, a = some ⟨b, off, none⟩ ∧ ∀ i, i < l.length → ∃ v, w.cell? ⟨b, off + i, none⟩ = some v ∧ RepT w A ((l.getD i []).getD 0 default) v) :
    (convert T T' (.slice a len cap)).run P w = .ok (.string ⟨u.toArray⟩) w := by
  rw [run_convert_bytes_string w T T' e a len cap hu he hd]
  obtain ⟨ns, rfl, rfl⟩ := u8s_some l u hl
  simp only [List.length_map] at hlen
  subst hlen
  by_cases hn : ns = []
  · subst hn
    cases a with
    | none => simp [Conv.bytesToString]; rfl
    | some a => simp [Conv.bytesToString, loadCells, loadCellsFrom]; rfl
  · obtain ⟨b, off, rfl, hcc⟩ := hc.resolve_left (by simpa using hn)
    have hl2 := run_loadCells_list (P := P) w ⟨b, off, none⟩ (ns.map (Value.int .u8)) fun j v hj => by
      have hj' : j < ns.length := by
        have := (List.getElem?_eq_some_iff.1 hj).1
        simpa using this
      obtain ⟨v', hv, hr⟩ := hcc j (by simpa using hj')
      simp [List.getD_eq_getElem?_getD, List.getElem?_eq_getElem hj'] at hr
      obtain rfl := hr.int_inv
      rw [add_at, hv]
      simp [List.getElem?_eq_getElem hj'] at hj
      rw [← hj]
    simp only [List.length_map] at hl2
    rw [run_bytesToString w _ _ cap _ hl2, foldl_push]
    have he0 : ByteArray.empty.data = #[] := rfl
    rw [he0]
    simp

end
end Go.Eng

namespace Go.Eng
section
variable {P : Program} {C : Ctx} {F A : Addr → Prop} {β : Bt} {s : Store} {w : World}

theorem setAll_list : ∀ (l : List Value) (k off : Nat) (cs : Array Value), off + k + l.length ≤ cs.size →
    ((l.zipIdx k).foldl (fun cs (p : Value × Nat) => cs.setIfInBounds (off + p.2) p.1) cs).size = cs.size ∧
    ∀ q, ((l.zipIdx k).foldl (fun cs (p : Value × Nat) => cs.setIfInBounds (off + p.2) p.1) cs)[q]? = if off + k ≤ q ∧ q < off + k + l.length then l[q - (off + k)]? else cs[q]?
  | [], k, off, cs, _ => by
    refine ⟨rfl, fun q => ?_⟩
    rw [if_neg (by simp only [List.length_nil]; omega)]
    rfl
  | x :: l, k, off, cs, h => by
    simp only [List.length_cons] at h
    obtain ⟨h1, h2⟩ := setAll_list l (k + 1) off (cs.setIfInBounds (off + k) x) (by simp; omega)
    simp only [List.zipIdx_cons, List.foldl_cons]
    refine ⟨by rw [h1]; simp, fun q => ?_⟩
    rw [h2]
    simp only [List.length_cons]
    by_cases hq : q = off + k
    · subst hq
      have a1 : ¬ (off + (k + 1) ≤ off + k ∧ off + k < off + (k + 1) + l.length) := by omega
      have a2 : off + k ≤ off + k ∧ off + k < off + k + (l.length + 1) := by omega
      have a3 : off + k < cs.size := by omega
      rw [if_neg a1, if_pos a2]
      simp [a3]
    · have hne : ¬ off + k = q := fun e => hq e.symm
      by_cases hr : off + (k + 1) ≤ q ∧ q < off + (k + 1) + l.length
      · have a2 : off + k ≤ q ∧ q < off + k + (l.length + 1) := by omega
        rw [if_pos hr, if_pos a2, show q - (off + k) = (q - (off + (k + 1))) + 1 from by omega]
        simp
      · have a2 : ¬ (off + k ≤ q ∧ q < off + k + (l.length + 1)) := by omega
        rw [if_neg hr, if_neg a2]
        simp [hne]

theorem setAll_array (xs : Array Value) (off : Nat) (cs : Array Value) (h : off + xs.size ≤ cs.size) :
    (xs.zipIdx.foldl (fun cs (p : Value × Nat) => cs.setIfInBounds (off + p.2) p.1) cs).size = cs.size ∧
    ∀ q, (xs.zipIdx.foldl (fun cs (p : Value × Nat) => cs.setIfInBounds (off + p.2) p.1) cs)[q]? = if off ≤ q ∧ q < off + xs.size then xs[q - off]? else cs[q]? := by
  obtain ⟨l⟩ := xs
  have := setAll_list l 0 off cs (by simpa using h)
  simp only [Nat.add_zero] at this
  simpa using this

theorem fill_step (place : Nat → Option (Nat × Nat)) (cs : Array Value) (i off size : Nat) (v : Value) (r : List (Nat × Value)) (hp : place i = some (off, size)) (hv : v.cells.size = size) (hs : off + size ≤ cs.size) :
    ∃ cs', Instr.fill place cs ((i, v) :: r) = Instr.fill place cs' r ∧ cs'.size = cs.size ∧ ∀ q, cs'[q]? = if off ≤ q ∧ q < off + size then v.cells[q - off]? else cs[q]? := by
  obtain ⟨h1, h2⟩ := setAll_array v.cells off cs (by omega)
  refine ⟨v.cells.zipIdx.foldl (fun cs (p : Value × Nat) => cs.setIfInBounds (off + p.2) p.1) cs, ?_, h1, fun q => by rw [h2, hv]⟩
  conv => lhs; unfold Instr.fill
  have hno : ¬ (off + v.cells.size > cs.size) := by omega
  simp [hp, hv]
  intro h
  omega

theorem splice_get (cs : List AV) (off : Nat) (vs : List AV) (h : off + vs.length ≤ cs.length) :
    (splice cs off vs).length = cs.length ∧ ∀ q, (splice cs off vs)[q]? = if off ≤ q ∧ q < off + vs.length then vs[q - off]? else cs[q]? := by
  unfold splice
  refine ⟨by simp; omega, fun q => ?_⟩
  rw [List.append_assoc]
  by_cases h1 : q < off
  · rw [List.getElem?_append_left (by simp; omega)]
    have : ¬ (off ≤ q ∧ q < off + vs.length) := by omega
    rw [if_neg this]
    simp [h1]
  · rw [List.getElem?_append_right (by simp; omega)]
    simp only [List.length_take]
    rw [Nat.min_eq_left (by omega)]
    by_cases h2 : q < off + vs.length
    · rw [List.getElem?_append_left (by omega), if_pos ⟨by omega, h2⟩]
    · rw [List.getElem?_append_right (by omega), if_neg (by omega)]
      simp
      congr 1
      omega

/-- Cells that stand for cells. -/
def RepL (β : Bt) (w : World) (A : Addr → Prop) (cs : List AV) (vs : Array Value) : Prop :=
  cs.length = vs.size ∧ ∀ i, i < cs.length → (cs.getD i .unk).one = true ∧ Rep β w A (cs.getD i .unk) (vs.getD i undef)

theorem Rep.cellsL {x : AV} {v : Value} (h : Rep β w A x v) (h1 : x.cells.all AV.one = true) : RepL β w A x.cells v.cells :=
  let ⟨h2, h3⟩ := h.cells h1
  ⟨h2.symm, h3⟩

theorem RepL.splice {cs ds : List AV} {vs us vs' : Array Value} {off : Nat} (h : RepL β w A cs vs) (k : RepL β w A ds us) (ho : off + ds.length ≤ cs.length) (hs : vs'.size = vs.size)
    (hq : ∀ q, vs'[q]? = if off ≤ q ∧ q < off + ds.length then us[q - off]? else vs[q]?) : RepL β w A (splice cs off ds) vs' := by
  obtain ⟨g1, g2⟩ := splice_get cs off ds ho
  refine ⟨by rw [g1, hs]; exact h.1, fun i hi => ?_⟩
  rw [g1] at hi
  simp only [List.getD_eq_getElem?_getD, Array.getD_eq_getD_getElem?, g2, hq]
  by_cases hc : off ≤ i ∧ i < off + ds.length
  · rw [if_pos hc, if_pos hc]
    have := k.2 (i - off) (by omega)
    simpa [List.getD_eq_getElem?_getD, Array.getD_eq_getD_getElem?] using this
  · rw [if_neg hc, if_neg hc]
    have := h.2 i hi
    simpa [List.getD_eq_getElem?_getD, Array.getD_eq_getD_getElem?] using this

theorem fill_sound (place : Nat → Option (Nat × Nat)) (ev : Operand → AV) (ρ : Operand → Value) : ∀ (ps : List (Nat × Operand)) (cs cs' : List AV) (vs : Array Value), (∀ p ∈ ps, Rep β w A (ev p.2) (ρ p.2)) → RepL β w A cs vs →
    fillB place cs (ps.map fun p => (p.1, ev p.2)) = some cs' → ∃ vs', Instr.fill place vs (ps.map fun p => (p.1, ρ p.2)) = some vs' ∧ RepL β w A cs' vs'
  | [], cs, cs', vs, _, hl, h => by
    simp only [List.map_nil, fillB, Option.some.injEq] at h
    subst h
    exact ⟨vs, by simp [Instr.fill], hl⟩
  | (i, x) :: ps, cs, cs', vs, hr, hl, h => by
    simp only [List.map_cons, fillB] at h
    split at h
    · next off size hp =>
      split at h
      · next hc =>
        obtain ⟨h1, h2, h3⟩ := hc
        have hx := (hr (i, x) (by simp)).cellsL h3
        obtain ⟨us, e1, e2, e3⟩ := fill_step place vs i off size (ρ x) (ps.map fun p => (p.1, ρ p.2)) hp (by rw [← hx.1]; exact h1) (by rw [← hl.1]; exact h2)
        have hn := hl.splice hx (by rw [h1]; exact h2) e2 (by rw [h1]; exact e3)
        obtain ⟨vs', f1, f2⟩ := fill_sound place ev ρ ps _ cs' us (fun p hp => hr p (by simp [hp])) hn h
        exact ⟨vs', by rw [List.map_cons, e1]; exact f1, f2⟩
      · cases h
    · cases h

theorem zero_rep {d : TyD} {z : Value} (h : zeroOk d z) : RepL β w A (d.zero.map .t) z.cells := by
  obtain ⟨h1, h2, _⟩ := h
  have hl : z.cells.size = d.zero.length := by
    have := congrArg List.length h1
    simpa using this
  refine ⟨by simp [hl], fun i hi => ?_⟩
  have hi' : i < d.zero.length := by simpa using hi
  rw [getD_map_t _ _ hi']
  refine ⟨rfl, .t _ _ (.ofValue ?_)⟩
  have := congrArg (fun l => l[i]?) h1
  simp [hl, hi'] at this
  simp [hl, hi', List.getD_eq_getElem?_getD, this]

theorem mapM_total {α γ : Type} (f : α → Option γ) (g : α → γ) : ∀ (l : List α), (∀ x ∈ l, f x = some (g x)) → l.mapM f = some (l.map g)
  | [], _ => by simp
  | x :: l, h => by
    rw [List.mapM_cons, h x (by simp), mapM_total f g l fun y hy => h y (by simp [hy])]
    simp

theorem buildB_sound (hT : TyOk P C.ty) {T : TypeId} {ps : Array (Nat × Operand)} {ev : Operand → AV} {ρ : Operand → Value} (hr : ∀ p ∈ ps, Rep β w A (ev p.2) (ρ p.2))
    (hc : (buildB C T (ps.toList.map fun p => (p.1, ev p.2))).c) : Val P A β w (Instr.build T (ps.map fun (i, x) => (i, ρ x))) (buildB C T (ps.toList.map fun p => (p.1, ev p.2))) := by
  have hr' : ∀ p ∈ ps.toList, Rep β w A (ev p.2) (ρ p.2) := fun p hp => hr p (by simpa using hp)
  have hmap : (ps.map fun (i, x) => (i, ρ x)).toList = ps.toList.map fun p => (p.1, ρ p.2) := by simp
  unfold buildB at hc ⊢
  split at hc
  · next d hd =>
    obtain ⟨i, u, z, hi, hu, hsh, _, _, hz, hzero⟩ := hT T d hd
    split at hc
    · next fs hs =>
      rw [hs] at hsh
      obtain ⟨gs, rfl, hgs⟩ := sh_struct hsh
      split at hc
      · next cs hf =>
        obtain ⟨vs', f1, f2⟩ := fill_sound _ ev ρ ps.toList _ cs _ hr' (zero_rep hzero) hf
        refine Val.mk (v := .agg vs') (run_build w T _ vs' ?_) (.agg _ _ f2.1 (fun i hi => (f2.2 i hi).1) fun i hi => (f2.2 i hi).2)
        have hc : (fs.all fun p => (C.ty p.1).isSome) = true := hc
        have hm : gs.toList.mapM (fun f => (P.info? f.type).map fun i => (f.offset, i.size)) = some (gs.toList.map fun f => (f.offset, ((C.ty f.type).map (·.size)).getD 0)) := by
          refine mapM_total _ _ _ fun f hf => ?_
          have h1 : (C.ty f.type).isSome = true := List.all_eq_true.1 hc (f.type, f.offset) (by rw [hgs]; exact List.mem_map.2 ⟨f, hf, rfl⟩)
          obtain ⟨df, hdf⟩ := Option.isSome_iff_exists.1 h1
          obtain ⟨i', _, _, hi', _, _, hsz, _⟩ := hT _ df hdf
          simp [hdf, hi', hsz]
        rw [hmap]
        simp only [Program.built, hi, hu, hz, hm]
        rw [← f1]
        congr 1
        funext k
        rw [hgs]
        simp only [List.getElem?_toArray, List.getElem?_map]
        cases hk : gs.toList[k]? with
        | none => simp
        | some f =>
          have h1 : (C.ty f.type).isSome = true := List.all_eq_true.1 hc (f.type, f.offset) (by rw [hgs]; exact List.mem_map.2 ⟨f, List.mem_of_getElem? hk, rfl⟩)
          obtain ⟨df, hdf⟩ := Option.isSome_iff_exists.1 h1
          simp [hdf]
      · exact hc.elim
    · next n e hs =>
      rw [hs] at hsh
      obtain rfl := sh_arr hsh
      split at hc
      · next de hde =>
        split at hc
        · next cs hf =>
          obtain ⟨vs', f1, f2⟩ := fill_sound _ ev ρ ps.toList _ cs _ hr' (zero_rep hzero) hf
          refine Val.mk (v := .agg vs') (run_build w T _ vs' ?_) (.agg _ _ f2.1 (fun i hi => (f2.2 i hi).1) fun i hi => (f2.2 i hi).2)
          obtain ⟨i', _, _, hi', _, _, hsz, _⟩ := hT _ de hde
          rw [hmap]
          simp only [Program.built, hi, hu, hz, hi', hsz]
          exact f1
        · exact hc.elim
      · exact hc.elim
    · exact hc.elim
  · exact hc.elim

end
end Go.Eng

namespace Go.Eng
section
variable {P : Program} {C : Ctx} {F A : Addr → Prop} {β : Bt} {s : Store} {w : World}

theorem mark_mark (e : Entry) : e.mark.mark = e.mark := by cases e <;> rfl

theorem Store.mark_f (s : Store) (g k : Nat) : (s.mark g).f k = if k = g then (s.f k).map Entry.mark else s.f k := by
  unfold Store.mark
  by_cases h : k = g
  · subst h; rw [Store.set_same, if_pos rfl]
  · rw [Store.set_other _ _ h, if_neg h]

theorem Store.marks_f : ∀ (gs : List Nat) (s : Store) (k : Nat), (s.marks gs).f k = if k ∈ gs then (s.f k).map Entry.mark else s.f k
  | [], s, k => by simp [Store.marks]
  | g :: gs, s, k => by
    rw [Store.marks, Store.marks_f gs, Store.mark_f]
    by_cases h2 : k = g
    · subst h2
      cases hk : s.f k with
      | none => simp
      | some e => by_cases h1 : k ∈ gs <;> simp [h1, mark_mark]
    · by_cases h1 : k ∈ gs <;> simp [h1, h2]

theorem Store.marks_none {gs : List Nat} {k : Nat} : (s.marks gs).f k ≠ none → s.f k ≠ none := by
  rw [Store.marks_f]
  intro h h0
  rw [h0] at h
  split at h <;> exact h rfl

theorem chunks_length (n : Nat) : ∀ (k : Nat) (l : List TV), (chunks n k l).length = k
  | 0, _ => rfl
  | k + 1, l => by simp [chunks, chunks_length n k]

theorem chunks_get (n : Nat) : ∀ (k : Nat) (l : List TV) (i : Nat), i < k → (chunks n k l).getD i [] = (l.drop (i * n)).take n
  | 0, _, _, h => by omega
  | k + 1, l, 0, _ => by simp [chunks]
  | k + 1, l, i + 1, h => by
    have := chunks_get n k (l.drop n) i (by omega)
    simp only [chunks, List.getD_cons_succ]
    rw [this, List.drop_drop]
    congr 2
    rw [Nat.add_mul]; omega

theorem tvs_some : ∀ (cs : List AV) (xs : List TV), tvs? cs = some xs → cs = xs.map .t
  | [], xs, h => by simp [tvs?] at h; simp [h]
  | .t x :: r, xs, h => by
    simp only [tvs?] at h
    cases hr : tvs? r with
    | none => rw [hr] at h; cases h
    | some ys => rw [hr] at h; simp at h; subst h; simp [tvs_some r ys hr]
  | .tok .. :: _, _, h | .btok .. :: _, _, h | .ptr .. :: _, _, h | .eptr .. :: _, _, h | .imm _ :: _, _, h | .fn .. :: _, _, h | .agg _ :: _, _, h | .tup _ :: _, _, h | .opt .. :: _, _, h | .unk :: _, _, h => by simp [tvs?] at h

/-- What a token shows is not owned once it is marked. -/
theorem unowned (hs : StOk F β s w) {g b : Nat} {e : Entry} (hg : s.f g = some e) (hb : β g = some (some b)) {ros : List Nat} (hm : g ∈ ros) {off : Nat}
    (ho : match e with | .row n l _ => off < l.length * n | .box _ _ => True) : ¬ Or2 F (OwnOf β (s.marks ros)) ⟨b, off, none⟩ := by
  rintro (h | ⟨k, b', h1, h2, h3⟩)
  · exact hs.apart _ h g (by rw [hg]; simp) hb
  · have hk : (s.marks ros).f k ≠ none := by
      intro h0; rw [h0] at h3; exact h3
    obtain rfl : b = b' := h2
    obtain rfl := hs.inj k g b (Store.marks_none hk) (by rw [hg]; simp) h1 hb
    rw [Store.marks_f, if_pos hm, hg] at h3
    cases e with
    | row n l ro =>
      simp only [Option.map_some, Entry.mark, true_implies] at h3
      exact absurd ho (Nat.not_lt.2 h3)
    | box cs ro => simp [Entry.mark] at h3

theorem borrow1_sound (hs : StOk F β s w) {v : AV} {x : Value} {y : TV} {ros ros' : List Nat} (hr : Rep β w (Or2 F (OwnOf β s)) v x) (h : s.borrow1 v = some (y, ros)) (hsub : ∀ g ∈ ros, g ∈ ros') :
    RepT w (Or2 F (OwnOf β (s.marks ros'))) y x := by
  have hsm : ∀ a, Or2 F (OwnOf β (s.marks ros')) a → Or2 F (OwnOf β s) a := fun a h => h.imp id (own_marks ros' s a)
  unfold Store.borrow1 at h
  split at h
  · cases h; exact hr.t_inv.mono hsm
  · next g n off len =>
    split at h
    · next m l ro hg =>
      split at h
      · next hc =>
        obtain ⟨rfl, hol⟩ := hc
        cases h
        obtain ⟨h1, h2⟩ := hs.ents _ _ hg
        have hl : ((l.drop off).take len).length = len := by simp; omega
        have hgm : g ∈ ros' := hsub g (by simp)
        cases hr with
        | tokN g n a hb => exact .seq m _ a 0 0 0 0 (fun _ _ => undef) (by simp) (Nat.le_refl _) (.inl (by simp)) (fun i hi => by simp at hi) (fun i j hi => by simp at hi) (fun i j hi => by simp at hi) fun i j hi => by simp at hi
        | tok g n off len b a cap T sz hb hlc hm hshp ha =>
          rcases h2 with ⟨h2, rfl⟩ | ⟨b', c, Tc, fr, h2, h3, h4, h5, h6⟩
          · rw [hb] at h2; cases h2
          · rw [hb] at h2
            obtain rfl : b = b' := by simpa using h2
            have hgi : ∀ i, i < len → ((l.drop off).take len).getD i [] = l.getD (off + i) [] := fun i hi => by rw [getD_take _ _ _ _ hi, getD_drop]
            have hin : ∀ i j, i < len → j < m → (off + i) * m + j < l.length * m := fun i j hi hj => by
              have : (off + i + 1) * m ≤ l.length * m := Nat.mul_le_mul_right _ (by omega)
              rw [Nat.add_mul (off + i)] at this
              omega
            have e : ∀ i j, off * m + (i * m + j) = (off + i) * m + j := fun i j => by rw [Nat.add_mul]; omega
            refine .seq m _ a len cap b (off * m) (fun i j => c.getD ((off + i) * m + j) undef) hl.symm hlc ?_ (fun i hi => ?_) (fun i j hi hj => ?_) (fun i j hi hj => ?_) fun i j hi hj => ?_
            · rcases ha with ⟨rfl, _⟩ | ⟨rfl, _⟩
              · exact .inr rfl
              · exact .inl (List.eq_nil_of_length_eq_zero (by omega))
            · rw [hl] at hi; rw [hgi i hi]; exact h1 _ (by omega)
            · rw [hl] at hi; rw [e]; exact thaw_cell h3 (by have := hin i j hi hj; omega)
            · rw [hl] at hi; rw [e]; exact unowned hs hg hb hgm (hin i j hi hj)
            · rw [hl] at hi; rw [hgi i hi]; exact (h6 _ _ (by omega) hj).mono hsm
      · cases h
    · cases h
  · next g n off len =>
    split at h
    · next cs ro hg =>
      split at h
      · next hc =>
        cases ht : tvs? ((cs.drop off).take (len * n)) with
        | none => rw [ht] at h; cases h
        | some xs =>
          rw [ht] at h
          cases h
          have hx := tvs_some _ _ ht
          have hxl : xs.length = len * n := by
            have := congrArg List.length hx
            simp at this
            omega
          obtain ⟨b', c, Tc, fr, h2, h3, h4, h5, h6⟩ := hs.ents _ _ hg
          have hgm : g ∈ ros' := hsub g (by simp)
          cases hr with
          | btok g n off len b a cap hb hlc ha =>
            rw [hb] at h2
            obtain rfl : b = b' := by simpa using h2
            have hin : ∀ i j, i < len → j < n → i * n + j < len * n := fun i j hi hj => by
              have : (i + 1) * n ≤ len * n := Nat.mul_le_mul_right _ (by omega)
              rw [Nat.add_mul] at this
              omega
            have hcell : ∀ k, k < len * n → cs.getD (off + k) .unk = .t (xs.getD k default) := fun k hk => by
              have h7 : ((cs.drop off).take (len * n)).getD k .unk = (xs.map AV.t).getD k .unk := by rw [hx]
              rw [getD_take _ _ _ _ hk, getD_drop, getD_map_t _ _ (by omega)] at h7
              exact h7
            have hch : ∀ i j, i < len → j < n → ((chunks n len xs).getD i []).getD j default = xs.getD (i * n + j) default := fun i j hi hj => by
              rw [chunks_get n len xs i hi, getD_take _ _ _ _ hj, getD_drop]
            refine .seq n _ a len cap b off (fun i j => c.getD (off + (i * n + j)) undef) (chunks_length ..).symm hlc ?_ (fun i hi => ?_) (fun i j hi hj => ?_) (fun i j hi hj => ?_) fun i j hi hj => ?_
            · rcases ha with rfl | rfl
              · exact .inl rfl
              · exact .inr rfl
            · rw [chunks_length] at hi
              rw [chunks_get n len xs i hi]
              have : (i + 1) * n ≤ len * n := Nat.mul_le_mul_right _ (by omega)
              rw [Nat.add_mul] at this
              simp
              omega
            · rw [chunks_length] at hi; exact thaw_cell h3 (by have := hin i j hi hj; omega)
            · rw [chunks_length] at hi; exact unowned hs hg hb hgm trivial
            · rw [chunks_length] at hi
              have := (h6 (off + (i * n + j)) (by have := hin i j hi hj; omega)).2
              rw [hcell _ (hin i j hi hj)] at this
              rw [hch i j hi hj]
              exact this.t_inv.mono hsm
      · cases h
    · cases h
  · cases h

theorem borrowAll_sound (hs : StOk F β s w) : ∀ (vs : List AV) (xs : List TV) (ros ros' : List Nat) (us : Nat → Value), s.borrowAll vs = some (xs, ros) → (∀ g ∈ ros, g ∈ ros') → (∀ i, i < vs.length → Rep β w (Or2 F (OwnOf β s)) (vs.getD i .unk) (us i)) →
    xs.length = vs.length ∧ ∀ i, i < vs.length → RepT w (Or2 F (OwnOf β (s.marks ros'))) (xs.getD i default) (us i)
  | [], xs, ros, ros', us, h, _, _ => by
    simp only [Store.borrowAll, Option.some.injEq, Prod.mk.injEq] at h
    obtain ⟨rfl, rfl⟩ := h
    exact ⟨rfl, fun i hi => by simp at hi⟩
  | v :: r, xs, ros, ros', us, h, hsub, hr => by
    simp only [Store.borrowAll] at h
    cases h1 : s.borrow1 v with
    | none => rw [h1] at h; cases h
    | some p =>
      cases h2 : s.borrowAll r with
      | none => rw [h1, h2] at h; cases h
      | some q =>
        obtain ⟨x, a⟩ := p
        obtain ⟨ys, b⟩ := q
        rw [h1, h2] at h
        simp only [Option.some.injEq, Prod.mk.injEq] at h
        obtain ⟨rfl, rfl⟩ := h
        obtain ⟨g1, g2⟩ := borrowAll_sound hs r ys b ros' (fun i => us (i + 1)) h2 (fun g hg => hsub g (by simp [hg])) fun i hi => by simpa using hr (i + 1) (by simpa using hi)
        have hx := borrow1_sound hs (by simpa using hr 0 (by simp)) h1 fun g hg => hsub g (by simp [hg])
        refine ⟨by simp [g1], fun i hi => ?_⟩
        cases i with
        | zero => simpa using hx
        | succ i => simpa using g2 i (by simpa using hi)

theorem immB_sound (hs : StOk F β s w) {g off : Nat} {l : List TV} {a : List Nat} {x : Value} {ros' : List Nat} (hr : Rep β w (Or2 F (OwnOf β s)) (.ptr g off) x) (h : s.immB g off = some (l, a)) (hsub : ∀ g ∈ a, g ∈ ros') :
    Rep β w (Or2 F (OwnOf β (s.marks ros'))) (.imm l) x := by
  have hsm : ∀ a, Or2 F (OwnOf β (s.marks ros')) a → Or2 F (OwnOf β s) a := fun a h => h.imp id (own_marks ros' s a)
  unfold Store.immB at h
  split at h
  · next cs ro hg =>
    cases ht : s.borrowAll cs with
    | none => rw [ht] at h; cases h
    | some p =>
      obtain ⟨xs, a1⟩ := p
      rw [ht] at h
      cases h
      obtain ⟨b', c, Tc, fr, h2, h3, h4, h5, h6⟩ := hs.ents _ _ hg
      have hgm : g ∈ ros' := hsub g (by simp)
      cases hr with
      | ptr _ _ b hb =>
        rw [hb] at h2
        obtain rfl : b = b' := by simpa using h2
        obtain ⟨hlen', hreps⟩ := borrowAll_sound hs cs xs a1 ros' (fun i => c.getD i undef) ht (fun k hk => hsub k (by simp [hk])) fun i hi => (h6 i hi).2
        have hlen : cs.length = xs.length := hlen'.symm
        refine .imm _ b off (fun j => c.getD (off + j) undef) (fun j hj => ?_) (fun j hj => ?_) fun j hj => ?_
        · simp at hj; exact thaw_cell h3 (by omega)
        · exact unowned hs hg hb hgm trivial
        · simp at hj
          rw [getD_drop]
          exact hreps (off + j) (by omega)
  · cases h

theorem borrowC_sound (hs : StOk F β s w) : ∀ (vs as : List AV) (ros ros' : List Nat) (us : Nat → Value), s.borrowC vs = some (as, ros) → (∀ g ∈ ros, g ∈ ros') → (∀ i, i < vs.length → Rep β w (Or2 F (OwnOf β s)) (vs.getD i .unk) (us i)) →
    as.length = vs.length ∧ ∀ i, i < vs.length → (as.getD i .unk).one = true ∧ Rep β w (Or2 F (OwnOf β (s.marks ros'))) (as.getD i .unk) (us i)
  | [], xs, ros, ros', us, h, _, _ => by
    simp only [Store.borrowC, Option.some.injEq, Prod.mk.injEq] at h
    obtain ⟨rfl, rfl⟩ := h
    exact ⟨rfl, fun i hi => by simp at hi⟩
  | v :: r, xs, ros, ros', us, h, hsub, hr => by
    have hsm : ∀ a, Or2 F (OwnOf β (s.marks ros')) a → Or2 F (OwnOf β s) a := fun a h => h.imp id (own_marks ros' s a)
    simp only [Store.borrowC] at h
    have hr0 : Rep β w (Or2 F (OwnOf β s)) v (us 0) := by simpa using hr 0 (by simp)
    have key : ∀ (x : AV) (q : List AV × List Nat), s.borrowC r = some q → (∀ g ∈ q.2, g ∈ ros') → x.one = true → Rep β w (Or2 F (OwnOf β (s.marks ros'))) x (us 0) →
        (x :: q.1).length = (v :: r).length ∧ ∀ i, i < (v :: r).length → ((x :: q.1).getD i .unk).one = true ∧ Rep β w (Or2 F (OwnOf β (s.marks ros'))) ((x :: q.1).getD i .unk) (us i) := by
      intro x q hq hs2 hx1 hx
      obtain ⟨g1, g2⟩ := borrowC_sound hs r q.1 q.2 ros' (fun i => us (i + 1)) hq hs2 fun i hi => by simpa using hr (i + 1) (by simpa using hi)
      refine ⟨by simp [g1], fun i hi => ?_⟩
      cases i with
      | zero => simpa using ⟨hx1, hx⟩
      | succ i => simpa using g2 i (by simpa using hi)
    split at h
    · next g off q hq =>
      cases h1 : s.immB g off with
      | none => rw [h1] at h; cases h
      | some p =>
        rw [h1] at h
        cases h
        exact key _ _ hq (fun g hg => hsub g (by simp [hg])) rfl (immB_sound hs hr0 h1 fun g hg => hsub g (by simp [hg]))
    · next l q hq => cases h; exact key _ _ hq hsub rfl (hr0.mono hsm)
    · next x q hq => cases h; exact key _ _ hq hsub rfl (hr0.mono hsm)
    · cases h

theorem borrow_sound (hs : StOk F β s w) {v y : AV} {x : Value} {ros ros' : List Nat} (hr : Rep β w (Or2 F (OwnOf β s)) v x) (h : s.borrow v = some (y, ros)) (hsub : ∀ g ∈ ros, g ∈ ros') :
    Rep β w (Or2 F (OwnOf β (s.marks ros'))) y x := by
  have hsm : ∀ a, Or2 F (OwnOf β (s.marks ros')) a → Or2 F (OwnOf β s) a := fun a h => h.imp id (own_marks ros' s a)
  unfold Store.borrow at h
  split at h
  · next cs =>
    cases h1 : s.borrowAll cs with
    | none => rw [h1] at h; cases h
    | some p =>
      obtain ⟨xs, a⟩ := p
      rw [h1] at h
      cases h
      cases hr with
      | agg cs vs hl h2 hr =>
        obtain ⟨g1, g2⟩ := borrowAll_sound hs cs xs ros ros' (fun i => vs.getD i undef) h1 hsub hr
        refine .agg _ vs (by simp [g1, hl]) (fun i hi => ?_) fun i hi => ?_
        · rw [getD_map_t _ _ (by simpa using hi)]; rfl
        · rw [getD_map_t _ _ (by simpa using hi)]; exact .t _ _ (g2 i (by rw [← g1]; simpa using hi))
  · next g n off len =>
    cases h1 : s.borrow1 (.tok g n off len) with
    | none => rw [h1] at h; cases h
    | some p => rw [h1] at h; cases h; exact .t _ _ (borrow1_sound hs hr h1 hsub)
  · next g n off len =>
    cases h1 : s.borrow1 (.btok g n off len) with
    | none => rw [h1] at h; cases h
    | some p => rw [h1] at h; cases h; exact .t _ _ (borrow1_sound hs hr h1 hsub)
  · cases h; exact hr.mono hsm
  · next f caps =>
    cases h1 : s.borrowC caps with
    | none => rw [h1] at h; cases h
    | some p =>
      rw [h1] at h
      cases h
      cases hr with
      | fn _ _ vs hl h2 h3 =>
        obtain ⟨g1, g2⟩ := borrowC_sound hs caps p.1 p.2 ros' (fun i => vs.getD i undef) h1 hsub h3
        exact .fn _ _ vs (g1.trans hl) (fun i hi => (g2 i (g1 ▸ hi)).1) fun i hi => (g2 i (g1 ▸ hi)).2
  · next g off =>
    cases h1 : s.immB g off with
    | none => rw [h1] at h; cases h
    | some p => rw [h1] at h; cases h; exact immB_sound hs hr h1 hsub
  · cases h; exact hr.mono hsm
  · cases h

/-- Arguments stand for values. -/
def Args (β : Bt) (w : World) (A : Addr → Prop) (as : List AV) (vs : Array Value) : Prop :=
  as.length = vs.size ∧ ∀ i, i < as.length → Rep β w A (as.getD i .unk) (vs.getD i undef)

theorem borrows_sound (hs : StOk F β s w) : ∀ (vs as : List AV) (ros ros' : List Nat) (us : Nat → Value), s.borrows vs = some (as, ros) → (∀ g ∈ ros, g ∈ ros') → (∀ i, i < vs.length → Rep β w (Or2 F (OwnOf β s)) (vs.getD i .unk) (us i)) →
    as.length = vs.length ∧ ∀ i, i < vs.length → Rep β w (Or2 F (OwnOf β (s.marks ros'))) (as.getD i .unk) (us i)
  | [], xs, ros, ros', us, h, _, _ => by
    simp only [Store.borrows, Option.some.injEq, Prod.mk.injEq] at h
    obtain ⟨rfl, rfl⟩ := h
    exact ⟨rfl, fun i hi => by simp at hi⟩
  | v :: r, xs, ros, ros', us, h, hsub, hr => by
    simp only [Store.borrows] at h
    cases h1 : s.borrow v with
    | none => rw [h1] at h; cases h
    | some p =>
      cases h2 : s.borrows r with
      | none => rw [h1, h2] at h; cases h
      | some q =>
        obtain ⟨x, a⟩ := p
        obtain ⟨ys, b⟩ := q
        rw [h1, h2] at h
        simp only [Option.some.injEq, Prod.mk.injEq] at h
        obtain ⟨rfl, rfl⟩ := h
        obtain ⟨g1, g2⟩ := borrows_sound hs r ys b ros' (fun i => us (i + 1)) h2 (fun g hg => hsub g (by simp [hg])) fun i hi => by simpa using hr (i + 1) (by simpa using hi)
        have hx := borrow_sound hs (by simpa using hr 0 (by simp)) h1 fun g hg => hsub g (by simp [hg])
        refine ⟨by simp [g1], fun i hi => ?_⟩
        cases i with
        | zero => simpa using hx
        | succ i => simpa using g2 i (by simpa using hi)

end
end Go.Eng

namespace Go.Eng
section
variable {P : Program} {C : Ctx} {F A : Addr → Prop} {β : Bt} {s : Store} {w : World}

/-- What a gentle operation comes to. -/
def Eff (P : Program) (F : Addr → Prop) (β : Bt) (s : Store) (w : World) (m : Sem Value) (b : B) : Prop :=
  ∃ gs v β' w', m.run P w = .ok v w' ∧ (Fresh (s.marks b.ros) gs b.es ∧ ∀ g ∈ gs, β g = none) ∧ StOk F β' ((s.marks b.ros).adds gs b.es) w' ∧
    Frame (OwnOf β s) β w (OwnOf β' ((s.marks b.ros).adds gs b.es)) β' w' ∧ Rep β' w' (Or2 F (OwnOf β' ((s.marks b.ros).adds gs b.es))) (b.av gs) v

theorem Eff.of_val (hs : StOk F β s w) {m : Sem Value} {b : B} (h : Val P (Or2 F (OwnOf β s)) β w m b) : Eff P F β s w m b := by
  obtain ⟨h1, h2, v, h3, h4⟩ := h
  refine ⟨[], v, β, w, h3, ?_⟩
  rw [h1, h2]
  exact ⟨⟨trivial, by simp⟩, hs, Frame.refl _ _ _, h4⟩

theorem Eff.new (hs : StOk F β s w) {m : Sem Value} {c : Prop} {ros : List Nat} {e : Entry} {mk : Nat → AV} {v : Value} {wd : World} {cc : Array Value} {T : TypeId} {fr : Nat × Nat}
    (hw : wd = w ∨ wd = w.drew) (hr : m.run P w = .ok v (wd.alloc (.cells cc T fr)))
    (he : ∀ β' w' g s', Frame (OwnOf β (s.marks ros)) β wd (OwnOf β' s') β' w' → β' g = some (some wd.heap.size) → w'.heap[wd.heap.size]? = some (.cells cc T fr) → EntOk β' w' (Or2 F (OwnOf β' s')) g e)
    (hv : ∀ β' w' g A, β' g = some (some wd.heap.size) → w'.heap[wd.heap.size]? = some (.cells cc T fr) → Rep β' w' A (mk g) v) : Eff P F β s w m (.new c ros e mk) := by
  have h1 : StOk F β (s.marks ros) wd := by
    have := StOk.marks ros hs
    rcases hw with rfl | rfl
    · exact this
    · exact this.drew
  have hf1 : Frame (OwnOf β s) β w (OwnOf β (s.marks ros)) β wd := by
    have := Frame.marks (s := s) (β := β) (w := w) ros
    rcases hw with rfl | rfl
    · exact this
    · exact this.drew
  obtain ⟨g, hg⟩ := h1.fresh
  have hf := alloc_frame (s := s.marks ros) (w := wd) hg (.cells cc T fr) (some e)
  have hn := heap_alloc_new wd (.cells cc T fr)
  refine ⟨[g], v, _, _, hr, ⟨⟨h1.none_of hg, trivial⟩, fun k hk => by rw [List.mem_singleton] at hk; exact hk ▸ hg⟩, ?_, hf1.trans hf, ?_⟩
  · exact alloc_ok h1 hg _ e (he _ _ g _ hf (upd_same _ _ _) hn)
  · exact hv _ _ _ _ (upd_same _ _ _) hn

theorem thawed_zero (n : Nat) : thawed (0, 0) n := fun i _ h => by omega

theorem boxB_sound (hs : StOk F β s w) {T : TypeId} {x : AV} {v : Value} (h : Rep β w (Or2 F (OwnOf β s)) x v) (hc : (boxB x).c) : Eff P F β s w (Instr.box T v) (boxB x) := by
  have hc : x.cells.all AV.one = true := hc
  obtain ⟨h1, h2⟩ := h.cellsL hc
  refine Eff.new hs (wd := w) (cc := v.cells) (T := T) (fr := (0, 0)) (v := .pointer (some ⟨w.heap.size, 0, none⟩)) (.inl rfl) (by simp [Instr.box, newVar, newRow]) (fun β' w' g s' hf hg hb => ?_) fun β' w' g A hg hb => .ptr _ _ _ hg
  refine ⟨w.heap.size, v.cells, T, (0, 0), hg, hb, thawed_zero _, h1.symm, fun i hi => ⟨(h2 i hi).1, ?_⟩⟩
  exact ((h2 i hi).2.mono (fun a ha => ha.imp id (own_marks [] s a))).frame hf

theorem allocB_sound (hT : TyOk P C.ty) (hs : StOk F β s w) {T : TypeId} (hc : (allocB C T).c) : Eff P F β s w (Instr.alloc T true (.tuple #[])) (allocB C T) := by
  unfold allocB at hc ⊢
  split at hc
  · next d hd =>
    obtain ⟨i, u, z, hi, hu, hsh, _, _, hz, hzero⟩ := hT T d hd
    obtain ⟨h1, h2⟩ := zero_rep (β := β) (w := w) (A := Or2 F (OwnOf β s)) hzero
    refine Eff.new hs (wd := w) (cc := z.cells) (T := T) (fr := (0, 0)) (v := .pointer (some ⟨w.heap.size, 0, none⟩)) (.inl rfl) (by simp [Instr.alloc, zeroValue, typeInfo, hi, hz, newVar, newRow]) (fun β' w' g s' hf hg hb => ?_) fun β' w' g A hg hb => .ptr _ _ _ hg
    refine ⟨w.heap.size, z.cells, T, (0, 0), hg, hb, thawed_zero _, h1.symm, fun i hi => ⟨(h2 i hi).1, ?_⟩⟩
    exact ((h2 i hi).2.mono (fun a ha => ha.imp id (own_marks [] s a))).frame hf
  · exact hc.elim

theorem shape_of {b : Nat} {c : Array Value} {T : TypeId} {fr : Nat × Nat} (h : w.heap[b]? = some (.cells c T fr)) : w.shape? b = some (T, c.size) := by
  simp [World.shape?, h]

theorem bytesRow_size {l : List UInt8} {cap : Nat} (h : l.length ≤ cap) : (bytesRow ⟨l.toArray⟩ cap).size = cap := by
  have : (⟨l.toArray⟩ : ByteArray).size = l.length := rfl
  simp [bytesRow, this]
  omega

/-- A conversion that makes no memory. -/
theorem convB_val (hT : TyOk P C.ty) (hs : StOk F β s w) {T T' : TypeId} {x : AV} {v : Value} (h : Rep β w (Or2 F (OwnOf β s)) x v) (hc : (convB C s T T' x).c) (hn : (convB C s T T' x).es = []) :
    Val P (Or2 F (OwnOf β s)) β w (convert T T' v) (convB C s T T' x) := by
  unfold convB at hc hn ⊢
  split at hc
  · next da db hda hdb =>
    obtain ⟨u, hu, hsh⟩ := und hT hda
    obtain ⟨u', hu', hsh'⟩ := und hT hdb
    split at hc
    · next k' k n hk' h1 h2 =>
      rw [h2] at hsh'
      obtain rfl := sh_int hsh'
      obtain rfl := h.int_inv
      exact Val.mk (by simp [convert, run_underlying hu, run_underlying hu', Conv.intToInt]) (.int _ _)
    · next l h1 h2 =>
      rw [h1] at hsh
      rw [h2] at hsh'
      obtain rfl := sh_str hsh
      obtain rfl := sh_str hsh'
      obtain rfl := h.str_inv
      exact Val.mk (by simp [convert, run_underlying hu, run_underlying hu']) (.str _)
    · next e l h1 h2 =>
      split at hc
      · next de hde =>
        split at hc
        · next h3 => simp only [hda, hdb, h1, h2, hde, h3] at hn; cases hn
        · exact hc.elim
      · exact hc.elim
    · next e h1 h2 =>
      rw [h1] at hsh
      rw [h2] at hsh'
      obtain rfl := sh_slice hsh
      obtain rfl := sh_str hsh'
      split at hc
      · next de hde =>
        obtain ⟨ue, hue, hshe⟩ := und hT hde
        split at hc
        · next h3 =>
          rw [h3] at hshe
          obtain rfl := sh_int hshe
          split at hc
          · cases h.t_inv
            exact Val.mk (bytes_sound (A := Or2 F (OwnOf β s)) hu hue hu' (u := []) (l := []) rfl rfl (.inl rfl)) (.str _)
          · next l =>
            split at hc
            · next u hl =>
              cases h.t_inv with
              | seq n l a len cap b off f hlen hcap ha hn hcell ho hr =>
                refine Val.mk (bytes_sound (A := Or2 F (OwnOf β s)) hu hue hu' hl hlen.symm ?_) (.str _)
                rcases ha with rfl | rfl
                · exact .inl rfl
                · refine .inr ⟨b, off, rfl, fun i hi => ⟨f i 0, ?_, hr i 0 hi (by omega)⟩⟩
                  have := hcell i 0 hi (by omega)
                  simpa using this
            · exact hc.elim
          · next g off len =>
            split at hc
            · next l ro hg =>
              split at hc
              · next u hl =>
                obtain ⟨g1, g2⟩ := hs.ents _ _ hg
                have hc : off + len ≤ l.length := hc
                have hlen : ((l.drop off).take len).length = len := by simp; omega
                cases h with
                | tokN g n a hb => exact Val.mk (bytes_sound (A := Or2 F (OwnOf β s)) hu hue hu' hl hlen (.inl (by simp))) (.str _)
                | tok g n off len b a cap T'' sz hb hlc hm hshp ha =>
                  refine Val.mk (bytes_sound (A := Or2 F (OwnOf β s)) hu hue hu' hl hlen ?_) (.str _)
                  rcases g2 with ⟨g2, rfl⟩ | ⟨b', c, Tc, fr, g2, g3, g4, g5, g6⟩
                  · exact .inl (by simp)
                  · rw [hb] at g2
                    obtain rfl : b = b' := by simpa using g2
                    rcases ha with ⟨rfl, _⟩ | ⟨rfl, _⟩
                    · refine .inr ⟨b, off, by simp, fun i hi => ?_⟩
                      rw [hlen] at hi
                      refine ⟨c.getD (off + i) undef, thaw_cell g3 (by omega), ?_⟩
                      rw [getD_take _ _ _ _ hi, getD_drop]
                      have := g6 (off + i) 0 (by omega) (by omega)
                      simpa using this
                    · exact .inl (List.eq_nil_of_length_eq_zero (by omega))
              · exact hc.elim
            · exact hc.elim
          · next g off len =>
            split at hc
            · next l ros hb =>
              split at hc
              · next u hl =>
                have hr := borrow1_sound hs h hb (fun _ hg => hg)
                cases hr with
                | seq n l a len cap b off f hlen hcap ha hn hcell ho hr =>
                  refine Val.mk (bytes_sound (A := Or2 F (OwnOf β (s.marks ros))) hu hue hu' hl hlen.symm ?_) (.str _)
                  rcases ha with rfl | rfl
                  · exact .inl rfl
                  · refine .inr ⟨b, off, rfl, fun i hi => ⟨f i 0, ?_, hr i 0 hi (by omega)⟩⟩
                    have := hcell i 0 hi (by omega)
                    simpa using this
              · exact hc.elim
            · exact hc.elim
          · exact hc.elim
        · exact hc.elim
      · exact hc.elim
    · exact hc.elim
  · exact hc.elim

theorem convB_bytes (hT : TyOk P C.ty) (hs : StOk F β s w) {T T' : TypeId} {x : AV} {v : Value} (h : Rep β w (Or2 F (OwnOf β s)) x v) (hc : (convB C s T T' x).c) (hn : (convB C s T T' x).es ≠ []) :
    Eff P F β s w (convert T T' v) (convB C s T T' x) := by
  unfold convB at hc hn ⊢
  split at hc
  · next da db hda hdb =>
    obtain ⟨u, hu, hsh⟩ := und hT hda
    obtain ⟨u', hu', hsh'⟩ := und hT hdb
    split at hc
    · next k' k n hk' h1 h2 => simp only [hda, hdb, h1, h2, B.val] at hn; exact absurd rfl hn
    · next l h1 h2 => simp only [hda, hdb, h1, h2, B.val] at hn; exact absurd rfl hn
    · next e l h1 h2 =>
      rw [h1] at hsh
      rw [h2] at hsh'
      obtain rfl := sh_str hsh
      obtain rfl := sh_slice hsh'
      obtain rfl := h.str_inv
      split at hc
      · next de hde =>
        obtain ⟨ue, hue, hshe⟩ := und hT hde
        split at hc
        · next h3 =>
          rw [h3] at hshe
          obtain rfl := sh_int hshe
          obtain ⟨hsz, hlen⟩ := hc
          have hcap := grownCap_ge w l.length 0 e
          have hm := grownCap_le_maxLen w l.length 0 e (by simp only [maxLen]; omega)
          have hz := bytesRow_size hcap
          have r := run_bytes_of_string (P := P) w T T' e ⟨l.toArray⟩ hu hu' hue
          have e0 : (⟨l.toArray⟩ : ByteArray).size = l.length := rfl
          rw [e0] at r
          refine Eff.new hs (wd := w.drew) (.inr rfl) r (fun β' w' g s' hf hg hb => ?_) fun β' w' g A hg hb => ?_
          · refine ⟨fun i hi => ?_, .inr ⟨w.heap.size, _, _, _, hg, hb, fun i hi hh => ?_, ?_, fun i j hi hj => ?_⟩⟩
            · simp [bytesOf] at hi; simp [bytesOf, hi]
            · dsimp only at hh; omega
            · rw [hz]; simp [bytesOf]; exact hcap
            · obtain rfl : j = 0 := by omega
              simp only [bytesOf, List.length_map] at hi
              have hb2 := bytesRow_at ⟨l.toArray⟩ (grownCap w l.length 0 e) i (by simpa using hi)
              simp [bytesOf, hi, Array.getD_eq_getD_getElem?, hb2]
              exact .int _ _
          · refine .tok _ _ _ _ w.heap.size _ _ e _ hg hcap hm (shape_of hb) (.inl ⟨by simp, ?_⟩)
            rw [hz]; simp
        · exact hc.elim
      · exact hc.elim
    · next e h1 h2 =>
      split at hc
      · next de hde =>
        split at hc
        · next h3 =>
          split at hc
          · simp only [hda, hdb, h1, h2, hde, h3, B.val] at hn; exact absurd rfl hn
          · split at hc
            · next hl => simp only [hda, hdb, h1, h2, hde, h3, hl, B.val] at hn; exact absurd rfl hn
            · exact hc.elim
          · split at hc
            · next hg =>
              split at hc
              · next hl => simp only [hda, hdb, h1, h2, hde, h3, hg, hl, B.val] at hn; exact absurd rfl hn
              · exact hc.elim
            · exact hc.elim
          · split at hc
            · next hb =>
              split at hc
              · next hl => simp only [hda, hdb, h1, h2, hde, h3, hb, hl, B.val] at hn; exact absurd rfl hn
              · exact hc.elim
            · exact hc.elim
          · exact hc.elim
        · exact hc.elim
      · exact hc.elim
    · exact hc.elim
  · exact hc.elim

theorem convB_sound (hT : TyOk P C.ty) (hs : StOk F β s w) {T T' : TypeId} {x : AV} {v : Value} (h : Rep β w (Or2 F (OwnOf β s)) x v) (hc : (convB C s T T' x).c) : Eff P F β s w (convert T T' v) (convB C s T T' x) := by
  cases he : (convB C s T T' x).es with
  | nil => exact Eff.of_val hs (convB_val hT hs h hc he)
  | cons e r => exact convB_bytes hT hs h hc (by rw [he]; simp)

end
end Go.Eng

namespace Go.Eng
section
variable {P : Program} {C : Ctx} {F A : Addr → Prop} {β : Bt} {s : Store} {w : World}

theorem made_get (z : Array Value) (n i j : Nat) (hj : j < z.size) (h : i * z.size + j < n) : (madeCells z n).getD (i * z.size + j) undef = z.getD j undef := by
  have h1 : (i * z.size + j) % z.size = j := by rw [Nat.mul_comm, Nat.mul_add_mod, Nat.mod_eq_of_lt hj]
  simp [madeCells, Array.getD_eq_getD_getElem?, h, h1, hj]

theorem makeSliceB_sound (hT : TyOk P C.ty) (hs : StOk F β s w) {T : TypeId} {x y : AV} {v u : Value} (h : Rep β w (Or2 F (OwnOf β s)) x v) (h' : Rep β w (Or2 F (OwnOf β s)) y u) (hc : (makeSliceB C T x y).c) :
    Eff P F β s w (Instr.makeSlice T v u) (makeSliceB C T x y) := by
  unfold makeSliceB at hc ⊢
  split at hc
  · next d k l k' c hd =>
    obtain rfl := h.int_inv
    obtain rfl := h'.int_inv
    obtain ⟨uu, hu, hsh⟩ := und hT hd
    split at hc
    · next e hsx =>
      rw [hsx] at hsh
      obtain rfl := sh_slice hsh
      split at hc
      · next de hde =>
        obtain ⟨g0, g1, g2, g3, g4⟩ := hc
        obtain ⟨i, ue, z, hi, hue, _, hsz, hby, hz, hzero⟩ := hT e de hde
        obtain ⟨z1, z2⟩ := zero_rep (β := β) (w := w) (A := Or2 F (OwnOf β s)) hzero
        have hzs : z.cells.size = de.size := by rw [← z1]; simp [hzero.2.1]
        have hzl : de.zero.length = de.size := hzero.2.1
        have r := run_make (P := P) w T e i z hu hi hz k k' l c g0 g1 (by rw [hby, Int.mul_comm]; omega) (by omega)
        rw [hsz] at r
        have hsize : (madeCells z.cells (c.toNat * de.size)).size = c.toNat * de.size := size_madeCells _ _
        refine Eff.new hs (wd := w) (.inl rfl) r (fun β' w' g s' hf hg hb => ?_) fun β' w' g A hg hb => ?_
        · refine ⟨fun q hq => ?_, .inr ⟨w.heap.size, _, _, _, hg, hb, thawed_zero _, ?_, fun q j hq hj => ?_⟩⟩
          · simp at hq; simp [hq, hzl, List.getD_eq_getElem?_getD]
          · rw [hsize]; simp; exact Nat.mul_le_mul_right _ (by omega)
          · simp only [List.length_replicate] at hq
            have hlt : q * de.size + j < c.toNat * de.size := by
              have : (q + 1) * de.size ≤ c.toNat * de.size := Nat.mul_le_mul_right _ (by omega)
              rw [Nat.add_mul] at this; omega
            have e1 := made_get z.cells (c.toNat * de.size) q j (by omega) (by rw [hzs]; exact hlt)
            rw [hzs] at e1
            rw [e1]
            have e2 : (List.replicate l.toNat de.zero).getD q [] = de.zero := by simp [hq]
            rw [e2]
            have := (z2 j (by simp; omega)).2
            rw [getD_map_t _ _ (by omega)] at this
            exact ((this.mono (fun a ha => ha.imp id (own_marks [] s a))).frame hf).t_inv
        · refine .tok _ _ _ _ w.heap.size _ _ e _ hg (by omega) (by simp only [maxLen]; omega) (shape_of hb) (.inl ⟨by simp, ?_⟩)
          rw [hsize]; simp
      · exact hc.elim
    · exact hc.elim
  · exact hc.elim

theorem rowsOf_some (n : Nat) : ∀ (ps : List (Nat × AV)) (k : Nat) (l : List (List TV)) (ros : List Nat), rowsOf s n k ps = some (l, ros) →
    l.length = ps.length ∧ (∀ i, i < ps.length → (ps.getD i (0, .unk)).1 = k + i ∧ ∃ a, s.borrowAll (ps.getD i (0, .unk)).2.cells = some (l.getD i [], a) ∧ (∀ g ∈ a, g ∈ ros) ∧ (l.getD i []).length = n)
  | [], k, l, ros, h => by
    simp only [rowsOf, Option.some.injEq, Prod.mk.injEq] at h
    obtain ⟨rfl, rfl⟩ := h
    exact ⟨rfl, fun i hi => by simp at hi⟩
  | (i, v) :: r, k, l, ros, h => by
    simp only [rowsOf] at h
    split at h
    · next hik =>
      subst hik
      cases h1 : s.borrowAll v.cells with
      | none => rw [h1] at h; cases h
      | some p =>
        cases h2 : rowsOf s n (i + 1) r with
        | none => rw [h1, h2] at h; cases h
        | some q =>
          obtain ⟨xs, a⟩ := p
          obtain ⟨ys, b⟩ := q
          rw [h1, h2] at h
          simp only at h
          split at h
          · next hn =>
            simp only [Option.some.injEq, Prod.mk.injEq] at h
            obtain ⟨rfl, rfl⟩ := h
            obtain ⟨g1, g2⟩ := rowsOf_some n r (i + 1) ys b h2
            refine ⟨by simp [g1], fun j hj => ?_⟩
            cases j with
            | zero => exact ⟨by simp, a, by simpa using h1, fun g hg => by simp [hg], by simpa using hn⟩
            | succ j =>
              obtain ⟨e1, a', e2, e3, e4⟩ := g2 j (by simpa using hj)
              exact ⟨by simp only [List.getD_cons_succ]; omega, a', by simpa using e2, fun g hg => by simp [e3 g hg], by simpa using e4⟩
          · cases h
    · cases h

theorem borrowAll_all {v : AV} {xs : List TV} {a : List Nat} (h : s.borrowAll v.cells = some (xs, a)) : v.cells.all AV.one = true := by
  have key : ∀ (cs : List AV) (xs : List TV) (a : List Nat), s.borrowAll cs = some (xs, a) → cs.all AV.one = true := by
    intro cs
    induction cs with
    | nil => intros; rfl
    | cons v r ih =>
      intro xs a h
      simp only [Store.borrowAll] at h
      cases h1 : s.borrow1 v with
      | none => rw [h1] at h; cases h
      | some p =>
        cases h2 : s.borrowAll r with
        | none => rw [h1, h2] at h; cases h
        | some q =>
          have h3 : v.one = true := by
            unfold Store.borrow1 at h1
            split at h1 <;> first | rfl | (cases h1)
          simp [h3, ih q.1 q.2 h2]
  exact key _ _ _ h

/-- Parts of one size, one behind the other. -/
theorem fill_seq (n : Nat) : ∀ (ps : List (Nat × Value)) (k : Nat) (cs : Array Value), (∀ i, i < ps.length → (ps.getD i (0, undef)).1 = k + i ∧ (ps.getD i (0, undef)).2.cells.size = n) → (k + ps.length) * n ≤ cs.size →
    ∃ cs', Instr.fill (fun i => some (i * n, n)) cs ps = some cs' ∧ cs'.size = cs.size ∧ (∀ q, q < k * n → cs'[q]? = cs[q]?) ∧
      ∀ i j, i < ps.length → j < n → cs'[(k + i) * n + j]? = (ps.getD i (0, undef)).2.cells[j]?
  | [], k, cs, _, _ => ⟨cs, by simp [Instr.fill], rfl, fun _ _ => rfl, fun i j hi => by simp at hi⟩
  | (i, v) :: r, k, cs, h, hs => by
    obtain ⟨h1, h2⟩ := h 0 (by simp)
    simp only [List.getD_cons_zero, Nat.add_zero] at h1 h2
    subst h1
    simp only [List.length_cons] at hs
    have hkn : (i + (r.length + 1)) * n = i * n + n + r.length * n := by rw [Nat.add_mul, Nat.add_mul]; omega
    have hi1 : (i + 1) * n = i * n + n := by rw [Nat.add_mul]; omega
    obtain ⟨c1, e1, e2, e3⟩ := fill_step (fun i => some (i * n, n)) cs i (i * n) n v r rfl h2 (by omega)
    obtain ⟨c2, f1, f2, f3, f4⟩ := fill_seq n r (i + 1) c1 (fun j hj => by
      have := h (j + 1) (by simpa using hj)
      simp only [List.getD_cons_succ] at this
      exact ⟨by omega, this.2⟩) (by rw [e2, Nat.add_mul, Nat.add_mul]; omega)
    refine ⟨c2, by rw [e1]; exact f1, by rw [f2, e2], fun q hq => ?_, fun j q hj hq => ?_⟩
    · rw [f3 q (by omega), e3, if_neg (by omega)]
    · cases j with
      | zero =>
        simp only [Nat.add_zero]
        rw [f3 _ (by omega), e3, if_pos (by omega)]
        simp
      | succ j =>
        have := f4 j q (by simpa using hj) hq
        simp only [List.getD_cons_succ]
        rw [← this, show i + 1 + j = i + (j + 1) from by omega]

theorem buildSliceB_both (hT : TyOk P C.ty) (hs : StOk F β s w) {T : TypeId} {len : Nat} {ps : Array (Nat × Operand)} {ev : Operand → AV} {ρ : Operand → Value} (hr : ∀ p ∈ ps, Rep β w (Or2 F (OwnOf β s)) (ev p.2) (ρ p.2))
    (hc : (buildSliceB C s T len (ps.toList.map fun p => (p.1, ev p.2))).c) : Eff P F β s w (Instr.buildSlice T len (ps.map fun (i, x) => (i, ρ x))) (buildSliceB C s T len (ps.toList.map fun p => (p.1, ev p.2))) ∧ ∃ w', (Instr.buildSlice T len (ps.map fun (i, x) => (i, ρ x))).run P w = .ok (.slice (some ⟨w.heap.size, 0, none⟩) len len) w' := by
  have hr' : ∀ p ∈ ps.toList, Rep β w (Or2 F (OwnOf β s)) (ev p.2) (ρ p.2) := fun p hp => hr p (by simpa using hp)
  have hmap : (ps.map fun (i, x) => (i, ρ x)).toList = ps.toList.map fun p => (p.1, ρ p.2) := by simp
  unfold buildSliceB at hc ⊢
  split at hc
  · next d hd =>
    obtain ⟨u, hu, hsh⟩ := und hT hd
    split at hc
    · next e hsx =>
      rw [hsx] at hsh
      obtain rfl := sh_slice hsh
      split at hc
      · next de hde =>
        obtain ⟨i, ue, z, hi, hue, _, hsz, hby, hz, hzero⟩ := hT e de hde
        split at hc
        · next l ros hrows =>
          obtain ⟨hl, hmax, hpos⟩ := hc
          obtain ⟨g1, g2⟩ := rowsOf_some de.size _ 0 l ros hrows
          simp only [List.length_map] at g1 g2
          have g2' : ∀ q (hq : q < ps.toList.length), (ps.toList[q]).1 = q ∧ (∃ a, s.borrowAll (ev (ps.toList[q]).2).cells = some (l.getD q [], a) ∧ (∀ g ∈ a, g ∈ ros)) ∧ (l.getD q []).length = de.size := fun q hq => by
            obtain ⟨e1, a, e2, e3, e4⟩ := g2 q hq
            simp only [List.getD_eq_getElem?_getD, List.getElem?_map, List.getElem?_eq_getElem hq, Option.map_some, Option.getD_some] at e1 e2
            exact ⟨by omega, ⟨a, by simpa using e2, e3⟩, e4⟩
          have cellsz : ∀ q (hq : q < ps.toList.length), RepL β w (Or2 F (OwnOf β s)) (ev (ps.toList[q]).2).cells (ρ (ps.toList[q]).2).cells ∧ (ρ (ps.toList[q]).2).cells.size = de.size ∧
              ∀ j, j < de.size → RepT w (Or2 F (OwnOf β (s.marks ros))) ((l.getD q []).getD j default) ((ρ (ps.toList[q]).2).cells.getD j undef) := fun q hq => by
            obtain ⟨e1, ⟨a, e2, e3⟩, e4⟩ := g2' q hq
            have hrp := hr' _ (List.getElem_mem hq)
            have hL := hrp.cellsL (borrowAll_all e2)
            obtain ⟨f1, f2⟩ := borrowAll_sound hs _ _ a ros (fun i => (ρ (ps.toList[q]).2).cells.getD i undef) e2 e3 fun i hi => (hL.2 i hi).2
            exact ⟨hL, by rw [← hL.1, ← f1, e4], fun j hj => f2 j (by rw [← f1, e4]; exact hj)⟩
          have hcond : ∀ q, q < (ps.toList.map fun p => (p.1, ρ p.2)).length → ((ps.toList.map fun p => (p.1, ρ p.2)).getD q (0, undef)).1 = 0 + q ∧ ((ps.toList.map fun p => (p.1, ρ p.2)).getD q (0, undef)).2.cells.size = de.size := fun q hq => by
            have hq' : q < ps.toList.length := by simpa using hq
            simp only [List.getD_eq_getElem?_getD, List.getElem?_map, List.getElem?_eq_getElem hq', Option.map_some, Option.getD_some]
            exact ⟨by have := (g2' q hq').1; omega, (cellsz q hq').2.1⟩
          have hlen : ps.toList.length = len := by omega
          obtain ⟨cc, f1, f2, f3, f4⟩ := fill_seq de.size (ps.toList.map fun p => (p.1, ρ p.2)) 0 (madeCells z.cells (len * de.size)) hcond (by rw [size_madeCells]; simp only [List.length_map, Nat.zero_add]; rw [hlen]; exact Nat.le_refl _)
          rw [size_madeCells] at f2
          have r : (Instr.buildSlice T len (ps.map fun (i, x) => (i, ρ x))).run P w = .ok (.slice (some ⟨w.heap.size, 0, none⟩) len len) (w.alloc (.cells cc e)) := by
            have hm : ¬ (16777216 < len * de.size) := by omega
            by_cases h0 : len * de.size = 0
            · have hm0 : madeCells z.cells (len * de.size) = #[] := by
                apply Array.eq_empty_of_size_eq_zero; rw [size_madeCells, h0]
              have hf1 : Instr.fill (fun i => some (i * de.size, de.size)) #[] (ps.toList.map fun p => (p.1, ρ p.2)) = some cc := by rw [← hm0]; exact f1
              simp [Instr.buildSlice, run_underlying hu, run_sizeOf hT hde, h0, newRow]
              have hr0 : Array.map (fun _ => (default : Value)) (Array.range 0) = #[] := Array.eq_empty_of_size_eq_zero (by simp)
              simp [hr0, hf1]
            · have hf1 : Instr.fill (fun i => some (i * de.size, de.size)) ((Array.range (len * de.size)).map (z.cells[· % z.cells.size]!)) (ps.map fun (i, x) => (i, ρ x)).toList = some cc := by rw [hmap]; exact f1
              simp [Instr.buildSlice, run_underlying hu, run_sizeOf hT hde, hm, h0, zeroValue, typeInfo, hi, hz, newRow]
              simp at hf1
              simp [hf1]
          refine ⟨Eff.new hs (wd := w) (.inl rfl) r (fun β' w' g s' hf hg hb => ?_) fun β' w' g A hg hb => ?_, _, r⟩
          · refine ⟨fun q hq => ?_, .inr ⟨w.heap.size, _, _, _, hg, hb, thawed_zero _, ?_, fun q j hq hj => ?_⟩⟩
            · exact (g2' q (by omega)).2.2
            · rw [f2, hl]; exact Nat.le_refl _
            · have hq' : q < ps.toList.length := by omega
              have := f4 q j (by simpa using hq') hj
              simp only [List.getD_eq_getElem?_getD, List.getElem?_map, List.getElem?_eq_getElem hq', Option.map_some, Option.getD_some, Nat.zero_add] at this
              have e1 : cc.getD (q * de.size + j) undef = (ρ (ps.toList[q]).2).cells.getD j undef := by
                rw [Array.getD_eq_getD_getElem?, this, Array.getD_eq_getD_getElem?]
              rw [e1]
              exact ((cellsz q hq').2.2 j hj).frame hf
          · refine .tok _ _ _ _ w.heap.size _ _ e _ hg (Nat.le_refl _) ?_ (shape_of hb) (.inl ⟨by simp, ?_⟩)
            · have : len ≤ len * de.size := Nat.le_mul_of_pos_right _ hpos
              simp only [maxLen]; omega
            · rw [f2]; simp
        · exact hc.elim
      · exact hc.elim
    · exact hc.elim
  · exact hc.elim

theorem buildSliceB_sound (hT : TyOk P C.ty) (hs : StOk F β s w) {T : TypeId} {len : Nat} {ps : Array (Nat × Operand)} {ev : Operand → AV} {ρ : Operand → Value} (hr : ∀ p ∈ ps, Rep β w (Or2 F (OwnOf β s)) (ev p.2) (ρ p.2))
    (hc : (buildSliceB C s T len (ps.toList.map fun p => (p.1, ev p.2))).c) : Eff P F β s w (Instr.buildSlice T len (ps.map fun (i, x) => (i, ρ x))) (buildSliceB C s T len (ps.toList.map fun p => (p.1, ev p.2))) :=
  (buildSliceB_both hT hs hr hc).1

end
end Go.Eng

namespace Go.Eng

/-- An operation: where its value goes; its guard: the slot of a bool, and what that must be. -/
structure GOp where
  dst : Option Nat
  g : Option (Nat × Bool)
  op : Op

/-- Operations whose order is not told: one, then the rest; or both must do. -/
inductive OTree where
  | done
  | one (o : GOp) (t : OTree)
  | both (a b : OTree)

inductive GCode where
  | skip
  | region (ops : List GOp)
  | orders (t : OTree)
  | seq (a b : GCode)
  | cond (c : Operand) (x y : GCode)
  | block (id : Nat) (b : GCode)
  | loop (b : GCode)
  | exit (id : Nat)
  | ret
  | weak

/-- The model's code alone: what was put in to know less is left out. -/
def GCode.strip : GCode → GCode
  | .seq a b => match a with
    | .weak => b.strip
    | a => .seq a.strip b.strip
  | .cond c x y => .cond c x.strip y.strip
  | .block id b => .block id b.strip
  | .loop b => .loop b.strip
  | g => g

/-- What is known of a cell, or less; a token that is no one's any more is a slice that is only read. -/
def W1 (s s' : Store) (v u : AV) : Prop := u = v ∨ (∃ n, u = .t (.seq n []) ∧ (v = .t .nilS ∨ v = .t .emp)) ∨ ∃ x ros, s.borrow1 v = some (x, ros) ∧ (u = .t x ∨ ∃ y, u = .t y ∧ ∀ (w : World) (O : Addr → Prop) (z : Value), RepT w O x z → RepT w O y z) ∧ ∀ g ∈ ros, s'.f g = none

def WL (s s' : Store) : List AV → List AV → Prop
  | [], [] => True
  | v :: vs, u :: us => W1 s s' v u ∧ WL s s' vs us
  | _, _ => False

def W2 (s s' : Store) (v u : AV) : Prop := W1 s s' v u ∨ u = .unk ∨ (∃ (g off : Nat) (cs : List AV) (ro : Bool) (l : List TV), v = .ptr g off ∧ s.f g = some (.box cs ro) ∧ cs = l.map .t ∧ u = .imm (l.drop off) ∧ s'.f g = none) ∨ ∃ cs us, v = .agg cs ∧ u = .agg us ∧ WL s s' cs us ∧ us.all AV.one = true

def WE (s s' : Store) (e e' : Entry) : Prop := e' = e ∨ ∃ cs us ro, e = .box cs ro ∧ e' = .box us ro ∧ WL s s' cs us ∧ us.all AV.one = true

structure Wk (σ σ' : St) : Prop where
  st : ∀ g e', σ'.st.f g = some e' → ∃ e, σ.st.f g = some e ∧ WE σ.st σ'.st e e'
  slots : ∀ n, W2 σ.st σ'.st (σ.get n) (σ'.get n)

def AV.wanted (want : Bool) : AV → Option Bool
  | .t (.bool b) => some (b == want)
  | .opt c (.t (.bool b)) => some (c && (b == want))
  | .opt c _ => if c = true then none else some false
  | _ => none

def AV.strip : AV → AV
  | .opt _ v => v
  | v => v

def AV.okc : AV → Prop
  | .opt b _ => b = true
  | _ => True

def okAll (ev : Operand → AV) : List Operand → Prop
  | [] => True
  | x :: r => (ev x).okc ∧ okAll ev r

def isPick : Op → Bool
  | .pick .. => true
  | _ => false

/-- A slice of its parts that is only read: under a guard. -/
def litB (C : Ctx) (s : Store) (T : TypeId) (len : Nat) (parts : List (Nat × AV)) : B :=
  match C.ty T with
  | some d => match d.sh with
    | .slice e => match C.ty e with
      | some de => match rowsOf s de.size 0 parts with
        | some (l, []) => .val (l.length = len ∧ len * de.size ≤ 1000000 ∧ 0 < de.size) (.t (if len = 0 then .emp else .seq de.size l))
        | _ => .no
      | none => .no
    | _ => .no
  | none => .no

/-- A slice that is made and only read: under a guard. -/
def madeB (C : Ctx) (T : TypeId) (len cap : AV) : B :=
  match C.ty T, len, cap with
  | some d, .t (.int _ l), .t (.int _ c) => match d.sh with
    | .slice e => match C.ty e with
      | some de => .val (0 ≤ l ∧ l ≤ c ∧ c * (de.bytes : Int) ≤ 140737488355328 ∧ c ≤ 140737488355328 ∧ 0 < de.size) (.t (.seq de.size (List.replicate l.toNat de.zero)))
      | none => .no
    | _ => .no
  | _, _, _ => .no

def opBg (C : Ctx) (ev : Operand → AV) (s : Store) (o : Op) : B :=
  match o with
  | .buildSlice t n ps => litB C s t n (ps.toList.map fun p => (p.1, ev p.2))
  | .makeSlice t l c => madeB C t (ev l) (ev c)
  | o => opB C ev s o

/-- What is looked up is there. -/
def liveB (ev : Operand → AV) (s : Store) (o : Op) : Prop :=
  match o with
  | .load _ a => match ev a with
    | .ptr g _ => (s.f g).isSome = true
    | .eptr g .. => (s.f g).isSome = true
    | _ => True
  | .convert _ _ a => match ev a with
    | .tok g .. => (s.f g).isSome = true
    | .btok g .. => (s.f g).isSome = true
    | _ => True
  | .buildSlice _ _ ps => ∀ p ∈ ps.toList, (s.borrowAll (ev p.2).cells).isSome = true
  | .call c => match c.callee with
    | .value h => match ev h with
      | .fn _ caps => (s.borrows (c.args.toList.map ev ++ caps)).isSome = true
      | _ => True
    | _ => True
  | _ => True

/-- A gentle operation, with its guard. -/
def gB (C : Ctx) (o : GOp) (σ : St) : B :=
  match o.g with
  | none => opB C σ.ev σ.st o.op
  | some (j, want) => match (σ.get j).wanted want with
    | some true =>
      let b := if isPick o.op then opB C σ.ev σ.st o.op else opBg C (fun x => (σ.ev x).strip) σ.st o.op
      ⟨((isPick o.op = false → okAll σ.ev o.op.operands.toList) ∧ b.c) ∧ liveB (fun x => (σ.ev x).strip) σ.st o.op, b.ros, b.es, fun gs => .opt true (b.av gs)⟩
    | some false => .val True (.opt false .unk)
    | none => .no

def St.eff (σ : St) (ros gs : List Nat) (es : List Entry) : St := { σ with st := (σ.st.marks ros).adds gs es }

def gT (b : B) (dst : Option Nat) (K : St → Prop) (σ : St) : Prop :=
  b.c ∧ ∀ gs, Fresh (σ.st.marks b.ros) gs b.es → K ((σ.eff b.ros gs b.es).put dst (b.av gs))

/-! ### Operations that write -/

def putRow (l : List (List TV)) (i off : Nat) (xs : List TV) : List (List TV) := l.set i ((l.getD i []).take off ++ xs ++ (l.getD i []).drop (off + xs.length))

def storeT (C : Ctx) (T : TypeId) (a v : AV) (K : Store → Prop) (s : Store) : Prop :=
  match C.ty T with
  | some d => match a with
    | .ptr g off => match s.f g with
      | some (.box cs ro) => ro = false ∧ v.cells.length = d.size ∧ off + d.size ≤ cs.length ∧ v.cells.all AV.one = true ∧ K (s.set g (some (.box (splice cs off v.cells) false)))
      | _ => False
    | .eptr g n i off => match s.f g with
      | some (.row m l ro) => match s.borrowAll v.cells with
        | some (xs, ros) => ro = false ∧ m = n ∧ xs.length = d.size ∧ i < l.length ∧ off + d.size ≤ n ∧ g ∉ ros ∧ K ((s.marks ros).set g (some (.row m (putRow l i off xs) false)))
        | none => False
      | _ => False
    | _ => False
  | none => False

/-- The rows that a slice shows. -/
def Store.rowsAt (s : Store) : AV → Option (List (List TV))
  | .t (.seq _ l) => some l
  | .t .nilS => some []
  | .t .emp => some []
  | .t (.emq _) => some []
  | .tok g n off len => (s.borrow1 (.tok g n off len)).bind fun p => match p.1 with | .seq _ l => some l | _ => none
  | .btok g n off len => (s.borrow1 (.btok g n off len)).bind fun p => match p.1 with | .seq _ l => some l | _ => none
  | _ => none

def AV.width : AV → Option Nat
  | .t (.seq n _) => some n
  | .tok _ n _ _ => some n
  | .btok _ n _ _ => some n
  | _ => none

def appendT (C : Ctx) (T : TypeId) (x y : AV) (K : Nat → Store → Nat → Nat → Prop) (s : Store) : Prop :=
  match C.ty T with
  | some d => match d.sh with
    | .slice e => match C.ty e with
      | some de => match s.rowsAt y with
        | some l2 => 0 < de.size ∧ (y.width = some de.size ∨ y.width = none) ∧ match x with
          | .tok g n off len => match s.f g with
            | some (.row m l ro) => m = de.size ∧ n = m ∧ off = 0 ∧ len = l.length ∧ l.length + l2.length ≤ 140737488355328 ∧ (l.length + l2.length) * de.bytes ≤ 140737488355328 ∧
                ∀ g', s.f g' = none → K g' ((s.set g none).set g' (some (.row m (l ++ l2) ro))) m (l.length + l2.length)
            | _ => False
          | x => (x matches .t .nilS | .t .emp) ∧ l2.length ≤ 140737488355328 ∧ l2.length * de.bytes ≤ 140737488355328 ∧
                ∀ g', s.f g' = none → K g' (s.set g' (some (.row de.size l2 false))) de.size l2.length
        | none => False
      | none => False
    | _ => False
  | none => False

/-- Rows copied over others. -/
def copyT (C : Ctx) (T : TypeId) (x y : AV) (K : Store → Nat → Prop) (s : Store) : Prop :=
  match C.ty T with
  | some d => match d.sh with
    | .slice e => match C.ty e with
      | some de => match s.rowsAt y with
        | some l2 => (y.width = some de.size ∨ y.width = none) ∧ match x with
          | .tok g n off len => match s.f g with
            | some (.row m l ro) => m = de.size ∧ n = m ∧ ro = false ∧ off + len ≤ l.length ∧
                K (s.set g (some (.row m (l.take off ++ l2.take len ++ l.drop (off + min l2.length len)) false))) (min l2.length len)
            | _ => False
          | _ => False
        | none => False
      | none => False
    | _ => False
  | none => False

/-- Arguments: those that are lent as they are, those that are only read. -/
def Store.pass (s : Store) : List Bool → List AV → Option (List AV × List Nat)
  | m :: ms, v :: r => match (if m then some (v, []) else s.borrow v), s.pass ms r with
    | some (x, a), some (xs, b) => some (x :: xs, a ++ b)
    | _, _ => none
  | [], [] => some ([], [])
  | _, _ => none

def genT (s : Store) (modes : List Bool) (F : List AV → Store → (AV → Store → Prop) → Prop) (args : List AV) (K : AV → Store → Prop) : Prop :=
  match s.pass modes args with
  | some (as, ros) => F as (s.marks ros) K
  | none => False

inductive Bar where
  | store (t : TypeId) (a v : Operand)
  | append (t : TypeId) (x y : Operand)
  | copy (t : TypeId) (x y : Operand)
  | gen (f : FuncId) (args : List Operand)

/-- Is it an operation that writes? -/
def barOf (C : Ctx) : Op → Option Bar
  | .store t a v => some (.store t a v)
  | .call c => match c.callee with
    | .builtin .append => match c.argTypes.toList, c.args.toList with
      | [t, t'], [x, y] => if t = t' then some (.append t x y) else none
      | _, _ => none
    | .builtin .copy => match c.argTypes.toList, c.args.toList with
      | [t, t'], [x, y] => if t = t' then some (.copy t x y) else none
      | _, _ => none
    | .value (.func f) => match C.con f with
      | some (.gen _ _) => some (.gen f c.args.toList)
      | _ => none
    | _ => none
  | _ => none

def barT (C : Ctx) (ev : Operand → AV) (b : Bar) (dst : Option Nat) (K : St → Prop) (σ : St) : Prop :=
  match b with
  | .store t a v => dst = none ∧ storeT C t (ev a) (ev v) (fun s => K { σ with st := s }) σ.st
  | .append t x y => appendT C t (ev x) (ev y) (fun g s n len => K (({ σ with st := s } : St).put dst (.tok g n 0 len))) σ.st
  | .copy t x y => copyT C t (ev x) (ev y) (fun s n => K (({ σ with st := s } : St).put dst (.t (.int .i64 (n : Int))))) σ.st
  | .gen f args => match C.con f with
    | some (.gen modes F) => genT σ.st modes F (args.map ev) fun r s => K (({ σ with st := s } : St).put dst r)
    | _ => False

def aOp (C : Ctx) (o : GOp) (K : St → Prop) (σ : St) : Prop :=
  match barOf C o.op with
  | some b => match o.g with
    | none => barT C σ.ev b o.dst K σ
    | some (j, want) => match (σ.get j).wanted want with
      | some wb => (wb = true → okAll σ.ev o.op.operands.toList ∧ barT C (fun x => (σ.ev x).strip) b o.dst K σ) ∧ (wb = false → K (σ.put o.dst (.opt false .unk)))
      | none => False
  | none => gT (gB C o σ) o.dst K σ

def aOps (C : Ctx) : List GOp → (St → Prop) → St → Prop
  | [], K, σ => K σ
  | o :: r, K, σ => aOp C o (aOps C r K) σ

def avpT (C : Ctx) : OTree → (St → Prop) → St → Prop
  | .done, K, σ => K σ
  | .one o t, K, σ => aOp C o (avpT C t K) σ
  | .both a b, K, σ => avpT C a K σ ∧ avpT C b K σ

def Exit.thenA (next : St → Prop) (Q : Exit → St → Prop) : Exit → St → Prop
  | .normal, σ => next σ
  | e, σ => Q e σ

def Exit.inBlockA (id : Nat) (Q : Exit → St → Prop) : Exit → St → Prop
  | .exit id', σ => if id' = id then Q .normal σ else Q (.exit id') σ
  | e, σ => Q e σ

def Rounds (body : (Exit → St → Prop) → St → Prop) (Q : Exit → St → Prop) : Nat → St → Prop
  | 0, _ => False
  | n + 1, σ => body (Exit.thenA (Rounds body Q n) Q) σ

def avp (C : Ctx) : GCode → (Exit → St → Prop) → St → Prop
  | .skip, Q, σ => Q .normal σ
  | .region ops, Q, σ => aOps C ops (Q .normal) σ
  | .orders t, Q, σ => avpT C t (Q .normal) σ
  | .seq a b, Q, σ => avp C a (Exit.thenA (avp C b Q) Q) σ
  | .cond c x y, Q, σ => match σ.ev c with
    | .t (.bool b) => (b = true → avp C x Q σ) ∧ (b = false → avp C y Q σ)
    | _ => False
  | .block id b, Q, σ => avp C b (Exit.inBlockA id Q) σ
  | .loop b, Q, σ => ∃ n, Rounds (avp C b) Q n σ
  | .exit id, Q, σ => Q (.exit id) σ
  | .ret, Q, σ => Q .ret σ
  | .weak, Q, σ => ∃ σ', Wk σ σ' ∧ Q .normal σ'

/-! ### From the model's code -/

def opToG (ops : Array Oper) (o : Oper) : GOp := ⟨o.dst, match o.guard with
  | none => none
  | some (j, want) => match (ops[j]?).bind (·.dst) with
    | some d => some (d, want)
    | none => some (1000000, want), o.op⟩

/-- Does it hang on slots alone, and make nothing? -/
def isPlain : Op → Bool
  | .move _ | .assign _ | .pick .. | .build .. | .nilCheck _ | .binOp .. | .unOp .. | .makeFunc .. | .slice .. | .fieldAddr .. | .field .. | .indexAddr .. | .index .. | .extract .. => true
  | .call c => match c.callee with
    | .builtin .len | .builtin .min | .builtin .max => true
    | _ => false
  | _ => false

def isAppend : Option Bar → Bool
  | some (.append ..) => true
  | _ => false

def okPair (C : Ctx) (ops : Array Oper) (x y : Oper) : Bool :=
  x.apart ops y && (isPlain x.op || isPlain y.op || ((barOf C x.op).isNone && (barOf C y.op).isNone) || (isAppend (barOf C x.op) && (barOf C y.op).isNone))

/-- All that an operation waits for, one behind the other: as bits. -/
def waits (acc : List Nat) (o : Oper) : Nat := o.after.toList.foldl (fun s e => if Region.binds .any e then s ||| 2 ^ e.on ||| acc.getD e.on 0 else s) 0

def allWaits : List Oper → List Nat → List Nat
  | [], acc => acc
  | o :: r, acc => allWaits r (acc ++ [waits acc o])

/-- The text's order stands for every order. -/
def orderOk (C : Ctx) (ops : Array Oper) : Bool :=
  Region.noSelect ops && (List.range ops.size).all fun j => match ops[j]? with
    | none => false
    | some oj => oj.after.all (fun e => !Region.binds .any e || decide (e.on < j)) &&
      (List.range j).all fun i => match ops[i]? with
        | none => false
        | some oi => ((allWaits ops.toList []).getD j 0).testBit i || okPair C ops oi oj

def dstOk (N : Nat) (ops : Array Oper) (o : Oper) : Bool :=
  (match o.dst with | none => true | some d => decide (d < N)) &&
  (match o.guard with | none => true | some (j, _) => match (ops[j]?).bind (·.dst) with | some d => decide (d < N) | none => false)

/-- Commutes with all that is not listed, or is waited for by it. -/
def safeAt (C : Ctx) (ops : Array Oper) (ws : List Nat) (listed : Array Bool) (i : Nat) : Bool :=
  match ops[i]? with
  | none => false
  | some oi => (List.range ops.size).all fun j => listed.getD j false || j == i || (ws.getD j 0).testBit i || match ops[j]? with
    | none => false
    | some oj => okPair C ops oi oj

def ndT (ops : Array Oper) (i : Nat) (t : OTree) : OTree :=
  match ops[i]? with
  | none => t
  | some o => .one (opToG ops o) t

def bothL : List OTree → OTree
  | [] => .done
  | [a] => a
  | a :: r => .both a (bothL r)

/-- Every order, as far as it matters. -/
def orders (C : Ctx) (ops : Array Oper) (ws : List Nat) : Nat → Array Bool → OTree
  | 0, _ => .done
  | n + 1, listed => match (Region.ready .any ops listed).find? (safeAt C ops ws listed) with
    | some i => ndT ops i (orders C ops ws n (listed.setIfInBounds i true))
    | none => bothL ((Region.ready .any ops listed).map fun i => ndT ops i (orders C ops ws n (listed.setIfInBounds i true)))

def toG (C : Ctx) (N : Nat) : Code → Option GCode
  | .skip => some .skip
  | .region _ ops draw => if (decide (ops.size < 1000) && ops.all (dstOk N ops)) then
      (if (!draw || orderOk C ops) then some (.region (ops.toList.map (opToG ops))) else some (.orders (orders C ops (allWaits ops.toList []) ops.size (Array.replicate ops.size false)))) else none
  | .seq a b => match toG C N a, toG C N b with
    | some x, some y => some (.seq x y)
    | _, _ => none
  | .cond c a b => match toG C N a, toG C N b with
    | some x, some y => some (.cond c x y)
    | _, _ => none
  | .block id b => (toG C N b).map (.block id)
  | .loop b => (toG C N b).map .loop
  | .exit id => some (.exit id)
  | .ret => some .ret
  | _ => none

end Go.Eng

namespace Go.Eng
section
variable {P : Program} {C : Ctx} {F A : Addr → Prop} {β : Bt} {s : Store} {w : World}

/-- What carrying out an operation comes to. -/
def EffN (P : Program) (F : Addr → Prop) (β : Bt) (s : Store) (w : World) (m : Sem Next) (b : B) : Prop :=
  ∃ gs v β' w', m.run P w = .ok (.value v) w' ∧ (Fresh (s.marks b.ros) gs b.es ∧ ∀ g ∈ gs, β g = none) ∧ StOk F β' ((s.marks b.ros).adds gs b.es) w' ∧
    Frame (OwnOf β s) β w (OwnOf β' ((s.marks b.ros).adds gs b.es)) β' w' ∧ Rep β' w' (Or2 F (OwnOf β' ((s.marks b.ros).adds gs b.es))) (b.av gs) v

theorem EffN.of {m : Sem Value} {b : B} (h : Eff P F β s w m b) : EffN P F β s w (do pure (.value (← m))) b := by
  obtain ⟨gs, v, β', w', h1, h2⟩ := h
  exact ⟨gs, v, β', w', by simp [h1], h2⟩

def callsGo : Op → Bool
  | .call c => match c.callee with
    | .value _ => true
    | _ => false
  | _ => false

theorem av_val (C : Ctx) (ev : Operand → AV) (a : Operand) (gs : List Nat) : (opB C ev s (.move a)).av gs = ev a := rfl

theorem opt_ev {x : Option Operand} {ev : Operand → AV} {ρ : Operand → Value} (h : ∀ o, x = some o → Rep β w A (ev o) (ρ o)) :
    (∀ a, x.map ev = some a → ∃ v, x.map ρ = some v ∧ Rep β w A a v) ∧ (x.map ev = none → x.map ρ = none) := by
  cases x with
  | none => exact ⟨fun a h => (by cases h), fun _ => rfl⟩
  | some o => exact ⟨fun a ha => (by cases ha; exact ⟨_, rfl, h o rfl⟩), fun h => (by cases h)⟩

theorem opB_sound (hT : TyOk P C.ty) (hE : EqOk P C) (hz : ∀ T ks, C.eqk T = some ks → ∀ k ∈ ks, k ≠ 0) (hs : StOk F β s w) {o : Oper} {ev : Operand → AV} {ρ : Operand → Value}
    (hev : ∀ x ∈ o.op.operands, Rep β w (Or2 F (OwnOf β s)) (ev x) (ρ x)) (hc : (opB C ev s o.op).c) (hn : callsGo o.op = false) : EffN P F β s w (execOp ρ o) (opB C ev s o.op) := by
  obtain ⟨dst, op, ty, pos, after, guard⟩ := o
  dsimp only at hev hc hn ⊢
  cases op <;> simp only [opB] at hc ⊢ <;> first | exact hc.elim | skip
  case move x =>
    exact EffN.of (m := pure (ρ x)) (Eff.of_val hs (Val.mk rfl (hev x (by simp [Op.operands]))))
  case assign x =>
    exact EffN.of (m := pure (ρ x)) (Eff.of_val hs (Val.mk rfl (hev x (by simp [Op.operands]))))
  case pick c a b =>
    have := EffN.of (Eff.of_val hs (pickB_sound (P := P) (hev c (by simp [Op.operands])) (hev a (by simp [Op.operands])) (hev b (by simp [Op.operands])) hc))
    simpa [execOp] using this
  case alloc t => exact EffN.of (allocB_sound hT hs hc)
  case box t x => exact EffN.of (boxB_sound hs (hev x (by simp [Op.operands])) hc)
  case build t ps => exact EffN.of (Eff.of_val hs (buildB_sound hT (fun p hp => hev p.2 (by simp only [Op.operands]; simpa using ⟨p.1, by simpa using hp⟩)) hc))
  case buildSlice t n ps => exact EffN.of (buildSliceB_sound hT hs (fun p hp => hev p.2 (by simp only [Op.operands]; simpa using ⟨p.1, by simpa using hp⟩)) hc)
  case load t x => exact EffN.of (Eff.of_val hs (loadB_sound hT hs (hev x (by simp [Op.operands])) hc))
  case nilCheck x =>
    obtain ⟨h1, h2, h3, h4⟩ := nilB_sound (hev x (by simp [Op.operands])) hc
    refine ⟨[], ρ x, β, w, ?_, ?_⟩
    · simp only [execOp]
      generalize ρ x = v at h4 ⊢
      cases v <;> first | rfl | skip
      case pointer a => cases a <;> first | rfl | (simp [notNil] at h4)
      case func f p q => cases f <;> first | rfl | (simp [notNil] at h4)
      all_goals (simp [notNil] at h4)
    · rw [h1, h2]
      exact ⟨⟨trivial, by simp⟩, hs, Frame.refl _ _ _, h3⟩
  case binOp op T x y u => exact EffN.of (Eff.of_val hs (binB_sound hT hE hz x y (hev x (by simp [Op.operands])) (hev y (by simp [Op.operands])) hc))
  case unOp op T x => exact EffN.of (Eff.of_val hs (unB_sound (hev x (by simp [Op.operands])) hc))
  case convert a b x => exact EffN.of (convB_sound hT hs (hev x (by simp [Op.operands])) hc)
  case makeFunc fn first caps =>
    obtain ⟨first⟩ := first
    dsimp only at hc ⊢
    split at hc
    · next f =>
      have hc : (caps.toList.map ev).all AV.one = true := hc
      refine EffN.of (Eff.of_val hs (Val.mk (v := .func (.func f) #[] (caps.map ρ)) (by simp [Instr.makeFunc]) (.fn _ _ _ (by simp) (fun i hi => ?_) fun i hi => ?_)))
      · have hi' : i < caps.size := by simpa using hi
        have := List.all_eq_true.1 hc (ev caps[i]) (List.mem_map.2 ⟨caps[i], by simp, rfl⟩)
        simpa [List.getD_eq_getElem?_getD, hi'] using this
      · have hi' : i < caps.size := by simpa using hi
        have := hev caps[i] (by simp [Op.operands])
        simpa [List.getD_eq_getElem?_getD, Array.getD_eq_getD_getElem?, hi'] using this
    · exact hc.elim
  case makeSlice t l c => exact EffN.of (makeSliceB_sound hT hs (hev l (by simp [Op.operands])) (hev c (by simp [Op.operands])) hc)
  case slice t x lo hi mx =>
    obtain ⟨l1, l2⟩ := opt_ev (x := lo) (ev := ev) (ρ := ρ) (fun o ho => hev o (by subst ho; simp [Op.operands]))
    obtain ⟨h1, h2⟩ := opt_ev (x := hi) (ev := ev) (ρ := ρ) (fun o ho => hev o (by subst ho; simp [Op.operands]))
    obtain ⟨m1, m2⟩ := opt_ev (x := mx) (ev := ev) (ρ := ρ) (fun o ho => hev o (by subst ho; simp [Op.operands]))
    exact EffN.of (Eff.of_val hs (sliceB_sound hT (hev x (by simp [Op.operands])) l1 l2 h1 h2 m1 m2 hc))
  case fieldAddr t x f => exact EffN.of (Eff.of_val hs (fieldAddrB_sound hT (hev x (by simp [Op.operands])) hc))
  case field t x f => exact EffN.of (Eff.of_val hs (fieldB_sound hT (hev x (by simp [Op.operands])) hc))
  case indexAddr t x i => exact EffN.of (Eff.of_val hs (idxB_sound hT (hev x (by simp [Op.operands])) (hev i (by simp [Op.operands])) hc))
  case index t x i => exact EffN.of (Eff.of_val hs (indexB_sound hT (hev x (by simp [Op.operands])) (hev i (by simp [Op.operands])) hc))
  case extract x i => exact EffN.of (Eff.of_val hs (extB_sound (hev x (by simp [Op.operands])) hc))
  case call c =>
    obtain ⟨callee, args, argTypes⟩ := c
    dsimp only at hc hev hn ⊢
    cases callee with
    | value h => simp [callsGo] at hn
    | invoke r m => exact hc.elim
    | builtin b =>
      cases b <;> first | exact hc.elim | skip
      case len =>
        obtain ⟨args⟩ := args
        obtain ⟨argTypes⟩ := argTypes
        dsimp only at hc ⊢
        split at hc
        · next T ts x =>
          have := EffN.of (Eff.of_val hs (lenB_sound (P := P) (t := ty) (ts := ts) hT (hev x (by simp [Op.operands, Call.operands])) hc))
          simpa [execOp, resolve, invoke, builtin] using this
        · exact hc.elim
      case max =>
        obtain ⟨args⟩ := args
        dsimp only at hc ⊢
        split at hc
        · next x y =>
          have := EffN.of (Eff.of_val hs (maxB_sound (P := P) argTypes ty (hev x (by simp [Op.operands, Call.operands])) (hev y (by simp [Op.operands, Call.operands])) hc))
          simpa [execOp, resolve, invoke, builtin] using this
        · exact hc.elim
      case min =>
        obtain ⟨args⟩ := args
        dsimp only at hc ⊢
        split at hc
        · next x y =>
          have := EffN.of (Eff.of_val hs (minB_sound (P := P) argTypes ty (hev x (by simp [Op.operands, Call.operands])) (hev y (by simp [Op.operands, Call.operands])) hc))
          simpa [execOp, resolve, invoke, builtin] using this
        · exact hc.elim

end
end Go.Eng

namespace Go.Eng
section
variable {P : Program} {C : Ctx} {F A : Addr → Prop} {β : Bt} {s : Store} {w : World}

def FnOk (P : Program) (f : FuncId) : Prop := ∃ fn, P.funcs[f]? = some fn ∧ (fn.name == "runtime.NumGoroutine") = false ∧ fn.body.isNone = false

def Nothing : Addr → Prop := fun _ => False

/-- A function that writes nothing that was there; what it makes is its result's. -/
def PureOk (P : Program) (f : FuncId) (c : List AV → Prop) (es : List AV → List Entry) (mk : List AV → List Nat → AV) : Prop :=
  ∀ as vs β w A, (∀ a, A a → a.block < w.heap.size) → (∃ N, ∀ g, N ≤ g → β g = none) → (∀ g b, β g = some (some b) → b < w.heap.size) → Args β w A as vs → c as →
    Calls P f vs w fun e w' => ∃ β' gs v, e = .returned v ∧ Fresh .empty gs (es as) ∧ (∀ g ∈ gs, β g = none) ∧ StOk A β' (Store.empty.adds gs (es as)) w' ∧
      Frame Nothing β w (OwnOf β' (Store.empty.adds gs (es as))) β' w' ∧ Rep β' w' (Or2 A (OwnOf β' (Store.empty.adds gs (es as)))) (mk as gs) v

/-- A function that writes nothing that was there, and whose result is numbers, bools, texts. -/
def ScalOk (P : Program) (f : FuncId) (c : List AV → Prop) (r : List AV → AV) : Prop :=
  ∀ as vs β w A, (∀ a, A a → a.block < w.heap.size) → (∃ N, ∀ g, N ≤ g → β g = none) → (∀ g b, β g = some (some b) → b < w.heap.size) → Args β w A as vs → c as →
    Calls P f vs w fun e w' => ∃ O' β' v, e = .returned v ∧ Frame Nothing β w O' β' w' ∧ ∀ β w A, Rep β w A (r as) v

def GenOk (P : Program) (f : FuncId) (G : List AV → Store → (AV → Store → Prop) → Prop) : Prop :=
  (∀ as s Q Q', (∀ r t, Q r t → Q' r t) → G as s Q → G as s Q') ∧ (∀ as s Q, G as s Q → ∃ r t, Q r t) ∧
  ∀ as vs β s w F Q, G as s Q → StOk F β s w → Args β w (Or2 F (OwnOf β s)) as vs →
    Calls P f vs w fun e w' => ∃ β' r s' v, e = .returned v ∧ Q r s' ∧ StOk F β' s' w' ∧ Rep β' w' (Or2 F (OwnOf β' s')) r v ∧ Frame (OwnOf β s) β w (OwnOf β' s') β' w' ∧ Grew β s s'

def ConOk (P : Program) (C : Ctx) : Prop := ∀ f k, C.con f = some k → FnOk P f ∧ match k with
  | .pure c es mk => PureOk P f c es mk
  | .scal c r => ScalOk P f c r
  | .gen _ G => GenOk P f G

/-! ### New tokens beside old ones -/

theorem fresh_len : ∀ {s : Store} (gs : List Nat) (es : List Entry), Fresh s gs es → gs.length = es.length
  | _, [], [], _ => rfl
  | _, g :: gs, e :: es, h => by simp [fresh_len gs es h.2]
  | _, [], _ :: _, h => h.elim
  | _, _ :: _, [], h => h.elim

theorem fresh_notin : ∀ {s : Store} (gs : List Nat) (es : List Entry), Fresh s gs es → ∀ g ∈ gs, s.f g = none
  | _, [], [], _, g, hg => by simp at hg
  | s, g :: gs, e :: es, h, k, hk => by
    rcases List.mem_cons.1 hk with rfl | hk
    · exact h.1
    · have := fresh_notin gs es h.2 k hk
      by_cases hkg : k = g
      · subst hkg; exact h.1
      · rwa [Store.set_other _ _ hkg] at this
  | _, [], _ :: _, h, _, _ => h.elim
  | _, _ :: _, [], h, _, _ => h.elim

theorem adds_other : ∀ {s : Store} (gs : List Nat) (es : List Entry) (k : Nat), k ∉ gs → (s.adds gs es).f k = s.f k
  | s, [], es, k, _ => by cases es <;> rfl
  | s, _ :: _, [], k, _ => rfl
  | s, g :: gs, e :: es, k, hk => by
    simp only [Store.adds]
    rw [adds_other gs es k (by simp at hk; exact hk.2), Store.set_other _ _ (by simp at hk; exact hk.1)]

theorem adds_same : ∀ {s t : Store} (gs : List Nat) (es : List Entry) (k : Nat), gs.length = es.length → k ∈ gs → (s.adds gs es).f k = (t.adds gs es).f k
  | _, _, [], _, k, _, h => by simp at h
  | _, _, _ :: _, [], k, h, _ => by simp at h
  | s, t, g :: gs, e :: es, k, hl, hk => by
    simp only [Store.adds]
    by_cases hk2 : k ∈ gs
    · exact adds_same gs es k (by simpa using hl) hk2
    · rw [adds_other gs es k hk2, adds_other gs es k hk2]
      rcases List.mem_cons.1 hk with rfl | h
      · rw [Store.set_same, Store.set_same]
      · exact absurd h hk2

theorem fresh_of : ∀ {s t : Store} (gs : List Nat) (es : List Entry), Fresh t gs es → (∀ g ∈ gs, s.f g = none) → Fresh s gs es
  | _, _, [], [], _, _ => trivial
  | s, t, g :: gs, e :: es, h, hn => by
    refine ⟨hn g (by simp), fresh_of gs es h.2 fun k hk => ?_⟩
    have h1 := fresh_notin gs es h.2 k hk
    by_cases hkg : k = g
    · subst hkg; rw [Store.set_same] at h1; cases h1
    · rw [Store.set_other _ _ hkg]; exact hn k (by simp [hk])
  | _, _, [], _ :: _, h, _ => h.elim
  | _, _, _ :: _, [], h, _ => h.elim

theorem empty_f (k : Nat) : Store.empty.f k = none := rfl

theorem StOk.some_of (h : StOk F β s w) {g : Nat} (hg : s.f g ≠ none) : β g ≠ none := fun h0 => hg (h.none_of h0)

theorem merge {β' : Bt} {w' : World} {gs : List Nat} {es : List Entry} (h : StOk F β s w) (hfr : Fresh .empty gs es) (hg : ∀ g ∈ gs, β g = none)
    (h1 : StOk (Or2 F (OwnOf β s)) β' (Store.empty.adds gs es) w') (hf : Frame Nothing β w (OwnOf β' (Store.empty.adds gs es)) β' w') :
    StOk F β' (s.adds gs es) w' ∧ Frame (OwnOf β s) β w (OwnOf β' (s.adds gs es)) β' w' ∧ (∀ a, Or2 F (OwnOf β' (s.adds gs es)) a → Or2 (Or2 F (OwnOf β s)) (OwnOf β' (Store.empty.adds gs es)) a) := by
  have hlen := fresh_len gs es hfr
  have inS1 : ∀ k, k ∈ gs → (s.adds gs es).f k = (Store.empty.adds gs es).f k := fun k hk => adds_same gs es k hlen hk
  have inS : ∀ k, k ∉ gs → (s.adds gs es).f k = s.f k := fun k hk => adds_other gs es k hk
  have s1none : ∀ k, k ∉ gs → (Store.empty.adds gs es).f k = none := fun k hk => by rw [adds_other gs es k hk]; rfl
  have oldβ : ∀ k b, s.f k ≠ none → β' k = some (some b) → β k = some (some b) := fun k b hk hb => by
    cases hβ : β k with
    | none => exact absurd hβ (h.some_of hk)
    | some x => rw [hf.ext k x hβ] at hb; exact hb
  have newb : ∀ k b, k ∈ gs → β' k = some (some b) → w.heap.size ≤ b := fun k b hk hb => by
    rcases hf.new k b hb with h2 | ⟨_, h2 | ⟨_, h2⟩⟩
    · rw [hg k hk] at h2; cases h2
    · exact h2
    · exact h2.elim
  have hown : ∀ a, OwnOf β' (s.adds gs es) a → OwnOf β s a ∨ OwnOf β' (Store.empty.adds gs es) a := fun a ha => by
    obtain ⟨k, b, g1, g2, g3⟩ := ha
    by_cases hk : k ∈ gs
    · rw [inS1 k hk] at g3; exact .inr ⟨k, b, g1, g2, g3⟩
    · rw [inS k hk] at g3
      have hne : s.f k ≠ none := fun h0 => by rw [h0] at g3; exact g3
      exact .inl ⟨k, b, oldβ k b hne g1, g2, g3⟩
  have hfr2 : Frame (OwnOf β s) β w (OwnOf β' (s.adds gs es)) β' w' := {
    os := hf.os, tape := hf.tape, output := hf.output, size := hf.size
    block := fun b hb _ => hf.block b hb fun _ h => h
    cell := fun b off hb _ => hf.cell b off hb fun h => h
    shape := hf.shape
    own := fun b off hb ha => (hown _ ha).elim id fun ha => (hf.own b off hb ha).elim
    ext := hf.ext
    new := fun g b hb => (hf.new g b hb).imp id fun ⟨q1, q2⟩ => ⟨q1, q2.imp id fun ⟨_, q3⟩ => q3.elim⟩ }
  have hsub : ∀ a, Or2 F (OwnOf β' (s.adds gs es)) a → Or2 (Or2 F (OwnOf β s)) (OwnOf β' (Store.empty.adds gs es)) a := fun a ha => by
    rcases ha with ha | ha
    · exact .inl (.inl ha)
    · exact (hown a ha).imp .inr id
  refine ⟨h.evolve hfr2 (fun g e he => ?_) (fun g k b hgn hkn hgb hkb => ?_) h1.fin h1.dom (fun a ha g hgn => ?_), hfr2, hsub⟩
  · by_cases hk : g ∈ gs
    · rw [inS1 g hk] at he; exact .inr ((h1.ents g e he).mono hsub)
    · rw [inS g hk] at he; exact .inl ⟨he, fun b hb => hf.block b (h.dom g b hb) fun _ h => h⟩
  · by_cases h2 : g ∈ gs <;> by_cases h3 : k ∈ gs
    · rw [inS1 g h2] at hgn; rw [inS1 k h3] at hkn; exact h1.inj g k b hgn hkn hgb hkb
    · rw [inS k h3] at hkn
      have a1 := newb g b h2 hgb
      have a2 := h.dom k b (oldβ k b hkn hkb)
      omega
    · rw [inS g h2] at hgn
      have a1 := newb k b h3 hkb
      have a2 := h.dom g b (oldβ g b hgn hgb)
      omega
    · rw [inS g h2] at hgn; rw [inS k h3] at hkn; exact h.inj g k b hgn hkn (oldβ g b hgn hgb) (oldβ k b hkn hkb)
  · by_cases h2 : g ∈ gs
    · rw [inS1 g h2] at hgn; exact h1.apart a (.inl ha) g hgn
    · rw [inS g h2] at hgn
      intro h3
      exact h.apart a ha g hgn (oldβ g _ hgn h3)

/-! ### A call -/

theorem run_callFunc {f : FuncId} (h : FnOk P f) (args : Array Value) : (callFunc f args).run P w = .ok (.enter f args) w := by
  obtain ⟨fn, h1, h2, h3⟩ := h
  have h2' : ¬ fn.name = "runtime.NumGoroutine" := by simpa using h2
  have h3' : ¬ fn.body = none := fun h => (by rw [h] at h3; cases h3)
  simp [callFunc, h1, h2', h3']

theorem args_app {as bs : List AV} {vs us : Array Value} (h : Args β w A as vs) (k : Args β w A bs us) : Args β w A (as ++ bs) (vs ++ us) := by
  refine ⟨by simp [h.1, k.1], fun i hi => ?_⟩
  simp only [List.length_append] at hi
  by_cases hlt : i < as.length
  · have := h.2 i hlt
    have e1 : (as ++ bs).getD i .unk = as.getD i .unk := by simp [List.getD_eq_getElem?_getD, List.getElem?_append_left hlt]
    have e2 : (vs ++ us).getD i undef = vs.getD i undef := by simp [Array.getD_eq_getD_getElem?, Array.getElem?_append_left (show i < vs.size by rw [← h.1]; exact hlt)]
    rw [e1, e2]; exact this
  · have := k.2 (i - as.length) (by omega)
    have e1 : (as ++ bs).getD i .unk = bs.getD (i - as.length) .unk := by simp [List.getD_eq_getElem?_getD, List.getElem?_append_right (Nat.not_lt.1 hlt)]
    have e2 : (vs ++ us).getD i undef = us.getD (i - as.length) undef := by
      rw [h.1]
      simp [Array.getD_eq_getD_getElem?, Array.getElem?_append_right (show vs.size ≤ i by rw [← h.1]; omega)]
    rw [e1, e2]; exact this

theorem args_map {l : List Operand} {ev : Operand → AV} {ρ : Operand → Value} (h : ∀ x ∈ l, Rep β w A (ev x) (ρ x)) : Args β w A (l.map ev) (l.map ρ).toArray := by
  refine ⟨by simp, fun i hi => ?_⟩
  have hi' : i < l.length := by simpa using hi
  have := h l[i] (List.getElem_mem hi')
  simpa [List.getD_eq_getElem?_getD, Array.getD_eq_getD_getElem?, hi'] using this

/-- What a called function comes to. -/
def CallN (P : Program) (F : Addr → Prop) (β : Bt) (s : Store) (w : World) (f : FuncId) (vs : Array Value) (b : B) : Prop :=
  Calls P f vs w fun e w' => ∃ gs v β', e = .returned v ∧ (Fresh (s.marks b.ros) gs b.es ∧ ∀ g ∈ gs, β g = none) ∧ StOk F β' ((s.marks b.ros).adds gs b.es) w' ∧
    Frame (OwnOf β s) β w (OwnOf β' ((s.marks b.ros).adds gs b.es)) β' w' ∧ Rep β' w' (Or2 F (OwnOf β' ((s.marks b.ros).adds gs b.es))) (b.av gs) v

theorem own_lt (h : StOk F β s w) : ∀ a, Or2 F (OwnOf β s) a → a.block < w.heap.size := fun a ha => by
  rcases ha with ha | ⟨g, b, h1, h2, _⟩
  · exact h.far a ha
  · rw [h2]; exact h.dom g b h1

theorem callB_sound (hcon : ConOk P C) (hs : StOk F β s w) {f : FuncId} {as : List AV} {vs : Array Value} (ha : Args β w (Or2 F (OwnOf β s)) as vs) (hc : (callB C s f as).c) : FnOk P f ∧ CallN P F β s w f vs (callB C s f as) := by
  unfold callB at hc ⊢
  cases hk : C.con f with
  | none => rw [hk] at hc; exact hc.elim
  | some k =>
    obtain ⟨hfn, hok⟩ := hcon f k hk
    refine ⟨hfn, ?_⟩
    cases hb : s.borrows as with
    | none => rw [hk, hb] at hc; cases k <;> exact hc.elim
    | some p =>
      obtain ⟨bs, ros⟩ := p
      rw [hk, hb] at hc
      cases k with
      | gen modes G => exact hc.elim
      | pure c es mk =>
        obtain ⟨hl, hr⟩ := borrows_sound hs as bs ros ros (fun i => vs.getD i undef) hb (fun _ h => h) ha.2
        have hsm := StOk.marks ros hs
        have := hok bs vs β w (Or2 F (OwnOf β (s.marks ros))) (own_lt hsm) hs.fin hs.dom ⟨hl.trans ha.1, fun i hi => hr i (hl ▸ hi)⟩ hc
        refine this.mono fun e w' ⟨β', gs, v, h1, h2, h3, h4, h5, h6⟩ => ?_
        obtain ⟨m1, m2, m3⟩ := merge hsm h2 h3 h4 h5
        exact ⟨gs, v, β', h1, ⟨fresh_of gs _ h2 fun g hg => hsm.none_of (h3 g hg), h3⟩, m1, (Frame.marks ros).trans m2, h6.mono m3⟩
      | scal c r =>
        obtain ⟨hl, hr⟩ := borrows_sound hs as bs ros ros (fun i => vs.getD i undef) hb (fun _ h => h) ha.2
        have hsm := StOk.marks ros hs
        have := hok bs vs β w (Or2 F (OwnOf β (s.marks ros))) (own_lt hsm) hs.fin hs.dom ⟨hl.trans ha.1, fun i hi => hr i (hl ▸ hi)⟩ hc
        refine this.mono fun e w' ⟨O', β', v, h1, hf, h2⟩ => ?_
        have hf2 : Frame (OwnOf β s) β w (OwnOf β s) β w' := {
          os := hf.os, tape := hf.tape, output := hf.output, size := hf.size
          block := fun b hb _ => hf.block b hb fun _ h => h
          cell := fun b off hb _ => hf.cell b off hb fun h => h
          shape := hf.shape
          own := fun b off hb ha => ha
          ext := fun _ _ h => h
          new := fun g b hb => .inl hb }
        refine ⟨[], v, β, h1, ⟨trivial, by simp⟩, ?_, hf2, h2 _ _ _⟩
        exact hs.evolve hf2 (fun g e he => .inl ⟨he, fun b hb => hf.block b (hs.dom g b hb) fun _ h => h⟩) hs.inj hs.fin (fun g b hb => Nat.lt_of_lt_of_le (hs.dom g b hb) hf.size) hs.apart

end
end Go.Eng

namespace Go.Eng
section
variable {P : Program} {C : Ctx} {F A : Addr → Prop} {β : Bt} {s : Store} {w : World}

def putL (c : Array Value) (k : Nat) : List Value → Array Value
  | [] => c
  | v :: r => putL (c.setIfInBounds k v) (k + 1) r

theorem putL_size : ∀ (vs : List Value) (c : Array Value) (k : Nat), (putL c k vs).size = c.size
  | [], _, _ => rfl
  | v :: r, c, k => by simp [putL, putL_size r]

theorem putL_get : ∀ (vs : List Value) (c : Array Value) (k q : Nat), k + vs.length ≤ c.size → (putL c k vs)[q]? = if k ≤ q ∧ q < k + vs.length then vs[q - k]? else c[q]?
  | [], c, k, q, _ => by rw [if_neg (by simp only [List.length_nil]; omega)]; rfl
  | v :: r, c, k, q, h => by
    simp only [List.length_cons] at h
    rw [putL, putL_get r _ _ q (by simp; omega)]
    simp only [List.length_cons]
    by_cases hq : q = k
    · subst hq
      rw [if_neg (by omega), if_pos (by omega)]
      have : q < c.size := by omega
      simp [this]
    · have hne : ¬ k = q := fun e => hq e.symm
      by_cases hr : k + 1 ≤ q ∧ q < k + 1 + r.length
      · rw [if_pos hr, if_pos (by omega), show q - k = (q - (k + 1)) + 1 from by omega]
        simp
      · rw [if_neg hr, if_neg (by omega)]
        simp [hne]

theorem setCell_repl {b off : Nat} {c : Array Value} {T : TypeId} {fr : Nat × Nat} (hb : w.heap[b]? = some (.cells c T fr)) (v : Value) : w.setCell ⟨b, off, none⟩ v = repl w b (c.setIfInBounds off v) T fr := by
  have hlt : b < w.heap.size := (Array.getElem?_eq_some_iff.1 hb).1
  unfold World.setCell repl
  congr 1
  apply Array.ext_getElem?
  intro i
  rw [Array.getElem?_modify, Array.getElem?_setIfInBounds]
  by_cases h : b = i
  · subst h; rw [if_pos rfl, if_pos rfl, if_pos hlt, hb]; rfl
  · rw [if_neg h, if_neg h]

theorem run_storeCells {b off : Nat} {T : TypeId} {fr : Nat × Nat} : ∀ (vs : List Value) (i : Nat) (c : Array Value) (w : World), w.heap[b]? = some (.cells c T fr) → thawed fr c.size → off + i + vs.length ≤ c.size → (∀ v ∈ vs, v.oneCell' = true) →
    (storeCells ⟨b, off, none⟩ vs i).run P w = .ok () (repl w b (putL c (off + i) vs) T fr)
  | [], i, c, w, hb, _, _, _ => by simp [storeCells, putL, repl_self hb]
  | v :: r, i, c, w, hb, ht, hl, h1 => by
    simp only [List.length_cons] at hl
    have hcell : w.cell? ⟨b, off + i, none⟩ = some (c.getD (off + i) undef) := thaw_cell hb (by omega)
    have hfz : w.frozen? ⟨b, off + i, none⟩ = false := by
      have := ht (off + i) (by omega)
      obtain ⟨lo, hi⟩ := fr
      simp only [World.frozen?, hb]
      dsimp only at this
      simpa using this
    have hst : (store (⟨b, off + i, none⟩) v).run P w = .ok () (w.setCell ⟨b, off + i, none⟩ v) := by
      rw [run_store P w _ v .plain (h1 v (by simp))]
      simp [hcell, hfz]
    have hsz : off + (i + 1) + r.length ≤ (c.setIfInBounds (off + i) v).size := by rw [Array.size_setIfInBounds]; omega
    have ih := run_storeCells r (i + 1) (c.setIfInBounds (off + i) v) (repl w b (c.setIfInBounds (off + i) v) T fr) (repl_same hb) (by simpa using ht) hsz fun u hu => h1 u (by simp [hu])
    rw [storeCells, add_at]
    rw [show off + (i + 1) = off + i + 1 from by omega] at ih
    simp only [Sem.run_bind, hst, Result.andThen_ok, setCell_repl hb, ih, repl_repl, putL]

theorem cells_oneC {v : Value} {x : AV} (h : RepL β w A x.cells v.cells) : ∀ u ∈ v.cells.toList, u.oneCell' = true := by
  intro u hu
  obtain ⟨i, hi, rfl⟩ := List.getElem_of_mem hu
  have hi' : i < v.cells.size := by simpa using hi
  obtain ⟨h1, h2⟩ := h.2 i (by rw [h.1]; exact hi')
  have := h2.oneC h1
  simpa [Array.getD_eq_getD_getElem?, hi'] using this

/-- What a store comes to. -/
def WriteN (P : Program) (F : Addr → Prop) (β : Bt) (s : Store) (w : World) (m : Sem Unit) (K : Store → Prop) : Prop :=
  ∃ s' w', m.run P w = .ok () w' ∧ K s' ∧ StOk F β s' w' ∧ Frame (OwnOf β s) β w (OwnOf β s') β w'

theorem own_token {g b off : Nat} {e : Entry} (hg : s.f g = some e) (hb : β g = some (some b)) (h : match e with | .row n l ro => ro = true → l.length * n ≤ off | .box _ ro => ro = false) : OwnOf β s ⟨b, off, none⟩ := by
  refine ⟨g, b, hb, rfl, ?_⟩
  rw [hg]
  cases e <;> exact h

theorem storeT_sound (hT : TyOk P C.ty) (hs : StOk F β s w) {T : TypeId} {x y : AV} {v u : Value} (hx : Rep β w (Or2 F (OwnOf β s)) x v) (hy : Rep β w (Or2 F (OwnOf β s)) y u) {K : Store → Prop} (hc : storeT C T x y K s) :
    WriteN P F β s w (Instr.storeAt T v u) K := by
  unfold storeT at hc
  split at hc
  · next d hd =>
    split at hc
    · next g off =>
      split at hc
      · next cs ro hg =>
        obtain ⟨rfl, hl, hle, hone, hK⟩ := hc
        cases hx with
        | ptr g off b hb =>
          obtain ⟨b', c, Tc, fr, h2, h3, h4, h5, h6⟩ := hs.ents _ _ hg
          rw [hb] at h2
          obtain rfl : b = b' := by simpa using h2
          have hL := hy.cellsL hone
          have hvl : u.cells.toList.length = d.size := by simp [← hL.1, hl]
          have hsz : u.cells.size = d.size := by simpa using hvl
          have hr := run_storeCells (P := P) (off := off) u.cells.toList 0 c w h3 h4 (by omega) (cells_oneC hL)
          simp only [Nat.add_zero] at hr
          have hps := putL_size u.cells.toList c off
          have hpg := fun q => putL_get u.cells.toList c off q (by omega)
          have hf : Frame (OwnOf β s) β w (OwnOf β (s.set g (some (.box (splice cs off y.cells) false)))) β (repl w b (putL c off u.cells.toList) Tc fr) := by
            refine repl_frame h3 hps (fun q hq => ?_) (fun k q hk ha => ?_) (fun _ _ h => h) fun _ _ h => .inl h
            · exact absurd (own_token (off := q) hg hb rfl) hq
            · obtain ⟨k', b'', g1, g2, g3⟩ := ha
              by_cases hkg : k' = g
              · subst hkg
                exact ⟨k', b'', g1, g2, by rw [hg]⟩
              · rw [Store.set_other _ _ hkg] at g3; exact ⟨k', b'', g1, g2, g3⟩
          have hs' : StOk F β (s.set g (some (.box (splice cs off y.cells) false))) (repl w b (putL c off u.cells.toList) Tc fr) := by
            have dom' : ∀ k, (s.set g (some (.box (splice cs off y.cells) false))).f k ≠ none → s.f k ≠ none := fun k hk => by
              by_cases hkg : k = g
              · subst hkg; rw [hg]; simp
              · rwa [Store.set_other _ _ hkg] at hk
            refine hs.evolve hf (fun k e he => ?_) (fun k m b hk hm => hs.inj k m b (dom' k hk) (dom' m hm)) hs.fin (fun k q hq => by rw [repl_size]; exact hs.dom k q hq) fun a ha k hk => hs.apart a ha k (dom' k hk)
            by_cases hkg : k = g
            · subst hkg
              rw [Store.set_same] at he
              cases he
              right
              have hsp := RepL.splice (vs' := putL c off u.cells.toList) (off := off) (β := β) (w := w) (A := Or2 F (OwnOf β s)) ⟨h5.symm, h6⟩ hL (by omega) hps (fun q => by rw [hpg q]; simp [← hL.1])
              exact ⟨b, _, Tc, fr, hb, repl_same h3, by rw [hps]; exact h4, hsp.1.symm, fun i hi => ⟨(hsp.2 i hi).1, (hsp.2 i hi).2.frame hf⟩⟩
            · rw [Store.set_other _ _ hkg] at he
              refine .inl ⟨he, fun q hq => repl_other fun hqb => ?_⟩
              subst hqb
              exact hkg (hs.inj k g q (by rw [he]; simp) (by rw [hg]; simp) hq hb)
          refine ⟨_, _, ?_, hK, hs', hf⟩
          simp [Instr.storeAt, Instr.sureAddr, storeVar, run_sizeOf hT hd, hsz, hr]
      · exact hc.elim
    · next g n i off =>
      split at hc
      · next m l ro hg =>
        split at hc
        · next xs ros hbw =>
          obtain ⟨rfl, rfl, hxl, hil, hofn, hgr, hK⟩ := hc
          cases hx with
          | eptr g n i off b hb =>
            obtain ⟨h1, h2⟩ := hs.ents _ _ hg
            rcases h2 with ⟨h2, _⟩ | ⟨b', c, Tc, fr, h2, h3, h4, h5, h6⟩
            · rw [hb] at h2; cases h2
            · rw [hb] at h2
              obtain rfl : b = b' := by simpa using h2
              have hL := hy.cellsL (borrowAll_all hbw)
              obtain ⟨b1, b2⟩ := borrowAll_sound hs y.cells xs ros ros (fun i => u.cells.getD i undef) hbw (fun _ h => h) fun i hi => (hL.2 i hi).2
              have hsz : u.cells.size = d.size := by rw [← hL.1, ← b1, hxl]
              have hvl : u.cells.toList.length = d.size := by simpa using hsz
              have hin : i * m + off + d.size ≤ c.size := by
                have : (i + 1) * m ≤ l.length * m := Nat.mul_le_mul_right _ hil
                rw [Nat.add_mul] at this; omega
              have hli : (l.getD i []).length = m := h1 i hil
              have hr := run_storeCells (P := P) (off := i * m + off) u.cells.toList 0 c w h3 h4 (by omega) (cells_oneC hL)
              simp only [Nat.add_zero] at hr
              have hps := putL_size u.cells.toList c (i * m + off)
              have hpg := fun q => putL_get u.cells.toList c (i * m + off) q (by omega)
              have hmg : (s.marks ros).f g = some (.row m l false) := by rw [Store.marks_f, if_neg hgr, hg]
              have hsm := StOk.marks ros hs
              have hpl : (putRow l i off xs).length = l.length := by simp [putRow]
              have hf1 : Frame (OwnOf β (s.marks ros)) β w (OwnOf β ((s.marks ros).set g (some (.row m (putRow l i off xs) false)))) β (repl w b (putL c (i * m + off) u.cells.toList) Tc fr) := by
                refine repl_frame h3 hps (fun q hq => ?_) (fun k q hk ha => ?_) (fun _ _ h => h) fun _ _ h => .inl h
                · exact absurd (own_token (off := q) hmg hb (fun h => by cases h)) hq
                · obtain ⟨k', b'', g1, g2, g3⟩ := ha
                  by_cases hkg : k' = g
                  · subst hkg
                    exact ⟨k', b'', g1, g2, by rw [hmg]; intro h; cases h⟩
                  · rw [Store.set_other _ _ hkg] at g3; exact ⟨k', b'', g1, g2, g3⟩
              have hs' : StOk F β ((s.marks ros).set g (some (.row m (putRow l i off xs) false))) (repl w b (putL c (i * m + off) u.cells.toList) Tc fr) := by
                have dom' : ∀ k, ((s.marks ros).set g (some (.row m (putRow l i off xs) false))).f k ≠ none → (s.marks ros).f k ≠ none := fun k hk => by
                  by_cases hkg : k = g
                  · subst hkg; rw [hmg]; simp
                  · rwa [Store.set_other _ _ hkg] at hk
                refine hsm.evolve hf1 (fun k e he => ?_) (fun k m b hk hm => hsm.inj k m b (dom' k hk) (dom' m hm)) hsm.fin (fun k q hq => by rw [repl_size]; exact hsm.dom k q hq) fun a ha k hk => hsm.apart a ha k (dom' k hk)
                by_cases hkg : k = g
                · subst hkg
                  rw [Store.set_same] at he
                  cases he
                  right
                  have hel : ∀ j, j < l.length → (putRow l i off xs).getD j [] = if i = j then ((l.getD i []).take off ++ xs ++ (l.getD i []).drop (off + xs.length)) else l.getD j [] := fun j hj => by
                    simp only [putRow, List.getD_eq_getElem?_getD, List.getElem?_set]
                    by_cases hij : i = j
                    · subst hij; simp [hj]
                    · simp [hij]
                  have hnl : ((l.getD i []).take off ++ xs ++ (l.getD i []).drop (off + xs.length)).length = m := by simp only [List.length_append, List.length_take, List.length_drop, hli]; omega
                  refine ⟨fun j hj => ?_, .inr ⟨b, _, Tc, fr, hb, repl_same h3, by rw [hps]; exact h4, by rw [hps, hpl]; exact h5, fun j q hj hq => ?_⟩⟩
                  · rw [hpl] at hj; rw [hel j hj]
                    split
                    · exact hnl
                    · exact h1 j hj
                  · rw [hpl] at hj
                    rw [hel j hj]
                    have hget : (putL c (i * m + off) u.cells.toList).getD (j * m + q) undef = if i = j ∧ off ≤ q ∧ q < off + d.size then u.cells.getD (q - off) undef else c.getD (j * m + q) undef := by
                      rw [Array.getD_eq_getD_getElem?, hpg, hvl]
                      by_cases hij : i = j
                      · subst hij
                        by_cases hq2 : off ≤ q ∧ q < off + d.size
                        · rw [if_pos (by omega), if_pos ⟨rfl, hq2⟩, show i * m + q - (i * m + off) = q - off from by omega]
                          simp [Array.getD_eq_getD_getElem?]
                        · rw [if_neg (by omega), if_neg (fun h => hq2 h.2), Array.getD_eq_getD_getElem?]
                      · have hne : ¬ (i * m + off ≤ j * m + q ∧ j * m + q < i * m + off + d.size) := by
                          rcases Nat.lt_or_gt_of_ne hij with h | h
                          · have : (i + 1) * m ≤ j * m := Nat.mul_le_mul_right _ h
                            rw [Nat.add_mul] at this; omega
                          · have : (j + 1) * m ≤ i * m := Nat.mul_le_mul_right _ h
                            rw [Nat.add_mul] at this; omega
                        rw [if_neg hne, if_neg (fun h => hij h.1), Array.getD_eq_getD_getElem?]
                    rw [hget]
                    by_cases hij : i = j
                    · subst hij
                      rw [if_pos rfl]
                      by_cases hq2 : off ≤ q ∧ q < off + d.size
                      · rw [if_pos ⟨rfl, hq2⟩]
                        have e1 : ((l.getD i []).take off ++ xs ++ (l.getD i []).drop (off + xs.length)).getD q default = xs.getD (q - off) default := by
                          have hto : ((l.getD i []).take off).length = off := by rw [List.length_take, hli]; omega
                          rw [List.getD_eq_getElem?_getD, List.append_assoc, List.getElem?_append_right (by omega), hto, List.getElem?_append_left (by omega), List.getD_eq_getElem?_getD]
                        rw [e1]
                        exact (b2 (q - off) (by rw [← b1]; omega)).frame hf1
                      · rw [if_neg (fun h => hq2 h.2)]
                        have e1 : ((l.getD i []).take off ++ xs ++ (l.getD i []).drop (off + xs.length)).getD q default = (l.getD i []).getD q default := by
                          have hto : ((l.getD i []).take off).length = off := by rw [List.length_take, hli]; omega
                          by_cases hqo : q < off
                          · rw [List.getD_eq_getElem?_getD, List.append_assoc, List.getElem?_append_left (by omega), List.getElem?_take, if_pos hqo, ← List.getD_eq_getElem?_getD]
                          · rw [List.getD_eq_getElem?_getD, List.append_assoc, List.getElem?_append_right (by omega), hto, List.getElem?_append_right (by omega), List.getElem?_drop, show off + xs.length + (q - off - xs.length) = q from by omega, ← List.getD_eq_getElem?_getD]
                        rw [e1]
                        exact ((h6 i q hil hq).mono (fun a ha => ha.imp id (own_marks ros s a))).frame hf1
                    · rw [if_neg hij, if_neg (fun h => hij h.1)]
                      exact ((h6 j q hj hq).mono (fun a ha => ha.imp id (own_marks ros s a))).frame hf1
                · rw [Store.set_other _ _ hkg] at he
                  refine .inl ⟨he, fun q hq => repl_other fun hqb => ?_⟩
                  subst hqb
                  exact hkg (hsm.inj k g q (by rw [he]; simp) (by rw [hmg]; simp) hq hb)
              refine ⟨_, _, ?_, hK, hs', (Frame.marks ros).trans hf1⟩
              simp [Instr.storeAt, Instr.sureAddr, storeVar, run_sizeOf hT hd, hsz, hr]
        · exact hc.elim
      · exact hc.elim
    · exact hc.elim
  · exact hc.elim

theorem storeT_grew {T : TypeId} {x y : AV} {K : Store → Prop} (hc : storeT C T x y K s) : storeT C T x y (fun s' => K s' ∧ Grew β s s') s := by
  unfold storeT at hc ⊢
  split at hc
  · next d hd =>
    split at hc
    · next g off =>
      split at hc
      · next cs ro hg => exact ⟨hc.1, hc.2.1, hc.2.2.1, hc.2.2.2.1, hc.2.2.2.2, .set (.inl (by simp [hg]))⟩
      · exact hc.elim
    · next g n i off =>
      split at hc
      · next m l ro hg =>
        split at hc
        · next xs ros hb =>
          obtain ⟨h1, h2, h3, h4, h5, h6, h7⟩ := hc
          refine ⟨h1, h2, h3, h4, h5, h6, h7, (Grew.marks _ _ _).trans (.set (.inl ?_))⟩
          rw [Store.marks_f, if_neg h6]
          simp [hg]
        · exact hc.elim
      · exact hc.elim
    · exact hc.elim
  · exact hc.elim

end
end Go.Eng

namespace Go.Eng
section
variable {P : Program} {C : Ctx} {F A : Addr → Prop} {β : Bt} {s : Store} {w : World}

theorem own_drop (g : Nat) (a : Addr) (h : OwnOf β (s.set g none) a) : OwnOf β s a := by
  obtain ⟨k, b, h1, h2, h3⟩ := h
  by_cases hk : k = g
  · subst hk; rw [Store.set_same] at h3; exact h3.elim
  · rw [Store.set_other _ _ hk] at h3; exact ⟨k, b, h1, h2, h3⟩

theorem StOk.dropTok (h : StOk F β s w) (g : Nat) : StOk F β (s.set g none) w :=
  h.shrink (own_drop g) fun k e hk => by
    by_cases hkg : k = g
    · subst hkg; rw [Store.set_same] at hk; cases hk
    · rw [Store.set_other _ _ hkg] at hk; exact ⟨e, hk, fun _ h => h⟩

theorem Frame.dropTok (g : Nat) : Frame (OwnOf β s) β w (OwnOf β (s.set g none)) β w :=
  ⟨rfl, rfl, rfl, Nat.le_refl _, fun _ _ _ => rfl, fun _ _ _ _ => rfl, fun _ _ => rfl, fun _ _ _ h => own_drop g _ h, fun _ _ h => h, fun _ _ h => .inl h⟩

/-- Rows that lie in memory. -/
def RowsAt (w : World) (A : Addr → Prop) (n : Nat) (l : List (List TV)) (u : Value) : Prop :=
  ∃ a cap, u = .slice a l.length cap ∧ (∀ i, i < l.length → (l.getD i []).length = n) ∧ (l = [] ∨ ∃ b off, ∃ c : Nat → Value, a = some ⟨b, off, none⟩ ∧
    ∀ i j, i < l.length → j < n → w.cell? ⟨b, off + (i * n + j), none⟩ = some (c (i * n + j)) ∧ RepT w A ((l.getD i []).getD j default) (c (i * n + j)))

theorem rowsAt_sound (hs : StOk F β s w) {y : AV} {u : Value} {l : List (List TV)} {n : Nat} (hr : Rep β w (Or2 F (OwnOf β s)) y u) (h : s.rowsAt y = some l) (hw : y.width = some n ∨ y.width = none) :
    RowsAt w (Or2 F (OwnOf β s)) n l u := by
  unfold Store.rowsAt at h
  split at h
  · next m l' =>
    cases h
    obtain rfl : m = n := by simpa [AV.width] using hw
    cases hr.t_inv with
    | seq n l a len cap b off c hlen hcap ha hn hc ho hrr =>
      subst hlen
      refine ⟨a, cap, rfl, hn, ha.imp id fun ha => ⟨b, off, fun k => (w.cell? ⟨b, off + k, none⟩).getD undef, ha, fun i j hi hj => ?_⟩⟩
      have := hc i j hi hj
      simp only [this, Option.getD_some]
      exact ⟨trivial, hrr i j hi hj⟩
  · cases h; cases hr.t_inv; exact ⟨_, _, rfl, fun i hi => by simp at hi, .inl rfl⟩
  · cases h; cases hr.t_inv; exact ⟨_, _, rfl, fun i hi => by simp at hi, .inl rfl⟩
  · cases h; have hr := hr.t_inv; cases hr; exact ⟨_, _, rfl, fun i hi => by simp at hi, .inl rfl⟩
  · next g m off len =>
    obtain rfl : m = n := by simpa [AV.width] using hw
    cases hb1 : s.borrow1 (.tok g m off len) with
    | none => rw [hb1] at h; cases h
    | some p =>
      rw [hb1] at h
      unfold Store.borrow1 at hb1
      dsimp only at hb1
      split at hb1
      · next m' l' ro hg =>
        split at hb1
        · next hc =>
          obtain ⟨rfl, hol⟩ := hc
          cases hb1
          simp only [Option.bind_some, Option.some.injEq] at h
          subst h
          obtain ⟨h1, h2⟩ := hs.ents _ _ hg
          have hl : ((l'.drop off).take len).length = len := by simp; omega
          cases hr with
          | tokN g n a hb => exact ⟨a, 0, by simp, fun i hi => by simp at hi, .inl (by simp)⟩
          | tok g n off len b a cap T sz hb hlc hm hshp ha =>
            rcases h2 with ⟨h2, rfl⟩ | ⟨b', c, Tc, fr, h2, h3, h4, h5, h6⟩
            · rw [hb] at h2; cases h2
            · rw [hb] at h2
              obtain rfl : b = b' := by simpa using h2
              have hgi : ∀ i, i < len → ((l'.drop off).take len).getD i [] = l'.getD (off + i) [] := fun i hi => by rw [getD_take _ _ _ _ hi, getD_drop]
              refine ⟨a, cap, by rw [hl], fun i hi => ?_, ?_⟩
              · rw [hl] at hi; rw [hgi i hi]; exact h1 _ (by omega)
              · rcases ha with ⟨rfl, _⟩ | ⟨rfl, _⟩
                · refine .inr ⟨b, off * m', fun k => c.getD (off * m' + k) undef, rfl, fun i j hi hj => ?_⟩
                  rw [hl] at hi
                  have hin : (off + i) * m' + j < l'.length * m' := by
                    have : (off + i + 1) * m' ≤ l'.length * m' := Nat.mul_le_mul_right _ (by omega)
                    rw [Nat.add_mul (off + i)] at this
                    omega
                  have e : off * m' + (i * m' + j) = (off + i) * m' + j := by rw [Nat.add_mul]; omega
                  refine ⟨thaw_cell h3 (by omega), ?_⟩
                  dsimp only
                  rw [hgi i hi, e]
                  exact h6 _ _ (by omega) hj
                · exact .inl (List.eq_nil_of_length_eq_zero (by omega))
        · cases hb1
      · cases hb1
  · next g m off len =>
    obtain rfl : m = n := by simpa [AV.width] using hw
    cases hb1 : s.borrow1 (.btok g m off len) with
    | none => rw [hb1] at h; cases h
    | some p =>
      rw [hb1] at h
      unfold Store.borrow1 at hb1
      dsimp only at hb1
      split at hb1
      · next cs ro hg =>
        split at hb1
        · next hc =>
          cases ht : tvs? ((cs.drop off).take (len * m)) with
          | none => rw [ht] at hb1; cases hb1
          | some xs =>
            rw [ht] at hb1
            cases hb1
            simp only [Option.bind_some, Option.some.injEq] at h
            subst h
            have hx := tvs_some _ _ ht
            have hxl : xs.length = len * m := by
              have := congrArg List.length hx
              simp at this
              omega
            obtain ⟨b', c, Tc, fr, h2, h3, h4, h5, h6⟩ := hs.ents _ _ hg
            cases hr with
            | btok g n off len b a cap hb hlc ha =>
              rw [hb] at h2
              obtain rfl : b = b' := by simpa using h2
              have hin : ∀ i j, i < len → j < m → i * m + j < len * m := fun i j hi hj => by
                have : (i + 1) * m ≤ len * m := Nat.mul_le_mul_right _ (by omega)
                rw [Nat.add_mul] at this
                omega
              have hcell : ∀ k, k < len * m → cs.getD (off + k) .unk = .t (xs.getD k default) := fun k hk => by
                have h7 : ((cs.drop off).take (len * m)).getD k .unk = (xs.map AV.t).getD k .unk := by rw [hx]
                rw [getD_take _ _ _ _ hk, getD_drop, getD_map_t _ _ (by omega)] at h7
                exact h7
              refine ⟨a, cap, by rw [chunks_length], fun i hi => ?_, ?_⟩
              · rw [chunks_length] at hi
                rw [chunks_get m len xs i hi]
                have : (i + 1) * m ≤ len * m := Nat.mul_le_mul_right _ (by omega)
                rw [Nat.add_mul] at this
                simp
                omega
              · rcases ha with rfl | rfl
                · exact .inl rfl
                · refine .inr ⟨b, off, fun k => c.getD (off + k) undef, rfl, fun i j hi hj => ?_⟩
                  rw [chunks_length] at hi
                  have hlt := hin i j hi hj
                  refine ⟨thaw_cell h3 (by omega), ?_⟩
                  have := (h6 (off + (i * m + j)) (by omega)).2
                  rw [hcell _ hlt] at this
                  rw [chunks_get m len xs i hi, getD_take _ _ _ _ hj, getD_drop]
                  exact this.t_inv
        · cases hb1
      · cases hb1
  · cases h

/-- The cells of rows, one behind the other. -/
theorem RowsAt.news {n : Nat} {l : List (List TV)} {u : Value} (h : RowsAt w A n l u) (hne : l ≠ []) : ∃ a cap, ∃ news : List Value, u = .slice (some a) l.length cap ∧ news.length = l.length * n ∧ (∀ j v, news[j]? = some v → w.cell? (a.add j) = some v) ∧
    (∀ v ∈ news, v.oneCell' = true) ∧ ∀ i j, i < l.length → j < n → RepT w A ((l.getD i []).getD j default) (news.getD (i * n + j) undef) := by
  obtain ⟨a, cap, h1, h2, h3⟩ := h
  obtain ⟨b, off, c, rfl, h4⟩ := h3.resolve_left hne
  have split_i : ∀ k, k < l.length * n → ∃ i j, i < l.length ∧ j < n ∧ k = i * n + j := fun k hk => by
    have hn : 0 < n := Nat.pos_of_ne_zero fun h0 => by rw [h0] at hk; simp at hk
    refine ⟨k / n, k % n, (Nat.div_lt_iff_lt_mul hn).2 hk, Nat.mod_lt _ hn, ?_⟩
    rw [Nat.mul_comm]; exact (Nat.div_add_mod k n).symm
  refine ⟨⟨b, off, none⟩, cap, (List.range (l.length * n)).map c, h1, by simp, fun j v hj => ?_, fun v hv => ?_, fun i j hi hj => ?_⟩
  · have hjl : j < l.length * n := by have := (List.getElem?_eq_some_iff.1 hj).1; simpa using this
    obtain ⟨i, k, hi, hk, rfl⟩ := split_i j hjl
    rw [add_at, (h4 i k hi hk).1]
    simp [hjl] at hj
    rw [hj]
  · obtain ⟨j, hj, rfl⟩ := List.mem_map.1 hv
    obtain ⟨i, k, hi, hk, rfl⟩ := split_i j (by simpa using hj)
    exact (h4 i k hi hk).2.one
  · have hlt : i * n + j < l.length * n := by
      have : (i + 1) * n ≤ l.length * n := Nat.mul_le_mul_right _ (by omega)
      rw [Nat.add_mul] at this; omega
    have := (h4 i j hi hj).2
    simpa [List.getD_eq_getElem?_getD, hlt] using this

/-- What an append comes to. -/
def AppN (P : Program) (F : Addr → Prop) (β : Bt) (s : Store) (w : World) (m : Sem Value) (K : Nat → Store → Nat → Nat → Prop) : Prop :=
  ∃ β' g s' n len v w', m.run P w = .ok v w' ∧ K g s' n len ∧ StOk F β' s' w' ∧ Frame (OwnOf β s) β w (OwnOf β' s') β' w' ∧ Rep β' w' (Or2 F (OwnOf β' s')) (.tok g n 0 len) v

/-- A row of a fresh block: what was there, what came, noughts. -/
theorem newRow_ok {wd : World} {e : TypeId} {cc : Array Value} {β' : Bt} {w' : World} {s' : Store} {g n : Nat} {l : List (List TV)} {ro : Bool} (hf : Frame (OwnOf β s) β wd (OwnOf β' s') β' w') (hg : β' g = some (some wd.heap.size))
    (hb : w'.heap[wd.heap.size]? = some (.cells cc e (0, 0))) (hn : ∀ i, i < l.length → (l.getD i []).length = n) (hlen : l.length * n ≤ cc.size)
    (hr : ∀ i j, i < l.length → j < n → RepT wd (Or2 F (OwnOf β s)) ((l.getD i []).getD j default) (cc.getD (i * n + j) undef)) : EntOk β' w' (Or2 F (OwnOf β' s')) g (.row n l ro) :=
  ⟨hn, .inr ⟨_, cc, e, (0, 0), hg, hb, thawed_zero _, hlen, fun i j hi hj => (hr i j hi hj).frame hf⟩⟩

theorem RepT.drew {x : TV} {v : Value} (h : RepT w A x v) : RepT w.drew A x v := by
  induction h with
  | int k n => exact .int k n
  | bool b => exact .bool b
  | str s => exact .str s
  | nilS => exact .nilS
  | emp a => exact .emp a
  | emq b a c h => exact .emq b a c h
  | nilP => exact .nilP
  | nilF => exact .nilF
  | seq n l a len cap b off c hlen hcap ha hn hc ho hr ih => exact .seq n l a len cap b off c hlen hcap ha hn hc ho ih

theorem getD_append_l {α : Type} (a b : List α) (i : Nat) (x : α) (h : i < a.length) : (a ++ b).getD i x = a.getD i x := by
  simp [List.getD_eq_getElem?_getD, List.getElem?_append_left h]

theorem getD_append_r {α : Type} (a b : List α) (i : Nat) (x : α) (h : a.length ≤ i) : (a ++ b).getD i x = b.getD (i - a.length) x := by
  simp [List.getD_eq_getElem?_getD, List.getElem?_append_right h]


/-- An append to what holds nothing yet. -/
theorem append_none (hT : TyOk P C.ty) (hs : StOk F β s w) {T e : TypeId} {d de : TyD} (hd : C.ty T = some d) (hsh : d.sh = .slice e) (hde : C.ty e = some de) {a : Option Addr} {u : Value} {l2 : List (List TV)} (ty : TypeId)
    (hu : RowsAt w (Or2 F (OwnOf β s)) de.size l2 u) (hm : l2.length ≤ 140737488355328) (hb : l2.length * de.bytes ≤ 140737488355328) (ro : Bool) {K : Nat → Store → Nat → Nat → Prop}
    (hK : ∀ g', β g' = none → K g' (s.set g' (some (.row de.size l2 ro))) de.size l2.length) :
    AppN P F β s w (Builtin.append_ #[T, T] ty #[.slice a 0 0, u]) K := by
  obtain ⟨uu, hun, hshk⟩ := und hT hd
  rw [hsh] at hshk
  obtain rfl := sh_slice hshk
  obtain ⟨i, ue, z, hi, hue, _, hsz, hby, hz, hzero⟩ := hT e de hde
  obtain ⟨g, hg⟩ := hs.fresh
  by_cases hl : l2 = []
  · subst hl
    obtain ⟨a2, cap2, rfl, _, _⟩ := hu
    refine ⟨upd β g (some none), g, _, de.size, 0, .slice a 0 0, w, ?_, hK g hg, nil_ok hs hg _ _, nil_frame hg _, .tokN _ _ _ (upd_same _ _ _)⟩
    cases a <;> cases a2 <;> simp [Builtin.append_, run_underlying hun, sizeOf, typeInfo, hi, Builtin.lenOf, Builtin.firstCells, loadCells, loadCellsFrom, storeCells]
  · obtain ⟨a2, cap2, news, rfl, hnl, hnews, hn1, hreps⟩ := hu.news hl
    have hnrows : ∀ i, i < l2.length → (l2.getD i []).length = de.size := by
      obtain ⟨_, _, _, h1, _⟩ := hu; exact h1
    have hpl : 0 < l2.length := List.length_pos_iff.2 hl
    have hcap := grownCap_ge w l2.length 0 e
    have hcm := grownCap_le_maxLen w l2.length 0 e (by simp only [maxLen]; omega)
    have hr : (Builtin.append_ #[T, T] ty #[.slice a 0 0, .slice (some a2) l2.length cap2]).run P w = .ok (.slice (some ⟨w.heap.size, 0, none⟩) l2.length (grownCap w l2.length 0 e))
        (w.drew.alloc (.cells (news.toArray ++ Builtin.zeroCells z.cells (grownCap w l2.length 0 e - l2.length)) e)) := by
      cases a with
      | none => exact run_append_nil w T ty e i z hun hi hz a2 l2.length cap2 news (by rw [hsz]; exact hnl) hnews hpl (by omega) (by rw [hby]; omega)
      | some a =>
        have := run_append_grow w T ty e i z hun hi hz a 0 0 [] (by simp) (fun j v h => by simp at h) a2 l2.length cap2 news (by rw [hsz]; exact hnl) hnews (by omega) (by omega) (by rw [hby, Nat.zero_add]; exact growslice_fits hpl hb)
        simpa using this
    have hzs : z.cells.size = de.size := by
      have := (zero_rep (β := β) (w := w) (A := F) hzero).1
      simp [hzero.2.1] at this; omega
    have hcc : (news.toArray ++ Builtin.zeroCells z.cells (grownCap w l2.length 0 e - l2.length)).size = grownCap w l2.length 0 e * de.size := by
      rw [Array.size_append, size_zeroCells, hzs, List.size_toArray, hnl, ← Nat.add_mul]; congr 1; omega
    have hf := alloc_frame (s := s) (w := w.drew) hg (.cells (news.toArray ++ Builtin.zeroCells z.cells (grownCap w l2.length 0 e - l2.length)) e) (some (.row de.size l2 ro))
    have hb' := heap_alloc_new w.drew (.cells (news.toArray ++ Builtin.zeroCells z.cells (grownCap w l2.length 0 e - l2.length)) e)
    refine ⟨_, g, _, de.size, l2.length, _, _, hr, hK g hg, alloc_ok hs.drew hg _ _ ?_, (Frame.refl _ _ _).drew.trans hf, .tok _ _ _ _ w.heap.size _ _ e _ (upd_same _ _ _) hcap hcm (shape_of hb') (.inl ⟨by simp, ?_⟩)⟩
    · refine newRow_ok hf (upd_same _ _ _) hb' hnrows ?_ fun q j hq hj => ?_
      · rw [hcc]; exact Nat.mul_le_mul_right _ hcap
      · have hlt : q * de.size + j < l2.length * de.size := by
          have : (q + 1) * de.size ≤ l2.length * de.size := Nat.mul_le_mul_right _ (by omega)
          rw [Nat.add_mul] at this; omega
        have := hreps q j hq hj
        have e1 : (news.toArray ++ Builtin.zeroCells z.cells (grownCap w l2.length 0 e - l2.length)).getD (q * de.size + j) undef = news.getD (q * de.size + j) undef := by
          rw [Array.getD_eq_getD_getElem?, Array.getElem?_append_left (by simp; omega)]
          simp [List.getD_eq_getElem?_getD]
        rw [e1]; exact this.drew
    · rw [hcc]; simp

/-- An append to a row. -/
theorem append_row (hT : TyOk P C.ty) (hs : StOk F β s w) {T e : TypeId} {d de : TyD} (hd : C.ty T = some d) (hsh : d.sh = .slice e) (hde : C.ty e = some de) {u : Value} {l l2 : List (List TV)} (ty : TypeId) {g b cap : Nat} {c : Array Value} {Tc : TypeId} {fr : Nat × Nat} {ro : Bool}
    (hg : s.f g = some (.row de.size l ro)) (hgb : β g = some (some b)) (hheap : w.heap[b]? = some (.cells c Tc fr)) (hth : thawed fr c.size) (hcs : c.size = cap * de.size) (hlc : l.length ≤ cap) (hcmax : cap ≤ maxLen)
    (hn1 : ∀ i, i < l.length → (l.getD i []).length = de.size) (hreps1 : ∀ i j, i < l.length → j < de.size → RepT w (Or2 F (OwnOf β s)) ((l.getD i []).getD j default) (c.getD (i * de.size + j) undef))
    (hu : RowsAt w (Or2 F (OwnOf β s)) de.size l2 u) (hm : l.length + l2.length ≤ 140737488355328) (hb : (l.length + l2.length) * de.bytes ≤ 140737488355328) {K : Nat → Store → Nat → Nat → Prop}
    (hK : ∀ g', β g' = none → K g' ((s.set g none).set g' (some (.row de.size (l ++ l2) ro))) de.size (l.length + l2.length)) :
    AppN P F β s w (Builtin.append_ #[T, T] ty #[.slice (some ⟨b, 0, none⟩) l.length cap, u]) K := by
  obtain ⟨uu, hun, hshk⟩ := und hT hd
  rw [hsh] at hshk
  obtain rfl := sh_slice hshk
  obtain ⟨i, ue, z, hi, hue, _, hsz, hby, hz, hzero⟩ := hT e de hde
  obtain ⟨g', hg'⟩ := hs.fresh
  have hgg : g' ≠ g := fun e => by subst e; rw [hg'] at hgb; cases hgb
  have hnrows : ∀ i, i < l2.length → (l2.getD i []).length = de.size := by
    obtain ⟨_, _, _, h1, _⟩ := hu; exact h1
  -- the cells that come
  obtain ⟨a2, cap2, news, hu', hnl, hnews, hno, hreps2⟩ : ∃ a2 cap2, ∃ news : List Value, u = .slice a2 l2.length cap2 ∧ news.length = l2.length * de.size ∧ (l2 ≠ [] → ∃ a3, a2 = some a3 ∧ ∀ j v, news[j]? = some v → w.cell? (a3.add j) = some v) ∧
      (∀ v ∈ news, v.oneCell' = true) ∧ ∀ i j, i < l2.length → j < de.size → RepT w (Or2 F (OwnOf β s)) ((l2.getD i []).getD j default) (news.getD (i * de.size + j) undef) := by
    by_cases hl : l2 = []
    · subst hl
      obtain ⟨a2, cap2, rfl, _, _⟩ := hu
      exact ⟨a2, cap2, [], rfl, by simp, fun h => absurd rfl h, fun v hv => by simp at hv, fun i j hi => by simp at hi⟩
    · obtain ⟨a2, cap2, news, rfl, h1, h2, h3, h4⟩ := hu.news hl
      exact ⟨some a2, cap2, news, rfl, h1, fun _ => ⟨a2, rfl, h2⟩, h3, h4⟩
  subst hu'
  have hsm := hs.dropTok g
  have hrows12 : ∀ q, q < (l ++ l2).length → ((l ++ l2).getD q []).length = de.size := fun q hq => by
    by_cases hlt : q < l.length
    · rw [getD_append_l _ _ _ _ hlt]; exact hn1 q hlt
    · simp only [List.length_append] at hq
      rw [getD_append_r _ _ _ _ (by omega)]; exact hnrows _ (by omega)
  by_cases hroom : l.length + l2.length ≤ cap
  · -- in place
    have hfit : l.length * de.size + news.length ≤ c.size := by rw [hnl, hcs, ← Nat.add_mul]; exact Nat.mul_le_mul_right _ hroom
    have hst := run_storeCells (P := P) (b := b) (off := l.length * de.size) news 0 c w hheap hth (by omega) hno
    simp only [Nat.add_zero] at hst
    have hps := putL_size news c (l.length * de.size)
    have hpg := fun q => putL_get news c (l.length * de.size) q (by omega)
    have hr : (Builtin.append_ #[T, T] ty #[.slice (some ⟨b, 0, none⟩) l.length cap, .slice a2 l2.length cap2]).run P w = .ok (.slice (some ⟨b, 0, none⟩) (l.length + l2.length) cap) (repl w b (putL c (l.length * de.size) news) Tc fr) := by
      have hfc : (Builtin.firstCells de.size l2.length (.slice a2 l2.length cap2)).run P w = .ok news.toArray w := by
        by_cases hl : l2 = []
        · subst hl
          have : news = [] := List.eq_nil_of_length_eq_zero (by simpa using hnl)
          subst this
          cases a2 <;> simp [Builtin.firstCells, loadCells, loadCellsFrom]
        · obtain ⟨a3, rfl, h3⟩ := hnews hl
          exact run_firstCells_some w de.size l2.length a3 l2.length cap2 news hnl h3
      simp [Builtin.append_, run_underlying hun, run_sizeOf hT hde, typeInfo, hi, Builtin.lenOf, hroom, hfc, add_at, hst]
    have hf : Frame (OwnOf β s) β w (OwnOf (upd β g' (some (some b))) ((s.set g none).set g' (some (.row de.size (l ++ l2) ro)))) (upd β g' (some (some b))) (repl w b (putL c (l.length * de.size) news) Tc fr) := by
      refine repl_frame hheap hps (fun q hq => ?_) (fun k q hk ha => ?_) (fun k x hk => ?_) fun k q hk => ?_
      · rw [hpg q, if_neg]
        rintro ⟨h1, _⟩
        exact hq (own_token hg hgb fun _ => h1)
      · obtain ⟨k', b'', q1, q2, q3⟩ := ha
        by_cases hkg : k' = g'
        · subst hkg
          rw [upd_same] at q1
          rw [Store.set_same] at q3
          obtain rfl : b = b'' := by simpa using q1
          simp only at q2 q3
          subst q2
          refine own_token hg hgb fun h => ?_
          have := q3 h
          simp only [List.length_append, Nat.add_mul] at this
          omega
        · rw [upd_other _ _ hkg] at q1
          rw [Store.set_other _ _ hkg] at q3
          exact own_drop g _ ⟨k', b'', q1, q2, q3⟩
      · rw [upd_other _ _ (fun e => by subst e; rw [hg'] at hk; cases hk)]; exact hk
      · by_cases hkg : k = g'
        · subst hkg
          rw [upd_same] at hk
          obtain rfl : b = q := by simpa using hk
          exact .inr ⟨hg', l.length * de.size, own_token hg hgb fun _ => Nat.le_refl _⟩
        · rw [upd_other _ _ hkg] at hk; exact .inl hk
    have hne : ∀ k q, k ≠ g → s.f k ≠ none → β k = some (some q) → q ≠ b := fun k q hk hkn hkb hqb => by
      subst hqb; exact hk (hs.inj k g q hkn (by rw [hg]; simp) hkb hgb)
    have dom' : ∀ k, k ≠ g' → ((s.set g none).set g' (some (.row de.size (l ++ l2) ro))).f k ≠ none → k ≠ g ∧ s.f k ≠ none := fun k hk hkn => by
      rw [Store.set_other _ _ hk] at hkn
      by_cases hkg : k = g
      · subst hkg; rw [Store.set_same] at hkn; exact absurd rfl hkn
      · rw [Store.set_other _ _ hkg] at hkn; exact ⟨hkg, hkn⟩
    have hs' : StOk F (upd β g' (some (some b))) ((s.set g none).set g' (some (.row de.size (l ++ l2) ro))) (repl w b (putL c (l.length * de.size) news) Tc fr) := by
      refine hs.evolve hf (fun k en he => ?_) (fun k m q hk hm h1 h2 => ?_) (fin_upd hs.fin) (fun k q hk => ?_) fun ad ha k hk => ?_
      · by_cases hkg : k = g'
        · subst hkg
          rw [Store.set_same] at he
          cases he
          right
          refine ⟨hrows12, .inr ⟨b, _, Tc, fr, upd_same _ _ _, repl_same hheap, by rw [hps]; exact hth, ?_, fun q j hq hj => ?_⟩⟩
          · rw [hps, hcs, List.length_append]; exact Nat.mul_le_mul_right _ hroom
          · simp only [List.length_append] at hq
            rw [Array.getD_eq_getD_getElem?, hpg]
            by_cases hlt : q < l.length
            · have hlt2 : q * de.size + j < l.length * de.size := by
                have : (q + 1) * de.size ≤ l.length * de.size := Nat.mul_le_mul_right _ hlt
                rw [Nat.add_mul] at this; omega
              rw [if_neg (by omega), getD_append_l _ _ _ _ hlt, ← Array.getD_eq_getD_getElem?]
              exact (hreps1 q j hlt hj).frame hf
            · have e1 : q * de.size + j - l.length * de.size = (q - l.length) * de.size + j := by
                have : q * de.size = l.length * de.size + (q - l.length) * de.size := by rw [← Nat.add_mul]; congr 1; omega
                omega
              have hge : l.length * de.size ≤ q * de.size := Nat.mul_le_mul_right _ (by omega)
              have hlt2 : (q - l.length) * de.size + j < l2.length * de.size := by
                have : (q - l.length + 1) * de.size ≤ l2.length * de.size := Nat.mul_le_mul_right _ (by omega)
                rw [Nat.add_mul (q - l.length)] at this; omega
              rw [if_pos (by omega), e1, getD_append_r _ _ _ _ (by omega), ← List.getD_eq_getElem?_getD]
              exact (hreps2 _ j (by omega) hj).frame hf
        · obtain ⟨h1, h2⟩ := dom' k hkg (by rw [he]; simp)
          rw [Store.set_other _ _ hkg, Store.set_other _ _ h1] at he
          exact .inl ⟨he, fun q hq => repl_other (hne k q h1 h2 hq)⟩
      · by_cases hkg : k = g' <;> by_cases hmg : m = g'
        · rw [hkg, hmg]
        · subst hkg
          obtain ⟨q1, q2⟩ := dom' m hmg hm
          rw [upd_same] at h1
          rw [upd_other _ _ hmg] at h2
          exact absurd (by simpa using h1.symm) (hne m q q1 q2 h2)
        · subst hmg
          obtain ⟨q1, q2⟩ := dom' k hkg hk
          rw [upd_same] at h2
          rw [upd_other _ _ hkg] at h1
          exact absurd (by simpa using h2.symm) (hne k q q1 q2 h1)
        · rw [upd_other _ _ hkg] at h1
          rw [upd_other _ _ hmg] at h2
          exact hs.inj k m q (dom' k hkg hk).2 (dom' m hmg hm).2 h1 h2
      · rw [repl_size]
        by_cases hkg : k = g'
        · subst hkg
          rw [upd_same] at hk
          obtain rfl : b = q := by simpa using hk
          exact hs.dom g b hgb
        · rw [upd_other _ _ hkg] at hk; exact hs.dom k q hk
      · by_cases hkg : k = g'
        · subst hkg
          rw [upd_same]
          have := hs.apart ad ha g (by rw [hg]; simp)
          rw [hgb] at this
          exact this
        · rw [upd_other _ _ hkg]; exact hs.apart ad ha k (dom' k hkg hk).2
    refine ⟨_, g', _, de.size, _, _, _, hr, hK g' hg', hs', hf, .tok _ _ _ _ b _ _ Tc c.size (upd_same _ _ _) hroom hcmax ?_ (.inl ⟨by simp, by rw [hcs]; simp⟩)⟩
    rw [shape_of (repl_same hheap), hps]
  · -- a new block
    have holds : ∀ j v, (c.toList.take (l.length * de.size))[j]? = some v → w.cell? ((⟨b, 0, none⟩ : Addr).add j) = some v := fun j v hj => by
      rw [add_at, Nat.zero_add]
      rw [List.getElem?_take] at hj
      split at hj
      · have hjc : j < c.size := by have := (List.getElem?_eq_some_iff.1 hj).1; simpa using this
        rw [thaw_cell hheap hjc]
        simp [hjc] at hj
        simp [hjc, hj]
      · cases hj
    have hol : (c.toList.take (l.length * de.size)).length = l.length * de.size := by
      have : l.length * de.size ≤ cap * de.size := Nat.mul_le_mul_right _ hlc
      simp; omega
    have hl2 : l2 ≠ [] := fun h => by subst h; simp at hroom; omega
    obtain ⟨a3, rfl, h3⟩ := hnews hl2
    have hr := run_append_grow (P := P) w T ty e i z hun hi hz ⟨b, 0, none⟩ l.length cap (c.toList.take (l.length * de.size)) (by rw [hsz]; exact hol) holds a3 l2.length cap2 news (by rw [hsz]; exact hnl) h3 (by omega) (by omega) (by rw [hby]; exact growslice_fits (by omega) hb)
    have hcap := grownCap_ge w (l.length + l2.length) cap e
    have hcm := grownCap_le_maxLen w (l.length + l2.length) cap e (by simp only [maxLen]; omega)
    have hzs : z.cells.size = de.size := by
      have := (zero_rep (β := β) (w := w) (A := F) hzero).1
      simp [hzero.2.1] at this; omega
    generalize hcc : ((c.toList.take (l.length * de.size)).toArray ++ news.toArray ++ Builtin.zeroCells z.cells (grownCap w (l.length + l2.length) cap e - (l.length + l2.length))) = cc at hr
    have hcsz : cc.size = grownCap w (l.length + l2.length) cap e * de.size := by
      rw [← hcc, Array.size_append, Array.size_append, size_zeroCells, hzs, List.size_toArray, List.size_toArray, hol, hnl, ← Nat.add_mul, ← Nat.add_mul]; congr 1; omega
    have hf := alloc_frame (s := s.set g none) (w := w.drew) hg' (.cells cc e) (some (.row de.size (l ++ l2) ro))
    have hb' := heap_alloc_new w.drew (.cells cc e)
    refine ⟨_, g', _, de.size, _, _, _, hr, hK g' hg', alloc_ok hsm.drew hg' _ _ ?_, ((Frame.dropTok g).trans (Frame.refl _ _ _).drew).trans hf, .tok _ _ _ _ w.heap.size _ _ e _ (upd_same _ _ _) hcap hcm (shape_of hb') (.inl ⟨by simp, ?_⟩)⟩
    · refine newRow_ok hf (upd_same _ _ _) hb' hrows12 ?_ fun q j hq hj => ?_
      · rw [hcsz, List.length_append]; exact Nat.mul_le_mul_right _ hcap
      · simp only [List.length_append] at hq
        have hA : ∀ a, Or2 F (OwnOf β (s.set g none)) a → Or2 F (OwnOf β s) a := fun a ha => ha.imp id (own_drop g a)
        by_cases hlt : q < l.length
        · have hlt2 : q * de.size + j < l.length * de.size := by
            have : (q + 1) * de.size ≤ l.length * de.size := Nat.mul_le_mul_right _ hlt
            rw [Nat.add_mul] at this; omega
          have e1 : cc.getD (q * de.size + j) undef = c.getD (q * de.size + j) undef := by
            rw [← hcc, Array.getD_eq_getD_getElem?, Array.getElem?_append_left (by simp [hol]; omega), Array.getElem?_append_left (by simp [hol]; omega), List.getElem?_toArray, List.getElem?_take, if_pos hlt2, Array.getD_eq_getD_getElem?, Array.getElem?_toList]
          rw [e1, getD_append_l _ _ _ _ hlt]
          exact ((hreps1 q j hlt hj).mono hA).drew
        · have e2 : q * de.size + j - l.length * de.size = (q - l.length) * de.size + j := by
            have : q * de.size = l.length * de.size + (q - l.length) * de.size := by rw [← Nat.add_mul]; congr 1; omega
            omega
          have hge : l.length * de.size ≤ q * de.size := Nat.mul_le_mul_right _ (by omega)
          have hlt2 : (q - l.length) * de.size + j < l2.length * de.size := by
            have : (q - l.length + 1) * de.size ≤ l2.length * de.size := Nat.mul_le_mul_right _ (by omega)
            rw [Nat.add_mul (q - l.length)] at this; omega
          have e1 : cc.getD (q * de.size + j) undef = news.getD ((q - l.length) * de.size + j) undef := by
            rw [← hcc, Array.getD_eq_getD_getElem?, Array.getElem?_append_left (by rw [Array.size_append, List.size_toArray, List.size_toArray, hol, hnl]; omega), Array.getElem?_append_right (by rw [List.size_toArray, hol]; omega), List.getElem?_toArray, List.size_toArray, hol, e2, List.getD_eq_getElem?_getD]
          rw [e1, getD_append_r _ _ _ _ (by omega)]
          exact ((hreps2 _ j (by omega) hj).mono hA).drew
    · rw [hcsz]; simp

theorem appendT_sound (hT : TyOk P C.ty) (hs : StOk F β s w) {T : TypeId} {x y : AV} {v u : Value} (ty : TypeId) (hx : Rep β w (Or2 F (OwnOf β s)) x v) (hy : Rep β w (Or2 F (OwnOf β s)) y u) {K : Nat → Store → Nat → Nat → Prop} (hc : appendT C T x y K s) :
    AppN P F β s w (Builtin.append_ #[T, T] ty #[v, u]) (fun g s' n len => K g s' n len ∧ Grew β s s') := by
  unfold appendT at hc
  split at hc
  · next d hd =>
    split at hc
    · next e hsh =>
      split at hc
      · next de hde =>
        split at hc
        · next l2 hl2 =>
          obtain ⟨hpos, hw, hc⟩ := hc
          have hu := rowsAt_sound hs hy hl2 hw
          split at hc
          · next g n off len =>
            split at hc
            · next m l ro hg =>
              obtain ⟨rfl, rfl, rfl, rfl, h1, h2, hK⟩ := hc
              obtain ⟨q1, q2⟩ := hs.ents _ _ hg
              generalize hlen : l.length = len at hx
              cases hx with
              | tokN g n a hb =>
                rcases q2 with ⟨_, rfl⟩ | ⟨b', c, Tc, fr, q2, _⟩
                · have hsm := hs.dropTok g
                  have hA : ∀ a, Or2 F (OwnOf β (s.set g none)) a → Or2 F (OwnOf β s) a := fun a ha => ha.imp id (own_drop g a)
                  have hu' : RowsAt w (Or2 F (OwnOf β (s.set g none))) de.size l2 u := by
                    obtain ⟨a2, cap2, r1, r2, r3⟩ := hu
                    exact ⟨a2, cap2, r1, r2, r3.imp id fun ⟨b, off, c, r4, r5⟩ => ⟨b, off, c, r4, fun i j hi hj => ⟨(r5 i j hi hj).1, (r5 i j hi hj).2.mono hA⟩⟩⟩
                  simp only [List.nil_append, List.length_nil, Nat.zero_add] at h1 h2 hK
                  have := append_none (P := P) hT hsm hd hsh hde (a := a) (K := fun g s' n len => K g s' n len ∧ Grew β s s') ty hu' h1 h2 ro (fun g' h0 => ⟨hK g' (hs.none_of h0), (Grew.set (.inr (.inr rfl))).trans (.set (.inr (.inl h0)))⟩)
                  obtain ⟨β', g', s', n', len', v', w', r1, r2, r3, r4, r5⟩ := this
                  exact ⟨β', g', s', n', len', v', w', r1, r2, r3, (Frame.dropTok g).trans r4, r5⟩
                · rw [hb] at q2; cases q2
              | tok g n off len b a cap T' sz hb hlc hm hshp ha =>
                rcases q2 with ⟨q2, _⟩ | ⟨b', c, Tc, fr, q2, q3, q4, q5, q6⟩
                · rw [hb] at q2; cases q2
                · rw [hb] at q2
                  obtain rfl : b = b' := by simpa using q2
                  rcases ha with ⟨rfl, hsz⟩ | ⟨_, h0⟩
                  · simp only [Nat.zero_mul, Nat.zero_add] at hsz ⊢
                    have hcs : c.size = cap * de.size := by
                      rw [shape_of q3] at hshp
                      simp only [Option.some.injEq, Prod.mk.injEq] at hshp
                      rw [hshp.2, hsz]
                    subst hlen
                    exact append_row hT hs hd hsh hde ty hg hb q3 q4 hcs hlc hm q1 q6 hu h1 h2 fun g' h0 => ⟨hK g' (hs.none_of h0), (Grew.set (.inr (.inr rfl))).trans (.set (.inr (.inl h0)))⟩
                  · exact absurd rfl h0
            · exact hc.elim
          · obtain ⟨hx0, h1, h2, hK⟩ := hc
            split at hx0
            · cases hx.t_inv; exact append_none hT hs hd hsh hde ty hu h1 h2 false fun g' h0 => ⟨hK g' (hs.none_of h0), .set (.inr (.inl h0))⟩
            · cases hx.t_inv; exact append_none hT hs hd hsh hde ty hu h1 h2 false fun g' h0 => ⟨hK g' (hs.none_of h0), .set (.inr (.inl h0))⟩
            · cases hx0
        · exact hc.elim
      · exact hc.elim
    · exact hc.elim
  · exact hc.elim

/-- What a copy comes to. -/
def CopN (P : Program) (F : Addr → Prop) (β : Bt) (s : Store) (w : World) (m : Sem Value) (K : Store → Nat → Prop) : Prop :=
  ∃ (s' : Store) (n : Nat) (w' : World), m.run P w = .ok (goInt n) w' ∧ K s' n ∧ StOk F β s' w' ∧ Frame (OwnOf β s) β w (OwnOf β s') β w' ∧ Grew β s s'

theorem set_same_id {g : Nat} {e : Entry} (hg : s.f g = some e) : s.set g (some e) = s :=
  Store.ext' fun k => by
    by_cases h : k = g
    · subst h; rw [Store.set_same, hg]
    · rw [Store.set_other _ _ h]

theorem copyT_sound (hT : TyOk P C.ty) (hs : StOk F β s w) {T : TypeId} {x y : AV} {v u : Value} (ty : TypeId) (hx : Rep β w (Or2 F (OwnOf β s)) x v) (hy : Rep β w (Or2 F (OwnOf β s)) y u) {K : Store → Nat → Prop} (hc : copyT C T x y K s) :
    CopN P F β s w (Builtin.copy_ #[T, T] ty #[v, u]) K := by
  unfold copyT at hc
  split at hc
  · next d hd =>
    obtain ⟨uu, hun, hsh⟩ := und hT hd
    split at hc
    · next e hsx =>
      rw [hsx] at hsh
      obtain rfl := sh_slice hsh
      split at hc
      · next de hde =>
        obtain ⟨i, ue, z, hi, hue, _, hsz, hby, hz, hzero⟩ := hT e de hde
        split at hc
        · next l2 hl2 =>
          obtain ⟨hw, hc⟩ := hc
          have hu := rowsAt_sound hs hy hl2 hw
          split at hc
          · next g n off len =>
            split at hc
            · next m l ro hg =>
              obtain ⟨rfl, rfl, rfl, hol, hK⟩ := hc
              obtain ⟨h1, h2⟩ := hs.ents _ _ hg
              have none_case : min l2.length len = 0 → ∀ (a : Option Addr) (cap : Nat), v = .slice a len cap → CopN P F β s w (Builtin.copy_ #[T, T] ty #[v, u]) K := by
                intro h0 a cap hv
                subst hv
                obtain ⟨a2, cap2, rfl, _, _⟩ := hu
                have hrows : l.take off ++ l2.take len ++ l.drop (off + min l2.length len) = l := by
                  have : l2.take len = [] := List.eq_nil_of_length_eq_zero (by rw [List.length_take, Nat.min_comm]; exact h0)
                  rw [this, h0]; simp
                rw [hrows, h0, set_same_id hg] at hK
                refine ⟨s, 0, w, ?_, hK, hs, Frame.refl _ _ _, .refl _ _⟩
                have h0' : Nat.min l2.length len = 0 := h0
                have hl0 : (loadCells (a2.getD default) 0).run P w = .ok #[] w := by simp [loadCells, loadCellsFrom]
                cases a2 <;> cases a <;> simp [Builtin.copy_, run_underlying hun, Builtin.lenOf, Builtin.firstCells, sizeOf, typeInfo, hi, h0', storeCells, loadCells, loadCellsFrom]
              cases hx with
              | tokN g n a hb => exact none_case (by simp) a 0 rfl
              | tok g n off len b a cap T' sz hb hlc hm hshp ha =>
                rcases ha with ⟨rfl, hszc⟩ | ⟨hcap, _⟩
                · by_cases hk0 : min l2.length len = 0
                  · exact none_case hk0 _ cap rfl
                  · have hne : l2 ≠ [] := fun h => by subst h; simp at hk0
                    rcases h2 with ⟨h2, _⟩ | ⟨b', c, Tc, fr, h2, h3, h4, h5, h6⟩
                    · rw [hb] at h2; cases h2
                    · rw [hb] at h2
                      obtain rfl : b = b' := by simpa using h2
                      obtain ⟨a2, cap2, news, rfl, n1, n2, n3, n4⟩ := hu.news hne
                      obtain ⟨_, _, _, hwid, _⟩ := hu
                      generalize hk : min l2.length len = kk at *
                      have hkl2 : kk ≤ l2.length := by omega
                      have hkl : kk ≤ len := by omega
                      have hkn : kk * de.size ≤ l2.length * de.size := Nat.mul_le_mul_right _ hkl2
                      have hcl : (news.take (kk * de.size)).length = kk * de.size := by rw [List.length_take, n1]; omega
                      have hin : off * de.size + kk * de.size ≤ c.size := by
                        have : (off + kk) * de.size ≤ l.length * de.size := Nat.mul_le_mul_right _ (by omega)
                        rw [Nat.add_mul] at this; omega
                      have hld : (loadCells a2 (kk * de.size)).run P w = .ok (news.take (kk * de.size)).toArray w := by
                        have := run_loadCells_list (P := P) w a2 (news.take (kk * de.size)) fun j v hj => n2 j v (by
                          rw [List.getElem?_take] at hj
                          split at hj
                          · exact hj
                          · cases hj)
                        rwa [hcl] at this
                      have hst := run_storeCells (P := P) (off := off * de.size) (news.take (kk * de.size)) 0 c w h3 h4 (by rw [hcl]; omega) fun v hv => n3 v (List.mem_of_mem_take hv)
                      simp only [Nat.add_zero] at hst
                      have hps := putL_size (news.take (kk * de.size)) c (off * de.size)
                      have hpg := fun q => putL_get (news.take (kk * de.size)) c (off * de.size) q (by rw [hcl]; omega)
                      generalize hL : l.take off ++ l2.take len ++ l.drop (off + kk) = L at hK
                      have htl : (l2.take len).length = kk := by rw [List.length_take, Nat.min_comm]; exact hk
                      have hLl : L.length = l.length := by
                        rw [← hL]; simp only [List.length_append, List.length_take, List.length_drop] at htl ⊢; omega
                      have hel : ∀ j, j < l.length → L.getD j [] = if off ≤ j ∧ j < off + kk then l2.getD (j - off) [] else l.getD j [] := fun j hj => by
                        rw [← hL]
                        have hto : (l.take off).length = off := by rw [List.length_take]; omega
                        by_cases hq : j < off
                        · rw [if_neg (by omega), List.append_assoc, getD_append_l _ _ _ _ (by rw [hto]; exact hq), getD_take _ _ _ _ hq]
                        · by_cases hq2 : j < off + kk
                          · rw [if_pos ⟨by omega, hq2⟩, List.append_assoc, getD_append_r _ _ _ _ (by rw [hto]; omega), hto, getD_append_l _ _ _ _ (by rw [htl]; omega), getD_take _ _ _ _ (by omega)]
                          · rw [if_neg (by omega), List.append_assoc, getD_append_r _ _ _ _ (by rw [hto]; omega), hto, getD_append_r _ _ _ _ (by rw [htl]; omega), htl, getD_drop]
                            congr 1; omega
                      have hf1 : Frame (OwnOf β s) β w (OwnOf β (s.set g (some (.row de.size L false)))) β (repl w b (putL c (off * de.size) (news.take (kk * de.size))) Tc fr) := by
                        refine repl_frame h3 hps (fun q hq => ?_) (fun k q hk ha => ?_) (fun _ _ h => h) fun _ _ h => .inl h
                        · exact absurd (own_token (off := q) hg hb (fun h => by cases h)) hq
                        · obtain ⟨k', b'', g1, g2, g3⟩ := ha
                          by_cases hkg : k' = g
                          · subst hkg
                            exact ⟨k', b'', g1, g2, by rw [hg]; intro h; cases h⟩
                          · rw [Store.set_other _ _ hkg] at g3; exact ⟨k', b'', g1, g2, g3⟩
                      have hs' : StOk F β (s.set g (some (.row de.size L false))) (repl w b (putL c (off * de.size) (news.take (kk * de.size))) Tc fr) := by
                        have dom' : ∀ k, (s.set g (some (.row de.size L false))).f k ≠ none → s.f k ≠ none := fun k hk => by
                          by_cases hkg : k = g
                          · subst hkg; rw [hg]; simp
                          · rwa [Store.set_other _ _ hkg] at hk
                        refine hs.evolve hf1 (fun k e he => ?_) (fun k m b hk hm => hs.inj k m b (dom' k hk) (dom' m hm)) hs.fin (fun k q hq => by rw [repl_size]; exact hs.dom k q hq) fun a ha k hk => hs.apart a ha k (dom' k hk)
                        by_cases hkg : k = g
                        · subst hkg
                          rw [Store.set_same] at he
                          cases he
                          right
                          refine ⟨fun j hj => ?_, .inr ⟨b, _, Tc, fr, hb, repl_same h3, by rw [hps]; exact h4, by rw [hps, hLl]; exact h5, fun j q hj hq => ?_⟩⟩
                          · rw [hLl] at hj; rw [hel j hj]
                            split
                            · exact hwid _ (by omega)
                            · exact h1 j hj
                          · rw [hLl] at hj
                            rw [hel j hj]
                            rw [Array.getD_eq_getD_getElem?, hpg, hcl]
                            by_cases hjk : off ≤ j ∧ j < off + kk
                            · have e1 : off * de.size ≤ j * de.size := Nat.mul_le_mul_right _ hjk.1
                              have e2 : (j + 1) * de.size ≤ (off + kk) * de.size := Nat.mul_le_mul_right _ hjk.2
                              rw [Nat.add_mul, Nat.add_mul] at e2
                              have e3 : j * de.size + q - off * de.size = (j - off) * de.size + q := by
                                have : j * de.size = off * de.size + (j - off) * de.size := by rw [← Nat.add_mul]; congr 1; omega
                                omega
                              rw [if_pos hjk, if_pos (by omega), e3, List.getElem?_take, if_pos (by
                                have : (j - off + 1) * de.size ≤ kk * de.size := Nat.mul_le_mul_right _ (by omega)
                                rw [Nat.add_mul (j - off)] at this; omega), ← List.getD_eq_getElem?_getD]
                              exact (n4 (j - off) q (by omega) hq).frame hf1
                            · rw [if_neg hjk, if_neg (fun h => hjk ?_), ← Array.getD_eq_getD_getElem?]
                              · exact (h6 j q hj hq).frame hf1
                              · rcases Nat.lt_or_ge j off with hlt | hge
                                · have : (j + 1) * de.size ≤ off * de.size := Nat.mul_le_mul_right _ hlt
                                  rw [Nat.add_mul] at this; omega
                                · refine ⟨hge, ?_⟩
                                  rcases Nat.lt_or_ge j (off + kk) with hlt | hge2
                                  · exact hlt
                                  · have : (off + kk) * de.size ≤ j * de.size := Nat.mul_le_mul_right _ hge2
                                    rw [Nat.add_mul] at this; omega
                        · rw [Store.set_other _ _ hkg] at he
                          refine .inl ⟨he, fun q hq => repl_other fun hqb => ?_⟩
                          subst hqb
                          exact hkg (hs.inj k g q (by rw [he]; simp) (by rw [hg]; simp) hq hb)
                      refine ⟨_, kk, _, ?_, hK, hs', hf1, .set (.inl (by simp [hg]))⟩
                      have hk' : Nat.min l2.length len = kk := hk
                      simp [Builtin.copy_, run_underlying hun, Builtin.lenOf, Builtin.firstCells, sizeOf, typeInfo, hi, hk', hsz, hld, hst]
                · exact none_case (by omega) a cap rfl
            · exact hc.elim
          · exact hc.elim
        · exact hc.elim
      · exact hc.elim
    · exact hc.elim
  · exact hc.elim

end
end Go.Eng

namespace Go.Eng
section
variable {P : Program} {C : Ctx} {F : Addr → Prop} {s₀ : Store} {β₀ β : Bt} {w₀ w : World} {N : Nat} {σ : St} {a : Act} {s : Store}

structure Sys (P : Program) (C : Ctx) : Prop where
  ty : TyOk P C.ty
  eq : EqOk P C
  nz : ∀ T ks, C.eqk T = some ks → ∀ k ∈ ks, k ≠ 0
  con : ConOk P C

theorem Rep.ofValue (v : Value) : Rep β w F (AV.ofValue v) v := by
  unfold AV.ofValue
  split
  · next cs =>
    split
    · next hall =>
      refine .agg _ _ (by simp) (fun i hi => ?_) fun i hi => ?_
      · have hi' : i < (cs.toList.map AV.ofCell).length := hi
        have := List.all_eq_true.1 hall _ (List.getElem_mem hi')
        simpa [List.getD_eq_getElem?_getD, List.getElem?_eq_getElem hi'] using this
      · have hi' : i < cs.size := by simpa using hi
        have := Rep.ofCell (β := β) (w := w) (A := F) cs[i]
        simpa [List.getD_eq_getElem?_getD, Array.getD_eq_getD_getElem?, hi'] using this
    · exact .unk _
  · next q a b =>
    split
    · next f h1 h2 =>
      obtain ⟨a⟩ := a
      obtain ⟨b⟩ := b
      simp only at h1 h2
      subst h1 h2
      exact .fn _ _ _ rfl (fun i hi => by simp at hi) fun i hi => by simp at hi
    · exact .unk _
  · exact .ofCell _

theorem Inv.ev (h : Inv F s₀ β₀ w₀ N β σ a w) (x : Operand) : Rep β w (Or2 F (OwnOf β σ.st)) (σ.ev x) (a.eval x) := by
  cases x with
  | tmp t => exact h.slots t
  | const v => exact .ofValue v
  | global g => exact .unk _
  | func f => exact .fn _ _ _ rfl (fun i hi => by simp at hi) fun i hi => by simp at hi

theorem strip_rep {A : Addr → Prop} {x : AV} {v : Value} (h : Rep β w A x v) (hc : x.okc) : Rep β w A x.strip v := by
  cases x with
  | opt b y => cases h with
    | opt b y x h h' => exact h hc
  | _ => exact h

theorem okAll_mem {ev : Operand → AV} : ∀ {l : List Operand}, okAll ev l → ∀ x ∈ l, (ev x).okc
  | [], _, x, hx => by simp at hx
  | y :: r, h, x, hx => by
    rcases List.mem_cons.1 hx with rfl | hx
    · exact h.1
    · exact okAll_mem h.2 x hx

/-- The guard says what the model's guard says. -/
theorem wanted_eq (h : Inv F s₀ β₀ w₀ N β σ a w) {ops : Array Oper} {o : Oper} {j d : Nat} {want wb : Bool} (hg : o.guard = some (j, want)) (hd : (ops[j]?).bind (·.dst) = some d) (hdN : d < N) (hw : (σ.get d).wanted want = some wb) :
    Region.wanted o (yielded ops a.tmps) = wb := by
  have hr := h.slots d
  have hlt : d < a.tmps.size := by rw [h.size]; exact hdN
  have hget : a.tmps[d]? = some (a.tmps.getD d undef) := by simp [Array.getD_eq_getD_getElem?, hlt]
  have hy : yielded ops a.tmps j = match a.tmps.getD d undef with | .bool b => some b | _ => none := by
    unfold yielded
    rw [hd, Option.bind_some, hget]
    cases a.tmps.getD d undef <;> rfl
  unfold Region.wanted
  rw [hg]
  simp only [hy]
  generalize a.tmps.getD d undef = v at hr ⊢
  unfold AV.wanted at hw
  split at hw
  · next b hx =>
    rw [hx] at hr
    obtain rfl := hr.bool_inv
    cases hw
    cases b <;> cases want <;> rfl
  · next c b hx =>
    rw [hx] at hr
    cases hw
    cases hr with
    | opt b' y x h1 h2 =>
      cases c with
      | true => obtain rfl := (h1 rfl).bool_inv; cases b <;> cases want <;> rfl
      | false => rw [h2 rfl]; rfl
  · next c v _ hx =>
    rw [hx] at hr
    cases c with
    | true => cases hw
    | false =>
      cases hw
      cases hr with
      | opt b' y x h1 h2 => rw [h2 rfl]; rfl
  · cases hw

/-- The state that is to be reached. -/
def Post (F : Addr → Prop) (s₀ : Store) (β₀ : Bt) (w₀ : World) (N : Nat) (K : St → Prop) : Act → World → Prop := fun a' w' => ∃ β' σ', K σ' ∧ Inv F s₀ β₀ w₀ N β' σ' a' w'

theorem Post.mk {K : St → Prop} (h : Inv F s₀ β₀ w₀ N β σ a w) (hk : K σ) : Post F s₀ β₀ w₀ N K a w := ⟨β, σ, hk, h⟩

theorem eff_inv {β' : Bt} {w' : World} {ros gs : List Nat} {es : List Entry} (h : Inv F s₀ β₀ w₀ N β σ a w) (h1 : StOk F β' ((σ.st.marks ros).adds gs es) w') (h0 : ∀ g ∈ gs, β g = none)
    (h2 : Frame (OwnOf β σ.st) β w (OwnOf β' ((σ.st.marks ros).adds gs es)) β' w') : Inv F s₀ β₀ w₀ N β' (σ.eff ros gs es) a w' := h.step h2 h1 ((Grew.marks _ _ _).trans (.adds _ _ _ h0))

theorem put_opt {b : Bool} {x : AV} {v : Value} {A : Addr → Prop} (h : Rep β w A x v) (hb : b = true) : Rep β w A (.opt b x) v := .opt _ _ _ (fun _ => h) fun h0 => by rw [hb] at h0; cases h0

/-- Carrying out a gentle operation that calls no Go function. -/
theorem gentle_wp {Q : Exit → Act → World → Prop} {o : Oper} {b b' : B} {K : St → Prop} (h : Inv F s₀ β₀ w₀ N β σ a w) (hd : ∀ k, o.dst = some k → k < N)
    (hx : EffN P F β σ.st w (execOp a.eval o) b) (hb : b'.ros = b.ros ∧ b'.es = b.es ∧ ∀ gs A β w v, Rep β w A (b.av gs) v → Rep β w A (b'.av gs) v) (hK : ∀ gs, Fresh (σ.st.marks b'.ros) gs b'.es → K ((σ.eff b'.ros gs b'.es).put o.dst (b'.av gs))) :
    o.wp P a w (Post F s₀ β₀ w₀ N K) Q := by
  obtain ⟨gs, v, β', w', h1, ⟨h2, h0⟩, h3, h4, h5⟩ := hx
  obtain ⟨e1, e2, e3⟩ := hb
  unfold Oper.wp
  rw [h1]
  simp only [Oper.upon]
  refine Post.mk ((eff_inv h h3 h0 h4).put (e3 gs _ _ _ _ h5) o.dst hd) ?_
  have := hK gs (by rw [e1, e2]; exact h2)
  rwa [e1, e2] at this

theorem call_exec {c : Call} {o : Oper} (ho : o.op = .call c) {h : Operand} (hcal : c.callee = .value h) {f : FuncId} {vs : Array Value} (hv : a.eval h = .func (.func f) #[] vs) (hf : FnOk P f) :
    (execOp a.eval o).run P w = .ok (.enter f (c.args.map a.eval ++ vs)) w := by
  unfold execOp
  rw [ho]
  simp [resolve, hcal, hv, Deferred.ofValue, invoke, run_callFunc hf]

theorem call_wp {Q : Exit → Act → World → Prop} {o : Oper} {b b' : B} {K : St → Prop} {f : FuncId} {vs : Array Value} (h : Inv F s₀ β₀ w₀ N β σ a w) (hd : ∀ k, o.dst = some k → k < N)
    (hx : (execOp a.eval o).run P w = .ok (.enter f vs) w) (hc : CallN P F β σ.st w f vs b) (hb : b'.ros = b.ros ∧ b'.es = b.es ∧ ∀ gs A β w v, Rep β w A (b.av gs) v → Rep β w A (b'.av gs) v)
    (hK : ∀ gs, Fresh (σ.st.marks b'.ros) gs b'.es → K ((σ.eff b'.ros gs b'.es).put o.dst (b'.av gs))) : o.wp P a w (Post F s₀ β₀ w₀ N K) Q := by
  obtain ⟨e1, e2, e3⟩ := hb
  unfold Oper.wp
  rw [hx]
  simp only [Oper.upon]
  refine Calls.mono hc fun e w' ⟨gs, v, β', h1, ⟨h2, h0⟩, h3, h4, h5⟩ => ?_
  subst h1
  refine Post.mk ((eff_inv h h3 h0 h4).put (e3 gs _ _ _ _ h5) o.dst hd) ?_
  have := hK gs (by rw [e1, e2]; exact h2)
  rwa [e1, e2] at this

/-- A gentle operation, whichever: what 'opB' says is done. -/
theorem opB_wp (S : Sys P C) {Q : Exit → Act → World → Prop} {o : Oper} {ev : Operand → AV} {b' : B} {K : St → Prop} (h : Inv F s₀ β₀ w₀ N β σ a w) (hd : ∀ k, o.dst = some k → k < N)
    (hev : ∀ x ∈ o.op.operands, Rep β w (Or2 F (OwnOf β σ.st)) (ev x) (a.eval x)) (hc : (opB C ev σ.st o.op).c)
    (hb : b'.ros = (opB C ev σ.st o.op).ros ∧ b'.es = (opB C ev σ.st o.op).es ∧ ∀ gs A β w v, Rep β w A ((opB C ev σ.st o.op).av gs) v → Rep β w A (b'.av gs) v)
    (hK : ∀ gs, Fresh (σ.st.marks b'.ros) gs b'.es → K ((σ.eff b'.ros gs b'.es).put o.dst (b'.av gs))) : o.wp P a w (Post F s₀ β₀ w₀ N K) Q := by
  cases hn : callsGo o.op with
  | false => exact gentle_wp h hd (opB_sound S.ty S.eq S.nz h.st hev hc hn) hb hK
  | true =>
    cases hop : o.op with
    | call c =>
      rw [hop] at hn hc hb hev
      unfold callsGo at hn
      dsimp only at hn
      split at hn
      · next hh hcal =>
        simp only [opB, hcal] at hc hb
        have hrh := hev hh (by simp [Op.operands, Call.operands, hcal])
        unfold calleeB at hc hb
        split at hc
        · next f caps hfe =>
          rw [hfe] at hrh hb
          cases hrh' : a.eval hh <;> rw [hrh'] at hrh <;> first | (cases hrh; done) | skip
          next fnv p q =>
          cases hrh with
          | fn f caps vs hl h1 h2 =>
            have hargs : Args β w (Or2 F (OwnOf β σ.st)) (c.args.toList.map ev) (c.args.map a.eval) := by
              have := args_map (β := β) (w := w) (A := Or2 F (OwnOf β σ.st)) (l := c.args.toList) (ev := ev) (ρ := a.eval) fun x hx => hev x (by
                have hx' : x ∈ c.args := by simpa using hx
                simp [Op.operands, Call.operands, hx'])
              have e : (c.args.toList.map a.eval).toArray = c.args.map a.eval := by rw [← Array.toList_map, Array.toArray_toList]
              rwa [e] at this
            obtain ⟨hfn, hcall⟩ := callB_sound S.con h.st (args_app hargs ⟨hl, h2⟩) hc
            exact call_wp h hd (call_exec hop hcal hrh' hfn) hcall hb hK
        · exact hc.elim
      · cases hn
    | _ => rw [hop] at hn; cases hn

end
end Go.Eng
