/- A way to run calls of the program on told values is shown to be sound; it holds for programs that follow mixed orders. -/
import GoSem.Machine.Frame
import Derived.Laws.Tables
import Derived.Laws.StructEq
import Derived.WalkKit
import Derived.MapKept
import Derived.Great.BuildSlice
import Derived.ArgAppend
import Derived.Deep.AppendSrc
import Derived.Laws.MakeOwn
import Derived.Lib.ConvBytes
import Derived.Laws.IdiomCopy
import Derived.WideLaws
import Derived.Laws.Slices
import Derived.Lib.Strings
set_option linter.unusedVariables false
set_option linter.unusedSimpArgs false
/-! An evaluator of loaded programs over a heap of numbered blocks: it answers what a call comes to, in whatever order and with whatever capacities. -/
namespace Go.Ev

/-! ### 1. Finite maps from numbers -/
inductive Trie (α : Type) where
  | leaf
  | node (v : Option α) (l r : Trie α)
namespace Trie
variable {α : Type}
def get : Trie α → Nat → Option α
  | .leaf, _ => none
  | .node v l r, n => if n = 0 then v else if n % 2 = 1 then get l (n / 2) else get r (n / 2 - 1)
def single : Nat → Nat → Option α → Trie α
  | 0, _, v => .node v .leaf .leaf
  | f + 1, n, v => if n = 0 then .node v .leaf .leaf else if n % 2 = 1 then .node none (single f (n / 2) v) .leaf else .node none .leaf (single f (n / 2 - 1) v)
def put : Trie α → Nat → Option α → Trie α
  | .leaf, n, v => single n n v
  | .node u l r, n, v => if n = 0 then .node v l r else if n % 2 = 1 then .node u (put l (n / 2) v) r else .node u l (put r (n / 2 - 1) v)
theorem get_single : ∀ (f n : Nat) (v : Option α) (m : Nat), n ≤ f → get (single f n v) m = if m = n then v else none
  | 0, n, v, m, h => by
    obtain rfl : n = 0 := by omega
    unfold single get
    by_cases hm : m = 0
    · simp [hm]
    · rw [if_neg hm, if_neg hm]; split <;> rfl
  | f + 1, n, v, m, h => by
    unfold single
    by_cases hn : n = 0
    · subst hn
      rw [if_pos rfl]; unfold get
      by_cases hm : m = 0
      · simp [hm]
      · rw [if_neg hm, if_neg hm]; split <;> rfl
    · rw [if_neg hn]
      by_cases h1 : n % 2 = 1
      · rw [if_pos h1]; unfold get
        by_cases hm : m = 0
        · rw [if_pos hm, if_neg (by omega)]
        · rw [if_neg hm]
          by_cases hm1 : m % 2 = 1
          · rw [if_pos hm1, get_single f (n / 2) v (m / 2) (by omega)]
            by_cases e : m = n
            · simp [e]
            · rw [if_neg e, if_neg (by omega)]
          · rw [if_neg hm1, if_neg (by rintro rfl; exact hm1 h1)]; rfl
      · rw [if_neg h1]; unfold get
        by_cases hm : m = 0
        · rw [if_pos hm, if_neg (by omega)]
        · rw [if_neg hm]
          by_cases hm1 : m % 2 = 1
          · rw [if_pos hm1, if_neg (by rintro rfl; exact h1 hm1)]; rfl
          · rw [if_neg hm1, get_single f (n / 2 - 1) v (m / 2 - 1) (by omega)]
            by_cases e : m = n
            · simp [e]
            · rw [if_neg e, if_neg (by omega)]
theorem get_put : ∀ (t : Trie α) (n : Nat) (v : Option α) (m : Nat), get (put t n v) m = if m = n then v else get t m
  | .leaf, n, v, m => by
    unfold put
    rw [get_single _ _ _ _ (Nat.le_refl _)]; rfl
  | .node u l r, n, v, m => by
    unfold put
    by_cases hn : n = 0
    · subst hn
      rw [if_pos rfl]; unfold get
      by_cases hm : m = 0
      · simp [hm]
      · simp [hm]
    · rw [if_neg hn]
      by_cases h1 : n % 2 = 1
      · rw [if_pos h1]; unfold get
        by_cases hm : m = 0
        · rw [if_pos hm, if_neg (by omega), if_pos hm]
        · rw [if_neg hm, if_neg hm]
          by_cases hm1 : m % 2 = 1
          · rw [if_pos hm1, if_pos hm1, get_put l (n / 2) v (m / 2)]
            by_cases e : m = n
            · simp [e]
            · rw [if_neg e, if_neg (by omega)]
          · rw [if_neg hm1, if_neg hm1, if_neg (by rintro rfl; exact hm1 h1)]
      · rw [if_neg h1]; unfold get
        by_cases hm : m = 0
        · rw [if_pos hm, if_neg (by omega), if_pos hm]
        · rw [if_neg hm, if_neg hm]
          by_cases hm1 : m % 2 = 1
          · rw [if_pos hm1, if_pos hm1, if_neg (by rintro rfl; exact h1 hm1)]
          · rw [if_neg hm1, if_neg hm1, get_put r (n / 2 - 1) v (m / 2 - 1)]
            by_cases e : m = n
            · simp [e]
            · rw [if_neg e, if_neg (by omega)]
end Trie

/-! ### 2. Values: an address is a block's number and a cell in it -/
abbrev Id := Nat
inductive AV where
  | bool (b : Bool)
  | int (k : IntKind) (n : Int)
  | str (s : List UInt8)
  | ptr (a : Option (Id × Nat))
  | slice (a : Option (Id × Nat)) (len : Nat) (cap : Option Nat)
  | map (r : Option Id)
  | func (f : Fn) (first captured : List AV)
  | nilFunc
  | iface (t : TypeId) (v : AV)
  | nilIface
  | agg (cs : List AV)
  | tuple (cs : List AV)
  | junk
deriving Inhabited

inductive ABlk where
  | cells (cs : List AV) (elem : TypeId) (grp : Id)
  | ro (cs : List AV)
  | map (es : List (AV × AV))
  | iter (s : List UInt8) (pos : Nat)
deriving Inhabited

structure St where
  heap : Trie ABlk
  grps : Trie (List Id)
  next : Nat

def undefA : AV := .tuple []
def AV.cells : AV → List AV
  | .agg cs => cs
  | v => [v]
/-- A value of one cell. -/
def AV.one : AV → Bool
  | .agg _ => false
  | .tuple _ => false
  | _ => true

def ofVal1 : Value → Option AV
  | .bool b => some (.bool b)
  | .int k n => some (.int k n)
  | .string s => some (.str s.data.toList)
  | .pointer none => some (.ptr none)
  | .slice none 0 0 => some (.slice none 0 (some 0))
  | .map none => some (.map none)
  | .nilFunc => some .nilFunc
  | .nilIface => some .nilIface
  | _ => none
def ofVals : List Value → Option (List AV)
  | [] => some []
  | v :: vs => (ofVal1 v).bind fun x => (ofVals vs).bind fun xs => some (x :: xs)
/-- A constant's value. -/
def ofVal (v : Value) : Option AV :=
  match v with
  | .agg vs => (ofVals vs.toList).bind fun xs => some (.agg xs)
  | .tuple vs => if vs.size = 0 then some (.tuple []) else none
  | v => ofVal1 v

def evalA (P : Program) (σ : Trie AV) : Operand → Option AV
  | .tmp t => σ.get t
  | .const v => ofVal v
  | .global g => if g < P.globals.size then some (.ptr (some (g, 0))) else none
  | .func f => some (.func (.func f) [] [])
def evalL (P : Program) (σ : Trie AV) : List Operand → Option (List AV)
  | [] => some []
  | x :: xs => (evalA P σ x).bind fun v => (evalL P σ xs).bind fun vs => some (v :: vs)
def evalPs (P : Program) (σ : Trie AV) : List (Nat × Operand) → Option (List (Nat × AV))
  | [] => some []
  | x :: xs => (evalA P σ x.2).bind fun v => (evalPs P σ xs).bind fun vs => some ((x.1, v) :: vs)
def evalO (P : Program) (σ : Trie AV) : Option Operand → Option (Option AV)
  | none => some none
  | some x => (evalA P σ x).bind fun v => some (some v)

/-! ### 3. The heap -/
def St.cellsAt (st : St) (id : Id) : Option (List AV) :=
  match st.heap.get id with
  | some (.cells cs _ _) => some cs
  | some (.ro cs) => some cs
  | _ => none
def takeN : Nat → List AV → Option (List AV)
  | 0, _ => some []
  | _ + 1, [] => none
  | n + 1, c :: cs => (takeN n cs).bind fun r => some (c :: r)
def dropN : Nat → List AV → Option (List AV)
  | 0, cs => some cs
  | _ + 1, [] => none
  | n + 1, _ :: cs => dropN n cs
/-- n cells from a place on. -/
def readN (cs : List AV) (off n : Nat) : Option (List AV) := (dropN off cs).bind (takeN n)
def overN : List AV → List AV → Option (List AV)
  | cs, [] => some cs
  | [], _ :: _ => none
  | _ :: cs, v :: vs => (overN cs vs).bind fun r => some (v :: r)
/-- Cells are written over. -/
def writeN : List AV → Nat → List AV → Option (List AV)
  | cs, 0, vs => overN cs vs
  | [], _ + 1, _ => none
  | c :: cs, n + 1, vs => (writeN cs n vs).bind fun r => some (c :: r)
def kill (heap : Trie ABlk) : List Id → Trie ABlk
  | [] => heap
  | i :: is => kill (heap.put i none) is
def St.alloc (st : St) (b : ABlk) : St := { heap := st.heap.put st.next (some b), grps := st.grps, next := st.next + 1 }
/-- Cells of a block are written over: it alone is left of those that may share its memory. -/
def St.write (st : St) (id off : Nat) (vs : List AV) : Option St :=
  match st.heap.get id with
  | some (.cells cs e g) =>
    if vs.all AV.one then
      (writeN cs off vs).bind fun cs' =>
        match st.grps.get g with
        | none => some { heap := st.heap.put id (some (.cells cs' e g)), grps := st.grps, next := st.next }
        | some l => some { heap := (kill st.heap (l.filter (· != id))).put id (some (.cells cs' e g)), grps := st.grps.put g none, next := st.next }
    else none
  | _ => none

section ops
variable (P : Program)
def sizeA (t : TypeId) : Option Nat := (P.info? t).bind fun i => some i.size
def zeroA (t : TypeId) : Option AV := (P.info? t).bind fun i => i.zero.bind ofVal
def isAggA (t : TypeId) : Option Bool :=
  match P.underlying t with
  | some (.struct _) | some (.array ..) => some true
  | some _ => some false
  | none => none
/-- A variable of type t in cells, at a place. -/
def partA (t : TypeId) (cs : List AV) (off : Nat) : Option AV :=
  (isAggA P t).bind fun b => if b then (sizeA P t).bind fun n => (readN cs off n).bind fun r => some (.agg r) else cs[off]?
def loadA (st : St) (t : TypeId) (a : AV) : Option AV :=
  match a with
  | .ptr (some (id, off)) => (st.cellsAt id).bind fun cs => partA P t cs off
  | _ => none
def storeA (st : St) (t : TypeId) (a v : AV) : Option St :=
  match a with
  | .ptr (some (id, off)) => if sizeA P t = some v.cells.length then st.write id off v.cells else none
  | _ => none
def fieldsA (t : TypeId) : Option (Array Field) :=
  match P.underlying t with
  | some (.struct fs) => some fs
  | _ => none
def fillA (place : Nat → Option (Nat × Nat)) (cells : List AV) : List (Nat × AV) → Option (List AV)
  | [] => some cells
  | (i, v) :: rest => (place i).bind fun p => if v.cells.length = p.2 then (writeN cells p.1 v.cells).bind fun cs => fillA place cs rest else none
def buildA (t : TypeId) (ps : List (Nat × AV)) : Option AV :=
  (zeroA P t).bind fun z =>
    match P.underlying t with
    | some (.struct fs) => (fs.toList.mapM (fun f => (P.info? f.type).map fun i => (f.offset, i.size))).bind fun places => (fillA (places.toArray[·]?) z.cells ps).bind fun r => some (.agg r)
    | some (.array _ e) => (sizeA P e).bind fun n => (fillA (fun i => some (i * n, n)) z.cells ps).bind fun r => some (.agg r)
    | _ => none
def repsA (z : List AV) : Nat → List AV
  | 0 => []
  | n + 1 => z ++ repsA z n
def elemA (t : TypeId) : Option TypeId :=
  match P.underlying t with
  | some (.slice e) => some e
  | _ => none
def bytesLessA : List UInt8 → List UInt8 → Bool := Op.bytesLess

/-- Are two values the same? -/
def eqFields (eq : TypeId → AV → AV → Option Bool) (xs ys : List AV) : List Field → Option Bool
  | [] => some true
  | f :: fs => if f.name = "_" then eqFields eq xs ys fs else
    (partA P f.type xs f.offset).bind fun a => (partA P f.type ys f.offset).bind fun b => (eq f.type a b).bind fun r => if r then eqFields eq xs ys fs else some false
/-- A block that shares no memory with another one, and is no row of bytes. -/
def aloneAt (st : St) (id : Id) : Bool :=
  match st.heap.get id with
  | some (.cells _ e g) => (match P.underlying e with
    | some (.int .u8) => false
    | some _ => true
    | none => false) && (st.grps.get g).isNone
  | _ => false
def eqA (st : St) : Nat → TypeId → AV → AV → Option Bool
  | 0, _, _, _ => none
  | d + 1, t, x, y =>
    match P.underlying t, x, y with
    | some .bool, .bool a, .bool b => some (a == b)
    | some (.int _), .int k a, .int k' b => if k = k' then some (a == b) else none
    | some .string, .str a, .str b => some (a == b)
    | some (.pointer _), .ptr none, .ptr b => some b.isNone
    | some (.pointer _), .ptr (some _), .ptr none => some false
    | some (.pointer e), .ptr (some a), .ptr (some b) => (sizeA P e).bind fun n => if n = 0 then none else if a.1 = b.1 then some (a.2 == b.2) else if aloneAt P st a.1 && aloneAt P st b.1 then some false else none
    | some (.interface _), .nilIface, .nilIface => some true
    | some (.interface _), .nilIface, .iface .. => some false
    | some (.interface _), .iface .., .nilIface => some false
    | some (.struct fs), .agg xs, .agg ys => if P.stoodInHeld t then none else eqFields P (eqA st d) xs ys fs.toList
    | some (.slice _), .slice none _ _, .slice b _ _ => some b.isNone
    | some (.slice _), .slice (some _) _ _, .slice none _ _ => some false
    | some (.map ..), .map none, .map b => some b.isNone
    | some (.map ..), .map (some _), .map none => some false
    | some (.func ..), .nilFunc, .nilFunc => some true
    | some (.func ..), .nilFunc, .func .. => some false
    | some (.func ..), .func .., .nilFunc => some false
    | _, _, _ => none

def intA (op : BinOp) (k : IntKind) (a b : Int) : Option AV :=
  match op with
  | .add => some (.int k (k.wrap (a + b)))
  | .sub => some (.int k (k.wrap (a - b)))
  | .mul => some (.int k (k.wrap (a * b)))
  | .quo => if b = 0 then none else some (.int k (k.wrap (a.tdiv b)))
  | .rem => if b = 0 then none else some (.int k (a.tmod b))
  | .and => some (.int k (k.wrap (BitVec.ofInt k.bits a &&& BitVec.ofInt k.bits b).toNat))
  | .or => some (.int k (k.wrap (BitVec.ofInt k.bits a ||| BitVec.ofInt k.bits b).toNat))
  | .xor => some (.int k (k.wrap (BitVec.ofInt k.bits a ^^^ BitVec.ofInt k.bits b).toNat))
  | .andNot => some (.int k (k.wrap (BitVec.ofInt k.bits a &&& ~~~ BitVec.ofInt k.bits b).toNat))
  | .eql => some (.bool (a == b))
  | .neq => some (.bool (a != b))
  | .lss => some (.bool (decide (a < b)))
  | .leq => some (.bool (decide (a ≤ b)))
  | .gtr => some (.bool (decide (a > b)))
  | .geq => some (.bool (decide (a ≥ b)))
  | .shl => if b < 0 then none else some (.int k (k.wrap (a * 2 ^ min b.toNat k.bits)))
  | .shr => if b < 0 then none else some (.int k (a.fdiv (2 ^ min b.toNat k.bits)))
def stringA (op : BinOp) (a b : List UInt8) : Option AV :=
  match op with
  | .add => if a.length + b.length < 2 ^ 62 then some (.str (a ++ b)) else none
  | .eql => some (.bool (a == b))
  | .neq => some (.bool !(a == b))
  | .lss => some (.bool (Op.bytesLess a b))
  | .leq => some (.bool (Op.bytesLess a b || a == b))
  | .gtr => some (.bool !(Op.bytesLess a b || a == b))
  | .geq => some (.bool !(Op.bytesLess a b))
  | _ => none
/-- '==' of values that are neither numbers nor texts; 'c': one of them is written in the program. -/
def sameA (st : St) (t : TypeId) (c : Bool) (x y : AV) : Option Bool :=
  match x, y with
  | .nilIface, .nilIface => if c then eqA P st 10000 t x y else none
  | .agg _, .agg _ => if P.eqGuardType P.depth t then none else eqA P st 10000 t x y
  | _, _ => eqA P st 10000 t x y
def binA (st : St) (op : BinOp) (t : TypeId) (c : Bool) (x y : AV) : Option AV :=
  match x, y with
  | .int k a, .int k' b => if k = k' ∨ op = .shl ∨ op = .shr then intA op k a b else none
  | .str a, .str b => stringA op a b
  | x, y => match op with
    | .eql => (sameA P st t c x y).bind fun r => some (.bool r)
    | .neq => (sameA P st t c x y).bind fun r => some (.bool !r)
    | _ => none
def unA (op : UnOp) (x : AV) : Option AV :=
  match op, x with
  | .neg, .int k n => some (.int k (k.wrap (0 - n)))
  | .not, .bool b => some (.bool !b)
  | _, _ => none
def bytesA (s : List UInt8) : List AV := s.map fun b => .int .u8 b.toNat
def strA : List AV → Option (List UInt8)
  | [] => some []
  | .int .u8 n :: cs => (strA cs).bind fun r => some (UInt8.ofNat n.toNat :: r)
  | _ :: _ => none
def indexAddrA (t : TypeId) (x i : AV) : Option AV :=
  match P.underlying t, x, i with
  | some (.slice e), .slice (some (id, off)) len _, .int _ n => if 0 ≤ n ∧ n < len then (sizeA P e).bind fun s => some (.ptr (some (id, off + n.toNat * s))) else none
  | some (.array len e), .ptr (some (id, off)), .int _ n => if 0 ≤ n ∧ n < len then (sizeA P e).bind fun s => some (.ptr (some (id, off + n.toNat * s))) else none
  | _, _, _ => none
def indexA (t : TypeId) (x i : AV) : Option AV :=
  match P.underlying t, x, i with
  | some .string, .str s, .int _ n => if 0 ≤ n then (s[n.toNat]?).bind fun b => some (.int .u8 b.toNat) else none
  | some (.array len e), .agg cs, .int _ n => if 0 ≤ n ∧ n < len then (sizeA P e).bind fun s => partA P e cs (n.toNat * s) else none
  | _, _, _ => none
def optInt : Option AV → Option (Option Int)
  | none => some none
  | some (.int _ n) => some (some n)
  | some _ => none
/-- a[l:h:m]; u: the capacity isn't known. -/
def cutA (e : TypeId) (a : Option (Id × Nat)) (l h : Nat) (m : Option Nat) : Option AV :=
  (sizeA P e).bind fun s =>
    match a with
    | none => if l = 0 ∧ h = 0 ∧ m = some 0 then some (.slice none 0 (some 0)) else none
    | some (id, off) => some (.slice (some (id, if m = some l then off else off + l * s)) (h - l) (m.bind fun m => some (m - l)))
/-- Are so many elements known to lie at an address, of a row of such elements? -/
def knownA (st : St) (e : TypeId) (a : Option (Id × Nat)) (len h : Nat) : Bool :=
  match a with
  | some (id, off) => match sizeA P e, st.heap.get id with
    | some s, some (.cells cs e' _) => decide (e' = e ∧ 0 < s ∧ (h ≤ len ∨ off + h * s ≤ cs.length))
    | _, _ => false
  | none => false
def sliceA (st : St) (t : TypeId) (x : AV) (lo hi mx : Option Int) : Option AV :=
  match P.underlying t, x with
  | some .string, .str s =>
    if mx.isNone ∧ 0 ≤ lo.getD 0 ∧ lo.getD 0 ≤ hi.getD s.length ∧ hi.getD s.length ≤ s.length then some (.str ((s.drop (lo.getD 0).toNat).take ((hi.getD s.length).toNat - (lo.getD 0).toNat))) else none
  | some (.slice e), .slice a len (some c) =>
    if (mx.isSome → hi.isSome) ∧ 0 ≤ lo.getD 0 ∧ lo.getD 0 ≤ hi.getD len ∧ hi.getD len ≤ mx.getD c ∧ mx.getD c ≤ c then cutA P e a (lo.getD 0).toNat (hi.getD len).toNat (some (mx.getD c).toNat) else none
  | some (.slice e), .slice a len none =>
    match mx with
    | none => if 0 ≤ lo.getD 0 ∧ lo.getD 0 ≤ hi.getD len ∧ knownA P st e a len (hi.getD len).toNat = true then cutA P e a (lo.getD 0).toNat (hi.getD len).toNat none else none
    | some m => if hi.isSome ∧ 0 < m ∧ 0 ≤ lo.getD 0 ∧ lo.getD 0 ≤ hi.getD len ∧ hi.getD len ≤ m ∧ knownA P st e a len m.toNat = true then cutA P e a (lo.getD 0).toNat (hi.getD len).toNat (some m.toNat) else none
  | some (.array n e), .ptr (some a) =>
    if (mx.isSome → hi.isSome) ∧ 0 ≤ lo.getD 0 ∧ lo.getD 0 ≤ hi.getD n ∧ hi.getD n ≤ mx.getD n ∧ mx.getD n ≤ n then cutA P e (some a) (lo.getD 0).toNat (hi.getD n).toNat (some (mx.getD n).toNat) else none
  | _, _ => none
def sameKey : AV → AV → Option Bool
  | .int k a, .int k' b => if k = k' then some (a == b) else none
  | .str a, .str b => some (a == b)
  | _, _ => none
def findA (k : AV) : List (AV × AV) → Option (Option AV)
  | [] => some none
  | e :: es => (sameKey k e.1).bind fun r => if r then some (some e.2) else findA k es
def setA (k v : AV) : List (AV × AV) → Option (List (AV × AV))
  | [] => some [(k, v)]
  | e :: es => (sameKey k e.1).bind fun r => if r then some ((k, v) :: es) else (setA k v es).bind fun l => some (e :: l)
def entriesA (st : St) (x : AV) : Option (List (AV × AV)) :=
  match x with
  | .map none => some []
  | .map (some id) => match st.heap.get id with
    | some (.map es) => some es
    | _ => none
  | _ => none
/-- The keys of a map's type: whole numbers, texts. -/
def keyOk (t : TypeId) (k : AV) : Bool :=
  match P.underlying t, k with
  | some (.int _), .int .. => true
  | some .string, .str _ => true
  | _, _ => false
def lookupA (st : St) (t : TypeId) (x k : AV) (ok : Bool) : Option AV :=
  match P.underlying t with
  | some (.map kt e) => if keyOk P kt k then
      (entriesA st x).bind fun es => (findA k es).bind fun r =>
        match r with
        | some v => some (if ok then .tuple [v, .bool true] else v)
        | none => (zeroA P e).bind fun z => some (if ok then .tuple [z, .bool false] else z)
    else none
  | _ => none
def mapSetA (st : St) (t : TypeId) (x k v : AV) : Option St :=
  match P.underlying t, x with
  | some (.map kt _), .map (some id) => if keyOk P kt k then
      match st.heap.get id with
      | some (.map es) => (setA k v es).bind fun es => some { heap := st.heap.put id (some (.map es)), grps := st.grps, next := st.next }
      | _ => none
    else none
  | _, _ => none
def firstA (st : St) (size n : Nat) : AV → Option (List AV)
  | .slice (some (id, off)) _ _ => if n = 0 then some [] else (st.cellsAt id).bind fun cs => readN cs off (n * size)
  | .slice none _ _ => some []
  | .str s => if size = 1 then some (bytesA (s.take n)) else none
  | _ => none
def lenA : AV → Option Nat
  | .slice _ n _ => some n
  | .str s => some s.length
  | _ => none
/-- What stands ahead of a number in a list, and what behind it. -/
def partL (id : Id) : List Id → List Id × List Id
  | [] => ([], [])
  | i :: is => if i = id then ([], is) else ((i :: (partL id is).1), (partL id is).2)
/-- A block that may go on in another one's memory. -/
def St.grow (st : St) (id g : Id) (b : ABlk) : St :=
  let r := partL id ((st.grps.get g).getD [])
  { heap := (kill st.heap (r.1.filter (· != id))).put st.next (some b), grps := st.grps.put g (some (st.next :: id :: r.2)), next := st.next + 1 }
/-- Small elements alone are appended. -/
def fewA (e : TypeId) : Bool :=
  match P.info? e with
  | some i => decide (i.bytes ≤ 2 ^ 16)
  | none => false
/-- The cells of an element that may be appended. -/
def rowA (e : TypeId) : Option Nat := (P.info? e).bind fun i => (i.zero.bind ofVal).bind fun z => if z.cells.length = i.size ∧ i.bytes ≤ 2 ^ 16 ∧ 0 < i.size then some i.size else none
/-- What may be appended. -/
def isSrc (t : TypeId) : Bool :=
  match P.underlying t with
  | some (.slice _) | some .string => true
  | _ => false
def appendTo (st : St) (e : TypeId) (size : Nat) (base : Option (Id × Nat)) (len : Nat) (cap : Option Nat) (n : Nat) (new : List AV) : Option (AV × St) :=
  match base with
  | none => if n = 0 then some (.slice none 0 (some 0), st) else if len = 0 then some (.slice (some (st.next, 0)) (len + n) none, st.alloc (.cells new e (2 * st.next + 1))) else none
  | some (id, off) =>
    match cap with
    | some c =>
      if len + n ≤ c then if c = 0 then none else (st.write id (off + len * size) new).bind fun st => some (.slice (some (id, off)) (len + n) (some c), st)
      else (st.cellsAt id).bind fun cs => (readN cs off (len * size)).bind fun old => some (.slice (some (st.next, 0)) (len + n) none, st.alloc (.cells (old ++ new) e (2 * st.next + 1)))
    | none =>
      match st.heap.get id with
      | some (.cells cs be g) =>
        if n = 0 then some (.slice (some (id, off)) len none, st)
        else if be ≠ e ∨ g % 2 = 0 ∨ off ≠ 0 then none
        else if off + (len + n) * size ≤ cs.length then (st.write id (off + len * size) new).bind fun st => some (.slice (some (id, off)) (len + n) none, st)
        else if off + len * size = cs.length then
          (readN cs off (len * size)).bind fun old => some (.slice (some (st.next, 0)) (len + n) none, st.grow id g (.cells (old ++ new) e g))
        else none
      | _ => none
def appendA (st : St) (t : TypeId) (s x : AV) : Option (AV × St) :=
  (elemA P t).bind fun e => (rowA P e).bind fun size => (lenA x).bind fun n =>
    match s with
    | .slice base len cap =>
      (firstA st size n x).bind fun new =>
      if new.all AV.one = true ∧ len + n ≤ 2 ^ 24 then appendTo st e size base len cap n new else none
    | _ => none
def copyA (st : St) (t : TypeId) (d s : AV) : Option (AV × St) :=
  (elemA P t).bind fun e => (sizeA P e).bind fun size => (lenA s).bind fun n =>
    match d with
    | .slice base len _ =>
      if Nat.min n len = 0 then some (.int .i64 0, st) else
      (firstA st size (Nat.min n len) s).bind fun new =>
        match base with
        | some (id, off) => (st.write id off new).bind fun st => some (.int .i64 (Nat.min n len), st)
        | none => none
    | _ => none
def minA : AV → List AV → Option AV
  | x, [] => some x
  | .int k x, .int _ y :: r => minA (.int k (if y < x then y else x)) r
  | _, _ :: _ => none
def maxA : AV → List AV → Option AV
  | x, [] => some x
  | .int k x, .int _ y :: r => maxA (.int k (if y > x then y else x)) r
  | _, _ :: _ => none
def isByte (t : TypeId) : Bool :=
  match P.underlying t with
  | some (.int .u8) => true
  | _ => false
/-- A conversion that makes no memory. -/
def convA (st : St) (s d : TypeId) (x : AV) : Option AV :=
  match P.underlying s, P.underlying d, x with
  | some _, some (.int k), .int _ n => some (.int k (k.wrap n))
  | some _, some .string, .int _ n => some (.str (Utf8.encode n).data.toList)
  | some _, some .string, .str b => some (.str b)
  | some (.slice e), some .string, .slice a len c =>
    if isByte P e then
      match a with
      | none => some (.str [])
      | some (id, off) => if c = some 0 then none else (st.cellsAt id).bind fun cs => (readN cs off len).bind fun r => (strA r).bind fun b => some (.str b)
    else none
  | _, _, _ => none
def lenOfA (st : St) (t : TypeId) (x : AV) : Option AV :=
  match P.underlying t, x with
  | some .string, .str s => some (.int .i64 s.length)
  | some (.slice _), .slice _ n _ => some (.int .i64 n)
  | some (.array n _), _ => some (.int .i64 n)
  | some (.map ..), x => (entriesA st x).bind fun es => some (.int .i64 es.length)
  | _, _ => none

/-- Operations that change nothing. -/
def isQuiet : Op → Bool
  | .move _ | .assign _ | .pick .. | .build .. | .load .. | .nilCheck _ | .binOp .. | .unOp .. | .makeInterface .. | .makeFunc .. | .slice .. | .fieldAddr .. | .field .. | .indexAddr .. | .index ..
  | .lookup .. | .extract .. | .typeAssert .. => true
  | .convert s d _ => match P.underlying s, P.underlying d with
    | some (.pointer _), _ => false
    | some .unsafePointer, _ => false
    | _, some (.slice _) => false
    | _, _ => true
  | .call { callee := .builtin b, .. } => match b with
    | .len | .cap | .min | .max => true
    | _ => false
  | _ => false
def isConstO : Operand → Bool
  | .const _ => true
  | _ => false
def quietA (σ : Trie AV) (st : St) : Op → Option AV
  | .move x | .assign x => evalA P σ x
  | .pick c a b => (evalA P σ c).bind fun t => match t with
    | .bool true => evalA P σ a
    | .bool false => evalA P σ b
    | _ => none
  | .build t ps => (evalPs P σ ps.toList).bind fun vs => buildA P t vs
  | .load t a => (evalA P σ a).bind fun a => loadA P st t a
  | .nilCheck x => (evalA P σ x).bind fun v => match v with
    | .ptr (some a) => some (.ptr (some a))
    | .func (.func f) a b => some (.func (.func f) a b)
    | _ => none
  | .binOp op t x y _ => (evalA P σ x).bind fun a => (evalA P σ y).bind fun b => binA P st op t (isConstO x || isConstO y) a b
  | .unOp op _ x => (evalA P σ x).bind fun a => unA op a
  | .convert s d x => (evalA P σ x).bind fun a => convA P st s d a
  | .makeInterface t x => (evalA P σ x).bind fun a => match P.underlying t with
    | some (.interface _) => none
    | some _ => some (.iface t a)
    | none => none
  | .makeFunc f first cap => (evalL P σ first.toList).bind fun a => (evalL P σ cap.toList).bind fun b => some (.func f a b)
  | .slice t x lo hi mx => (evalA P σ x).bind fun v => (evalO P σ lo).bind fun l => (evalO P σ hi).bind fun h => (evalO P σ mx).bind fun m =>
    (optInt l).bind fun l => (optInt h).bind fun h => (optInt m).bind fun m => sliceA P st t v l h m
  | .fieldAddr t x i => (evalA P σ x).bind fun v => (fieldsA P t).bind fun fs => (fs[i]?).bind fun f => (sizeA P f.type).bind fun n => match v with
    | .ptr (some (id, off)) => if n = 0 then none else some (.ptr (some (id, off + f.offset)))
    | _ => none
  | .field t x i => (evalA P σ x).bind fun v => (fieldsA P t).bind fun fs => (fs[i]?).bind fun f => match v with
    | .agg cs => partA P f.type cs f.offset
    | _ => none
  | .indexAddr t x i => (evalA P σ x).bind fun a => (evalA P σ i).bind fun b => indexAddrA P t a b
  | .index t x i => (evalA P σ x).bind fun a => (evalA P σ i).bind fun b => indexA P t a b
  | .lookup t x k ok => (evalA P σ x).bind fun a => (evalA P σ k).bind fun b => lookupA P st t a b ok
  | .extract t i => (evalA P σ t).bind fun v => match v with
    | .tuple vs => vs[i]?
    | _ => none
  | .typeAssert x _ t ok => (evalA P σ x).bind fun v => match P.underlying t, v with
    | some (.interface _), _ => none
    | some _, .iface u v => if u = t then some (if ok then .tuple [v, .bool true] else v) else none
    | _, _ => none
  | .call c => (evalL P σ c.args.toList).bind fun args =>
    match c.callee, c.argTypes.toList, args with
    | .builtin .len, t :: _, [x] => lenOfA P st t x
    | .builtin .cap, t :: _, [.slice _ _ (some n)] => match P.underlying t with
      | some (.slice _) => some (.int .i64 n)
      | _ => none
    | .builtin .min, _, x :: r => minA x r
    | .builtin .max, _, x :: r => maxA x r
    | _, _, _ => none
  | _ => none

/-- Operations that make a block and change nothing else. -/
def isFloat : Op → Bool
  | .alloc _ | .box .. | .buildSlice .. | .makeMap .. | .makeSlice .. => true
  | .convert s d _ => match P.underlying s, P.underlying d with
    | some .string, some (.slice _) => true
    | _, _ => false
  | _ => false
/-- The block, and the value, by the block's number. -/
def floatA (σ : Trie AV) (id : Id) : Op → Option (ABlk × AV)
  | .alloc e => (zeroA P e).bind fun z => some (.cells z.cells e (2 * id), .ptr (some (id, 0)))
  | .box e x => (evalA P σ x).bind fun v => (sizeA P e).bind fun _ => some (.cells v.cells e (2 * id), .ptr (some (id, 0)))
  | .buildSlice t len ps => (elemA P t).bind fun e => (sizeA P e).bind fun n => (zeroA P e).bind fun z => (evalPs P σ ps.toList).bind fun vs =>
    if z.cells.length = n ∧ len * n ≤ 2 ^ 24 then (fillA (fun i => some (i * n, n)) (repsA z.cells len) vs).bind fun cs => some (.cells cs e (2 * id), .slice (some (id, 0)) len (some len)) else none
  | .makeMap _ r => match r with
    | none => some (.map [], .map (some id))
    | some _ => none
  | .makeSlice t l c => (evalA P σ l).bind fun l => (evalA P σ c).bind fun c => (elemA P t).bind fun e => (zeroA P e).bind fun z => (sizeA P e).bind fun n => match l, c with
    | .int _ l, .int _ c => if 0 ≤ l ∧ l ≤ c ∧ c < 2 ^ 20 ∧ z.cells.length = n ∧ c.toNat * n ≤ 2 ^ 24 ∧ fewA P e = true then some (.cells (repsA z.cells c.toNat) e (2 * id), .slice (some (id, 0)) l.toNat (some c.toNat)) else none
    | _, _ => none
  | .convert _ d x => (evalA P σ x).bind fun v => match P.underlying d, v with
    | some (.slice e), .str b => if isByte P e = true ∧ sizeA P e = some 1 then some (.cells (bytesA b) e (2 * id + 1), .slice (some (id, 0)) b.length none) else none
    | _, _ => none
  | _ => none
end ops
end Go.Ev
set_option linter.unusedVariables false
set_option linter.unusedSimpArgs false
namespace Go.Ev

inductive OpOut where
  | val (v : AV)
  | skip
  | pan (ch : List AV)
  | dfr (f : AV) (args : List AV)
inductive Out where
  | ret (v : AV)
  | pan (ch : List AV)
structure Env where
  P : Program
  prim : FuncId → Option (List AV → St → Option (AV × St))
abbrev CallA := FuncId → List AV → St → Option (Out × St)

def cmpA : List UInt8 → List UInt8 → Int
  | [], [] => 0
  | [], _ :: _ => -1
  | _ :: _, [] => 1
  | a :: x, b :: y => if a == b then cmpA x y else if a < b then -1 else 1
def findB (c : UInt8) : List UInt8 → Nat → Int
  | [], _ => -1
  | b :: bs, i => if b == c then Int.ofNat i else findB c bs (i + 1)
/-- Functions without a body. -/
def externA (name : String) (args : List AV) : Option AV :=
  match args with
  | [.str a, .str b] => if name = "internal/bytealg.abigen_runtime_cmpstring" then some (.int .i64 (cmpA a b)) else none
  | [.str s, .int .u8 c] => if name = "internal/bytealg.IndexByteString" then some (.int .i64 (findB (UInt8.ofNat c.toNat) s 0)) else none
  | _ => none

/-- Operations that turn the heap, or call. -/
def chainA (E : Env) (call : CallA) (σ : Trie AV) (st : St) : Op → Option (OpOut × St)
  | .store t a x => (evalA E.P σ a).bind fun a => (evalA E.P σ x).bind fun v => (storeA E.P st t a v).bind fun st => some (.skip, st)
  | .mapUpdate t m k x | .insert t m k x => (evalA E.P σ m).bind fun a => (evalA E.P σ k).bind fun b => (evalA E.P σ x).bind fun v => (mapSetA E.P st t a b v).bind fun st => some (.skip, st)
  | .range t x => (evalA E.P σ x).bind fun v => match E.P.underlying t, v with
    | some .string, .str s => some (.val (.ptr (some (st.next, 0))), st.alloc (.iter s 0))
    | _, _ => none
  | .next it true => (evalA E.P σ it).bind fun v => match v with
    | .ptr (some (id, 0)) => match st.heap.get id with
      | some (.iter s pos) =>
        if pos < s.length then
          let r := Utf8.decode ⟨s.toArray⟩ pos
          some (.val (.tuple [.bool true, .int .i64 pos, .int .i32 r.1]), { heap := st.heap.put id (some (.iter s (pos + r.2))), grps := st.grps, next := st.next })
        else some (.val (.tuple [.bool false]), st)
      | _ => none
    | _ => none
  | .panic x => (evalA E.P σ x).bind fun v => match v with
    | .iface t v => some (.pan [.iface t v], st)
    | _ => none
  | .defer c => match c.callee with
    | .value f => (evalA E.P σ f).bind fun f => match f with
      | .func (.func k) a b => (evalL E.P σ c.args.toList).bind fun as => some (.dfr (.func (.func k) a b) as, st)
      | _ => none
    | _ => none
  | .call c => (evalL E.P σ c.args.toList).bind fun args =>
    match c.callee with
    | .builtin .append => match c.argTypes.toList, args with
      | [t, u], [s, x] => if isSrc E.P u then (appendA E.P st t s x).bind fun r => some (.val r.1, r.2) else none
      | _, _ => none
    | .builtin .copy => match c.argTypes.toList, args with
      | [t, _], [d, s] => (copyA E.P st t d s).bind fun r => some (.val r.1, r.2)
      | _, _ => none
    | .value f => (evalA E.P σ f).bind fun f => match f with
      | .func (.func f) first cap => (E.P.funcs[f]?).bind fun fn =>
        if fn.body.isNone then if fn.origin = "" then (externA fn.name (first ++ args ++ cap)).bind fun v => some (.val v, st) else none
        else (call f (first ++ args ++ cap) st).bind fun r => match r.1 with
          | .ret v => some (.val v, r.2)
          | .pan ch => some (.pan ch, r.2)
      | _ => none
    | _ => none
  | _ => none

structure Fr where
  tmps : Trie AV
  n : Nat
  defers : List (AV × List AV)

def wantedA (σ : Trie AV) (ops : Array Oper) (o : Oper) : Option Bool :=
  match o.guard with
  | none => some true
  | some (j, want) => ((ops[j]?).bind (·.dst)).bind fun d => (σ.get d).bind fun v => match v with
    | .bool b => some (b == want)
    | .tuple [] => some false
    | _ => none
def Fr.put (fr : Fr) (d : Option Tmp) (v : AV) : Option Fr :=
  match d with
  | none => some fr
  | some d => if d < fr.n then some { tmps := fr.tmps.put d (some v), n := fr.n, defers := fr.defers } else none

inductive Ex where
  | normal
  | exit (id : Nat)
  | goto (l : Nat)
  | ret
  | pan (ch : List AV)

/-- One operation, in the order of the text. -/
def opA (E : Env) (call : CallA) (σ : Trie AV) (st : St) (o : Op) : Option (OpOut × St) :=
  if isQuiet E.P o then (quietA E.P σ st o).bind fun v => some (.val v, st)
  else if isFloat E.P o then (floatA E.P σ st.next o).bind fun r => some (.val r.2, st.alloc r.1)
  else chainA E call σ st o

/-- The operations of a region whose order is the text's. -/
def opsA (E : Env) (call : CallA) (ops : Array Oper) : List Oper → Fr → St → Option (Ex × Fr × St)
  | [], fr, st => some (.normal, fr, st)
  | o :: rest, fr, st =>
    (wantedA fr.tmps ops o).bind fun w =>
      if w then (opA E call fr.tmps st o.op).bind fun r =>
        match r.1 with
        | .val v => (fr.put o.dst v).bind fun fr => opsA E call ops rest fr r.2
        | .skip => (fr.put o.dst undefA).bind fun fr => opsA E call ops rest fr r.2
        | .pan ch => some (.pan ch, fr, r.2)
        | .dfr f as => (fr.put o.dst undefA).bind fun fr => opsA E call ops rest { tmps := fr.tmps, n := fr.n, defers := (f, as) :: fr.defers } r.2
      else (fr.put o.dst undefA).bind fun fr => opsA E call ops rest fr st

/-! ### Regions whose order is open -/
def isChain (P : Program) (o : Op) : Bool := !isQuiet P o && !isFloat P o
/-- Which operations come ahead of each, bit by bit. -/
def canonGo (b : Array Nat) (n : Nat) (mask : Nat) : Nat → Nat → List Nat   -- those in mask that aren't among done, from i on
  | 0, _ => []
  | f + 1, i => if i < n then (if mask.testBit i then i :: canonGo b n mask f (i + 1) else canonGo b n mask f (i + 1)) else []
def bits : List Nat → Nat
  | [] => 0
  | i :: is => 2 ^ i ||| bits is
def canonChain (b : Array Nat) (n : Nat) : List Nat → Nat → List Nat
  | [], done => canonGo b n ((2 ^ n - 1) ^^^ done) n 0
  | c :: cs, done =>
    let m := b.getD c 0
    let new := canonGo b n (m ^^^ (m &&& done)) n 0
    new ++ c :: canonChain b n cs (done ||| m ||| 2 ^ c)
def chains (P : Program) : List Oper → Nat → List Nat
  | [], _ => []
  | o :: os, i => if isChain P o.op then i :: chains P os (i + 1) else chains P os (i + 1)
def orderA (P : Program) (ops : Array Oper) : List Nat := canonChain (Region.before ops) ops.size (chains P ops.toList 0) 0

/-- Is it an order of the operations by which any other one may be told? -/
def distinct : List Nat → Bool
  | [] => true
  | d :: ds => !ds.contains d && distinct ds
def dsts (ops : List Oper) : List Nat := ops.filterMap (·.dst)
def tmpsOf (ops : Array Oper) (o : Oper) : List Nat :=
  (o.op.operands.toList.filterMap fun x => match x with | .tmp t => some t | _ => none) ++
  (match o.guard with
   | some (j, _) => ((ops[j]?).bind (·.dst)).toList
   | none => [])
/-- What comes ahead of an operation: those it waits for, and what comes ahead of them. -/
def aheadA (b : Array Nat) (o : Oper) : Nat := o.after.toList.foldl (fun s e => if Region.binds .any e then s ||| 2 ^ e.on ||| b.getD e.on 0 else s) 0
def okAt (ops : Array Oper) (b : Array Nat) (i : Nat) (o : Oper) : Bool :=
  (o.after.toList.all fun e => !Region.binds .any e || decide (e.on < i)) && b.getD i 0 == aheadA b o &&
  (match o.guard with
   | some (j, _) => (b.getD i 0).testBit j
   | none => true) &&
  ((tmpsOf ops o).all fun t => ops.toList.zipIdx.all fun x => x.1.dst != some t || (b.getD i 0).testBit x.2 || (b.getD x.2 0).testBit i)
def okOrder (P : Program) (ops : Array Oper) (b : Array Nat) : List Nat → Nat → Bool   -- done, as bits
  | [], done => done == 2 ^ ops.size - 1
  | i :: is, done =>
    match ops[i]? with
    | some o => !done.testBit i && (if isChain P o.op then b.getD i 0 == done else (b.getD i 0 ||| done) == done) && okOrder P ops b is (done ||| 2 ^ i)
    | none => false
def okRegion (P : Program) (ops : Array Oper) : Bool :=
  distinct (dsts ops.toList) && (ops.toList.zipIdx.all fun x => okAt ops (Region.before ops) x.2 x.1) && okOrder P ops (Region.before ops) (orderA P ops) 0

mutual
def eqAV : AV → AV → Bool
  | .bool a, .bool b => a == b
  | .int k a, .int k' b => k == k' && a == b
  | .str a, .str b => a == b
  | .ptr a, .ptr b => a == b
  | .slice a n c, .slice a' n' c' => a == a' && n == n' && c == c'
  | .map a, .map b => a == b
  | .func f a b, .func f' a' b' => decide (f = f') && eqAVs a a' && eqAVs b b'
  | .nilFunc, .nilFunc => true
  | .iface t v, .iface t' v' => t == t' && eqAV v v'
  | .nilIface, .nilIface => true
  | .agg a, .agg b => eqAVs a b
  | .tuple a, .tuple b => eqAVs a b
  | .junk, .junk => true
  | _, _ => false
def eqAVs : List AV → List AV → Bool
  | [], [] => true
  | a :: as, b :: bs => eqAV a b && eqAVs as bs
  | _, _ => false
end
def eqOpt (a : Option AV) (v : AV) : Bool :=
  match a with
  | some x => eqAV x v
  | none => false

mutual
/-- All blocks it names have smaller numbers. -/
def below (n : Nat) : AV → Bool
  | .ptr (some a) => decide (a.1 < n)
  | .slice (some a) _ _ => decide (a.1 < n)
  | .map (some r) => decide (r < n)
  | .func _ a b => belows n a && belows n b
  | .iface _ v => below n v
  | .agg a => belows n a
  | .tuple a => belows n a
  | _ => true
def belows (n : Nat) : List AV → Bool
  | [] => true
  | a :: as => below n a && belows n as
end
def belowB (n : Nat) : ABlk → Bool
  | .cells cs _ _ => belows n cs
  | .map es => es.isEmpty
  | _ => false
/-- What has been done in a region. -/
structure Rc where
  i : Nat
  o : Oper
  on : Bool
  v : AV
  pre : St
  blk : ABlk
  st : St
def addFl (P : Program) (m : Nat) (s : St) : List Rc → Trie ABlk
  | [] => s.heap
  | x :: A => if isFloat P x.o.op && !isQuiet P x.o.op && x.on && m.testBit x.i && decide (s.next ≤ x.pre.next) then (addFl P m s A).put x.pre.next (some x.blk) else addFl P m s A
def seenAt (P : Program) (σ : Trie AV) (o : Op) (m : Nat) (v : AV) (A : List Rc) (s : St) : Bool := eqOpt (quietA P σ { heap := addFl P m s A, grps := s.grps, next := s.next } o) v
/-- What an operation reads is the same behind each of the chain operations that may have been. -/
def steadyA (P : Program) (σ : Trie AV) (o : Op) (m : Nat) (v : AV) (A : List Rc) (st0 : St) : List Rc → Bool
  | [] => seenAt P σ o m v A st0
  | x :: B => if isChain P x.o.op then seenAt P σ o m v A x.st && (m.testBit x.i || steadyA P σ o m v A st0 B) else steadyA P σ o m v A st0 B
def stepA (E : Env) (call : CallA) (ops : Array Oper) (b : Array Nat) (st0 : St) (A : List Rc) (i : Nat) (o : Oper) (fr : Fr) (st : St) : Option Rc :=
  (wantedA fr.tmps ops o).bind fun w =>
    if w = false then some ⟨i, o, false, undefA, st, .ro [], st⟩
    else if isQuiet E.P o.op then (quietA E.P fr.tmps st o.op).bind fun v => if steadyA E.P fr.tmps o.op (b.getD i 0) v A st0 A then some ⟨i, o, true, v, st, .ro [], st⟩ else none
    else if isFloat E.P o.op then (floatA E.P fr.tmps st.next o.op).bind fun r => if belowB st.next r.1 then some ⟨i, o, true, r.2, st, r.1, st.alloc r.1⟩ else none
    else if o.op.operands.toList.all (fun x => match evalA E.P fr.tmps x with | some v => below st.next v | none => true) then
      (chainA E call fr.tmps st o.op).bind fun r => if st.next ≤ r.2.next then
        match r.1 with
        | .val v => some ⟨i, o, true, v, st, .ro [], r.2⟩
        | .skip => some ⟨i, o, true, undefA, st, .ro [], r.2⟩
        | _ => none
      else none
    else none
def drawA (E : Env) (call : CallA) (ops : Array Oper) (b : Array Nat) (st0 : St) : List Nat → List Rc → Fr → St → Option (Fr × St)
  | [], _, fr, st => some (fr, st)
  | i :: is, A, fr, st => (ops[i]?).bind fun o => (stepA E call ops b st0 A i o fr st).bind fun r => (fr.put o.dst r.v).bind fun fr => drawA E call ops b st0 is (r :: A) fr r.st

/-! ### Code, calls -/
def resA (P : Program) (σ : Trie AV) (st : St) : List ResultVar → Option (List AV)
  | [] => some []
  | .tmp t :: rs => (σ.get t).bind fun v => (resA P σ st rs).bind fun vs => some (v :: vs)
  | .cell a t :: rs => (σ.get a).bind fun p => (loadA P st t p).bind fun v => (resA P σ st rs).bind fun vs => some (v :: vs)
def oneOf : List AV → AV
  | [v] => v
  | vs => .tuple vs
def argsA : Trie AV → Nat → List AV → Trie AV
  | σ, _, [] => σ
  | σ, i, v :: vs => argsA (σ.put i (some v)) (i + 1) vs

inductive Job where
  | code (c : Code) (fr : Fr)
  | scope (c b : Code) (fr : Fr)
  | call (f : FuncId) (args : List AV)
inductive JobOut where
  | code (e : Ex) (fr : Fr)
  | call (o : Out)

def callOf (ih : Job → St → Option (JobOut × St)) : CallA := fun f args st =>
  (ih (.call f args) st).bind fun r => match r.1 with
    | .call o => some (o, r.2)
    | .code .. => none

/-! Deferred closures: what 'recover' tells them. -/
inductive DMode where
  | returning
  | panicking (ch : List AV)
  | recovered
def isRecover : Op → Bool
  | .call { callee := .builtin .recover, .. } => true
  | _ => false
def recoverA : DMode → Option (AV × DMode)
  | .panicking [v] => some (v, .recovered)
  | .panicking _ => none
  | u => some (.nilIface, u)
def opsS (E : Env) (call : CallA) (ops : Array Oper) : List Oper → Fr → DMode → St → Option (Ex × Fr × DMode × St)
  | [], fr, u, st => some (.normal, fr, u, st)
  | o :: rest, fr, u, st =>
    (wantedA fr.tmps ops o).bind fun w =>
      if w then
        if isRecover o.op then (recoverA u).bind fun r => (fr.put o.dst r.1).bind fun fr => opsS E call ops rest fr r.2 st
        else (opA E call fr.tmps st o.op).bind fun r =>
        match r.1 with
        | .val v => (fr.put o.dst v).bind fun fr => opsS E call ops rest fr u r.2
        | .skip => (fr.put o.dst undefA).bind fun fr => opsS E call ops rest fr u r.2
        | .pan ch => some (.pan ch, fr, u, r.2)
        | .dfr .. => none
      else (fr.put o.dst undefA).bind fun fr => opsS E call ops rest fr u st
def evS (E : Env) (ih : Job → St → Option (JobOut × St)) : Code → Fr → DMode → St → Option (Ex × Fr × DMode × St)
  | .seq a b, fr, u, st => (evS E ih a fr u st).bind fun r => match r with
    | (.normal, fr, u, st) => evS E ih b fr u st
    | r => some r
  | .cond c a b, fr, u, st => (evalA E.P fr.tmps c).bind fun v => match v with
    | .bool true => evS E ih a fr u st
    | .bool false => evS E ih b fr u st
    | _ => none
  | .region _ ops false, fr, u, st => opsS E (callOf ih) ops ops.toList fr u st
  | c, fr, u, st => (ih (.code c fr) st).bind fun r => match r.1 with
    | .code e fr => some (e, fr, u, r.2)
    | .call _ => none
def settleA : DMode → DMode
  | .recovered => .returning
  | u => u
def deferA (E : Env) (ih : Job → St → Option (JobOut × St)) : List (AV × List AV) → DMode → St → Option (DMode × St)
  | [], u, st => some (u, st)
  | (.func (.func f) first cap, as) :: ds, u, st => (E.P.funcs[f]?).bind fun fn => fn.body.bind fun c =>
    let args := first ++ as ++ cap
    if args.length ≤ fn.ntmps ∧ (E.prim f).isNone ∧ fn.results.toList.isEmpty then
      (evS E ih c { tmps := argsA .leaf 0 args, n := fn.ntmps, defers := [] } u st).bind fun r => match r with
        | (.normal, fr, u, st) | (.ret, fr, u, st) => if fr.defers.isEmpty then deferA E ih ds (settleA u) st else none
        | _ => none
    else none
  | _ :: _, _, _ => none
def finishA (E : Env) (fn : Func) (σ : Trie AV) (u : DMode) (st : St) : Option (JobOut × St) :=
  match u with
  | .returning => (resA E.P σ st fn.results.toList).bind fun vs => some (.call (.ret (oneOf vs)), st)
  | .panicking ch => some (.call (.pan ch), st)
  | .recovered => none

def evStep (E : Env) (ih : Job → St → Option (JobOut × St)) : Job → St → Option (JobOut × St)
  | .code c fr, st =>
    match c with
    | .skip | .label _ => some (.code .normal fr, st)
    | .region _ ops false => (opsA E (callOf ih) ops ops.toList fr st).bind fun r => some (.code r.1 r.2.1, r.2.2)
    | .region _ ops true => if okRegion E.P ops then (drawA E (callOf ih) ops (Region.before ops) st (orderA E.P ops) [] fr st).bind fun r => some (.code .normal r.1, r.2) else none
    | .seq a b => (ih (.code a fr) st).bind fun r => match r.1 with
      | .code .normal fr => ih (.code b fr) r.2
      | o => some (o, r.2)
    | .cond c a b => (evalA E.P fr.tmps c).bind fun v => match v with
      | .bool true => ih (.code a fr) st
      | .bool false => ih (.code b fr) st
      | _ => none
    | .block id b => (ih (.code b fr) st).bind fun r => match r.1 with
      | .code (.exit i) fr => some (.code (if i = id then .normal else .exit i) fr, r.2)
      | o => some (o, r.2)
    | .loop b => (ih (.code b fr) st).bind fun r => match r.1 with
      | .code .normal fr => ih (.code (.loop b) fr) r.2
      | o => some (o, r.2)
    | .exit id => some (.code (.exit id) fr, st)
    | .scope b => ih (.scope b b fr) st
    | .goto l => some (.code (.goto l) fr, st)
    | .ret => some (.code .ret fr, st)
    | _ => none
  | .scope c b fr, st => (ih (.code c fr) st).bind fun r => match r.1 with
    | .code (.goto l) fr => match findLabel b l with
      | some rest => ih (.scope rest b fr) r.2
      | none => some (.code (.goto l) fr, r.2)
    | o => some (o, r.2)
  | .call f args, st =>
    match E.prim f with
    | some p => (p args st).bind fun r => some (.call (.ret r.1), r.2)
    | none => (E.P.funcs[f]?).bind fun fn => fn.body.bind fun c =>
      if args.length ≤ fn.ntmps then
        (ih (.code c { tmps := argsA .leaf 0 args, n := fn.ntmps, defers := [] }) st).bind fun r => match r.1 with
          | .code .normal fr | .code .ret fr => (deferA E ih fr.defers .returning r.2).bind fun q => finishA E fn fr.tmps q.1 q.2
          | .code (.pan ch) fr => (deferA E ih fr.defers (.panicking ch) r.2).bind fun q => finishA E fn fr.tmps q.1 q.2
          | _ => none
      else none
def ev (E : Env) : Nat → Job → St → Option (JobOut × St) := Nat.rec (fun _ _ => none) fun _ ih => evStep E ih
end Go.Ev
set_option linter.unusedVariables false
set_option linter.unusedSimpArgs false
namespace Go.Ev

/-! ### What the evaluator's heap says of a world -/
/-- Where a block lies: its number, the first cell, all cells of that number, the cells of an element. -/
structure Loc where
  blk : Nat
  base : Nat
  size : Nat
  sz : Nat
abbrev Phi := Id → Option Loc
def Phi.le (φ ψ : Phi) : Prop := ∀ i l, φ i = some l → ψ i = some l
theorem Phi.le.refl (φ : Phi) : φ.le φ := fun _ _ h => h
theorem Phi.le.trans {φ ψ χ : Phi} (h : φ.le ψ) (k : ψ.le χ) : φ.le χ := fun i l e => k i l (h i l e)

mutual
def Rep (φ : Phi) : AV → Value → Prop
  | .bool b, v => v = .bool b
  | .int k n, v => v = .int k n
  | .str s, v => v = .string ⟨s.toArray⟩
  | .ptr none, v => v = .pointer none
  | .ptr (some a), v => ∃ l, φ a.1 = some l ∧ v = .pointer (some ⟨l.blk, l.base + a.2, none⟩)
  | .slice none n c, v => n = 0 ∧ c = some 0 ∧ v = .slice none 0 0
  | .slice (some a) n (some c), v => ∃ l a', φ a.1 = some l ∧ n ≤ c ∧ (a' = ⟨l.blk, l.base + a.2, none⟩ ∨ c = 0) ∧ v = .slice (some a') n c
  | .slice (some a) n none, v => ∃ l o c, φ a.1 = some l ∧ n ≤ c ∧ l.base + a.2 + c * l.sz = l.size ∧ (o = l.base + a.2 ∨ c = 0) ∧ v = .slice (some ⟨l.blk, o, none⟩) n c
  | .map none, v => v = .map none
  | .map (some r), v => ∃ l, φ r = some l ∧ v = .map (some l.blk)
  | .func f a b, v => ∃ x y, v = .func f x y ∧ Reps φ a x.toList ∧ Reps φ b y.toList
  | .nilFunc, v => v = .nilFunc
  | .iface t x, v => ∃ y, v = .iface t y ∧ Rep φ x y
  | .nilIface, v => v = .nilIface
  | .agg cs, v => ∃ x, v = .agg x ∧ Reps φ cs x.toList
  | .tuple cs, v => ∃ x, v = .tuple x ∧ Reps φ cs x.toList
  | .junk, v => v.oneCell' = true
def Reps (φ : Phi) : List AV → List Value → Prop
  | [], vs => vs = []
  | x :: xs, vs => ∃ v r, vs = v :: r ∧ Rep φ x v ∧ Reps φ xs r
end
mutual
theorem Rep.mono {φ ψ : Phi} (h : φ.le ψ) : ∀ (x : AV) (v : Value), Rep φ x v → Rep ψ x v
  | .bool b, v, hr => by simpa only [Rep] using hr
  | .int k n, v, hr => by simpa only [Rep] using hr
  | .str s, v, hr => by simpa only [Rep] using hr
  | .ptr none, v, hr => by simpa only [Rep] using hr
  | .ptr (some a), v, hr => by
    simp only [Rep] at hr ⊢
    obtain ⟨l, e, r⟩ := hr
    exact ⟨l, h _ _ e, r⟩
  | .slice none n c, v, hr => by simpa only [Rep] using hr
  | .slice (some a) n (some c), v, hr => by
    simp only [Rep] at hr ⊢
    obtain ⟨l, a', e, r⟩ := hr
    exact ⟨l, a', h _ _ e, r⟩
  | .slice (some a) n none, v, hr => by
    simp only [Rep] at hr ⊢
    obtain ⟨l, o, c, e, r⟩ := hr
    exact ⟨l, o, c, h _ _ e, r⟩
  | .map none, v, hr => by simpa only [Rep] using hr
  | .map (some r), v, hr => by
    simp only [Rep] at hr ⊢
    obtain ⟨l, e, q⟩ := hr
    exact ⟨l, h _ _ e, q⟩
  | .func f a b, v, hr => by
    simp only [Rep] at hr ⊢
    obtain ⟨x, y, e, p, q⟩ := hr
    exact ⟨x, y, e, Reps.mono h a _ p, Reps.mono h b _ q⟩
  | .nilFunc, v, hr => by simpa only [Rep] using hr
  | .iface t x, v, hr => by
    simp only [Rep] at hr ⊢
    obtain ⟨y, e, p⟩ := hr
    exact ⟨y, e, Rep.mono h x _ p⟩
  | .nilIface, v, hr => by simpa only [Rep] using hr
  | .agg cs, v, hr => by
    simp only [Rep] at hr ⊢
    obtain ⟨x, e, p⟩ := hr
    exact ⟨x, e, Reps.mono h cs _ p⟩
  | .tuple cs, v, hr => by
    simp only [Rep] at hr ⊢
    obtain ⟨x, e, p⟩ := hr
    exact ⟨x, e, Reps.mono h cs _ p⟩
  | .junk, v, hr => by simpa only [Rep] using hr
theorem Reps.mono {φ ψ : Phi} (h : φ.le ψ) : ∀ (xs : List AV) (vs : List Value), Reps φ xs vs → Reps ψ xs vs
  | [], vs, hr => by simpa only [Reps] using hr
  | x :: xs, vs, hr => by
    simp only [Reps] at hr ⊢
    obtain ⟨v, r, e, p, q⟩ := hr
    exact ⟨v, r, e, Rep.mono h x v p, Reps.mono h xs r q⟩
end
theorem Reps.nil {φ : Phi} {vs : List Value} (h : Reps φ [] vs) : vs = [] := by simpa only [Reps] using h
theorem Reps.nil' {φ : Phi} : Reps φ [] [] := by simp only [Reps]
theorem Reps.cons {φ : Phi} {x : AV} {xs : List AV} {vs : List Value} (h : Reps φ (x :: xs) vs) : ∃ v r, vs = v :: r ∧ Rep φ x v ∧ Reps φ xs r := by simpa only [Reps] using h
theorem Reps.cons' {φ : Phi} {x : AV} {xs : List AV} {v : Value} {r : List Value} (h : Rep φ x v) (k : Reps φ xs r) : Reps φ (x :: xs) (v :: r) := by
  simp only [Reps]; exact ⟨v, r, rfl, h, k⟩
theorem Reps.length {φ : Phi} : ∀ {xs : List AV} {vs : List Value}, Reps φ xs vs → vs.length = xs.length
  | [], vs, h => by rw [h.nil]; rfl
  | x :: xs, vs, h => by
    obtain ⟨v, r, rfl, _, q⟩ := h.cons
    simp [q.length]
theorem Reps.get {φ : Phi} : ∀ {xs : List AV} {vs : List Value}, Reps φ xs vs → ∀ {i : Nat} {x : AV}, xs[i]? = some x → ∃ v, vs[i]? = some v ∧ Rep φ x v
  | [], vs, h, i, x, hx => by simp at hx
  | y :: xs, vs, h, i, x, hx => by
    obtain ⟨v, r, rfl, p, q⟩ := h.cons
    cases i with
    | zero => simp at hx; subst hx; exact ⟨v, by simp, p⟩
    | succ i => simp at hx; simpa using q.get hx
theorem Reps.of_get {φ : Phi} : ∀ {xs : List AV} {vs : List Value}, vs.length = xs.length → (∀ (i : Nat) (x : AV), xs[i]? = some x → ∃ v, vs[i]? = some v ∧ Rep φ x v) → Reps φ xs vs
  | [], vs, h, _ => by
    obtain rfl : vs = [] := List.eq_nil_of_length_eq_zero (by simpa using h)
    exact Reps.nil'
  | x :: xs, [], h, _ => by simp at h
  | x :: xs, v :: vs, h, g => by
    obtain ⟨v', e, p⟩ := g 0 x (by simp)
    simp at e; subst e
    exact Reps.cons' p (Reps.of_get (by simpa using h) fun i x hx => by simpa using g (i + 1) x (by simpa using hx))
theorem Reps.append {φ : Phi} : ∀ {xs ys : List AV} {vs ws : List Value}, Reps φ xs vs → Reps φ ys ws → Reps φ (xs ++ ys) (vs ++ ws)
  | [], ys, vs, ws, h, k => by rw [h.nil]; simpa using k
  | x :: xs, ys, vs, ws, h, k => by
    obtain ⟨v, r, rfl, p, q⟩ := h.cons
    exact Reps.cons' p (q.append k)

theorem Rep.oneCell {φ : Phi} {x : AV} {v : Value} (h : Rep φ x v) (h1 : x.one = true) : v.oneCell' = true := by
  cases x with
  | agg cs => simp [AV.one] at h1
  | tuple cs => simp [AV.one] at h1
  | ptr a =>
    cases a with
    | none => simp only [Rep] at h; subst h; rfl
    | some a => simp only [Rep] at h; obtain ⟨l, _, rfl⟩ := h; rfl
  | slice a n c =>
    cases a with
    | none => simp only [Rep] at h; obtain ⟨_, _, rfl⟩ := h; rfl
    | some a =>
      cases c with
      | none => simp only [Rep] at h; obtain ⟨l, o, c, _, _, _, _, rfl⟩ := h; rfl
      | some c => simp only [Rep] at h; obtain ⟨l, _, _, _, _, rfl⟩ := h; rfl
  | map r =>
    cases r with
    | none => simp only [Rep] at h; subst h; rfl
    | some r => simp only [Rep] at h; obtain ⟨l, _, rfl⟩ := h; rfl
  | func f a b => simp only [Rep] at h; obtain ⟨x, y, rfl, _⟩ := h; rfl
  | iface t x => simp only [Rep] at h; obtain ⟨y, rfl, _⟩ := h; rfl
  | junk => simpa only [Rep] using h
  | _ => simp only [Rep] at h; subst h; rfl
theorem cells_one {v : Value} (h : v.oneCell' = true) : v.cells = #[v] := by
  cases v <;> first | rfl | simp [Value.oneCell'] at h
theorem Rep.cells {φ : Phi} {x : AV} {v : Value} (h : Rep φ x v) : Reps φ x.cells v.cells.toList := by
  by_cases ho : x.one = true
  · rw [cells_one (h.oneCell ho)]
    have : x.cells = [x] := by cases x <;> first | rfl | simp [AV.one] at ho
    rw [this]
    exact Reps.cons' h Reps.nil'
  · cases x with
    | agg cs => simp only [Rep] at h; obtain ⟨y, rfl, q⟩ := h; exact q
    | tuple cs =>
      have h' := h
      simp only [Rep] at h
      obtain ⟨y, rfl, q⟩ := h
      exact Reps.cons' h' Reps.nil'
    | _ => simp [AV.one] at ho
theorem Reps.ones {φ : Phi} : ∀ {xs : List AV} {vs : List Value}, Reps φ xs vs → xs.all AV.one = true → ∀ v ∈ vs, v.oneCell' = true
  | [], vs, h, _, v, hv => by rw [h.nil] at hv; simp at hv
  | x :: xs, vs, h, h1, v, hv => by
    obtain ⟨u, r, rfl, p, q⟩ := h.cons
    simp at h1
    rcases List.mem_cons.1 hv with rfl | hv
    · exact p.oneCell h1.1
    · exact q.ones (by simpa using h1.2) v hv

/-! constants -/
theorem ofVal1_rep {φ : Phi} {v : Value} {x : AV} (h : ofVal1 v = some x) : Rep φ x v ∧ x.one = true := by
  unfold ofVal1 at h
  split at h <;> simp at h <;> subst h <;> simp [Rep, AV.one]
theorem ofVals_rep {φ : Phi} : ∀ {vs : List Value} {xs : List AV}, ofVals vs = some xs → Reps φ xs vs
  | [], xs, h => by simp [ofVals] at h; subst h; exact Reps.nil'
  | v :: vs, xs, h => by
    simp only [ofVals, Option.bind_eq_some_iff] at h
    obtain ⟨x, hx, ys, hy, e⟩ := h
    simp at e; subst e
    exact Reps.cons' (ofVal1_rep hx).1 (ofVals_rep hy)
theorem ofVal_rep {φ : Phi} {v : Value} {x : AV} (h : ofVal v = some x) : Rep φ x v := by
  unfold ofVal at h
  split at h
  · rename_i vs
    simp only [Option.bind_eq_some_iff] at h
    obtain ⟨xs, hx, e⟩ := h
    simp at e; subst e
    simp only [Rep]
    exact ⟨vs, rfl, ofVals_rep hx⟩
  · rename_i vs
    split at h
    · rename_i h0
      simp at h; subst h
      simp only [Rep]
      exact ⟨vs, rfl, by rw [Array.eq_empty_of_size_eq_zero h0]; exact Reps.nil'⟩
    · simp at h
  · exact (ofVal1_rep h).1

/-- What is told of a block. -/
def RepM (φ : Phi) : List (AV × AV) → List MapEntry → Prop
  | [], ms => ms = []
  | e :: es, ms => ∃ m r, ms = m :: r ∧ Rep φ e.1 m.key ∧ Rep φ e.2 m.val ∧ RepM φ es r
/-- Blocks that stay as they are; those among them that the evaluator may know. -/
structure Froz where
  all : Nat → Prop
  ro : Nat → Prop
  le : ∀ k, ro k → all k
instance : CoeFun Froz fun _ => Nat → Prop := ⟨Froz.all⟩
def BRel (P : Program) (F : Froz) (φ : Phi) (w : World) (id : Id) : ABlk → Prop
  | .cells cs e g => ∃ l C fz, φ id = some l ∧ ¬ F l.blk ∧ w.heap[l.blk]? = some (.cells C e fz) ∧ C.size = l.size ∧ l.base + cs.length ≤ l.size ∧ (∃ i, P.info? e = some i ∧ i.size = l.sz) ∧
      (∀ i x, cs[i]? = some x → ∃ v, C[l.base + i]? = some v ∧ Rep φ x v) ∧ (fz = (0, 0) ∨ (isByte P e = true ∧ C.size ≤ fz.1)) ∧ l.base = 0 ∧ (g % 2 = 0 → cs.length = l.size)
  | .ro cs => ∃ l C e fz, φ id = some l ∧ F.ro l.blk ∧ w.heap[l.blk]? = some (.cells C e fz) ∧ (∀ i x, cs[i]? = some x → ∃ v, C[l.base + i]? = some v ∧ Rep φ x v)
  | .map es => ∃ l M c, φ id = some l ∧ ¬ F l.blk ∧ w.heap[l.blk]? = some (.map M c) ∧ RepM φ es M.toList
  | .iter s pos => ∃ l, φ id = some l ∧ ¬ F l.blk ∧ w.heap[l.blk]? = some (.stringIter ⟨s.toArray⟩ pos) ∧ l.base = 0
/-- What operations that change nothing need. -/
structure RelQ (P : Program) (F : Froz) (φ : Phi) (st : St) (w : World) : Prop where
  blk : ∀ id b, st.heap.get id = some b → BRel P F φ w id b
  glob : ∀ g, g < P.globals.size → ∃ l, φ g = some l ∧ l.blk = g ∧ l.base = 0
  inj : ∀ i j ci ei gi cj ej gj li lj, i ≠ j → st.heap.get i = some (.cells ci ei gi) → st.heap.get j = some (.cells cj ej gj) → φ i = some li → φ j = some lj → li.blk = lj.blk →
    gi = gj ∧ ∃ l, st.grps.get gi = some l ∧ i ∈ l ∧ j ∈ l
/-- The operands of an operation. -/
def Opnd (P : Program) (φ : Phi) (σ : Trie AV) (ρ : Operand → Value) (x : Operand) : Prop := ∀ v, evalA P σ x = some v → Rep φ v (ρ x)
/-- How operands are told. -/
structure Good (ρ : Operand → Value) : Prop where
  const : ∀ v, ρ (.const v) = v
  glob : ∀ g, ρ (.global g) = .pointer (some ⟨g, 0, none⟩)
  func : ∀ f, ρ (.func f) = .func (.func f) #[] #[]
theorem Act.good (a : Act) : Good a.eval := ⟨fun _ => rfl, fun _ => rfl, fun _ => rfl⟩
theorem opnd_of {P : Program} {F : Froz} {φ : Phi} {st : St} {w : World} {σ : Trie AV} {ρ : Operand → Value} (hg : Good ρ) (hR : RelQ P F φ st w) (x : Operand)
    (ht : ∀ t v, x = .tmp t → σ.get t = some v → Rep φ v (ρ x)) : Opnd P φ σ ρ x := by
  intro v hv
  cases x with
  | tmp t => exact ht t v rfl hv
  | const c => rw [hg.const]; exact ofVal_rep hv
  | global g =>
    simp only [evalA] at hv
    split at hv
    · rename_i hlt
      simp at hv; subst hv
      obtain ⟨l, e, hb, h0⟩ := hR.glob g hlt
      simp only [Rep]
      exact ⟨l, e, by rw [hg.glob, hb, h0]⟩
    · simp at hv
  | func f =>
    simp only [evalA] at hv
    simp at hv; subst hv
    simp only [Rep]
    exact ⟨#[], #[], by rw [hg.func], Reps.nil', Reps.nil'⟩
theorem evalL_rep {P : Program} {φ : Phi} {σ : Trie AV} {ρ : Operand → Value} : ∀ {xs : List Operand} {vs : List AV}, (∀ x ∈ xs, Opnd P φ σ ρ x) → evalL P σ xs = some vs → Reps φ vs (xs.map ρ)
  | [], vs, _, h => by simp [evalL] at h; subst h; exact Reps.nil'
  | x :: xs, vs, hx, h => by
    simp only [evalL, Option.bind_eq_some_iff] at h
    obtain ⟨v, hv, ws, hw, e⟩ := h
    simp at e; subst e
    exact Reps.cons' (hx x (by simp) v hv) (evalL_rep (fun y hy => hx y (by simp [hy])) hw)
/-- Parts of what is built. -/
def RepP (φ : Phi) : List (Nat × AV) → List (Nat × Value) → Prop
  | [], vs => vs = []
  | x :: xs, vs => ∃ v r, vs = (x.1, v) :: r ∧ Rep φ x.2 v ∧ RepP φ xs r
theorem evalPs_rep {P : Program} {φ : Phi} {σ : Trie AV} {ρ : Operand → Value} : ∀ {xs : List (Nat × Operand)} {vs : List (Nat × AV)}, (∀ x ∈ xs, Opnd P φ σ ρ x.2) → evalPs P σ xs = some vs →
    RepP φ vs (xs.map fun x => (x.1, ρ x.2))
  | [], vs, _, h => by simp [evalPs] at h; subst h; rfl
  | x :: xs, vs, hx, h => by
    simp only [evalPs, Option.bind_eq_some_iff] at h
    obtain ⟨v, hv, ws, hw, e⟩ := h
    simp at e; subst e
    exact ⟨_, _, rfl, hx x (by simp) v hv, evalPs_rep (fun y hy => hx y (by simp [hy])) hw⟩
end Go.Ev
set_option linter.unusedSimpArgs false
set_option linter.unusedVariables false
namespace Go.Ev

/-! ### Lists of cells -/
theorem takeN_spec : ∀ {n : Nat} {cs r : List AV}, takeN n cs = some r → r = cs.take n ∧ n ≤ cs.length
  | 0, cs, r, h => by simp [takeN] at h; simp [h]
  | n + 1, [], r, h => by simp [takeN] at h
  | n + 1, c :: cs, r, h => by
    simp only [takeN, Option.bind_eq_some_iff] at h
    obtain ⟨q, hq, e⟩ := h
    simp at e; subst e
    obtain ⟨e, h⟩ := takeN_spec hq
    exact ⟨by simp [e], by simp; omega⟩
theorem dropN_spec : ∀ {n : Nat} {cs r : List AV}, dropN n cs = some r → r = cs.drop n ∧ n ≤ cs.length
  | 0, cs, r, h => by simp [dropN] at h; simp [h]
  | n + 1, [], r, h => by simp [dropN] at h
  | n + 1, c :: cs, r, h => by
    simp only [dropN] at h
    obtain ⟨e, h⟩ := dropN_spec h
    exact ⟨by simp [e], by simp; omega⟩
theorem readN_spec {cs r : List AV} {off n : Nat} (h : readN cs off n = some r) : r = (cs.drop off).take n ∧ off + n ≤ cs.length := by
  simp only [readN, Option.bind_eq_some_iff] at h
  obtain ⟨q, hq, h⟩ := h
  obtain ⟨e, hl⟩ := dropN_spec hq
  obtain ⟨e2, hl2⟩ := takeN_spec h
  subst e
  exact ⟨e2, by simp at hl2; omega⟩
theorem overN_spec : ∀ {vs cs r : List AV}, overN cs vs = some r → r = vs ++ cs.drop vs.length ∧ vs.length ≤ cs.length
  | [], cs, r, h => by cases cs <;> simp [overN] at h <;> simp [h]
  | v :: vs, [], r, h => by simp [overN] at h
  | v :: vs, c :: cs, r, h => by
    simp only [overN, Option.bind_eq_some_iff] at h
    obtain ⟨q, hq, e⟩ := h
    simp at e; subst e
    obtain ⟨e, h⟩ := overN_spec hq
    exact ⟨by simp [e], by simp; omega⟩
theorem writeN_spec : ∀ {off : Nat} {cs vs r : List AV}, writeN cs off vs = some r → r = cs.take off ++ vs ++ cs.drop (off + vs.length) ∧ off + vs.length ≤ cs.length
  | 0, cs, vs, r, h => by
    have h : overN cs vs = some r := by cases cs <;> simpa [writeN] using h
    obtain ⟨e, hl⟩ := overN_spec h
    exact ⟨by simp [e], by omega⟩
  | off + 1, [], vs, r, h => by simp [writeN] at h
  | off + 1, c :: cs, vs, r, h => by
    simp only [writeN, Option.bind_eq_some_iff] at h
    obtain ⟨q, hq, e⟩ := h
    simp at e; subst e
    obtain ⟨e, hl⟩ := writeN_spec hq
    refine ⟨?_, by simp; omega⟩
    rw [e, show off + 1 + vs.length = (off + vs.length) + 1 by omega]
    simp
/-- What is written stands where it was written, all else where it was. -/
theorem writeN_get {off : Nat} {cs vs r : List AV} (h : writeN cs off vs = some r) (i : Nat) : r[i]? = if off ≤ i ∧ i < off + vs.length then vs[i - off]? else cs[i]? := by
  obtain ⟨e, hl⟩ := writeN_spec h
  subst e
  by_cases h1 : i < off
  · rw [if_neg (by omega), List.append_assoc, List.getElem?_append_left (by simp; omega), List.getElem?_take, if_pos h1]
  · by_cases h2 : i < off + vs.length
    · rw [if_pos (by omega), List.append_assoc, List.getElem?_append_right (by simp; omega), List.getElem?_append_left (by simp; omega)]
      congr 1; simp; omega
    · rw [if_neg (by omega), List.getElem?_append_right (by simp; omega), List.getElem?_drop]
      congr 1; simp; omega
theorem writeN_length {off : Nat} {cs vs r : List AV} (h : writeN cs off vs = some r) : r.length = cs.length := by
  obtain ⟨e, hl⟩ := writeN_spec h
  subst e; simp; omega

/-! ### Types -/
theorem run_sizeA {P : Program} {t : TypeId} {n : Nat} (h : sizeA P t = some n) : ∃ i, P.info? t = some i ∧ i.size = n := by
  simp only [sizeA, Option.bind_eq_some_iff] at h
  obtain ⟨i, hi, e⟩ := h
  exact ⟨i, hi, by simpa using e⟩
theorem zeroA_spec {P : Program} {t : TypeId} {z : AV} (h : zeroA P t = some z) : ∃ i v, P.info? t = some i ∧ i.zero = some v ∧ ofVal v = some z := by
  simp only [zeroA, Option.bind_eq_some_iff] at h
  obtain ⟨i, hi, v, hv, e⟩ := h
  exact ⟨i, v, hi, hv, e⟩
theorem run_typeInfo' {P : Program} {t : TypeId} {i : TypeInfo} (w : World) (h : P.info? t = some i) : (typeInfo t).run P w = .ok i w := by
  simp [typeInfo, program, Sem.run_bind, Sem.run, h, Result.andThen, pure]
theorem run_sizeOf' {P : Program} {t : TypeId} {i : TypeInfo} (w : World) (h : P.info? t = some i) : (sizeOf t).run P w = .ok i.size w := by
  simp [sizeOf, Sem.run_bind, run_typeInfo' w h, Result.andThen]
theorem run_zeroValue' {P : Program} {t : TypeId} {i : TypeInfo} {v : Value} (w : World) (h : P.info? t = some i) (hz : i.zero = some v) : (zeroValue t).run P w = .ok v w := by
  simp [zeroValue, Sem.run_bind, run_typeInfo' w h, Result.andThen, hz]
theorem run_underlying' {P : Program} {t : TypeId} {d : TypeDesc} (w : World) (h : P.underlying t = some d) : (underlying t).run P w = .ok d w := by
  simp [underlying, program, Sem.run_bind, Sem.run, h, Result.andThen, pure]
theorem run_isAgg' {P : Program} {t : TypeId} {b : Bool} (w : World) (h : isAggA P t = some b) : (isAgg t).run P w = .ok b w := by
  unfold isAggA at h
  split at h <;> simp at h
  all_goals (rename_i hu; subst h; simp only [isAgg, Sem.run_bind, run_underlying' w hu, Result.andThen])
  all_goals first
    | rfl
    | (split <;> first | rfl | (exfalso; simp_all))

/-! ### Loads -/
theorem addr_add (b o n : Nat) : (⟨b, o, none⟩ : Addr).add n = ⟨b, o + n, none⟩ := by unfold Addr.add; split <;> simp_all
theorem cell_at {w : World} {b : Nat} {C : Array Value} {e : TypeId} {fz : Nat × Nat} (h : w.heap[b]? = some (.cells C e fz)) (o : Nat) : w.cell? ⟨b, o, none⟩ = C[o]? := by
  simp [World.cell?, h]
/-- What cells are told of a block, whether it may be written or not. -/
structure CellsAt (φ : Phi) (w : World) (id : Id) (cs : List AV) (l : Loc) : Prop where
  loc : φ id = some l
  get : ∀ i x, cs[i]? = some x → ∃ v, w.cell? ⟨l.blk, l.base + i, none⟩ = some v ∧ Rep φ x v
theorem RelQ.cellsAt {P : Program} {F : Froz} {φ : Phi} {st : St} {w : World} (hR : RelQ P F φ st w) {id : Id} {cs : List AV} (h : st.cellsAt id = some cs) : ∃ l, CellsAt φ w id cs l := by
  unfold St.cellsAt at h
  split at h <;> simp at h
  · rename_i cs' e g hb
    subst h
    obtain ⟨l, C, fz, hl, _, hh, _, _, _, hc, _⟩ := hR.blk _ _ hb
    exact ⟨l, hl, fun i x hx => by rw [cell_at hh]; exact hc i x hx⟩
  · rename_i cs' hb
    subst h
    obtain ⟨l, C, e, fz, hl, _, hh, hc⟩ := hR.blk _ _ hb
    exact ⟨l, hl, fun i x hx => by rw [cell_at hh]; exact hc i x hx⟩
theorem CellsAt.reps {φ : Phi} {w : World} {id : Id} {cs : List AV} {l : Loc} (h : CellsAt φ w id cs l) {off n : Nat} {r : List AV} (hr : readN cs off n = some r) :
    ∃ vs, Reps φ r vs ∧ ∀ j v, vs[j]? = some v → w.cell? ⟨l.blk, l.base + off + j, none⟩ = some v := by
  obtain ⟨e, hl⟩ := readN_spec hr
  have hlen : r.length = n := by subst e; simp; omega
  have hget : ∀ j, j < n → ∃ v, w.cell? ⟨l.blk, l.base + off + j, none⟩ = some v ∧ ∀ x, r[j]? = some x → Rep φ x v := by
    intro j hj
    have hx : cs[off + j]? = some (cs[off + j]'(by omega)) := List.getElem?_eq_getElem _
    obtain ⟨v, hv, p⟩ := h.get _ _ hx
    refine ⟨v, by rw [← hv]; congr 2; omega, fun x hxr => ?_⟩
    subst e
    rw [List.getElem?_take, if_pos hj, List.getElem?_drop, hx] at hxr
    simp at hxr; subst hxr; exact p
  have hgetC : ∀ j, ∃ v, j < n → w.cell? ⟨l.blk, l.base + off + j, none⟩ = some v ∧ ∀ x, r[j]? = some x → Rep φ x v := fun j => by
    by_cases hj : j < n
    · obtain ⟨v, hv⟩ := hget j hj; exact ⟨v, fun _ => hv⟩
    · exact ⟨default, fun h => absurd h hj⟩
  obtain ⟨f, hf⟩ := Classical.axiomOfChoice hgetC
  refine ⟨(List.range n).map f, Reps.of_get (by simp [hlen]) fun i x hx => ?_, fun j v hv => ?_⟩
  · have hi : i < n := by rw [← hlen]; exact (List.getElem?_eq_some_iff.1 hx).1
    exact ⟨f i, by simp [hi], (hf i hi).2 x hx⟩
  · have hj : j < n := by have := (List.getElem?_eq_some_iff.1 hv).1; simpa using this
    simp [hj] at hv; subst hv
    exact (hf j hj).1
theorem run_load' {P : Program} {w : World} {a : Addr} {v : Value} (h : w.cell? a = some v) : (load a).run P w = .ok v w := by
  simp [load, Sem.run, h]
theorem run_loadVarA {P : Program} {φ : Phi} {w : World} {id : Id} {cs : List AV} {l : Loc} (h : CellsAt φ w id cs l) {t : TypeId} {off : Nat} {x : AV} (hx : partA P t cs off = some x) :
    ∃ v, (loadVar t ⟨l.blk, l.base + off, none⟩).run P w = .ok v w ∧ Rep φ x v := by
  simp only [partA, Option.bind_eq_some_iff] at hx
  obtain ⟨b, hb, hx⟩ := hx
  cases b with
  | true =>
    simp only [if_true, Option.bind_eq_some_iff] at hx
    obtain ⟨n, hn, r, hr, e⟩ := hx
    simp at e; subst e
    obtain ⟨i, hi, rfl⟩ := run_sizeA hn
    obtain ⟨vs, hv, hc⟩ := h.reps hr
    have hlen : vs.length = i.size := by rw [hv.length]; obtain ⟨e, hl⟩ := readN_spec hr; subst e; simp; omega
    refine ⟨.agg vs.toArray, ?_, by simp only [Rep]; exact ⟨vs.toArray, rfl, by simpa using hv⟩⟩
    have := run_loadCells_list (P := P) (w := w) ⟨l.blk, l.base + off, none⟩ vs (fun j v hj => by rw [addr_add]; exact hc j v hj)
    rw [hlen] at this
    simp [loadVar, Sem.run_bind, run_isAgg' w hb, Result.andThen, run_sizeOf' w hi, this]
  | false =>
    simp only [Bool.false_eq_true, if_false] at hx
    obtain ⟨v, hv, p⟩ := h.get _ _ hx
    exact ⟨v, by simp [loadVar, Sem.run_bind, run_isAgg' w hb, Result.andThen, run_load' hv], p⟩
theorem run_partA {P : Program} {φ : Phi} {w : World} {cs : List AV} {C : Array Value} (h : Reps φ cs C.toList) {t : TypeId} {off : Nat} {x : AV} (hx : partA P t cs off = some x) :
    ∃ v, (part t C off).run P w = .ok v w ∧ Rep φ x v := by
  simp only [partA, Option.bind_eq_some_iff] at hx
  obtain ⟨b, hb, hx⟩ := hx
  cases b with
  | true =>
    simp only [if_true, Option.bind_eq_some_iff] at hx
    obtain ⟨n, hn, r, hr, e⟩ := hx
    simp at e; subst e
    obtain ⟨i, hi, rfl⟩ := run_sizeA hn
    obtain ⟨e, hl⟩ := readN_spec hr
    refine ⟨.agg (C.extract off (off + i.size)), by simp [part, Sem.run_bind, run_isAgg' w hb, Result.andThen, run_sizeOf' w hi], ?_⟩
    simp only [Rep]
    refine ⟨_, rfl, Reps.of_get ?_ fun j y hy => ?_⟩
    · have := h.length
      subst e; simp at this ⊢; omega
    · subst e
      have hj : j < i.size := by have := (List.getElem?_eq_some_iff.1 hy).1; simp at this; omega
      rw [List.getElem?_take, if_pos hj, List.getElem?_drop] at hy
      obtain ⟨v, hv, p⟩ := h.get hy
      refine ⟨v, ?_, p⟩
      simp only [Array.getElem?_toList] at hv ⊢
      rw [Array.getElem?_extract]
      have hlt := (Array.getElem?_eq_some_iff.1 hv).1
      rw [if_pos (by omega), hv]
  | false =>
    simp only [Bool.false_eq_true, if_false] at hx
    obtain ⟨v, hv, p⟩ := h.get hx
    simp only [Array.getElem?_toList] at hv
    exact ⟨v, by simp [part, Sem.run_bind, run_isAgg' w hb, Result.andThen, hv], p⟩
end Go.Ev
set_option linter.unusedVariables false
set_option linter.unusedSimpArgs false
namespace Go.Ev

/-! ### What is built -/
theorem fold_cells (off : Nat) : ∀ (vs : List Value) (k : Nat) (C : Array Value), off + k + vs.length ≤ C.size →
    let D := (vs.zipIdx k).foldl (fun (cs : Array Value) (p : Value × Nat) => cs.setIfInBounds (off + p.2) p.1) C
    D.size = C.size ∧ ∀ i, D[i]? = if off + k ≤ i ∧ i < off + k + vs.length then vs[i - (off + k)]? else C[i]?
  | [], k, C, _ => by
    refine ⟨by simp, fun i => ?_⟩
    rw [if_neg (by simp)]; rfl
  | v :: vs, k, C, h => by
    simp only [List.length_cons] at h
    have ih := fold_cells off vs (k + 1) (C.setIfInBounds (off + k) v) (by simp; omega)
    simp only [List.zipIdx_cons, List.foldl_cons]
    obtain ⟨h1, h2⟩ := ih
    refine ⟨by rw [h1]; simp, fun i => ?_⟩
    rw [h2 i]
    by_cases hi : i = off + k
    · subst hi
      rw [if_neg (by omega), if_pos (by simp), Array.getElem?_setIfInBounds_self_of_lt (by omega)]
      simp
    · by_cases hr : off + (k + 1) ≤ i ∧ i < off + (k + 1) + vs.length
      · rw [if_pos hr, if_pos (by simp only [List.length_cons]; omega)]
        rw [show i - (off + k) = (i - (off + (k + 1))) + 1 by omega]
        simp
      · rw [if_neg hr, if_neg (by simp only [List.length_cons]; omega), Array.getElem?_setIfInBounds_ne (by omega)]
theorem fill_rep {φ : Phi} (place : Nat → Option (Nat × Nat)) : ∀ {xs : List (Nat × AV)} {vs : List (Nat × Value)} {cs r : List AV} {C : Array Value}, RepP φ xs vs → Reps φ cs C.toList →
    fillA place cs xs = some r → ∃ D, Instr.fill place C vs = some D ∧ Reps φ r D.toList
  | [], vs, cs, r, C, hp, hc, h => by
    rw [show vs = [] from hp]
    simp [fillA] at h; subst h
    exact ⟨C, rfl, hc⟩
  | x :: xs, vs, cs, r, C, hp, hc, h => by
    obtain ⟨v, q, rfl, hv, hq⟩ := hp
    obtain ⟨i, xv⟩ := x
    simp only [fillA, Option.bind_eq_some_iff] at h
    obtain ⟨p, hpl, h⟩ := h
    obtain ⟨p1, p2⟩ := p
    dsimp only at hpl h hv
    split at h
    case isFalse => simp at h
    rename_i hlen
    simp only [Option.bind_eq_some_iff] at h
    obtain ⟨cs', hw, h⟩ := h
    have hvc := hv.cells
    have hvl := hvc.length
    have hcl := hc.length
    obtain ⟨_, hfit⟩ := writeN_spec hw
    simp only [Array.length_toList] at hcl
    have hf := fold_cells p1 v.cells.toList 0 C (by rw [hvl]; omega)
    simp only [Nat.add_zero] at hf
    simp only [Array.length_toList] at hvl
    have hz : v.cells.zipIdx.foldl (fun cs (x : Value × Nat) => cs.setIfInBounds (p1 + x.2) x.1) C = (v.cells.toList.zipIdx 0).foldl (fun cs (x : Value × Nat) => cs.setIfInBounds (p1 + x.2) x.1) C := by
      rw [← Array.foldl_toList]; simp
    obtain ⟨D, hD, hr⟩ := fill_rep place hq (C := (v.cells.toList.zipIdx 0).foldl (fun cs (x : Value × Nat) => cs.setIfInBounds (p1 + x.2) x.1) C) (cs := cs') (Reps.of_get (by
        simp only [Array.length_toList, hf.1]; rw [writeN_length hw, ← hcl]) fun j y hy => by
      simp only [Array.getElem?_toList]
      rw [hf.2 j]
      rw [writeN_get hw j] at hy
      rw [hvc.length]
      split at hy
      · rename_i hj
        rw [if_pos hj]
        exact hvc.get hy
      · rename_i hj
        rw [if_neg hj]
        have := hc.get hy
        simpa using this) h
    refine ⟨D, ?_, hr⟩
    simp only [Instr.fill, hpl]
    rw [if_neg (by simp; omega)]
    rw [← hD, ← hz]
theorem build_rep {P : Program} {φ : Phi} {t : TypeId} {xs : List (Nat × AV)} {vs : List (Nat × Value)} {x : AV} (hp : RepP φ xs vs) (h : buildA P t xs = some x) (w : World) :
    ∃ v, (Instr.build t vs.toArray).run P w = .ok v w ∧ Rep φ x v := by
  simp only [buildA, Option.bind_eq_some_iff] at h
  obtain ⟨z, hz, h⟩ := h
  obtain ⟨it, zv, hi, hzv, ho⟩ := zeroA_spec hz
  have hzr := (ofVal_rep (φ := φ) ho).cells
  split at h
  · rename_i fs hu
    simp only [Option.bind_eq_some_iff] at h
    obtain ⟨places, hpl, r, hr, e⟩ := h
    simp at e; subst e
    obtain ⟨D, hD, hrD⟩ := fill_rep _ hp hzr hr
    refine ⟨.agg D, run_build w t vs.toArray D (by unfold Program.built; rw [hi, hu]; simp only [hzv]; rw [hpl]; simpa using hD), by simp only [Rep]; exact ⟨D, rfl, hrD⟩⟩
  · rename_i n e hu
    simp only [Option.bind_eq_some_iff] at h
    obtain ⟨s, hs, r, hr, e⟩ := h
    simp at e; subst e
    obtain ⟨ie, hie, rfl⟩ := run_sizeA hs
    obtain ⟨D, hD, hrD⟩ := fill_rep _ hp hzr hr
    exact ⟨.agg D, run_build w t vs.toArray D (by unfold Program.built; rw [hi, hu]; simp only [hzv, hie]; simpa using hD), by simp only [Rep]; exact ⟨D, rfl, hrD⟩⟩
  · simp at h
end Go.Ev
set_option linter.unusedVariables false
set_option linter.unusedSimpArgs false
namespace Go.Ev

theorem run_v {P : Program} {s : Sem Value} {w w' : World} {v : Value} (h : s.run P w = .ok v w') : (do pure (Next.value (← s)) : Sem Next).run P w = .ok (.value v) w' := by
  simp [Sem.run_bind, h, Result.andThen]

section
variable {P : Program} {F : Froz} {φ : Phi} {st : St} {w : World}

/-! field addresses, fields -/
theorem fieldAddr_rep {t : TypeId} {fs : Array Field} {i : Nat} {f : Field} {n : Nat} {id : Id} {off : Nat} {v : Value} (hf : fieldsA P t = some fs) (hi : fs[i]? = some f) (hn : sizeA P f.type = some n)
    (h0 : n ≠ 0) (hv : Rep φ (.ptr (some (id, off))) v) : ∃ u, (Instr.fieldAt t v i).run P w = .ok u w ∧ Rep φ (.ptr (some (id, off + f.offset))) u := by
  unfold fieldsA at hf
  split at hf <;> simp at hf
  rename_i gs hu
  subst hf
  obtain ⟨j, hj, rfl⟩ := run_sizeA hn
  simp only [Rep] at hv
  obtain ⟨l, hl, rfl⟩ := hv
  refine ⟨.pointer (some ⟨l.blk, l.base + off + f.offset, none⟩), ?_, by simp only [Rep]; exact ⟨l, hl, by rw [Nat.add_assoc]⟩⟩
  simp [Instr.fieldAt, Sem.run_bind, run_underlying' w hu, Result.andThen, hi, Instr.sureAddr, fieldPlace, run_sizeOf' w hj, h0, addr_add]
theorem field_rep {t : TypeId} {fs : Array Field} {i : Nat} {f : Field} {cs : List AV} {v : Value} {x : AV} (hf : fieldsA P t = some fs) (hi : fs[i]? = some f) (hv : Rep φ (.agg cs) v)
    (hx : partA P f.type cs f.offset = some x) : ∃ u, (Instr.field t v i).run P w = .ok u w ∧ Rep φ x u := by
  unfold fieldsA at hf
  split at hf <;> simp at hf
  rename_i gs hu
  subst hf
  simp only [Rep] at hv
  obtain ⟨C, rfl, hC⟩ := hv
  obtain ⟨u, hu', p⟩ := run_partA (w := w) hC hx
  exact ⟨u, by simp [Instr.field, Sem.run_bind, run_underlying' w hu, Result.andThen, hi, asAgg, hu'], p⟩
/-! indexes -/
theorem indexAddr_rep {t : TypeId} {x i r : AV} {vx vi : Value} (hx : Rep φ x vx) (hi : Rep φ i vi) (h : indexAddrA P t x i = some r) :
    ∃ u, (Instr.indexAt t vx vi).run P w = .ok u w ∧ Rep φ r u := by
  unfold indexAddrA at h
  split at h
  · rename_i e id off len c k n hu
    split at h
    case isFalse => simp at h
    rename_i hn
    simp only [Option.bind_eq_some_iff] at h
    obtain ⟨s, hs, h⟩ := h
    simp at h; subst h
    obtain ⟨ie, hie, rfl⟩ := run_sizeA hs
    simp only [Rep] at hi
    subst hi
    cases c with
    | some c =>
      simp only [Rep] at hx
      obtain ⟨l, a', hl, hlc, ha, rfl⟩ := hx
      have ha' : a' = ⟨l.blk, l.base + off, none⟩ := by
        rcases ha with ha | ha
        · exact ha
        · omega
      subst ha'
      refine ⟨.pointer (some ⟨l.blk, l.base + off + n.toNat * ie.size, none⟩), ?_, by simp only [Rep]; exact ⟨l, hl, by rw [Nat.add_assoc]⟩⟩
      simp [Instr.indexAt, asIntOf, Sem.run_bind, run_underlying' w hu, Result.andThen, hn.1, hn.2, run_sizeOf' w hie, addr_add]
    | none =>
      simp only [Rep] at hx
      obtain ⟨l, o, c, hl, hlc, hend, ho, rfl⟩ := hx
      have ho' : o = l.base + off := by
        rcases ho with ho | ho
        · exact ho
        · omega
      subst ho'
      refine ⟨.pointer (some ⟨l.blk, l.base + off + n.toNat * ie.size, none⟩), ?_, by simp only [Rep]; exact ⟨l, hl, by rw [Nat.add_assoc]⟩⟩
      simp [Instr.indexAt, asIntOf, Sem.run_bind, run_underlying' w hu, Result.andThen, hn.1, hn.2, run_sizeOf' w hie, addr_add]
  · rename_i len e id off k n hu
    split at h
    case isFalse => simp at h
    rename_i hn
    simp only [Option.bind_eq_some_iff] at h
    obtain ⟨s, hs, h⟩ := h
    simp at h; subst h
    obtain ⟨ie, hie, rfl⟩ := run_sizeA hs
    simp only [Rep] at hi hx
    subst hi
    obtain ⟨l, hl, rfl⟩ := hx
    refine ⟨.pointer (some ⟨l.blk, l.base + off + n.toNat * ie.size, none⟩), ?_, by simp only [Rep]; exact ⟨l, hl, by rw [Nat.add_assoc]⟩⟩
    simp [Instr.indexAt, asIntOf, Sem.run_bind, run_underlying' w hu, Result.andThen, hn.1, hn.2, run_sizeOf' w hie, addr_add, Instr.sureAddr]
  · simp at h
theorem index_rep {t : TypeId} {x i r : AV} {vx vi : Value} (hx : Rep φ x vx) (hi : Rep φ i vi) (h : indexA P t x i = some r) :
    ∃ u, (Instr.index t vx vi).run P w = .ok u w ∧ Rep φ r u := by
  unfold indexA at h
  split at h
  · rename_i s k n hu
    split at h
    case isFalse => simp at h
    rename_i h0
    simp only [Option.bind_eq_some_iff] at h
    obtain ⟨b, hb, h⟩ := h
    simp at h; subst h
    simp only [Rep] at hi hx
    subst hi hx
    have hg : (⟨s.toArray⟩ : ByteArray)[n.toNat]? = some b := by
      have hlt := (List.getElem?_eq_some_iff.1 hb)
      obtain ⟨hlt, e⟩ := hlt
      have hsz : n.toNat < (⟨s.toArray⟩ : ByteArray).size := by simpa [ByteArray.size] using hlt
      rw [getElem?_pos (⟨s.toArray⟩ : ByteArray) n.toNat hsz]
      simp only [Option.some.injEq]
      show s.toArray[n.toNat] = b
      simpa using e
    refine ⟨.int .u8 b.toNat, ?_, by simp only [Rep]⟩
    simp [Instr.index, asIntOf, Sem.run_bind, run_underlying' w hu, Result.andThen, h0, hg]
  · rename_i len e cs k n hu
    split at h
    case isFalse => simp at h
    rename_i hn
    simp only [Option.bind_eq_some_iff] at h
    obtain ⟨s, hs, h⟩ := h
    obtain ⟨ie, hie, rfl⟩ := run_sizeA hs
    simp only [Rep] at hi hx
    subst hi
    obtain ⟨C, rfl, hC⟩ := hx
    obtain ⟨u, hu', p⟩ := run_partA (w := w) hC h
    refine ⟨u, ?_, p⟩
    simp [Instr.index, asIntOf, Sem.run_bind, run_underlying' w hu, Result.andThen, hn.1, hn.2, run_sizeOf' w hie, hu']
  · simp at h
end
end Go.Ev
namespace Go.Ev
section
variable {P : Program} {F : Froz} {φ : Phi} {st : St} {w : World}
/-! texts, numbers -/
theorem Rep.int' (k : IntKind) (n : Int) : Rep φ (.int k n) (.int k n) := by simp only [Rep]
theorem Rep.bool' (b : Bool) : Rep φ (.bool b) (.bool b) := by simp only [Rep]
theorem Rep.str' (s : List UInt8) : Rep φ (.str s) (.string ⟨s.toArray⟩) := by simp only [Rep]
theorem toList_mk (s : List UInt8) : (⟨s.toArray⟩ : ByteArray).toList = s := by rw [ByteArray.toList_eq]
theorem intA_rep {op : BinOp} {k k' : IntKind} {a b : Int} {r : AV} (hk : k = k' ∨ op = .shl ∨ op = .shr) (h : intA op k a b = some r) (t : TypeId) :
    ∃ u, (binOp op t (.int k a) (.int k' b)).run P w = .ok u w ∧ Rep φ r u := by
  cases op
  case shl =>
    simp only [intA] at h
    split at h <;> simp at h
    subst h
    rename_i hb
    exact ⟨_, by simp only [binOp, Op.shift, hb]; rfl, Rep.int' _ _⟩
  case shr =>
    simp only [intA] at h
    split at h <;> simp at h
    subst h
    rename_i hb
    exact ⟨_, by simp only [binOp, Op.shift, hb]; rfl, Rep.int' _ _⟩
  all_goals
    obtain rfl : k = k' := by simpa using hk
    simp only [intA] at h
  case quo =>
    split at h <;> simp at h
    rename_i hb
    subst h
    exact ⟨_, by simp only [binOp, Op.intDiv, hb, if_false, ne_eq, not_true, if_true]; rfl, Rep.int' _ _⟩
  case rem =>
    split at h <;> simp at h
    rename_i hb
    subst h
    exact ⟨_, by simp only [binOp, Op.intDiv, hb, if_false, ne_eq, not_true, if_true]; rfl, Rep.int' _ _⟩
  all_goals
    simp only [Option.some.injEq] at h
    subst h
    first | exact ⟨_, by simp only [binOp, Op.intArith, Op.intBits, Op.intCmp, ne_eq, not_true, if_false]; rfl, Rep.int' _ _⟩ | exact ⟨_, by simp only [binOp, Op.intArith, Op.intBits, Op.intCmp, ne_eq, not_true, if_false]; rfl, Rep.bool' _⟩
theorem stringA_rep {op : BinOp} {a b : List UInt8} {r : AV} (h : stringA op a b = some r) (t : TypeId) :
    ∃ u, (binOp op t (.string ⟨a.toArray⟩) (.string ⟨b.toArray⟩)).run P w = .ok u w ∧ Rep φ r u := by
  cases op
  case add =>
    simp only [stringA] at h
    split at h <;> simp at h
    rename_i hl
    subst h
    refine ⟨.string (⟨a.toArray⟩ ++ ⟨b.toArray⟩), ?_, ?_⟩
    · have : ¬ (((⟨a.toArray⟩ : ByteArray).size + (⟨b.toArray⟩ : ByteArray).size : Nat) : Int) > IntKind.i64.max := by
        show ¬ (((a.toArray.size + b.toArray.size : Nat) : Int) > _)
        simp [IntKind.max, IntKind.bits, IntKind.signed]; omega
      simp only [binOp, Op.stringOp]
      rw [if_neg this]; rfl
    · simp only [Rep]
      congr 1
  all_goals
    simp only [stringA, Option.some.injEq, reduceCtorEq] at h
  all_goals
    subst h
    exact ⟨_, by simp only [binOp, Op.stringOp, toList_mk]; rfl, Rep.bool' _⟩
end
end Go.Ev
set_option linter.unusedVariables false
set_option linter.unusedSimpArgs false
namespace Go.Ev
section
variable {P : Program} {F : Froz} {φ : Phi} {st : St} {w : World}

/-! ### Equality -/
theorem RelQ.alone {i j : Id} (hR : RelQ P F φ st w) (hi : aloneAt P st i = true) (hj : aloneAt P st j = true) (hne : i ≠ j) {li lj : Loc} (hli : φ i = some li) (hlj : φ j = some lj) :
    li.blk ≠ lj.blk ∧ (∃ C e, w.heap[li.blk]? = some (.cells C e (0, 0))) ∧ (∃ C e, w.heap[lj.blk]? = some (.cells C e (0, 0))) := by
  have key : ∀ {i : Id} {li : Loc}, aloneAt P st i = true → φ i = some li → ∃ cs e g, st.heap.get i = some (.cells cs e g) ∧ st.grps.get g = none ∧ ∃ C, w.heap[li.blk]? = some (.cells C e (0, 0)) := by
    intro i li h hl
    unfold aloneAt at h
    split at h
    · rename_i cs e g hb
      simp only [Bool.and_eq_true] at h
      obtain ⟨h1, h2⟩ := h
      obtain ⟨l, C, fz, hl', _, hh, _, _, _, _, hz⟩ := hR.blk _ _ hb
      rw [hl] at hl'
      simp at hl'; subst hl'
      refine ⟨cs, e, g, hb, by simpa using h2, C, ?_⟩
      rcases hz with rfl | ⟨hz, _⟩
      · exact hh
      · unfold isByte at hz
        split at hz
        · rename_i hu; simp [hu] at h1
        · simp at hz
    · simp at h
  obtain ⟨ci, ei, gi, hbi, hgi, Ci, hhi⟩ := key hi hli
  obtain ⟨cj, ej, gj, hbj, hgj, Cj, hhj⟩ := key hj hlj
  refine ⟨fun hbl => ?_, ⟨Ci, ei, hhi⟩, ⟨Cj, ej, hhj⟩⟩
  obtain ⟨_, l, hl, _⟩ := hR.inj i j _ _ _ _ _ _ _ _ hne hbi hbj hli hlj hbl
  rw [hgi] at hl
  simp at hl
theorem frozen_plain {w : World} {b : Nat} {C : Array Value} {e : TypeId} (h : w.heap[b]? = some (.cells C e (0, 0))) (o : Nat) : w.frozen? ⟨b, o, none⟩ = false := by
  simp [World.frozen?, h]
theorem run_sameAddr_alone {w : World} {b b' o o' : Nat} {C C' : Array Value} {e e' : TypeId} (h : w.heap[b]? = some (.cells C e (0, 0))) (h' : w.heap[b']? = some (.cells C' e' (0, 0))) (hne : b ≠ b') :
    (sameAddr ⟨b, o, none⟩ ⟨b', o', none⟩).run P w = .ok false w := by
  have hb : (b == b') = false := by simpa using hne
  simp [sameAddr, hb, Sem.run_bind, frozen, shape, Sem.run, Result.andThen, frozen_plain h, frozen_plain h', noView, viewAt, World.shape?, h, h', mayBeOne, stringish, pure]
theorem eqFields_rep (d : Nat) (ih : ∀ {t : TypeId} {x y : AV} {vx vy : Value} {r : Bool}, Rep φ x vx → Rep φ y vy → eqA P st d t x y = some r → (Op.equalIn d t vx vy).run P w = .ok r w) {xs ys : List AV} {X Y : Array Value} (hX : Reps φ xs X.toList) (hY : Reps φ ys Y.toList) : ∀ {fs : List Field} {r : Bool},
    eqFields P (eqA P st d) xs ys fs = some r → (Op.eqFields d X Y fs).run P w = .ok r w
  | [], r, h => by simp [eqFields] at h; subst h; simp [Op.eqFields]
  | f :: fs, r, h => by
    simp only [eqFields] at h
    by_cases hn : f.name = "_"
    · rw [if_pos hn] at h
      simp only [Op.eqFields, hn, ne_eq, not_true, if_false]
      exact eqFields_rep d ih hX hY h
    · rw [if_neg hn] at h
      simp only [Option.bind_eq_some_iff] at h
      obtain ⟨a, ha, b, hb, q, hq, h⟩ := h
      obtain ⟨va, hva, ra⟩ := run_partA (w := w) hX ha
      obtain ⟨vb, hvb, rb⟩ := run_partA (w := w) hY hb
      have he := ih ra rb hq
      simp only [Op.eqFields, hn, ne_eq, not_false_eq_true, if_true, Sem.run_bind, hva, hvb, he, Result.andThen]
      cases q
      · simp at h; subst h; simp
      · simp only [if_true] at h
        simp only [Bool.not_true, Bool.false_eq_true, if_false]
        exact eqFields_rep d ih hX hY h
set_option maxHeartbeats 4000000 in
theorem eqA_rep (hR : RelQ P F φ st w) : ∀ (d : Nat) {t : TypeId} {x y : AV} {vx vy : Value} {r : Bool}, Rep φ x vx → Rep φ y vy → eqA P st d t x y = some r → (Op.equalIn d t vx vy).run P w = .ok r w
  | 0, t, x, y, vx, vy, r, hx, hy, h => by simp [eqA] at h
  | d + 1, t, x, y, vx, vy, r, hx, hy, h => by
    unfold eqA at h
    split at h
    · rename_i a b hu
      simp only [Rep] at hx hy; subst hx hy
      simp only [Option.some.injEq] at h; subst h
      exact run_equalIn_bool' w d t a b hu
    · rename_i k' k a k2 b hu
      split at h <;> simp only [Option.some.injEq, reduceCtorEq] at h
      rename_i hk
      simp only [Rep] at hx hy; subst hx hy hk h
      exact run_equalIn_int w d t k k' a b hu
    · rename_i a b hu
      simp only [Rep] at hx hy; subst hx hy
      simp only [Option.some.injEq] at h; subst h
      have := run_equalIn_string (P := P) w d t ⟨a.toArray⟩ ⟨b.toArray⟩ hu
      rw [toList_mk, toList_mk] at this
      exact this
    · rename_i e b hu
      simp only [Rep] at hx; subst hx
      simp only [Option.some.injEq] at h; subst h
      cases b with
      | none => simp only [Rep] at hy; subst hy; simp [Op.equalIn, Sem.run_bind, run_underlying' w hu, Result.andThen]
      | some b => simp only [Rep] at hy; obtain ⟨l, _, rfl⟩ := hy; simp [Op.equalIn, Sem.run_bind, run_underlying' w hu, Result.andThen]
    · rename_i e a hu
      simp only [Rep] at hx hy
      obtain ⟨l, _, rfl⟩ := hx
      subst hy
      simp only [Option.some.injEq] at h; subst h
      simp [Op.equalIn, Sem.run_bind, run_underlying' w hu, Result.andThen]
    · rename_i e a b hu
      simp only [Option.bind_eq_some_iff] at h
      obtain ⟨n, hn, h⟩ := h
      obtain ⟨ie, hie, rfl⟩ := run_sizeA hn
      split at h
      case isTrue => simp at h
      rename_i h0
      simp only [Rep] at hx hy
      obtain ⟨la, hla, rfl⟩ := hx
      obtain ⟨lb, hlb, rfl⟩ := hy
      split at h
      · rename_i hab
        simp only [Option.some.injEq] at h; subst h
        rw [hab, hlb] at hla
        simp at hla; subst hla
        have hb : ((⟨lb.blk, lb.base + a.2, none⟩ : Addr) == ⟨lb.blk, lb.base + b.2, none⟩) = (a.2 == b.2) := by
          rw [Bool.eq_iff_iff]; simp
        simp [Op.equalIn, Sem.run_bind, run_underlying' w hu, Result.andThen, run_sizeOf' w hie, h0, sameAddr, hb]
      · rename_i hab
        split at h <;> simp only [Option.some.injEq, reduceCtorEq] at h
        rename_i hal
        subst h
        simp only [Bool.and_eq_true] at hal
        obtain ⟨hne, ⟨C, e1, hC⟩, ⟨C', e2, hC'⟩⟩ := hR.alone hal.1 hal.2 hab hla hlb
        simp [Op.equalIn, Sem.run_bind, run_underlying' w hu, Result.andThen, run_sizeOf' w hie, h0, run_sameAddr_alone hC hC' hne]
    · rename_i m hu
      simp only [Rep] at hx hy; subst hx hy
      simp only [Option.some.injEq] at h; subst h
      simp [Op.equalIn, Sem.run_bind, run_underlying' w hu, Result.andThen]
    · rename_i m t' v hu
      simp only [Rep] at hx hy; subst hx; obtain ⟨u, rfl, _⟩ := hy
      simp only [Option.some.injEq] at h; subst h
      simp [Op.equalIn, Sem.run_bind, run_underlying' w hu, Result.andThen]
    · rename_i m t' v hu
      simp only [Rep] at hx hy; subst hy; obtain ⟨u, rfl, _⟩ := hx
      simp only [Option.some.injEq] at h; subst h
      simp [Op.equalIn, Sem.run_bind, run_underlying' w hu, Result.andThen]
    · rename_i fs xs ys hu
      split at h
      case isTrue => simp at h
      rename_i hst
      simp only [Rep] at hx hy
      obtain ⟨X, rfl, hX⟩ := hx
      obtain ⟨Y, rfl, hY⟩ := hy
      have hfo : P.fieldsOf t = fs := by unfold Program.fieldsOf; rw [hu]
      rw [run_equalIn_struct w d t X Y (by rw [hfo]; exact hu) (by simpa using hst), hfo]
      exact eqFields_rep d (fun hx hy h => eqA_rep hR d hx hy h) hX hY h
    · rename_i b n c hu
      simp only [Rep] at hx; obtain ⟨_, _, rfl⟩ := hx
      simp only [Option.some.injEq] at h; subst h
      rename_i sn sc
      cases b with
      | none => simp only [Rep] at hy; obtain ⟨_, _, rfl⟩ := hy; simp [Op.equalIn, Sem.run_bind, run_underlying' w hu, Result.andThen]
      | some b =>
        cases c with
        | none => simp only [Rep] at hy; obtain ⟨l, o, c, _, _, _, _, rfl⟩ := hy; simp [Op.equalIn, Sem.run_bind, run_underlying' w hu, Result.andThen]
        | some c => simp only [Rep] at hy; obtain ⟨l, _, _, _, _, rfl⟩ := hy; simp [Op.equalIn, Sem.run_bind, run_underlying' w hu, Result.andThen]
    · rename_i e a n c n' c' hu
      simp only [Rep] at hy; obtain ⟨_, _, rfl⟩ := hy
      simp only [Option.some.injEq] at h; subst h
      cases c with
      | none => simp only [Rep] at hx; obtain ⟨l, o, c, _, _, _, _, rfl⟩ := hx; simp [Op.equalIn, Sem.run_bind, run_underlying' w hu, Result.andThen]
      | some c => simp only [Rep] at hx; obtain ⟨l, _, _, _, _, rfl⟩ := hx; simp [Op.equalIn, Sem.run_bind, run_underlying' w hu, Result.andThen]
    · rename_i b hu
      simp only [Rep] at hx; subst hx
      simp only [Option.some.injEq] at h; subst h
      cases b with
      | none => simp only [Rep] at hy; subst hy; simp [Op.equalIn, Sem.run_bind, run_underlying' w hu, Result.andThen]
      | some b => simp only [Rep] at hy; obtain ⟨l, _, rfl⟩ := hy; simp [Op.equalIn, Sem.run_bind, run_underlying' w hu, Result.andThen]
    · rename_i a hu
      simp only [Rep] at hx hy; subst hy; obtain ⟨l, _, rfl⟩ := hx
      simp only [Option.some.injEq] at h; subst h
      simp [Op.equalIn, Sem.run_bind, run_underlying' w hu, Result.andThen]
    · rename_i hu
      simp only [Rep] at hx hy; subst hx hy
      simp only [Option.some.injEq] at h; subst h
      simp [Op.equalIn, Sem.run_bind, run_underlying' w hu, Result.andThen]
    · rename_i hu
      simp only [Rep] at hx hy; subst hx; obtain ⟨a, b, rfl, _⟩ := hy
      simp only [Option.some.injEq] at h; subst h
      simp [Op.equalIn, Sem.run_bind, run_underlying' w hu, Result.andThen]
    · rename_i hu
      simp only [Rep] at hx hy; subst hy; obtain ⟨a, b, rfl, _⟩ := hx
      simp only [Option.some.injEq] at h; subst h
      simp [Op.equalIn, Sem.run_bind, run_underlying' w hu, Result.andThen]
    · simp at h
end
end Go.Ev
set_option linter.unusedVariables false
set_option linter.unusedSimpArgs false
namespace Go.Ev
section
variable {P : Program} {F : Froz} {φ : Phi} {st : St} {w : World}
/-! ### Slices of slices -/
/-- A bound as a value. -/
def Bnd : Option Int → Option Value → Prop
  | none, v => v = none
  | some n, v => ∃ k, v = some (.int k n)
theorem run_sliceBound' {k : IntKind} {i : Int} {y : Nat} {c : BoundsCode} (w : World) (h0 : 0 ≤ i) (h1 : i ≤ y) : (Instr.sliceBound (.int k i) y c).run P w = .ok i.toNat w := by
  simp [Instr.sliceBound, asIntOf, Sem.run_bind, Result.andThen, h0, h1]
theorem run_bounds {isSlice : Bool} {len cap : Nat} {lo hi mx : Option Int} {vl vh vm : Option Value} (w : World) (bl : Bnd lo vl) (bh : Bnd hi vh) (bm : Bnd mx vm) (hs : mx.isSome → hi.isSome)
    (h0 : 0 ≤ lo.getD 0) (h1 : lo.getD 0 ≤ hi.getD len) (h2 : hi.getD len ≤ mx.getD cap) (h3 : mx.getD cap ≤ cap) :
    (Instr.sliceBounds isSlice len cap vl vh vm).run P w = .ok ((lo.getD 0).toNat, (hi.getD len).toNat, (mx.getD cap).toNat) w := by
  have hm : ∃ c, (match vm with | some v => Instr.sliceBound v cap c | none => pure cap : Sem Nat).run P w = .ok (mx.getD cap).toNat w := by
    cases mx with
    | none => simp only [Bnd] at bm; subst bm; exact ⟨.index, by simp⟩
    | some m => obtain ⟨k, rfl⟩ := bm; exact ⟨.index, run_sliceBound' w (by simp at h1 h2 ⊢; omega) (by simpa using h3)⟩
  cases mx with
  | none =>
    simp only [Bnd] at bm; subst bm
    simp only [Option.getD_none] at h2 h3 ⊢
    cases hi with
    | none =>
      simp only [Bnd] at bh; subst bh
      simp only [Option.getD_none] at h1 h2 ⊢
      cases lo with
      | none => simp only [Bnd] at bl; subst bl; simp [Instr.sliceBounds, Sem.run_bind, Result.andThen]
      | some l => obtain ⟨k, rfl⟩ := bl; simp at h0 h1; simp [Instr.sliceBounds, Sem.run_bind, Result.andThen, run_sliceBound' w h0 h1]
    | some h =>
      obtain ⟨kh, rfl⟩ := bh
      simp only [Option.getD_some] at h1 h2 ⊢
      have hb : ∀ c, (Instr.sliceBound (.int kh h) cap c).run P w = .ok h.toNat w := fun c => run_sliceBound' w (by omega) h2
      cases lo with
      | none => simp only [Bnd] at bl; subst bl; simp [Instr.sliceBounds, Sem.run_bind, Result.andThen, hb]
      | some l =>
        obtain ⟨k, rfl⟩ := bl; simp at h0 h1
        have hl : ∀ c, (Instr.sliceBound (.int k l) h.toNat c).run P w = .ok l.toNat w := fun c => run_sliceBound' w h0 (by omega)
        simp [Instr.sliceBounds, Sem.run_bind, Result.andThen, hb, hl]
  | some m =>
    obtain ⟨km, rfl⟩ := bm
    simp only [Option.getD_some] at h2 h3 ⊢
    cases hi with
    | none => simp at hs
    | some h =>
      obtain ⟨kh, rfl⟩ := bh
      simp only [Option.getD_some] at h1 h2 ⊢
      have hm' : ∀ c, (Instr.sliceBound (.int km m) cap c).run P w = .ok m.toNat w := fun c => run_sliceBound' w (by omega) h3
      have hb : ∀ c, (Instr.sliceBound (.int kh h) m.toNat c).run P w = .ok h.toNat w := fun c => run_sliceBound' w (by omega) (by omega)
      cases lo with
      | none => simp only [Bnd] at bl; subst bl; simp [Instr.sliceBounds, Sem.run_bind, Result.andThen, hb, hm']
      | some l =>
        obtain ⟨k, rfl⟩ := bl; simp at h0 h1
        have hl : ∀ c, (Instr.sliceBound (.int k l) h.toNat c).run P w = .ok l.toNat w := fun c => run_sliceBound' w h0 (by omega)
        simp [Instr.sliceBounds, Sem.run_bind, Result.andThen, hb, hl, hm']
theorem slice_rep (hR : RelQ P F φ st w) {t : TypeId} {x r : AV} {lo hi mx : Option Int} {v : Value} {vl vh vm : Option Value} (hv : Rep φ x v) (bl : Bnd lo vl) (bh : Bnd hi vh) (bm : Bnd mx vm)
    (h : sliceA P st t x lo hi mx = some r) : ∃ u, (Instr.sliceAt t v vl vh vm).run P w = .ok u w ∧ Rep φ r u := by
  unfold sliceA at h
  split at h
  · rename_i s hu
    split at h <;> simp only [Option.some.injEq, reduceCtorEq] at h
    rename_i hc
    obtain ⟨h1, h2, h3, h4⟩ := hc
    subst h
    simp only [Rep] at hv; subst hv
    have hsz : (⟨s.toArray⟩ : ByteArray).size = s.length := by show s.toArray.size = _; simp
    have hmx : mx = none := by simpa using h1
    subst hmx
    simp only [Bnd] at bm; subst bm
    have hb := run_bounds (P := P) (isSlice := false) (len := s.length) (cap := s.length) w bl bh (show Bnd none none by simp [Bnd]) (by simp) h2 h3 (by simpa using h4) (by simp)
    refine ⟨.string ((⟨s.toArray⟩ : ByteArray).extract (lo.getD 0).toNat (hi.getD s.length).toNat), ?_, ?_⟩
    · simp [Instr.sliceAt, Sem.run_bind, run_underlying' w hu, Result.andThen, Instr.slice, hsz, hb]
    · rw [Lib.extract_eq]; exact Rep.str' _
  · rename_i e a len c hu
    split at h
    case isFalse => simp at h
    rename_i hc
    obtain ⟨h1, h2, h3, h4, h5⟩ := hc
    have hb := run_bounds (P := P) (isSlice := true) (len := len) (cap := c) w bl bh bm h1 h2 h3 h4 h5
    simp only [cutA, Option.bind_eq_some_iff] at h
    obtain ⟨s, hs, h⟩ := h
    obtain ⟨ie, hie, rfl⟩ := run_sizeA hs
    cases a with
    | none =>
      simp only at h
      split at h <;> simp only [Option.some.injEq, reduceCtorEq] at h
      rename_i hz
      obtain ⟨z1, z2, z3⟩ := hz
      simp only [Option.some.injEq] at z3
      subst h
      simp only [Rep] at hv
      obtain ⟨rfl, hc0, rfl⟩ := hv
      simp only [Option.some.injEq] at hc0; subst hc0
      have hb' : (Instr.sliceBounds true 0 0 vl vh vm).run P w = .ok (0, 0, 0) w := by rw [hb, z1, z2, z3]
      exact ⟨.slice none 0 0, by simp [Instr.sliceAt, Sem.run_bind, run_underlying' w hu, Result.andThen, Instr.slice, hb', run_sizeOf' w hie], by simp [Rep]⟩
    | some a =>
      obtain ⟨id, off⟩ := a
      simp only [Option.some.injEq] at h; subst h
      simp only [Rep] at hv
      obtain ⟨l, a', hl, hn, ha, rfl⟩ := hv
      refine ⟨_, by
        simp only [Instr.sliceAt, Sem.run_bind, run_underlying' w hu, Result.andThen, Instr.slice, hb, run_sizeOf' w hie]
        rfl, ?_⟩
      simp only [Rep, Option.bind_some]
      refine ⟨l, (if (mx.getD ↑c).toNat = (lo.getD 0).toNat then a' else a'.add ((lo.getD 0).toNat * ie.size)), hl, by omega, ?_, by split <;> rfl⟩
      rcases ha with rfl | rfl
      · left
        split <;> simp_all [addr_add, Nat.add_assoc]
      · right; omega
  · rename_i e a len hu
    have key : ∀ {m : Nat}, knownA P st e a len m = true → ∃ id off ie l o c, a = some (id, off) ∧ P.info? e = some ie ∧ φ id = some l ∧ ie.size = l.sz ∧ v = .slice (some ⟨l.blk, o, none⟩) len c ∧ len ≤ c ∧
        l.base + off + c * l.sz = l.size ∧ (o = l.base + off ∨ c = 0) ∧ m ≤ c := by
      intro m hk
      unfold knownA at hk
      split at hk
      · rename_i id off
        split at hk
        · rename_i s cs e' g hs hb
          simp only [decide_eq_true_eq] at hk
          obtain ⟨rfl, hs0, hm⟩ := hk
          obtain ⟨ie, hie, rfl⟩ := run_sizeA hs
          obtain ⟨l, C, fz, hl, _, _, _, hfit, ⟨ie', hie', hsz⟩, _, _⟩ := hR.blk _ _ hb
          rw [hie] at hie'; simp at hie'; subst hie'
          simp only [Rep] at hv
          obtain ⟨l', o, c, hl', hn, hend, ho, rfl⟩ := hv
          rw [hl] at hl'; simp at hl'; subst hl'
          refine ⟨id, off, ie, l, o, c, rfl, hie, hl, hsz, rfl, hn, hend, ho, ?_⟩
          rcases hm with hm | hm
          · omega
          · have : m * ie.size ≤ c * ie.size := by rw [hsz] at hm ⊢; omega
            exact Nat.le_of_mul_le_mul_right this hs0
        · simp at hk
      · simp at hk
    split at h
    · split at h
      case isFalse => simp at h
      rename_i hc
      obtain ⟨h1, h2, h3⟩ := hc
      obtain ⟨id, off, ie, l, o, c, rfl, hie, hl, hsz, rfl, hn, hend, ho, hmc⟩ := key h3
      have hb := run_bounds (P := P) (isSlice := true) (len := len) (cap := c) (mx := none) w bl bh bm (by simp) h1 h2 (by simp; omega) (by simp)
      simp only [Option.getD_none, Int.toNat_natCast] at hb
      simp only [cutA, Option.bind_eq_some_iff] at h
      obtain ⟨s, hs, h⟩ := h
      obtain ⟨ie', hie', rfl⟩ := run_sizeA hs
      rw [hie] at hie'; simp at hie'; subst hie'
      simp only [reduceCtorEq, if_false, Option.bind_none, Option.some.injEq] at h
      subst h
      refine ⟨_, by
        simp only [Instr.sliceAt, Sem.run_bind, run_underlying' w hu, Result.andThen, Instr.slice, hb, run_sizeOf' w hie]
        rfl, ?_⟩
      simp only [Rep]
      generalize hL : (lo.getD 0).toNat = L at *
      generalize hH : (hi.getD ↑len).toNat = H at *
      have hLH : L ≤ H := by omega
      by_cases hcl : c = L
      · refine ⟨l, o, c - L, hl, by omega, ?_, Or.inr (by omega), by simp [hcl]⟩
        rw [hcl, Nat.sub_self, ← hend, hcl, hsz]; omega
      · have ho' : o = l.base + off := by omega
        refine ⟨l, o + L * ie.size, c - L, hl, by omega, ?_, Or.inl (by omega), by simp [hcl, addr_add]⟩
        rw [hsz, ← hend, show c = (c - L) + L by omega, Nat.add_mul, Nat.add_sub_cancel]; omega
    · rename_i m
      split at h
      case isFalse => simp at h
      rename_i hc
      obtain ⟨h1, hm0, h2, h3, h4, h5⟩ := hc
      obtain ⟨id, off, ie, l, o, c, rfl, hie, hl, hsz, rfl, hn, hend, ho, hmc⟩ := key h5
      have hb := run_bounds (P := P) (isSlice := true) (len := len) (cap := c) (mx := some m) w bl bh bm (fun _ => h1) h2 h3 (by simpa using h4) (by simp; omega)
      simp only [Option.getD_some] at hb
      simp only [cutA, Option.bind_eq_some_iff] at h
      obtain ⟨s, hs, h⟩ := h
      obtain ⟨ie', hie', rfl⟩ := run_sizeA hs
      rw [hie] at hie'; simp at hie'; subst hie'
      simp only [Option.some.injEq, Option.bind_some] at h
      subst h
      have ho' : o = l.base + off := by omega
      subst ho'
      refine ⟨_, by
        simp only [Instr.sliceAt, Sem.run_bind, run_underlying' w hu, Result.andThen, Instr.slice, hb, run_sizeOf' w hie]
        rfl, ?_⟩
      simp only [Rep]
      refine ⟨l, _, hl, by omega, .inl rfl, ?_⟩
      split <;> simp [addr_add, Nat.add_assoc]
  · rename_i n e a hu
    split at h
    case isFalse => simp at h
    rename_i hc
    obtain ⟨h1, h2, h3, h4, h5⟩ := hc
    have hb := run_bounds (P := P) (isSlice := false) (len := n) (cap := n) w bl bh bm h1 h2 h3 h4 h5
    obtain ⟨id, off⟩ := a
    simp only [cutA, Option.bind_eq_some_iff] at h
    obtain ⟨s, hs, h⟩ := h
    obtain ⟨ie, hie, rfl⟩ := run_sizeA hs
    simp only [Option.some.injEq, Option.bind_some] at h
    subst h
    simp only [Rep] at hv
    obtain ⟨l, hl, rfl⟩ := hv
    refine ⟨_, by
      simp only [Instr.sliceAt, Sem.run_bind, run_underlying' w hu, Result.andThen, Instr.sureAddr, Sem.run_pure, hb, run_sizeOf' w hie]
      rfl, ?_⟩
    simp only [Rep]
    refine ⟨l, _, hl, by omega, .inl rfl, ?_⟩
    split <;> simp [addr_add, Nat.add_assoc]
  · simp at h
end
end Go.Ev
