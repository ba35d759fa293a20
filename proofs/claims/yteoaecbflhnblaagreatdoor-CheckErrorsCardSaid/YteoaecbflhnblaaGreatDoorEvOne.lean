/- An evaluator of the model's code on abstract values, and how abstract values lie in the model's world: definitions and the first lemmas. -/
import GoSem.Step
import Derived.Below
import Derived.CallsIn
import Derived.Laws.IdiomCopy
import Derived.Laws.Sem
import GoSem.Op.String
set_option linter.unusedVariables false
set_option linter.unusedSimpArgs false
/- The abstract values, the abstract state and the evaluator of the model's code, with no proof in sight: lemmas on it follow in the next texts. -/
namespace Go.Ev
noncomputable section

/-- Rows by number: index 0 at the root, odd ones to the left, even ones to the right. -/
inductive Trie (α : Type) where
  | leaf
  | node (l : Trie α) (v : Option α) (r : Trie α)

namespace Trie
variable {α : Type}
def get (t : Trie α) : Nat → Option α :=
  Trie.rec (motive := fun _ => Nat → Option α) (fun _ => none)
    (fun _ v _ ihl ihr i => Bool.rec (motive := fun _ => Option α) (Bool.rec (motive := fun _ => Option α) (ihr (Nat.sub (Nat.div i 2) 1)) (ihl (Nat.div i 2)) (Nat.beq (Nat.mod i 2) 1)) v (Nat.beq i 0)) t
/-- A row with one element: a way that is new. -/
def one (f : Nat) (v : Option α) : Nat → Trie α :=
  Nat.rec (motive := fun _ => Nat → Trie α) (fun _ => .leaf)
    (fun _ ih i => Bool.rec (motive := fun _ => Trie α) (Bool.rec (motive := fun _ => Trie α) (.node .leaf none (ih (Nat.sub (Nat.div i 2) 1))) (.node (ih (Nat.div i 2)) none .leaf) (Nat.beq (Nat.mod i 2) 1)) (.node .leaf v .leaf) (Nat.beq i 0)) f
def setR (t : Trie α) (v : Option α) : Nat → Trie α :=
  Trie.rec (motive := fun _ => Nat → Trie α) (fun i => one (Nat.succ i) v i)
    (fun l x r ihl ihr i => Bool.rec (motive := fun _ => Trie α) (Bool.rec (motive := fun _ => Trie α) (.node l x (ihr (Nat.sub (Nat.div i 2) 1))) (.node (ihl (Nat.div i 2)) x r) (Nat.beq (Nat.mod i 2) 1)) (.node l v r) (Nat.beq i 0)) t
def set (t : Trie α) (i : Nat) (v : Option α) : Trie α := setR t v i
/-- The elements of a list, from an index on. -/
def putAll (t : Trie α) : Nat → List α → Trie α
  | _, [] => t
  | i, x :: xs => putAll (t.set i (some x)) (i + 1) xs
def ofList (l : List α) : Trie α := putAll .leaf 0 l
end Trie

/-- What is known of the room behind a slice: none; nothing; so much as the token says, while it lives. -/
inductive Tok where
  | full
  | dead
  | live (t : Nat)

def Tok.owned : Tok → Bool
  | .dead => false
  | _ => true

inductive AVal where
  | bool (b : Bool)
  | int (k : IntKind) (n : Int)
  | str (len n : Nat)
  | nilp
  | ptr (name off : Nat)
  | eptr (cells : List AVal) (j : Nat)
  | optr (name : Nat)
  | nils
  | vec (sz : Nat) (arr : Trie (List AVal)) (off len : Nat) (tok : Tok)
  | nilm
  | map (name : Nat)
  | func (fn : Fn) (first captured : List AVal)
  | yieldf (name : Nat)
  | nilFunc
  | iface (t : Nat) (v : AVal)
  | nilIface
  | agg (cells : List AVal)
  | tuple (vs : List AVal)

def AVal.cells : AVal → List AVal
  | .agg l => l
  | v => [v]
def AVal.oneCell : AVal → Bool
  | .agg _ | .tuple _ => false
  | _ => true
def AVal.notTuple : AVal → Bool
  | .tuple _ => false
  | _ => true

/-- A string's bytes as a number, the first byte highest. -/
def encB : List UInt8 → Nat → Nat
  | [], n => n
  | c :: cs, n => encB cs (n * 256 + c.toNat)
def encS (s : ByteArray) : Nat := encB s.data.toList 0

/-- How a loop's body was left. -/
inductive Jump where
  | ret
  | exit (id : Nat)

inductive AObj where
  | cells (l : List AVal)
  | ro (l : List AVal)
  | map (es : List (AVal × AVal × Nat)) (clock : Nat)
  | iter (m : Option Nat) (since : Nat) (seen : List Nat) (last : Nat)
  | tok
  | loop (tmps : Trie AVal) (n : Nat) (params : List Nat) (assign body : Code) (defers : Nat) (pending : Option Jump) (ready : Bool)
  | defer

structure St where
  next : Nat
  heap : Trie AObj

structure Fr where
  tmps : Trie AVal
  n : Nat
  round : Option Nat
  defers : List Nat
  globs : Nat

inductive AExit where
  | normal
  | exit (id : Nat)
  | ret

inductive Out where
  | val (v : AVal)
  | call (f : FuncId) (args : List AVal)
  | round (l : Nat) (args : List AVal)

/-! ### Constants -/
def absL (abs : Value → Option AVal) : List Value → Option (List AVal)
  | [] => some []
  | v :: vs => do let x ← abs v; let xs ← absL abs vs; some (x :: xs)
/-- A constant's abstract value. (The number: how deep structs may go.) -/
def absV : Nat → Value → Option AVal
  | _, .bool b => some (.bool b)
  | _, .int k n => some (.int k n)
  | _, .string s => some (.str s.size (encS s))
  | _, .pointer none => some .nilp
  | _, .slice none 0 0 => some .nils
  | _, .map none => some .nilm
  | _, .nilFunc => some .nilFunc
  | _, .nilIface => some .nilIface
  | n + 1, .agg cs => do let l ← absL (absV n) cs.toList; if l.all AVal.oneCell then some (.agg l) else none
  | _, _ => none

def evGlobal (fr : Fr) (g : Nat) : Option AVal := bif Nat.blt g fr.globs then some (.ptr g 0) else none
def evFunc (f : Nat) : Option AVal := some (.func (.func f) [] [])
def ev (fr : Fr) (x : Operand) : Option AVal :=
  Operand.rec (motive := fun _ => Option AVal) (fun t => fr.tmps.get t) (fun v => absV 1 v) (fun g => evGlobal fr g) evFunc x
def evL (fr : Fr) : List Operand → Option (List AVal)
  | [] => some []
  | x :: xs => do let a ← ev fr x; let as ← evL fr xs; some (a :: as)

def Fr.put (fr : Fr) (dst : Option Nat) (v : AVal) : Option Fr :=
  match dst with
  | none => some fr
  | some d =>
    match fr with
    | ⟨t, n, r, ds, g⟩ => bif Nat.blt d n then some ⟨t.set d (some v), n, r, ds, g⟩ else none
theorem Fr.put_some (fr : Fr) (d : Nat) (v : AVal) : fr.put (some d) v = bif Nat.blt d fr.n then some { fr with tmps := fr.tmps.set d (some v) } else none := by cases fr; rfl

/-! ### Types -/
def tInfo (P : Program) (t : TypeId) : Option TypeInfo := P.info? t
def tDesc (P : Program) (t : TypeId) : Option TypeDesc := P.underlying t
def tSize (P : Program) (t : TypeId) : Option Nat := (P.info? t).map (·.size)
def descAgg : TypeDesc → Bool
  | .struct _ | .array _ _ => true
  | _ => false
def tAgg (P : Program) (t : TypeId) : Option Bool := (P.underlying t).map descAgg
def tZero (P : Program) (t : TypeId) : Option AVal := do
  let i ← P.info? t
  let z ← i.zero
  absV 1 z
def tElem (P : Program) (t : TypeId) : Option TypeId :=
  match P.underlying t with
  | some (.slice e) => some e
  | _ => none
def tFields (P : Program) (t : TypeId) : Option (Array Field) :=
  match P.underlying t with
  | some (.struct fs) => some fs
  | _ => none

/-- A part of a row of cells. -/
def aPart (P : Program) (t : TypeId) (cells : List AVal) (off : Nat) : Option AVal := do
  let a ← tAgg P t
  let n ← tSize P t
  if a then
    if off + n ≤ cells.length then some (.agg ((cells.drop off).take n)) else none
  else cells[off]?

/-! ### Memory -/
def St.alloc (s : St) (o : AObj) : Nat × St := (s.next, { next := s.next + 1, heap := s.heap.set s.next (some o) })
def St.put (s : St) (name : Nat) (o : Option AObj) : St :=
  match s with
  | ⟨n, h⟩ => ⟨n, h.set name o⟩
theorem St.put_eq (s : St) (name : Nat) (o : Option AObj) : s.put name o = { s with heap := s.heap.set name o } := by cases s; rfl
def St.cells (s : St) (name : Nat) : Option (List AVal) :=
  match s.heap.get name with
  | some (.cells l) => some l
  | _ => none
def St.reads (s : St) (name : Nat) : Option (List AVal) :=
  match s.heap.get name with
  | some (.cells l) | some (.ro l) => some l
  | _ => none

def aLoad (P : Program) (t : TypeId) (s : St) : AVal → Option AVal
  | .ptr name off => do let l ← s.reads name; aPart P t l off
  | .eptr l j => aPart P t l j
  | _ => none
def putCells : List AVal → Nat → List AVal → List AVal
  | l, _, [] => l
  | l, off, x :: xs => putCells (l.set off x) (off + 1) xs
def aStore (P : Program) (t : TypeId) (s : St) (a v : AVal) : Option St :=
  match a with
  | .ptr name off => do
    let l ← s.cells name
    let n ← tSize P t
    let cs := v.cells
    if cs.length = n ∧ off + n ≤ l.length ∧ v.notTuple = true then some (s.put name (some (.cells (putCells l off cs)))) else none
  | _ => none

/-- Parts laid over a row of zeros. -/
def aFill (place : Nat → Option (Nat × Nat)) (cells : List AVal) : List (Nat × AVal) → Option (List AVal)
  | [] => some cells
  | (i, v) :: rest =>
    match place i with
    | none => none
    | some (off, size) =>
      if v.cells.length = size ∧ off + size ≤ cells.length ∧ v.notTuple = true then aFill place (putCells cells off v.cells) rest else none
def evParts (fr : Fr) : List (Nat × Operand) → Option (List (Nat × AVal))
  | [] => some []
  | (i, x) :: xs => do let a ← ev fr x; let as ← evParts fr xs; some ((i, a) :: as)
def aPlace (P : Program) (f : Field) : Option (Nat × Nat) := (tSize P f.type).map fun n => (f.offset, n)
def aPlaces (P : Program) (fs : Array Field) : Option (List (Nat × Nat)) := fs.toList.mapM (aPlace P)
def aBuild (P : Program) (t : TypeId) (parts : List (Nat × AVal)) : Option AVal := do
  let z ← tZero P t
  let fs ← tFields P t
  let places ← aPlaces P fs
  let cells ← aFill (fun i => places[i]?) z.cells parts
  some (.agg cells)
/-- A row cut into elements of so many cells. -/
def chunks : Nat → Nat → List AVal → List (List AVal)
  | 0, _, _ => []
  | n + 1, sz, l => l.take sz :: chunks n sz (l.drop sz)
def zeros : Nat → List AVal → List AVal
  | 0, _ => []
  | n + 1, z => z ++ zeros n z
def aBuildSlice (P : Program) (t : TypeId) (len : Nat) (parts : List (Nat × AVal)) : Option AVal := do
  let e ← tElem P t
  let size ← tSize P e
  let z ← tZero P e
  if len * size > 2 ^ 24 ∨ size = 0 ∨ z.cells.length ≠ size ∨ z.notTuple = false then none else
  let cells ← aFill (fun i => some (i * size, size)) (zeros len z.cells) parts
  some (.vec size (Trie.ofList (chunks len size cells)) 0 len .full)

/-! ### Operators -/
def strLt (la na lb nb : Nat) : Bool :=
  let m := min la lb
  let pa := na >>> (8 * (la - m))
  let pb := nb >>> (8 * (lb - m))
  Nat.blt pa pb || (Nat.beq pa pb && Nat.blt la lb)
def aEqual (P : Program) (t : TypeId) : AVal → AVal → Option Bool
  | .bool a, .bool b => match P.underlying t with | some .bool => some (a == b) | _ => none
  | .nilp, .nilp => match P.underlying t with | some (.pointer _) => some true | _ => none
  | .nilp, .ptr _ _ | .nilp, .eptr _ _ | .nilp, .optr _ | .ptr _ _, .nilp | .eptr _ _, .nilp | .optr _, .nilp => match P.underlying t with | some (.pointer _) => some false | _ => none
  | .nils, .nils => match P.underlying t with | some (.slice _) => some true | _ => none
  | .nils, .vec .. | .vec .., .nils => match P.underlying t with | some (.slice _) => some false | _ => none
  | .nilm, .nilm => match P.underlying t with | some (.map _ _) => some true | _ => none
  | .nilm, .map _ | .map _, .nilm => match P.underlying t with | some (.map _ _) => some false | _ => none
  | .nilFunc, .nilFunc => match P.underlying t with | some (.func _ _ _) => some true | _ => none
  | .nilFunc, .func .. | .func .., .nilFunc => match P.underlying t with | some (.func _ _ _) => some false | _ => none
  | .nilIface, .iface _ _ | .iface _ _, .nilIface => match P.underlying t with | some (.interface _) => some false | _ => none
  | _, _ => none
/-- Two pointers: into one named block; or two that are only compared. -/
def aEqPtr (P : Program) (t : TypeId) (x y : AVal) : Option Bool :=
  match P.underlying t with
  | some (.pointer e) =>
    match tSize P e with
    | some (_ + 1) =>
      match x, y with
      | .ptr n off, .ptr m off' => if n = m then some (Nat.beq off off') else none
      | .optr n, .optr m => some (Nat.beq n m)
      | _, _ => none
    | _ => none
  | _ => none
def isConstOp : Operand → Bool
  | .const _ => true
  | _ => false
def aEql (P : Program) (t : TypeId) (x y : Operand) (a b : AVal) : Option Bool :=
  match a, b with
  | .nilIface, .nilIface => if isConstOp x || isConstOp y then (match P.underlying t with | some (.interface _) => some true | _ => none) else none
  | .iface tx v, .iface ty u =>
    match P.underlying t with
    | some (.interface _) =>
      if tx ≠ ty then some false else
      match P.info? tx with
      | some i => if i.comparable then aEqPtr P tx v u else none
      | none => none
    | _ => none
  | .ptr n o, .ptr m o' => aEqPtr P t (.ptr n o) (.ptr m o')
  | .optr n, .optr m => aEqPtr P t (.optr n) (.optr m)
  | a, b => aEqual P t a b
def aIntOp (op : BinOp) (k : IntKind) (a b : Int) : Option AVal :=
  match op with
  | .add => some (.int k (k.wrap (a + b)))
  | .sub => some (.int k (k.wrap (a - b)))
  | .mul => some (.int k (k.wrap (a * b)))
  | .quo => if b = 0 then none else some (.int k (k.wrap (a.tdiv b)))
  | .rem => if b = 0 then none else some (.int k (a.tmod b))
  | .eql => some (.bool (a == b))
  | .neq => some (.bool (a != b))
  | .lss => some (.bool (a < b))
  | .leq => some (.bool (a ≤ b))
  | .gtr => some (.bool (a > b))
  | .geq => some (.bool (a ≥ b))
  | _ => none
def aStrOp (op : BinOp) (la na lb nb : Nat) : Option AVal :=
  match op with
  | .add => if la + lb ≤ 2 ^ 62 then some (.str (la + lb) (na <<< (8 * lb) + nb)) else none
  | .eql => some (.bool (Nat.beq la lb && Nat.beq na nb))
  | .neq => some (.bool (!(Nat.beq la lb && Nat.beq na nb)))
  | .lss => some (.bool (strLt la na lb nb))
  | .leq => some (.bool (strLt la na lb nb || (Nat.beq la lb && Nat.beq na nb)))
  | .gtr => some (.bool (!(strLt la na lb nb || (Nat.beq la lb && Nat.beq na nb))))
  | .geq => some (.bool (!(strLt la na lb nb)))
  | _ => none
def aBin (P : Program) (op : BinOp) (t : TypeId) (x y : Operand) (a b : AVal) : Option AVal :=
  match a, b with
  | .int k m, .int k' n => if k = k' then aIntOp op k m n else none
  | .str la na, .str lb nb => aStrOp op la na lb nb
  | a, b =>
    match op with
    | .eql => (aEql P t x y a b).map .bool
    | .neq => (aEql P t x y a b).map fun r => .bool (!r)
    | _ => none
def aUn : UnOp → AVal → Option AVal
  | .neg, .int k n => some (.int k (k.wrap (0 - n)))
  | .not, .bool b => some (.bool !b)
  | _, _ => none

/-! ### Slices and strings -/
def aIdx : AVal → Option Int
  | .int _ n => some n
  | _ => none
def inBound (n : Int) (y : Nat) : Option Nat := if 0 ≤ n ∧ n ≤ y then some n.toNat else none
def evO (fr : Fr) : Option Operand → Option (Option AVal)
  | none => some none
  | some x => (ev fr x).map some
def aHi (hi : Option AVal) (len : Nat) : Option Nat :=
  match hi with
  | none => some len
  | some v => (aIdx v).bind fun i => inBound i len
def aLo (lo : Option AVal) (h : Nat) : Option Nat :=
  match lo with
  | none => some 0
  | some v => (aIdx v).bind fun i => inBound i h
def aSlice (P : Program) (t : TypeId) (x : AVal) (lo hi mx : Option AVal) : Option AVal :=
  match P.underlying t, x with
  | some .string, .str len n =>
    match mx with
    | some _ => none
    | none =>
      (aHi hi len).bind fun h => (aLo lo h).bind fun l => some (.str (h - l) ((n >>> (8 * (len - h))) % 2 ^ (8 * (h - l))))
  | some (.slice e), .vec sz arr off len tok =>
    match tSize P e with
    | none => none
    | some size =>
      if size ≠ sz then none else
      match mx with
      | some v =>
        match hi with
        | none => none
        | some v2 => (aHi (some v) len).bind fun m => (aHi (some v2) m).bind fun h => (aLo lo h).bind fun l =>
          if h = m ∧ (h = l ∨ tok.owned = true) then some (.vec sz arr (off + l) (h - l) .full) else none
      | none =>
        (aHi hi len).bind fun h => (aLo lo h).bind fun l => some (.vec sz arr (off + l) (h - l) (if h = len then tok else .dead))
  | some (.slice e), .nils =>
    match tSize P e with
    | none => none
    | some _ =>
    match mx with
    | none => (aHi hi 0).bind fun h => (aLo lo h).bind fun _ => some .nils
    | some v => match hi with
      | none => none
      | some v2 => (aHi (some v) 0).bind fun m => (aHi (some v2) m).bind fun h => (aLo lo h).bind fun _ => some .nils
  | _, _ => none
def aIndexAddr (P : Program) (t : TypeId) (x i : AVal) : Option AVal :=
  match P.underlying t, x, i with
  | some (.slice e), .vec sz arr off len _, .int _ n => do
    let size ← tSize P e
    if size = sz ∧ 0 ≤ n ∧ n < len then do let cells ← arr.get (off + n.toNat); some (.eptr cells 0) else none
  | _, _, _ => none
def aIndex (P : Program) (t : TypeId) (x i : AVal) : Option AVal :=
  match P.underlying t, x, i with
  | some .string, .str len m, .int _ n => if 0 ≤ n ∧ n < len then some (.int .u8 ((m >>> (8 * (len - 1 - n.toNat))) % 256 : Nat)) else none
  | _, _, _ => none
def aFieldAddr (P : Program) (t : TypeId) (x : AVal) (f : Nat) : Option AVal := do
  let fs ← tFields P t
  let fd ← fs[f]?
  let n ← tSize P fd.type
  if n = 0 then none else
  match x with
  | .ptr name off => some (.ptr name (off + fd.offset))
  | .eptr cells j => some (.eptr cells (j + fd.offset))
  | _ => none
def aField (P : Program) (t : TypeId) (x : AVal) (f : Nat) : Option AVal := do
  let fs ← tFields P t
  let fd ← fs[f]?
  match x with
  | .agg cs => aPart P fd.type cs fd.offset
  | _ => none

/-! ### Maps -/
/-- Are two keys the same? (Whole numbers, strings, bools alone.) -/
def keySame (P : Program) (t : TypeId) : AVal → AVal → Option Bool
  | .int k a, .int k' b => match P.underlying t with | some (.int _) => if k = k' then some (a == b) else none | _ => none
  | .str la na, .str lb nb => match P.underlying t with | some .string => some (Nat.beq la lb && Nat.beq na nb) | _ => none
  | .bool a, .bool b => match P.underlying t with | some .bool => some (a == b) | _ => none
  | _, _ => none
def aFind (P : Program) (t : TypeId) (k : AVal) : List (AVal × AVal × Nat) → Option (Option (AVal × Nat))
  | [] => some none
  | (k', v, n) :: es => do
    let r ← keySame P t k k'
    if r then some (some (v, n)) else aFind P t k es
/-- The entry of a key that is there, with another value. -/
def aSetEntry (P : Program) (t : TypeId) (k v : AVal) : List (AVal × AVal × Nat) → Option (List (AVal × AVal × Nat))
  | [] => none
  | (k', v', n) :: es => do
    let r ← keySame P t k k'
    if r then some ((k, v, n) :: es) else do let es' ← aSetEntry P t k v es; some ((k', v', n) :: es')
def aDropEntry (P : Program) (t : TypeId) (k : AVal) : List (AVal × AVal × Nat) → Option (List (AVal × AVal × Nat))
  | [] => some []
  | (k', v', n) :: es => do
    let r ← keySame P t k k'
    if r then some es else do let es' ← aDropEntry P t k es; some ((k', v', n) :: es')
def aSetBorn (born : Nat) (v : AVal) : List (AVal × AVal × Nat) → Option (List (AVal × AVal × Nat))
  | [] => none
  | (k', v', n) :: es => if n = born then some ((k', v, n) :: es) else do let es' ← aSetBorn born v es; some ((k', v', n) :: es')
def aOfBorn (born : Nat) : List (AVal × AVal × Nat) → Option (AVal × AVal)
  | [] => none
  | (k', v', n) :: es => if n = born then some (k', v') else aOfBorn born es
def St.entries (s : St) (name : Nat) : Option (List (AVal × AVal × Nat) × Nat) :=
  match s.heap.get name with
  | some (.map es clock) => some (es, clock)
  | _ => none
def tMap (P : Program) (t : TypeId) : Option (TypeId × TypeId) :=
  match P.underlying t with
  | some (.map k e) => some (k, e)
  | _ => none
def keyKind (P : Program) (t : TypeId) (k : AVal) : Bool :=
  match P.underlying t, k with
  | some (.int _), .int _ _ => true
  | some .string, .str _ _ => true
  | some .bool, .bool _ => true
  | _, _ => false
def aLookup (P : Program) (t : TypeId) (s : St) (m k : AVal) (ok : Bool) : Option AVal := do
  let (kt, et) ← tMap P t
  if keyKind P kt k = false then none else
  let es ← match m with | .nilm => some [] | .map name => (s.entries name).map (·.1) | _ => none
  let z ← tZero P et
  let r ← aFind P kt k es
  match r with
  | some (v, _) => some (if ok then .tuple [v, .bool true] else v)
  | none => some (if ok then .tuple [z, .bool false] else z)
def aMapPut (P : Program) (t : TypeId) (s : St) (m k v : AVal) : Option St :=
  match m with
  | .map name => do
    let (kt, _) ← tMap P t
    if keyKind P kt k = false then none else
    let (es, clock) ← s.entries name
    match ← aFind P kt k es with
    | some _ => do let es' ← aSetEntry P kt k v es; some (s.put name (some (.map es' clock)))
    | none => some (s.put name (some (.map (es ++ [(k, v, clock)]) (clock + 1))))
  | _ => none
def aMapEntry (P : Program) (t : TypeId) (s : St) (m k : AVal) : Option (AVal × St) :=
  match m with
  | .map name => do
    let (kt, et) ← tMap P t
    if keyKind P kt k = false then none else
    let (es, clock) ← s.entries name
    match ← aFind P kt k es with
    | some (v, n) => some (.tuple [v, .int .i64 n], s)
    | none => do
      let z ← tZero P et
      some (.tuple [z, .int .i64 clock], s.put name (some (.map (es ++ [(k, z, clock)]) (clock + 1))))
  | _ => none
def aEntryStore (s : St) (m stamp v : AVal) : Option St :=
  match m, stamp with
  | .map name, .int _ n => do
    let (es, clock) ← s.entries name
    if n < 0 then none else
    let es' ← aSetBorn n.toNat v es
    some (s.put name (some (.map es' clock)))
  | _, _ => none
def aDelete (P : Program) (t : TypeId) (s : St) (m k : AVal) : Option St :=
  match m with
  | .map name => do
    let (kt, _) ← tMap P t
    if keyKind P kt k = false then none else
    let (es, clock) ← s.entries name
    let es' ← aDropEntry P kt k es
    some (s.put name (some (.map es' clock)))
  | _ => none
def aRange (P : Program) (t : TypeId) (s : St) (x : AVal) : Option (AVal × St) :=
  match P.underlying t, x with
  | some (.map _ _), .nilm => let (n, s) := s.alloc (.iter none 0 [] 0); some (.ptr n 0, s)
  | some (.map _ _), .map m => do
    let (_, clock) ← s.entries m
    let (n, s) := s.alloc (.iter (some m) clock [] clock)
    some (.ptr n 0, s)
  | _, _ => none
def aNext (s : St) (it : AVal) (isString : Bool) : Option (AVal × St) :=
  match it, isString with
  | .ptr r 0, false =>
    match s.heap.get r with
    | some (.iter none _ _ _) => some (.tuple [.bool false], s)
    | some (.iter (some m) since seen _) => do
      let (es, clock) ← s.entries m
      let left := es.filter fun e => !seen.contains e.2.2
      match left with
      | [] => if seen.isEmpty || es.isEmpty || es.any (fun e => seen.contains e.2.2) then some (.tuple [.bool false], s) else none
      | [(k, v, n)] =>
        if n < since ∧ (seen.isEmpty || es.any (fun e => seen.contains e.2.2)) ∧ (seen ++ [n]).all (fun x => Nat.blt x clock) = true then some (.tuple [.bool true, k, v], s.put r (some (.iter (some m) since (seen ++ [n]) clock))) else none
      | _ => none
    | _ => none
  | _, _ => none
def aEntry (s : St) (it : AVal) : Option AVal :=
  match it with
  | .ptr r 0 =>
    match s.heap.get r with
    | some (.iter (some m) _ seen last) => do
      let stamp ← seen.getLast?
      let (es, clock) ← s.entries m
      if clock = last then do let (k, v) ← aOfBorn stamp es; some (.tuple [k, v]) else none
    | _ => none
  | _ => none

/-! ### Builtins -/
def aLen (P : Program) (t : TypeId) (s : St) : AVal → Option Nat
  | .str n _ => match P.underlying t with | some .string => some n | _ => none
  | .nils => match P.underlying t with | some (.slice _) => some 0 | _ => none
  | .vec _ _ _ n _ => match P.underlying t with | some (.slice _) => some n | _ => none
  | .nilm => match P.underlying t with | some (.map _ _) => some 0 | _ => none
  | .map name => match P.underlying t with | some (.map _ _) => (s.entries name).map (·.1.length) | _ => none
  | _ => none
/-- The elements of a row, as lists of cells. -/
def elems (arr : Trie (List AVal)) : Nat → Nat → Option (List (List AVal))
  | _, 0 => some []
  | i, n + 1 => do let x ← arr.get i; let xs ← elems arr (i + 1) n; some (x :: xs)
/-- A string's bytes as elements, the last first. -/
def strElems (m : Nat) : Nat → Nat → List (List AVal)
  | _, 0 => []
  | len, n + 1 => [.int .u8 ((m >>> (8 * n)) % 256 : Nat)] :: strElems m len n
def takeTok (s : St) : Option (Nat × St) := some (s.alloc .tok)
def isRowDesc : TypeDesc → Bool
  | .slice _ | .string => true
  | _ => false
def aElemsOf (size : Nat) : AVal → Option (List (List AVal))
  | .nils => some []
  | .vec sz arr off len _ => if sz = size then elems arr off len else none
  | .str len m => if size = 1 then some (strElems m len len) else none
  | _ => none
/-- A slice with elements behind it. -/
def aGrow (bytes size : Nat) (s : St) (x : AVal) (ys : List (List AVal)) : Option (AVal × St) :=
  match x with
  | .nils =>
    match ys with
    | [] => some (.nils, s)
    | _ :: _ =>
      if 4 * ys.length * (bytes + 1) ≤ 2 ^ 47 then
        some (.vec size (Trie.ofList ys) 0 ys.length (.live s.next), (s.alloc .tok).2)
      else none
  | .vec sz arr off len tok =>
    if sz ≠ size then none else
    match ys with
    | [] => some (.vec sz arr off len tok, s)
    | _ :: _ =>
      if 4 * (len + ys.length) * (bytes + 1) ≤ 2 ^ 47 then
        match tok with
        | .dead => none
        | .full => some (.vec size (arr.putAll (off + len) ys) off (len + ys.length) (.live s.next), (s.alloc .tok).2)
        | .live t0 =>
          match s.heap.get t0 with
          | some .tok => some (.vec size (arr.putAll (off + len) ys) off (len + ys.length) (.live s.next), ((s.put t0 none).alloc .tok).2)
          | _ => none
      else none
  | _ => none
def aAppend (P : Program) (ts : Array TypeId) (s : St) (x y : AVal) : Option (AVal × St) :=
  match ts[0]?, ts[1]? with
  | some t0, some t1 =>
    match tElem P t0, P.underlying t1 with
    | some e, some d1 =>
      match P.info? e, tZero P e, aElemsOf ((tSize P e).getD 0) y with
      | some i, some z, some ys =>
        if isRowDesc d1 = true ∧ z.cells.length = i.size ∧ i.size ≠ 0 then aGrow i.bytes i.size s x ys else none
      | _, _, _ => none
    | _, _ => none
  | _, _ => none
def aBuiltin (P : Program) (b : Builtin) (ts : Array TypeId) (s : St) (args : List AVal) : Option (AVal × St) :=
  match b, args with
  | .append, [x, y] => aAppend P ts s x y
  | .len, [x] => do let t ← ts[0]?; let n ← aLen P t s x; some (.int .i64 n, s)
  | .min, [.int k a, .int _ b] => some (.int k (if b < a then b else a), s)
  | _, _ => none
def bytesOf (arr : Trie (List AVal)) : Nat → Nat → Nat → Option Nat
  | _, 0, acc => some acc
  | i, n + 1, acc =>
    match arr.get i with
    | some [.int .u8 c] => if 0 ≤ c ∧ c < 256 then bytesOf arr (i + 1) n (acc * 256 + c.toNat) else none
    | _ => none
def aConvert (P : Program) (src dst : TypeId) (s : St) (x : AVal) : Option (AVal × St) :=
  match P.underlying src, P.underlying dst, x with
  | some _, some (.int k), .int _ n => some (.int k (k.wrap n), s)
  | some _, some .string, .str l n => some (.str l n, s)
  | some _, some .string, .int _ n => if 0 ≤ n ∧ n < 128 then some (.str 1 n.toNat, s) else none
  | some _, some (.slice e), .str len m =>
    match P.underlying e with
    | some (.int .u8) =>
      let (t, s) := s.alloc .tok
      some (.vec 1 (Trie.ofList (strElems m len len)) 0 len (.live t), s)
    | _ => none
  | some (.slice _), some (.slice e), .vec sz arr off len tok =>
    match P.underlying e with
    | some (.int .u8) => if src = dst ∧ len ≠ 0 ∧ sz ≠ 0 ∧ tok.owned = true then some (.vec sz arr off len tok, s) else none
    | _ => none
  | some (.slice e), some .string, x =>
    match P.underlying e, x with
    | some (.int .u8), .nils => some (.str 0 0, s)
    | some (.int .u8), .vec 1 arr off len _ => do let m ← bytesOf arr off len 0; some (.str len m, s)
    | _, _ => none
  | _, _, _ => none
def aMakeSlice (P : Program) (t : TypeId) (l c : AVal) : Option AVal :=
  match l, c with
  | .int _ l, .int _ c => do
    let e ← tElem P t
    let i ← P.info? e
    let z ← tZero P e
    if 0 ≤ l ∧ l = c ∧ l < 2 ^ 30 ∧ i.bytes < 2 ^ 10 ∧ z.cells.length = i.size ∧ i.size ≠ 0 ∧ z.notTuple = true then some (.vec i.size (Trie.ofList (List.replicate l.toNat z.cells)) 0 l.toNat .full) else none
  | _, _ => none
def aTypeAssert (P : Program) (x : AVal) (asserted : TypeId) (ok : Bool) : Option AVal :=
  match P.underlying asserted with
  | some (.interface _) => none
  | some _ =>
    match x with
    | .nilIface => if ok then do let z ← tZero P asserted; some (.tuple [z, .bool false]) else none
    | .iface t v => if t = asserted then some (if ok then .tuple [v, .bool true] else v) else
        if ok then do let z ← tZero P asserted; some (.tuple [z, .bool false]) else none
    | _ => none
  | none => none

/-- A function with a body. -/
def hasBody (P : Program) (f : FuncId) : Bool :=
  match P.funcs[f]? with
  | some fn => fn.body.isSome && fn.name != "runtime.NumGoroutine"
  | none => false
def aCallValue (P : Program) (f : AVal) (args : List AVal) : Option Out :=
  match f with
  | .func (.func g) first captured => if hasBody P g then some (.call g (first ++ args ++ captured)) else none
  | .yieldf l => some (.round l args)
  | _ => none

def val (s : St) (v : Option AVal) : Option (Out × St) := v.map fun v => (.val v, s)
/-- What follows a value that may be lacking. -/
def ob {α β : Type} (x : Option α) (f : α → Option β) : Option β := Option.rec (motive := fun _ => Option β) none f x
theorem ob_eq {α β : Type} (x : Option α) (f : α → Option β) : ob x f = x.bind f := by cases x <;> rfl

/-- One operation, as it is told. -/
def evOpM (P : Program) (fr : Fr) (o : Oper) (s : St) : Option (Out × St) :=
  match o.op with
  | .move x | .assign x => val s (ev fr x)
  | .pick c a b => do
    match ← ev fr c with
    | .bool t => val s (if t then ev fr a else ev fr b)
    | _ => none
  | .alloc e => do
    let z ← tZero P e
    if z.notTuple then
      let (n, s) := s.alloc (.cells z.cells)
      some (.val (.ptr n 0), s)
    else none
  | .box _ x => do
    let v ← ev fr x
    if v.notTuple then
      let (n, s) := s.alloc (.cells v.cells)
      some (.val (.ptr n 0), s)
    else none
  | .build t ps => do let l ← evParts fr ps.toList; val s (aBuild P t l)
  | .buildSlice t n ps => do let l ← evParts fr ps.toList; val s (aBuildSlice P t n l)
  | .load t a => do let p ← ev fr a; val s (aLoad P t s p)
  | .store t a x => do let p ← ev fr a; let v ← ev fr x; let s ← aStore P t s p v; some (.val (.tuple []), s)
  | .nilCheck x => do
    let v ← ev fr x
    match v with
    | .ptr _ _ | .eptr _ _ | .func (.func _) _ _ | .yieldf _ | .iface _ _ => some (.val v, s)
    | _ => none
  | .binOp op t x y _ => do let a ← ev fr x; let b ← ev fr y; val s (aBin P op t x y a b)
  | .unOp op _ x => do let a ← ev fr x; val s (aUn op a)
  | .convert src dst x => do let a ← ev fr x; let (v, s) ← aConvert P src dst s a; some (.val v, s)
  | .makeInterface t x => do
    let a ← ev fr x
    match P.underlying t with
    | some (.interface _) => none
    | some _ => some (.val (.iface t a), s)
    | none => none
  | .makeFunc (.func f) first captured => do let a ← evL fr first.toList; let b ← evL fr captured.toList; some (.val (.func (.func f) a b), s)
  | .makeMap t none => match tMap P t with | some _ => let (n, s) := s.alloc (.map [] 0); some (.val (.map n), s) | none => none
  | .range t x => do let a ← ev fr x; let (v, s) ← aRange P t s a; some (.val v, s)
  | .next it str => do let a ← ev fr it; let (v, s) ← aNext s a str; some (.val v, s)
  | .entry it => do let a ← ev fr it; val s (aEntry s a)
  | .slice t x lo hi mx => do let a ← ev fr x; let l ← evO fr lo; let h ← evO fr hi; let m ← evO fr mx; val s (aSlice P t a l h m)
  | .fieldAddr t x f => do let a ← ev fr x; val s (aFieldAddr P t a f)
  | .field t x f => do let a ← ev fr x; val s (aField P t a f)
  | .indexAddr t x i => do let a ← ev fr x; let b ← ev fr i; val s (aIndexAddr P t a b)
  | .index t x i => do let a ← ev fr x; let b ← ev fr i; val s (aIndex P t a b)
  | .lookup t m k ok => do let a ← ev fr m; let b ← ev fr k; val s (aLookup P t s a b ok)
  | .mapUpdate t m k x | .insert t m k x => do let a ← ev fr m; let b ← ev fr k; let v ← ev fr x; let s ← aMapPut P t s a b v; some (.val (.tuple []), s)
  | .typeAssert x _ t ok => do let a ← ev fr x; val s (aTypeAssert P a t ok)
  | .extract t i => do
    match ← ev fr t with
    | .tuple vs => val s vs[i]?
    | _ => none
  | .call { callee := .value f, args, .. } => do let g ← ev fr f; let l ← evL fr args.toList; let out ← aCallValue P g l; some (out, s)
  | .call { callee := .builtin b, args, argTypes } => do let l ← evL fr args.toList; let (v, s) ← aBuiltin P b argTypes s l; some (.val v, s)
  | _ => none


def hMove (x : Operand) (_ : Program) (fr : Fr) (s : St) : Option (Out × St) := val s (ev fr x)
def hPick (c a b : Operand) (_ : Program) (fr : Fr) (s : St) : Option (Out × St) :=
    ob (ev fr c) fun q => match q with
    | .bool t => val s (if t then ev fr a else ev fr b)
    | _ => none
def hAlloc (e : TypeId) (P : Program) (_ : Fr) (s : St) : Option (Out × St) := do
    let z ← tZero P e
    if z.notTuple then
      let (n, s) := s.alloc (.cells z.cells)
      some (.val (.ptr n 0), s)
    else none
def hBox (x : Operand) (_ : Program) (fr : Fr) (s : St) : Option (Out × St) := do
    let v ← ev fr x
    if v.notTuple then
      let (n, s) := s.alloc (.cells v.cells)
      some (.val (.ptr n 0), s)
    else none
def hBuild (t : TypeId) (ps : Array (Nat × Operand)) (P : Program) (fr : Fr) (s : St) : Option (Out × St) := ob (evParts fr ps.toList) fun l => val s (aBuild P t l)
def hBuildSlice (t : TypeId) (n : Nat) (ps : Array (Nat × Operand)) (P : Program) (fr : Fr) (s : St) : Option (Out × St) := ob (evParts fr ps.toList) fun l => val s (aBuildSlice P t n l)
def hLoad (t : TypeId) (a : Operand) (P : Program) (fr : Fr) (s : St) : Option (Out × St) := ob (ev fr a) fun p => val s (aLoad P t s p)
def hStore (t : TypeId) (a x : Operand) (P : Program) (fr : Fr) (s : St) : Option (Out × St) := ob (ev fr a) fun p => ob (ev fr x) fun v => ob (aStore P t s p v) fun s => some (.val (.tuple []), s)
def hNilCheck (x : Operand) (_ : Program) (fr : Fr) (s : St) : Option (Out × St) := do
    let v ← ev fr x
    match v with
    | .ptr _ _ | .eptr _ _ | .func (.func _) _ _ | .yieldf _ | .iface _ _ => some (.val v, s)
    | _ => none
def hBin (op : BinOp) (t : TypeId) (x y : Operand) (P : Program) (fr : Fr) (s : St) : Option (Out × St) := ob (ev fr x) fun a => ob (ev fr y) fun b => val s (aBin P op t x y a b)
def hUn (op : UnOp) (x : Operand) (_ : Program) (fr : Fr) (s : St) : Option (Out × St) := ob (ev fr x) fun a => val s (aUn op a)
def hConvert (src dst : TypeId) (x : Operand) (P : Program) (fr : Fr) (s : St) : Option (Out × St) := ob (ev fr x) fun a => ob (aConvert P src dst s a) fun q => match q with | (v, s) => some (.val v, s)
def hMakeIface (t : TypeId) (x : Operand) (P : Program) (fr : Fr) (s : St) : Option (Out × St) := do
    let a ← ev fr x
    match P.underlying t with
    | some (.interface _) => none
    | some _ => some (.val (.iface t a), s)
    | none => none
def hMakeFunc (f : FuncId) (first captured : Array Operand) (_ : Program) (fr : Fr) (s : St) : Option (Out × St) := ob (evL fr first.toList) fun a => ob (evL fr captured.toList) fun b => some (.val (.func (.func f) a b), s)
def hMakeMap (t : TypeId) (P : Program) (_ : Fr) (s : St) : Option (Out × St) := match tMap P t with | some _ => let (n, s) := s.alloc (.map [] 0); some (.val (.map n), s) | none => none
def hRange (t : TypeId) (x : Operand) (P : Program) (fr : Fr) (s : St) : Option (Out × St) := ob (ev fr x) fun a => ob (aRange P t s a) fun q => match q with | (v, s) => some (.val v, s)
def hNext (it : Operand) (str : Bool) (_ : Program) (fr : Fr) (s : St) : Option (Out × St) := ob (ev fr it) fun a => ob (aNext s a str) fun q => match q with | (v, s) => some (.val v, s)
def hEntry (it : Operand) (_ : Program) (fr : Fr) (s : St) : Option (Out × St) := ob (ev fr it) fun a => val s (aEntry s a)
def hSlice (t : TypeId) (x : Operand) (lo hi mx : Option Operand) (P : Program) (fr : Fr) (s : St) : Option (Out × St) := ob (ev fr x) fun a => ob (evO fr lo) fun l => ob (evO fr hi) fun h => ob (evO fr mx) fun m => val s (aSlice P t a l h m)
def hFieldAddr (t : TypeId) (x : Operand) (f : Nat) (P : Program) (fr : Fr) (s : St) : Option (Out × St) := ob (ev fr x) fun a => val s (aFieldAddr P t a f)
def hField (t : TypeId) (x : Operand) (f : Nat) (P : Program) (fr : Fr) (s : St) : Option (Out × St) := ob (ev fr x) fun a => val s (aField P t a f)
def hIndexAddr (t : TypeId) (x i : Operand) (P : Program) (fr : Fr) (s : St) : Option (Out × St) := ob (ev fr x) fun a => ob (ev fr i) fun b => val s (aIndexAddr P t a b)
def hIndex (t : TypeId) (x i : Operand) (P : Program) (fr : Fr) (s : St) : Option (Out × St) := ob (ev fr x) fun a => ob (ev fr i) fun b => val s (aIndex P t a b)
def hLookup (t : TypeId) (m k : Operand) (ok : Bool) (P : Program) (fr : Fr) (s : St) : Option (Out × St) := ob (ev fr m) fun a => ob (ev fr k) fun b => val s (aLookup P t s a b ok)
def hMapPut (t : TypeId) (m k x : Operand) (P : Program) (fr : Fr) (s : St) : Option (Out × St) := ob (ev fr m) fun a => ob (ev fr k) fun b => ob (ev fr x) fun v => ob (aMapPut P t s a b v) fun s => some (.val (.tuple []), s)
def hTypeAssert (x : Operand) (t : TypeId) (ok : Bool) (P : Program) (fr : Fr) (s : St) : Option (Out × St) := ob (ev fr x) fun a => val s (aTypeAssert P a t ok)
def hExtract (t : Operand) (i : Nat) (_ : Program) (fr : Fr) (s : St) : Option (Out × St) :=
    ob (ev fr t) fun q => match q with
    | .tuple vs => val s vs[i]?
    | _ => none
def hCallV (f : Operand) (args : Array Operand) (P : Program) (fr : Fr) (s : St) : Option (Out × St) := ob (ev fr f) fun g => ob (evL fr args.toList) fun l => ob (aCallValue P g l) fun out => some (out, s)
def hCallB (b : Builtin) (args : Array Operand) (argTypes : Array TypeId) (P : Program) (fr : Fr) (s : St) : Option (Out × St) := ob (evL fr args.toList) fun l => ob (aBuiltin P b argTypes s l) fun q => match q with | (v, s) => some (.val v, s)
def hNone (_ : Program) (_ : Fr) (_ : St) : Option (Out × St) := none

def evOpH : Op → Program → Fr → St → Option (Out × St)
  | .move x | .assign x => hMove x
  | .pick c a b => hPick c a b
  | .alloc e => hAlloc e
  | .box _ x => hBox x
  | .build t ps => hBuild t ps
  | .buildSlice t n ps => hBuildSlice t n ps
  | .load t a => hLoad t a
  | .store t a x => hStore t a x
  | .nilCheck x => hNilCheck x
  | .binOp op t x y _ => hBin op t x y
  | .unOp op _ x => hUn op x
  | .convert src dst x => hConvert src dst x
  | .makeInterface t x => hMakeIface t x
  | .makeFunc (.func f) first captured => hMakeFunc f first captured
  | .makeMap t none => hMakeMap t
  | .range t x => hRange t x
  | .next it str => hNext it str
  | .entry it => hEntry it
  | .slice t x lo hi mx => hSlice t x lo hi mx
  | .fieldAddr t x f => hFieldAddr t x f
  | .field t x f => hField t x f
  | .indexAddr t x i => hIndexAddr t x i
  | .index t x i => hIndex t x i
  | .lookup t m k ok => hLookup t m k ok
  | .mapUpdate t m k x | .insert t m k x => hMapPut t m k x
  | .typeAssert x _ t ok => hTypeAssert x t ok
  | .extract t i => hExtract t i
  | .call { callee := .value f, args, .. } => hCallV f args
  | .call { callee := .builtin b, args, argTypes } => hCallB b args argTypes
  | _ => hNone
/-- One operation. -/
def evOp (P : Program) (fr : Fr) (o : Oper) (s : St) : Option (Out × St) := evOpH o.op P fr s
theorem evOp_eq (P : Program) (fr : Fr) (o : Oper) (s : St) : evOp P fr o s = evOpM P fr o s := by
  unfold evOp evOpM
  generalize o.op = op
  cases op
  case makeFunc fn a b => cases fn <;> simp only [evOpH, hMakeFunc, ob_eq] <;> rfl
  case makeMap t n => cases n <;> rfl
  case call c => rcases c with ⟨callee, args, ts⟩; cases callee <;> simp only [evOpH, hCallV, hCallB, ob_eq] <;> rfl
  all_goals first
    | rfl
    | (simp only [evOpH, hPick, hBuild, hBuildSlice, hLoad, hStore, hBin, hUn, hConvert, hRange, hNext, hEntry, hSlice, hFieldAddr, hField, hIndexAddr, hIndex, hLookup, hMapPut, hTypeAssert, hExtract, ob_eq]; rfl)

end
end Go.Ev

/- The evaluator of the model's code: control, calls, regions, ranges over functions. -/
namespace Go.Ev
noncomputable section

/-! ### Equality of abstract values, as far as a number of steps reaches -/
section same
variable (eq : AVal → AVal → Bool)
def sameL : List AVal → List AVal → Bool
  | [], [] => true
  | x :: xs, y :: ys => eq x y && sameL xs ys
  | _, _ => false
def sameO : Option (List AVal) → Option (List AVal) → Bool
  | none, none => true
  | some x, some y => sameL eq x y
  | _, _ => false
def sameT : Trie (List AVal) → Trie (List AVal) → Bool
  | .leaf, .leaf => true
  | .node l v r, .node l' v' r' => sameO eq v v' && sameT l l' && sameT r r'
  | _, _ => false
end same
def Tok.same : Tok → Tok → Bool
  | .full, .full | .dead, .dead => true
  | .live a, .live b => Nat.beq a b
  | _, _ => false
def same : Nat → AVal → AVal → Bool
  | 0, _, _ => false
  | n + 1, x, y =>
    match x, y with
    | .bool a, .bool b => a == b
    | .int j a, .int k b => decide (j = k) && decide (a = b)
    | .str l a, .str m b => Nat.beq l m && Nat.beq a b
    | .nilp, .nilp | .nils, .nils | .nilm, .nilm | .nilFunc, .nilFunc | .nilIface, .nilIface => true
    | .ptr a i, .ptr b j => Nat.beq a b && Nat.beq i j
    | .optr a, .optr b => Nat.beq a b
    | .eptr l i, .eptr m j => sameL (same n) l m && Nat.beq i j
    | .vec z a o l t, .vec z' a' o' l' t' => Nat.beq z z' && Nat.beq o o' && Nat.beq l l' && t.same t' && sameT (same n) a a'
    | .map a, .map b => Nat.beq a b
    | .func (.func f) a b, .func (.func g) c d => Nat.beq f g && sameL (same n) a c && sameL (same n) b d
    | .yieldf a, .yieldf b => Nat.beq a b
    | .iface t v, .iface u w => Nat.beq t u && same n v w
    | .agg l, .agg m => sameL (same n) l m
    | .tuple l, .tuple m => sameL (same n) l m
    | _, _ => false

/-- What the evaluator knows of deeper code. -/
structure Ev where
  code : Code → Fr → St → Option (AExit × Fr × St)
  call : FuncId → List AVal → St → Option (AVal × St)
  /-- So many of the package-level variables are known. -/
  globs : Nat

def setParams : Trie AVal → List Nat → List AVal → Trie AVal
  | t, p :: ps, v :: vs => setParams (t.set p (some v)) ps vs
  | t, _, _ => t

/-- A round of a range over a function: the loop's body, called as yield. -/
def runRound (P : Program) (r : Ev) (l : Nat) (args : List AVal) (s : St) : Option (AVal × St) :=
  match s.heap.get l with
  | some (.loop tmps n params assign body defers none true) =>
    if args.length = params.length ∧ params.all (fun p => Nat.blt p n) = true then
      match r.code assign { tmps := setParams tmps params args, n, round := some l, defers := [], globs := r.globs } s with
      | some (.normal, fr1, s1) =>
        match s1.heap.get l with
        | some (.loop t1 n1 p1 a1 b1 d1 none true) =>
          match r.code body fr1 (s1.put l (some (.loop t1 n1 p1 a1 b1 d1 none false))) with
          | some (e, _, s2) =>
            match s2.heap.get l with
            | some (.loop t2 n2 p2 a2 b2 d2 none false) =>
              match e with
              | .normal => some (.bool true, s2.put l (some (.loop t2 n2 p2 a2 b2 d2 none true)))
              | .ret => some (.bool false, s2.put l (some (.loop t2 n2 p2 a2 b2 d2 (some .ret) true)))
              | .exit id => some (.bool false, s2.put l (some (.loop t2 n2 p2 a2 b2 d2 (some (.exit id)) true)))
            | _ => none
          | none => none
        | _ => none
      | _ => none
    else none
  | _ => none

def runOut (P : Program) (r : Ev) : Out → St → Option (AVal × St)
  | .val v, s => some (v, s)
  | .call f args, s => r.call f args s
  | .round l args, s => runRound P r l args s

/-- Is an operation under a guard carried out? -/
def wantedA (fr : Fr) (ops : Array Oper) (o : Oper) : Option Bool :=
  match o.guard with
  | none => some true
  | some (j, want) => do
    let g ← ops[j]?
    let d ← g.dst
    match ← fr.tmps.get d with
    | .bool b => some (b == want)
    | _ => some false

def stepOpM (P : Program) (r : Ev) (ops : Array Oper) (o : Oper) (fr : Fr) (s : St) : Option (AVal × St) := do
  let w ← wantedA fr ops o
  if w then do
    let (out, s) ← evOp P fr o s
    runOut P r out s
  else some (.tuple [], s)
def runRest (P : Program) (r : Ev) (q : Out × St) : Option (AVal × St) := runOut P r q.1 q.2
def runIt (P : Program) (r : Ev) (o : Oper) (fr : Fr) (s : St) : Option (AVal × St) := ob (evOp P fr o s) (runRest P r)
def stepG (P : Program) (r : Ev) (ops : Array Oper) (o : Oper) (fr : Fr) (s : St) : Option (AVal × St) :=
  ob (wantedA fr ops o) fun w => Bool.rec (motive := fun _ => Option (AVal × St)) (some (.tuple [], s)) (runIt P r o fr s) w
def stepOp (P : Program) (r : Ev) (ops : Array Oper) (o : Oper) (fr : Fr) (s : St) : Option (AVal × St) :=
  Option.rec (motive := fun _ => Option (AVal × St)) (runIt P r o fr s) (fun _ => stepG P r ops o fr s) o.guard
theorem stepOp_eq (P : Program) (r : Ev) (ops : Array Oper) (o : Oper) (fr : Fr) (s : St) : stepOp P r ops o fr s = stepOpM P r ops o fr s := by
  have h1 : runIt P r o fr s = (do let (out, s) ← evOp P fr o s; runOut P r out s) := ob_eq _ _
  have h2 : stepG P r ops o fr s = stepOpM P r ops o fr s := by
    unfold stepG stepOpM
    rw [ob_eq]
    show _ = (wantedA fr ops o).bind _
    cases wantedA fr ops o with
    | none => rfl
    | some w => cases w <;> first | rfl | exact h1
  unfold stepOp
  cases hg : o.guard with
  | none =>
    show runIt P r o fr s = _
    unfold stepOpM wantedA
    rw [hg, h1]; rfl
  | some x => exact h2

def runOps (P : Program) (r : Ev) (ops : Array Oper) : List Nat → Fr → St → Option (Fr × St)
  | [], fr, s => some (fr, s)
  | i :: is, fr, s => do
    let o ← ops[i]?
    let (v, s) ← stepOp P r ops o fr s
    let fr ← fr.put o.dst v
    runOps P r ops is fr s

def putRest (rest : Fr → St → Option (Fr × St)) (dst : Option Nat) (fr : Fr) (q : AVal × St) : Option (Fr × St) :=
  Prod.rec (motive := fun _ => Option (Fr × St)) (fun v s => ob (fr.put dst v) fun fr => rest fr s) q
/-- The operations one behind the other, the list at hand. -/
def runOpsL (P : Program) (r : Ev) (ops : Array Oper) (l : List Oper) : Fr → St → Option (Fr × St) :=
  List.rec (motive := fun _ => Fr → St → Option (Fr × St)) (fun fr s => some (fr, s)) (fun o _ ih fr s => ob (stepOp P r ops o fr s) (putRest ih o.dst fr)) l

/-! ### A region whose order is open -/
/-- Does an operation only read? (It may lay new memory that is not named.) -/
def Oper.quiet (o : Oper) : Bool :=
  match o.op with
  | .move _ | .assign _ | .pick .. | .build .. | .buildSlice .. | .load .. | .nilCheck _ | .binOp .. | .unOp .. | .makeInterface .. | .makeFunc .. | .slice ..
  | .fieldAddr .. | .field .. | .indexAddr .. | .index .. | .lookup .. | .typeAssert .. | .extract .. | .makeSlice .. | .entry _ => true
  | .call { callee := .builtin .len, .. } | .call { callee := .builtin .min, .. } => true
  | _ => false
/-- Does what an operation yields hang on the temporaries alone? -/
def Oper.pure (o : Oper) : Bool :=
  match o.op with
  | .move _ | .assign _ | .pick .. | .build .. | .nilCheck _ | .binOp .. | .unOp .. | .makeInterface .. | .makeFunc .. | .slice ..
  | .fieldAddr .. | .field .. | .indexAddr .. | .index .. | .typeAssert .. | .extract .. => true
  | _ => false
/-- Does an operation lay one new named block, and nothing else? -/
def Oper.lays (o : Oper) : Bool :=
  match o.op with
  | .alloc _ | .box .. | .makeMap .. => true
  | _ => false
def Oper.loud (o : Oper) : Bool := !(Oper.quiet o || Oper.lays o)

/-- The numbers of the operations that stand, by whatever way, ahead of each. -/
def maskStep (acc : List Nat) (m : Nat) (e : Edge) : Nat := if Region.binds .any e then m ||| ((1 <<< e.on) ||| acc.getD e.on 0) else m
def maskOf (acc : List Nat) (o : Oper) : Nat := o.after.toList.foldl (maskStep acc) 0
def masksFrom (acc : List Nat) : List Oper → List Nat
  | [] => acc
  | o :: os => masksFrom (acc ++ [maskOf acc o]) os
def masks (ops : Array Oper) : List Nat := masksFrom [] ops.toList

def readsOf (ops : Array Oper) (o : Oper) : List Nat :=
  (o.op.operands.toList.filterMap fun | .tmp t => some t | _ => none) ++
  (match o.guard with | some (j, _) => ((ops[j]?).bind (·.dst)).toList | none => [])
/-- One pair of operations: the places are two; who reads is ahead of who writes, or behind. -/
def pairOk (ops : Array Oper) (ms : List Nat) (o : Oper) (i d : Nat) (x : Oper × Nat) : Bool :=
  Nat.beq i x.2 || ((match x.1.dst with | some d' => !Nat.beq d d' | none => true) && (!(readsOf ops x.1).any (Nat.beq d) || (ms.getD x.2 0).testBit i || (ms.getD i 0).testBit x.2))
/-- The written places are all others; who reads one is ahead of who writes it, or behind; edges lead back. -/
def drawOk (ops : Array Oper) (ms : List Nat) : Bool :=
  let l := ops.toList.zipIdx
  l.all fun x =>
    (x.1.after.toList.all fun e => !Region.binds .any e || Nat.blt e.on x.2) &&
    (match x.1.dst with
     | some d => l.all (pairOk ops ms x.1 x.2 d)
     | none => true)

/-- An operation that has been carried out here and may be carried out later. -/
structure Pend where
  i : Nat
  o : Oper
  fr : Fr
  v : AVal

def sameObj : Option AObj → Option AObj → Bool
  | some (.cells l), some (.cells m) => sameL (same 1000) l m
  | some (.map [] 0), some (.map [] 0) => true
  | _, _ => false
/-- Would it come to the same, now? -/
def stillOk (P : Program) (ops : Array Oper) (s : St) (p : Pend) : Bool :=
  match Oper.pure p.o with
  | true => true
  | false =>
  match wantedA p.fr ops p.o with
  | some false => true
  | some true =>
    match evOp P p.fr p.o s with
    | some (.val v, s') =>
      if Oper.quiet p.o then same 1000 v p.v
      else match v, p.v with
        | .ptr m 0, .ptr n 0 | .map m, .map n => sameObj (s'.heap.get m) (s.heap.get n)
        | _, _ => false
    | _ => false
  | none => false

structure Dr where
  done : Nat
  pend : List Pend
  fr : Fr
  s : St

def addBit (m i : Nat) : Nat := m ||| (1 <<< i)
def subBits (m d : Nat) : Bool := Nat.beq (m &&& d) m

def calmOne (P : Program) (ops : Array Oper) (o : Oper) (i : Nat) (d : Dr) : Option Dr :=
  match wantedA d.fr ops o with
  | some true =>
    match evOp P d.fr o d.s with
    | some (.val v, s') =>
      match d.fr.put o.dst v with
      | some fr' => some { done := addBit d.done i, pend := { i, o, fr := d.fr, v } :: d.pend, fr := fr', s := s' }
      | none => none
    | _ => none
  | some false =>
    match d.fr.put o.dst (.tuple []) with
    | some fr' => some { done := addBit d.done i, pend := { i, o, fr := d.fr, v := .tuple [] } :: d.pend, fr := fr', s := d.s }
    | none => none
  | none => none
/-- All that can be carried out without a loud one, in the text's order. -/
def calmOnes (P : Program) (ops : Array Oper) (ms : List Nat) : List (Oper × Nat) → Dr → Option Dr
  | [], d => some d
  | (o, i) :: rest, d =>
    if d.done.testBit i || Oper.loud o || !subBits (ms.getD i 0) d.done then calmOnes P ops ms rest d else
    match calmOne P ops o i d with
    | some d' => calmOnes P ops ms rest d'
    | none => none
/-- The calm ones; and they would all come to the same once more. -/
def calmAll (P : Program) (ops : Array Oper) (ms : List Nat) (all : List (Oper × Nat)) (d : Dr) : Option Dr :=
  match calmOnes P ops ms all d with
  | some d => if d.pend.all (stillOk P ops d.s) then some d else none
  | none => none

/-- The loud ones, one behind the other; between them the others. -/
def loudOnes (P : Program) (r : Ev) (ops : Array Oper) (ms : List Nat) (all : List (Oper × Nat)) : List (Oper × Nat) → Dr → Option Dr
  | [], d => some d
  | (o, i) :: rest, d =>
    if subBits (ms.getD i 0) d.done && rest.all (fun x => (ms.getD x.2 0).testBit i) then
      match stepOp P r ops o d.fr d.s with
      | some (v, s) =>
        match d.fr.put o.dst v with
        | some fr =>
          match calmAll P ops ms all { done := addBit d.done i, pend := d.pend.filter (fun p => !(ms.getD i 0).testBit p.i), fr, s } with
          | some d' => loudOnes P r ops ms all rest d'
          | none => none
        | none => none
      | none => none
    else none

def evDrawM (P : Program) (r : Ev) (ops : Array Oper) (ms : List Nat) (all : List (Oper × Nat)) (fr : Fr) (s : St) : Option (Fr × St) :=
  match drawOk ops ms && P.follows .mixedOrders with
  | true =>
    match calmAll P ops ms all { done := 0, pend := [], fr, s } with
    | some d =>
      match loudOnes P r ops ms all (all.filter fun x => Oper.loud x.1) d with
      | some d => some (d.fr, d.s)
      | none => none
    | none => none
  | false => none
def evDraw (P : Program) (r : Ev) (ops : Array Oper) (fr : Fr) (s : St) : Option (Fr × St) := evDrawM P r ops (masks ops) ops.toList.zipIdx fr s

/-! ### Code -/
def Fr.mark (fr : Fr) (d : Nat) : Fr :=
  match fr with
  | ⟨t, n, r, ds, g⟩ => ⟨t, n, r, d :: ds, g⟩

def rangeEnter (fr : Fr) (s : St) : Option (Nat × Fr × St) :=
  match fr.round with
  | none => some (s.next, fr.mark s.next, (s.alloc .defer).2)
  | some l => match s.heap.get l with
    | some (.loop _ _ _ _ _ d _ _) => some (d, fr, s)
    | _ => none
def rangeLeave (fr : Fr) (l : Nat) (s : St) : Option (AExit × Fr × St) :=
  match s.heap.get l with
  | some (.loop _ _ _ _ _ _ pending true) =>
    match pending with
    | none => some (.normal, fr, s.put l none)
    | some .ret => some (.ret, fr, s.put l none)
    | some (.exit id) => some (.exit id, fr, s.put l none)
  | _ => none
def rangeF (P : Program) (r : Ev) (f : Operand) (ps : Array Tmp) (assign body : Code) (fr : Fr) (s : St) : Option (AExit × Fr × St) :=
  match ev fr f with
  | some (.func (.func g) first captured) =>
    if hasBody P g = false then none else
    match rangeEnter fr s with
    | none => none
    | some (d, fr', s1) =>
      match r.call g (first ++ [.yieldf s1.next] ++ captured) (s1.alloc (.loop fr.tmps fr.n ps.toList assign body d none true)).2 with
      | some (_, s2) => rangeLeave fr' s1.next s2
      | none => none
  | _ => none

abbrev CRes := Option (AExit × Fr × St)
def toNormal (x : Option (Fr × St)) : CRes := x.map fun x => (.normal, x.1, x.2)
def cSkip (_ : Program) (_ : Ev) (fr : Fr) (s : St) : CRes := some (.normal, fr, s)
def cRegion (ops : Array Oper) (draw : Bool) (P : Program) (r : Ev) (fr : Fr) (s : St) : CRes :=
  Bool.rec (motive := fun _ => CRes) (toNormal (runOpsL P r ops ops.toList fr s)) (toNormal (evDraw P r ops fr s)) draw
def cSeq (a b : Code) (_ : Program) (r : Ev) (fr : Fr) (s : St) : CRes :=
    match r.code a fr s with
    | some (.normal, fr, s) => r.code b fr s
    | x => x
def cCond (c : Operand) (a b : Code) (_ : Program) (r : Ev) (fr : Fr) (s : St) : CRes :=
    match ev fr c with
    | some (.bool t) => Bool.rec (motive := fun _ => CRes) (r.code b fr s) (r.code a fr s) t
    | _ => none
def cBlock (id : Nat) (c : Code) (_ : Program) (r : Ev) (fr : Fr) (s : St) : CRes :=
    match r.code c fr s with
    | some (.exit id', fr, s) => bif Nat.beq id' id then some (.normal, fr, s) else some (.exit id', fr, s)
    | x => x
def cLoop (c : Code) (_ : Program) (r : Ev) (fr : Fr) (s : St) : CRes :=
    match r.code c fr s with
    | some (.normal, fr, s) => r.code (.loop c) fr s
    | x => x
def cExit (id : Nat) (_ : Program) (_ : Ev) (fr : Fr) (s : St) : CRes := some (.exit id, fr, s)
def cRet (_ : Program) (_ : Ev) (fr : Fr) (s : St) : CRes := some (.ret, fr, s)
def cRange (f : Operand) (ps : Array Tmp) (assign body : Code) (P : Program) (r : Ev) (fr : Fr) (s : St) : CRes := rangeF P r f ps assign body fr s
def cNone (_ : Program) (_ : Ev) (_ : Fr) (_ : St) : CRes := none
def codeH : Code → Program → Ev → Fr → St → CRes
  | .skip => cSkip
  | .region _ ops draw => cRegion ops draw
  | .seq a b => cSeq a b
  | .cond c a b => cCond c a b
  | .block id c => cBlock id c
  | .loop c => cLoop c
  | .exit id => cExit id
  | .ret => cRet
  | .rangeFunc f ps assign body => cRange f ps assign body
  | _ => cNone
def codeStep (P : Program) (r : Ev) (c : Code) (fr : Fr) (s : St) : CRes := codeH c P r fr s

def codeStepM (P : Program) (r : Ev) (c : Code) (fr : Fr) (s : St) : Option (AExit × Fr × St) :=
  match c with
  | .skip => some (.normal, fr, s)
  | .region _ ops false => (runOpsL P r ops ops.toList fr s).map fun x => (.normal, x.1, x.2)
  | .region _ ops true => (evDraw P r ops fr s).map fun x => (.normal, x.1, x.2)
  | .seq a b =>
    match r.code a fr s with
    | some (.normal, fr, s) => r.code b fr s
    | x => x
  | .cond c a b =>
    match ev fr c with
    | some (.bool t) => r.code (if t then a else b) fr s
    | _ => none
  | .block id c =>
    match r.code c fr s with
    | some (.exit id', fr, s) => if id' = id then some (.normal, fr, s) else some (.exit id', fr, s)
    | x => x
  | .loop c =>
    match r.code c fr s with
    | some (.normal, fr, s) => r.code (.loop c) fr s
    | x => x
  | .exit id => some (.exit id, fr, s)
  | .ret => some (.ret, fr, s)
  | .rangeFunc f ps assign body => rangeF P r f ps assign body fr s
  | _ => none

theorem codeStep_eq (P : Program) (r : Ev) (c : Code) (fr : Fr) (s : St) : codeStep P r c fr s = codeStepM P r c fr s := by
  unfold codeStep codeStepM
  cases c
  case region id ops draw => cases draw <;> rfl
  case cond c a b =>
    simp only [codeH, cCond]
    split
    · rename_i t _; cases t <;> simp
    · rfl
  case block id c =>
    simp only [codeH, cBlock]
    split
    · rename_i id' _ _ _
      simp only [cond_eq_ite, Nat.beq_eq]
    · rfl
  all_goals rfl

def aResult (P : Program) (fr : Fr) (s : St) : ResultVar → Option AVal
  | .tmp t => fr.tmps.get t
  | .cell a t => do let p ← fr.tmps.get a; aLoad P t s p
def aResults (P : Program) (fr : Fr) (s : St) : List ResultVar → Option (List AVal)
  | [] => some []
  | x :: xs => do let v ← aResult P fr s x; let vs ← aResults P fr s xs; some (v :: vs)
def oneOf : List AVal → AVal
  | [v] => v
  | l => .tuple l
def dropAll (s : St) : List Nat → Option St
  | [] => some s
  | d :: ds => match s.heap.get d with
    | some .defer => dropAll (s.put d none) ds
    | _ => none

def callStep (P : Program) (r : Ev) (f : FuncId) (args : List AVal) (s : St) : Option (AVal × St) :=
  match P.funcs[f]? with
  | none => none
  | some fn =>
    match fn.body with
    | none => none
    | some c =>
      match r.code c { tmps := Trie.ofList args, n := args.length + (fn.ntmps - args.length), round := none, defers := [], globs := r.globs } s with
      | some (e, fr, s) =>
        match e with
        | .exit _ => none
        | _ => do let s ← dropAll s fr.defers; let l ← aResults P fr s fn.results.toList; some (oneOf l, s)
      | none => none

def evN (P : Program) (gl : Nat) : Nat → Ev
  | 0 => { code := fun _ _ _ => none, call := fun _ _ _ => none, globs := gl }
  | n + 1 => { code := codeStep P (evN P gl n), call := callStep P (evN P gl n), globs := gl }

end
end Go.Ev

/- What ties the abstract state to the model's world: the relation of values, of objects, of states. -/
namespace Go.Ev
open Go.RowKit

namespace Trie
variable {α : Type}
theorem get_leaf (i : Nat) : (Trie.leaf : Trie α).get i = none := rfl
theorem bool_rec_ite {β : Type} (b : Bool) (x y : β) : Bool.rec (motive := fun _ => β) x y b = if b = true then y else x := by cases b <;> rfl
theorem get_node (l : Trie α) (v : Option α) (r : Trie α) (i : Nat) :
    (Trie.node l v r).get i = if i = 0 then v else if i % 2 = 1 then l.get (i / 2) else r.get (i / 2 - 1) := by
  show Bool.rec (motive := fun _ => Option α) (Bool.rec (motive := fun _ => Option α) (r.get (i / 2 - 1)) (l.get (i / 2)) (Nat.beq (i % 2) 1)) v (Nat.beq i 0) = _
  simp only [bool_rec_ite, Nat.beq_eq]
theorem one_node (f : Nat) (v : Option α) (i : Nat) : one (f + 1) v i = if i = 0 then .node .leaf v .leaf else if i % 2 = 1 then .node (one f v (i / 2)) none .leaf else .node .leaf none (one f v (i / 2 - 1)) := by
  show Bool.rec (motive := fun _ => Trie α) (Bool.rec (motive := fun _ => Trie α) (.node .leaf none (one f v (i / 2 - 1))) (.node (one f v (i / 2)) none .leaf) (Nat.beq (i % 2) 1)) (.node .leaf v .leaf) (Nat.beq i 0) = _
  simp only [bool_rec_ite, Nat.beq_eq]
theorem setR_node (l : Trie α) (x : Option α) (r : Trie α) (v : Option α) (i : Nat) : setR (.node l x r) v i = if i = 0 then .node l v r else if i % 2 = 1 then .node (setR l v (i / 2)) x r else .node l x (setR r v (i / 2 - 1)) := by
  show Bool.rec (motive := fun _ => Trie α) (Bool.rec (motive := fun _ => Trie α) (.node l x (setR r v (i / 2 - 1))) (.node (setR l v (i / 2)) x r) (Nat.beq (i % 2) 1)) (.node l v r) (Nat.beq i 0) = _
  simp only [bool_rec_ite, Nat.beq_eq]
theorem get_one : ∀ (f : Nat) (v : Option α) (i j : Nat), i < f → (one f v i).get j = if j = i then v else none := by
  intro f
  induction f with
  | zero => intro v i j h; omega
  | succ f ih =>
    intro v i j h
    rw [one_node]
    by_cases hi : i = 0
    · subst hi
      rw [if_pos rfl, get_node]
      by_cases hj : j = 0
      · rw [if_pos hj, if_pos hj]
      · rw [if_neg hj, if_neg hj]; split <;> rfl
    · rw [if_neg hi]
      by_cases hi2 : i % 2 = 1
      · rw [if_pos hi2, get_node, ih _ _ _ (by omega)]
        by_cases hj : j = 0
        · subst hj; rw [if_pos rfl, if_neg (by omega)]
        · rw [if_neg hj]
          by_cases hj2 : j % 2 = 1
          · rw [if_pos hj2]
            by_cases e : j / 2 = i / 2
            · rw [if_pos e, if_pos (by omega)]
            · rw [if_neg e, if_neg (by omega)]
          · rw [if_neg hj2, if_neg (by omega)]; rfl
      · rw [if_neg hi2, get_node, ih _ _ _ (by omega)]
        by_cases hj : j = 0
        · subst hj; rw [if_pos rfl, if_neg (by omega)]
        · rw [if_neg hj]
          by_cases hj2 : j % 2 = 1
          · rw [if_pos hj2, if_neg (by omega)]; rfl
          · rw [if_neg hj2]
            by_cases e : j / 2 - 1 = i / 2 - 1
            · rw [if_pos e, if_pos (by omega)]
            · rw [if_neg e, if_neg (by omega)]
theorem get_setR : ∀ (t : Trie α) (v : Option α) (i j : Nat), (setR t v i).get j = if j = i then v else t.get j := by
  intro t
  induction t with
  | leaf => intro v i j; exact get_one _ _ _ _ (Nat.lt_succ_self _)
  | node l x r ihl ihr =>
    intro v i j
    rw [setR_node]
    by_cases hi : i = 0
    · subst hi
      rw [if_pos rfl, get_node, get_node]
      by_cases hj : j = 0
      · rw [if_pos hj, if_pos hj]
      · rw [if_neg hj, if_neg hj, if_neg hj]
    · rw [if_neg hi]
      by_cases hi2 : i % 2 = 1
      · rw [if_pos hi2, get_node, get_node, ihl]
        by_cases hj : j = 0
        · subst hj; rw [if_pos rfl, if_pos rfl, if_neg (by omega)]
        · rw [if_neg hj, if_neg hj]
          by_cases hj2 : j % 2 = 1
          · rw [if_pos hj2, if_pos hj2]
            by_cases e : j / 2 = i / 2
            · rw [if_pos e, if_pos (by omega)]
            · rw [if_neg e, if_neg (by omega)]
          · rw [if_neg hj2, if_neg hj2, if_neg (by omega)]
      · rw [if_neg hi2, get_node, get_node, ihr]
        by_cases hj : j = 0
        · subst hj; rw [if_pos rfl, if_pos rfl, if_neg (by omega)]
        · rw [if_neg hj, if_neg hj]
          by_cases hj2 : j % 2 = 1
          · rw [if_pos hj2, if_pos hj2, if_neg (by omega)]
          · rw [if_neg hj2, if_neg hj2]
            by_cases e : j / 2 - 1 = i / 2 - 1
            · rw [if_pos e, if_pos (by omega)]
            · rw [if_neg e, if_neg (by omega)]
theorem get_set (t : Trie α) (i : Nat) (v : Option α) (j : Nat) : (t.set i v).get j = if j = i then v else t.get j := get_setR _ _ _ _
theorem get_set_same (t : Trie α) (i : Nat) (v : Option α) : (t.set i v).get i = v := by rw [get_set, if_pos rfl]
theorem get_set_ne (t : Trie α) {i j : Nat} (v : Option α) (h : j ≠ i) : (t.set i v).get j = t.get j := by rw [get_set, if_neg h]
theorem get_putAll : ∀ (l : List α) (t : Trie α) (k j : Nat), (t.putAll k l).get j = if k ≤ j ∧ j < k + l.length then l[j - k]? else t.get j := by
  intro l
  induction l with
  | nil => intro t k j; simp [putAll]; intro h1 h2; omega
  | cons x xs ih =>
    intro t k j
    simp only [putAll, ih, get_set, List.length_cons]
    by_cases h : k + 1 ≤ j ∧ j < k + 1 + xs.length
    · rw [if_pos h, if_pos (by omega)]
      have : j - k = (j - (k + 1)) + 1 := by omega
      rw [this, List.getElem?_cons_succ]
    · rw [if_neg h]
      by_cases e : j = k
      · subst e; rw [if_pos rfl, if_pos (by omega)]; simp
      · rw [if_neg e, if_neg (by omega)]
theorem get_ofList (l : List α) (j : Nat) : (Trie.ofList l).get j = l[j]? := by
  unfold ofList
  rw [get_putAll, get_leaf]
  by_cases h : j < l.length
  · rw [if_pos (by omega)]; simp
  · rw [if_neg (by omega)]; simp; omega
end Trie

/-- Where in the model's world the abstract names, immutable cells and room lie. -/
structure Ghost where
  base : Nat
  blk : Nat → Option Nat
  imm : Nat → Nat → Option Value
  tok : Nat → Option (Nat × Nat × Nat)
  glob : Nat
  opq : Nat → Option Addr

structure Ghost.le (G G' : Ghost) : Prop where
  base : G'.base = G.base
  blk : ∀ n b, G.blk n = some b → G'.blk n = some b
  imm : ∀ b o v, G.imm b o = some v → G'.imm b o = some v
  tok : ∀ t x, G.tok t = some x → G'.tok t = some x
  glob : G'.glob = G.glob
  opq : G'.opq = G.opq
theorem Ghost.le_refl (G : Ghost) : G.le G := ⟨rfl, fun _ _ h => h, fun _ _ _ h => h, fun _ _ h => h, rfl, rfl⟩
theorem Ghost.le_trans {A B C : Ghost} (h : A.le B) (k : B.le C) : A.le C :=
  ⟨k.base.trans h.base, fun _ _ e => k.blk _ _ (h.blk _ _ e), fun _ _ _ e => k.imm _ _ _ (h.imm _ _ _ e), fun _ _ e => k.tok _ _ (h.tok _ _ e), k.glob.trans h.glob, k.opq.trans h.opq⟩

/-- What a slice's token says: b: its block; e: the cell behind its last; c: the cell behind its room. -/
def tokOk (G : Ghost) (tok : Tok) (len cap b e c : Nat) : Prop :=
  match tok with
  | .full => cap = len ∧ (len = 0 ∨ G.base ≤ b)
  | .dead => True
  | .live t => G.base ≤ b ∧ (len < cap → G.tok t = some (b, e, c))

inductive VRel (G : Ghost) : AVal → Value → Prop
  | bool (b : Bool) : VRel G (.bool b) (.bool b)
  | int (k : IntKind) (n : Int) : VRel G (.int k n) (.int k n)
  | str (s : ByteArray) (l n : Nat) (hl : s.size = l) (hn : encS s = n) : VRel G (.str l n) (.string s)
  | nilp : VRel G .nilp (.pointer none)
  | ptr (name off b : Nat) (h : G.blk name = some b) : VRel G (.ptr name off) (.pointer (some ⟨b, off, none⟩))
  | eptr (cells : List AVal) (j b o : Nat) (cv : Nat → Value) (hi : ∀ c, c < cells.length → G.imm b (o + c) = some (cv c))
      (hv : ∀ c x, cells[c]? = some x → VRel G x (cv c)) : VRel G (.eptr cells j) (.pointer (some ⟨b, o + j, none⟩))
  | optr (name : Nat) (a : Addr) (h : G.opq name = some a) : VRel G (.optr name) (.pointer (some a))
  | nils : VRel G .nils (.slice none 0 0)
  | vec (sz : Nat) (arr : Trie (List AVal)) (off len : Nat) (tok : Tok) (b o cap : Nat) (cv : Nat → Nat → Value) (hc : len ≤ cap)
      (hel : ∀ i, i < len → ∃ cells, arr.get (off + i) = some cells ∧ cells.length = sz)
      (hi : ∀ i c, i < len → c < sz → G.imm b (o + i * sz + c) = some (cv i c))
      (hv : ∀ i c cells x, i < len → arr.get (off + i) = some cells → cells[c]? = some x → VRel G x (cv i c))
      (ht : tokOk G tok len cap b (o + len * sz) (o + cap * sz)) : VRel G (.vec sz arr off len tok) (.slice (some ⟨b, o, none⟩) len cap)
  | nilm : VRel G .nilm (.map none)
  | map (name r : Nat) (h : G.blk name = some r) : VRel G (.map name) (.map (some r))
  | func (fn : Fn) (first captured : List AVal) (fs cs : Array Value) (hf : fs.size = first.length) (hc : cs.size = captured.length)
      (h1 : ∀ (i : Nat) (x : AVal) (v : Value), first[i]? = some x → fs[i]? = some v → VRel G x v) (h2 : ∀ (i : Nat) (x : AVal) (v : Value), captured[i]? = some x → cs[i]? = some v → VRel G x v) :
      VRel G (.func fn first captured) (.func fn fs cs)
  | yieldf (name r : Nat) (h : G.blk name = some r) : VRel G (.yieldf name) (.func (.yield r) #[] #[])
  | nilFunc : VRel G .nilFunc .nilFunc
  | iface (t : Nat) (v : AVal) (u : Value) (h : VRel G v u) : VRel G (.iface t v) (.iface t u)
  | nilIface : VRel G .nilIface .nilIface
  | agg (l : List AVal) (cs : Array Value) (hl : cs.size = l.length) (h : ∀ (i : Nat) (x : AVal) (v : Value), l[i]? = some x → cs[i]? = some v → VRel G x v)
      (h1 : ∀ (i : Nat) (v : Value), cs[i]? = some v → v.oneCell' = true) : VRel G (.agg l) (.agg cs)
  | tuple (l : List AVal) (cs : Array Value) (hl : cs.size = l.length) (h : ∀ (i : Nat) (x : AVal) (v : Value), l[i]? = some x → cs[i]? = some v → VRel G x v) : VRel G (.tuple l) (.tuple cs)

theorem tokOk.mono {G G' : Ghost} (hg : G.le G') {tok : Tok} {len cap b e c : Nat} (h : tokOk G tok len cap b e c) : tokOk G' tok len cap b e c := by
  cases tok with
  | full => exact ⟨h.1, by rw [hg.base]; exact h.2⟩
  | dead => trivial
  | live t => exact ⟨by rw [hg.base]; exact h.1, fun hl => hg.tok _ _ (h.2 hl)⟩

theorem VRel.mono {G G' : Ghost} (hg : G.le G') {x : AVal} {v : Value} (h : VRel G x v) : VRel G' x v := by
  induction h with
  | bool b => exact .bool b
  | int k n => exact .int k n
  | str s l n hl hn => exact .str s l n hl hn
  | nilp => exact .nilp
  | ptr name off b h => exact .ptr name off b (hg.blk _ _ h)
  | eptr cells j b o cv hi _ ih => exact .eptr cells j b o cv (fun c hc => hg.imm _ _ _ (hi c hc)) ih
  | optr name a h => exact .optr name a (by rw [hg.opq]; exact h)
  | nils => exact .nils
  | vec sz arr off len tok b o cap cv hc hel hi _ ht ih => exact .vec sz arr off len tok b o cap cv hc hel (fun i c h1 h2 => hg.imm _ _ _ (hi i c h1 h2)) ih (ht.mono hg)
  | nilm => exact .nilm
  | map name r h => exact .map name r (hg.blk _ _ h)
  | func fn first captured fs cs hf hc _ _ ih1 ih2 => exact .func fn first captured fs cs hf hc ih1 ih2
  | yieldf name r h => exact .yieldf name r (hg.blk _ _ h)
  | nilFunc => exact .nilFunc
  | iface t v u _ ih => exact .iface t v u ih
  | nilIface => exact .nilIface
  | agg l cs hl _ h1 ih => exact .agg l cs hl ih h1
  | tuple l cs hl _ ih => exact .tuple l cs hl ih

/-- Two rows of values, one by one. -/
structure LRel (G : Ghost) (l : List AVal) (vs : List Value) : Prop where
  len : vs.length = l.length
  rel : ∀ (i : Nat) (x : AVal) (v : Value), l[i]? = some x → vs[i]? = some v → VRel G x v
theorem LRel.mono {G G' : Ghost} (hg : G.le G') {l : List AVal} {vs : List Value} (h : LRel G l vs) : LRel G' l vs := ⟨h.len, fun i x v a b => (h.rel i x v a b).mono hg⟩
theorem LRel.nil (G : Ghost) : LRel G [] [] := ⟨rfl, fun i x v h _ => by simp at h⟩
theorem LRel.cons {G : Ghost} {x : AVal} {v : Value} {l : List AVal} {vs : List Value} (h : VRel G x v) (t : LRel G l vs) : LRel G (x :: l) (v :: vs) :=
  ⟨by simp [t.len], fun i y u hy hu => by
    cases i with
    | zero => simp at hy hu; subst hy; subst hu; exact h
    | succ i => simp at hy hu; exact t.rel i y u hy hu⟩
theorem LRel.append {G : Ghost} {a b : List AVal} {c d : List Value} (h : LRel G a c) (k : LRel G b d) : LRel G (a ++ b) (c ++ d) :=
  ⟨by simp [h.len, k.len], fun i x v hx hv => by
    rw [List.getElem?_append] at hx hv
    rw [h.len] at hv
    split at hx
    · rename_i hlt; rw [if_pos hlt] at hv; exact h.rel i x v hx hv
    · rename_i hlt; rw [if_neg hlt] at hv; exact k.rel _ x v hx hv⟩

/-- The temporaries. -/
structure TRel (G : Ghost) (t : Trie AVal) (n : Nat) (a : Array Value) : Prop where
  size : a.size = n
  rel : ∀ i x, t.get i = some x → VRel G x (a.getD i undef)
theorem TRel.mono {G G' : Ghost} (hg : G.le G') {t : Trie AVal} {n : Nat} {a : Array Value} (h : TRel G t n a) : TRel G' t n a := ⟨h.size, fun i x e => (h.rel i x e).mono hg⟩
theorem TRel.set {G : Ghost} {t : Trie AVal} {n d : Nat} {a : Array Value} {x : AVal} {v : Value} (h : TRel G t n a) (hd : d < n) (hv : VRel G x v) : TRel G (t.set d (some x)) n (a.setIfInBounds d v) :=
  ⟨by simp [h.size], fun i y hy => by
    rw [Trie.get_set] at hy
    by_cases e : i = d
    · subst e; rw [if_pos rfl] at hy; cases hy
      have hlt : i < a.size := by rw [h.size]; exact hd
      simpa [Array.getD, hlt] using hv
    · rw [if_neg e] at hy
      have := h.rel i y hy
      have e2 : (a.setIfInBounds d v).getD i undef = a.getD i undef := by
        simp only [Array.getD_eq_getD_getElem?]
        rw [Array.getElem?_setIfInBounds_ne (by omega)]
      rw [e2]; exact this⟩

/-- How a jump is told to the loop's record. -/
def Jump.code : Jump → Code
  | .ret => .ret
  | .exit id => .exit id

/-- How a loop's record stands. -/
def loopState (ready : Bool) (pending : Option Jump) : LoopState := if ready then (if pending.isNone then .ready else .done) else .busy

/-- An object and the block that it is. -/
def ORel (G : Ghost) (b : Nat) (o : AObj) (c : Obj) : Prop :=
  match o, c with
  | .cells l, .cells c _ _ => G.base ≤ b ∧ c.size = l.length ∧ ∀ (i : Nat) (x : AVal) (v : Value), l[i]? = some x → c[i]? = some v → VRel G x v ∧ v.oneCell' = true
  | .ro l, .cells c _ _ => c.size = l.length ∧ ∀ (i : Nat) (x : AVal) (v : Value), l[i]? = some x → c[i]? = some v → VRel G x v ∧ v.oneCell' = true
  | .map es clock, .map cs clk => G.base ≤ b ∧ clk = clock ∧ cs.size = es.length ∧ ∀ (i : Nat) (x : AVal × AVal × Nat) (e : MapEntry), es[i]? = some x → cs[i]? = some e → VRel G x.1 e.key ∧ VRel G x.2.1 e.val ∧ e.born = x.2.2
  | .iter m since seen last, .mapIter mr since' seen' last' =>
    G.base ≤ b ∧ since' = since ∧ seen'.toList = seen ∧ last' = last ∧ (∀ x ∈ seen, x < last) ∧ (match m, mr with | none, none => True | some n, some r => G.blk n = some r | _, _ => False)
  | .loop tmps n params assign body defers pending ready, .loop L =>
    G.base ≤ b ∧ TRel G tmps n L.tmps ∧ L.params.toList = params ∧ L.assign = assign ∧ L.body = body ∧ G.blk defers = some L.defers ∧ L.pending = pending.map Jump.code ∧
      L.state = loopState ready pending
  | .defer, .deferred (some []) => G.base ≤ b
  | _, _ => False

theorem ORel.mono {G G' : Ghost} (hg : G.le G') {b : Nat} {o : AObj} {c : Obj} (h : ORel G b o c) : ORel G' b o c := by
  cases o <;> cases c <;> try exact h.elim
  all_goals simp only [ORel] at h ⊢
  · exact ⟨by rw [hg.base]; exact h.1, h.2.1, fun i x v a c => ⟨(h.2.2 i x v a c).1.mono hg, (h.2.2 i x v a c).2⟩⟩
  · exact ⟨h.1, fun i x v a c => ⟨(h.2 i x v a c).1.mono hg, (h.2 i x v a c).2⟩⟩
  · exact ⟨by rw [hg.base]; exact h.1, h.2.1, h.2.2.1, fun i x e a c => ⟨(h.2.2.2 i x e a c).1.mono hg, (h.2.2.2 i x e a c).2.1.mono hg, (h.2.2.2 i x e a c).2.2⟩⟩
  · refine ⟨by rw [hg.base]; exact h.1, h.2.1, h.2.2.1, h.2.2.2.1, h.2.2.2.2.1, ?_⟩
    have := h.2.2.2.2.2
    split at this
    · trivial
    · exact hg.blk _ _ this
    · exact this.elim
  · exact ⟨by rw [hg.base]; exact h.1, h.2.1.mono hg, h.2.2.1, h.2.2.2.1, h.2.2.2.2.1, hg.blk _ _ h.2.2.2.2.2.1, h.2.2.2.2.2.2.1, h.2.2.2.2.2.2.2⟩
  · rename_i calls
    rcases calls with _ | _ | _
    · exact h.elim
    · simp only at h ⊢; rw [hg.base]; exact h
    · exact h.elim

/-- The world at the start, and names that nobody may bind. -/
structure Old where
  world : World
  res : Nat → Prop
  priv : Nat → Option (Array Value)

/-- A block that nobody but one function's frame knows: what lies in it; no name, no immutable row, no token's room. -/
structure PrivOk (G : Ghost) (s : St) (w : World) (b : Nat) (c : Array Value) : Prop where
  heap : ∃ e f, w.heap[b]? = some (.cells c e f)
  base : G.base ≤ b
  blk : ∀ n, G.blk n ≠ some b
  imm : ∀ off, G.imm b off = none
  tok : ∀ t lo hi, s.heap.get t = some .tok → G.tok t = some (b, lo, hi) → ¬ lo < hi
theorem PrivOk.of {G G' : Ghost} {s s' : St} {w w' : World} {b : Nat} {c : Array Value} (h : PrivOk G s w b c) (hb : G'.base = G.base) (hheap : ∀ e f, w.heap[b]? = some (.cells c e f) → ∃ e f, w'.heap[b]? = some (.cells c e f))
    (hblk : ∀ n, G'.blk n = some b → G.blk n = some b) (himm : ∀ off, G'.imm b off = G.imm b off)
    (htok : ∀ t lo hi, s'.heap.get t = some .tok → G'.tok t = some (b, lo, hi) → lo < hi → s.heap.get t = some .tok ∧ G.tok t = some (b, lo, hi)) : PrivOk G' s' w' b c :=
  ⟨let ⟨e, f, he⟩ := h.heap; hheap e f he, by rw [hb]; exact h.base, fun n hn => h.blk n (hblk n hn), fun off => (himm off).trans (h.imm off), fun t lo hi ht hg hl => h.tok t lo hi (htok t lo hi ht hg hl).1 (htok t lo hi ht hg hl).2 hl⟩

structure Rel (G : Ghost) (W0 : Old) (s : St) (w : World) : Prop where
  obj : ∀ n b o, G.blk n = some b → s.heap.get n = some o → ∃ c, w.heap[b]? = some c ∧ ORel G b o c
  lt : ∀ n b, G.blk n = some b → b < w.heap.size
  inj : ∀ n m b, G.blk n = some b → G.blk m = some b → n = m
  imm : ∀ b off v, G.imm b off = some v → (∃ c e f, w.heap[b]? = some (.cells c e f) ∧ c[off]? = some v) ∧ v.oneCell' = true
  apart : ∀ n b off, G.blk n = some b → G.imm b off = none
  tok : ∀ t b lo hi, s.heap.get t = some .tok → G.tok t = some (b, lo, hi) → lo < hi →
    G.base ≤ b ∧ (∃ c e f, w.heap[b]? = some (.cells c e f) ∧ hi ≤ c.size) ∧ (∀ off, lo ≤ off → G.imm b off = none) ∧ (∀ n, G.blk n ≠ some b)
  tok2 : ∀ t t' b lo hi lo' hi', s.heap.get t = some .tok → s.heap.get t' = some .tok → G.tok t = some (b, lo, hi) → G.tok t' = some (b, lo', hi') → lo < hi → lo' < hi' → t = t'
  fresh : ∀ n, s.next ≤ n → G.blk n = none ∧ G.tok n = none ∧ s.heap.get n = none
  frz : ∀ b c e lo hi, G.base ≤ b → w.heap[b]? = some (.cells c e (lo, hi)) → lo = hi ∨ c.size ≤ lo
  base : G.base ≤ w.heap.size
  below : Below G.base W0.world w
  glob : ∀ g, g < G.glob → G.blk g = some g
  opq : ∀ n a, G.opq n = some a → a.block < G.base ∧ ∃ c t, W0.world.heap[a.block]? = some (.cells c t (0, 0))
  opqInj : ∀ n m a, G.opq n = some a → G.opq m = some a → n = m
  res : ∀ n, W0.res n → n < s.next ∧ G.blk n = none
  priv : ∀ b c, W0.priv b = some c → PrivOk G s w b c

end Go.Ev

/- Strings as numbers: the first byte highest. -/
namespace Go.Ev

theorem encB_eq : ∀ (l : List UInt8) (n : Nat), encB l n = n * 256 ^ l.length + encB l 0
  | [], n => by simp [encB]
  | c :: cs, n => by
    simp only [encB, List.length_cons]
    rw [encB_eq cs (n * 256 + c.toNat), encB_eq cs (0 * 256 + c.toNat)]
    simp only [Nat.pow_succ, Nat.add_mul, Nat.zero_mul, Nat.zero_add, Nat.mul_assoc, Nat.add_assoc, Nat.mul_comm 256]
theorem encB_lt : ∀ (l : List UInt8), encB l 0 < 256 ^ l.length
  | [] => by simp [encB]
  | c :: cs => by
    simp only [encB, List.length_cons]
    rw [encB_eq]
    have := encB_lt cs
    have hc : c.toNat < 256 := c.toNat_lt
    rw [Nat.pow_succ, Nat.zero_mul, Nat.zero_add]
    have h1 : c.toNat * 256 ^ cs.length + 256 ^ cs.length ≤ 256 * 256 ^ cs.length := by
      have : (c.toNat + 1) * 256 ^ cs.length ≤ 256 * 256 ^ cs.length := Nat.mul_le_mul_right _ hc
      rw [Nat.add_mul, Nat.one_mul] at this; exact this
    rw [Nat.mul_comm (256 ^ cs.length) 256]
    omega
theorem encB_append (a b : List UInt8) : encB (a ++ b) 0 = encB a 0 * 256 ^ b.length + encB b 0 := by
  have : ∀ (a : List UInt8) (n : Nat), encB (a ++ b) n = encB b (encB a n) := by
    intro a
    induction a with
    | nil => intro n; rfl
    | cons c cs ih => intro n; simp only [List.cons_append, encB]; exact ih _
  rw [this, encB_eq]
theorem encB_inj : ∀ (a b : List UInt8), a.length = b.length → encB a 0 = encB b 0 → a = b
  | [], [], _, _ => rfl
  | [], _ :: _, h, _ => by simp at h
  | _ :: _, [], h, _ => by simp at h
  | c :: cs, d :: ds, h, e => by
    simp only [List.length_cons, Nat.add_right_cancel_iff] at h
    simp only [encB, Nat.zero_mul, Nat.zero_add] at e
    rw [encB_eq cs c.toNat, encB_eq ds d.toNat, h] at e
    have h1 := encB_lt cs
    have h2 := encB_lt ds
    rw [h] at h1
    have hpos : 0 < 256 ^ ds.length := Nat.pos_of_ne_zero (by simp)
    have e1 : c.toNat = d.toNat := by
      have a1 : (c.toNat * 256 ^ ds.length + encB cs 0) / 256 ^ ds.length = c.toNat := by
        rw [Nat.mul_comm, Nat.mul_add_div hpos, Nat.div_eq_of_lt h1, Nat.add_zero]
      have a2 : (d.toNat * 256 ^ ds.length + encB ds 0) / 256 ^ ds.length = d.toNat := by
        rw [Nat.mul_comm, Nat.mul_add_div hpos, Nat.div_eq_of_lt h2, Nat.add_zero]
      rw [← a1, ← a2, e]
    have e2 : encB cs 0 = encB ds 0 := by rw [e1] at e; omega
    rw [encB_inj cs ds h e2, UInt8.toNat_inj.1 e1]

theorem pow256 (n : Nat) : (256 : Nat) ^ n = 2 ^ (8 * n) := by rw [show (256 : Nat) = 2 ^ 8 from rfl, ← Nat.pow_mul]

/-- The number of the first i bytes; of the last. -/
theorem encB_take (l : List UInt8) (k : Nat) (hk : k ≤ l.length) : encB l 0 >>> (8 * k) = encB (l.take (l.length - k)) 0 := by
  have h := encB_append (l.take (l.length - k)) (l.drop (l.length - k))
  rw [List.take_append_drop] at h
  have hl : (l.drop (l.length - k)).length = k := by simp; omega
  rw [h, hl, Nat.shiftRight_eq_div_pow, ← pow256]
  have := encB_lt (l.drop (l.length - k))
  rw [hl] at this
  have hpos : 0 < 256 ^ k := Nat.pos_of_ne_zero (by simp)
  rw [Nat.mul_comm, Nat.mul_add_div hpos, Nat.div_eq_of_lt this, Nat.add_zero]
theorem encB_drop (l : List UInt8) (k : Nat) (hk : k ≤ l.length) : encB l 0 % 2 ^ (8 * k) = encB (l.drop (l.length - k)) 0 := by
  have h := encB_append (l.take (l.length - k)) (l.drop (l.length - k))
  rw [List.take_append_drop] at h
  have hl : (l.drop (l.length - k)).length = k := by simp; omega
  have := encB_lt (l.drop (l.length - k))
  rw [hl] at this
  rw [← pow256, h, hl, Nat.mul_comm, Nat.mul_add_mod, Nat.mod_eq_of_lt this]
theorem encB_byte (l : List UInt8) (i : Nat) (hi : i < l.length) : (encB l 0 >>> (8 * (l.length - 1 - i))) % 256 = (l[i]).toNat := by
  rw [encB_take l _ (by omega)]
  have e : l.length - (l.length - 1 - i) = i + 1 := by omega
  rw [e, List.take_succ_eq_append_getElem hi, encB_append]
  simp [encB]
theorem encB_sub (l : List UInt8) (lo hi : Nat) (h1 : lo ≤ hi) (h2 : hi ≤ l.length) : (encB l 0 >>> (8 * (l.length - hi))) % 2 ^ (8 * (hi - lo)) = encB ((l.take hi).drop lo) 0 := by
  rw [encB_take l _ (by omega)]
  have e : l.length - (l.length - hi) = hi := by omega
  rw [e]
  have hl : (l.take hi).length = hi := by simp; omega
  rw [encB_drop (l.take hi) (hi - lo) (by omega), hl]
  have : hi - (hi - lo) = lo := by omega
  rw [this]

/-- The order of strings. -/
theorem bytesLess_eqlen : ∀ (a b : List UInt8), a.length = b.length → Op.bytesLess a b = decide (encB a 0 < encB b 0)
  | [], [], _ => by simp [Op.bytesLess, encB]
  | [], _ :: _, h => by simp at h
  | _ :: _, [], h => by simp at h
  | c :: cs, d :: ds, h => by
    simp only [List.length_cons, Nat.add_right_cancel_iff] at h
    simp only [Op.bytesLess, encB, Nat.zero_mul, Nat.zero_add]
    rw [bytesLess_eqlen cs ds h, encB_eq cs c.toNat, encB_eq ds d.toNat, h]
    have h1 := encB_lt cs
    have h2 := encB_lt ds
    rw [h] at h1
    rcases Nat.lt_trichotomy c.toNat d.toNat with hc | hc | hc
    · have : (c.toNat + 1) * 256 ^ ds.length ≤ d.toNat * 256 ^ ds.length := Nat.mul_le_mul_right _ hc
      rw [Nat.add_mul, Nat.one_mul] at this
      have hlt : c < d := UInt8.lt_iff_toNat_lt.2 hc
      have hbig : c.toNat * 256 ^ ds.length + encB cs 0 < d.toNat * 256 ^ ds.length + encB ds 0 := by omega
      rw [decide_eq_true hlt, decide_eq_true hbig]; rfl
    · have he : c = d := UInt8.toNat_inj.1 hc
      subst he
      have : ¬ c < c := by simp
      simp [this]
    · have : (d.toNat + 1) * 256 ^ ds.length ≤ c.toNat * 256 ^ ds.length := Nat.mul_le_mul_right _ hc
      rw [Nat.add_mul, Nat.one_mul] at this
      have hlt : ¬ c < d := fun hh => by have := UInt8.lt_iff_toNat_lt.1 hh; omega
      have hne : (c == d) = false := by simp; intro e; subst e; omega
      have hbig : ¬ c.toNat * 256 ^ ds.length + encB cs 0 < d.toNat * 256 ^ ds.length + encB ds 0 := by omega
      rw [decide_eq_false hlt, hne, decide_eq_false hbig]; rfl
theorem bytesLess_take : ∀ (a b : List UInt8), Op.bytesLess a b = (Op.bytesLess (a.take (min a.length b.length)) (b.take (min a.length b.length)) || ((a.take (min a.length b.length) == b.take (min a.length b.length)) && decide (a.length < b.length)))
  | [], [] => by simp [Op.bytesLess]
  | [], _ :: _ => by simp [Op.bytesLess]
  | _ :: _, [] => by simp [Op.bytesLess]
  | c :: cs, d :: ds => by
    have := bytesLess_take cs ds
    simp only [List.length_cons, Nat.succ_min_succ, List.take_succ_cons, Op.bytesLess, this]
    by_cases h1 : c < d
    · simp [h1]
    · by_cases h2 : c = d
      · subst h2; simp
      · rw [show (c == d) = false from beq_false_of_ne h2]; simp [h1]
        intro e; exact absurd e h2
theorem strLt_eq (a b : List UInt8) : strLt a.length (encB a 0) b.length (encB b 0) = Op.bytesLess a b := by
  rw [bytesLess_take]
  have ha : (a.take (min a.length b.length)).length = min a.length b.length := by simp
  have hb : (b.take (min a.length b.length)).length = min a.length b.length := by simp
  rw [bytesLess_eqlen _ _ (ha.trans hb.symm)]
  simp only [strLt]
  rw [encB_take a _ (by omega), encB_take b _ (by omega)]
  have e1 : a.length - (a.length - min a.length b.length) = min a.length b.length := by omega
  have e2 : b.length - (b.length - min a.length b.length) = min a.length b.length := by omega
  rw [e1, e2]
  have e3 : (a.take (min a.length b.length) == b.take (min a.length b.length)) = Nat.beq (encB (a.take (min a.length b.length)) 0) (encB (b.take (min a.length b.length)) 0) := by
    by_cases h : a.take (min a.length b.length) = b.take (min a.length b.length)
    · rw [h]; simp
    · have : encB (a.take (min a.length b.length)) 0 ≠ encB (b.take (min a.length b.length)) 0 := fun e => h (encB_inj _ _ (ha.trans hb.symm) e)
      rw [beq_false_of_ne h]
      symm
      rw [Bool.eq_false_iff]
      intro hh
      exact this (Nat.eq_of_beq_eq_true hh)
  rw [e3]
  have e4 : ∀ x y : Nat, Nat.blt x y = decide (x < y) := fun x y => by
    by_cases h : x < y
    · rw [decide_eq_true h]; rw [Nat.blt_eq]; exact h
    · rw [decide_eq_false h, Bool.eq_false_iff]; rw [Ne, Nat.blt_eq]; exact h
  rw [e4, e4]
theorem encS_eq (s : ByteArray) : encS s = encB s.data.toList 0 := rfl
theorem strEq (a b : List UInt8) : (Nat.beq a.length b.length && Nat.beq (encB a 0) (encB b 0)) = (a == b) := by
  by_cases h : a = b
  · subst h; simp
  · rw [beq_false_of_ne h, Bool.eq_false_iff]
    intro hh
    simp only [Bool.and_eq_true] at hh
    exact h (encB_inj a b (Nat.eq_of_beq_eq_true hh.1) (Nat.eq_of_beq_eq_true hh.2))
theorem toList_eq (s : ByteArray) : s.toList = s.data.toList := by
  have : ∀ (n i : Nat) (r : List UInt8), s.size - i = n → ByteArray.toList.loop s i r = r.reverse ++ s.data.toList.drop i := by
    intro n
    induction n with
    | zero =>
      intro i r h
      rw [ByteArray.toList.loop]
      have : ¬ i < s.size := by omega
      rw [if_neg this, List.drop_of_length_le (by simp; exact Nat.le_of_not_lt this)]; simp
    | succ n ih =>
      intro i r h
      rw [ByteArray.toList.loop]
      have hlt : i < s.size := by omega
      rw [if_pos hlt, ih (i + 1) _ (by omega)]
      have hd : s.data.toList.drop i = s.data.toList[i]'(by simpa using hlt) :: s.data.toList.drop (i + 1) := (List.drop_eq_getElem_cons (by simpa using hlt))
      rw [hd]
      have hg : s.get! i = s.data.toList[i]'(by simpa using hlt) := by
        simp [ByteArray.get!, getElem!_pos s.data i hlt]
      rw [hg]; simp
  unfold ByteArray.toList
  rw [this _ 0 [] rfl]; simp
end Go.Ev
