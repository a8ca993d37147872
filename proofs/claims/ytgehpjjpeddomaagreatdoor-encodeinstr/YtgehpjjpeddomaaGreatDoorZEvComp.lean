/- Parts, one behind the other; the last: How the abstract code comes of the translation's code: a function of Lean's, to be held against what was laid by the kernel. -/
import Derived.Calls
import Derived.Orders
import Derived.Laws.AppendOwn
set_option linter.all false
/- The abstract evaluator: what a Go function computes, over trees, with a small local heap. Definitions alone. -/
namespace Go.Proofs.YtgehpjjpeddomaaGreatDoor
open Go

/-- The one or the other, by a bool. -/
def sel {α : Type} (q : Bool) (x y : α) : α :=
  match q with
  | true => x
  | false => y

/-- A value that never changes: a plain value, a slice that is read as a list, a struct or array by its cells. -/
inductive Tr where
  | v (x : Value)
  | sl (xs : List Tr)
  | agg (cs : List Tr)
  deriving Inhabited

/-- The cells in which a value lies. -/
def Tr.cells : Tr → List Tr
  | .agg cs => cs
  | .v x => [.v x]
  | .sl xs => [.sl xs]

/-- An abstract value. -/
inductive AV where
  | t (x : Tr)
  | win (r ver n : Nat)
  | ptr (r off : Nat)
  | ep (r ver n k off : Nat)
  | ip (cs : List Tr)
  | clo (f : Nat) (first cap : List AV)
  | mix (cs : List AV)
  | tup (xs : List AV)
  | nils
  | emp (nl : Bool)
  | junk
  deriving Inhabited

/-- A thing of the local heap. -/
inductive AO where
  | box (cs : List AV)
  | arr (e : Nat) (ver : Nat) (xs : List Tr) (m d : Nat)
  | iter (s : ByteArray) (pos : Nat)
  | dead
  deriving Inhabited

/-- Where an operand comes from. -/
inductive Opd where
  | t (n : Nat)
  | c (x : Tr)
  | f (id : Nat)
  | g (n : Nat)
  | z
  deriving Inhabited

/-- An operation. -/
inductive AOp where
  | mv (x : Opd)
  | nil (e : Nat)
  | pick (c a b : Opd)
  | bin (op : BinOp) (t : Nat) (x y : Opd)
  | un (op : UnOp) (x : Opd)
  | isnil (no : Bool) (x : Opd)
  | conv (s d : Nat) (x : Opd)
  | b2s (x : Opd)
  | s2b (e : Nat) (x : Opd)
  | alloc (z : List Tr)
  | box (x : Opd)
  | build (z : List Tr) (ps : List (Nat × Nat × Opd))
  | buildq (z : List Tr) (ps : List (Nat × Nat × Opd))
  | bslice (e : Nat) (z : Tr) (len : Nat) (ps : List (Nat × Opd))
  | mksl (e : Nat) (z : Tr) (bytes : Nat) (x : Opd)
  | load (k : Option Nat) (x : Opd)
  | store (n : Nat) (x y : Opd)
  | nilck (x : Opd)
  | mkf (f : Nat) (first cap : List Opd)
  | ssl (x : Opd) (lo hi : Option Opd)
  | sl (sz : Nat) (cut : Bool) (x : Opd) (lo hi : Option Opd)
  | fadr (off : Nat) (x : Opd)
  | fld (off : Nat) (k : Option Nat) (x : Opd)
  | iadr (e sz : Nat) (x i : Opd)
  | iarr (n sz : Nat) (x i : Opd)
  | idx (n sz : Nat) (k : Option Nat) (x i : Opd)
  | idxs (x i : Opd)
  | extr (x : Opd) (i : Nat)
  | len (x : Opd)
  | lens (x : Opd)
  | lenc (n : Nat)
  | app (e sz bytes : Nat) (x y : Opd)
  | apps (e : Nat) (x y : Opd)
  | mx (xs : List Opd)
  | mn (xs : List Opd)
  | rng (x : Opd)
  | nxt (x : Opd)
  | call (f : Nat) (args : List Opd)
  | callv (x : Opd) (args : List Opd)
  | callq (f : Nat) (args : List Opd)
  deriving Inhabited

structure AOr where
  dst : Option Nat
  grd : Option (Nat × Bool)
  op : AOp
  deriving Inhabited

/-- Abstract code. -/
inductive AC where
  | skip
  | reg (dr : List (Nat × Nat)) (ops : List AOr) (kill : List Nat)
  | seq (a b : AC)
  | cond (c : Opd) (a b : AC)
  | block (id : Nat) (a : AC)
  | loop (a : AC)
  | exit (id : Nat)
  | ret
  | gc
  deriving Inhabited

inductive RV where
  | tmp (t : Nat)
  | cell (t : Nat) (k : Option Nat)
  deriving Inhabited

structure AFun where
  np : Nat
  nt : Nat
  body : AC
  res : List RV
  win : List (Option Nat)
  pur : Bool
  tw : Bool
  deriving Inhabited

inductive Ex where
  | norm
  | exit (id : Nat)
  | ret
  deriving Inhabited

structure St where
  t : List AV
  h : List AO

/-- What is laid down of a program: its functions, its variables' contents. -/
structure Lay where
  P : Program
  F : Nat → Option AFun
  G : Nat → Option (List Tr)

section
variable (L : Lay)

def nth : List AV → Nat → AV
  | [], _ => .junk
  | x :: _, 0 => x
  | _ :: xs, n + 1 => nth xs n

def put : List AV → Nat → AV → List AV
  | [], _, _ => []
  | _ :: xs, 0, v => v :: xs
  | x :: xs, n + 1, v => x :: put xs n v

def putO (ts : List AV) (d : Option Nat) (v : AV) : List AV :=
  match d with
  | none => ts
  | some n => put ts n v

/-- What is not read any more is forgotten: the listed temps alone are kept. -/
def killsGo (live : List Nat) : Nat → List AV → List AV
  | _, [] => []
  | k, x :: xs => sel (live.contains k) x .junk :: killsGo live (k + 1) xs

def kills (ts : List AV) (live : List Nat) : List AV := killsGo live 0 ts

def Opd.ev (ts : List AV) : Opd → AV
  | .t n => nth ts n
  | .c x => .t x
  | .f id => .clo id [] []
  | .g n => match L.G n with
    | some cs => .ip cs
    | none => .junk
  | .z => .nils

/-- A tree as the model's value, where it holds no slice. -/
def flatL : List Tr → Option (List Value)
  | [] => some []
  | .v x :: r => (flatL r).map (x :: ·)
  | _ :: _ => none

def Tr.flat : Tr → Option Value
  | .v x => some x
  | .sl _ => none
  | .agg cs => (flatL cs).map fun l => .agg l.toArray

/-- The model's value as a tree. -/
def ofV : Value → Tr
  | .agg cs => .agg (cs.toList.map .v)
  | x => .v x

/-- A value, or a struct of such. -/
def okR : Value → Bool
  | .agg cs => cs.toList.all (·.oneCell')
  | x => x.oneCell'

def ofR (r : Value) : Option AV := if okR r then some (.t (ofV r)) else none

/-- A computation that looks at the program alone. -/
def runP {α : Type} (P : Program) : Sem α → Option α
  | .pure a => some a
  | .program k => runP P (k P)
  | _ => none

def flat1 (P : Program) (f : Value → Sem Value) (a : AV) : Option AV :=
  match a with
  | .t x => (x.flat).bind fun u => (runP P (f u)).bind ofR
  | _ => none

def flat2 (P : Program) (f : Value → Value → Sem Value) (a b : AV) : Option AV :=
  match a, b with
  | .t x, .t y => (x.flat).bind fun u => (y.flat).bind fun v => (runP P (f u v)).bind ofR
  | _, _ => none

def binA (P : Program) (op : BinOp) (t : Nat) (a b : AV) : Option AV :=
  flat2 P (fun u v => do
    eqGuard op t (.tmp 0) (.tmp 0) u v
    binOp op t u v) a b

/-- What is read, as a tree that stays; the marks of a window that is read so are laid. -/
def fzL : List AV → Option (List Tr)
  | [] => some []
  | .t (.v x) :: r => (fzL r).map (.v x :: ·)
  | .t (.sl xs) :: r => (fzL r).map (.sl xs :: ·)
  | .nils :: r => (fzL r).map (.sl [] :: ·)
  | _ :: _ => none

def fzW (h : List AO) (r ver n : Nat) : Option (Tr × List AO) :=
  match h[r]? with
  | some (.arr e v xs m d) => if ver = v ∧ d ≤ n ∧ n ≤ xs.length then some (.sl (xs.take n), h.set r (.arr e v xs (max m n) d)) else none
  | _ => none

def fzC : List AV → List AO → Option (List Tr × List AO)
  | [], h => some ([], h)
  | .t (.v x) :: r, h => (fzC r h).map fun q => (.v x :: q.1, q.2)
  | .t (.sl xs) :: r, h => (fzC r h).map fun q => (.sl xs :: q.1, q.2)
  | .nils :: r, h => (fzC r h).map fun q => (.sl [] :: q.1, q.2)
  | .win r' ver n :: r, h => (fzW h r' ver n).bind fun p => (fzC r p.2).map fun q => (p.1 :: q.1, q.2)
  | _ :: _, _ => none

def fz (a : AV) (h : List AO) : Option (Tr × List AO) :=
  match a with
  | .t x => some (x, h)
  | .win r ver n => fzW h r ver n
  | .nils => some (.sl [], h)
  | .emp _ => some (.sl [], h)
  | .mix cs => (fzC cs h).map fun q => (.agg q.1, q.2)
  | _ => none

/-- Freeze where that can be done, leave alone what holds references. -/
def frz (a : AV) (h : List AO) : AV × List AO :=
  match fz a h with
  | some (x, h') => (.t x, h')
  | none => (a, h)

/-- An abstract value's cells. -/
def AV.cells : AV → List AV
  | .t x => x.cells.map .t
  | .mix cs => cs
  | a => [a]

/-- A value that may be laid into cells. -/
def AV.ok : AV → Bool
  | .junk => false
  | .tup _ => false
  | _ => true

/-- A zero's cell: nil is known to be nil. -/
def zAV : Tr → AV
  | .sl [] => .nils
  | x => .t x

/-- Cells as one value. -/
def ofCells (cs : List AV) : AV :=
  match fzL cs with
  | some l => .t (.agg l)
  | none => .mix cs

def takeC (cs : List AV) (off : Nat) (k : Option Nat) : Option AV :=
  match k with
  | none => cs[off]?
  | some n => if off + n ≤ cs.length then some (ofCells ((cs.drop off).take n)) else none

def takeT (cs : List Tr) (off : Nat) (k : Option Nat) : Option AV :=
  match k with
  | none => (cs[off]?).map .t
  | some n => if off + n ≤ cs.length then some (.t (.agg ((cs.drop off).take n))) else none

def setC : List AV → Nat → List AV → List AV
  | cs, _, [] => cs
  | cs, off, x :: r => setC (put cs off x) (off + 1) r

/-- One cell of a tree is written. -/
def setT : List Tr → Nat → List Tr → List Tr
  | cs, _, [] => cs
  | cs, off, x :: r => setT (cs.set off x) (off + 1) r

def asInt? : AV → Option Int
  | .t (.v (.int _ n)) => some n
  | _ => none

def asNat? (a : AV) : Option Nat := (asInt? a).bind fun n => if 0 ≤ n then some n.toNat else none

def isB : AV → Option Bool
  | .t (.v (.bool b)) => some b
  | _ => none

def bsT (s : List UInt8) : List Tr := s.map fun b => .v (.int .u8 (b.toNat : Int))

def ofBs : List Tr → Option (List UInt8)
  | [] => some []
  | .v (.int .u8 n) :: r => (ofBs r).map (UInt8.ofNat n.toNat :: ·)
  | _ :: _ => none

/-- A slice's content, read (no mark is laid: it is looked at and forgotten). -/
def lookS (h : List AO) : AV → Option (List Tr)
  | .t (.sl xs) => some xs
  | .nils => some []
  | .emp _ => some []
  | .win r ver n => (fzW h r ver n).bind fun p => match p.1 with
    | .sl xs => some xs
    | _ => none
  | _ => none

def lenS (a : AV) : Option Nat :=
  match a with
  | .t (.sl xs) => some xs.length
  | .nils => some 0
  | .emp _ => some 0
  | .win _ _ n => some n
  | _ => none

/-- The parts of a struct or an array, laid into its zero. -/
def fillC : List AV → List (Nat × Nat × AV) → Option (List AV)
  | z, [] => some z
  | z, (off, sz, a) :: r => if a.ok = true ∧ a.cells.length = sz ∧ off + sz ≤ z.length then fillC (setC z off a.cells) r else none

def fzs : List AV → List AO → Option (List Tr × List AO)
  | [], h => some ([], h)
  | a :: r, h => (fz a h).bind fun p => (fzs r p.2).map fun q => (p.1 :: q.1, q.2)

def maxLenB : Nat := 140737488355328

/-- The array behind a slice to which is appended: its place, its content; nil: a new one. -/
def appTo (h : List AO) (e : Nat) (a : AV) : Option (Nat × Nat × List Tr × Nat × Nat × List AO) :=
  match a with
  | .nils => some (h.length, 0, [], 0, 0, h ++ [.arr e 0 [] 0 0])
  | .win r ver n => match h[r]? with
    | some (.arr e' v xs m d) => if ver = v ∧ n = xs.length ∧ e' = e then some (r, v, xs, m, d, h) else none
    | _ => none
  | _ => none

def appW (h : List AO) (e sz bytes : Nat) (a : AV) (ys : List Tr) : Option (AV × List AO) :=
  (appTo h e a).bind fun (r, v, xs, m, d, h') =>
    if (xs.length + ys.length) * bytes ≤ maxLenB ∧ xs.length + ys.length ≤ maxLenB ∧ ys.all (fun y => y.cells.length = sz) = true then some (.win r v (xs.length + ys.length), h'.set r (.arr e v (xs ++ ys) m d)) else none

def cutW (h : List AO) (r ver n k : Nat) : Option (AV × List AO) :=
  match h[r]? with
  | some (.arr e v xs m d) => if ver = v ∧ n = xs.length ∧ k ≤ n ∧ m ≤ k ∧ d ≤ k then some (.win r (v + 1) k, h.set r (.arr e (v + 1) (xs.take k) m d)) else none
  | _ => none

def loadA (h : List AO) (k : Option Nat) : AV → Option AV
  | .ptr r off => match h[r]? with
    | some (.box cs) => takeC cs off k
    | _ => none
  | .ep r ver n j off => match h[r]? with
    | some (.arr _ v xs _ _) => if ver = v ∧ n = xs.length then (xs[j]?).bind fun x => takeT x.cells off k else none
    | _ => none
  | .ip cs => takeT cs 0 k
  | _ => none

def setElem (x : Tr) (off : Nat) (cs : List Tr) : Option Tr :=
  if off + cs.length ≤ x.cells.length then match x with
    | .agg l => some (.agg (setT l off cs))
    | _ => match cs with
      | [c] => some c
      | _ => some x
  else none

def storeA (h : List AO) (n : Nat) (p a : AV) : Option (List AO) :=
  match p with
  | .ptr r off => if a.ok = true ∧ a.cells.length = n then match h[r]? with
      | some (.box cs) => if off + n ≤ cs.length then some (h.set r (.box (setC cs off a.cells))) else none
      | _ => none
    else none
  | .ep r ver w j off => (fz a h).bind fun (x, h') => if x.cells.length = n then match h'[r]? with
      | some (.arr e v xs m d) => if ver = v ∧ w = xs.length ∧ m ≤ j then (xs[j]?).bind fun y => (setElem y off x.cells).map fun y' => h'.set r (.arr e v (xs.set j y') m w) else none
      | _ => none
    else none
  | _ => none

/-- The operations that neither call nor want more than the operands and the heap. -/
def AOp.run (ts : List AV) (h : List AO) : AOp → Option (AV × List AO)
  | .mv x => some (x.ev L ts, h)
  | .nil e => some (.win h.length 0 0, h ++ [.arr e 0 [] 0 0])
  | .pick c a b => (isB (c.ev L ts)).map fun q => (sel q (a.ev L ts) (b.ev L ts), h)
  | .bin op t x y => (binA L.P op t (x.ev L ts) (y.ev L ts)).map (·, h)
  | .isnil no x => match x.ev L ts with
    | .nils => some (.t (.v (.bool (!no))), h)
    | .emp nl => some (.t (.v (.bool (nl != no))), h)
    | a => match lenS a with
      | some (_ + 1) => some (.t (.v (.bool no)), h)
      | _ => none
  | .un op x => (flat1 L.P (Op.unary op) (x.ev L ts)).map (·, h)
  | .conv s d x => (flat1 L.P (convert s d) (x.ev L ts)).map (·, h)
  | .b2s x => (lookS h (x.ev L ts)).bind fun xs => (ofBs xs).map fun l => (.t (.v (.string ⟨l.toArray⟩)), h)
  | .s2b _ x => match x.ev L ts with
    | .t (.v (.string s)) => some (.t (.sl (bsT s.data.toList)), h)
    | _ => none
  | .alloc z => some (.ptr h.length 0, h ++ [.box (z.map zAV)])
  | .box x => if (x.ev L ts).ok then some (.ptr h.length 0, h ++ [.box (x.ev L ts).cells]) else none
  | .build z ps => (fillC (z.map .t) (ps.map fun p => (p.1, p.2.1, p.2.2.ev L ts))).bind fun cs => match fzC cs h with
    | some q => some (.t (.agg q.1), q.2)
    | none => some (.mix cs, h)
  | .buildq z ps => (fillC (z.map .t) (ps.map fun p => (p.1, p.2.1, p.2.2.ev L ts))).bind fun cs => (fzL cs).map fun l => (.t (.agg l), h)
  | .bslice e z cnt ps => (fzs (ps.map fun p => p.2.ev L ts) h).bind fun q =>
      if ps.map (·.1) = List.range cnt ∧ q.1.all (fun x => x.cells.length = z.cells.length) then some (.win q.2.length 0 cnt, q.2 ++ [.arr e 0 q.1 0 0]) else none
  | .mksl e z bytes x => (asNat? (x.ev L ts)).bind fun k => if bytes * k ≤ 281474976710656 ∧ k ≤ maxLenB then some (.win h.length 0 k, h ++ [.arr e 0 (List.replicate k z) 0 0]) else none
  | .load k x => (loadA h k (x.ev L ts)).map (·, h)
  | .store n x y => (storeA h n (x.ev L ts) (y.ev L ts)).map (.junk, ·)
  | .nilck x => match x.ev L ts with
    | .ptr r o => some (.ptr r o, h)
    | .ep r v n k o => some (.ep r v n k o, h)
    | .ip cs => some (.ip cs, h)
    | .clo f a b => some (.clo f a b, h)
    | _ => none
  | .mkf f first cap => some (.clo f (first.map (·.ev L ts)) (cap.map (·.ev L ts)), h)
  | .ssl x lo hi => match x.ev L ts with
    | .t (.v (.string s)) =>
      (match hi with | some o => asNat? (o.ev L ts) | none => some s.size).bind fun b =>
      (match lo with | some o => asNat? (o.ev L ts) | none => some 0).bind fun a =>
      if a ≤ b ∧ b ≤ s.size then some (.t (.v (.string (s.extract a b))), h) else none
    | _ => none
  | .sl sz cut x lo hi =>
      (lenS (x.ev L ts)).bind fun n =>
      (match hi with | some o => asNat? (o.ev L ts) | none => some n).bind fun b =>
      (match lo with | some o => asNat? (o.ev L ts) | none => some 0).bind fun a =>
      if a ≤ b ∧ b ≤ n then
        if cut then match x.ev L ts, lo with
          | .win r v k, none => cutW h r v k b
          | _, _ => none
        else (fz (x.ev L ts) h).bind fun q => match q.1 with
          | .sl xs => if lo.isNone = true ∨ xs.all (fun y => y.cells.length = sz) = true then some (.t (.sl ((xs.take b).drop a)), q.2) else none
          | _ => none
      else none
  | .fadr off x => match x.ev L ts with
    | .ptr r o => some (.ptr r (o + off), h)
    | .ep r v n k o => some (.ep r v n k (o + off), h)
    | .ip cs => some (.ip (cs.drop off), h)
    | _ => none
  | .fld off k x => match x.ev L ts with
    | .t (.agg cs) => (takeT cs off k).map (·, h)
    | .mix cs => (takeC cs off k).map (·, h)
    | _ => none
  | .iadr e sz x i => (asNat? (i.ev L ts)).bind fun j => match x.ev L ts with
    | .t (.sl xs) => (xs[j]?).bind fun y => if y.cells.length = sz then some (.ip y.cells, h) else none
    | .win r v n => match h[r]? with
      | some (.arr e' v' xs _ _) => if v = v' ∧ e = e' ∧ j < n then
          if n = xs.length then some (.ep r v n j 0, h)
          else none
        else none
      | _ => none
    | _ => none
  | .iarr n sz x i => (asNat? (i.ev L ts)).bind fun j => if j < n then match x.ev L ts with
      | .ptr r o => some (.ptr r (o + j * sz), h)
      | .ip cs => some (.ip (cs.drop (j * sz)), h)
      | _ => none
    else none
  | .idx n sz k x i => (asNat? (i.ev L ts)).bind fun j => if j < n then match x.ev L ts with
      | .t (.agg cs) => (takeT cs (j * sz) k).map (·, h)
      | _ => none
    else none
  | .idxs x i => (asNat? (i.ev L ts)).bind fun j => match x.ev L ts with
    | .t (.v (.string s)) => (s.data.toList[j]?).map fun b => (.t (.v (.int .u8 (b.toNat : Int))), h)
    | _ => none
  | .extr x i => match x.ev L ts with
    | .tup xs => (xs[i]?).map (·, h)
    | _ => none
  | .len x => (lenS (x.ev L ts)).map fun (n : Nat) => (.t (.v (.int .i64 (n : Int))), h)
  | .lens x => match x.ev L ts with
    | .t (.v (.string s)) => some (.t (.v (.int .i64 (s.size : Int))), h)
    | _ => none
  | .lenc n => some (.t (.v (.int .i64 (n : Int))), h)
  | .app e sz bytes x y => (lookS h (y.ev L ts)).bind fun ys => appW h e sz bytes (x.ev L ts) ys
  | .apps e x y => match y.ev L ts with
    | .t (.v (.string s)) => appW h e 1 1 (x.ev L ts) (bsT s.data.toList)
    | _ => none
  | .mx xs => match xs with
    | [x, y] => (flat2 L.P Builtin.max2 (x.ev L ts) (y.ev L ts)).map (·, h)
    | _ => none
  | .mn xs => match xs with
    | [x, y] => (flat2 L.P Builtin.min2 (x.ev L ts) (y.ev L ts)).map (·, h)
    | _ => none
  | .rng x => match x.ev L ts with
    | .t (.v (.string s)) => some (.ptr h.length 0, h ++ [.iter s 0])
    | _ => none
  | .nxt x => match x.ev L ts with
    | .ptr r 0 => match h[r]? with
      | some (.iter s pos) =>
        if pos < s.size then some (.tup [.t (.v (.bool true)), .t (.v (.int .i64 (pos : Int))), .t (.v (.int .i32 ((Utf8.decode s pos).1 : Int)))], h.set r (.iter s (pos + (Utf8.decode s pos).2)))
        else some (.tup [.t (.v (.bool false))], h)
      | _ => none
    | _ => none
  | .call _ _ => none
  | .callv _ _ => none
  | .callq _ _ => none

/-! ### The references in a value; the part of the heap that a call sees -/
def refs : AV → List Nat
  | .win r _ _ => [r]
  | .ptr r _ => [r]
  | .ep r _ _ _ _ => [r]
  | .clo _ a b => refsL a ++ refsL b
  | .mix cs => refsL cs
  | .tup xs => refsL xs
  | .t _ => []
  | .ip _ => []
  | .nils => []
  | .emp _ => []
  | .junk => []
where
  refsL : List AV → List Nat
    | [] => []
    | x :: r => refs x ++ refsL r

def ren (ρ : Nat → Nat) : AV → AV
  | .win r v n => .win (ρ r) v n
  | .ptr r o => .ptr (ρ r) o
  | .ep r v n k o => .ep (ρ r) v n k o
  | .clo f a b => .clo f (renL a) (renL b)
  | .mix cs => .mix (renL cs)
  | .tup xs => .tup (renL xs)
  | .t x => .t x
  | .ip cs => .ip cs
  | .nils => .nils
  | .emp nl => .emp nl
  | .junk => .junk
where
  renL : List AV → List AV
    | [] => []
    | x :: r => ren ρ x :: renL r

def AO.refs : AO → List Nat
  | .box cs => refs.refsL cs
  | _ => []

def AO.ren (ρ : Nat → Nat) : AO → AO
  | .box cs => .box (ren.renL ρ cs)
  | o => o

/-- All that is reached from a list of places, each once. -/
def reach (h : List AO) : Nat → List Nat → List Nat → Option (List Nat)
  | _, [], seen => some seen
  | 0, _ :: _, _ => none
  | k + 1, r :: todo, seen => if seen.contains r then reach h k todo seen else match h[r]? with
    | some o => reach h k (o.refs ++ todo) (seen ++ [r])
    | none => none

def at_ (l : List Nat) (d : Nat) (i : Nat) : Nat := l.getD i d

/-- The arguments, each as the callee takes it: a slice that is no window of hers is frozen. -/
def coerce1 (a : AV) (e : Nat) (h : List AO) : AV × List AO :=
  match a with
  | .nils => (.win h.length 0 0, h ++ [.arr e 0 [] 0 0])
  | a => (a, h)

def coerce : List AV → List (Option Nat) → List AO → List AV × List AO
  | [], _, h => ([], h)
  | a :: r, [], h => let p := frz a h; let q := coerce r [] p.2; (p.1 :: q.1, q.2)
  | a :: r, some e :: m, h => let p := coerce1 a e h; let q := coerce r m p.2; (p.1 :: q.1, q.2)
  | a :: r, none :: m, h => let p := frz a h; let q := coerce r m p.2; (p.1 :: q.1, q.2)

def pick (h : List AO) (ids : List Nat) : List AO := ids.map fun i => h.getD i .dead

/-- The callee's things are written back. -/
def back (h : List AO) : List Nat → List AO → List AO
  | [], more => h ++ more
  | i :: r, o :: h1 => back (h.set i o) r h1
  | _ :: _, [] => h

def backρ (ids : List Nat) (base : Nat) (i : Nat) : Nat := if i < ids.length then ids.getD i 0 else base + (i - ids.length)

/-- A call by its meaning C: the arguments, the part of the heap that they reach, and back. -/
def doCall (C : Nat → List AV → List AO → Option (AV × List AO)) (f : Nat) (args : List AV) (h : List AO) : Option (AV × List AO) :=
  match L.F f with
  | none => none
  | some af =>
    let q := coerce args af.win h
    (reach q.2 (q.2.length + q.2.length + args.length + 8) (refs.refsL q.1) []).bind fun ids =>
      (C f (ren.renL (fun r => ids.idxOf r) q.1) ((pick q.2 ids).map (AO.ren fun r => ids.idxOf r))).bind fun p =>
        if ids.length ≤ p.2.length then
          some (ren (backρ ids q.2.length) p.1, back q.2 ids (p.2.map (AO.ren (backρ ids q.2.length))))
        else none

/-- The last things of the heap that nothing leads to are dropped. -/
def trimGo (base : Nat) (rs : List Nat) : Nat → List AO → List AO
  | 0, h => h
  | k + 1, h => if decide (k < base) || (rs.contains k || (h.flatMap AO.refs).contains k) then h else trimGo base rs k (h.take k)

def trim (base : Nat) (ts : List AV) (h : List AO) : List AO := trimGo base (refs.refsL ts) h.length h

/-- What a call leaves: no more than what it was handed, and what its result reaches. -/
def gc (k : Nat) (a : AV) (h : List AO) : AV × List AO :=
  let low := ((h.take k).flatMap AO.refs).all (· < k)
  if low && (refs a).all (· < k) then (a, h.take k)
  else match a with
    | .win r ver n => if low then (.win k ver n, h.take k ++ [h.getD r .dead]) else (a, h)
    | a => (a, h)

def resOne (s : St) : RV → Option AV
  | .tmp t => some (nth s.t t)
  | .cell t k => loadA s.h k (nth s.t t)

def resAll (s : St) : List RV → Option (List AV)
  | [] => some []
  | r :: rs => (resOne s r).bind fun a => (resAll s rs).map (a :: ·)

def frzAll : List AV → List AO → List AV × List AO
  | [], h => ([], h)
  | a :: r, h => let p := frz a h; let q := frzAll r p.2; (p.1 :: q.1, q.2)

def finish (af : AFun) (k : Nat) (s : St) : Option (AV × List AO) :=
  (resAll s af.res).map fun l =>
    let q := if af.pur then frzAll l s.h else (l, s.h)
    gc k (match q.1 with | [a] => a | l => .tup l) q.2

/-- Is an operation wanted? What was not wanted yields nothing, and nothing is not wanted. -/
def guardB (a : AV) (w : Bool) : Option Bool :=
  match a with
  | .tup [] => some false
  | a => (isB a).map fun b => sel w b (!b)

def guardOf (ts : List AV) : Option (Nat × Bool) → Option Bool
  | none => some true
  | some (t, w) => guardB (nth ts t) w

/-! ### the same, seen at once -/
def vFast : Value → Value → Bool
  | .bool a, .bool b => a == b
  | .int k a, .int l b => decide (k = l) && decide (a = b)
  | .string a, .string b => decide (a.data.toList = b.data.toList)
  | .nilFunc, .nilFunc => true
  | .nilIface, .nilIface => true
  | .pointer none, .pointer none => true
  | _, _ => false

def trFast : Tr → Tr → Bool
  | .v a, .v b => vFast a b
  | .sl a, .sl b => trsFast a b
  | .agg a, .agg b => trsFast a b
  | _, _ => false
where
  trsFast : List Tr → List Tr → Bool
    | [], [] => true
    | a :: r, b :: q => trFast a b && trsFast r q
    | _, _ => false

def avFast : AV → AV → Bool
  | .t a, .t b => trFast a b
  | .win r v n, .win r' v' n' => r == r' && v == v' && n == n'
  | .ptr r o, .ptr r' o' => r == r' && o == o'
  | .ep r v n k o, .ep r' v' n' k' o' => r == r' && v == v' && n == n' && k == k' && o == o'
  | .ip a, .ip b => trFast.trsFast a b
  | .nils, .nils => true
  | .junk, .junk => true
  | _, _ => false

def avsFast : List AV → List AV → Bool
  | [], [] => true
  | a :: r, b :: q => avFast a b && avsFast r q
  | _, _ => false

def aoFast : AO → AO → Bool
  | .box a, .box b => avsFast a b
  | .arr e v xs m d, .arr e' v' xs' m' d' => e == e' && v == v' && trFast.trsFast xs xs' && m == m' && d == d'
  | .dead, .dead => true
  | _, _ => false

def heapFast : List AO → List AO → Bool
  | [], [] => true
  | a :: r, b :: q => aoFast a b && heapFast r q
  | _, _ => false

/-- The same heap: seen at once, or known. -/
noncomputable def eqvH (a b : List AO) : Bool := heapFast a b || @decide (a = b) (Classical.propDecidable _)

/-- A call that leaves the heap as it was. -/
noncomputable def quiet (h : List AO) (x : Option (AV × List AO)) : Option (AV × List AO) := x.bind fun p => if eqvH p.2 h = true then some (p.1, h) else none

/-- One operation, calls by C. -/
noncomputable def opC (C : Nat → List AV → List AO → Option (AV × List AO)) (ts : List AV) (h : List AO) : AOp → Option (AV × List AO)
  | .call f args => doCall L C f (args.map (·.ev L ts)) h
  | .callv x args => match x.ev L ts with
    | .clo f a b => doCall L C f (a ++ args.map (·.ev L ts) ++ b) h
    | _ => none
  | .callq f args => quiet h (doCall L C f (args.map (·.ev L ts)) h)
  | o => o.run L ts h

noncomputable def opsC (C : Nat → List AV → List AO → Option (AV × List AO)) : List AOr → St → Option St
  | [], s => some s
  | o :: r, s => (guardOf s.t o.grd).bind fun g =>
      (sel g (opC L C s.t s.h o.op) (some (.tup [], s.h))).bind fun p => opsC C r ⟨putO s.t o.dst p.1, p.2⟩

/-! ### regions whose order is drawn -/
/-- The same value: seen at once, or known. -/
noncomputable def eqv (a b : AV) : Bool := avFast a b || @decide (a = b) (Classical.propDecidable _)

/-- 0: looks at its operands alone; 1: looks at the heap; 2: may change the heap. -/
def AOp.kind : AOp → Nat
  | .load _ _ => 1
  | .iadr _ _ _ _ => 1
  | .b2s _ => 1
  | .callq _ _ => 1
  | .nil _ => 2
  | .alloc _ => 2
  | .box _ => 2
  | .build _ _ => 2
  | .bslice _ _ _ _ => 2
  | .mksl _ _ _ _ => 2
  | .store _ _ _ => 2
  | .sl _ _ _ _ _ => 2
  | .app _ _ _ _ _ => 2
  | .apps _ _ _ => 2
  | .rng _ => 2
  | .nxt _ => 2
  | .call _ _ => 2
  | .callv _ _ => 2
  | _ => 0

/-- At another time it comes to the same. -/
noncomputable def altC (C : Nat → List AV → List AO → Option (AV × List AO)) (ts : List AV) (o : AOp) (v : AV) : List (List AO) → Bool
  | [] => true
  | h :: r => (match opC L C ts h o with | some p => eqv p.1 v | none => false) && altC C ts o v r

noncomputable def opsD (C : Nat → List AV → List AO → Option (AV × List AO)) : List (Nat × Nat) → List AOr → List (List AO) → St → Option (St × List (List AO))
  | _, [], _, s => some (s, [])
  | dr, o :: r, past, s => (guardOf s.t o.grd).bind fun g =>
      (sel g (opC L C s.t s.h o.op) (some (.tup [], s.h))).bind fun p =>
        (opsD C dr.tail r (if o.op.kind = 2 then s.h :: past else past) ⟨putO s.t o.dst p.1, p.2⟩).bind fun q =>
          if sel g (altC L C s.t o.op p.1 (past.take (dr.headD (0, 0)).1 ++ q.2.take (dr.headD (0, 0)).2)) true = true then
            some (q.1, if o.op.kind = 2 then p.2 :: q.2 else q.2)
          else none

noncomputable def regC (C : Nat → List AV → List AO → Option (AV × List AO)) (dr : List (Nat × Nat)) (ops : List AOr) (s : St) : Option St :=
  match dr with
  | [] => opsC L C ops s
  | d :: r => (opsD L C (d :: r) ops [] s).map (·.1)

def loopN (body : St → Option (Ex × St)) : Nat → St → Option (Ex × St)
  | 0, _ => none
  | n + 1, s => (body s).bind fun p => match p.1 with
    | .norm => loopN body n p.2
    | e => some (e, p.2)

noncomputable def execC (C : Nat → List AV → List AO → Option (AV × List AO)) (n kb : Nat) : AC → St → Option (Ex × St)
  | .skip, s => some (.norm, s)
  | .reg dr ops kl, s => (regC L C dr ops s).map fun s' => (.norm, ⟨kills s'.t kl, s'.h⟩)
  | .seq a b, s => (execC C n kb a s).bind fun p => match p.1 with
    | .norm => execC C n kb b p.2
    | e => some (e, p.2)
  | .cond c a b, s => (isB (c.ev L s.t)).bind fun q => sel q (execC C n kb a s) (execC C n kb b s)
  | .block id a, s => (execC C n kb a s).map fun p => match p.1 with
    | .exit j => (if j = id then .norm else .exit j, p.2)
    | e => (e, p.2)
  | .loop a, s => loopN (execC C n kb a) n s
  | .exit id, s => some (.exit id, s)
  | .ret, s => some (.ret, s)
  | .gc, s => some (.norm, ⟨s.t, trim kb s.t s.h⟩)

/-- A function's own course. -/
noncomputable def bodyC (C : Nat → List AV → List AO → Option (AV × List AO)) (n : Nat) (af : AFun) (args : List AV) (h : List AO) : Option (AV × List AO) :=
  if args.length = af.np then
    (execC L C n h.length af.body ⟨args ++ List.replicate (af.nt - af.np) .junk, h⟩).bind fun p => match p.1 with
      | .exit _ => none
      | _ => finish af h.length p.2
  else none

def resFast : Option (AV × List AO) → Option (AV × List AO) → Bool
  | some a, some b => avFast a.1 b.1 && heapFast a.2 b.2
  | _, _ => false
noncomputable def both (x y : Option (AV × List AO)) : Option (AV × List AO) := if (resFast x y || @decide (x = y) (Classical.propDecidable _)) = true then x else none

/-- A first argument that is empty, and may be nil or not: both courses. -/
noncomputable def twin (run : List AV → Option (AV × List AO)) : List AV → Option (AV × List AO)
  | .t (.sl []) :: r => both (run (.emp true :: r)) (run (.emp false :: r))
  | l => run l

noncomputable def runF (C : Nat → List AV → List AO → Option (AV × List AO)) (n : Nat) (af : AFun) (args : List AV) (h : List AO) : Option (AV × List AO) :=
  if af.tw = true then twin (fun l => bodyC L C n af l h) args else bodyC L C n af args h

noncomputable def callN : Nat → Nat → List AV → List AO → Option (AV × List AO)
  | 0, _, _, _ => none
  | n + 1, f, args, h => match L.F f with
    | none => none
    | some af => runF L (callN n) n af args h
end
end Go.Proofs.YtgehpjjpeddomaaGreatDoor
/- How the abstract code comes of the translation's code: a function of Lean's, to be held against what was laid by the kernel. -/
namespace Go.Proofs.YtgehpjjpeddomaaGreatDoor
open Go

def one1 : Value → Bool
  | .agg _ | .tuple _ => false
  | .slice none 0 0 => true
  | .slice _ _ _ => false
  | _ => true

/-- A constant, a zero, as a tree. -/
def trOf1 : Value → Tr
  | .slice none 0 0 => .sl []
  | x => .v x

def trOf : Value → Tr
  | .agg cs => .agg (cs.toList.map trOf1)
  | x => trOf1 x

def okV : Value → Bool
  | .agg cs => cs.toList.all one1
  | x => one1 x

def compOpd : Operand → Option Opd
  | .tmp t => some (.t t)
  | .const (.slice none 0 0) => some .z
  | .const v => if okV v then some (.c (trOf v)) else none
  | .func f => some (.f f)
  | .global g => some (.g g)

def compL : List Operand → Option (List Opd)
  | [] => some []
  | x :: r => (compOpd x).bind fun a => (compL r).map (a :: ·)

def compO : Option Operand → Option (Option Opd)
  | none => some none
  | some x => (compOpd x).map some

section
variable (P : Program)

def aggK (t : TypeId) : Option (Option Nat) :=
  match P.underlying t, P.info? t with
  | some (.struct _), some i => some (some i.size)
  | some (.array _ _), some i => some (some i.size)
  | some _, some i => if i.size = 1 then some none else none
  | _, _ => none

def zeroT (t : TypeId) : Option Tr :=
  match P.info? t with
  | some i => match i.zero with
    | some z => if okV z && z.cells.size == i.size then some (trOf z) else none
    | none => none
  | none => none

/-- The zero of what is laid into rows: it must have cells. -/
def zeroE (t : TypeId) : Option Tr := (zeroT P t).bind fun z => if 0 < z.cells.length then some z else none

def sizeA (t : TypeId) : Option Nat := (P.info? t).map (·.size)

def compParts (place : Nat → Option (Nat × Nat)) : List (Nat × Operand) → Option (List (Nat × Nat × Opd))
  | [] => some []
  | (i, x) :: r => (place i).bind fun p => (compOpd x).bind fun a => (compParts place r).map ((p.1, p.2, a) :: ·)

def compPairs : List (Nat × Operand) → Option (List (Nat × Opd))
  | [] => some []
  | (i, x) :: r => (compOpd x).bind fun a => (compPairs r).map ((i, a) :: ·)

def placesOf : List Field → Option (List (Nat × Nat))
  | [] => some []
  | f :: r => (sizeA P f.type).bind fun s => (placesOf r).map ((f.offset, s) :: ·)

def isNilC : Operand → Bool
  | .const (.slice none 0 0) => true
  | _ => false

def compCall (c : Call) : Option AOp :=
  match c.callee, c.args.toList, c.argTypes.toList with
  | .value (.func f), args, _ => (compL args).map (.call f)
  | .value x, args, _ => (compOpd x).bind fun a => (compL args).map (.callv a)
  | .builtin .len, [x], [t] => (compOpd x).bind fun a => match P.underlying t with
    | some .string => some (.lens a)
    | some (.slice _) => some (.len a)
    | some (.array n _) => some (.lenc n)
    | _ => none
  | .builtin .append, [x, y], [t, u] => (compOpd x).bind fun a => (compOpd y).bind fun b => match P.underlying t, P.underlying u with
    | some (.slice e), some (.slice e') => (zeroE P e).bind fun _ => (P.info? e).bind fun i => if t = u ∧ e = e' then some (.app e i.size i.bytes a b) else none
    | some (.slice e), some .string => match P.underlying e, P.info? e with
      | some (.int .u8), some i => if i.size = 1 ∧ i.bytes = 1 ∧ (zeroE P e).isSome then some (.apps e a b) else none
      | _, _ => none
    | _, _ => none
  | .builtin .max, [x, y], _ => (compL [x, y]).map .mx
  | .builtin .min, [x, y], _ => (compL [x, y]).map .mn
  | _, _, _ => none

def compOp : Op → Option AOp
  | .move x => (compOpd x).map .mv
  | .assign x => (compOpd x).map .mv
  | .pick c a b => (compOpd c).bind fun c => (compOpd a).bind fun a => (compOpd b).map fun b => .pick c a b
  | .alloc e => (zeroT P e).map fun z => .alloc z.cells
  | .box _ x => (compOpd x).map .box
  | .build t ps => match P.underlying t with
    | some (.struct fs) => (zeroT P t).bind fun z => (placesOf P fs.toList).bind fun l => (compParts (fun i => l[i]?) ps.toList).map (.build z.cells)
    | some (.array _ e) => (zeroT P t).bind fun z => (sizeA P e).bind fun s => (compParts (fun i => some (i * s, s)) ps.toList).map (.build z.cells)
    | _ => none
  | .buildSlice t n ps => match P.underlying t with
    | some (.slice e) => (zeroE P e).bind fun z => if n * z.cells.length ≤ 16777216 then (compPairs ps.toList).map (.bslice e z n) else none
    | _ => none
  | .makeSlice t (.tmp x) (.tmp y) => match P.underlying t with
    | some (.slice e) => (zeroE P e).bind fun z => (P.info? e).bind fun i => if x = y then some (.mksl e z i.bytes (.t x)) else none
    | _ => none
  | .load t x => (aggK P t).bind fun k => (compOpd x).map (.load k)
  | .store t x y => (sizeA P t).bind fun n => (compOpd x).bind fun a => (compOpd y).map fun b => .store n a b
  | .nilCheck x => (compOpd x).map .nilck
  | .binOp op t x y _ => match P.underlying t with
    | some (.slice _) => if isNilC y then match op with
        | .eql => (compOpd x).map (.isnil false)
        | .neq => (compOpd x).map (.isnil true)
        | _ => none
      else none
    | _ => (compOpd x).bind fun a => (compOpd y).map fun b => .bin op t a b
  | .unOp op _ x => (compOpd x).map (.un op)
  | .convert s d x => match P.underlying s, P.underlying d with
    | some (.slice e), some .string => match P.underlying e with
      | some (.int .u8) => (compOpd x).map .b2s
      | _ => none
    | some .string, some (.slice e) => match P.underlying e with
      | some (.int .u8) => (compOpd x).map (.s2b e)
      | _ => none
    | some _, some _ => (compOpd x).map (.conv s d)
    | _, _ => none
  | .makeFunc (.func f) first cap => (compL first.toList).bind fun a => (compL cap.toList).map (.mkf f a)
  | .slice t x lo hi none => (compOpd x).bind fun a => (compO lo).bind fun l => (compO hi).bind fun h => match P.underlying t with
    | some .string => some (.ssl a l h)
    | some (.slice e) => (sizeA P e).map fun s => .sl s false a l h
    | _ => none
  | .fieldAddr s x f => match P.underlying s with
    | some (.struct fs) => (fs[f]?).bind fun fd => (sizeA P fd.type).bind fun n => if n = 0 then none else (compOpd x).map (.fadr fd.offset)
    | _ => none
  | .field s x f => match P.underlying s with
    | some (.struct fs) => (fs[f]?).bind fun fd => (aggK P fd.type).bind fun k => (compOpd x).map (.fld fd.offset k)
    | _ => none
  | .indexAddr t x i => (compOpd x).bind fun a => (compOpd i).bind fun j => match P.underlying t with
    | some (.slice e) => (sizeA P e).map fun s => .iadr e s a j
    | some (.array n e) => (sizeA P e).map fun s => .iarr n s a j
    | _ => none
  | .index t x i => (compOpd x).bind fun a => (compOpd i).bind fun j => match P.underlying t with
    | some .string => some (.idxs a j)
    | some (.array n e) => (sizeA P e).bind fun s => (aggK P e).map fun k => .idx n s k a j
    | _ => none
  | .extract x i => (compOpd x).map fun a => .extr a i
  | .range t x => match P.underlying t with
    | some .string => (compOpd x).map .rng
    | _ => none
  | .next x true => (compOpd x).map .nxt
  | .call c => compCall P c
  | _ => none

def compGrd (ops : Array Oper) : Option (Nat × Bool) → Option (Option (Nat × Bool))
  | none => some none
  | some (j, w) => match (ops[j]?).bind (·.dst) with
    | some t => some (some (t, w))
    | none => none

def compOps (ops : Array Oper) : List Oper → Option (List AOr)
  | [] => some []
  | o :: r => (compGrd ops o.guard).bind fun g => (compOp P o.op).bind fun a => (compOps ops r).map (⟨o.dst, g, a⟩ :: ·)

/-! ### regions whose order is drawn -/
def Opd.temps : Opd → List Nat
  | .t n => [n]
  | _ => []

def optTemps : Option Opd → List Nat
  | some x => x.temps
  | none => []

def AOp.temps : AOp → List Nat
  | .mv x => x.temps
  | .nil _ => []
  | .pick c a b => c.temps ++ a.temps ++ b.temps
  | .bin _ _ x y => x.temps ++ y.temps
  | .un _ x => x.temps
  | .isnil _ x => x.temps
  | .conv _ _ x => x.temps
  | .b2s x => x.temps
  | .s2b _ x => x.temps
  | .alloc _ => []
  | .box x => x.temps
  | .build _ ps => ps.flatMap fun p => p.2.2.temps
  | .buildq _ ps => ps.flatMap fun p => p.2.2.temps
  | .bslice _ _ _ ps => ps.flatMap fun p => p.2.temps
  | .mksl _ _ _ x => x.temps
  | .load _ x => x.temps
  | .store _ x y => x.temps ++ y.temps
  | .nilck x => x.temps
  | .mkf _ a b => a.flatMap Opd.temps ++ b.flatMap Opd.temps
  | .ssl x lo hi => x.temps ++ optTemps lo ++ optTemps hi
  | .sl _ _ x lo hi => x.temps ++ optTemps lo ++ optTemps hi
  | .fadr _ x => x.temps
  | .fld _ _ x => x.temps
  | .iadr _ _ x i => x.temps ++ i.temps
  | .iarr _ _ x i => x.temps ++ i.temps
  | .idx _ _ _ x i => x.temps ++ i.temps
  | .idxs x i => x.temps ++ i.temps
  | .extr x _ => x.temps
  | .len x => x.temps
  | .lens x => x.temps
  | .lenc _ => []
  | .app _ _ _ x y => x.temps ++ y.temps
  | .apps _ x y => x.temps ++ y.temps
  | .mx xs => xs.flatMap Opd.temps
  | .mn xs => xs.flatMap Opd.temps
  | .rng x => x.temps
  | .nxt x => x.temps
  | .call _ args => args.flatMap Opd.temps
  | .callv x args => x.temps ++ args.flatMap Opd.temps
  | .callq _ args => args.flatMap Opd.temps

def AOr.temps (o : AOr) : List Nat := o.op.temps ++ match o.grd with
  | some (t, _) => [t]
  | none => []

/-- What lies before an operation, by the edges that bind always: bits. -/
def maskOf (acc : List Nat) (o : Oper) : Nat := o.after.toList.foldl (fun s e => match Region.binds .any e with
  | true => s ||| 2 ^ e.on ||| acc.getD e.on 0
  | false => s) 0

def masksGo : List Oper → List Nat → List Nat
  | [], acc => acc
  | o :: r, acc => masksGo r (acc ++ [maskOf acc o])

def writesIn (d : Option Nat) (l : List Nat) : Bool :=
  match d with
  | some t => l.contains t
  | none => false

/-- Two operations that must be in order. -/
def AOr.clash (a b : AOr) : Bool := writesIn a.dst b.temps || writesIn b.dst a.temps || writesIn a.dst b.dst.toList || (a.op.kind == 2 && b.op.kind == 2)

def clashOk (ms : List Nat) (l : List AOr) : Bool := (List.range l.length).all fun j => (List.range j).all fun i => !((l.getD i default).clash (l.getD j default)) || (ms.getD j 0).testBit i

def isCh (l : List AOr) (i : Nat) : Bool := (l.getD i default).op.kind == 2

def loOf (ms : List Nat) (l : List AOr) (i : Nat) : Nat := (List.range l.length).countP fun c => isCh l c && (ms.getD i 0).testBit c
def hiOf (ms : List Nat) (l : List AOr) (i : Nat) : Nat := (List.range l.length).countP fun c => isCh l c && !(ms.getD c 0).testBit i
def curOf (l : List AOr) (i : Nat) : Nat := (List.range i).countP (isCh l)

def drawInfo (mx : Bool) (ops : List Oper) (l : List AOr) : Option (List (Nat × Nat)) :=
  let ms := masksGo ops []
  if l.isEmpty = false ∧ (ops.zipIdx.all fun p => p.1.after.toList.all fun e => match Region.binds .any e with | true => decide (e.on < p.2) | false => mx) = true ∧ clashOk ms l = true then
    some ((List.range l.length).map fun i => if (l.getD i default).op.kind = 1 then (curOf l i - loOf ms l i, hiOf ms l i - curOf l i) else (0, 0))
  else none

/-- A call in a drawn region, taken as one that leaves the heap as it was. -/
def AOp.toq : AOp → AOp
  | .call f args => .callq f args
  | .build z ps => .buildq z ps
  | o => o

def AOp.unq : AOp → AOp
  | .callq f args => .call f args
  | .buildq z ps => .build z ps
  | o => o

def AOr.toq (o : AOr) : AOr := ⟨o.dst, o.grd, o.op.toq⟩

/-- The draws of a region, where calls are links of the chain; else where they leave the heap alone. -/
def drawn (mx : Bool) (ops : List Oper) (l : List AOr) : Option AC :=
  match drawInfo mx ops l with
  | some dr => some (.reg dr l [])
  | none => (drawInfo mx ops (l.map AOr.toq)).map fun dr => .reg dr (l.map AOr.toq) []

def comp : Code → Option AC
  | .skip => some .skip
  | .region _ ops d => (compOps P ops ops.toList).bind fun l => match d with
    | true => drawn (P.follows .mixedOrders) ops.toList l
    | false => some (.reg [] l [])
  | .seq a b => (comp a).bind fun a => (comp b).map (.seq a)
  | .cond c a b => (compOpd c).bind fun c => (comp a).bind fun a => (comp b).map (.cond c a)
  | .block id a => (comp a).map (.block id)
  | .loop a => (comp a).map .loop
  | .exit id => some (.exit id)
  | .ret => some .ret
  | _ => none

def compRes : List ResultVar → Option (List RV)
  | [] => some []
  | .tmp t :: r => (compRes r).map (.tmp t :: ·)
  | .cell t ty :: r => (aggK P ty).bind fun k => (compRes r).map (.cell t k :: ·)

def stripOp : AOp → AOp
  | .sl s _ x lo hi => .sl s false x lo hi
  | .nil _ => .mv .z
  | o => o

def strip : AC → AC
  | .seq a .gc => strip a
  | .seq a b => .seq (strip a) (strip b)
  | .reg d ops _ => .reg d (ops.map fun o => ⟨o.dst, o.grd, stripOp o.op⟩) []
  | .cond c a b => .cond c (strip a) (strip b)
  | .block id a => .block id (strip a)
  | .loop a => .loop (strip a)
  | .skip => .skip
  | .exit id => .exit id
  | .ret => .ret
  | .gc => .gc

/-- What the laid function is, without its marks; the translation's function, brought to the same form. -/
def AOp.nilOk : AOp → Bool
  | .nil e => (zeroE P e).isSome
  | _ => true

def AC.nilOk : AC → Bool
  | .reg d ops _ => (d.isEmpty || ops.all fun o => o.op.kind == (stripOp o.op).kind) && ops.all fun o => o.op.nilOk P
  | .seq a b => a.nilOk && b.nilOk
  | .cond _ a b => a.nilOk && b.nilOk
  | .block _ a => a.nilOk
  | .loop a => a.nilOk
  | _ => true

def winOk (a : AFun) : Bool := (a.win.all fun o => match o with | none => true | some e => (zeroE P e).isSome) && a.body.nilOk P

def AFun.form (a : AFun) : Option (Bool × Nat × Nat × AC × List RV) := some (winOk P a, a.np, a.nt, strip a.body, a.res)

def formOf (f : Func) : Option (Bool × Nat × Nat × AC × List RV) :=
  f.body.bind fun c => (comp P c).bind fun a => (compRes P f.results.toList).map fun r => (true, f.params.size + f.nfree, f.ntmps, a, r)
end
end Go.Proofs.YtgehpjjpeddomaaGreatDoor
