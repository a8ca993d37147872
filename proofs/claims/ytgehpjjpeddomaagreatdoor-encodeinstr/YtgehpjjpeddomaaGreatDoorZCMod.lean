/- Parts, one behind the other; the last: Typed trees: the modules and what they are made of. -/
import Derived.Test.YtgehpjjpeddomaaGreatDoorZCTyped
import Derived.Test.YtgehpjjpeddomaaGreatDoorZEvChk
import Derived.Test.YtgehpjjpeddomaaGreatDoorZCBase
set_option linter.all false
/- The data of the statements, as Lean's own, and their trees. -/
namespace Go.Proofs.YtgehpjjpeddomaaGreatDoor
open Go
set_option maxRecDepth 100000

structure FunT where
  params : List Int
  results : List Int
structure Lim where
  min : Int
  max : Int
  has : Bool
structure TabT where
  ref : Int
  l : Lim
structure GloT where
  type : Int
  mu : Bool
inductive Ins where
  | mk (op a b n h : Int) (l : List Int) (body els : List Ins) (other : Bool)
structure Imp where
  module : List UInt8
  name : List UInt8
  kind : Int
  type : Int
  table : TabT
  mem : Lim
  global : GloT
structure Exp where
  name : List UInt8
  kind : Int
  index : Int
structure Cod where
  type : Int
  locals : List Int
  body : List Ins
structure Glo where
  type : GloT
  init : List Ins
structure Elm where
  ref : Int
  mode : Int
  table : Int
  offset : List Ins
  init : List (List Ins)
structure Dat where
  mode : Int
  mem : Int
  offset : List Ins
  bytes : List UInt8
structure Mod where
  types : List FunT
  imports : List Imp
  funcs : List Cod
  tables : List TabT
  mems : List Lim
  globals : List Glo
  exports : List Exp
  start : Int
  elems : List Elm
  datas : List Dat
  count : Bool

def Ins.op : Ins → Int | .mk op _ _ _ _ _ _ _ _ => op
def Ins.a : Ins → Int | .mk _ a _ _ _ _ _ _ _ => a
def Ins.b : Ins → Int | .mk _ _ b _ _ _ _ _ _ => b
def Ins.n : Ins → Int | .mk _ _ _ n _ _ _ _ _ => n
def Ins.h : Ins → Int | .mk _ _ _ _ h _ _ _ _ => h
def Ins.l : Ins → List Int | .mk _ _ _ _ _ l _ _ _ => l
def Ins.body : Ins → List Ins | .mk _ _ _ _ _ _ b _ _ => b
def Ins.els : Ins → List Ins | .mk _ _ _ _ _ _ _ e _ => e
def Ins.other : Ins → Bool | .mk _ _ _ _ _ _ _ _ o => o

abbrev tInt (n : Int) : Tr := .v (.int .i64 n)
abbrev ints (l : List Int) : List Tr := l.map tInt
abbrev str (s : List UInt8) : Tr := .v (.string ⟨s.toArray⟩)

mutual
def Ins.enc : Ins → Tr
  | .mk op a b n h l body els other => .agg [.v (.int .i64 op), .v (.int .i64 a), .v (.int .i64 b), .v (.int .u64 n), .v (.int .u64 h), .sl (ints l), .sl (encs body), .sl (encs els), .v (.bool other)]
def encs : List Ins → List Tr
  | [] => []
  | i :: r => i.enc :: encs r
end

theorem encs_map : ∀ (l : List Ins), encs l = l.map Ins.enc
  | [] => rfl
  | i :: r => by rw [encs, encs_map r]; rfl

theorem Ins.enc_eq (i : Ins) : i.enc = .agg [.v (.int .i64 i.op), .v (.int .i64 i.a), .v (.int .i64 i.b), .v (.int .u64 i.n), .v (.int .u64 i.h), .sl (ints i.l), .sl (i.body.map Ins.enc), .sl (i.els.map Ins.enc), .v (.bool i.other)] := by
  cases i
  simp only [Ins.enc, encs_map, Ins.op, Ins.a, Ins.b, Ins.n, Ins.h, Ins.l, Ins.body, Ins.els, Ins.other]

theorem ins_ind {P : List Ins → Prop} (h : ∀ l, (∀ i ∈ l, P i.body ∧ P i.els) → P l) : ∀ (n : Nat) (l : List Ins), SizeOf.sizeOf l ≤ n → P l
  | 0, l, hl => by cases l <;> simp at hl
  | n + 1, l, hl => h l fun i hi => by
    have h1 := List.sizeOf_lt_of_mem hi
    cases i with
    | mk op a b n' h' l' body els other =>
      simp only [Ins.mk.sizeOf_spec] at h1
      exact ⟨ins_ind h n body (by omega), ins_ind h n els (by omega)⟩

def FunT.enc (t : FunT) : Tr := .agg [.sl (ints t.params), .sl (ints t.results)]
def Lim.enc (l : Lim) : Tr := .agg [.v (.int .i64 l.min), .v (.int .i64 l.max), .v (.bool l.has)]
def TabT.enc (t : TabT) : Tr := .agg [.v (.int .i64 t.ref), .v (.int .i64 t.l.min), .v (.int .i64 t.l.max), .v (.bool t.l.has)]
def GloT.enc (t : GloT) : Tr := .agg [.v (.int .i64 t.type), .v (.bool t.mu)]
def Imp.enc (i : Imp) : Tr := .agg [str i.module, str i.name, .v (.int .i64 i.kind), .v (.int .i64 i.type), .v (.int .i64 i.table.ref), .v (.int .i64 i.table.l.min), .v (.int .i64 i.table.l.max), .v (.bool i.table.l.has),
  .v (.int .i64 i.mem.min), .v (.int .i64 i.mem.max), .v (.bool i.mem.has), .v (.int .i64 i.global.type), .v (.bool i.global.mu)]
def Exp.enc (x : Exp) : Tr := .agg [str x.name, .v (.int .i64 x.kind), .v (.int .i64 x.index)]
def Cod.enc (c : Cod) : Tr := .agg [.v (.int .i64 c.type), .sl (ints c.locals), .sl (c.body.map Ins.enc)]
def Glo.enc (g : Glo) : Tr := .agg [.v (.int .i64 g.type.type), .v (.bool g.type.mu), .sl (g.init.map Ins.enc)]
abbrev inss (l : List Ins) : Tr := .sl (l.map Ins.enc)
def Elm.enc (e : Elm) : Tr := .agg [.v (.int .i64 e.ref), .v (.int .i64 e.mode), .v (.int .i64 e.table), .sl (e.offset.map Ins.enc), .sl (e.init.map inss)]
def Dat.enc (d : Dat) : Tr := .agg [.v (.int .i64 d.mode), .v (.int .i64 d.mem), .sl (d.offset.map Ins.enc), .sl (bsT d.bytes)]
def Mod.enc (m : Mod) : Tr := .agg [.sl (m.types.map FunT.enc), .sl (m.imports.map Imp.enc), .sl (m.funcs.map Cod.enc), .sl (m.tables.map TabT.enc), .sl (m.mems.map Lim.enc), .sl (m.globals.map Glo.enc), .sl (m.exports.map Exp.enc),
  .v (.int .i64 m.start), .sl (m.elems.map Elm.enc), .sl (m.datas.map Dat.enc), .v (.bool m.count)]

/-! ### what is so of data that lies in memory -/
abbrev i64ok (n : Int) : Prop := -9223372036854775808 ≤ n ∧ n ≤ 9223372036854775807
abbrev u64ok (n : Int) : Prop := 0 ≤ n ∧ n ≤ 18446744073709551615
abbrev lenOk {α : Type} (l : List α) : Prop := l.length ≤ 9223372036854775807
abbrev intsOk (l : List Int) : Prop := lenOk l ∧ ∀ n ∈ l, i64ok n
mutual
def Ins.ok : Ins → Prop
  | .mk op a b n h l body els _ => i64ok op ∧ i64ok a ∧ i64ok b ∧ u64ok n ∧ u64ok h ∧ intsOk l ∧ lenOk body ∧ insOk body ∧ lenOk els ∧ insOk els
def insOk : List Ins → Prop
  | [] => True
  | i :: r => i.ok ∧ insOk r
end
theorem insOk_iff : ∀ (l : List Ins), insOk l ↔ ∀ i ∈ l, i.ok
  | [] => by simp [insOk]
  | i :: r => by simp [insOk, insOk_iff r]
def Inss (l : List Ins) : Prop := lenOk l ∧ ∀ i ∈ l, i.ok
theorem Ins.ok_iff (i : Ins) : i.ok ↔ i64ok i.op ∧ i64ok i.a ∧ i64ok i.b ∧ u64ok i.n ∧ u64ok i.h ∧ intsOk i.l ∧ Inss i.body ∧ Inss i.els := by
  cases i
  simp only [Ins.ok, insOk_iff, Inss, Ins.op, Ins.a, Ins.b, Ins.n, Ins.h, Ins.l, Ins.body, Ins.els, and_assoc]
def Lim.ok (l : Lim) : Prop := i64ok l.min ∧ i64ok l.max
def TabT.ok (t : TabT) : Prop := i64ok t.ref ∧ t.l.ok
def GloT.ok (t : GloT) : Prop := i64ok t.type
def FunT.ok (t : FunT) : Prop := intsOk t.params ∧ intsOk t.results
def Imp.ok (i : Imp) : Prop := lenOk i.module ∧ lenOk i.name ∧ i64ok i.kind ∧ i64ok i.type ∧ i.table.ok ∧ i.mem.ok ∧ i.global.ok
def Exp.ok (x : Exp) : Prop := lenOk x.name ∧ i64ok x.kind ∧ i64ok x.index
def Cod.ok (c : Cod) : Prop := i64ok c.type ∧ intsOk c.locals ∧ Inss c.body
def Glo.ok (g : Glo) : Prop := g.type.ok ∧ Inss g.init
def Elm.ok (e : Elm) : Prop := i64ok e.ref ∧ i64ok e.mode ∧ i64ok e.table ∧ Inss e.offset ∧ lenOk e.init ∧ ∀ l ∈ e.init, Inss l
def Dat.ok (d : Dat) : Prop := i64ok d.mode ∧ i64ok d.mem ∧ Inss d.offset ∧ lenOk d.bytes
structure Mod.ok (m : Mod) : Prop where
  typesL : lenOk m.types
  types : ∀ x ∈ m.types, x.ok
  importsL : lenOk m.imports
  imports : ∀ x ∈ m.imports, x.ok
  funcsL : lenOk m.funcs
  funcs : ∀ x ∈ m.funcs, x.ok
  tablesL : lenOk m.tables
  tables : ∀ x ∈ m.tables, x.ok
  memsL : lenOk m.mems
  mems : ∀ x ∈ m.mems, x.ok
  globalsL : lenOk m.globals
  globals : ∀ x ∈ m.globals, x.ok
  exportsL : lenOk m.exports
  exports : ∀ x ∈ m.exports, x.ok
  start : i64ok m.start
  elemsL : lenOk m.elems
  elems : ∀ x ∈ m.elems, x.ok
  datasL : lenOk m.datas
  datas : ∀ x ∈ m.datas, x.ok

/-! ### a typed tree is data -/
section
variable {n : Nat} {x : Tr}
theorem maxLen_eq : Go.maxLen = 9223372036854775807 := by decide
theorem t_int (h : HasT Tryz.prog n ty_int x) : ∃ i, x = .v (.int .i64 i) ∧ i64ok i := by
  cases n with
  | zero => exact h.elim
  | succ n =>
    simp only [HasT, und_int] at h
    obtain ⟨i, rfl, hw⟩ := h
    refine ⟨i, rfl, ?_⟩
    simpa [Lit.wf, IntKind.min, IntKind.max, IntKind.bits, IntKind.signed] using hw
theorem t_u64 (h : HasT Tryz.prog n ty_uint64 x) : ∃ i, x = .v (.int .u64 i) ∧ u64ok i := by
  cases n with
  | zero => exact h.elim
  | succ n =>
    simp only [HasT, und_uint64] at h
    obtain ⟨i, rfl, hw⟩ := h
    refine ⟨i, rfl, ?_⟩
    simpa [Lit.wf, IntKind.min, IntKind.max, IntKind.bits, IntKind.signed] using hw
theorem t_bool (h : HasT Tryz.prog n ty_bool x) : ∃ b, x = .v (.bool b) := by
  cases n with
  | zero => exact h.elim
  | succ n => simpa only [HasT, und_bool] using h
theorem t_str (h : HasT Tryz.prog n ty_string x) : ∃ s : List UInt8, x = str s ∧ lenOk s := by
  cases n with
  | zero => exact h.elim
  | succ n =>
    simp only [HasT, und_string] at h
    obtain ⟨s, rfl, hs⟩ := h
    exact ⟨s, rfl, by rw [maxLen_eq] at hs; exact hs⟩
/-- A slice of things that are data each. -/
theorem t_list {α : Type} {enc : α → Tr} {ok : α → Prop} {t e : Nat} (hu : Tryz.prog.underlying t = some (.slice e)) (he : ∀ m y, HasT Tryz.prog m e y → ∃ a, y = enc a ∧ ok a) (h : HasT Tryz.prog n t x) :
    ∃ l : List α, x = .sl (l.map enc) ∧ lenOk l ∧ ∀ a ∈ l, ok a := by
  cases n with
  | zero => exact h.elim
  | succ n =>
    simp only [HasT, hu] at h
    obtain ⟨xs, rfl, hl, hx⟩ := h
    rw [maxLen_eq] at hl
    have key : ∀ xs : List Tr, (∀ y ∈ xs, HasT Tryz.prog n e y) → ∃ l : List α, xs = l.map enc ∧ ∀ a ∈ l, ok a := by
      intro xs
      induction xs with
      | nil => exact fun _ => ⟨[], rfl, by simp⟩
      | cons y r ih =>
        intro h
        obtain ⟨a, rfl, ha⟩ := he n y (h y (by simp))
        obtain ⟨l, rfl, hl⟩ := ih fun z hz => h z (by simp [hz])
        exact ⟨a :: l, rfl, by simpa [ha] using hl⟩
    obtain ⟨l, rfl, h⟩ := key xs hx
    exact ⟨l, rfl, by simpa [lenOk] using hl, h⟩
theorem t_ints (h : HasT Tryz.prog n ty_s_int x) : ∃ l : List Int, x = .sl (ints l) ∧ intsOk l := t_list und_s_int (fun _ _ h => t_int h) h
theorem t_bytes (h : HasT Tryz.prog n ty_s_uint8 x) : ∃ l : List UInt8, x = .sl (bsT l) ∧ lenOk l := by
  obtain ⟨l, h1, h2, _⟩ := t_list (enc := fun b : UInt8 => .v (.int .u8 (b.toNat : Int))) (ok := fun _ => True) und_s_uint8 (fun m y h => by
    cases m with
    | zero => exact h.elim
    | succ m =>
      simp only [HasT, und_uint8] at h
      obtain ⟨i, rfl, hw⟩ := h
      have hi : 0 ≤ i ∧ i ≤ 255 := by simpa [Lit.wf, IntKind.min, IntKind.max, IntKind.bits, IntKind.signed] using hw
      refine ⟨UInt8.ofNat i.toNat, ?_, trivial⟩
      have : ((UInt8.ofNat i.toNat).toNat : Int) = i := by
        rw [UInt8.toNat_ofNat']
        omega
      rw [this]) h
  exact ⟨l, h1, h2⟩

theorem t_ins : ∀ {n : Nat} {x : Tr}, HasT Tryz.prog n ty_api_Instr x → ∃ i : Ins, x = i.enc ∧ i.ok
  | 0, x, h => h.elim
  | 1, x, h => by
    simp only [HasT, und_api_Instr] at h
    obtain ⟨ys, rfl, hy⟩ := h
    rcases ys with _ | ⟨y, r⟩
    · exact hy.elim
    · exact hy.1.elim
  | n + 2, x, h => by
    have ih := fun {x} => t_ins (n := n) (x := x)
    have ihl : ∀ y, HasT Tryz.prog (n + 1) ty_s_api_Instr y → ∃ l : List Ins, y = .sl (l.map Ins.enc) ∧ Inss l := fun y hy => by
      simp only [HasT, und_s_api_Instr] at hy
      obtain ⟨xs, rfl, hl, hx⟩ := hy
      rw [maxLen_eq] at hl
      have key : ∀ xs : List Tr, (∀ y ∈ xs, HasT Tryz.prog n ty_api_Instr y) → ∃ l : List Ins, xs = l.map Ins.enc ∧ ∀ a ∈ l, a.ok := by
        intro xs
        induction xs with
        | nil => exact fun _ => ⟨[], rfl, by simp⟩
        | cons y r ihx =>
          intro h
          obtain ⟨a, rfl, ha⟩ := ih (h y (by simp))
          obtain ⟨l, rfl, hl⟩ := ihx fun z hz => h z (by simp [hz])
          exact ⟨a :: l, rfl, by simpa [ha] using hl⟩
      obtain ⟨l, rfl, h⟩ := key xs hx
      exact ⟨l, rfl, by simpa [lenOk] using hl, h⟩
    rw [HasT] at h
    simp only [und_api_Instr] at h
    obtain ⟨ys, rfl, hy⟩ := h
    rcases ys with _ | ⟨y1, _ | ⟨y2, _ | ⟨y3, _ | ⟨y4, _ | ⟨y5, _ | ⟨y6, _ | ⟨y7, _ | ⟨y8, _ | ⟨y9, _ | ⟨y10, r⟩⟩⟩⟩⟩⟩⟩⟩⟩⟩ <;> simp only [All2, and_true, and_false, false_and] at hy
    obtain ⟨h1, h2, h3, h4, h5, h6, h7, h8, h9⟩ := hy
    obtain ⟨op, rfl, q1⟩ := t_int h1
    obtain ⟨a, rfl, q2⟩ := t_int h2
    obtain ⟨b, rfl, q3⟩ := t_int h3
    obtain ⟨n', rfl, q4⟩ := t_u64 h4
    obtain ⟨h', rfl, q5⟩ := t_u64 h5
    obtain ⟨l, rfl, q6⟩ := t_ints h6
    obtain ⟨body, rfl, q7⟩ := ihl _ h7
    obtain ⟨els, rfl, q8⟩ := ihl _ h8
    obtain ⟨other, rfl⟩ := t_bool h9
    exact ⟨.mk op a b n' h' l body els other, by rw [Ins.enc_eq]; rfl, by rw [Ins.ok_iff]; exact ⟨q1, q2, q3, q4, q5, q6, q7, q8⟩⟩
theorem t_inss (h : HasT Tryz.prog n ty_s_api_Instr x) : ∃ l : List Ins, x = inss l ∧ Inss l := t_list und_s_api_Instr (fun _ _ h => t_ins h) h
end
/-! ### a struct by its cells, and back -/
@[simp] theorem Ins.cells_eq (i : Ins) : i.enc.cells = [.v (.int .i64 i.op), .v (.int .i64 i.a), .v (.int .i64 i.b), .v (.int .u64 i.n), .v (.int .u64 i.h), .sl (ints i.l), .sl (i.body.map Ins.enc), .sl (i.els.map Ins.enc), .v (.bool i.other)] := by rw [Ins.enc_eq]; rfl
@[simp] theorem Ins.fold (i : Ins) : Tr.agg [.v (.int .i64 i.op), .v (.int .i64 i.a), .v (.int .i64 i.b), .v (.int .u64 i.n), .v (.int .u64 i.h), .sl (ints i.l), .sl (i.body.map Ins.enc), .sl (i.els.map Ins.enc), .v (.bool i.other)] = i.enc := by rw [Ins.enc_eq]
@[simp] theorem Ins.fld (i : Ins) (off : Nat) (k : Option Nat) : fldA off k (.t i.enc) = takeT i.enc.cells off k := by rw [Ins.enc_eq]; rfl
@[simp] theorem Ins.one (i : Ins) : i.enc.one = false := by rw [Ins.enc_eq]; rfl
@[simp] theorem FunT.cells_eq (t : FunT) : t.enc.cells = [.sl (ints t.params), .sl (ints t.results)] := by rfl
@[simp] theorem FunT.fold (t : FunT) : Tr.agg [.sl (ints t.params), .sl (ints t.results)] = t.enc := by rfl
@[simp] theorem FunT.fld (t : FunT) (off : Nat) (k : Option Nat) : fldA off k (.t t.enc) = takeT t.enc.cells off k := by rfl
@[simp] theorem FunT.one (t : FunT) : t.enc.one = false := by rfl
@[simp] theorem Lim.cells_eq (l : Lim) : l.enc.cells = [.v (.int .i64 l.min), .v (.int .i64 l.max), .v (.bool l.has)] := by rfl
@[simp] theorem Lim.fold (l : Lim) : Tr.agg [.v (.int .i64 l.min), .v (.int .i64 l.max), .v (.bool l.has)] = l.enc := by rfl
@[simp] theorem Lim.fld (l : Lim) (off : Nat) (k : Option Nat) : fldA off k (.t l.enc) = takeT l.enc.cells off k := by rfl
@[simp] theorem Lim.one (l : Lim) : l.enc.one = false := by rfl
@[simp] theorem TabT.cells_eq (t : TabT) : t.enc.cells = [.v (.int .i64 t.ref), .v (.int .i64 t.l.min), .v (.int .i64 t.l.max), .v (.bool t.l.has)] := by rfl
@[simp] theorem TabT.fold (t : TabT) : Tr.agg [.v (.int .i64 t.ref), .v (.int .i64 t.l.min), .v (.int .i64 t.l.max), .v (.bool t.l.has)] = t.enc := by rfl
@[simp] theorem TabT.fld (t : TabT) (off : Nat) (k : Option Nat) : fldA off k (.t t.enc) = takeT t.enc.cells off k := by rfl
@[simp] theorem TabT.one (t : TabT) : t.enc.one = false := by rfl
@[simp] theorem GloT.cells_eq (t : GloT) : t.enc.cells = [.v (.int .i64 t.type), .v (.bool t.mu)] := by rfl
@[simp] theorem GloT.fold (t : GloT) : Tr.agg [.v (.int .i64 t.type), .v (.bool t.mu)] = t.enc := by rfl
@[simp] theorem GloT.fld (t : GloT) (off : Nat) (k : Option Nat) : fldA off k (.t t.enc) = takeT t.enc.cells off k := by rfl
@[simp] theorem GloT.one (t : GloT) : t.enc.one = false := by rfl
@[simp] theorem Imp.cells_eq (i : Imp) : i.enc.cells = [str i.module, str i.name, .v (.int .i64 i.kind), .v (.int .i64 i.type), .v (.int .i64 i.table.ref), .v (.int .i64 i.table.l.min), .v (.int .i64 i.table.l.max), .v (.bool i.table.l.has),   .v (.int .i64 i.mem.min), .v (.int .i64 i.mem.max), .v (.bool i.mem.has), .v (.int .i64 i.global.type), .v (.bool i.global.mu)] := by rfl
@[simp] theorem Imp.fold (i : Imp) : Tr.agg [str i.module, str i.name, .v (.int .i64 i.kind), .v (.int .i64 i.type), .v (.int .i64 i.table.ref), .v (.int .i64 i.table.l.min), .v (.int .i64 i.table.l.max), .v (.bool i.table.l.has),   .v (.int .i64 i.mem.min), .v (.int .i64 i.mem.max), .v (.bool i.mem.has), .v (.int .i64 i.global.type), .v (.bool i.global.mu)] = i.enc := by rfl
@[simp] theorem Imp.fld (i : Imp) (off : Nat) (k : Option Nat) : fldA off k (.t i.enc) = takeT i.enc.cells off k := by rfl
@[simp] theorem Imp.one (i : Imp) : i.enc.one = false := by rfl
@[simp] theorem Exp.cells_eq (x : Exp) : x.enc.cells = [str x.name, .v (.int .i64 x.kind), .v (.int .i64 x.index)] := by rfl
@[simp] theorem Exp.fold (x : Exp) : Tr.agg [str x.name, .v (.int .i64 x.kind), .v (.int .i64 x.index)] = x.enc := by rfl
@[simp] theorem Exp.fld (x : Exp) (off : Nat) (k : Option Nat) : fldA off k (.t x.enc) = takeT x.enc.cells off k := by rfl
@[simp] theorem Exp.one (x : Exp) : x.enc.one = false := by rfl
@[simp] theorem Cod.cells_eq (c : Cod) : c.enc.cells = [.v (.int .i64 c.type), .sl (ints c.locals), .sl (c.body.map Ins.enc)] := by rfl
@[simp] theorem Cod.fold (c : Cod) : Tr.agg [.v (.int .i64 c.type), .sl (ints c.locals), .sl (c.body.map Ins.enc)] = c.enc := by rfl
@[simp] theorem Cod.fld (c : Cod) (off : Nat) (k : Option Nat) : fldA off k (.t c.enc) = takeT c.enc.cells off k := by rfl
@[simp] theorem Cod.one (c : Cod) : c.enc.one = false := by rfl
@[simp] theorem Glo.cells_eq (g : Glo) : g.enc.cells = [.v (.int .i64 g.type.type), .v (.bool g.type.mu), .sl (g.init.map Ins.enc)] := by rfl
@[simp] theorem Glo.fold (g : Glo) : Tr.agg [.v (.int .i64 g.type.type), .v (.bool g.type.mu), .sl (g.init.map Ins.enc)] = g.enc := by rfl
@[simp] theorem Glo.fld (g : Glo) (off : Nat) (k : Option Nat) : fldA off k (.t g.enc) = takeT g.enc.cells off k := by rfl
@[simp] theorem Glo.one (g : Glo) : g.enc.one = false := by rfl
@[simp] theorem Elm.cells_eq (e : Elm) : e.enc.cells = [.v (.int .i64 e.ref), .v (.int .i64 e.mode), .v (.int .i64 e.table), .sl (e.offset.map Ins.enc), .sl (e.init.map inss)] := by rfl
@[simp] theorem Elm.fold (e : Elm) : Tr.agg [.v (.int .i64 e.ref), .v (.int .i64 e.mode), .v (.int .i64 e.table), .sl (e.offset.map Ins.enc), .sl (e.init.map inss)] = e.enc := by rfl
@[simp] theorem Elm.fld (e : Elm) (off : Nat) (k : Option Nat) : fldA off k (.t e.enc) = takeT e.enc.cells off k := by rfl
@[simp] theorem Elm.one (e : Elm) : e.enc.one = false := by rfl
@[simp] theorem Dat.cells_eq (d : Dat) : d.enc.cells = [.v (.int .i64 d.mode), .v (.int .i64 d.mem), .sl (d.offset.map Ins.enc), .sl (bsT d.bytes)] := by rfl
@[simp] theorem Dat.fold (d : Dat) : Tr.agg [.v (.int .i64 d.mode), .v (.int .i64 d.mem), .sl (d.offset.map Ins.enc), .sl (bsT d.bytes)] = d.enc := by rfl
@[simp] theorem Dat.fld (d : Dat) (off : Nat) (k : Option Nat) : fldA off k (.t d.enc) = takeT d.enc.cells off k := by rfl
@[simp] theorem Dat.one (d : Dat) : d.enc.one = false := by rfl
@[simp] theorem Mod.cells_eq (m : Mod) : m.enc.cells = [.sl (m.types.map FunT.enc), .sl (m.imports.map Imp.enc), .sl (m.funcs.map Cod.enc), .sl (m.tables.map TabT.enc), .sl (m.mems.map Lim.enc), .sl (m.globals.map Glo.enc), .sl (m.exports.map Exp.enc),   .v (.int .i64 m.start), .sl (m.elems.map Elm.enc), .sl (m.datas.map Dat.enc), .v (.bool m.count)] := by rfl
@[simp] theorem Mod.fold (m : Mod) : Tr.agg [.sl (m.types.map FunT.enc), .sl (m.imports.map Imp.enc), .sl (m.funcs.map Cod.enc), .sl (m.tables.map TabT.enc), .sl (m.mems.map Lim.enc), .sl (m.globals.map Glo.enc), .sl (m.exports.map Exp.enc),   .v (.int .i64 m.start), .sl (m.elems.map Elm.enc), .sl (m.datas.map Dat.enc), .v (.bool m.count)] = m.enc := by rfl
@[simp] theorem Mod.fld (m : Mod) (off : Nat) (k : Option Nat) : fldA off k (.t m.enc) = takeT m.enc.cells off k := by rfl
@[simp] theorem Mod.one (m : Mod) : m.enc.one = false := by rfl
end Go.Proofs.YtgehpjjpeddomaaGreatDoor
/- Typed trees: the modules and what they are made of. -/
namespace Go.Proofs.YtgehpjjpeddomaaGreatDoor
open Go
set_option maxRecDepth 100000
section
variable {n : Nat} {x : Tr}
theorem t_FunT (h : HasT Tryz.prog n ty_api_FuncType x) : ∃ i : FunT, x = i.enc ∧ i.ok := by
  cases n with
  | zero => exact h.elim
  | succ n =>
    rw [HasT] at h
    simp only [und_api_FuncType] at h
    obtain ⟨ys, rfl, hy⟩ := h
    rcases ys with _ | ⟨y1, _ | ⟨y2, _ | ⟨y3, r⟩⟩⟩ <;> simp only [All2, and_true, and_false, false_and] at hy
    obtain ⟨h1, h2⟩ := hy
    obtain ⟨params_, rfl, q1⟩ := t_ints h1
    obtain ⟨results_, rfl, q2⟩ := t_ints h2
    exact ⟨⟨params_, results_⟩, rfl, ⟨q1, q2⟩⟩
theorem t_Lim (h : HasT Tryz.prog n ty_api_Limits x) : ∃ i : Lim, x = i.enc ∧ i.ok := by
  cases n with
  | zero => exact h.elim
  | succ n =>
    rw [HasT] at h
    simp only [und_api_Limits] at h
    obtain ⟨ys, rfl, hy⟩ := h
    rcases ys with _ | ⟨y1, _ | ⟨y2, _ | ⟨y3, _ | ⟨y4, r⟩⟩⟩⟩ <;> simp only [All2, and_true, and_false, false_and] at hy
    obtain ⟨h1, h2, h3⟩ := hy
    obtain ⟨min_, rfl, q1⟩ := t_int h1
    obtain ⟨max_, rfl, q2⟩ := t_int h2
    obtain ⟨has_, rfl⟩ := t_bool h3
    exact ⟨⟨min_, max_, has_⟩, rfl, ⟨q1, q2⟩⟩
theorem t_TabT (h : HasT Tryz.prog n ty_api_TableType x) : ∃ i : TabT, x = i.enc ∧ i.ok := by
  cases n with
  | zero => exact h.elim
  | succ n =>
    rw [HasT] at h
    simp only [und_api_TableType] at h
    obtain ⟨ys, rfl, hy⟩ := h
    rcases ys with _ | ⟨y1, _ | ⟨y2, _ | ⟨y3, r⟩⟩⟩ <;> simp only [All2, and_true, and_false, false_and] at hy
    obtain ⟨h1, h2⟩ := hy
    obtain ⟨ref_, rfl, q1⟩ := t_int h1
    obtain ⟨l_, rfl, q2⟩ := t_Lim h2
    exact ⟨⟨ref_, l_⟩, rfl, ⟨q1, q2⟩⟩
theorem t_GloT (h : HasT Tryz.prog n ty_api_GlobalType x) : ∃ i : GloT, x = i.enc ∧ i.ok := by
  cases n with
  | zero => exact h.elim
  | succ n =>
    rw [HasT] at h
    simp only [und_api_GlobalType] at h
    obtain ⟨ys, rfl, hy⟩ := h
    rcases ys with _ | ⟨y1, _ | ⟨y2, _ | ⟨y3, r⟩⟩⟩ <;> simp only [All2, and_true, and_false, false_and] at hy
    obtain ⟨h1, h2⟩ := hy
    obtain ⟨type_, rfl, q1⟩ := t_int h1
    obtain ⟨mu_, rfl⟩ := t_bool h2
    exact ⟨⟨type_, mu_⟩, rfl, q1⟩
theorem t_Imp (h : HasT Tryz.prog n ty_api_Import x) : ∃ i : Imp, x = i.enc ∧ i.ok := by
  cases n with
  | zero => exact h.elim
  | succ n =>
    rw [HasT] at h
    simp only [und_api_Import] at h
    obtain ⟨ys, rfl, hy⟩ := h
    rcases ys with _ | ⟨y1, _ | ⟨y2, _ | ⟨y3, _ | ⟨y4, _ | ⟨y5, _ | ⟨y6, _ | ⟨y7, _ | ⟨y8, r⟩⟩⟩⟩⟩⟩⟩⟩ <;> simp only [All2, and_true, and_false, false_and] at hy
    obtain ⟨h1, h2, h3, h4, h5, h6, h7⟩ := hy
    obtain ⟨module_, rfl, q1⟩ := t_str h1
    obtain ⟨name_, rfl, q2⟩ := t_str h2
    obtain ⟨kind_, rfl, q3⟩ := t_int h3
    obtain ⟨type_, rfl, q4⟩ := t_int h4
    obtain ⟨table_, rfl, q5⟩ := t_TabT h5
    obtain ⟨mem_, rfl, q6⟩ := t_Lim h6
    obtain ⟨global_, rfl, q7⟩ := t_GloT h7
    exact ⟨⟨module_, name_, kind_, type_, table_, mem_, global_⟩, rfl, ⟨q1, q2, q3, q4, q5, q6, q7⟩⟩
theorem t_Exp (h : HasT Tryz.prog n ty_api_Export x) : ∃ i : Exp, x = i.enc ∧ i.ok := by
  cases n with
  | zero => exact h.elim
  | succ n =>
    rw [HasT] at h
    simp only [und_api_Export] at h
    obtain ⟨ys, rfl, hy⟩ := h
    rcases ys with _ | ⟨y1, _ | ⟨y2, _ | ⟨y3, _ | ⟨y4, r⟩⟩⟩⟩ <;> simp only [All2, and_true, and_false, false_and] at hy
    obtain ⟨h1, h2, h3⟩ := hy
    obtain ⟨name_, rfl, q1⟩ := t_str h1
    obtain ⟨kind_, rfl, q2⟩ := t_int h2
    obtain ⟨index_, rfl, q3⟩ := t_int h3
    exact ⟨⟨name_, kind_, index_⟩, rfl, ⟨q1, q2, q3⟩⟩
theorem t_Cod (h : HasT Tryz.prog n ty_api_Code x) : ∃ i : Cod, x = i.enc ∧ i.ok := by
  cases n with
  | zero => exact h.elim
  | succ n =>
    rw [HasT] at h
    simp only [und_api_Code] at h
    obtain ⟨ys, rfl, hy⟩ := h
    rcases ys with _ | ⟨y1, _ | ⟨y2, _ | ⟨y3, _ | ⟨y4, r⟩⟩⟩⟩ <;> simp only [All2, and_true, and_false, false_and] at hy
    obtain ⟨h1, h2, h3⟩ := hy
    obtain ⟨type_, rfl, q1⟩ := t_int h1
    obtain ⟨locals_, rfl, q2⟩ := t_ints h2
    obtain ⟨body_, rfl, q3⟩ := t_inss h3
    exact ⟨⟨type_, locals_, body_⟩, rfl, ⟨q1, q2, q3⟩⟩
theorem t_Glo (h : HasT Tryz.prog n ty_api_Var x) : ∃ i : Glo, x = i.enc ∧ i.ok := by
  cases n with
  | zero => exact h.elim
  | succ n =>
    rw [HasT] at h
    simp only [und_api_Var] at h
    obtain ⟨ys, rfl, hy⟩ := h
    rcases ys with _ | ⟨y1, _ | ⟨y2, _ | ⟨y3, r⟩⟩⟩ <;> simp only [All2, and_true, and_false, false_and] at hy
    obtain ⟨h1, h2⟩ := hy
    obtain ⟨type_, rfl, q1⟩ := t_GloT h1
    obtain ⟨init_, rfl, q2⟩ := t_inss h2
    exact ⟨⟨type_, init_⟩, rfl, ⟨q1, q2⟩⟩
theorem t_Elm (h : HasT Tryz.prog n ty_api_Elem x) : ∃ i : Elm, x = i.enc ∧ i.ok := by
  cases n with
  | zero => exact h.elim
  | succ n =>
    rw [HasT] at h
    simp only [und_api_Elem] at h
    obtain ⟨ys, rfl, hy⟩ := h
    rcases ys with _ | ⟨y1, _ | ⟨y2, _ | ⟨y3, _ | ⟨y4, _ | ⟨y5, _ | ⟨y6, r⟩⟩⟩⟩⟩⟩ <;> simp only [All2, and_true, and_false, false_and] at hy
    obtain ⟨h1, h2, h3, h4, h5⟩ := hy
    obtain ⟨ref_, rfl, q1⟩ := t_int h1
    obtain ⟨mode_, rfl, q2⟩ := t_int h2
    obtain ⟨table_, rfl, q3⟩ := t_int h3
    obtain ⟨offset_, rfl, q4⟩ := t_inss h4
    obtain ⟨init_, rfl, q5, p5⟩ := t_list und_s_s_api_Instr (fun _ _ h => t_inss h) h5
    exact ⟨⟨ref_, mode_, table_, offset_, init_⟩, rfl, ⟨q1, q2, q3, q4, q5, p5⟩⟩
theorem t_Dat (h : HasT Tryz.prog n ty_api_Data x) : ∃ i : Dat, x = i.enc ∧ i.ok := by
  cases n with
  | zero => exact h.elim
  | succ n =>
    rw [HasT] at h
    simp only [und_api_Data] at h
    obtain ⟨ys, rfl, hy⟩ := h
    rcases ys with _ | ⟨y1, _ | ⟨y2, _ | ⟨y3, _ | ⟨y4, _ | ⟨y5, r⟩⟩⟩⟩⟩ <;> simp only [All2, and_true, and_false, false_and] at hy
    obtain ⟨h1, h2, h3, h4⟩ := hy
    obtain ⟨mode_, rfl, q1⟩ := t_int h1
    obtain ⟨mem_, rfl, q2⟩ := t_int h2
    obtain ⟨offset_, rfl, q3⟩ := t_inss h3
    obtain ⟨bytes_, rfl, q4⟩ := t_bytes h4
    exact ⟨⟨mode_, mem_, offset_, bytes_⟩, rfl, ⟨q1, q2, q3, q4⟩⟩
theorem t_Mod (h : HasT Tryz.prog n ty_api_Module x) : ∃ i : Mod, x = i.enc ∧ i.ok := by
  cases n with
  | zero => exact h.elim
  | succ n =>
    rw [HasT] at h
    simp only [und_api_Module] at h
    obtain ⟨ys, rfl, hy⟩ := h
    rcases ys with _ | ⟨y1, _ | ⟨y2, _ | ⟨y3, _ | ⟨y4, _ | ⟨y5, _ | ⟨y6, _ | ⟨y7, _ | ⟨y8, _ | ⟨y9, _ | ⟨y10, _ | ⟨y11, _ | ⟨y12, r⟩⟩⟩⟩⟩⟩⟩⟩⟩⟩⟩⟩ <;> simp only [All2, and_true, and_false, false_and] at hy
    obtain ⟨h1, h2, h3, h4, h5, h6, h7, h8, h9, h10, h11⟩ := hy
    obtain ⟨types_, rfl, q1, p1⟩ := t_list und_s_api_FuncType (fun _ _ h => t_FunT h) h1
    obtain ⟨imports_, rfl, q2, p2⟩ := t_list und_s_api_Import (fun _ _ h => t_Imp h) h2
    obtain ⟨funcs_, rfl, q3, p3⟩ := t_list und_s_api_Code (fun _ _ h => t_Cod h) h3
    obtain ⟨tables_, rfl, q4, p4⟩ := t_list und_s_api_TableType (fun _ _ h => t_TabT h) h4
    obtain ⟨mems_, rfl, q5, p5⟩ := t_list und_s_api_Limits (fun _ _ h => t_Lim h) h5
    obtain ⟨globals_, rfl, q6, p6⟩ := t_list und_s_api_Var (fun _ _ h => t_Glo h) h6
    obtain ⟨exports_, rfl, q7, p7⟩ := t_list und_s_api_Export (fun _ _ h => t_Exp h) h7
    obtain ⟨start_, rfl, q8⟩ := t_int h8
    obtain ⟨elems_, rfl, q9, p9⟩ := t_list und_s_api_Elem (fun _ _ h => t_Elm h) h9
    obtain ⟨datas_, rfl, q10, p10⟩ := t_list und_s_api_Data (fun _ _ h => t_Dat h) h10
    obtain ⟨count_, rfl⟩ := t_bool h11
    exact ⟨⟨types_, imports_, funcs_, tables_, mems_, globals_, exports_, start_, elems_, datas_, count_⟩, rfl, ⟨q1, p1, q2, p2, q3, p3, q4, p4, q5, p5, q6, p6, q7, p7, q8, q9, p9, q10, p10⟩⟩
end
end Go.Proofs.YtgehpjjpeddomaaGreatDoor
