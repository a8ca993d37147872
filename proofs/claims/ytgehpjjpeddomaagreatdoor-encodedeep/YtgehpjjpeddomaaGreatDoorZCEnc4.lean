/- Parts, one behind the other; the last: Contracts: what encode appends for instructions. -/
import Derived.Test.YtgehpjjpeddomaaGreatDoorZCWin
import Derived.Test.YtgehpjjpeddomaaGreatDoorZCShape2
set_option linter.all false
/- The bytes of numbers, names, instructions and modules, plainly. -/
namespace Go.Proofs.YtgehpjjpeddomaaGreatDoor
open Go
set_option maxRecDepth 100000

/-- The bytes of each, one behind the other. -/
def catB {α : Type} (f : α → List UInt8) : List α → List UInt8
  | [] => []
  | x :: r => f x ++ catB f r
/-- A number's bytes, seven bits each. -/
def encUF : Nat → Nat → List UInt8
  | 0, n => [by8 n]
  | k + 1, n => if n < 128 then [by8 n] else by8 (128 + (n % 128 : Nat)) :: encUF k (n / 128)
def encU (n : Nat) : List UInt8 := encUF 9 n
/-- A number of either sign. -/
def encSF : Nat → Int → List UInt8
  | 0, n => [by8 (n % 128)]
  | k + 1, n => if -64 ≤ n ∧ n ≤ 63 then [by8 (n % 128)] else by8 (128 + n % 128) :: encSF k (n / 128)
def sI (n : Int) : List UInt8 := encSF 9 n
def uI (n : Int) : List UInt8 := encU (IntKind.u64.wrap n).toNat
theorem encUF_len : ∀ k n, (encUF k n).length ≤ k + 1
  | 0, n => by simp [encUF]
  | k + 1, n => by
    unfold encUF
    split
    · simp
    · have := encUF_len k (n / 128); simp; omega
theorem encU_len (n : Nat) : (encU n).length ≤ 10 := encUF_len 9 n
theorem uI_len (n : Int) : (uI n).length ≤ 10 := encU_len _
theorem encSF_len : ∀ k n, (encSF k n).length ≤ k + 1
  | 0, n => by simp [encSF]
  | k + 1, n => by
    unfold encSF
    split
    · simp
    · have := encSF_len k (n / 128); simp; omega
theorem sI_len (n : Int) : (sI n).length ≤ 10 := encSF_len 9 n
/-- The lowest bytes. -/
def lowB : Nat → Int → List UInt8
  | 0, _ => []
  | k + 1, v => by8 v :: lowB k (v / 256)
theorem lowB_len : ∀ k v, (lowB k v).length = k
  | 0, v => rfl
  | k + 1, v => by simp [lowB, lowB_len k]
def listU (l : List Int) : List UInt8 := uI l.length ++ catB uI l
def listO (l : List Int) : List UInt8 := uI l.length ++ l.map by8
/-- The lowest 32 bits as a number of either sign. -/
def sgn32 (n : Int) : Int := if n % 4294967296 < 2147483648 then n % 4294967296 else n % 4294967296 - 4294967296
def headB (op : Int) : List UInt8 := if op < 256 then [by8 op] else by8 (op / 256) :: uI (op % 256)
def midB (k a b n h : Int) (l : List Int) : List UInt8 :=
  if k = 0 then [] else if k = 3 then listU l ++ uI a else if k = 5 ∨ k = 20 ∨ k = 22 ∨ k = 10 then uI a ++ uI b else if k = 26 then uI a ++ uI b ++ [by8 (l.getD 0 0)] else if k = 6 then listO l
  else if k = 11 then [0] else if k = 19 then [0, 0] else if k = 17 then uI a ++ [0] else if k = 12 then sI (sgn32 n) else if k = 13 then sI (IntKind.i64.wrap n) else if k = 14 then lowB 4 n else if k = 15 then lowB 8 n
  else if k = 23 then lowB 8 n ++ lowB 8 h else if k = 16 ∨ k = 25 then [by8 a] else if k = 24 then l.map by8 else uI a
def typeB (a b : Int) : List UInt8 := if a = 0 then [64] else if a = 1 then [by8 b] else sI b
mutual
def Ins.bytes : Ins → List UInt8
  | .mk op a b n h l body els other => headB op ++ (if immS op = 1 then typeB a b ++ bytesL body ++ (if other then 5 :: bytesL els else []) ++ [11] else midB (immS op) a b n h l)
def bytesL : List Ins → List UInt8
  | [] => []
  | i :: r => i.bytes ++ bytesL r
end
mutual
def Ins.ver : Ins → Nat
  | .mk op _ _ _ _ _ body els other => if immS op = 1 then verL body + (if other then verL els else 0) else if immS op = 14 then 1 else 0
def verL : List Ins → Nat
  | [] => 0
  | i :: r => i.ver + verL r
end
def blockB (i : Ins) : List UInt8 := typeB i.a i.b ++ bytesL i.body ++ (if i.other then 5 :: bytesL i.els else []) ++ [11]
def blockV (i : Ins) : Nat := verL i.body + (if i.other then verL i.els else 0)
theorem Ins.bytes_eq (i : Ins) : i.bytes = headB i.op ++ (if immS i.op = 1 then blockB i else midB (immS i.op) i.a i.b i.n i.h i.l) := by
  cases i
  simp only [Ins.bytes, blockB, Ins.op, Ins.a, Ins.b, Ins.n, Ins.h, Ins.l, Ins.body, Ins.els, Ins.other]
  rfl
theorem Ins.ver_eq (i : Ins) : i.ver = if immS i.op = 1 then blockV i else if immS i.op = 14 then 1 else 0 := by
  cases i
  simp only [Ins.ver, blockV, Ins.op, Ins.body, Ins.els, Ins.other]
  rfl
theorem bytesL_map : ∀ l : List Ins, bytesL l = catB Ins.bytes l
  | [] => rfl
  | i :: r => by rw [bytesL, bytesL_map r]; rfl
/-- Instructions, and the byte that ends them. -/
def exprB (l : List Ins) : List UInt8 := bytesL l ++ [11]

/-! ### modules -/
def nameB (s : List UInt8) : List UInt8 := uI s.length ++ s
def limB (l : Lim) : List UInt8 := if l.has then 1 :: (uI l.min ++ uI l.max) else 0 :: uI l.min
def tabB (t : TabT) : List UInt8 := by8 t.ref :: limB t.l
def gloB (g : GloT) : List UInt8 := [by8 g.type, if g.mu then 1 else 0]
def impB (i : Imp) : List UInt8 := nameB i.module ++ nameB i.name ++ [by8 i.kind] ++
  (if i.kind = 0 then uI i.type else if i.kind = 1 then tabB i.table else if i.kind = 2 then limB i.mem else gloB i.global)
def expB (x : Exp) : List UInt8 := nameB x.name ++ [by8 x.kind] ++ uI x.index
def funB (t : FunT) : List UInt8 := 96 :: (listO t.params ++ listO t.results)
def varB (g : Glo) : List UInt8 := gloB g.type ++ exprB g.init
/-- How often each comes, one behind the other. -/
def runsGo : List Int → List (Nat × Int) → List (Nat × Int)
  | [], acc => acc.reverse
  | t :: r, [] => runsGo r [(1, t)]
  | t :: r, (n, u) :: acc => if u = t then runsGo r ((n + 1, u) :: acc) else runsGo r ((1, t) :: (n, u) :: acc)
def runs (l : List Int) : List (Nat × Int) := runsGo l []
def runB (r : Nat × Int) : List UInt8 := uI r.1 ++ [by8 r.2]
def sized (b : List UInt8) : List UInt8 := uI b.length ++ b
def bodyB (c : Cod) : List UInt8 := sized (uI (runs c.locals).length ++ catB runB (runs c.locals) ++ exprB c.body)
def isFn (l : List Ins) : Bool := decide (l.length = 1) && (l.head?.map fun i => decide (i.op = 210)).getD false
def elmFn (e : Elm) : Bool := decide (e.ref = 112) && e.init.all isFn
def elmB (e : Elm) : List UInt8 :=
  let f := elmFn e
  let flag : Int := (if f then 0 else 4) + (if e.mode = 1 then 1 else if e.mode = 2 then 3 else if e.table ≠ 0 ∨ e.ref ≠ 112 then 2 else 0)
  [by8 flag] ++ (if e.mode = 0 then (if e.table ≠ 0 ∨ e.ref ≠ 112 then uI e.table else []) ++ exprB e.offset else []) ++
  (if e.mode = 0 ∧ ¬ (e.table ≠ 0 ∨ e.ref ≠ 112) then [] else [if f then 0 else by8 e.ref]) ++
  uI e.init.length ++ catB (fun l => if f then uI ((l.head?.map Ins.a).getD 0) else exprB l) e.init
def datB (d : Dat) : List UInt8 := (if d.mode = 1 then [1] else if d.mem = 0 then 0 :: exprB d.offset else 2 :: (uI d.mem ++ exprB d.offset)) ++ sized d.bytes
def secB {α : Type} (id : UInt8) (l : List α) (f : α → List UInt8) : List UInt8 := if l.isEmpty then [] else id :: sized (uI l.length ++ catB f l)
def modB' (m : Mod) : List UInt8 := [0, 97, 115, 109, 1, 0, 0, 0] ++ secB 1 m.types funB ++ secB 2 m.imports impB ++ secB 3 m.funcs (fun c => uI c.type) ++ secB 4 m.tables tabB ++ secB 5 m.mems limB ++ secB 6 m.globals varB ++ secB 7 m.exports expB ++
  (if 0 < m.start then 8 :: sized (uI (m.start - 1)) else []) ++ secB 9 m.elems elmB ++ (if m.count then 12 :: sized (uI m.datas.length) else []) ++ secB 10 m.funcs bodyB ++ secB 11 m.datas datB
end Go.Proofs.YtgehpjjpeddomaaGreatDoor
/- Contracts: numbers and names as bytes, in both packages. -/
namespace Go.Proofs.YtgehpjjpeddomaaGreatDoor
open Go
set_option maxRecDepth 100000
theorem bsTa (a b : List UInt8) : bsT (a ++ b) = bsT a ++ bsT b := (bsT_append a b).symm
theorem bsTc (a : UInt8) (b : List UInt8) : bsT (a :: b) = .v (.int .u8 (a.toNat : Int)) :: bsT b := rfl
theorem fitsO (n : Nat) (z : Int) (h : n + 1 ≤ 140737488355328) : appFits n 1 1 1 [.v (.int .u8 z)] = true := by
  simp [appFits, maxLenB]; omega
theorem or128 (n : Int) : bitI .or .u8 ((by8 n).toNat : Int) 128 = ((by8 (128 + n % 128)).toNat : Int) := by
  have key : ∀ r : Fin 256, bitI .or .u8 ((r.val : Nat) : Int) 128 = 128 + ((r.val : Nat) : Int) % 128 := by decide +kernel
  have h := key ⟨(by8 n).toNat, UInt8.toNat_lt _⟩
  simp only at h
  rw [h, by8_nat, by8_nat]
  omega
theorem and127 (n : Int) : bitI .and .u8 ((by8 n).toNat : Int) 127 = ((by8 (n % 128)).toNat : Int) := by
  have key : ∀ r : Fin 256, bitI .and .u8 ((r.val : Nat) : Int) 127 = ((r.val : Nat) : Int) % 128 := by decide +kernel
  have h := key ⟨(by8 n).toNat, UInt8.toNat_lt _⟩
  simp only at h
  rw [h, by8_nat, by8_nat]
  omega
theorem shr7 (n : Int) : n.fdiv (2 ^ min 7 IntKind.u64.bits) = n / 128 := by
  show n.fdiv 128 = n / 128
  exact Int.fdiv_eq_ediv_of_nonneg _ (by omega)
theorem shr7i (n : Int) : n.fdiv (2 ^ min 7 IntKind.i64.bits) = n / 128 := shr7 n
theorem lebU_loop : ∀ (k n : Nat) (acc : List UInt8), n < 128 ^ (k + 1) → n < 18446744073709551616 → acc.length + k ≤ 1000000 →
    K_leb_U_0 LG 0 (execL LG 0 (.loop L_leb_U_0) (S_leb_U_0 (.t (.v (.int .u64 n))) (.win 0 0 acc.length) [.arr ty_uint8 0 (bsT acc) 0 0])) =
    some (.win 0 0 (acc.length + (encUF k n).length), [.arr ty_uint8 0 (bsT (acc ++ encUF k n)) 0 0]) := by
  intro k
  induction k with
  | zero =>
    intro n acc h0 h1 h2
    have hn : ¬ (128 : Int) ≤ n := by omega
    rw [execL_loop_eq]
    simp [K_leb_U_0, hn, conv_int und_uint64 und_uint8, wrap_by8, fitsO acc.length _ (by omega), encUF, bsTa, bsTc, bsT_nil]
  | succ k ih =>
    intro n acc h0 h1 h2
    rw [execL_loop_eq]
    by_cases hn : n < 128
    · have hn' : ¬ (128 : Int) ≤ n := by omega
      simp [K_leb_U_0, hn', conv_int und_uint64 und_uint8, wrap_by8, fitsO acc.length _ (by omega), encUF, hn, bsTa, bsTc, bsT_nil]
    · have hn' : (128 : Int) ≤ n := by omega
      have hs := shr7 (n : Int)
      have e := ih (n / 128) (acc ++ [by8 (128 + (n % 128 : Nat))]) (by rw [Nat.pow_succ] at h0; omega) (by omega) (by simp; omega)
      have hm : ((n % 128 : Nat) : Int) = (n : Int) % 128 := by omega
      rw [hm] at e
      have hcat : acc.length + (encUF (k + 1) n).length = acc.length + 1 + (encUF k (n / 128)).length := by simp [encUF, hn]; omega
      rw [hcat]
      simp only [encUF, hn, if_false, hm]
      simp only [K_leb_U_0] at e ⊢
      simp [bsTa, bsTc, bsT_nil] at e
      simp [hn', conv_int und_uint64 und_uint8, wrap_by8, or128, fitsO acc.length _ (by omega), bin_shr, hs, trimE_eq, bsTa, bsTc, bsT_nil]
      exact e
theorem c_lebU_t (n : Int) (h : u64ok n) : callL LG fn_leb_U [.t (.sl []), .t (.v (.int .u64 n))] [] = some (.win 0 0 (encU n.toNat).length, [.arr ty_uint8 0 (bsT (encU n.toNat)) 0 0]) := by
  obtain ⟨m, rfl⟩ : ∃ m : Nat, n = m := ⟨n.toNat, by omega⟩
  have key := lebU_loop 9 m [] (by omega) (by omega) (by simp)
  have hf : appFits 0 0 1 1 [] = true := by simp [appFits, maxLenB]
  rw [callE LG rfl rfl rfl]
  simp [K_leb_U_0, bsT_nil] at key
  simp [hf, encU]
  exact key
theorem c_lebU (n : Int) (h : u64ok n) : NewF fn_leb_U [.nils, .t (.v (.int .u64 n))] (encU n.toNat) := fun H => newC (args' := [.t (.sl []), .t (.v (.int .u64 n))]) rfl (fun H => rfl) rfl (c_lebU_t n h) H
theorem refU_loop : ∀ (k n : Nat) (acc : List UInt8), n < 128 ^ (k + 1) → n < 18446744073709551616 → acc.length + k ≤ 1000000 →
    K_bodkinref01_U_0 LG 0 (execL LG 0 (.loop L_bodkinref01_U_0) (S_bodkinref01_U_0 (.t (.v (.int .u64 n))) (.win 0 0 acc.length) [.arr ty_uint8 0 (bsT acc) 0 0])) =
    some (.win 0 0 (acc.length + (encUF k n).length), [.arr ty_uint8 0 (bsT (acc ++ encUF k n)) 0 0]) := by
  intro k
  induction k with
  | zero =>
    intro n acc h0 h1 h2
    have hn : ¬ (127 : Int) < n := by omega
    rw [execL_loop_eq]
    simp [K_bodkinref01_U_0, hn, conv_int und_uint64 und_uint8, wrap_by8, fitsO acc.length _ (by omega), encUF, bsTa, bsTc, bsT_nil]
  | succ k ih =>
    intro n acc h0 h1 h2
    rw [execL_loop_eq]
    by_cases hn : n < 128
    · have hn' : ¬ (127 : Int) < n := by omega
      simp [K_bodkinref01_U_0, hn', conv_int und_uint64 und_uint8, wrap_by8, fitsO acc.length _ (by omega), encUF, hn, bsTa, bsTc, bsT_nil]
    · have hn' : (127 : Int) < n := by omega
      have hq : IntKind.u64.wrap ((n : Int) / 128) = (n : Int) / 128 := wrap_u64 (by omega) (by omega)
      have hr : IntKind.u64.wrap (128 + (n : Int).tmod 128) = 128 + (n : Int) % 128 := by
        rw [Int.tmod_eq_emod_of_nonneg (by omega), wrap_u64 (by omega) (by omega)]
      have e := ih (n / 128) (acc ++ [by8 (128 + (n % 128 : Nat))]) (by rw [Nat.pow_succ] at h0; omega) (by omega) (by simp; omega)
      have hm : ((n % 128 : Nat) : Int) = (n : Int) % 128 := by omega
      rw [hm] at e
      have hcat : acc.length + (encUF (k + 1) n).length = acc.length + 1 + (encUF k (n / 128)).length := by simp [encUF, hn]; omega
      rw [hcat]
      simp only [encUF, hn, if_false, hm]
      simp only [K_bodkinref01_U_0] at e ⊢
      simp [bsTa, bsTc, bsT_nil] at e
      simp [hn', bin_rem, bin_quo, hr, hq, conv_int und_uint64 und_uint8, wrap_by8, fitsO acc.length _ (by omega), trimE_eq, bsTa, bsTc, bsT_nil]
      exact e
theorem r_U_t (n : Int) (h : u64ok n) : callL LG fn_bodkinref01_U [.t (.v (.int .u64 n))] [] = some (.win 0 0 (encU n.toNat).length, [.arr ty_uint8 0 (bsT (encU n.toNat)) 0 0]) := by
  obtain ⟨m, rfl⟩ : ∃ m : Nat, n = m := ⟨n.toNat, by omega⟩
  have key := refU_loop 9 m [] (by omega) (by omega) (by simp)
  rw [callE LG rfl rfl rfl]
  simp [K_bodkinref01_U_0, bsT_nil] at key
  simp [encU]
  exact key
theorem r_U (n : Int) (h : u64ok n) : NewF fn_bodkinref01_U [.t (.v (.int .u64 n))] (encU n.toNat) := fun H => newC rfl (fun H => rfl) rfl (r_U_t n h) H
/-! ### of either sign -/
theorem lebS_loop : ∀ (k : Nat) (n : Int) (acc : List UInt8), -(64 * 128 ^ k) ≤ n → n < 64 * 128 ^ k → i64ok n → acc.length + k ≤ 1000000 →
    K_leb_S_0 LG 0 (execL LG 0 (.loop L_leb_S_0) (S_leb_S_0 (.t (.v (.int .i64 n))) (.win 0 0 acc.length) [.arr ty_uint8 0 (bsT acc) 0 0])) =
    some (.win 0 0 (acc.length + (encSF k n).length), [.arr ty_uint8 0 (bsT (acc ++ encSF k n)) 0 0]) := by
  intro k
  induction k with
  | zero =>
    intro n acc h0 h1 h2 h3
    have hn : ¬ n < -64 := by omega
    have hn2 : ¬ 63 < n := by omega
    rw [execL_loop_eq]
    simp [-opsC_guardE, opsC_guard, K_leb_S_0, hn, hn2, conv_int und_int64 und_uint8, wrap_by8, and127, fitsO acc.length _ (by omega), encSF, bsTa, bsTc, bsT_nil]
  | succ k ih =>
    intro n acc h0 h1 h2 h3
    rw [execL_loop_eq]
    by_cases hc : -64 ≤ n ∧ n ≤ 63
    · have hn : ¬ n < -64 := by omega
      have hn2 : ¬ 63 < n := by omega
      simp [-opsC_guardE, opsC_guard, K_leb_S_0, hn, hn2, conv_int und_int64 und_uint8, wrap_by8, and127, fitsO acc.length _ (by omega), encSF, hc, bsTa, bsTc, bsT_nil]
    · have hor : (n < -64 ∨ 63 < n) := by omega
      have hs := shr7i n
      have hp : (128 : Int) ^ (k + 1) = 128 ^ k * 128 := Int.pow_succ _ _
      have e := ih (n / 128) (acc ++ [by8 (128 + n % 128)]) (by rw [hp] at h0; omega) (by rw [hp] at h1; omega) ⟨by have := h2.1; omega, by have := h2.2; omega⟩ (by simp; omega)
      have hcat : acc.length + (encSF (k + 1) n).length = acc.length + 1 + (encSF k (n / 128)).length := by simp [encSF, hc]; omega
      rw [hcat]
      simp only [encSF, hc, if_false]
      simp only [K_leb_S_0] at e ⊢
      simp [bsTa, bsTc, bsT_nil] at e
      rcases hor with ho | ho
      · simp [-opsC_guardE, opsC_guard, ho, conv_int und_int64 und_uint8, wrap_by8, or128, fitsO acc.length _ (by omega), bin_shr, hs, trimE_eq, bsTa, bsTc, bsT_nil]
        exact e
      · have ho2 : ¬ n < -64 := by omega
        simp [-opsC_guardE, opsC_guard, ho, ho2, conv_int und_int64 und_uint8, wrap_by8, or128, fitsO acc.length _ (by omega), bin_shr, hs, trimE_eq, bsTa, bsTc, bsT_nil]
        exact e
theorem c_lebS_t (n : Int) (h : i64ok n) : callL LG fn_leb_S [.t (.sl []), .t (.v (.int .i64 n))] [] = some (.win 0 0 (sI n).length, [.arr ty_uint8 0 (bsT (sI n)) 0 0]) := by
  have h1 := h.1
  have h2 := h.2
  have key := lebS_loop 9 n [] (by omega) (by omega) h (by simp)
  have hf : appFits 0 0 1 1 [] = true := by simp [appFits, maxLenB]
  rw [callE LG rfl rfl rfl]
  simp [K_leb_S_0, bsT_nil] at key
  simp [hf, sI]
  exact key
theorem c_lebS (n : Int) (h : i64ok n) : NewF fn_leb_S [.nils, .t (.v (.int .i64 n))] (sI n) := fun H => newC (args' := [.t (.sl []), .t (.v (.int .i64 n))]) rfl (fun H => rfl) rfl (c_lebS_t n h) H
theorem refS_loop : ∀ (k : Nat) (n : Int) (acc : List UInt8), -(64 * 128 ^ k) ≤ n → n < 64 * 128 ^ k → i64ok n → acc.length + k ≤ 1000000 →
    K_bodkinref01_S_0 LG 0 (execL LG 0 (.loop L_bodkinref01_S_0) (S_bodkinref01_S_0 (.t (.v (.int .i64 n))) (.win 0 0 acc.length) [.arr ty_uint8 0 (bsT acc) 0 0])) =
    some (.win 0 0 (acc.length + (encSF k n).length), [.arr ty_uint8 0 (bsT (acc ++ encSF k n)) 0 0]) := by
  have last : ∀ (k : Nat) (n : Int) (acc : List UInt8), -64 ≤ n → n ≤ 63 → acc.length + k ≤ 1000000 → K_bodkinref01_S_0 LG 0 (execL LG 0 (.loop L_bodkinref01_S_0) (S_bodkinref01_S_0 (.t (.v (.int .i64 n))) (.win 0 0 acc.length) [.arr ty_uint8 0 (bsT acc) 0 0])) =
      some (.win 0 0 (acc.length + 1), [.arr ty_uint8 0 (bsT (acc ++ [by8 (n % 128)])) 0 0]) := by
    intro k n acc h0 h1 h3
    have hn : ¬ n < -64 := by omega
    have hn2 : ¬ 63 < n := by omega
    rw [execL_loop_eq]
    by_cases hz : n < 0
    · have hw : IntKind.i64.wrap (n + 128) = n % 128 := by rw [wrap_i64 (by omega) (by omega)]; omega
      simp [-opsC_guardE, opsC_guard, K_bodkinref01_S_0, hn, hn2, hz, hw, conv_int und_int64 und_uint8, wrap_by8, fitsO acc.length _ (by omega), bsTa, bsTc, bsT_nil]
    · have hw : n % 128 = n := by omega
      simp [-opsC_guardE, opsC_guard, K_bodkinref01_S_0, hn, hn2, hz, hw, conv_int und_int64 und_uint8, wrap_by8, fitsO acc.length _ (by omega), bsTa, bsTc, bsT_nil]
  intro k
  induction k with
  | zero =>
    intro n acc h0 h1 h2 h3
    simpa [encSF] using last 0 n acc (by omega) (by omega) (by omega)
  | succ k ih =>
    intro n acc h0 h1 h2 h3
    by_cases hc : -64 ≤ n ∧ n ≤ 63
    · simpa [encSF, hc] using last k n acc hc.1 hc.2 (by omega)
    · rw [execL_loop_eq]
      have hor : (63 < n ∨ n < -64) := by omega
      have hp : (128 : Int) ^ (k + 1) = 128 ^ k * 128 := Int.pow_succ _ _
      have e := ih (n / 128) (acc ++ [by8 (128 + n % 128)]) (by rw [hp] at h0; omega) (by rw [hp] at h1; omega) ⟨by have := h2.1; omega, by have := h2.2; omega⟩ (by simp; omega)
      have hcat : acc.length + (encSF (k + 1) n).length = acc.length + 1 + (encSF k (n / 128)).length := by simp [encSF, hc]; omega
      have w1 : IntKind.i64.wrap (128 + n % 128) = 128 + n % 128 := wrap_i64 (by omega) (by omega)
      obtain ⟨b1, b2⟩ := h2
      have w0 : IntKind.i64.wrap (n - n % 128) = n / 128 * 128 := by rw [wrap_i64 (by omega) (by omega)]; omega
      have w2 : IntKind.i64.wrap ((IntKind.i64.wrap (n - n % 128)).tdiv 128) = n / 128 := by
        rw [w0, Int.mul_tdiv_cancel _ (by omega)]
        exact wrap_i64 (by omega) (by omega)
      rw [hcat]
      simp only [encSF, hc, if_false]
      simp only [K_bodkinref01_S_0] at e ⊢
      simp [bsTa, bsTc, bsT_nil] at e
      rcases hor with ho | ho
      · have hm : n.tmod 128 = n % 128 := Int.tmod_eq_emod_of_nonneg (by omega)
        have hm0 : ¬ n % 128 < 0 := by omega
        simp [-opsC_guardE, opsC_guard, ho, bin_rem, bin_quo, hm, hm0, w1, w2, conv_int und_int64 und_uint8, wrap_by8, fitsO acc.length _ (by omega), trimE_eq, bsTa, bsTc, bsT_nil]
        exact e
      · have ho2 : ¬ 63 < n := by omega
        have t1 : -128 < n.tmod 128 := Int.lt_tmod_of_pos n (by omega)
        have t2 := Int.tmod_lt_of_pos n (show (0 : Int) < 128 by omega)
        have t3 := Int.mul_tdiv_add_tmod n 128
        by_cases hm0 : n.tmod 128 < 0
        · have hm : IntKind.i64.wrap (n.tmod 128 + 128) = n % 128 := by
            rw [wrap_i64 (by omega) (by omega)]
            omega
          simp [-opsC_guardE, opsC_guard, ho, ho2, bin_rem, bin_quo, hm, hm0, w1, w2, conv_int und_int64 und_uint8, wrap_by8, fitsO acc.length _ (by omega), trimE_eq, bsTa, bsTc, bsT_nil]
          exact e
        · have hm : n.tmod 128 = n % 128 := by
            omega
          have hm1 : ¬ n % 128 < 0 := by omega
          simp [-opsC_guardE, opsC_guard, ho, ho2, bin_rem, bin_quo, hm, hm1, w1, w2, conv_int und_int64 und_uint8, wrap_by8, fitsO acc.length _ (by omega), trimE_eq, bsTa, bsTc, bsT_nil]
          exact e
theorem r_S_t (n : Int) (h : i64ok n) : callL LG fn_bodkinref01_S [.t (.v (.int .i64 n))] [] = some (.win 0 0 (sI n).length, [.arr ty_uint8 0 (bsT (sI n)) 0 0]) := by
  have h1 := h.1
  have h2 := h.2
  have key := refS_loop 9 n [] (by omega) (by omega) h (by simp)
  rw [callE LG rfl rfl rfl]
  simp [K_bodkinref01_S_0, bsT_nil] at key
  simp [sI]
  exact key
theorem r_S (n : Int) (h : i64ok n) : NewF fn_bodkinref01_S [.t (.v (.int .i64 n))] (sI n) := fun H => newC rfl (fun H => rfl) rfl (r_S_t n h) H
end Go.Proofs.YtgehpjjpeddomaaGreatDoor
/- Contracts: what encode appends: numbers, bytes, words. -/
namespace Go.Proofs.YtgehpjjpeddomaaGreatDoor
open Go
set_option maxRecDepth 100000
theorem fitsB (n : Nat) (l : List UInt8) (h : n + l.length ≤ 140737488355328) : appFits n l.length 1 1 (bsT l) = true := by
  have := fits_bs h
  rwa [bsT_len] at this
theorem takeB (l : List UInt8) : (bsT l).take l.length = bsT l := List.take_of_length_le (by simp)
theorem wrap_u64ok (n : Int) : u64ok (IntKind.u64.wrap n) := by
  unfold IntKind.wrap
  simp [IntKind.bits, IntKind.signed, u64ok]
  omega
theorem wrap_i64ok (n : Int) : i64ok (IntKind.i64.wrap n) := by
  unfold IntKind.wrap
  simp only [IntKind.bits, IntKind.signed, i64ok]
  simp
  split <;> omega
theorem c_octet8 (n : Int) : WinF fn_encode_octet [.t (.v (.int .i64 n))] [by8 n] 0 := by
  intro bs v hb
  simp only [List.length_cons, List.length_nil, Nat.zero_add] at hb
  rw [callE LG rfl rfl rfl]
  simp [conv_int und_int und_uint8, wrap_by8, fitsO bs.length _ (by omega), bsTa, bsTc, bsT_nil]
theorem c_u (n : Int) : WinF fn_encode_u [.t (.v (.int .i64 n))] (uI n) 0 := by
  intro bs v hb
  have h1 := c_lebU (IntKind.u64.wrap n) (wrap_u64ok n)
  have h2 := fun H => h1 H
  unfold uI at hb ⊢
  rw [callE LG rfl rfl rfl]
  simp [conv_int und_int und_uint64, h2, takeB, fitsB bs.length (encU (IntKind.u64.wrap n).toNat) (by omega), bsTa]
theorem c_s (n : Int) (h : i64ok n) : WinF fn_encode_s [.t (.v (.int .i64 n))] (sI n) 0 := by
  intro bs v hb
  have h1 := c_lebS n h
  have h2 := fun H => h1 H
  rw [callE LG rfl rfl rfl]
  simp [h2, takeB, fitsB bs.length (sI n) (by omega), bsTa]
theorem sig1 {f : Nat} {af : AFun} {x : Value} (h : LG.F f = some af) (hw : af.win = [some ty_uint8]) : WinSig f [.t (.v x)] [.t (.v x)] := ⟨⟨af, [], h, hw, fun _ => rfl⟩, rfl⟩
/-- One number's eight bytes. -/
theorem words1 (n : Int) (l : List Int) (i : Nat) (v : Nat) : ∀ (k : Nat) (n : Int) (acc : List UInt8), k ≤ 8 → u64ok n → acc.length + k ≤ 140737488355328 →
    K_encode_words_1 LG 1 (execL LG 1 (.loop L_encode_words_1) (S_encode_words_1 (.win 0 v acc.length) (.t (.v (.int .u64 n))) (.t (.sl (l.map tU))) (.t (.v (.int .i64 l.length))) (.t (.v (.int .i64 i))) (.t (.v (.int .i64 (8 - k : Int)))) [.arr ty_uint8 v (bsT acc) 0 0])) =
    K_encode_words_0 LG 1 (execL LG 1 (.loop L_encode_words_0) (S_encode_words_0 (.win 0 v (acc.length + k)) (.t (.sl (l.map tU))) (.t (.v (.int .i64 l.length))) (.t (.v (.int .i64 (IntKind.i64.wrap ((i : Int) + 1))))) [.arr ty_uint8 v (bsT (acc ++ lowB k n)) 0 0])) := by
  intro k
  induction k with
  | zero =>
    intro n acc _ _ _
    rw [execL_loop_eq]
    simp [K_encode_words_1, K_encode_words_0, lowB]
  | succ k ih =>
    intro n acc hk hn hb
    obtain ⟨n0, n1⟩ := hn
    have e := ih (n / 256) (acc ++ [by8 n]) (by omega) ⟨by omega, by omega⟩ (by simp; omega)
    have hs : n.fdiv (2 ^ min 8 IntKind.u64.bits) = n / 256 := Int.fdiv_eq_ediv_of_nonneg _ (by decide)
    have hw : IntKind.i64.wrap ((8 : Int) - ((k + 1 : Nat) : Int) + 1) = 8 - (k : Int) := by rw [wrap_i64 (by omega) (by omega)]; omega
    have hlt : (8 : Int) - ((k + 1 : Nat) : Int) < 8 := by omega
    have hw' : IntKind.i64.wrap ((8 : Int) - ((k : Int) + 1) + 1) = 8 - (k : Int) := by simpa using hw
    have hlt' : (8 : Int) - ((k : Int) + 1) < 8 := by simpa using hlt
    have hcat : acc.length + (k + 1) = acc.length + 1 + k := by omega
    rw [execL_loop_eq, hcat]
    simp only [K_encode_words_1, K_encode_words_0, lowB] at e ⊢
    simp [bsTa, bsTc, bsT_nil] at e
    simp [hlt', conv_int und_uint64 und_uint8, wrap_by8, fitsO acc.length _ (by omega), bin_shr, hs, hw', trimE_eq, bsTa, bsTc, bsT_nil]
    exact e
theorem c_words8 (l : List Int) (hl : lenOk l) (hu : ∀ n ∈ l, u64ok n) : WinFB 140737488355328 fn_encode_words [.t (.sl (l.map tU))] (catB (lowB 8) l) 0 := by
  intro bs v hb
  rw [callE LG rfl rfl rfl]
  have key := for_ind l hl (fun k r => ∀ acc : List UInt8, acc.length + (catB (lowB 8) r).length ≤ 140737488355328 → K_encode_words_0 LG 1 (execL LG 1 (.loop L_encode_words_0) (S_encode_words_0 (.win 0 v acc.length) (.t (.sl (l.map tU))) (.t (.v (.int .i64 l.length))) (.t (.v (.int .i64 k))) [.arr ty_uint8 v (bsT acc) 0 0])) =
      some (.win 0 v (acc.length + (catB (lowB 8) r).length), [.arr ty_uint8 v (bsT (acc ++ catB (lowB 8) r)) 0 0]))
    (fun acc _ => by rw [execL_loop_eq]; simp [K_encode_words_0, catB]) (fun k x r hk hx hm hw ih acc hb => by
      simp only [catB, List.length_append, lowB_len] at hb
      have h1 := words1 x l k v 8 x acc (by omega) (hu x hm) (by omega)
      have e := ih (acc ++ lowB 8 x) (by rw [List.length_append, lowB_len]; omega)
      rw [execL_loop_eq]
      simp only [K_encode_words_0, K_encode_words_1] at h1 e ⊢
      rw [hw] at h1
      simp [hx, hk]
      simp at h1
      refine Eq.trans h1 ?_
      have hcat : acc.length + (lowB 8 x ++ catB (lowB 8) r).length = acc.length + 8 + (catB (lowB 8) r).length := by rw [List.length_append, lowB_len]; omega
      rw [List.length_append, lowB_len] at e
      rw [catB, hcat, ← List.append_assoc]
      simpa using e)
  have k0 := key bs (by simpa using hb)
  simp [K_encode_words_0] at k0
  simp
  exact k0
end Go.Proofs.YtgehpjjpeddomaaGreatDoor
/- Contracts: what encode appends: lists of numbers, numbers of either sign. -/
namespace Go.Proofs.YtgehpjjpeddomaaGreatDoor
open Go
set_option maxRecDepth 100000
section
variable {f : Nat} {args args' : List AV} {ys : List UInt8} {dv B : Nat}
/-- A call that appends, in the form in which one goes on. -/
theorem WinFB.go (h : WinFB B f args' ys dv) (s : WinSig f args args') {v n : Nat} {bs : List UInt8} {R : List AO} (hn : n = bs.length) (hb : bs.length + ys.length ≤ B) :
    doC f (.win 0 v n :: args) (.arr ty_uint8 v (bsT bs) 0 0 :: R) = some (.win 0 (v + dv) (bs ++ ys).length, .arr ty_uint8 (v + dv) (bsT (bs ++ ys)) 0 0 :: R) := by
  rw [h.at0 s hn hb, List.length_append]
theorem WinFB.mk (h : ∀ (bs : List UInt8) (v : Nat), bs.length + ys.length ≤ B → callL LG f (.win 0 v bs.length :: args) [.arr ty_uint8 v (bsT bs) 0 0] = some (.win 0 (v + dv) (bs ++ ys).length, [.arr ty_uint8 (v + dv) (bsT (bs ++ ys)) 0 0])) : WinFB B f args ys dv := by
  intro bs v hb
  rw [h bs v hb, List.length_append]
end
theorem appO_bs {bs ys : List UInt8} {n v r : Nat} {h : List AO} (hn : n = bs.length) (hb : bs.length + ys.length ≤ 140737488355328) :
    appO (some (.arr ty_uint8 v (bsT bs) 0 0)) h ty_uint8 1 1 r v n (bsT ys) = some (.win r v (bs ++ ys).length, h.set r (.arr ty_uint8 v (bsT (bs ++ ys)) 0 0)) := by
  subst hn
  have hf := fits_bs hb
  simp only [appO_arr, bsT_len]
  rw [bsT_len] at hf
  simp [hf, bsT_append]
theorem bsT_sing (b : UInt8) : [Tr.v (.int .u8 (b.toNat : Int))] = bsT [b] := rfl
theorem sigI {f : Nat} {af : AFun} {x : Tr} (h : LG.F f = some af) (hw : af.win = [some ty_uint8]) : WinSig f [.t x] [.t x] := ⟨⟨af, [], h, hw, fun _ => rfl⟩, rfl⟩
theorem c_listInt (g : Nat) (F : Int → List UInt8) (l : List Int) (hl : lenOk l) (hg : ∀ n ∈ l, WinF g [.t (.v (.int .i64 n))] (F n) 0) (hs : ∀ n : Int, WinSig g [.t (.v (.int .i64 n))] [.t (.v (.int .i64 n))]) :
    WinF fn_encode_list_int [.t (.sl (ints l)), .clo g [] []] (uI l.length ++ catB F l) 0 := by
  refine WinFB.mk fun bs v hb => ?_
  rw [List.length_append] at hb
  have key := for_ind l hl (fun k r => ∀ acc : List UInt8, acc.length + (catB F r).length ≤ 140737488355000 → K_encode_list_int_0 LG 1 (execL LG 1 (.loop L_encode_list_int_0) (S_encode_list_int_0 (.win 0 v acc.length) (.clo g [] []) (.t (.sl (ints l))) (.t (.v (.int .i64 l.length))) (.t (.v (.int .i64 k))) [.arr ty_uint8 v (bsT acc) 0 0])) =
      some (.win 0 v (acc ++ catB F r).length, [.arr ty_uint8 v (bsT (acc ++ catB F r)) 0 0]))
    (fun acc _ => by rw [execL_loop_eq]; simp [K_encode_list_int_0, catB]) (fun k x r hk hx hm hw ih acc hb => by
      simp only [catB, List.length_append] at hb
      have h1 := fun R => (hg x hm).go (hs x) (v := v) (bs := acc) (R := R) rfl (by omega)
      have e := ih (acc ++ F x) (by rw [List.length_append]; omega)
      rw [execL_loop_eq, catB, ← List.append_assoc]
      simp only [K_encode_list_int_0] at e ⊢
      simp at hw
      simp [-List.length_append, -List.append_assoc, hx, hk, hw, h1, trimE_eq]
      simpa [-List.length_append, -List.append_assoc] using e)
  have h0 := fun R => (c_u l.length).go (sigI rfl rfl) (v := v) (bs := bs) (R := R) rfl (by omega)
  have k0 := key (bs ++ uI l.length) (by rw [List.length_append]; omega)
  rw [callE LG rfl rfl rfl, ← List.append_assoc]
  simp only [K_encode_list_int_0] at k0
  simp [-List.length_append, -List.append_assoc, h0]
  simpa [-List.length_append, -List.append_assoc] using k0
theorem c_listU (l : List Int) (hl : lenOk l) : WinF fn_encode_list_int [.t (.sl (ints l)), .clo fn_encode_u [] []] (listU l) 0 := c_listInt fn_encode_u uI l hl (fun n _ => c_u n) (fun n => sigI rfl rfl)
theorem c_listO (l : List Int) (hl : lenOk l) : WinF fn_encode_list_int [.t (.sl (ints l)), .clo fn_encode_octet [] []] (listO l) 0 := by
  have h := c_listInt fn_encode_octet (fun n => [by8 n]) l hl (fun n _ => c_octet8 n) (fun n => sigI rfl rfl)
  have e : ∀ l : List Int, catB (fun n => [by8 n]) l = l.map by8 := by
    intro l
    induction l with
    | nil => rfl
    | cons x r ih => simp [catB, ih]
  rw [e] at h
  exact h
theorem c_right (H : List AO) : doC fn_ints_right [.t (.v (.int .i64 32))] H = some (.t (.v (.bool true)), H) := by
  refine pureC rfl rfl rfl rfl ?_ H
  rw [callE LG rfl rfl rfl]
  simp [-opsC_guardE, opsC_guard]
theorem c_signed (n : Int) (h : u64ok n) (H : List AO) : doC fn_ints_Signed [.t (.v (.int .i64 32)), .t (.v (.int .u64 n))] H = some (.t (.v (.int .i64 (sgn32 n))), H) := by
  obtain ⟨h0, h1⟩ := h
  refine pureC rfl rfl rfl rfl ?_ H
  rw [callE LG rfl rfl rfl]
  have w1 : IntKind.u64.wrap 32 = 32 := by decide
  have w2 : (2 : Int) ^ min 32 IntKind.u64.bits = 4294967296 := by decide
  have w3 : (2 : Int) ^ min 32 IntKind.i64.bits = 4294967296 := by decide
  have w4 : IntKind.u64.wrap (n * 4294967296) = n % 4294967296 * 4294967296 := by
    unfold IntKind.wrap
    simp [IntKind.bits, IntKind.signed]
    omega
  have w5 : (IntKind.i64.wrap (n % 4294967296 * 4294967296)).fdiv 4294967296 = sgn32 n := by
    rw [Int.fdiv_eq_ediv_of_nonneg _ (by omega)]
    unfold IntKind.wrap sgn32
    simp only [IntKind.bits, IntKind.signed]
    simp
    split <;> split <;> omega
  simp [c_right, conv_int und_int und_uint, conv_int und_uint64 und_int64, bin_shl, bin_shr, w1, w2, w3, w4, w5]
end Go.Proofs.YtgehpjjpeddomaaGreatDoor
/- Contracts: what encode appends for instructions. -/
namespace Go.Proofs.YtgehpjjpeddomaaGreatDoor
open Go
set_option maxRecDepth 100000
theorem allB (l : List UInt8) : (∀ x, x ∈ bsT l → x.cells.length = 1) = True := by
  refine eq_true fun x hx => ?_
  obtain ⟨b, _, rfl⟩ := List.mem_map.1 hx
  rfl
theorem take1 (b : UInt8) : List.take 1 (bsT [b]) = bsT [b] := rfl
theorem take2 (a b : UInt8) : List.take 2 (bsT [a, b]) = bsT [a, b] := rfl
theorem b64 : [Tr.v (.int .u8 64)] = bsT [64] := rfl
theorem b5 : [Tr.v (.int .u8 5)] = bsT [5] := rfl
theorem b11 : [Tr.v (.int .u8 11)] = bsT [11] := rfl
theorem b0 : [Tr.v (.int .u8 0)] = bsT [0] := rfl
theorem b00 : [Tr.v (.int .u8 0), Tr.v (.int .u8 0)] = bsT [0, 0] := rfl
/-- What is asked of instructions that are written: a lane where one is read. -/
def laneOk (i : Ins) : Prop := immS i.op = 26 → i.l ≠ []
abbrev insA (l : List Ins) : AV := .t (.sl (l.map Ins.enc))
theorem c_block (i : Ins) (hi : i.ok) (hb : WinF fn_encode_code [insA i.body] (bytesL i.body) (verL i.body)) (he : WinF fn_encode_code [insA i.els] (bytesL i.els) (verL i.els)) :
    WinF fn_encode_block [.t i.enc] (blockB i) (blockV i) := by
  have hi0 := (Ins.ok_iff i).1 hi
  refine WinFB.mk fun bs v hl => ?_
  unfold blockB at hl
  simp only [List.length_append, List.length_cons, List.length_nil] at hl
  have ht : ∀ (t : List UInt8) (x : Option (Ex × St)), t.length = (typeB i.a i.b).length → bs.length + t.length + (bytesL i.body).length + (if i.other = true then 5 :: bytesL i.els else []).length + 1 ≤ 140737488355328 := fun t _ h => by omega
  rw [callE LG rfl rfl rfl]
  have hc := fun R => hb.go (sigI rfl rfl) (v := v) (bs := bs ++ typeB i.a i.b) (R := R) rfl (by rw [List.length_append]; omega)
  have tail : ∀ t : List UInt8, t = typeB i.a i.b → True := fun _ _ => trivial
  by_cases ho : i.other = true
  · rw [ho] at hl
    simp only [if_true, List.length_cons] at hl
    have q5 : ∀ h : List AO, _ := fun h => appO_bs (bs := bs ++ typeB i.a i.b ++ bytesL i.body) (ys := [5]) (v := v + verL i.body) (r := 0) (h := h) rfl (by simp only [List.length_append, List.length_cons, List.length_nil]; omega)
    have hd := fun R => he.go (sigI rfl rfl) (v := v + verL i.body) (bs := bs ++ typeB i.a i.b ++ bytesL i.body ++ [5]) (R := R) rfl (by simp only [List.length_append, List.length_cons, List.length_nil]; omega)
    have q11 : ∀ h : List AO, _ := fun h => appO_bs (bs := bs ++ typeB i.a i.b ++ bytesL i.body ++ [5] ++ bytesL i.els) (ys := [11]) (v := v + verL i.body + verL i.els) (r := 0) (h := h) rfl (by simp only [List.length_append, List.length_cons, List.length_nil]; omega)
    have fin : bs ++ blockB i = bs ++ typeB i.a i.b ++ bytesL i.body ++ [5] ++ bytesL i.els ++ [11] := by simp [blockB, ho]
    have finv : v + blockV i = v + verL i.body + verL i.els := by simp [blockV, ho]; omega
    rw [fin, finv]
    by_cases ha : i.a = 0
    · have ht : typeB i.a i.b = [64] := by simp [typeB, ha]
      rw [ht] at hc q5 hd q11 hl ⊢
      have q64 : ∀ h : List AO, _ := fun h => appO_bs (bs := bs) (ys := [64]) (v := v) (r := 0) (h := h) rfl (by simp only [List.length_cons, List.length_nil] at hl ⊢; omega)
      simp [-List.length_append, -List.append_assoc, -appO_arr, ha, ho, b64, b5, b11, takeB, take1, take2, allB, q64, hc, q5, hd, q11]
    · by_cases ha1 : i.a = 1
      · have ht : typeB i.a i.b = [by8 i.b] := by simp [typeB, ha1]
        rw [ht] at hc q5 hd q11 hl ⊢
        have q1 := fun R => (c_octet8 i.b).go (sigI rfl rfl) (v := v) (bs := bs) (R := R) rfl (by simp only [List.length_cons, List.length_nil] at hl ⊢; omega)
        simp [-List.length_append, -List.append_assoc, -appO_arr, ha1, ho, b5, b11, takeB, take1, take2, allB, q1, hc, q5, hd, q11]
      · have ht : typeB i.a i.b = sI i.b := by simp [typeB, ha, ha1]
        rw [ht] at hc q5 hd q11 hl ⊢
        have q1 := fun R => (c_s i.b hi0.2.2.1).go (sigI rfl rfl) (v := v) (bs := bs) (R := R) rfl (by omega)
        simp [-List.length_append, -List.append_assoc, -appO_arr, ha, ha1, ho, b5, b11, takeB, take1, take2, allB, q1, hc, q5, hd, q11]
  · have ho' : i.other = false := by simpa using ho
    rw [ho'] at hl
    simp only [Bool.false_eq_true, if_false, List.length_nil] at hl
    have q11 : ∀ h : List AO, _ := fun h => appO_bs (bs := bs ++ typeB i.a i.b ++ bytesL i.body) (ys := [11]) (v := v + verL i.body) (r := 0) (h := h) rfl (by simp only [List.length_append, List.length_cons, List.length_nil]; omega)
    have fin : bs ++ blockB i = bs ++ typeB i.a i.b ++ bytesL i.body ++ [11] := by simp [blockB, ho']
    have finv : v + blockV i = v + verL i.body := by simp [blockV, ho']
    rw [fin, finv]
    by_cases ha : i.a = 0
    · have ht : typeB i.a i.b = [64] := by simp [typeB, ha]
      rw [ht] at hc q11 hl ⊢
      have q64 : ∀ h : List AO, _ := fun h => appO_bs (bs := bs) (ys := [64]) (v := v) (r := 0) (h := h) rfl (by simp only [List.length_cons, List.length_nil] at hl ⊢; omega)
      simp [-List.length_append, -List.append_assoc, -appO_arr, ha, ho', b64, b11, takeB, take1, take2, allB, q64, hc, q11]
    · by_cases ha1 : i.a = 1
      · have ht : typeB i.a i.b = [by8 i.b] := by simp [typeB, ha1]
        rw [ht] at hc q11 hl ⊢
        have q1 := fun R => (c_octet8 i.b).go (sigI rfl rfl) (v := v) (bs := bs) (R := R) rfl (by simp only [List.length_cons, List.length_nil] at hl ⊢; omega)
        simp [-List.length_append, -List.append_assoc, -appO_arr, ha1, ho', b11, takeB, take1, take2, allB, q1, hc, q11]
      · have ht : typeB i.a i.b = sI i.b := by simp [typeB, ha, ha1]
        rw [ht] at hc q11 hl ⊢
        have q1 := fun R => (c_s i.b hi0.2.2.1).go (sigI rfl rfl) (v := v) (bs := bs) (R := R) rfl (by omega)
        simp [-List.length_append, -List.append_assoc, -appO_arr, ha, ha1, ho', b11, takeB, take1, take2, allB, q1, hc, q11]
end Go.Proofs.YtgehpjjpeddomaaGreatDoor
