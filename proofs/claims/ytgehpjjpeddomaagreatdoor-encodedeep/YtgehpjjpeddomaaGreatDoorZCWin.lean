/- Parts, one behind the other; the last: Windows of bytes that are handed on: how a call that appends is used, whatever else the heap holds. -/
import Derived.Test.YtgehpjjpeddomaaGreatDoorZCMod
import Derived.Test.YtgehpjjpeddomaaGreatDoorRows
set_option linter.all false
/- Contracts, first part: how loops over lists and closures are gone through. -/
namespace Go.Proofs.YtgehpjjpeddomaaGreatDoor
open Go
set_option maxRecDepth 100000

def glb (g : Nat) : Option (List Tr) :=
  if g = g_ops_more then some (toTr (Hd := Unit) Rows.laid_bodkin_ops_more).cells
  else if g = g_strings_asciiSpace then some (toTr (Hd := Unit) Rows.laid_strings_asciiSpace).cells
  else none

noncomputable abbrev LG : Lay := lay glb
noncomputable abbrev doC (f : Nat) (args : List AV) (H : List AO) : Option (AV × List AO) := doCall LG (callL LG) f args H
noncomputable abbrev runC (f : Nat) (args : List AV) (H : List AO) : Option (AV × List AO) := callL LG f args H

/-- A call on plain data, by its run from nothing. -/
theorem pureC {f : Nat} {af : AFun} {args : List AV} {r : AV} (hf : LG.F f = some af) (hw : af.win = []) (hc : AV.closed.closedL args = true) (hr : r.closed = true) (h : callL LG f args [] = some (r, [])) (H : List AO) :
    doCall LG (callL LG) f args H = some (r, H) := doCall_pure hf hw hc hr h H

/-- Through a list, step by step. -/
theorem for_ind {α : Type} (l : List α) (hl : lenOk l) (P : Nat → List α → Prop) (h0 : P l.length [])
    (h1 : ∀ k x r (hk : k < l.length), l[k] = x → x ∈ l → IntKind.i64.wrap ((k : Int) + 1) = ((k + 1 : Nat) : Int) → P (k + 1) r → P k (x :: r)) : P 0 l := by
  have key : ∀ n k, n = l.length - k → k ≤ l.length → P k (l.drop k) := by
    intro n
    induction n with
    | zero =>
      intro k hn hk
      have : k = l.length := by omega
      subst this
      rw [List.drop_length]
      exact h0
    | succ n ih =>
      intro k hn hk
      have hk' : k < l.length := by omega
      rw [List.drop_eq_getElem_cons hk']
      have hl' : l.length ≤ 9223372036854775807 := hl
      exact h1 k _ _ hk' rfl (List.getElem_mem hk') (by rw [wrap_i64 (by omega) (by omega)]; omega) (ih (k + 1) (by omega) hk')
  have := key l.length 0 (by omega) (by omega)
  simpa using this

/-- A closure that tells of each. -/
def Tells {α : Type} (c : AV) (l : List α) (enc : α → Tr) (p : α → Bool) : Prop :=
  (c.closed = true ∧ c.ok = true ∧ c.cells = [c]) ∧ ∀ x ∈ l, ∀ H, callvK LG (callL LG) c [.t (enc x)] H = some (.t (.v (.bool (p x))), H)

def findI {α : Type} (p : α → Bool) : List α → Nat → Int
  | [], _ => -1
  | x :: r, k => if p x then (k : Int) else findI p r (k + 1)

theorem findI_ge {α : Type} (p : α → Bool) : ∀ (l : List α) (k : Nat), decide (0 ≤ findI p l k) = l.any p
  | [], k => rfl
  | x :: r, k => by
    unfold findI
    rw [List.any_cons, ← findI_ge p r (k + 1)]
    cases p x <;> simp

/-- A closure that tells of each, in its heap. -/
def TellsIn {α : Type} (c : AV) (h : List AO) (l : List α) (enc : α → Tr) (p : α → Bool) : Prop :=
  ∀ x ∈ l, callvK LG (callL LG) c [.t (enc x)] h = some (.t (.v (.bool (p x))), h)

theorem closed_clo0 {c : AV} (h : c.closed = true) : refs c = [] ∧ ∀ ρ, ren ρ c = c := ⟨closed_refs h, fun ρ => ren_eq ρ c fun r hr => by rw [closed_refs h] at hr; simp at hr⟩

/-! ### texts as lists of bytes -/
@[simp] theorem size_mk (s : List UInt8) : ByteArray.size ⟨s.toArray⟩ = s.length := by simp [ByteArray.size]
@[simp] theorem toList_mk (s : List UInt8) : (ByteArray.mk s.toArray).data.toList = s := by simp
@[simp] theorem ba_toList (a : Array UInt8) : (ByteArray.mk a).toList = a.toList := by
  rw [ByteArray.toList_eq]
theorem ba_ext {a b : ByteArray} (h : a.data.toList = b.data.toList) : a = b := by
  obtain ⟨⟨a⟩⟩ := a
  obtain ⟨⟨b⟩⟩ := b
  simp only at h
  rw [h]
theorem ba_extract (s : List UInt8) (a b : Nat) : (ByteArray.mk s.toArray).extract a b = ⟨((s.drop a).take (b - a)).toArray⟩ := by
  refine ba_ext ?_
  rw [ByteArray.data_extract]
  simp
theorem ba_append (s t : List UInt8) : (ByteArray.mk s.toArray) ++ (ByteArray.mk t.toArray) = ⟨(s ++ t).toArray⟩ := by
  refine ba_ext ?_
  rw [ByteArray.data_append]
  simp


@[simp] theorem nn1 (k : Nat) : ((0 : Int) ≤ (k : Int) + 1) = True := by simp; omega
@[simp] theorem bsT_len (s : List UInt8) : (bsT s).length = s.length := by simp [bsT]

/-! ### more operations -/
section
variable (L : Lay) (C : Mean) (ts : List AV) (h : List AO)
def sslK (a : AV) (lo hi : Option (Option Nat)) (h : List AO) : Option (AV × List AO) := match a with
    | .t (.v (.string s)) =>
      (match hi with | some o => o | none => some s.size).bind fun b =>
      (match lo with | some o => o | none => some 0).bind fun a =>
      if a ≤ b ∧ b ≤ s.size then some (.t (.v (.string (s.extract a b))), h) else none
    | _ => none
@[simp] theorem opC_ssl (x : Opd) (lo hi : Option Opd) : opC L C ts h (.ssl x lo hi) = sslK (x.ev L ts) (lo.map fun o => asNat? (o.ev L ts)) (hi.map fun o => asNat? (o.ev L ts)) h := by
  simp only [opC, AOp.run, sslK]
  cases lo <;> cases hi <;> rfl
@[simp] theorem sslK_11 (s : List UInt8) (a b : Nat) : sslK (.t (str s)) (some (some a)) (some (some b)) h = if a ≤ b ∧ b ≤ s.length then some (.t (str ((s.drop a).take (b - a))), h) else none := by
  simp only [sslK, Option.bind_some, size_mk, ba_extract]
@[simp] theorem sslK_10 (s : List UInt8) (a : Nat) : sslK (.t (str s)) (some (some a)) none h = if a ≤ s.length then some (.t (str (s.drop a)), h) else none := by
  simp only [sslK, Option.bind_some, size_mk, ba_extract, Nat.le_refl, and_true]
  rw [List.take_of_length_le (by simp)]
@[simp] theorem sslK_01 (s : List UInt8) (b : Nat) : sslK (.t (str s)) none (some (some b)) h = if b ≤ s.length then some (.t (str (s.take b)), h) else none := by
  simp [sslK, ba_extract]
@[simp] theorem sslK_00 (s : List UInt8) : sslK (.t (str s)) none none h = some (.t (str s), h) := by
  simp [sslK, ba_extract]
def slK (sz : Nat) (cut : Bool) (x : AV) (lo hi : Option (Option Nat)) (h : List AO) : Option (AV × List AO) :=
      (lenS x).bind fun n =>
      (match hi with | some o => o | none => some n).bind fun b =>
      (match lo with | some o => o | none => some 0).bind fun a =>
      if a ≤ b ∧ b ≤ n then
        if cut then match x, lo with
          | .win r v k, none => cutW h r v k b
          | _, _ => none
        else (fz x h).bind fun q => match q.1 with
          | .sl xs => if lo.isNone = true ∨ xs.all (fun y => y.cells.length = sz) = true then some (.t (.sl ((xs.take b).drop a)), q.2) else none
          | _ => none
      else none
@[simp] theorem opC_sl (sz : Nat) (cut : Bool) (x : Opd) (lo hi : Option Opd) : opC L C ts h (.sl sz cut x lo hi) = slK sz cut (x.ev L ts) (lo.map fun o => asNat? (o.ev L ts)) (hi.map fun o => asNat? (o.ev L ts)) h := by
  simp only [opC, AOp.run, slK]
  generalize x.ev L ts = a
  cases a <;> cases lo <;> cases hi <;> rfl
@[simp] theorem slK_11 (sz : Nat) (xs : List Tr) (a b : Nat) : slK sz false (.t (.sl xs)) (some (some a)) (some (some b)) h = if a ≤ b ∧ b ≤ xs.length then if xs.all (fun y => y.cells.length = sz) = true then some (.t (.sl ((xs.take b).drop a)), h) else none else none := by
  simp [slK]
@[simp] theorem slK_10 (sz : Nat) (xs : List Tr) (a : Nat) : slK sz false (.t (.sl xs)) (some (some a)) none h = if a ≤ xs.length then if xs.all (fun y => y.cells.length = sz) = true then some (.t (.sl (xs.drop a)), h) else none else none := by
  simp [slK]
@[simp] theorem slK_01 (sz : Nat) (xs : List Tr) (b : Nat) : slK sz false (.t (.sl xs)) none (some (some b)) h = if b ≤ xs.length then some (.t (.sl (xs.take b)), h) else none := by
  simp [slK]
def storeE2 (o : Option AO) (h' : List AO) (x : Tr) (r ver w j off : Nat) : Option (List AO) := match o with
      | some (.arr e v xs m d) => if ver = v ∧ w = xs.length ∧ m ≤ j then (xs[j]?).bind fun y => (setElem y off x.cells).map fun y' => h'.set r (.arr e v (xs.set j y') m w) else none
      | _ => none
def storeE (q : Option (Tr × List AO)) (n r ver w j off : Nat) : Option (List AO) := q.bind fun (x, h') => if x.cells.length = n then storeE2 h'[r]? h' x r ver w j off else none
@[simp] theorem storeA_ep (n r ver w j off : Nat) (a : AV) : storeA h n (.ep r ver w j off) a = storeE (fz a h) n r ver w j off := of_eq_true (eq_true rfl)
@[simp] theorem storeE_some (x : Tr) (n r ver w j off : Nat) : storeE (some (x, h)) n r ver w j off = if x.cells.length = n then storeE2 h[r]? h x r ver w j off else none := of_eq_true (eq_true rfl)
@[simp] theorem storeE2_arr (e v : Nat) (xs : List Tr) (m d : Nat) (x : Tr) (r ver w j off : Nat) : storeE2 (some (.arr e v xs m d)) h x r ver w j off =
    if ver = v ∧ w = xs.length ∧ m ≤ j then (xs[j]?).bind fun y => (setElem y off x.cells).map fun y' => h.set r (.arr e v (xs.set j y') m w) else none := of_eq_true (eq_true rfl)
@[simp] theorem setElem_v (x : Value) (c : Tr) : setElem (.v x) 0 [c] = some c := by simp [setElem]
@[simp] theorem setElem_sl (x : List Tr) (c : Tr) : setElem (.sl x) 0 [c] = some c := by simp [setElem]
@[simp] theorem setElem_agg (l : List Tr) (off : Nat) (cs : List Tr) : setElem (.agg l) off cs = if off + cs.length ≤ l.length then some (.agg (setT l off cs)) else none := of_eq_true (eq_true rfl)
@[simp] theorem setT_nil (cs : List Tr) (off : Nat) : setT cs off [] = cs := of_eq_true (eq_true rfl)
@[simp] theorem setT_cons (cs : List Tr) (off : Nat) (x : Tr) (r : List Tr) : setT cs off (x :: r) = setT (cs.set off x) (off + 1) r := of_eq_true (eq_true rfl)
@[simp] theorem opC_mksl (e : Nat) (z : Tr) (b : Nat) (x : Opd) : opC L C ts h (.mksl e z b x) = (asNat? (x.ev L ts)).bind fun k => if b * k ≤ 281474976710656 ∧ k ≤ maxLenB then some (.win h.length 0 k, h ++ [.arr e 0 (List.replicate k z) 0 0]) else none := of_eq_true (eq_true rfl)
end

/-! ### regions whose order is drawn -/
section
variable (L : Lay) (C : Mean)
noncomputable def opsDb (d : Nat × Nat) (op : AOp) (past : List (List AO)) (ts : List AV) (a : AV) (h' : List AO) (x : Option (St × List (List AO))) : Option (St × List (List AO)) := x.bind fun q =>
  if altC L C ts op a (past.take d.1 ++ q.2.take d.2) = true then some (q.1, if op.kind = 2 then h' :: q.2 else q.2) else none
noncomputable def opsDa (d : Nat × Nat) (dr : List (Nat × Nat)) (dst : Option Nat) (op : AOp) (r : List AOr) (past : List (List AO)) (ts : List AV) (h : List AO) (x : Option (AV × List AO)) : Option (St × List (List AO)) := x.bind fun p =>
  opsDb L C d op past ts p.1 p.2 (opsD L C dr r (if op.kind = 2 then h :: past else past) ⟨putO ts dst p.1, p.2⟩)
@[simp] theorem opsD_nil (dr : List (Nat × Nat)) (past : List (List AO)) (s : St) : opsD L C dr [] past s = some (s, []) := by cases dr <;> rfl
@[simp ↓] theorem opsD_plain (d : Nat × Nat) (dr : List (Nat × Nat)) (dst : Option Nat) (op : AOp) (r : List AOr) (past : List (List AO)) (ts : List AV) (h : List AO) :
    opsD L C (d :: dr) (⟨dst, none, op⟩ :: r) past ⟨ts, h⟩ = opsDa L C d dr dst op r past ts h (opC L C ts h op) := of_eq_true (eq_true rfl)
@[simp] theorem opsDa_some (d : Nat × Nat) (dr : List (Nat × Nat)) (dst : Option Nat) (op : AOp) (r : List AOr) (past : List (List AO)) (ts : List AV) (h : List AO) (a : AV) (h' : List AO) :
    opsDa L C d dr dst op r past ts h (some (a, h')) = opsDb L C d op past ts a h' (opsD L C dr r (if op.kind = 2 then h :: past else past) ⟨putO ts dst a, h'⟩) := of_eq_true (eq_true rfl)
@[simp] theorem opsDb_some (d : Nat × Nat) (op : AOp) (past : List (List AO)) (ts : List AV) (a : AV) (h' : List AO) (s : St) (f : List (List AO)) :
    opsDb L C d op past ts a h' (some (s, f)) = if altC L C ts op a (past.take d.1 ++ f.take d.2) = true then some (s, if op.kind = 2 then h' :: f else f) else none := of_eq_true (eq_true rfl)
@[simp] theorem altC_nil (ts : List AV) (o : AOp) (v : AV) : altC L C ts o v [] = true := of_eq_true (eq_true rfl)
noncomputable def altOk (x : Option (AV × List AO)) (v : AV) : Bool := match x with | some p => eqv p.1 v | none => false
@[simp] theorem altOk_some (a : AV) (h : List AO) (v : AV) : altOk (some (a, h)) v = eqv a v := of_eq_true (eq_true rfl)
@[simp] theorem altC_cons (ts : List AV) (o : AOp) (v : AV) (h : List AO) (r : List (List AO)) : altC L C ts o v (h :: r) = (altOk (opC L C ts h o) v && altC L C ts o v r) := of_eq_true (eq_true rfl)
@[simp] theorem eqv_self (a : AV) : eqv a a = true := by simp [eqv]
@[simp] theorem eqvH_self (a : List AO) : eqvH a a = true := by simp [eqvH]
@[simp] theorem quiet_some (h : List AO) (a : AV) (h' : List AO) : quiet h (some (a, h')) = if eqvH h' h = true then some (a, h) else none := of_eq_true (eq_true rfl)
@[simp] theorem opC_callq (ts : List AV) (h : List AO) (f : Nat) (args : List Opd) : opC L C ts h (.callq f args) = quiet h (doCall L C f (args.map (·.ev L ts)) h) := of_eq_true (eq_true rfl)
def buildqK (x : Option (List AV)) (h : List AO) : Option (AV × List AO) := x.bind fun cs => (fzL cs).map fun l => (.t (.agg l), h)
@[simp] theorem buildqK_some (cs : List AV) (h : List AO) : buildqK (some cs) h = (fzL cs).map fun l => (.t (.agg l), h) := of_eq_true (eq_true rfl)
@[simp] theorem opC_buildq (ts : List AV) (h : List AO) (z : List Tr) (ps : List (Nat × Nat × Opd)) : opC L C ts h (.buildq z ps) = buildqK (fillC (z.map .t) (ps.map fun p => (p.1, p.2.1, p.2.2.ev L ts))) h := of_eq_true (eq_true rfl)
attribute [simp] AOp.kind
end
end Go.Proofs.YtgehpjjpeddomaaGreatDoor
/- Windows of bytes that are handed on: how a call that appends is used, whatever else the heap holds. -/
namespace Go.Proofs.YtgehpjjpeddomaaGreatDoor
open Go
set_option maxRecDepth 100000

/-! ### bytes -/
def by8 (n : Int) : UInt8 := UInt8.ofNat (n % 256).toNat
theorem by8_nat (n : Int) : ((by8 n).toNat : Int) = n % 256 := by
  unfold by8
  rw [UInt8.toNat_ofNat']
  omega
theorem wrap_by8 (n : Int) : IntKind.u8.wrap n = ((by8 n).toNat : Int) := by
  rw [by8_nat]
  unfold IntKind.wrap
  simp [IntKind.bits, IntKind.signed]
theorem by8_eq {a b : Int} (h : a % 256 = b % 256) : by8 a = by8 b := by unfold by8; rw [h]
theorem by8_mod (n : Int) : by8 (n % 256) = by8 n := by8_eq (by omega)
theorem bsT_append (a b : List UInt8) : bsT a ++ bsT b = bsT (a ++ b) := by simp [bsT]
theorem bsT_cons (a : UInt8) (b : List UInt8) : Tr.v (.int .u8 (a.toNat : Int)) :: bsT b = bsT (a :: b) := rfl
theorem bsT_snoc (a : List UInt8) (b : UInt8) : bsT a ++ [.v (.int .u8 (b.toNat : Int))] = bsT (a ++ [b]) := by simp [bsT]
theorem bsT_nil : bsT [] = [] := rfl
theorem bsT_take (a : List UInt8) (n : Nat) : (bsT a).take n = bsT (a.take n) := by simp [bsT, List.map_take]
theorem bsT_one (a : List UInt8) : ((bsT a).all fun y => decide (y.cells.length = 1)) = true := by simp [bsT]
theorem fits_bs {n : Nat} {l : List UInt8} (h : n + l.length ≤ 140737488355328) : appFits n (bsT l).length 1 1 (bsT l) = true := by
  unfold appFits
  have := bsT_one l
  simp only [maxLenB, Nat.mul_one, decide_eq_true_eq]
  exact ⟨by simpa using h, by simpa using h, this⟩
/-! ### calls -/
section
variable {f : Nat} {af : AFun} {args args' : List AV} {H : List AO} {e e' ver ver' n k r m d m' d' : Nat} {xs xs' : List Tr} {rest : List (Option Nat)}
/-- A call on plain data that answers with a new window. -/
theorem newC (hf : LG.F f = some af) (hco : ∀ H, coerce args af.win H = (args', H)) (hc : AV.closed.closedL args' = true) (h : callL LG f args' [] = some (.win 0 ver k, [.arr e ver xs m d])) (H : List AO) :
    doCall LG (callL LG) f args H = some (.win H.length ver k, H ++ [.arr e ver xs m d]) := by
  unfold doCall
  rw [hf]
  simp only [hco, closedL_refs hc, reach_none, Option.bind_some, closedL_ren hc, pick, List.map_nil, h, List.length_cons, List.length_nil, Nat.zero_le, if_true, back, List.map_cons, AO.ren, ren]
  simp [backρ]
/-- A call that is handed a window, and hands it back. -/
theorem winC (hf : LG.F f = some af) (hw : af.win = some e' :: rest) (hr : ∀ H, coerce args rest H = (args', H)) (hc : AV.closed.closedL args' = true) (hH : H[r]? = some (.arr e ver xs m d))
    (h : callL LG f (.win 0 ver n :: args') [.arr e ver xs m d] = some (.win 0 ver' k, [.arr e ver' xs' m' d'])) :
    doCall LG (callL LG) f (.win r ver n :: args) H = some (.win r ver' k, H.set r (.arr e ver' xs' m' d')) := by
  have hg : H.getD r .dead = .arr e ver xs m d := by rw [List.getD_eq_getElem?_getD, hH]; rfl
  unfold doCall
  rw [hf]
  have h1 : coerce (.win r ver n :: args) af.win H = (.win r ver n :: args', H) := by rw [hw]; simp only [coerce, coerce1, hr]
  have h2 : refs.refsL (.win r ver n :: args') = [r] := by simp only [refs.refsL, refs, closedL_refs hc, List.append_nil]
  have h3 : ∀ q, reach H (q + 1 + 1) [r] [] = some [r] := fun q => by
    simp only [reach, List.contains_nil, Bool.false_eq_true, if_false, hH, AO.refs, List.append_nil, List.nil_append]
  have h4 : (fun r_1 => List.idxOf r_1 [r]) r = 0 := by simp
  simp only [h1, h2]
  rw [show H.length + H.length + (AV.win r ver n :: args).length + 8 = (H.length + H.length + (AV.win r ver n :: args).length + 6) + 1 + 1 by omega, h3]
  simp only [Option.bind_some, ren.renL, ren, closedL_ren hc, pick, List.map_cons, List.map_nil, AO.ren, hg, List.idxOf_cons_self, h, List.length_cons, List.length_nil, Nat.le_refl, if_true, back]
  simp [backρ]
/-- The same, handed nil. -/
theorem nilC (hf : LG.F f = some af) (hw : af.win = some e' :: rest) (hr : ∀ H, coerce args rest H = (args', H)) (hc : AV.closed.closedL args' = true)
    (h : callL LG f (.win 0 0 0 :: args') [.arr e' 0 [] 0 0] = some (.win 0 ver' k, [.arr e' ver' xs' m' d'])) (H : List AO) :
    doCall LG (callL LG) f (.nils :: args) H = some (.win H.length ver' k, H ++ [.arr e' ver' xs' m' d']) := by
  have h0 := winC (H := H ++ [.arr e' 0 [] 0 0]) (r := H.length) (ver := 0) (n := 0) (args := args) hf hw hr hc (by simp) h
  have h1 : doCall LG (callL LG) f (.nils :: args) H = doCall LG (callL LG) f (.win H.length 0 0 :: args) (H ++ [.arr e' 0 [] 0 0]) := by
    unfold doCall
    rw [hf]
    simp only [hw, coerce, coerce1, List.length_cons]
  rw [h1, h0]
  simp
end
/-- What it means that a function appends these bytes to the window that it is handed. -/
def WinFB (B f : Nat) (args : List AV) (ys : List UInt8) (dv : Nat) : Prop := ∀ (bs : List UInt8) (v : Nat), bs.length + ys.length ≤ B →
  callL LG f (.win 0 v bs.length :: args) [.arr ty_uint8 v (bsT bs) 0 0] = some (.win 0 (v + dv) (bs.length + ys.length), [.arr ty_uint8 (v + dv) (bsT (bs ++ ys)) 0 0])
/-- With some room left below the greatest length. -/
abbrev WinF (f : Nat) (args : List AV) (ys : List UInt8) (dv : Nat) : Prop := WinFB 140737488355000 f args ys dv
/-- The function takes a window first, and plain data. -/
structure WinSig (f : Nat) (args args' : List AV) : Prop where
  sig : ∃ af rest, LG.F f = some af ∧ af.win = some ty_uint8 :: rest ∧ ∀ H, coerce args rest H = (args', H)
  cl : AV.closed.closedL args' = true
section
variable {f : Nat} {args args' : List AV} {ys : List UInt8} {dv B : Nat}
theorem WinFB.at (h : WinFB B f args' ys dv) (s : WinSig f args args') {r v n : Nat} {bs : List UInt8} {H : List AO} (hH : H[r]? = some (.arr ty_uint8 v (bsT bs) 0 0)) (hn : n = bs.length) (hb : bs.length + ys.length ≤ B) :
    doC f (.win r v n :: args) H = some (.win r (v + dv) (bs.length + ys.length), H.set r (.arr ty_uint8 (v + dv) (bsT (bs ++ ys)) 0 0)) := by
  obtain ⟨⟨af, rest, h1, h2, h3⟩, h4⟩ := s
  subst hn
  exact winC h1 h2 h3 h4 hH (h bs v hb)
theorem WinFB.at0 (h : WinFB B f args' ys dv) (s : WinSig f args args') {v n : Nat} {bs : List UInt8} {R : List AO} (hn : n = bs.length) (hb : bs.length + ys.length ≤ B) :
    doC f (.win 0 v n :: args) (.arr ty_uint8 v (bsT bs) 0 0 :: R) = some (.win 0 (v + dv) (bs.length + ys.length), .arr ty_uint8 (v + dv) (bsT (bs ++ ys)) 0 0 :: R) := by
  simpa using h.at s (r := 0) (H := .arr ty_uint8 v (bsT bs) 0 0 :: R) rfl hn hb
theorem WinFB.atNil (h : WinFB B f args' ys dv) (s : WinSig f args args') (hb : ys.length ≤ B) (H : List AO) : doC f (.nils :: args) H = some (.win H.length dv ys.length, H ++ [.arr ty_uint8 dv (bsT ys) 0 0]) := by
  obtain ⟨⟨af, rest, h1, h2, h3⟩, h4⟩ := s
  have := nilC h1 h2 h3 h4 (by simpa [bsT_nil] using h [] 0 (by simpa using hb)) H
  simpa using this
end
/-- What it means that a function answers with a new window of these bytes. -/
def NewF (f : Nat) (args : List AV) (ys : List UInt8) : Prop := ∀ H, doC f args H = some (.win H.length 0 ys.length, H ++ [.arr ty_uint8 0 (bsT ys) 0 0])
end Go.Proofs.YtgehpjjpeddomaaGreatDoor
