/- Parts, one behind the other; the last: Contracts: how deep instructions are nested, in both packages. -/
import Derived.Test.YtbabbianbhcjiaaGreatDoorZCMod
import Derived.Test.YtbabbianbhcjiaaGreatDoorRows
set_option linter.all false
/- Contracts, first part: how loops over lists and closures are gone through. -/
namespace Go.Proofs.YtbabbianbhcjiaaGreatDoor
open Go
set_option maxRecDepth 100000

def glb (g : Nat) : Option (List Tr) :=
  if g = g_ops_more then some (toTr (Hd := Unit) Rows.laid_bodkin_ops_more).cells
  else if g = g_strings_asciiSpace then some (toTr (Hd := Unit) Rows.laid_strings_asciiSpace).cells
  else none

noncomputable abbrev LG : Lay := lay glb
noncomputable abbrev doC (f : Nat) (args : List AV) (H : List AO) : Option (AV × List AO) := doCall LG (callL LG) f args H
noncomputable abbrev runC (f : Nat) (args : List AV) (H : List AO) : Option (AV × List AO) := callL LG f args H

/-- A call on plain data, by its run from nothing. -/
theorem pureC {f : Nat} {af : AFun} {args : List AV} {r : AV} (hf : LG.F f = some af) (hw : af.win = []) (hc : AV.closed.closedL args = true) (hr : r.closed = true) (h : callL LG f args [] = some (r, [])) (H : List AO) :
    doCall LG (callL LG) f args H = some (r, H) := doCall_pure hf hw hc hr h H

/-- Through a list, step by step. -/
theorem for_ind {α : Type} (l : List α) (hl : lenOk l) (P : Nat → List α → Prop) (h0 : P l.length [])
    (h1 : ∀ k x r (hk : k < l.length), l[k] = x → x ∈ l → IntKind.i64.wrap ((k : Int) + 1) = ((k + 1 : Nat) : Int) → P (k + 1) r → P k (x :: r)) : P 0 l := by
  have key : ∀ n k, n = l.length - k → k ≤ l.length → P k (l.drop k) := by
    intro n
    induction n with
    | zero =>
      intro k hn hk
      have : k = l.length := by omega
      subst this
      rw [List.drop_length]
      exact h0
    | succ n ih =>
      intro k hn hk
      have hk' : k < l.length := by omega
      rw [List.drop_eq_getElem_cons hk']
      have hl' : l.length ≤ 9223372036854775807 := hl
      exact h1 k _ _ hk' rfl (List.getElem_mem hk') (by rw [wrap_i64 (by omega) (by omega)]; omega) (ih (k + 1) (by omega) hk')
  have := key l.length 0 (by omega) (by omega)
  simpa using this

/-- A closure that tells of each. -/
def Tells {α : Type} (c : AV) (l : List α) (enc : α → Tr) (p : α → Bool) : Prop :=
  (c.closed = true ∧ c.ok = true ∧ c.cells = [c]) ∧ ∀ x ∈ l, ∀ H, callvK LG (callL LG) c [.t (enc x)] H = some (.t (.v (.bool (p x))), H)

def findI {α : Type} (p : α → Bool) : List α → Nat → Int
  | [], _ => -1
  | x :: r, k => if p x then (k : Int) else findI p r (k + 1)

theorem findI_ge {α : Type} (p : α → Bool) : ∀ (l : List α) (k : Nat), decide (0 ≤ findI p l k) = l.any p
  | [], k => rfl
  | x :: r, k => by
    unfold findI
    rw [List.any_cons, ← findI_ge p r (k + 1)]
    cases p x <;> simp

/-- A closure that tells of each, in its heap. -/
def TellsIn {α : Type} (c : AV) (h : List AO) (l : List α) (enc : α → Tr) (p : α → Bool) : Prop :=
  ∀ x ∈ l, callvK LG (callL LG) c [.t (enc x)] h = some (.t (.v (.bool (p x))), h)

theorem closed_clo0 {c : AV} (h : c.closed = true) : refs c = [] ∧ ∀ ρ, ren ρ c = c := ⟨closed_refs h, fun ρ => ren_eq ρ c fun r hr => by rw [closed_refs h] at hr; simp at hr⟩

/-! ### texts as lists of bytes -/
@[simp] theorem size_mk (s : List UInt8) : ByteArray.size ⟨s.toArray⟩ = s.length := by simp [ByteArray.size]
@[simp] theorem toList_mk (s : List UInt8) : (ByteArray.mk s.toArray).data.toList = s := by simp
@[simp] theorem ba_toList (a : Array UInt8) : (ByteArray.mk a).toList = a.toList := by
  rw [ByteArray.toList_eq]
theorem ba_ext {a b : ByteArray} (h : a.data.toList = b.data.toList) : a = b := by
  obtain ⟨⟨a⟩⟩ := a
  obtain ⟨⟨b⟩⟩ := b
  simp only at h
  rw [h]
theorem ba_extract (s : List UInt8) (a b : Nat) : (ByteArray.mk s.toArray).extract a b = ⟨((s.drop a).take (b - a)).toArray⟩ := by
  refine ba_ext ?_
  rw [ByteArray.data_extract]
  simp
theorem ba_append (s t : List UInt8) : (ByteArray.mk s.toArray) ++ (ByteArray.mk t.toArray) = ⟨(s ++ t).toArray⟩ := by
  refine ba_ext ?_
  rw [ByteArray.data_append]
  simp


@[simp] theorem nn1 (k : Nat) : ((0 : Int) ≤ (k : Int) + 1) = True := by simp; omega
@[simp] theorem bsT_len (s : List UInt8) : (bsT s).length = s.length := by simp [bsT]

/-! ### more operations -/
section
variable (L : Lay) (C : Mean) (ts : List AV) (h : List AO)
def sslK (a : AV) (lo hi : Option (Option Nat)) (h : List AO) : Option (AV × List AO) := match a with
    | .t (.v (.string s)) =>
      (match hi with | some o => o | none => some s.size).bind fun b =>
      (match lo with | some o => o | none => some 0).bind fun a =>
      if a ≤ b ∧ b ≤ s.size then some (.t (.v (.string (s.extract a b))), h) else none
    | _ => none
@[simp] theorem opC_ssl (x : Opd) (lo hi : Option Opd) : opC L C ts h (.ssl x lo hi) = sslK (x.ev L ts) (lo.map fun o => asNat? (o.ev L ts)) (hi.map fun o => asNat? (o.ev L ts)) h := by
  simp only [opC, AOp.run, sslK]
  cases lo <;> cases hi <;> rfl
@[simp] theorem sslK_11 (s : List UInt8) (a b : Nat) : sslK (.t (str s)) (some (some a)) (some (some b)) h = if a ≤ b ∧ b ≤ s.length then some (.t (str ((s.drop a).take (b - a))), h) else none := by
  simp only [sslK, Option.bind_some, size_mk, ba_extract]
@[simp] theorem sslK_10 (s : List UInt8) (a : Nat) : sslK (.t (str s)) (some (some a)) none h = if a ≤ s.length then some (.t (str (s.drop a)), h) else none := by
  simp only [sslK, Option.bind_some, size_mk, ba_extract, Nat.le_refl, and_true]
  rw [List.take_of_length_le (by simp)]
@[simp] theorem sslK_01 (s : List UInt8) (b : Nat) : sslK (.t (str s)) none (some (some b)) h = if b ≤ s.length then some (.t (str (s.take b)), h) else none := by
  simp [sslK, ba_extract]
@[simp] theorem sslK_00 (s : List UInt8) : sslK (.t (str s)) none none h = some (.t (str s), h) := by
  simp [sslK, ba_extract]
def slK (sz : Nat) (cut : Bool) (x : AV) (lo hi : Option (Option Nat)) (h : List AO) : Option (AV × List AO) :=
      (lenS x).bind fun n =>
      (match hi with | some o => o | none => some n).bind fun b =>
      (match lo with | some o => o | none => some 0).bind fun a =>
      if a ≤ b ∧ b ≤ n then
        if cut then match x, lo with
          | .win r v k, none => cutW h r v k b
          | _, _ => none
        else (fz x h).bind fun q => match q.1 with
          | .sl xs => if lo.isNone = true ∨ xs.all (fun y => y.cells.length = sz) = true then some (.t (.sl ((xs.take b).drop a)), q.2) else none
          | _ => none
      else none
@[simp] theorem opC_sl (sz : Nat) (cut : Bool) (x : Opd) (lo hi : Option Opd) : opC L C ts h (.sl sz cut x lo hi) = slK sz cut (x.ev L ts) (lo.map fun o => asNat? (o.ev L ts)) (hi.map fun o => asNat? (o.ev L ts)) h := by
  simp only [opC, AOp.run, slK]
  generalize x.ev L ts = a
  cases a <;> cases lo <;> cases hi <;> rfl
@[simp] theorem slK_11 (sz : Nat) (xs : List Tr) (a b : Nat) : slK sz false (.t (.sl xs)) (some (some a)) (some (some b)) h = if a ≤ b ∧ b ≤ xs.length then if xs.all (fun y => y.cells.length = sz) = true then some (.t (.sl ((xs.take b).drop a)), h) else none else none := by
  simp [slK]
@[simp] theorem slK_10 (sz : Nat) (xs : List Tr) (a : Nat) : slK sz false (.t (.sl xs)) (some (some a)) none h = if a ≤ xs.length then if xs.all (fun y => y.cells.length = sz) = true then some (.t (.sl (xs.drop a)), h) else none else none := by
  simp [slK]
@[simp] theorem slK_01 (sz : Nat) (xs : List Tr) (b : Nat) : slK sz false (.t (.sl xs)) none (some (some b)) h = if b ≤ xs.length then some (.t (.sl (xs.take b)), h) else none := by
  simp [slK]
def storeE2 (o : Option AO) (h' : List AO) (x : Tr) (r ver w j off : Nat) : Option (List AO) := match o with
      | some (.arr e v xs m d) => if ver = v ∧ w = xs.length ∧ m ≤ j then (xs[j]?).bind fun y => (setElem y off x.cells).map fun y' => h'.set r (.arr e v (xs.set j y') m w) else none
      | _ => none
def storeE (q : Option (Tr × List AO)) (n r ver w j off : Nat) : Option (List AO) := q.bind fun (x, h') => if x.cells.length = n then storeE2 h'[r]? h' x r ver w j off else none
@[simp] theorem storeA_ep (n r ver w j off : Nat) (a : AV) : storeA h n (.ep r ver w j off) a = storeE (fz a h) n r ver w j off := of_eq_true (eq_true rfl)
@[simp] theorem storeE_some (x : Tr) (n r ver w j off : Nat) : storeE (some (x, h)) n r ver w j off = if x.cells.length = n then storeE2 h[r]? h x r ver w j off else none := of_eq_true (eq_true rfl)
@[simp] theorem storeE2_arr (e v : Nat) (xs : List Tr) (m d : Nat) (x : Tr) (r ver w j off : Nat) : storeE2 (some (.arr e v xs m d)) h x r ver w j off =
    if ver = v ∧ w = xs.length ∧ m ≤ j then (xs[j]?).bind fun y => (setElem y off x.cells).map fun y' => h.set r (.arr e v (xs.set j y') m w) else none := of_eq_true (eq_true rfl)
@[simp] theorem setElem_v (x : Value) (c : Tr) : setElem (.v x) 0 [c] = some c := by simp [setElem]
@[simp] theorem setElem_sl (x : List Tr) (c : Tr) : setElem (.sl x) 0 [c] = some c := by simp [setElem]
@[simp] theorem setElem_agg (l : List Tr) (off : Nat) (cs : List Tr) : setElem (.agg l) off cs = if off + cs.length ≤ l.length then some (.agg (setT l off cs)) else none := of_eq_true (eq_true rfl)
@[simp] theorem setT_nil (cs : List Tr) (off : Nat) : setT cs off [] = cs := of_eq_true (eq_true rfl)
@[simp] theorem setT_cons (cs : List Tr) (off : Nat) (x : Tr) (r : List Tr) : setT cs off (x :: r) = setT (cs.set off x) (off + 1) r := of_eq_true (eq_true rfl)
@[simp] theorem opC_mksl (e : Nat) (z : Tr) (b : Nat) (x : Opd) : opC L C ts h (.mksl e z b x) = (asNat? (x.ev L ts)).bind fun k => if b * k ≤ 281474976710656 ∧ k ≤ maxLenB then some (.win h.length 0 k, h ++ [.arr e 0 (List.replicate k z) 0 0]) else none := of_eq_true (eq_true rfl)
end

/-! ### regions whose order is drawn -/
section
variable (L : Lay) (C : Mean)
noncomputable def opsDb (d : Nat × Nat) (op : AOp) (past : List (List AO)) (ts : List AV) (a : AV) (h' : List AO) (x : Option (St × List (List AO))) : Option (St × List (List AO)) := x.bind fun q =>
  if altC L C ts op a (past.take d.1 ++ q.2.take d.2) = true then some (q.1, if op.kind = 2 then h' :: q.2 else q.2) else none
noncomputable def opsDa (d : Nat × Nat) (dr : List (Nat × Nat)) (dst : Option Nat) (op : AOp) (r : List AOr) (past : List (List AO)) (ts : List AV) (h : List AO) (x : Option (AV × List AO)) : Option (St × List (List AO)) := x.bind fun p =>
  opsDb L C d op past ts p.1 p.2 (opsD L C dr r (if op.kind = 2 then h :: past else past) ⟨putO ts dst p.1, p.2⟩)
@[simp] theorem opsD_nil (dr : List (Nat × Nat)) (past : List (List AO)) (s : St) : opsD L C dr [] past s = some (s, []) := by cases dr <;> rfl
@[simp ↓] theorem opsD_plain (d : Nat × Nat) (dr : List (Nat × Nat)) (dst : Option Nat) (op : AOp) (r : List AOr) (past : List (List AO)) (ts : List AV) (h : List AO) :
    opsD L C (d :: dr) (⟨dst, none, op⟩ :: r) past ⟨ts, h⟩ = opsDa L C d dr dst op r past ts h (opC L C ts h op) := of_eq_true (eq_true rfl)
@[simp] theorem opsDa_some (d : Nat × Nat) (dr : List (Nat × Nat)) (dst : Option Nat) (op : AOp) (r : List AOr) (past : List (List AO)) (ts : List AV) (h : List AO) (a : AV) (h' : List AO) :
    opsDa L C d dr dst op r past ts h (some (a, h')) = opsDb L C d op past ts a h' (opsD L C dr r (if op.kind = 2 then h :: past else past) ⟨putO ts dst a, h'⟩) := of_eq_true (eq_true rfl)
@[simp] theorem opsDb_some (d : Nat × Nat) (op : AOp) (past : List (List AO)) (ts : List AV) (a : AV) (h' : List AO) (s : St) (f : List (List AO)) :
    opsDb L C d op past ts a h' (some (s, f)) = if altC L C ts op a (past.take d.1 ++ f.take d.2) = true then some (s, if op.kind = 2 then h' :: f else f) else none := of_eq_true (eq_true rfl)
@[simp] theorem altC_nil (ts : List AV) (o : AOp) (v : AV) : altC L C ts o v [] = true := of_eq_true (eq_true rfl)
noncomputable def altOk (x : Option (AV × List AO)) (v : AV) : Bool := match x with | some p => eqv p.1 v | none => false
@[simp] theorem altOk_some (a : AV) (h : List AO) (v : AV) : altOk (some (a, h)) v = eqv a v := of_eq_true (eq_true rfl)
@[simp] theorem altC_cons (ts : List AV) (o : AOp) (v : AV) (h : List AO) (r : List (List AO)) : altC L C ts o v (h :: r) = (altOk (opC L C ts h o) v && altC L C ts o v r) := of_eq_true (eq_true rfl)
@[simp] theorem eqv_self (a : AV) : eqv a a = true := by simp [eqv]
@[simp] theorem eqvH_self (a : List AO) : eqvH a a = true := by simp [eqvH]
@[simp] theorem quiet_some (h : List AO) (a : AV) (h' : List AO) : quiet h (some (a, h')) = if eqvH h' h = true then some (a, h) else none := of_eq_true (eq_true rfl)
@[simp] theorem opC_callq (ts : List AV) (h : List AO) (f : Nat) (args : List Opd) : opC L C ts h (.callq f args) = quiet h (doCall L C f (args.map (·.ev L ts)) h) := of_eq_true (eq_true rfl)
def buildqK (x : Option (List AV)) (h : List AO) : Option (AV × List AO) := x.bind fun cs => (fzL cs).map fun l => (.t (.agg l), h)
@[simp] theorem buildqK_some (cs : List AV) (h : List AO) : buildqK (some cs) h = (fzL cs).map fun l => (.t (.agg l), h) := of_eq_true (eq_true rfl)
@[simp] theorem opC_buildq (ts : List AV) (h : List AO) (z : List Tr) (ps : List (Nat × Nat × Opd)) : opC L C ts h (.buildq z ps) = buildqK (fillC (z.map .t) (ps.map fun p => (p.1, p.2.1, p.2.2.ev L ts))) h := of_eq_true (eq_true rfl)
attribute [simp] AOp.kind
end
end Go.Proofs.YtbabbianbhcjiaaGreatDoor
/- Contracts: how deep instructions are nested, in both packages. -/
namespace Go.Proofs.YtbabbianbhcjiaaGreatDoor
open Go
set_option maxRecDepth 100000

mutual
def Ins.nest : Ins → Nat
  | .mk _ _ _ _ _ _ body els _ => 1 + max (nestL body) (nestL els)
def nestL : List Ins → Nat
  | [] => 0
  | i :: r => max i.nest (nestL r)
end
theorem Ins.nest_eq (i : Ins) : i.nest = 1 + max (nestL i.body) (nestL i.els) := by
  cases i
  simp only [Ins.nest, Ins.body, Ins.els]
theorem nest_mem {l : List Ins} {i : Ins} (h : i ∈ l) : i.nest ≤ nestL l := by
  induction l with
  | nil => simp at h
  | cons x r ih =>
    rcases List.mem_cons.1 h with rfl | h
    · simp only [nestL]; omega
    · have := ih h; simp only [nestL]; omega
mutual
def Ins.count : Ins → Nat
  | .mk _ _ _ _ _ _ body els _ => 1 + countL body + countL els
def countL : List Ins → Nat
  | [] => 0
  | i :: r => i.count + countL r
end
theorem Ins.count_eq (i : Ins) : i.count = 1 + countL i.body + countL i.els := by
  cases i
  simp only [Ins.count, Ins.body, Ins.els]
theorem count_mem {l : List Ins} {i : Ins} (h : i ∈ l) : i.count ≤ countL l := by
  induction l with
  | nil => simp at h
  | cons x r ih =>
    rcases List.mem_cons.1 h with rfl | h
    · simp only [countL]; omega
    · have := ih h; simp only [countL]; omega

mutual
def Ins.deep (p : Ins → Prop) : Ins → Prop
  | .mk op a b n h l body els o => p (.mk op a b n h l body els o) ∧ deepL p body ∧ deepL p els
def deepL (p : Ins → Prop) : List Ins → Prop
  | [] => True
  | i :: r => i.deep p ∧ deepL p r
end
theorem Ins.deep_eq (p : Ins → Prop) (i : Ins) : i.deep p ↔ p i ∧ deepL p i.body ∧ deepL p i.els := by
  cases i
  simp only [Ins.deep, Ins.body, Ins.els]
theorem deepL_iff (p : Ins → Prop) : ∀ l : List Ins, deepL p l ↔ ∀ i ∈ l, i.deep p
  | [] => by simp [deepL]
  | i :: r => by simp [deepL, deepL_iff p r]


mutual
theorem count_deep (N : Nat) : ∀ i : Ins, i.count ≤ N → i.deep (fun i => i.body.length + i.els.length ≤ N)
  | .mk op a b n h l body els o, hc => by
    simp only [Ins.count] at hc
    have h1 := count_len body
    have h2 := count_len els
    simp only [Ins.deep, Ins.body, Ins.els]
    exact ⟨by omega, countL_deep N body (by omega), countL_deep N els (by omega)⟩
theorem countL_deep (N : Nat) : ∀ l : List Ins, countL l ≤ N → deepL (fun i => i.body.length + i.els.length ≤ N) l
  | [], _ => trivial
  | i :: r, hc => by
    simp only [countL] at hc
    exact ⟨count_deep N i (by omega), countL_deep N r (by omega)⟩
theorem count_len : ∀ l : List Ins, l.length ≤ countL l
  | [] => Nat.le_refl _
  | .mk op a b n h l body els o :: r => by
    have := count_len r
    simp only [countL, Ins.count, List.length_cons]
    omega
end
theorem imax (a b : Nat) : (if (b : Int) > a then (b : Int) else a) = ((max a b : Nat) : Int) := by
  split <;> omega
theorem imax' (a b : Nat) : (if (a : Int) < b then (b : Int) else a) = ((max a b : Nat) : Int) := by
  split <;> omega

theorem c_nest_s : ∀ l : List Ins, Inss l → nestL l ≤ 1000000 → ∀ H, doC fn_shape_Nest [.t (.sl (l.map Ins.enc))] H = some (.t (.v (.int .i64 (nestL l))), H) := by
  intro l
  refine ins_ind (P := fun l => Inss l → nestL l ≤ 1000000 → ∀ H, doC fn_shape_Nest [.t (.sl (l.map Ins.enc))] H = some (.t (.v (.int .i64 (nestL l))), H)) ?_ _ l (Nat.le_refl _)
  intro l ih hl hn H
  refine pureC rfl rfl rfl rfl ?_ H
  rw [callE LG rfl rfl rfl]
  have key := for_ind l hl.1 (fun k r => ∀ n : Nat, n ≤ 1000000 → nestL r ≤ 1000000 → K_shape_Nest_0 LG 0 (execL LG 0 (.loop L_shape_Nest_0) (S_shape_Nest_0 (.t (.v (.int .i64 n))) (.t (.sl (l.map Ins.enc))) (.t (.v (.int .i64 l.length))) (.t (.v (.int .i64 k))) [])) = some (.t (.v (.int .i64 (max n (nestL r) : Nat))), []))
    (fun n _ _ => by rw [execL_loop_eq]; simp [K_shape_Nest_0, nestL]) (fun k x r hk hx hm hw ihr n h0 h1 => by
      have hx0 := (Ins.ok_iff x).1 (hl.2 x hm)
      have hxn := nest_mem hm
      rw [Ins.nest_eq] at hxn
      have hb := (ih x hm).1 hx0.2.2.2.2.2.2.1 (by omega)
      have he := (ih x hm).2 hx0.2.2.2.2.2.2.2 (by omega)
      have e := ihr (max n x.nest) (by rw [Ins.nest_eq]; omega) (by simp only [nestL] at h1; omega)
      have hw3 : IntKind.i64.wrap (1 + if nestL x.body < nestL x.els then (nestL x.els : Int) else nestL x.body) = ((x.nest : Nat) : Int) := by
        have : (if nestL x.body < nestL x.els then (nestL x.els : Int) else nestL x.body) = ((max (nestL x.body) (nestL x.els) : Nat) : Int) := by split <;> omega
        rw [this, wrap_i64 (by omega) (by omega), Ins.nest_eq]; omega
      have hmx : max n (nestL (x :: r)) = max (max n x.nest) (nestL r) := by simp only [nestL]; omega
      rw [execL_loop_eq, hmx]
      simp only [K_shape_Nest_0] at e ⊢
      simp at hw
      simp [hx, hk, hw, hb, he, hw3, trimE_eq]
      have hv : (if n < x.nest then (x.nest : Int) else n) = ((max n x.nest : Nat) : Int) := by split <;> omega
      rw [hv]
      simpa using e)
  have := key 0 (by omega) hn
  simpa [K_shape_Nest_0] using this
end Go.Proofs.YtbabbianbhcjiaaGreatDoor
