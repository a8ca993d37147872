/- Parts, one behind the other; the last: Loops of the functions. -/
import Derived.Test.YtgehpjjpeddomaaGreatDoorZEvEq
set_option linter.all false
/- The rules by which simp reckons with the evaluator. -/
namespace Go.Proofs.YtgehpjjpeddomaaGreatDoor
open Go

/-! ### the choice by a bool -/
section
variable {α : Type} {q : Bool} {x y z : α}
@[simp] theorem sel_t : sel true x y = x := of_eq_true (eq_true rfl)
@[simp] theorem sel_f : sel false x y = y := of_eq_true (eq_true rfl)
@[simp] theorem sel_same : sel q x x = x := by cases q <;> rfl
@[simp] theorem sel_not : sel (!q) x y = sel q y x := by cases q <;> rfl
@[congr] theorem sel_congr {q q' : Bool} {x x' y y' : α} (h : q = q') (hx : q' = true → x = x') (hy : q' = false → y = y') : sel q x y = sel q' x' y' := by
  subst h
  cases q
  · exact hy rfl
  · exact hx rfl
theorem sel_some {x y : α} : sel q (some x) (some y) = some (sel q x y) := by cases q <;> rfl
@[simp] theorem sel_some1 {x y : AV} : sel q (some x) (some y) = some (sel q x y) := sel_some
@[simp] theorem sel_some2 {x y : AV × List AO} : sel q (some x) (some y) = some (sel q x y) := sel_some
@[simp] theorem sel_some3 {x y : Tr} : sel q (some x) (some y) = some (sel q x y) := sel_some
@[simp] theorem sel_some4 {x y : Bool} : sel q (some x) (some y) = some (sel q x y) := sel_some
@[simp] theorem sel_some5 {x y : List AO} : sel q (some x) (some y) = some (sel q x y) := sel_some
@[simp] theorem sel_some6 {x y : Nat} : sel q (some x) (some y) = some (sel q x y) := sel_some
@[simp] theorem sel_some8 {x y : List Tr} : sel q (some x) (some y) = some (sel q x y) := sel_some
theorem sel_pair {β : Type} {a b : α} {c d : β} : sel q (a, c) (b, d) = (sel q a b, sel q c d) := by cases q <;> rfl
@[simp] theorem sel_pair1 {a b : AV} {c d : List AO} : sel q (a, c) (b, d) = (sel q a b, sel q c d) := sel_pair
theorem sel_cons {x y : α} {xs ys : List α} : sel q (x :: xs) (y :: ys) = sel q x y :: sel q xs ys := by cases q <;> rfl
@[simp] theorem sel_cons1 {x y : AV} {xs ys : List AV} : sel q (x :: xs) (y :: ys) = sel q x y :: sel q xs ys := sel_cons
@[simp] theorem sel_cons2 {x y : AO} {xs ys : List AO} : sel q (x :: xs) (y :: ys) = sel q x y :: sel q xs ys := sel_cons
@[simp] theorem sel_cons3 {x y : Tr} {xs ys : List Tr} : sel q (x :: xs) (y :: ys) = sel q x y :: sel q xs ys := sel_cons
@[simp] theorem sel_sel {a b c : Bool} : sel (sel a b c) x y = sel a (sel b x y) (sel c x y) := by cases a <;> rfl
theorem sel_and {a b : Bool} : sel (a && b) x y = sel a (sel b x y) y := by cases a <;> rfl
theorem sel_or {a b : Bool} : sel (a || b) x y = sel a x (sel b x y) := by cases a <;> rfl
@[simp] theorem sel_tf : sel q true false = q := by cases q <;> rfl
@[simp] theorem sel_ft : sel q false true = !q := by cases q <;> rfl
@[simp] theorem sel_bf {b : Bool} : sel q b false = (q && b) := by cases q <;> simp
@[simp] theorem sel_tb {b : Bool} : sel q true b = (q || b) := by cases q <;> simp
@[simp] theorem sel_fb {b : Bool} : sel q false b = (!q && b) := by cases q <;> simp
@[simp] theorem sel_bt {b : Bool} : sel q b true = (!q || b) := by cases q <;> simp
end
section
variable {q : Bool}
@[simp] theorem sel_bool {a b : Bool} : sel q (AV.t (.v (.bool a))) (.t (.v (.bool b))) = .t (.v (.bool (sel q a b))) := by cases q <;> rfl
@[simp] theorem sel_int {k : IntKind} {a b : Int} : sel q (AV.t (.v (.int k a))) (.t (.v (.int k b))) = .t (.v (.int k (sel q a b))) := by cases q <;> rfl
@[simp] theorem sel_str {a b : ByteArray} : sel q (AV.t (.v (.string a))) (.t (.v (.string b))) = .t (.v (.string (sel q a b))) := by cases q <;> rfl
@[simp] theorem sel_slt {a b : List Tr} : sel q (AV.t (.sl a)) (.t (.sl b)) = .t (.sl (sel q a b)) := by cases q <;> rfl
@[simp] theorem sel_st {t t' : List AV} {h h' : List AO} : sel q (St.mk t h) ⟨t', h'⟩ = ⟨sel q t t', sel q h h'⟩ := by cases q <;> rfl
@[simp] theorem sel_box {c c' : List AV} : sel q (AO.box c) (.box c') = .box (sel q c c') := by cases q <;> rfl
@[simp] theorem sel_norm {s s' : St} : sel q (some (Ex.norm, s)) (some (Ex.norm, s')) = some (Ex.norm, sel q s s') := by cases q <;> rfl
end

/-! ### a branch's own course: under a sign that is taken away at its end -/
def W {α : Type} (x : Option α) : Option α := x
section
variable {α : Type}
@[simp] theorem W_some (a : α) : W (some a) = some a := of_eq_true (eq_true rfl)
@[simp] theorem W_none : W (none : Option α) = none := of_eq_true (eq_true rfl)
@[simp] theorem W_sel (q : Bool) (x y : Option α) : W (sel q x y) = sel q x y := of_eq_true (eq_true rfl)
@[simp] theorem W_W (x : Option α) : W (W x) = W x := of_eq_true (eq_true rfl)
theorem W_eq (x : Option α) : W x = x := rfl
end

/-! ### temps -/
@[simp] theorem nth_zero (x : AV) (xs : List AV) : nth (x :: xs) 0 = x := rfl
@[simp] theorem nth_succ (x : AV) (xs : List AV) (n : Nat) : nth (x :: xs) (n + 1) = nth xs n := rfl
@[simp] theorem nth_nil (n : Nat) : nth [] n = .junk := by cases n <;> rfl
@[simp] theorem put_nil (n : Nat) (v : AV) : put [] n v = [] := by cases n <;> rfl
@[simp] theorem put_zero (x : AV) (xs : List AV) (v : AV) : put (x :: xs) 0 v = v :: xs := rfl
@[simp] theorem put_succ (x : AV) (xs : List AV) (n : Nat) (v : AV) : put (x :: xs) (n + 1) v = x :: put xs n v := rfl
@[simp] theorem putO_none (ts : List AV) (v : AV) : putO ts none v = ts := of_eq_true (eq_true rfl)
@[simp] theorem putO_some (ts : List AV) (n : Nat) (v : AV) : putO ts (some n) v = put ts n v := of_eq_true (eq_true rfl)

section
variable (L : Lay)
@[simp] theorem ev_t (ts : List AV) (n : Nat) : (Opd.t n).ev L ts = nth ts n := of_eq_true (eq_true rfl)
@[simp] theorem ev_c (ts : List AV) (x : Tr) : (Opd.c x).ev L ts = .t x := of_eq_true (eq_true rfl)
@[simp] theorem ev_f (ts : List AV) (f : Nat) : (Opd.f f).ev L ts = .clo f [] [] := of_eq_true (eq_true rfl)
@[simp] theorem ev_z (ts : List AV) : Opd.z.ev L ts = .nils := of_eq_true (eq_true rfl)
theorem ev_g (ts : List AV) {g : Nat} {cs : List Tr} (h : L.G g = some cs) : (Opd.g g).ev L ts = .ip cs := by simp [Opd.ev, h]

variable (kb : Nat)
/-! ### code -/
noncomputable def seqK (x : Option (Ex × St)) (b : AC) : Option (Ex × St) := x.bind fun p => match p.1 with
    | .norm => execL L kb b p.2
    | e => some (e, p.2)
@[simp] theorem seqK_norm (s : St) (b : AC) : seqK L kb (some (.norm, s)) b = execL L kb b s := of_eq_true (eq_true rfl)
@[simp] theorem seqK_ret (s : St) (b : AC) : seqK L kb (some (.ret, s)) b = some (.ret, s) := of_eq_true (eq_true rfl)
@[simp] theorem seqK_exit (i : Nat) (s : St) (b : AC) : seqK L kb (some (.exit i, s)) b = some (.exit i, s) := of_eq_true (eq_true rfl)
@[simp] theorem seqK_W (x : Option (Ex × St)) (b : AC) : seqK L kb (W x) b = W (seqK L kb x b) := of_eq_true (eq_true rfl)
@[simp] theorem seqK_none (b : AC) : seqK L kb none b = none := of_eq_true (eq_true rfl)
@[simp] theorem seqK_sel (q : Bool) (x y : Option (Ex × St)) (b : AC) : seqK L kb (sel q x y) b = sel q (seqK L kb x b) (seqK L kb y b) := by cases q <;> rfl
def blockK (id : Nat) (x : Option (Ex × St)) : Option (Ex × St) := x.map fun p => match p.1 with
    | .exit j => (if j = id then .norm else .exit j, p.2)
    | e => (e, p.2)
@[simp] theorem blockK_norm (id : Nat) (s : St) : blockK id (some (.norm, s)) = some (.norm, s) := of_eq_true (eq_true rfl)
@[simp] theorem blockK_ret (id : Nat) (s : St) : blockK id (some (.ret, s)) = some (.ret, s) := of_eq_true (eq_true rfl)
@[simp] theorem blockK_exit (id j : Nat) (s : St) : blockK id (some (.exit j, s)) = some (if j = id then .norm else .exit j, s) := of_eq_true (eq_true rfl)
@[simp] theorem blockK_W (id : Nat) (x : Option (Ex × St)) : blockK id (W x) = W (blockK id x) := of_eq_true (eq_true rfl)
@[simp] theorem blockK_none (id : Nat) : blockK id none = none := of_eq_true (eq_true rfl)
@[simp] theorem blockK_sel (id : Nat) (q : Bool) (x y : Option (Ex × St)) : blockK id (sel q x y) = sel q (blockK id x) (blockK id y) := by cases q <;> rfl
noncomputable def condK (q : Option Bool) (a b : AC) (s : St) : Option (Ex × St) := q.bind fun q => sel q (execL L kb a s) (execL L kb b s)
@[simp] theorem condK_some (q : Bool) (a b : AC) (s : St) : condK L kb (some q) a b s = sel q (W (execL L kb a s)) (W (execL L kb b s)) := of_eq_true (eq_true rfl)
def regK (x : Option St) (kl : List Nat) : Option (Ex × St) := x.map fun s' => (.norm, ⟨kills s'.t kl, s'.h⟩)
@[simp] theorem regK_some (ts : List AV) (h : List AO) (kl : List Nat) : regK (some ⟨ts, h⟩) kl = some (.norm, ⟨kills ts kl, h⟩) := of_eq_true (eq_true rfl)
@[simp] theorem regK_sel (q : Bool) (x y : Option St) (kl : List Nat) : regK (sel q x y) kl = sel q (regK x kl) (regK y kl) := by cases q <;> rfl

@[simp] theorem execL_skip (s : St) : execL L kb .skip s = some (.norm, s) := of_eq_true (eq_true rfl)
@[simp] theorem execL_ret (s : St) : execL L kb .ret s = some (.ret, s) := of_eq_true (eq_true rfl)
@[simp] theorem execL_exit (i : Nat) (s : St) : execL L kb (.exit i) s = some (.exit i, s) := of_eq_true (eq_true rfl)
@[simp ↓] theorem execL_seq (a b : AC) (s : St) : execL L kb (.seq a b) s = seqK L kb (execL L kb a s) b := of_eq_true (eq_true rfl)
@[simp ↓] theorem execL_block (id : Nat) (a : AC) (s : St) : execL L kb (.block id a) s = blockK id (execL L kb a s) := of_eq_true (eq_true rfl)
@[simp ↓] theorem execL_cond (c : Opd) (a b : AC) (ts : List AV) (h : List AO) : execL L kb (.cond c a b) ⟨ts, h⟩ = condK L kb (isB (c.ev L ts)) a b ⟨ts, h⟩ := of_eq_true (eq_true rfl)
@[simp ↓] theorem execL_reg (ops : List AOr) (kl : List Nat) (s : St) : execL L kb (.reg [] ops kl) s = regK (opsC L (callL L) ops s) kl := of_eq_true (eq_true rfl)
@[simp ↓] theorem execL_regD (d : Nat × Nat) (dr : List (Nat × Nat)) (ops : List AOr) (kl : List Nat) (s : St) : execL L kb (.reg (d :: dr) ops kl) s = regK ((opsD L (callL L) (d :: dr) ops [] s).map (·.1)) kl := of_eq_true (eq_true rfl)
@[simp] theorem execL_gc (ts : List AV) (h : List AO) : execL L kb .gc ⟨ts, h⟩ = some (.norm, ⟨ts, trim kb ts h⟩) := of_eq_true (eq_true rfl)
theorem execL_loop (a : AC) (s : St) : execL L kb (.loop a) s = loopL (execL L kb a) s := rfl
/-- A loop's one round. -/
theorem execL_loop_eq (a : AC) (s : St) : execL L kb (.loop a) s = seqK L kb (execL L kb a s) (.loop a) := by
  rw [execL_loop, loopL_eq]
  rfl

/-! ### a region -/
def guardK (a : AV) (w : Bool) (x : Option (AV × List AO)) (h : List AO) : Option (AV × List AO) := (guardB a w).bind fun q => sel q x (some (.tup [], h))
@[simp] theorem guardK_true (q : Bool) (x : Option (AV × List AO)) (h : List AO) : guardK (.t (.v (.bool q))) true x h = sel q (W x) (some (.tup [], h)) := of_eq_true (eq_true rfl)
@[simp] theorem guardK_false (q : Bool) (x : Option (AV × List AO)) (h : List AO) : guardK (.t (.v (.bool q))) false x h = sel q (some (.tup [], h)) (W x) := by cases q <;> rfl
@[simp] theorem guardK_no (w : Bool) (x : Option (AV × List AO)) (h : List AO) : guardK (.tup []) w x h = some (.tup [], h) := of_eq_true (eq_true rfl)
@[simp] theorem guardK_sel (q : Bool) (a b : AV) (w : Bool) (x : Option (AV × List AO)) (h : List AO) : guardK (sel q a b) w x h = sel q (W (guardK a w x h)) (W (guardK b w x h)) := by cases q <;> rfl
noncomputable def opsK (x : Option (AV × List AO)) (d : Option Nat) (r : List AOr) (ts : List AV) : Option St := x.bind fun p => opsC L (callL L) r ⟨putO ts d p.1, p.2⟩
@[simp] theorem opsK_some (a : AV) (h : List AO) (d : Option Nat) (r : List AOr) (ts : List AV) : opsK L (some (a, h)) d r ts = opsC L (callL L) r ⟨putO ts d a, h⟩ := of_eq_true (eq_true rfl)
@[simp] theorem opsK_none (d : Option Nat) (r : List AOr) (ts : List AV) : opsK L none d r ts = none := of_eq_true (eq_true rfl)
@[simp ↓] theorem opsC_nil (s : St) : opsC L (callL L) [] s = some s := of_eq_true (eq_true rfl)
@[simp ↓] theorem opsC_plain (d : Option Nat) (o : AOp) (r : List AOr) (ts : List AV) (h : List AO) :
    opsC L (callL L) (⟨d, none, o⟩ :: r) ⟨ts, h⟩ = opsK L (opC L (callL L) ts h o) d r ts := of_eq_true (eq_true rfl)
theorem opsC_guard (d : Option Nat) (t : Nat) (w : Bool) (o : AOp) (r : List AOr) (ts : List AV) (h : List AO) :
    opsC L (callL L) (⟨d, some (t, w), o⟩ :: r) ⟨ts, h⟩ = opsK L (guardK (nth ts t) w (opC L (callL L) ts h o) h) d r ts := by
  simp only [opsC, guardOf, opsK, guardK]
  cases guardB (nth ts t) w <;> rfl
@[simp] theorem isB_b (b : Bool) : isB (.t (.v (.bool b))) = some b := of_eq_true (eq_true rfl)

/-! ### the operations -/
def mapH (x : Option AV) (h : List AO) : Option (AV × List AO) := x.map (·, h)
@[simp] theorem mapH_some (a : AV) (h : List AO) : mapH (some a) h = some (a, h) := of_eq_true (eq_true rfl)
@[simp] theorem mapH_none (h : List AO) : mapH none h = none := of_eq_true (eq_true rfl)
variable (C : Mean) (ts : List AV) (h : List AO)
@[simp] theorem opC_mv (x : Opd) : opC L C ts h (.mv x) = some (x.ev L ts, h) := of_eq_true (eq_true rfl)
def pickK (q : Option Bool) (a b : AV) (h : List AO) : Option (AV × List AO) := q.map fun q => (sel q a b, h)
@[simp] theorem pickK_some (q : Bool) (a b : AV) (h : List AO) : pickK (some q) a b h = some (sel q a b, h) := of_eq_true (eq_true rfl)
@[simp] theorem opC_pick (c a b : Opd) : opC L C ts h (.pick c a b) = pickK (isB (c.ev L ts)) (a.ev L ts) (b.ev L ts) h := of_eq_true (eq_true rfl)
@[simp] theorem opC_bin (op : BinOp) (t : Nat) (x y : Opd) : opC L C ts h (.bin op t x y) = mapH (binA L.P op t (x.ev L ts) (y.ev L ts)) h := of_eq_true (eq_true rfl)
def unA (P : Program) (op : UnOp) (a : AV) : Option AV := flat1 P (Op.unary op) a
@[simp] theorem opC_un (op : UnOp) (x : Opd) : opC L C ts h (.un op x) = mapH (unA L.P op (x.ev L ts)) h := of_eq_true (eq_true rfl)
def convA (P : Program) (s d : Nat) (a : AV) : Option AV := flat1 P (convert s d) a
@[simp] theorem opC_conv (s d : Nat) (x : Opd) : opC L C ts h (.conv s d x) = mapH (convA L.P s d (x.ev L ts)) h := of_eq_true (eq_true rfl)
def isnilN (n : Option Nat) (no : Bool) (h : List AO) : Option (AV × List AO) := match n with
  | some (_ + 1) => some (.t (.v (.bool no)), h)
  | _ => none
@[simp] theorem isnilN_succ (n : Nat) (no : Bool) (h : List AO) : isnilN (some (n + 1)) no h = some (.t (.v (.bool no)), h) := of_eq_true (eq_true rfl)
def isnilK (a : AV) (no : Bool) (h : List AO) : Option (AV × List AO) := match a with
    | .nils => some (.t (.v (.bool (!no))), h)
    | .emp nl => some (.t (.v (.bool (nl != no))), h)
    | a => isnilN (lenS a) no h
@[simp] theorem isnilK_nils (no : Bool) (h : List AO) : isnilK .nils no h = some (.t (.v (.bool (!no))), h) := of_eq_true (eq_true rfl)
@[simp] theorem isnilK_emp (nl no : Bool) (h : List AO) : isnilK (.emp nl) no h = some (.t (.v (.bool (nl != no))), h) := of_eq_true (eq_true rfl)
@[simp] theorem isnilK_sl (xs : List Tr) (no : Bool) (h : List AO) : isnilK (.t (.sl xs)) no h = isnilN (some xs.length) no h := of_eq_true (eq_true rfl)
@[simp] theorem isnilK_win (r v n : Nat) (no : Bool) (h : List AO) : isnilK (.win r v n) no h = isnilN (some n) no h := of_eq_true (eq_true rfl)
@[simp] theorem opC_isnil (no : Bool) (x : Opd) : opC L C ts h (.isnil no x) = isnilK (x.ev L ts) no h := by
  simp only [opC, AOp.run, isnilK, isnilN]
  try rfl
@[simp] theorem opC_nil (e : Nat) : opC L C ts h (.nil e) = some (.win h.length 0 0, h ++ [.arr e 0 [] 0 0]) := of_eq_true (eq_true rfl)
def b2sK (xs : Option (List Tr)) (h : List AO) : Option (AV × List AO) := xs.bind fun xs => (ofBs xs).map fun l => (.t (.v (.string ⟨l.toArray⟩)), h)
@[simp] theorem opC_b2s (x : Opd) : opC L C ts h (.b2s x) = b2sK (lookS h (x.ev L ts)) h := of_eq_true (eq_true rfl)
theorem ofBs_bsT (l : List UInt8) : ofBs (bsT l) = some l := by
  induction l with
  | nil => rfl
  | cons b l ih =>
    show (ofBs (bsT l)).map _ = _
    rw [ih]
    simp
@[simp] theorem b2sK_bs (l : List UInt8) (h : List AO) : b2sK (some (bsT l)) h = some (.t (.v (.string ⟨l.toArray⟩)), h) := by simp [b2sK, ofBs_bsT]
def s2bK (a : AV) (h : List AO) : Option (AV × List AO) := match a with
  | .t (.v (.string s)) => some (.t (.sl (bsT s.data.toList)), h)
  | _ => none
@[simp] theorem s2bK_s (s : ByteArray) (h : List AO) : s2bK (.t (.v (.string s))) h = some (.t (.sl (bsT s.data.toList)), h) := of_eq_true (eq_true rfl)
@[simp] theorem opC_s2b (e : Nat) (x : Opd) : opC L C ts h (.s2b e x) = s2bK (x.ev L ts) h := by
  simp only [opC, AOp.run, s2bK]
  try rfl
@[simp] theorem opC_alloc (z : List Tr) : opC L C ts h (.alloc z) = some (.ptr h.length 0, h ++ [.box (z.map zAV)]) := of_eq_true (eq_true rfl)
@[simp] theorem zAV_v (x : Value) : zAV (.v x) = .t (.v x) := of_eq_true (eq_true rfl)
@[simp] theorem zAV_nil : zAV (.sl []) = .nils := of_eq_true (eq_true rfl)
@[simp] theorem zAV_agg (x : List Tr) : zAV (.agg x) = .t (.agg x) := of_eq_true (eq_true rfl)
@[simp] theorem ok_t (x : Tr) : (AV.t x).ok = true := of_eq_true (eq_true rfl)
@[simp] theorem ok_nils : AV.nils.ok = true := of_eq_true (eq_true rfl)
@[simp] theorem ok_win (r v n : Nat) : (AV.win r v n).ok = true := of_eq_true (eq_true rfl)
@[simp] theorem ok_ptr (r o : Nat) : (AV.ptr r o).ok = true := of_eq_true (eq_true rfl)
@[simp] theorem ok_ip (c : List Tr) : (AV.ip c).ok = true := of_eq_true (eq_true rfl)
@[simp] theorem ok_clo (f : Nat) (a b : List AV) : (AV.clo f a b).ok = true := of_eq_true (eq_true rfl)
@[simp] theorem ok_mix (c : List AV) : (AV.mix c).ok = true := of_eq_true (eq_true rfl)
@[simp] theorem opC_box (x : Opd) : opC L C ts h (.box x) = if (x.ev L ts).ok then some (.ptr h.length 0, h ++ [.box (x.ev L ts).cells]) else none := of_eq_true (eq_true rfl)
def buildK (x : Option (List AV)) (h : List AO) : Option (AV × List AO) := x.bind fun cs => match fzC cs h with
    | some q => some (.t (.agg q.1), q.2)
    | none => some (.mix cs, h)
def buildK2 (q : Option (List Tr × List AO)) (cs : List AV) (h : List AO) : Option (AV × List AO) := match q with
    | some q => some (.t (.agg q.1), q.2)
    | none => some (.mix cs, h)
@[simp] theorem buildK_some (cs : List AV) (h : List AO) : buildK (some cs) h = buildK2 (fzC cs h) cs h := of_eq_true (eq_true rfl)
@[simp] theorem buildK2_some (l : List Tr) (h' : List AO) (cs : List AV) (h : List AO) : buildK2 (some (l, h')) cs h = some (.t (.agg l), h') := of_eq_true (eq_true rfl)
@[simp] theorem buildK2_none (cs : List AV) (h : List AO) : buildK2 none cs h = some (.mix cs, h) := of_eq_true (eq_true rfl)
@[simp] theorem opC_build (z : List Tr) (ps : List (Nat × Nat × Opd)) : opC L C ts h (.build z ps) = buildK (fillC (z.map .t) (ps.map fun p => (p.1, p.2.1, p.2.2.ev L ts))) h := of_eq_true (eq_true rfl)
@[simp] theorem fillC_nil (z : List AV) : fillC z [] = some z := of_eq_true (eq_true rfl)
@[simp] theorem fillC_cons (z : List AV) (off sz : Nat) (a : AV) (r : List (Nat × Nat × AV)) : fillC z ((off, sz, a) :: r) = if a.ok = true ∧ a.cells.length = sz ∧ off + sz ≤ z.length then fillC (setC z off a.cells) r else none := of_eq_true (eq_true rfl)
def bsliceK (x : Option (List Tr × List AO)) (ok : Bool) (e cnt sz : Nat) : Option (AV × List AO) := x.bind fun q =>
  if ok && q.1.all (fun x => x.cells.length = sz) then some (.win q.2.length 0 cnt, q.2 ++ [.arr e 0 q.1 0 0]) else none
@[simp] theorem bsliceK_some (l : List Tr) (h : List AO) (ok : Bool) (e cnt sz : Nat) : bsliceK (some (l, h)) ok e cnt sz = if ok && l.all (fun x => x.cells.length = sz) then some (.win h.length 0 cnt, h ++ [.arr e 0 l 0 0]) else none := of_eq_true (eq_true rfl)
@[simp] theorem opC_bslice (e : Nat) (z : Tr) (cnt : Nat) (ps : List (Nat × Opd)) : opC L C ts h (.bslice e z cnt ps) = bsliceK (fzs (ps.map fun p => p.2.ev L ts) h) (decide (ps.map (·.1) = List.range cnt)) e cnt z.cells.length := by
  simp only [opC, AOp.run, bsliceK]
  simp
@[simp] theorem fzs_nil (h : List AO) : fzs [] h = some ([], h) := of_eq_true (eq_true rfl)
def fzsK (p : Option (Tr × List AO)) (r : List AV) : Option (List Tr × List AO) := p.bind fun p => (fzs r p.2).map fun q => (p.1 :: q.1, q.2)
@[simp] theorem fzsK_some (x : Tr) (h : List AO) (r : List AV) : fzsK (some (x, h)) r = (fzs r h).map fun q => (x :: q.1, q.2) := of_eq_true (eq_true rfl)
@[simp] theorem fzs_cons (a : AV) (r : List AV) (h : List AO) : fzs (a :: r) h = fzsK (fz a h) r := of_eq_true (eq_true rfl)
@[simp] theorem fz_t (x : Tr) (h : List AO) : fz (.t x) h = some (x, h) := of_eq_true (eq_true rfl)
@[simp] theorem fz_emp (nl : Bool) (h : List AO) : fz (.emp nl) h = some (.sl [], h) := of_eq_true (eq_true rfl)
@[simp] theorem fz_nils (h : List AO) : fz .nils h = some (.sl [], h) := of_eq_true (eq_true rfl)
@[simp] theorem fz_win (r v n : Nat) (h : List AO) : fz (.win r v n) h = fzW h r v n := of_eq_true (eq_true rfl)
@[simp] theorem fz_mix (cs : List AV) (h : List AO) : fz (.mix cs) h = (fzC cs h).map fun q => (.agg q.1, q.2) := of_eq_true (eq_true rfl)
@[simp] theorem opC_load (k : Option Nat) (x : Opd) : opC L C ts h (.load k x) = mapH (loadA h k (x.ev L ts)) h := of_eq_true (eq_true rfl)
def stK (x : Option (List AO)) : Option (AV × List AO) := x.map (.junk, ·)
@[simp] theorem stK_some (h : List AO) : stK (some h) = some (.junk, h) := of_eq_true (eq_true rfl)
@[simp] theorem opC_store (n : Nat) (x y : Opd) : opC L C ts h (.store n x y) = stK (storeA h n (x.ev L ts) (y.ev L ts)) := of_eq_true (eq_true rfl)
def nilckK (a : AV) (h : List AO) : Option (AV × List AO) := match a with
    | .ptr r o => some (.ptr r o, h)
    | .ep r v n k o => some (.ep r v n k o, h)
    | .ip cs => some (.ip cs, h)
    | .clo f a b => some (.clo f a b, h)
    | _ => none
@[simp] theorem nilckK_ptr (r o : Nat) (h : List AO) : nilckK (.ptr r o) h = some (.ptr r o, h) := of_eq_true (eq_true rfl)
@[simp] theorem nilckK_ep (r v n k o : Nat) (h : List AO) : nilckK (.ep r v n k o) h = some (.ep r v n k o, h) := of_eq_true (eq_true rfl)
@[simp] theorem nilckK_ip (cs : List Tr) (h : List AO) : nilckK (.ip cs) h = some (.ip cs, h) := of_eq_true (eq_true rfl)
@[simp] theorem nilckK_clo (f : Nat) (a b : List AV) (h : List AO) : nilckK (.clo f a b) h = some (.clo f a b, h) := of_eq_true (eq_true rfl)
@[simp] theorem opC_nilck (x : Opd) : opC L C ts h (.nilck x) = nilckK (x.ev L ts) h := by
  simp only [opC, AOp.run, nilckK]
  try rfl
@[simp] theorem opC_mkf (f : Nat) (first cap : List Opd) : opC L C ts h (.mkf f first cap) = some (.clo f (first.map (·.ev L ts)) (cap.map (·.ev L ts)), h) := of_eq_true (eq_true rfl)
def fadrK (off : Nat) (a : AV) (h : List AO) : Option (AV × List AO) := match a with
    | .ptr r o => some (.ptr r (o + off), h)
    | .ep r v n k o => some (.ep r v n k (o + off), h)
    | .ip cs => some (.ip (cs.drop off), h)
    | _ => none
@[simp] theorem fadrK_ptr (off r o : Nat) (h : List AO) : fadrK off (.ptr r o) h = some (.ptr r (o + off), h) := of_eq_true (eq_true rfl)
@[simp] theorem fadrK_ep (off r v n k o : Nat) (h : List AO) : fadrK off (.ep r v n k o) h = some (.ep r v n k (o + off), h) := of_eq_true (eq_true rfl)
@[simp] theorem fadrK_ip (off : Nat) (cs : List Tr) (h : List AO) : fadrK off (.ip cs) h = some (.ip (cs.drop off), h) := of_eq_true (eq_true rfl)
@[simp] theorem opC_fadr (off : Nat) (x : Opd) : opC L C ts h (.fadr off x) = fadrK off (x.ev L ts) h := by
  simp only [opC, AOp.run, fadrK]
  try rfl
def fldA (off : Nat) (k : Option Nat) (a : AV) : Option AV := match a with
    | .t (.agg cs) => takeT cs off k
    | .mix cs => takeC cs off k
    | _ => none
@[simp] theorem fldA_agg (off : Nat) (k : Option Nat) (cs : List Tr) : fldA off k (.t (.agg cs)) = takeT cs off k := of_eq_true (eq_true rfl)
@[simp] theorem fldA_mix (off : Nat) (k : Option Nat) (cs : List AV) : fldA off k (.mix cs) = takeC cs off k := of_eq_true (eq_true rfl)
@[simp] theorem opC_fld (off : Nat) (k : Option Nat) (x : Opd) : opC L C ts h (.fld off k x) = mapH (fldA off k (x.ev L ts)) h := by
  simp only [opC, AOp.run, fldA, mapH]
  split <;> simp_all
def iadrK (e sz : Nat) (a : AV) (i : Option Nat) (h : List AO) : Option (AV × List AO) := i.bind fun j => match a with
    | .t (.sl xs) => (xs[j]?).bind fun y => if y.cells.length = sz then some (.ip y.cells, h) else none
    | .win r v n => match h[r]? with
      | some (.arr e' v' xs _ _) => if v = v' ∧ e = e' ∧ j < n then
          if n = xs.length then some (.ep r v n j 0, h)
          else none
        else none
      | _ => none
    | _ => none
def iadrY (sz : Nat) (y : Option Tr) (h : List AO) : Option (AV × List AO) := y.bind fun y => if y.cells.length = sz then some (.ip y.cells, h) else none
@[simp] theorem iadrY_some (sz : Nat) (y : Tr) (h : List AO) : iadrY sz (some y) h = if y.cells.length = sz then some (.ip y.cells, h) else none := of_eq_true (eq_true rfl)
@[simp] theorem iadrK_sl (e sz j : Nat) (xs : List Tr) (h : List AO) : iadrK e sz (.t (.sl xs)) (some j) h = iadrY sz xs[j]? h := of_eq_true (eq_true rfl)
def iadrW (o : Option AO) (e r v n j : Nat) (h : List AO) : Option (AV × List AO) := match o with
      | some (.arr e' v' xs _ _) => if v = v' ∧ e = e' ∧ j < n then
          if n = xs.length then some (.ep r v n j 0, h)
          else none
        else none
      | _ => none
@[simp] theorem iadrK_win (e sz j r v n : Nat) (h : List AO) : iadrK e sz (.win r v n) (some j) h = iadrW h[r]? e r v n j h := of_eq_true (eq_true rfl)
@[simp] theorem iadrW_arr (e e' v' : Nat) (xs : List Tr) (m d r v n j : Nat) (h : List AO) : iadrW (some (.arr e' v' xs m d)) e r v n j h = if v = v' ∧ e = e' ∧ j < n then if n = xs.length then some (.ep r v n j 0, h) else none else none := of_eq_true (eq_true rfl)
@[simp] theorem opC_iadr (e sz : Nat) (x i : Opd) : opC L C ts h (.iadr e sz x i) = iadrK e sz (x.ev L ts) (asNat? (i.ev L ts)) h := by
  simp only [opC, AOp.run, iadrK]
  try rfl
@[simp] theorem asNat_int (k : IntKind) (n : Int) : asNat? (.t (.v (.int k n))) = if 0 ≤ n then some n.toNat else none := of_eq_true (eq_true rfl)
def iarrK (n sz : Nat) (a : AV) (i : Option Nat) (h : List AO) : Option (AV × List AO) := i.bind fun j => if j < n then match a with
      | .ptr r o => some (.ptr r (o + j * sz), h)
      | .ip cs => some (.ip (cs.drop (j * sz)), h)
      | _ => none
    else none
@[simp] theorem iarrK_ptr (n sz r o j : Nat) (h : List AO) : iarrK n sz (.ptr r o) (some j) h = if j < n then some (.ptr r (o + j * sz), h) else none := of_eq_true (eq_true rfl)
@[simp] theorem iarrK_ip (n sz j : Nat) (cs : List Tr) (h : List AO) : iarrK n sz (.ip cs) (some j) h = if j < n then some (.ip (cs.drop (j * sz)), h) else none := of_eq_true (eq_true rfl)
@[simp] theorem opC_iarr (n sz : Nat) (x i : Opd) : opC L C ts h (.iarr n sz x i) = iarrK n sz (x.ev L ts) (asNat? (i.ev L ts)) h := by
  simp only [opC, AOp.run, iarrK]
  try rfl
def idxK (n sz : Nat) (k : Option Nat) (a : AV) (i : Option Nat) : Option AV := i.bind fun j => if j < n then match a with
      | .t (.agg cs) => takeT cs (j * sz) k
      | _ => none
    else none
@[simp] theorem idxK_agg (n sz : Nat) (k : Option Nat) (cs : List Tr) (j : Nat) : idxK n sz k (.t (.agg cs)) (some j) = if j < n then takeT cs (j * sz) k else none := of_eq_true (eq_true rfl)
@[simp] theorem opC_idx (n sz : Nat) (k : Option Nat) (x i : Opd) : opC L C ts h (.idx n sz k x i) = mapH (idxK n sz k (x.ev L ts) (asNat? (i.ev L ts))) h := by
  simp only [opC, AOp.run, idxK, mapH]
  cases asNat? (i.ev L ts) with
  | none => rfl
  | some j =>
    simp only [Option.bind_some]
    split
    · split <;> simp_all
    · rfl
def idxsK (a : AV) (i : Option Nat) : Option AV := i.bind fun j => match a with
    | .t (.v (.string s)) => (s.data.toList[j]?).map fun b => (.t (.v (.int .u8 (b.toNat : Int))))
    | _ => none
def byteK (b : Option UInt8) : Option AV := b.map fun b => (.t (.v (.int .u8 (b.toNat : Int))))
@[simp] theorem byteK_some (b : UInt8) : byteK (some b) = some (.t (.v (.int .u8 (b.toNat : Int)))) := of_eq_true (eq_true rfl)
@[simp] theorem idxsK_s (s : ByteArray) (j : Nat) : idxsK (.t (.v (.string s))) (some j) = byteK s.data.toList[j]? := of_eq_true (eq_true rfl)
@[simp] theorem opC_idxs (x i : Opd) : opC L C ts h (.idxs x i) = mapH (idxsK (x.ev L ts) (asNat? (i.ev L ts))) h := by
  simp only [opC, AOp.run, idxsK, mapH]
  cases asNat? (i.ev L ts) with
  | none => rfl
  | some j =>
    simp only [Option.bind_some]
    split <;> simp_all [Function.comp_def]
def extrA (a : AV) (i : Nat) : Option AV := match a with
    | .tup xs => xs[i]?
    | _ => none
@[simp] theorem extrA_tup (xs : List AV) (i : Nat) : extrA (.tup xs) i = xs[i]? := of_eq_true (eq_true rfl)
@[simp] theorem opC_extr (x : Opd) (i : Nat) : opC L C ts h (.extr x i) = mapH (extrA (x.ev L ts) i) h := by
  simp only [opC, AOp.run, extrA, mapH]
  split <;> simp_all
def lenA (n : Option Nat) : Option AV := n.map fun n => (.t (.v (.int .i64 (n : Int))))
@[simp] theorem lenA_some (n : Nat) : lenA (some n) = some (.t (.v (.int .i64 (n : Int)))) := of_eq_true (eq_true rfl)
@[simp] theorem lenS_sl (xs : List Tr) : lenS (.t (.sl xs)) = some xs.length := of_eq_true (eq_true rfl)
@[simp] theorem lenS_emp (nl : Bool) : lenS (.emp nl) = some 0 := of_eq_true (eq_true rfl)
@[simp] theorem lenS_nils : lenS .nils = some 0 := of_eq_true (eq_true rfl)
@[simp] theorem lenS_win (r v n : Nat) : lenS (.win r v n) = some n := of_eq_true (eq_true rfl)
@[simp] theorem opC_len (x : Opd) : opC L C ts h (.len x) = mapH (lenA (lenS (x.ev L ts))) h := by
  simp only [opC, AOp.run, lenA, mapH]
  cases lenS (x.ev L ts) <;> rfl
def lensA (a : AV) : Option AV := match a with
    | .t (.v (.string s)) => some (.t (.v (.int .i64 (s.size : Int))))
    | _ => none
@[simp] theorem lensA_s (s : ByteArray) : lensA (.t (.v (.string s))) = some (.t (.v (.int .i64 (s.size : Int)))) := of_eq_true (eq_true rfl)
@[simp] theorem opC_lens (x : Opd) : opC L C ts h (.lens x) = mapH (lensA (x.ev L ts)) h := by
  simp only [opC, AOp.run, lensA, mapH]
  split <;> simp_all
@[simp] theorem opC_lenc (n : Nat) : opC L C ts h (.lenc n) = some (.t (.v (.int .i64 (n : Int))), h) := of_eq_true (eq_true rfl)
def appK (ys : Option (List Tr)) (e sz bytes : Nat) (a : AV) (h : List AO) : Option (AV × List AO) := ys.bind fun ys => appW h e sz bytes a ys
@[simp] theorem appK_some (ys : List Tr) (e sz bytes : Nat) (a : AV) (h : List AO) : appK (some ys) e sz bytes a h = appW h e sz bytes a ys := of_eq_true (eq_true rfl)
@[simp] theorem opC_app (e sz bytes : Nat) (x y : Opd) : opC L C ts h (.app e sz bytes x y) = appK (lookS h (y.ev L ts)) e sz bytes (x.ev L ts) h := of_eq_true (eq_true rfl)
def appsK (e : Nat) (a b : AV) (h : List AO) : Option (AV × List AO) := match b with
    | .t (.v (.string s)) => appW h e 1 1 a (bsT s.data.toList)
    | _ => none
@[simp] theorem appsK_s (e : Nat) (a : AV) (s : ByteArray) (h : List AO) : appsK e a (.t (.v (.string s))) h = appW h e 1 1 a (bsT s.data.toList) := of_eq_true (eq_true rfl)
@[simp] theorem opC_apps (e : Nat) (x y : Opd) : opC L C ts h (.apps e x y) = appsK e (x.ev L ts) (y.ev L ts) h := by
  simp only [opC, AOp.run, appsK]
  try rfl
@[simp] theorem lookS_emp (nl : Bool) (h : List AO) : lookS h (.emp nl) = some [] := of_eq_true (eq_true rfl)
@[simp] theorem lookS_nils (h : List AO) : lookS h .nils = some [] := of_eq_true (eq_true rfl)
@[simp] theorem lookS_sl (xs : List Tr) (h : List AO) : lookS h (.t (.sl xs)) = some xs := of_eq_true (eq_true rfl)
def lookW (o : Option AO) (ver n : Nat) : Option (List Tr) := match o with
  | some (.arr _ v xs _ d) => if ver = v ∧ d ≤ n ∧ n ≤ xs.length then some (xs.take n) else none
  | _ => none
@[simp] theorem lookS_win (r v n : Nat) (h : List AO) : lookS h (.win r v n) = lookW h[r]? v n := by
  simp only [lookS, fzW, lookW]
  cases h[r]? with
  | none => rfl
  | some o => cases o <;> simp; split <;> rfl
@[simp] theorem lookW_arr (e v : Nat) (xs : List Tr) (m d ver n : Nat) : lookW (some (.arr e v xs m d)) ver n = if ver = v ∧ d ≤ n ∧ n ≤ xs.length then some (xs.take n) else none := of_eq_true (eq_true rfl)
def appFits (n m bytes sz : Nat) (ys : List Tr) : Bool := decide ((n + m) * bytes ≤ maxLenB ∧ n + m ≤ maxLenB ∧ ys.all (fun y => y.cells.length = sz) = true)
def appO (o : Option AO) (h : List AO) (e sz bytes r ver n : Nat) (ys : List Tr) : Option (AV × List AO) := match o with
    | some (.arr e' v xs m d) => if ver = v ∧ n = xs.length ∧ e' = e then
        if appFits xs.length ys.length bytes sz ys then some (.win r v (xs.length + ys.length), h.set r (.arr e v (xs ++ ys) m d)) else none
        else none
    | _ => none
@[simp] theorem appW_win (h : List AO) (e sz bytes r v n : Nat) (ys : List Tr) : appW h e sz bytes (.win r v n) ys = appO h[r]? h e sz bytes r v n ys := by
  simp only [appW, appTo, appO, appFits]
  cases h[r]? with
  | none => rfl
  | some o => cases o <;> simp; split <;> simp
@[simp] theorem appO_arr (e' v' : Nat) (xs : List Tr) (m d : Nat) (h : List AO) (e sz bytes r v n : Nat) (ys : List Tr) : appO (some (.arr e' v' xs m d)) h e sz bytes r v n ys = if v = v' ∧ n = xs.length ∧ e' = e then
        if appFits xs.length ys.length bytes sz ys then some (.win r v' (xs.length + ys.length), h.set r (.arr e v' (xs ++ ys) m d)) else none
        else none := of_eq_true (eq_true rfl)
@[simp] theorem appW_nil (h : List AO) (e sz bytes : Nat) (ys : List Tr) : appW h e sz bytes .nils ys = if appFits 0 ys.length bytes sz ys then some (.win h.length 0 ys.length, h ++ [.arr e 0 ys 0 0]) else none := by
  simp [appW, appTo, appFits]
@[simp] theorem opC_mx (x y : Opd) : opC L C ts h (.mx [x, y]) = mapH (flat2 L.P Builtin.max2 (x.ev L ts) (y.ev L ts)) h := of_eq_true (eq_true rfl)
@[simp] theorem opC_mn (x y : Opd) : opC L C ts h (.mn [x, y]) = mapH (flat2 L.P Builtin.min2 (x.ev L ts) (y.ev L ts)) h := of_eq_true (eq_true rfl)
@[simp] theorem max2_ints (P : Program) (k : IntKind) (a b : Int) : flat2 P Builtin.max2 (.t (.v (.int k a))) (.t (.v (.int k b))) = some (.t (.v (.int k (if b > a then b else a)))) := of_eq_true (eq_true rfl)
@[simp] theorem min2_ints (P : Program) (k : IntKind) (a b : Int) : flat2 P Builtin.min2 (.t (.v (.int k a))) (.t (.v (.int k b))) = some (.t (.v (.int k (if b < a then b else a)))) := of_eq_true (eq_true rfl)
@[simp] theorem opC_call (f : Nat) (args : List Opd) : opC L C ts h (.call f args) = doCall L C f (args.map (·.ev L ts)) h := of_eq_true (eq_true rfl)
def callvK (a : AV) (args : List AV) (h : List AO) : Option (AV × List AO) := match a with
    | .clo f a b => doCall L C f (a ++ args ++ b) h
    | _ => none
@[simp] theorem callvK_clo (f : Nat) (a b args : List AV) (h : List AO) : callvK L C (.clo f a b) args h = doCall L C f (a ++ args ++ b) h := of_eq_true (eq_true rfl)
@[simp] theorem opC_callv (x : Opd) (args : List Opd) : opC L C ts h (.callv x args) = callvK L C (x.ev L ts) (args.map (·.ev L ts)) h := by
  simp only [opC, callvK]
  rfl
end
end Go.Proofs.YtgehpjjpeddomaaGreatDoor
/- The rules by which simp reckons with the evaluator: arithmetic, calls, results. -/
namespace Go.Proofs.YtgehpjjpeddomaaGreatDoor
open Go

section
variable (P : Program)
theorem runP_bind {α β : Type} (x : Sem α) (f : α → Sem β) : runP P (x >>= f) = (runP P x).bind fun a => runP P (f a) := by
  show runP P (x.bind f) = _
  induction x with
  | pure a => rfl
  | program k ih => exact ih P
  | _ => rfl
theorem runP_pure {α : Type} (a : α) : runP P (pure a) = some a := rfl
theorem runP_underlying {t : Nat} {d : TypeDesc} (h : P.underlying t = some d) : runP P (underlying t) = some d := by
  show runP P (match P.underlying t with | some d => Sem.pure d | none => stuck "no such type") = _
  rw [h]; rfl
end

section
variable {P : Program} {t : Nat} {k : IntKind} {a b : Int}
@[simp] theorem bin_lss : binA P .lss t (.t (.v (.int k a))) (.t (.v (.int k b))) = some (.t (.v (.bool (decide (a < b))))) := by
  cases k <;> rfl
@[simp] theorem bin_leq : binA P .leq t (.t (.v (.int k a))) (.t (.v (.int k b))) = some (.t (.v (.bool (decide (a ≤ b))))) := by
  cases k <;> rfl
@[simp] theorem bin_gtr : binA P .gtr t (.t (.v (.int k a))) (.t (.v (.int k b))) = some (.t (.v (.bool (decide (b < a))))) := by
  cases k <;> rfl
@[simp] theorem bin_geq : binA P .geq t (.t (.v (.int k a))) (.t (.v (.int k b))) = some (.t (.v (.bool (decide (b ≤ a))))) := by
  cases k <;> rfl
@[simp] theorem bin_eql : binA P .eql t (.t (.v (.int k a))) (.t (.v (.int k b))) = some (.t (.v (.bool (decide (a = b))))) := by
  cases k <;> rfl
@[simp] theorem bin_neq : binA P .neq t (.t (.v (.int k a))) (.t (.v (.int k b))) = some (.t (.v (.bool (!decide (a = b))))) := by
  cases k <;> rfl
@[simp] theorem bin_add : binA P .add t (.t (.v (.int k a))) (.t (.v (.int k b))) = some (.t (.v (.int k (k.wrap (a + b))))) := by
  cases k <;> rfl
@[simp] theorem bin_sub : binA P .sub t (.t (.v (.int k a))) (.t (.v (.int k b))) = some (.t (.v (.int k (k.wrap (a - b))))) := by
  cases k <;> rfl
@[simp] theorem bin_mul : binA P .mul t (.t (.v (.int k a))) (.t (.v (.int k b))) = some (.t (.v (.int k (k.wrap (a * b))))) := by
  cases k <;> rfl
/-- A number's bits, put together. -/
def bitI (op : BinOp) (k : IntKind) (x y : Int) : Int :=
  let a := BitVec.ofInt k.bits x
  let b := BitVec.ofInt k.bits y
  match op with
  | .and => k.wrap (a &&& b).toNat
  | .or => k.wrap (a ||| b).toNat
  | .xor => k.wrap (a ^^^ b).toNat
  | _ => k.wrap (a &&& ~~~b).toNat
@[simp] theorem bin_and : binA P .and t (.t (.v (.int k a))) (.t (.v (.int k b))) = some (.t (.v (.int k (bitI .and k a b)))) := by
  cases k <;> rfl
@[simp] theorem bin_or : binA P .or t (.t (.v (.int k a))) (.t (.v (.int k b))) = some (.t (.v (.int k (bitI .or k a b)))) := by
  cases k <;> rfl
@[simp] theorem bin_xor : binA P .xor t (.t (.v (.int k a))) (.t (.v (.int k b))) = some (.t (.v (.int k (bitI .xor k a b)))) := by
  cases k <;> rfl
@[simp] theorem bin_andNot : binA P .andNot t (.t (.v (.int k a))) (.t (.v (.int k b))) = some (.t (.v (.int k (bitI .andNot k a b)))) := by
  cases k <;> rfl
variable {k' : IntKind}
theorem bin_shl (h : 0 ≤ b) : binA P .shl t (.t (.v (.int k a))) (.t (.v (.int k' b))) = some (.t (.v (.int k (k.wrap (a * 2 ^ min b.toNat k.bits))))) := by
  have hb : ¬ b < 0 := by omega
  show (runP P (Op.shift .shl k a k' b)).bind _ = _
  unfold Op.shift
  rw [if_neg hb]
  rfl
theorem bin_shr (h : 0 ≤ b) : binA P .shr t (.t (.v (.int k a))) (.t (.v (.int k' b))) = some (.t (.v (.int k (a.fdiv (2 ^ min b.toNat k.bits))))) := by
  have hb : ¬ b < 0 := by omega
  show (runP P (Op.shift .shr k a k' b)).bind _ = _
  unfold Op.shift
  rw [if_neg hb]
  rfl
theorem bin_quo (h : b ≠ 0) : binA P .quo t (.t (.v (.int k a))) (.t (.v (.int k b))) = some (.t (.v (.int k (k.wrap (a.tdiv b))))) := by
  show (runP P (binOp .quo t (.int k a) (.int k b))).bind _ = _
  simp [binOp, Op.intDiv, h]
  rfl
theorem bin_rem (h : b ≠ 0) : binA P .rem t (.t (.v (.int k a))) (.t (.v (.int k b))) = some (.t (.v (.int k (a.tmod b)))) := by
  show (runP P (binOp .rem t (.int k a) (.int k b))).bind _ = _
  simp [binOp, Op.intDiv, h]
  rfl
end

section
variable {P : Program} {t : Nat} {a b : ByteArray}
@[simp] theorem bin_seql : binA P .eql t (.t (.v (.string a))) (.t (.v (.string b))) = some (.t (.v (.bool (a.toList == b.toList)))) := of_eq_true (eq_true rfl)
@[simp] theorem bin_sneq : binA P .neq t (.t (.v (.string a))) (.t (.v (.string b))) = some (.t (.v (.bool !(a.toList == b.toList)))) := of_eq_true (eq_true rfl)
theorem bin_sadd (h : ((a.size + b.size : Nat) : Int) ≤ 9223372036854775807) : binA P .add t (.t (.v (.string a))) (.t (.v (.string b))) = some (.t (.v (.string (a ++ b)))) := by
  show (runP P (Op.stringOp .add a b)).bind _ = _
  unfold Op.stringOp
  have hm : ¬ ((a.size + b.size : Nat) : Int) > IntKind.i64.max := by
    have : IntKind.i64.max = 9223372036854775807 := rfl
    omega
  simp only [if_neg hm]
  rfl
end
section
variable {P : Program} {t : Nat}
theorem bin_beql (ht : P.underlying t = some .bool) (a b : Bool) : binA P .eql t (.t (.v (.bool a))) (.t (.v (.bool b))) = some (.t (.v (.bool (a == b)))) := by
  show (runP P (do
    eqGuard .eql t (.tmp 0) (.tmp 0) (.bool a) (.bool b)
    binOp .eql t (.bool a) (.bool b))).bind _ = _
  rw [runP_bind, show runP P (eqGuard .eql t (.tmp 0) (.tmp 0) (.bool a) (.bool b)) = some () from rfl, Option.bind_some]
  show (runP P (do pure (Value.bool (← Op.equal t (.bool a) (.bool b))))).bind _ = _
  rw [runP_bind, show Op.equal t (.bool a) (.bool b) = Op.equalIn (9999 + 1) t (.bool a) (.bool b) from rfl]
  unfold Op.equalIn
  rw [runP_bind, runP_underlying P ht]
  rfl
theorem bin_bneq (ht : P.underlying t = some .bool) (a b : Bool) : binA P .neq t (.t (.v (.bool a))) (.t (.v (.bool b))) = some (.t (.v (.bool !(a == b)))) := by
  show (runP P (do
    eqGuard .neq t (.tmp 0) (.tmp 0) (.bool a) (.bool b)
    binOp .neq t (.bool a) (.bool b))).bind _ = _
  rw [runP_bind, show runP P (eqGuard .neq t (.tmp 0) (.tmp 0) (.bool a) (.bool b)) = some () from rfl, Option.bind_some]
  show (runP P (do pure (Value.bool (!(← Op.equal t (.bool a) (.bool b)))))).bind _ = _
  rw [runP_bind, show Op.equal t (.bool a) (.bool b) = Op.equalIn (9999 + 1) t (.bool a) (.bool b) from rfl]
  unfold Op.equalIn
  rw [runP_bind, runP_underlying P ht]
  rfl
@[simp] theorem un_not (b : Bool) : unA P .not (.t (.v (.bool b))) = some (.t (.v (.bool !b))) := of_eq_true (eq_true rfl)
@[simp] theorem un_neg (k : IntKind) (n : Int) : unA P .neg (.t (.v (.int k n))) = some (.t (.v (.int k (k.wrap (0 - n))))) := by
  cases k <;> rfl
theorem conv_int {s d : Nat} {u : TypeDesc} {k k' : IntKind} {n : Int} (hs : P.underlying s = some u) (hd : P.underlying d = some (.int k')) : convA P s d (.t (.v (.int k n))) = some (.t (.v (.int k' (k'.wrap n)))) := by
  show (runP P (convert s d (.int k n))).bind _ = _
  unfold convert
  rw [runP_bind, runP_underlying P hs, Option.bind_some, runP_bind, runP_underlying P hd, Option.bind_some]
  rfl
end

theorem wrap_i64 {n : Int} (h0 : -9223372036854775808 ≤ n) (h1 : n ≤ 9223372036854775807) : IntKind.i64.wrap n = n := by
  unfold IntKind.wrap
  simp only [IntKind.bits, IntKind.signed]
  simp
  split <;> omega
theorem wrap_u64 {n : Int} (h0 : 0 ≤ n) (h1 : n ≤ 18446744073709551615) : IntKind.u64.wrap n = n := by
  unfold IntKind.wrap
  simp only [IntKind.bits, IntKind.signed]
  simp
  omega
theorem wrap_u8 {n : Int} (h0 : 0 ≤ n) (h1 : n ≤ 255) : IntKind.u8.wrap n = n := by
  unfold IntKind.wrap
  simp only [IntKind.bits, IntKind.signed]
  simp
  omega

/-! ### boxes -/
@[simp] theorem cells_v (x : Value) : (Tr.v x).cells = [.v x] := of_eq_true (eq_true rfl)
@[simp] theorem cells_sl (x : List Tr) : (Tr.sl x).cells = [.sl x] := of_eq_true (eq_true rfl)
@[simp] theorem cells_agg (x : List Tr) : (Tr.agg x).cells = x := of_eq_true (eq_true rfl)
@[simp] theorem avcells_t (x : Tr) : (AV.t x).cells = x.cells.map .t := of_eq_true (eq_true rfl)
@[simp] theorem avcells_nils : AV.nils.cells = [.nils] := of_eq_true (eq_true rfl)
@[simp] theorem avcells_win (r v n : Nat) : (AV.win r v n).cells = [.win r v n] := of_eq_true (eq_true rfl)
@[simp] theorem avcells_ptr (r o : Nat) : (AV.ptr r o).cells = [.ptr r o] := of_eq_true (eq_true rfl)
@[simp] theorem avcells_ip (c : List Tr) : (AV.ip c).cells = [.ip c] := of_eq_true (eq_true rfl)
@[simp] theorem avcells_clo (f : Nat) (a b : List AV) : (AV.clo f a b).cells = [.clo f a b] := of_eq_true (eq_true rfl)
@[simp] theorem avcells_mix (c : List AV) : (AV.mix c).cells = c := of_eq_true (eq_true rfl)
def loadO (o : Option AO) (off : Nat) (k : Option Nat) : Option AV := match o with
    | some (.box cs) => takeC cs off k
    | _ => none
@[simp] theorem loadA_ptr (h : List AO) (k : Option Nat) (r off : Nat) : loadA h k (.ptr r off) = loadO h[r]? off k := of_eq_true (eq_true rfl)
@[simp] theorem loadO_box (cs : List AV) (off : Nat) (k : Option Nat) : loadO (some (.box cs)) off k = takeC cs off k := of_eq_true (eq_true rfl)
@[simp] theorem loadA_ip (h : List AO) (k : Option Nat) (cs : List Tr) : loadA h k (.ip cs) = takeT cs 0 k := of_eq_true (eq_true rfl)
def loadE (o : Option AO) (ver n j off : Nat) (k : Option Nat) : Option AV := match o with
    | some (.arr _ v xs _ _) => if ver = v ∧ n = xs.length then (xs[j]?).bind fun x => takeT x.cells off k else none
    | _ => none
@[simp] theorem loadA_ep (h : List AO) (k : Option Nat) (r v n j off : Nat) : loadA h k (.ep r v n j off) = loadE h[r]? v n j off k := of_eq_true (eq_true rfl)
@[simp] theorem loadE_arr (e v' : Nat) (xs : List Tr) (m d ver n j off : Nat) (k : Option Nat) : loadE (some (.arr e v' xs m d)) ver n j off k = if ver = v' ∧ n = xs.length then (xs[j]?).bind fun x => takeT x.cells off k else none := of_eq_true (eq_true rfl)
@[simp] theorem takeC_none (cs : List AV) (off : Nat) : takeC cs off none = cs[off]? := of_eq_true (eq_true rfl)
@[simp] theorem takeC_some (cs : List AV) (off n : Nat) : takeC cs off (some n) = if off + n ≤ cs.length then some (ofCells ((cs.drop off).take n)) else none := of_eq_true (eq_true rfl)
@[simp] theorem takeT_none (cs : List Tr) (off : Nat) : takeT cs off none = (cs[off]?).map .t := of_eq_true (eq_true rfl)
@[simp] theorem takeT_some (cs : List Tr) (off n : Nat) : takeT cs off (some n) = if off + n ≤ cs.length then some (.t (.agg ((cs.drop off).take n))) else none := of_eq_true (eq_true rfl)
def ofCellsK (l : Option (List Tr)) (cs : List AV) : AV := match l with
  | some l => .t (.agg l)
  | none => .mix cs
@[simp] theorem ofCells_eq (cs : List AV) : ofCells cs = ofCellsK (fzL cs) cs := of_eq_true (eq_true rfl)
@[simp] theorem ofCellsK_some (l : List Tr) (cs : List AV) : ofCellsK (some l) cs = .t (.agg l) := of_eq_true (eq_true rfl)
@[simp] theorem ofCellsK_none (cs : List AV) : ofCellsK none cs = .mix cs := of_eq_true (eq_true rfl)
@[simp] theorem fzL_nil : fzL [] = some [] := of_eq_true (eq_true rfl)
@[simp] theorem fzL_v (x : Value) (r : List AV) : fzL (.t (.v x) :: r) = (fzL r).map (.v x :: ·) := of_eq_true (eq_true rfl)
@[simp] theorem fzL_sl (x : List Tr) (r : List AV) : fzL (.t (.sl x) :: r) = (fzL r).map (.sl x :: ·) := of_eq_true (eq_true rfl)
@[simp] theorem fzL_nils (r : List AV) : fzL (.nils :: r) = (fzL r).map (.sl [] :: ·) := of_eq_true (eq_true rfl)
@[simp] theorem fzL_ptr (x y : Nat) (r : List AV) : fzL (.ptr x y :: r) = none := of_eq_true (eq_true rfl)
@[simp] theorem fzL_win (x y z : Nat) (r : List AV) : fzL (.win x y z :: r) = none := of_eq_true (eq_true rfl)
@[simp] theorem fzL_clo (x : Nat) (y z : List AV) (r : List AV) : fzL (.clo x y z :: r) = none := of_eq_true (eq_true rfl)
@[simp] theorem fzC_nil (h : List AO) : fzC [] h = some ([], h) := of_eq_true (eq_true rfl)
@[simp] theorem fzC_v (x : Value) (r : List AV) (h : List AO) : fzC (.t (.v x) :: r) h = (fzC r h).map fun q => (.v x :: q.1, q.2) := of_eq_true (eq_true rfl)
@[simp] theorem fzC_sl (x : List Tr) (r : List AV) (h : List AO) : fzC (.t (.sl x) :: r) h = (fzC r h).map fun q => (.sl x :: q.1, q.2) := of_eq_true (eq_true rfl)
@[simp] theorem fzC_nils (r : List AV) (h : List AO) : fzC (.nils :: r) h = (fzC r h).map fun q => (.sl [] :: q.1, q.2) := of_eq_true (eq_true rfl)
@[simp] theorem fzC_win (x y z : Nat) (r : List AV) (h : List AO) : fzC (.win x y z :: r) h = (fzW h x y z).bind fun p => (fzC r p.2).map fun q => (p.1 :: q.1, q.2) := of_eq_true (eq_true rfl)
@[simp] theorem fzC_ptr (x y : Nat) (r : List AV) (h : List AO) : fzC (.ptr x y :: r) h = none := of_eq_true (eq_true rfl)
@[simp] theorem fzC_clo (x : Nat) (y z : List AV) (r : List AV) (h : List AO) : fzC (.clo x y z :: r) h = none := of_eq_true (eq_true rfl)
def fzO (o : Option AO) (h : List AO) (r ver n : Nat) : Option (Tr × List AO) := match o with
  | some (.arr e v xs m d) => if ver = v ∧ d ≤ n ∧ n ≤ xs.length then some (.sl (xs.take n), h.set r (.arr e v xs (max m n) d)) else none
  | _ => none
@[simp] theorem fzW_eq (h : List AO) (r ver n : Nat) : fzW h r ver n = fzO h[r]? h r ver n := of_eq_true (eq_true rfl)
@[simp] theorem fzO_arr (e v : Nat) (xs : List Tr) (m d : Nat) (h : List AO) (r ver n : Nat) : fzO (some (.arr e v xs m d)) h r ver n = if ver = v ∧ d ≤ n ∧ n ≤ xs.length then some (.sl (xs.take n), h.set r (.arr e v xs (max m n) d)) else none := of_eq_true (eq_true rfl)
@[simp] theorem setC_nil (cs : List AV) (off : Nat) : setC cs off [] = cs := of_eq_true (eq_true rfl)
@[simp] theorem setC_cons (cs : List AV) (off : Nat) (x : AV) (r : List AV) : setC cs off (x :: r) = setC (put cs off x) (off + 1) r := of_eq_true (eq_true rfl)
def storeO (o : Option AO) (h : List AO) (r off n : Nat) (cs' : List AV) : Option (List AO) := match o with
      | some (.box cs) => if off + n ≤ cs.length then some (h.set r (.box (setC cs off cs'))) else none
      | _ => none
@[simp] theorem storeA_ptr (h : List AO) (n r off : Nat) (a : AV) : storeA h n (.ptr r off) a = if a.ok = true ∧ a.cells.length = n then storeO h[r]? h r off n a.cells else none := of_eq_true (eq_true rfl)
@[simp] theorem storeO_box (cs : List AV) (h : List AO) (r off n : Nat) (cs' : List AV) : storeO (some (.box cs)) h r off n cs' = if off + n ≤ cs.length then some (h.set r (.box (setC cs off cs'))) else none := of_eq_true (eq_true rfl)

/-! ### calls -/
section
variable (L : Lay) (C : Mean)
noncomputable def callR (ids : List Nat) (h : List AO) (x : Option (AV × List AO)) : Option (AV × List AO) := x.bind fun p =>
        if ids.length ≤ p.2.length then
          some (ren (backρ ids h.length) p.1, back h ids (p.2.map (AO.ren (backρ ids h.length))))
        else none
@[simp] theorem callR_some (ids : List Nat) (h : List AO) (a : AV) (h1 : List AO) : callR ids h (some (a, h1)) = if ids.length ≤ h1.length then
          some (ren (backρ ids h.length) a, back h ids (h1.map (AO.ren (backρ ids h.length)))) else none := of_eq_true (eq_true rfl)
@[simp] theorem callR_none (ids : List Nat) (h : List AO) : callR ids h none = none := of_eq_true (eq_true rfl)
@[simp] theorem callR_sel (ids : List Nat) (h : List AO) (q : Bool) (x y : Option (AV × List AO)) : callR ids h (sel q x y) = sel q (callR ids h x) (callR ids h y) := by cases q <;> rfl
noncomputable def callI (f : Nat) (args : List AV) (h : List AO) (ids : Option (List Nat)) : Option (AV × List AO) := ids.bind fun ids =>
      callR ids h (C f (ren.renL (fun r => ids.idxOf r) args) ((pick h ids).map (AO.ren fun r => ids.idxOf r)))
@[simp] theorem callI_some (f : Nat) (args : List AV) (h : List AO) (ids : List Nat) : callI C f args h (some ids) =
      callR ids h (C f (ren.renL (fun r => ids.idxOf r) args) ((pick h ids).map (AO.ren fun r => ids.idxOf r))) := of_eq_true (eq_true rfl)
noncomputable def callP (f : Nat) (q : List AV × List AO) : Option (AV × List AO) := callI C f q.1 q.2 (reach q.2 (q.2.length + q.2.length + q.1.length + 8) (refs.refsL q.1) [])
@[simp] theorem callP_eq (f : Nat) (args : List AV) (h : List AO) : callP C f (args, h) = callI C f args h (reach h (h.length + h.length + args.length + 8) (refs.refsL args) []) := of_eq_true (eq_true rfl)
theorem coerce_length : ∀ (l : List AV) (m : List (Option Nat)) (h : List AO), (coerce l m h).1.length = l.length
  | [], _, _ => rfl
  | a :: r, [], h => by simp [coerce, coerce_length r]
  | a :: r, some e :: m, h => by simp [coerce, coerce_length r]
  | a :: r, none :: m, h => by simp [coerce, coerce_length r]
theorem doCall_eq {f : Nat} {np nt : Nat} {body : AC} {res : List RV} {win : List (Option Nat)} {pur : Bool} {tw : Bool} (hf : L.F f = some ⟨np, nt, body, res, win, pur, tw⟩) (args : List AV) (h : List AO) : doCall L C f args h = callP C f (coerce args win h) := by
  simp only [doCall, hf, callP, callI, callR, coerce_length]
@[simp] theorem coerce_nil (m : List (Option Nat)) (h : List AO) : coerce [] m h = ([], h) := by cases m <;> rfl
def consP (a : AV) (q : List AV × List AO) : List AV × List AO := (a :: q.1, q.2)
@[simp] theorem consP_eq (a : AV) (l : List AV) (h : List AO) : consP a (l, h) = (a :: l, h) := of_eq_true (eq_true rfl)
def coerceK (p : AV × List AO) (r : List AV) (m : List (Option Nat)) : List AV × List AO := consP p.1 (coerce r m p.2)
@[simp] theorem coerceK_eq (a : AV) (h : List AO) (r : List AV) (m : List (Option Nat)) : coerceK (a, h) r m = consP a (coerce r m h) := of_eq_true (eq_true rfl)
@[simp] theorem coerce_cons0 (a : AV) (r : List AV) (h : List AO) : coerce (a :: r) [] h = coerceK (frz a h) r [] := of_eq_true (eq_true rfl)
@[simp] theorem coerce_cons1 (a : AV) (r : List AV) (e : Nat) (m : List (Option Nat)) (h : List AO) : coerce (a :: r) (some e :: m) h = coerceK (coerce1 a e h) r m := of_eq_true (eq_true rfl)
@[simp] theorem coerce_cons2 (a : AV) (r : List AV) (m : List (Option Nat)) (h : List AO) : coerce (a :: r) (none :: m) h = coerceK (frz a h) r m := of_eq_true (eq_true rfl)
@[simp] theorem coerce1_nils (e : Nat) (h : List AO) : coerce1 .nils e h = (.win h.length 0 0, h ++ [.arr e 0 [] 0 0]) := of_eq_true (eq_true rfl)
@[simp] theorem coerce1_win (r v n e : Nat) (h : List AO) : coerce1 (.win r v n) e h = (.win r v n, h) := of_eq_true (eq_true rfl)
@[simp] theorem frz_nils (h : List AO) : frz .nils h = (.t (.sl []), h) := of_eq_true (eq_true rfl)
@[simp] theorem frz_t (x : Tr) (h : List AO) : frz (.t x) h = (.t x, h) := of_eq_true (eq_true rfl)
@[simp] theorem frz_ptr (r o : Nat) (h : List AO) : frz (.ptr r o) h = (.ptr r o, h) := of_eq_true (eq_true rfl)
@[simp] theorem frz_clo (f : Nat) (a b : List AV) (h : List AO) : frz (.clo f a b) h = (.clo f a b, h) := of_eq_true (eq_true rfl)
@[simp] theorem frz_ip (cs : List Tr) (h : List AO) : frz (.ip cs) h = (.ip cs, h) := of_eq_true (eq_true rfl)
@[simp] theorem frz_junk (h : List AO) : frz .junk h = (.junk, h) := of_eq_true (eq_true rfl)
@[simp] theorem frz_tup (xs : List AV) (h : List AO) : frz (.tup xs) h = (.tup xs, h) := of_eq_true (eq_true rfl)
def frzK (x : Option (Tr × List AO)) (a : AV) (h : List AO) : AV × List AO := match x with
  | some (x, h') => (.t x, h')
  | none => (a, h)
@[simp] theorem frz_win (r v n : Nat) (h : List AO) : frz (.win r v n) h = frzK (fzW h r v n) (.win r v n) h := of_eq_true (eq_true rfl)
def aggP (q : Option (List Tr × List AO)) : Option (Tr × List AO) := q.map fun q => (.agg q.1, q.2)
@[simp] theorem aggP_some (l : List Tr) (h : List AO) : aggP (some (l, h)) = some (.agg l, h) := of_eq_true (eq_true rfl)
@[simp] theorem aggP_none : aggP none = none := of_eq_true (eq_true rfl)
@[simp] theorem frz_mix (cs : List AV) (h : List AO) : frz (.mix cs) h = frzK (aggP (fzC cs h)) (.mix cs) h := of_eq_true (eq_true rfl)
@[simp] theorem frzK_some (x : Tr) (h' : List AO) (a : AV) (h : List AO) : frzK (some (x, h')) a h = (.t x, h') := of_eq_true (eq_true rfl)
@[simp] theorem frzK_none (a : AV) (h : List AO) : frzK none a h = (a, h) := of_eq_true (eq_true rfl)
attribute [simp] refs refs.refsL ren ren.renL AO.refs AO.ren List.idxOf_cons
@[simp] theorem reach_nil (h : List AO) (k : Nat) (seen : List Nat) : reach h k [] seen = some seen := by cases k <;> rfl
def reachO (o : Option AO) (h : List AO) (k r : Nat) (todo seen : List Nat) : Option (List Nat) := match o with
    | some o => reach h k (o.refs ++ todo) (seen ++ [r])
    | none => none
@[simp] theorem reachO_some (o : AO) (h : List AO) (k r : Nat) (todo seen : List Nat) : reachO (some o) h k r todo seen = reach h k (o.refs ++ todo) (seen ++ [r]) := of_eq_true (eq_true rfl)
@[simp] theorem reach_cons (h : List AO) (k r : Nat) (todo seen : List Nat) : reach h (k + 1) (r :: todo) seen = if seen.contains r then reach h k todo seen else reachO h[r]? h k r todo seen := of_eq_true (eq_true rfl)
@[simp] theorem pick_nil (h : List AO) : pick h [] = [] := of_eq_true (eq_true rfl)
@[simp] theorem pick_cons (h : List AO) (i : Nat) (r : List Nat) : pick h (i :: r) = h.getD i .dead :: pick h r := of_eq_true (eq_true rfl)
@[simp] theorem back_nil (h more : List AO) : back h [] more = h ++ more := by cases more <;> rfl
@[simp] theorem back_cons (h : List AO) (i : Nat) (r : List Nat) (o : AO) (h1 : List AO) : back h (i :: r) (o :: h1) = back (h.set i o) r h1 := of_eq_true (eq_true rfl)
@[simp] theorem backρ_eq (ids : List Nat) (base i : Nat) : backρ ids base i = if i < ids.length then ids.getD i 0 else base + (i - ids.length) := of_eq_true (eq_true rfl)

/-! ### results -/
@[simp] theorem resAll_nil (s : St) : resAll s [] = some [] := of_eq_true (eq_true rfl)
@[simp] theorem resAll_tmp (ts : List AV) (h : List AO) (t : Nat) (rs : List RV) : resAll ⟨ts, h⟩ (.tmp t :: rs) = (resAll ⟨ts, h⟩ rs).map (nth ts t :: ·) := of_eq_true (eq_true rfl)
@[simp] theorem resAll_cell (ts : List AV) (h : List AO) (t : Nat) (k : Option Nat) (rs : List RV) : resAll ⟨ts, h⟩ (.cell t k :: rs) = (loadA h k (nth ts t)).bind fun a => (resAll ⟨ts, h⟩ rs).map (a :: ·) := of_eq_true (eq_true rfl)
def oneOr (l : List AV) : AV := match l with
  | [a] => a
  | l => .tup l
@[simp] theorem oneOr_one (a : AV) : oneOr [a] = a := of_eq_true (eq_true rfl)
@[simp] theorem oneOr_nil : oneOr [] = .tup [] := of_eq_true (eq_true rfl)
@[simp] theorem oneOr_two (a b : AV) (r : List AV) : oneOr (a :: b :: r) = .tup (a :: b :: r) := of_eq_true (eq_true rfl)
def finP (k : Nat) (q : List AV × List AO) : AV × List AO := gc k (oneOr q.1) q.2
@[simp] theorem finP_eq (k : Nat) (l : List AV) (h : List AO) : finP k (l, h) = gc k (oneOr l) h := of_eq_true (eq_true rfl)
def finK (x : Option (List AV)) (pur : Bool) (k : Nat) (h : List AO) : Option (AV × List AO) := x.map fun l => finP k (if pur then frzAll l h else (l, h))
@[simp] theorem finK_pure (l : List AV) (k : Nat) (h : List AO) : finK (some l) true k h = some (finP k (frzAll l h)) := of_eq_true (eq_true rfl)
@[simp] theorem finK_keep (l : List AV) (k : Nat) (h : List AO) : finK (some l) false k h = some (finP k (l, h)) := of_eq_true (eq_true rfl)
@[simp] theorem frzAll_nil (h : List AO) : frzAll [] h = ([], h) := of_eq_true (eq_true rfl)
def frzAllK (p : AV × List AO) (r : List AV) : List AV × List AO := consP p.1 (frzAll r p.2)
@[simp] theorem frzAllK_eq (a : AV) (h : List AO) (r : List AV) : frzAllK (a, h) r = consP a (frzAll r h) := of_eq_true (eq_true rfl)
@[simp] theorem frzAll_cons (a : AV) (r : List AV) (h : List AO) : frzAll (a :: r) h = frzAllK (frz a h) r := of_eq_true (eq_true rfl)
noncomputable def retK (res : List RV) (pur : Bool) (k : Nat) (x : Option (Ex × St)) : Option (AV × List AO) := x.bind fun p => match p.1 with
      | .exit _ => none
      | _ => finK (resAll p.2 res) pur k p.2.h
@[simp] theorem retK_norm (res : List RV) (pur : Bool) (k : Nat) (ts : List AV) (h : List AO) : retK res pur k (some (.norm, ⟨ts, h⟩)) = finK (resAll ⟨ts, h⟩ res) pur k h := of_eq_true (eq_true rfl)
@[simp] theorem retK_ret (res : List RV) (pur : Bool) (k : Nat) (ts : List AV) (h : List AO) : retK res pur k (some (.ret, ⟨ts, h⟩)) = finK (resAll ⟨ts, h⟩ res) pur k h := of_eq_true (eq_true rfl)
@[simp] theorem retK_W (res : List RV) (pur : Bool) (k : Nat) (x : Option (Ex × St)) : retK res pur k (W x) = W (retK res pur k x) := of_eq_true (eq_true rfl)
@[simp] theorem retK_sel (res : List RV) (pur : Bool) (k : Nat) (q : Bool) (x y : Option (Ex × St)) : retK res pur k (sel q x y) = sel q (retK res pur k x) (retK res pur k y) := by cases q <;> rfl
theorem callL_body {f : Nat} {np nt : Nat} {body : AC} {res : List RV} {win : List (Option Nat)} {pur : Bool} (hf : L.F f = some ⟨np, nt, body, res, win, pur, false⟩) {args : List AV} (hn : args.length = np) (h : List AO) :
    callL L f args h = retK res pur h.length (execL L h.length body ⟨args ++ List.replicate (nt - np) .junk, h⟩) := by
  rw [callL_eq L hf rfl]
  simp only [hn, if_true, retK]
  congr 1
@[simp high] theorem gc_t (x : Tr) (h : List AO) : gc h.length (.t x) h = (.t x, h) := by
  unfold gc
  simp only [List.take_length, refs]
  split <;> rfl
def lowOk (k : Nat) (h : List AO) : Bool := ((h.take k).flatMap AO.refs).all (· < k)
@[simp] theorem lowOk_zero (h : List AO) : lowOk 0 h = true := of_eq_true (eq_true rfl)
@[simp] theorem lowOk_eq (k : Nat) (h : List AO) : lowOk k h = ((h.take k).flatMap AO.refs).all (· < k) := of_eq_true (eq_true rfl)
@[simp] theorem gc_eq (k : Nat) (a : AV) (h : List AO) : gc k a h = if lowOk k h && (refs a).all (· < k) then (a, h.take k)
  else match a with
    | .win r ver n => if lowOk k h then (.win k ver n, h.take k ++ [h.getD r .dead]) else (a, h)
    | a => (a, h) := of_eq_true (eq_true rfl)
end
end Go.Proofs.YtgehpjjpeddomaaGreatDoor
/- The rules by which simp reckons, with the temps as a short list of those that hold something. -/
namespace Go.Proofs.YtgehpjjpeddomaaGreatDoor
open Go

/-- What lies at a place. -/
def lk : List (Nat × AV) → Nat → AV
  | [], _ => .junk
  | (m, v) :: r, n => bif m == n then v else lk r n
def up (e : List (Nat × AV)) (n : Nat) (v : AV) : List (Nat × AV) := (n, v) :: e
/-- The listed ones alone. -/
def kp (e : List (Nat × AV)) : List Nat → List (Nat × AV)
  | [] => []
  | n :: r => (n, lk e n) :: kp e r
/-- All temps. -/
def ofE (nt : Nat) (e : List (Nat × AV)) : List AV := (List.range nt).map (lk e)

theorem beq_no {m n : Nat} (h : ¬ m = n) : (m == n) = false := by simpa using h
theorem beq_ok (m : Nat) : (m == m) = true := by simp
theorem lk_if (m : Nat) (v : AV) (r : List (Nat × AV)) (n : Nat) : lk ((m, v) :: r) n = if m = n then v else lk r n := by
  show (bif m == n then v else lk r n) = _
  by_cases h : m = n
  · rw [h, beq_ok, if_pos rfl]; rfl
  · rw [beq_no h, if_neg h]; rfl
theorem lk_up (e : List (Nat × AV)) (n : Nat) (v : AV) (k : Nat) : lk (up e n v) k = if n = k then v else lk e k := lk_if n v e k
theorem lk_kp (e : List (Nat × AV)) (l : List Nat) (k : Nat) : lk (kp e l) k = if l.contains k then lk e k else .junk := by
  induction l with
  | nil => rfl
  | cons n r ih =>
    rw [kp, lk_if, ih]
    by_cases h : n = k
    · subst h; simp
    · have : (k == n) = false := by simpa using fun h' => h h'.symm
      rw [if_neg h, List.contains_cons, this, Bool.false_or]

theorem ofE_length (nt : Nat) (e : List (Nat × AV)) : (ofE nt e).length = nt := by simp [ofE]
theorem nth_get' : ∀ (l : List AV) (n : Nat), nth l n = l[n]?.getD .junk
  | [], n => by cases n <;> rfl
  | x :: l, 0 => rfl
  | x :: l, n + 1 => by rw [nth, nth_get' l n]; rfl
theorem put_set' : ∀ (l : List AV) (n : Nat) (v : AV), put l n v = l.set n v
  | [], n, v => by cases n <;> rfl
  | x :: l, 0, v => rfl
  | x :: l, n + 1, v => by rw [put, put_set' l n v]; rfl
@[simp] theorem nth_ofE (nt : Nat) (e : List (Nat × AV)) (n : Nat) : nth (ofE nt e) n = bif n + 1 - nt == 0 then lk e n else .junk := by
  have : (bif n + 1 - nt == 0 then lk e n else .junk) = if n < nt then lk e n else .junk := by
    by_cases h : n < nt
    · have : n + 1 - nt = 0 := by omega
      simp [h, this]
    · have : ¬ n + 1 - nt = 0 := by omega
      have h3 : (n + 1 - nt == 0) = false := by simpa using this
      simp [h, h3]
  rw [this, nth_get', ofE, List.getElem?_map]
  split
  · rename_i h; rw [List.getElem?_range h]; rfl
  · rename_i h; rw [List.getElem?_eq_none (by simp; omega)]; rfl
@[simp] theorem put_ofE (nt : Nat) (e : List (Nat × AV)) (n : Nat) (v : AV) : put (ofE nt e) n v = ofE nt (up e n v) := by
  rw [put_set']
  refine List.ext_getElem? fun k => ?_
  rw [List.getElem?_set]
  unfold ofE
  rw [List.getElem?_map, List.getElem?_map]
  rcases Nat.lt_or_ge k nt with h | h
  · rw [List.getElem?_range h]
    simp only [Option.map_some, lk_up]
    split
    · rename_i h1; subst h1
      rw [if_pos (by simpa using h)]
    · rfl
  · rw [List.getElem?_eq_none (by simpa using h)]
    split
    · rename_i h1; subst h1
      rw [if_neg (by simpa using h)]; rfl
    · rfl
@[simp] theorem kills_ofE (nt : Nat) (e : List (Nat × AV)) (l : List Nat) : kills (ofE nt e) l = ofE nt (kp e l) := by
  have key : ∀ (l' : List Nat) (k : Nat), killsGo l k (l'.map (lk e)) = (l'.zipIdx k).map fun p => sel (l.contains p.2) (lk e p.1) .junk := by
    intro l'
    induction l' with
    | nil => intro k; rfl
    | cons x r ih => intro k; simp [killsGo, ih (k + 1)]
  unfold kills ofE
  rw [key]
  refine List.ext_getElem? fun i => ?_
  rw [List.getElem?_map, List.getElem?_map, List.getElem?_zipIdx]
  rcases Nat.lt_or_ge i nt with h | h
  · rw [List.getElem?_range h]
    simp only [Option.map_some, lk_kp, Nat.zero_add]
    cases l.contains i <;> rfl
  · rw [List.getElem?_eq_none (by simpa using h)]; rfl
@[simp] theorem lk_nil (n : Nat) : lk [] n = .junk := rfl
@[simp] theorem lk_cons (m : Nat) (v : AV) (r : List (Nat × AV)) (n : Nat) : lk ((m, v) :: r) n = bif m == n then v else lk r n := rfl
@[simp] theorem up_eq (e : List (Nat × AV)) (n : Nat) (v : AV) : up e n v = (n, v) :: e := rfl
@[simp] theorem kp_nil (e : List (Nat × AV)) : kp e [] = [] := rfl
@[simp] theorem kp_cons (e : List (Nat × AV)) (n : Nat) (r : List Nat) : kp e (n :: r) = (n, lk e n) :: kp e r := rfl
section
variable {q : Bool}
@[simp] theorem sel_ofE {nt : Nat} {e e' : List (Nat × AV)} : sel q (ofE nt e) (ofE nt e') = ofE nt (sel q e e') := by cases q <;> rfl
@[simp] theorem sel_key {n : Nat} {a b : AV} {r r' : List (Nat × AV)} : sel q ((n, a) :: r) ((n, b) :: r') = (n, sel q a b) :: sel q r r' := by cases q <;> rfl
@[simp] theorem lk_sel {e e' : List (Nat × AV)} {n : Nat} : lk (sel q e e') n = sel q (lk e n) (lk e' n) := by cases q <;> rfl
end

def argE : Nat → List AV → List (Nat × AV)
  | _, [] => []
  | k, a :: r => (k, a) :: argE (k + 1) r
@[simp] theorem argE_nil (k : Nat) : argE k [] = [] := rfl
@[simp] theorem argE_cons (k : Nat) (a : AV) (r : List AV) : argE k (a :: r) = (k, a) :: argE (k + 1) r := rfl
theorem lk_argE : ∀ (l : List AV) (k n : Nat), lk (argE k l) n = if k ≤ n then l[n - k]?.getD .junk else .junk
  | [], k, n => by simp [argE, lk]
  | a :: r, k, n => by
    rw [argE, lk_if, lk_argE r (k + 1) n]
    by_cases h : k = n
    · subst h; simp
    · rw [if_neg h]
      by_cases h2 : k ≤ n
      · rw [if_pos h2, if_pos (by omega), show n - k = (n - (k + 1)) + 1 by omega, List.getElem?_cons_succ]
      · rw [if_neg h2, if_neg (by omega)]
theorem ofE_args (args : List AV) (nt : Nat) (h : args.length ≤ nt) : args ++ List.replicate (nt - args.length) .junk = ofE nt (argE 0 args) := by
  refine List.ext_getElem? fun k => ?_
  unfold ofE
  rw [List.getElem?_map]
  rcases Nat.lt_or_ge k nt with hk | hk
  · rw [List.getElem?_range hk]
    simp only [Option.map_some, lk_argE, Nat.zero_le, if_true, Nat.sub_zero]
    rcases Nat.lt_or_ge k args.length with h2 | h2
    · rw [List.getElem?_append_left h2, List.getElem?_eq_getElem h2]; rfl
    · rw [List.getElem?_append_right h2, List.getElem?_replicate, if_pos (by omega), List.getElem?_eq_none h2]; rfl
  · rw [List.getElem?_eq_none (by simp; omega), List.getElem?_eq_none (by simpa using hk)]; rfl

/-- Keys that rise, below a bound. -/
def okE : Nat → Nat → List (Nat × AV) → Bool
  | _, _, [] => true
  | lo, nt, (m, _) :: r => decide (lo ≤ m) && decide (m < nt) && okE (m + 1) nt r
theorem refsL_mem_iff {l : List AV} {k : Nat} : k ∈ refs.refsL l ↔ ∃ a ∈ l, k ∈ refs a := by
  induction l with
  | nil => simp [refs.refsL]
  | cons x r ih => simp [refs.refsL, ih]
theorem okE_lk : ∀ {e : List (Nat × AV)} {lo nt : Nat}, okE lo nt e = true → (∀ n, n < lo → lk e n = .junk) ∧ ∀ a, (∃ n, (n, a) ∈ e) ↔ ∃ n, n < nt ∧ (n, a) ∈ e ∧ lk e n = a
  | [], lo, nt, _ => ⟨fun _ _ => rfl, fun a => by simp⟩
  | (m, v) :: r, lo, nt, h => by
    simp only [okE, Bool.and_eq_true, decide_eq_true_eq] at h
    obtain ⟨i1, i2⟩ := okE_lk h.2
    refine ⟨fun n hn => ?_, fun a => ⟨?_, fun ⟨n, _, h2, _⟩ => ⟨n, h2⟩⟩⟩
    · rw [lk_if, if_neg (by omega)]
      exact i1 n (by omega)
    · rintro ⟨n, hn⟩
      rcases List.mem_cons.1 hn with hn | hn
      · injection hn with e1 e2
        subst e1; subst e2
        exact ⟨n, h.1.2, by simp, by simp [lk_if]⟩
      · obtain ⟨n', h1, h2, h3⟩ := (i2 a).1 ⟨n, hn⟩
        by_cases hm : m = n'
        · subst hm
          have := i1 m (by omega)
          rw [this] at h3
          -- junk twice: the same
          subst h3
          exact ⟨n, by
            rcases Nat.lt_or_ge n nt with h' | h'
            · exact h'
            · exfalso
              have key : ∀ (e : List (Nat × AV)) (lo : Nat), okE lo nt e = true → ∀ p ∈ e, p.1 < nt ∧ lo ≤ p.1 := by
                intro e
                induction e with
                | nil => simp
                | cons q r ih =>
                  obtain ⟨a, b⟩ := q
                  intro lo hh p hp
                  simp only [okE, Bool.and_eq_true, decide_eq_true_eq] at hh
                  rcases List.mem_cons.1 hp with rfl | hp
                  · exact ⟨hh.1.2, hh.1.1⟩
                  · have := ih _ hh.2 p hp; exact ⟨this.1, by omega⟩
              have := (key r (m + 1) h.2 _ hn).1
              dsimp only at this
              omega, by simp [hn], by
            have key : ∀ (e : List (Nat × AV)) (lo : Nat), okE lo nt e = true → ∀ p ∈ e, lo ≤ p.1 ∧ lk e p.1 = p.2 := by
              intro e
              induction e with
              | nil => simp
              | cons q r ih =>
                obtain ⟨a, b⟩ := q
                intro lo hh p hp
                simp only [okE, Bool.and_eq_true, decide_eq_true_eq] at hh
                rcases List.mem_cons.1 hp with rfl | hp
                · exact ⟨hh.1.1, by simp [lk_if]⟩
                · have := ih _ hh.2 p hp
                  exact ⟨by omega, by rw [lk_if, if_neg (by omega)]; exact this.2⟩
            have := key r (m + 1) h.2 _ hn
            dsimp only at this
            rw [lk_if, if_neg (by omega)]
            exact this.2⟩
        · exact ⟨n', h1, by simp [h2], by rw [lk_if, if_neg hm]; exact h3⟩

theorem refs_ofE {nt : Nat} {e : List (Nat × AV)} (h : okE 0 nt e = true) (k : Nat) : (refs.refsL (ofE nt e)).contains k = (refs.refsL (e.map (·.2))).contains k := by
  rw [Bool.eq_iff_iff, List.contains_iff_mem, List.contains_iff_mem, refsL_mem_iff, refsL_mem_iff]
  obtain ⟨_, h2⟩ := okE_lk h
  constructor
  · rintro ⟨a, ha, hk⟩
    unfold ofE at ha
    obtain ⟨n, hn, rfl⟩ := List.mem_map.1 ha
    have : ∀ e : List (Nat × AV), lk e n = .junk ∨ (n, lk e n) ∈ e := by
      intro e
      induction e with
      | nil => exact .inl rfl
      | cons p r ih =>
        obtain ⟨m, v⟩ := p
        rw [lk_if]
        split
        · rename_i hm; subst hm; exact .inr (by simp)
        · rcases ih with ih | ih
          · exact .inl ih
          · exact .inr (by simp [ih])
    rcases this e with h3 | h3
    · rw [h3] at hk; simp [refs] at hk
    · exact ⟨_, List.mem_map.2 ⟨_, h3, rfl⟩, hk⟩
  · rintro ⟨a, ha, hk⟩
    obtain ⟨p, hp, rfl⟩ := List.mem_map.1 ha
    obtain ⟨n, h3, h4, h5⟩ := (h2 p.2).1 ⟨p.1, hp⟩
    exact ⟨_, List.mem_map.2 ⟨n, by simpa using h3, h5⟩, hk⟩

theorem trimGo_congr (base : Nat) {rs rs' : List Nat} (h : ∀ k, rs.contains k = rs'.contains k) : ∀ (k : Nat) (hp : List AO), trimGo base rs k hp = trimGo base rs' k hp
  | 0, hp => rfl
  | k + 1, hp => by
    unfold trimGo
    rw [h k, trimGo_congr base h k]
def trimE (base : Nat) (as : List AV) (h : List AO) : List AO := trimGo base (refs.refsL as) h.length h
@[simp] theorem trim_ofE {nt : Nat} {e : List (Nat × AV)} (hk : okE 0 nt e = true) (base : Nat) (h : List AO) : trim base (ofE nt e) h = trimE base (e.map (·.2)) h := trimGo_congr base (refs_ofE hk) _ _
theorem trimE_eq (base : Nat) (as : List AV) (h : List AO) : trimE base as h = trimGo base (refs.refsL as) h.length h := of_eq_true (eq_true rfl)
@[simp high] theorem trim_same (ts : List AV) (h : List AO) : trim h.length ts h = h := by
  unfold trim
  cases hk : h.length with
  | zero => rfl
  | succ k =>
    unfold trimGo
    simp
@[simp] theorem trim_nil (ts : List AV) : trim 0 ts [] = [] := of_eq_true (eq_true rfl)
@[simp] theorem trimE_nil (as : List AV) : trimE 0 as [] = [] := of_eq_true (eq_true rfl)
@[simp] theorem trimGo_zero (base : Nat) (rs : List Nat) (h : List AO) : trimGo base rs 0 h = h := of_eq_true (eq_true rfl)
@[simp] theorem trimGo_succ (base : Nat) (rs : List Nat) (k : Nat) (h : List AO) : trimGo base rs (k + 1) h = if decide (k < base) || (rs.contains k || (h.flatMap AO.refs).contains k) then h else trimGo base rs k (h.take k) := of_eq_true (eq_true rfl)
attribute [simp] okE

/-! ### guards: the course is parted where a guard is not known -/
section
variable (L : Lay)
/-- One guarded operation, by what its guard holds. -/
noncomputable def opsG (a : AV) (d : Option Nat) (t : Nat) (w : Bool) (o : AOp) (r : List AOr) (nt : Nat) (e : List (Nat × AV)) (h : List AO) : Option St := (guardB a w).bind fun g =>
  (sel g (opC L (callL L) (ofE nt (up e t a)) h o) (some (.tup [], h))).bind fun p => opsC L (callL L) r ⟨putO (ofE nt (up e t a)) d p.1, p.2⟩
section
variable (d : Option Nat) (t : Nat) (w : Bool) (o : AOp) (r : List AOr) (nt : Nat) (e : List (Nat × AV)) (h : List AO)
/-- What a temp holds may be named anew. -/
theorem ofE_same (a : AV) (ha : nth (ofE nt e) t = a) : ofE nt (up e t a) = ofE nt e := by
  rw [← put_ofE, ← ha, put_set', nth_get']
  refine List.ext_getElem? fun k => ?_
  rw [List.getElem?_set]
  split
  · rename_i h; subst h
    split
    · rename_i h2; rw [List.getElem?_eq_getElem h2]; rfl
    · rename_i h2; rw [List.getElem?_eq_none (by omega)]
  · rfl
@[simp ↓ high] theorem opsC_guardE : opsC L (callL L) (⟨d, some (t, w), o⟩ :: r) ⟨ofE nt e, h⟩ = opsG L (nth (ofE nt e) t) d t w o r nt e h := by
  unfold opsG
  rw [ofE_same t nt e _ rfl]
  rfl
@[simp high] theorem opsG_tt : opsG L (.t (.v (.bool true))) d t true o r nt e h = opsK L (opC L (callL L) (ofE nt (up e t (.t (.v (.bool true))))) h o) d r (ofE nt (up e t (.t (.v (.bool true))))) := of_eq_true (eq_true rfl)
@[simp high] theorem opsG_ff : opsG L (.t (.v (.bool false))) d t false o r nt e h = opsK L (opC L (callL L) (ofE nt (up e t (.t (.v (.bool false))))) h o) d r (ofE nt (up e t (.t (.v (.bool false))))) := of_eq_true (eq_true rfl)
@[simp high] theorem opsG_tf : opsG L (.t (.v (.bool true))) d t false o r nt e h = opsK L (some (.tup [], h)) d r (ofE nt (up e t (.t (.v (.bool true))))) := of_eq_true (eq_true rfl)
@[simp high] theorem opsG_ft : opsG L (.t (.v (.bool false))) d t true o r nt e h = opsK L (some (.tup [], h)) d r (ofE nt (up e t (.t (.v (.bool false))))) := of_eq_true (eq_true rfl)
@[simp] theorem opsG_no : opsG L (.tup []) d t w o r nt e h = opsK L (some (.tup [], h)) d r (ofE nt (up e t (.tup []))) := of_eq_true (eq_true rfl)
@[simp] theorem opsG_q (q : Bool) : opsG L (.t (.v (.bool q))) d t w o r nt e h = sel q (W (opsG L (.t (.v (.bool true))) d t w o r nt e h)) (W (opsG L (.t (.v (.bool false))) d t w o r nt e h)) := by cases q <;> rfl
@[simp] theorem opsG_sel (q : Bool) (a b : AV) : opsG L (sel q a b) d t w o r nt e h = sel q (W (opsG L a d t w o r nt e h)) (W (opsG L b d t w o r nt e h)) := by cases q <;> rfl
end
@[simp] theorem regK_W (x : Option St) (kl : List Nat) : regK (W x) kl = W (regK x kl) := rfl
end

section
variable (L : Lay)
theorem callE {f : Nat} {np nt : Nat} {body : AC} {res : List RV} {win : List (Option Nat)} {pur : Bool} (hf : L.F f = some ⟨np, nt, body, res, win, pur, false⟩) {args : List AV} (hn : args.length = np) (hle : Nat.ble np nt = true) (h : List AO) :
    callL L f args h = retK res pur h.length (execL L h.length body ⟨ofE nt (argE 0 args), h⟩) := by
  have := Nat.le_of_ble_eq_true hle
  rw [callL_body L hf hn, ← ofE_args args nt (by omega), hn]
end
end Go.Proofs.YtgehpjjpeddomaaGreatDoor
namespace Go.Proofs.YtgehpjjpeddomaaGreatDoor
open Go
inductive Leaf | b | i (k : IntKind) | s
def Leaf.fits : Leaf → Value → Prop
  | .b, .bool _ => True
  | .i k, .int k' _ => k = k'
  | .s, .string _ => True
  | _, _ => False
def eqV : Value → Value → Bool
  | .bool a, .bool b => a == b
  | .int _ a, .int _ b => decide (a = b)
  | .string a, .string b => a == b
  | _, _ => false
def eqVs : List Value → List Value → Bool
  | x :: xs, y :: ys => eqV x y && eqVs xs ys
  | _, _ => true
def fitsL : List Leaf → List Value → Prop
  | [], [] => True
  | l :: ls, x :: xs => l.fits x ∧ fitsL ls xs
  | _, _ => False
variable (P : Program)
def aggT (t : Nat) : Bool := match P.underlying t with | some (.struct _) => true | some (.array _ _) => true | _ => false
def packT (t : Nat) (xs : List Value) : Value := if aggT P t then .agg xs.toArray else xs.headD .nilFunc
def sizeOk (t n : Nat) : Bool := if aggT P t then decide ((P.info? t).map (·.size) = some n) else n == 1
def planF (rec : Nat → Option (List Leaf)) : List Field → Nat → Option (List Leaf)
  | [], _ => some []
  | f :: r, off => if f.name = "_" ∨ f.offset ≠ off then none else
    (rec f.type).bind fun ls => if sizeOk P f.type ls.length then (planF rec r (off + ls.length)).map (ls ++ ·) else none
def eqPlan : Nat → Nat → Option (List Leaf)
  | 0, _ => none
  | d + 1, t => match P.underlying t with
    | some .bool => some [.b]
    | some (.int k) => some [.i k]
    | some .string => some [.s]
    | some (.struct fs) => if P.stoodInHeld t then none else planF P (eqPlan d) fs.toList 0
    | _ => none
theorem fitsL_len : ∀ {ls xs}, fitsL ls xs → xs.length = ls.length
  | [], [], _ => rfl
  | _ :: _, _ :: _, h => by simp [fitsL_len h.2]
theorem fitsL_app : ∀ {ls ms zs}, fitsL (ls ++ ms) zs → ∃ xs ys, zs = xs ++ ys ∧ fitsL ls xs ∧ fitsL ms ys
  | [], ms, zs, h => ⟨[], zs, rfl, trivial, h⟩
  | l :: ls, ms, z :: zs, h => by
    obtain ⟨xs, ys, e, h1, h2⟩ := fitsL_app (ls := ls) h.2
    exact ⟨z :: xs, ys, by simp [e], ⟨h.1, h1⟩, h2⟩
theorem eqVs_app : ∀ {xs xs' ys ys' : List Value}, xs.length = ys.length → eqVs (xs ++ xs') (ys ++ ys') = (eqVs xs ys && eqVs xs' ys')
  | [], _, [], _, _ => by simp [eqVs]
  | x :: xs, _, y :: ys, _, h => by simp [eqVs, eqVs_app (xs := xs) (ys := ys) (by simpa using h), Bool.and_assoc]

theorem isAgg_run {t : Nat} {u : TypeDesc} (hu : P.underlying t = some u) : runP P (isAgg t) = some (aggT P t) := by
  unfold isAgg aggT
  rw [runP_bind, runP_underlying P hu, Option.bind_some, hu]
  cases u <;> rfl
theorem part_run {t off : Nat} {ls : List Leaf} {pre xs post : List Value} (hu : (P.underlying t).isSome) (ho : pre.length = off) (hx : fitsL ls xs)
    (hl : sizeOk P t ls.length = true) : runP P (part t (pre ++ (xs ++ post)).toArray off) = some (packT P t xs) := by
  obtain ⟨u, hu⟩ := Option.isSome_iff_exists.1 hu
  have hlen := fitsL_len hx
  unfold part packT
  rw [runP_bind, isAgg_run P hu, Option.bind_some]
  unfold sizeOk at hl
  cases ha : aggT P t with
  | true =>
    simp only [ha, if_true, decide_eq_true_eq] at hl ⊢
    have es : runP P (sizeOf t) = some ls.length := by
      unfold sizeOf
      rw [runP_bind]
      cases hi : P.info? t with
      | none => simp [hi] at hl
      | some ti =>
        have hl' : ti.size = ls.length := by simpa [hi] using hl
        have : runP P (typeInfo t) = some ti := by
          unfold typeInfo
          rw [runP_bind, show runP P program = some P from rfl, Option.bind_some, hi]; rfl
        rw [this, Option.bind_some, hl']; rfl
    rw [runP_bind, es, Option.bind_some]
    show some (Value.agg _) = _
    subst ho
    have e2 : (pre ++ (xs ++ post)).toArray.extract pre.length (pre.length + ls.length) = xs.toArray := by
      simp [← hlen]
    rw [e2]
  | false =>
    simp only [ha] at hl ⊢
    simp at hl ⊢
    subst ho
    match xs, hlen.trans hl with
    | [x], _ => simp; rfl

theorem eqPlan_und {d t : Nat} {ls} (h : eqPlan P d t = some ls) : (P.underlying t).isSome := by
  cases d with
  | zero => simp [eqPlan] at h
  | succ d => unfold eqPlan at h; cases hu : P.underlying t <;> simp [hu] at h ⊢
theorem loop_ok (d : Nat) (rec : ∀ (t : Nat) (ls : List Leaf), eqPlan P d t = some ls → ∀ xs ys, fitsL ls xs → fitsL ls ys → runP P (Op.equalIn d t (packT P t xs) (packT P t ys)) = some (eqVs xs ys)) :
    ∀ (r : List Field) (px py xs ys : List Value) (ms : List Leaf), px.length = py.length → planF P (eqPlan P d) r px.length = some ms → fitsL ms xs → fitsL ms ys →
      runP P (forIn r ((none, ()) : Option Bool × Unit) fun f _ =>
            if f.name ≠ "_" then do
              let a ← part f.type (px ++ xs).toArray f.offset
              let b ← part f.type (py ++ ys).toArray f.offset
              let c ← Op.equalIn d f.type a b
              if (!c) = true then pure (ForInStep.done (some false, ())) else pure (ForInStep.yield (none, ()))
            else pure (ForInStep.yield (none, ()))) = some (if eqVs xs ys then (none, ()) else (some false, ()))
  | [], px, py, xs, ys, ms, hp, h, hx, hy => by
    simp only [planF, Option.some.injEq] at h
    subst h
    cases xs with
    | cons _ _ => exact hx.elim
    | nil =>
      cases ys with
      | cons _ _ => exact hy.elim
      | nil => rfl
  | f :: r, px, py, xs, ys, ms, hp, h, hx, hy => by
    simp only [planF] at h
    split at h
    · cases h
    rename_i hn
    obtain ⟨hn1, hn2⟩ := not_or.1 hn
    have hn2 : f.offset = px.length := Decidable.not_not.1 hn2
    obtain ⟨ls, hl, h⟩ := Option.bind_eq_some_iff.1 h
    split at h
    case isFalse => cases h
    rename_i hsz
    obtain ⟨ms', hm, e⟩ := Option.map_eq_some_iff.1 h
    subst e
    obtain ⟨x1, x2, rfl, hx1, hx2⟩ := fitsL_app hx
    obtain ⟨y1, y2, rfl, hy1, hy2⟩ := fitsL_app hy
    have lx := fitsL_len hx1
    have ly := fitsL_len hy1
    rw [List.forIn_cons, runP_bind, if_pos hn1, runP_bind, part_run P (eqPlan_und P hl) hn2.symm hx1 hsz, Option.bind_some, runP_bind, part_run P (eqPlan_und P hl) (hp.symm.trans hn2.symm) hy1 hsz, Option.bind_some, runP_bind, rec _ _ hl _ _ hx1 hy1, Option.bind_some, eqVs_app (by omega)]
    cases eqVs x1 y1 with
    | false => rfl
    | true =>
      have ih := loop_ok d rec r (px ++ x1) (py ++ y1) x2 y2 ms' (by simp; omega) (by simpa [lx] using hm) hx2 hy2
      simp only [List.append_assoc] at ih
      rw [Bool.true_and]
      exact ih

theorem eqIn_ok : ∀ (d t : Nat) (ls : List Leaf), eqPlan P d t = some ls → ∀ xs ys, fitsL ls xs → fitsL ls ys → runP P (Op.equalIn d t (packT P t xs) (packT P t ys)) = some (eqVs xs ys)
  | 0, _, _, h => by simp [eqPlan] at h
  | d + 1, t, ls, h => by
    intro xs ys hx hy
    unfold eqPlan at h
    unfold Op.equalIn
    split at h
    · rename_i hu
      cases h
      have ha : aggT P t = false := by simp [aggT, hu]
      match xs, ys, hx, hy with
      | [.bool a], [.bool b], _, _ =>
        simp only [packT, ha]
        rw [runP_bind, runP_underlying P hu, Option.bind_some]
        simp [eqVs, eqV]; rfl
    · rename_i k hu
      cases h
      have ha : aggT P t = false := by simp [aggT, hu]
      match xs, ys, hx, hy with
      | [.int k1 a], [.int k2 b], hx, hy =>
        have e1 : k = k1 := hx.1
        have e2 : k = k2 := hy.1
        subst e1 e2
        simp only [packT, ha]
        rw [runP_bind, runP_underlying P hu, Option.bind_some]
        simp [eqVs, eqV]; rfl
    · rename_i hu
      cases h
      have ha : aggT P t = false := by simp [aggT, hu]
      match xs, ys, hx, hy with
      | [.string a], [.string b], _, _ =>
        simp only [packT, ha]
        rw [runP_bind, runP_underlying P hu, Option.bind_some]
        simp [eqVs, eqV]; rfl
    · rename_i fs hu
      have ha : aggT P t = true := by simp [aggT, hu]
      simp only [packT, ha, if_true]
      rw [runP_bind, runP_underlying P hu, Option.bind_some]
      split at h
      · cases h
      · rename_i hs
        simp only []
        rw [runP_bind, show runP P program = some P from rfl, Option.bind_some, if_neg hs]
        rw [runP_bind, ← Array.forIn_toList]
        have hl := loop_ok P d (eqIn_ok d) fs.toList [] [] xs ys ls rfl h hx hy
        simp only [List.nil_append] at hl
        rw [hl, Option.bind_some]
        cases eqVs xs ys <;> rfl
    · cases h
theorem flatL_v : ∀ xs : List Value, flatL (xs.map .v) = some xs
  | [] => rfl
  | x :: xs => by simp [flatL, flatL_v xs]
theorem bin_agg_eql {t : Nat} {ls : List Leaf} (hp : eqPlan P Op.maxDepth t = some ls) (hg : P.eqGuardType P.depth t = false) (ha : aggT P t = true) {xs ys : List Value} (hx : fitsL ls xs) (hy : fitsL ls ys) :
    binA P .eql t (.t (.agg (xs.map .v))) (.t (.agg (ys.map .v))) = some (.t (.v (.bool (eqVs xs ys)))) := by
  have h := eqIn_ok P _ _ _ hp _ _ hx hy
  simp only [packT, ha, if_true] at h
  have e : ∀ zs : List Value, Tr.flat (.agg (zs.map .v)) = some (.agg zs.toArray) := fun zs => by simp [Tr.flat, flatL_v]
  unfold binA flat2
  simp only [e, Option.bind_some]
  rw [runP_bind, show runP P (eqGuard .eql t (.tmp 0) (.tmp 0) (.agg xs.toArray) (.agg ys.toArray)) = some () from ?_, Option.bind_some]
  · show (runP P (do pure (Value.bool (← Op.equal t (.agg xs.toArray) (.agg ys.toArray))))).bind ofR = _
    rw [runP_bind, show Op.equal t (.agg xs.toArray) (.agg ys.toArray) = Op.equalIn Op.maxDepth t (.agg xs.toArray) (.agg ys.toArray) from rfl, h]
    rfl
  · show runP P (do if !(← program).eqGuardType (← program).depth t then return
                    if ← Op.eqGuardIn Op.maxDepth t (.agg xs.toArray) (.agg ys.toArray) then unsupported (.noEntry "binop/eql: two nil values of an interface type with methods, in a part of a struct or an array")) = _
    rw [runP_bind, show runP P program = some P from rfl, Option.bind_some, runP_bind, show runP P program = some P from rfl, Option.bind_some, hg]
    rfl
theorem bin_agg_neq {t : Nat} {ls : List Leaf} (hp : eqPlan P Op.maxDepth t = some ls) (hg : P.eqGuardType P.depth t = false) (ha : aggT P t = true) {xs ys : List Value} (hx : fitsL ls xs) (hy : fitsL ls ys) :
    binA P .neq t (.t (.agg (xs.map .v))) (.t (.agg (ys.map .v))) = some (.t (.v (.bool (!eqVs xs ys)))) := by
  have h := eqIn_ok P _ _ _ hp _ _ hx hy
  simp only [packT, ha, if_true] at h
  have e : ∀ zs : List Value, Tr.flat (.agg (zs.map .v)) = some (.agg zs.toArray) := fun zs => by simp [Tr.flat, flatL_v]
  unfold binA flat2
  simp only [e, Option.bind_some]
  rw [runP_bind, show runP P (eqGuard .neq t (.tmp 0) (.tmp 0) (.agg xs.toArray) (.agg ys.toArray)) = some () from ?_, Option.bind_some]
  · show (runP P (do pure (Value.bool (!(← Op.equal t (.agg xs.toArray) (.agg ys.toArray)))))).bind ofR = _
    rw [runP_bind, show Op.equal t (.agg xs.toArray) (.agg ys.toArray) = Op.equalIn Op.maxDepth t (.agg xs.toArray) (.agg ys.toArray) from rfl, h]
    rfl
  · show runP P (do if !(← program).eqGuardType (← program).depth t then return
                    if ← Op.eqGuardIn Op.maxDepth t (.agg xs.toArray) (.agg ys.toArray) then unsupported (.noEntry "binop/eql: two nil values of an interface type with methods, in a part of a struct or an array")) = _
    rw [runP_bind, show runP P program = some P from rfl, Option.bind_some, runP_bind, show runP P program = some P from rfl, Option.bind_some, hg]
    rfl
end Go.Proofs.YtgehpjjpeddomaaGreatDoor
