/- Guards in regions whose order is drawn; a window as the one argument. -/
import Derived.Test.YtgehpjjpeddomaaGreatDoorZCWin
set_option linter.all false
namespace Go.Proofs.YtgehpjjpeddomaaGreatDoor
open Go
set_option maxRecDepth 100000
section
variable (L : Lay) (C : Mean)
noncomputable def opsDz (op : AOp) (h : List AO) (x : Option (St × List (List AO))) : Option (St × List (List AO)) := x.map fun q => (q.1, if op.kind = 2 then h :: q.2 else q.2)
@[simp] theorem opsDz_some (op : AOp) (h : List AO) (s : St) (f : List (List AO)) : opsDz op h (some (s, f)) = some (s, if op.kind = 2 then h :: f else f) := of_eq_true (eq_true rfl)
noncomputable def opsDg (d : Nat × Nat) (dr : List (Nat × Nat)) (dst : Option Nat) (op : AOp) (r : List AOr) (past : List (List AO)) (ts : List AV) (h : List AO) (g : Option Bool) : Option (St × List (List AO)) := g.bind fun g =>
  if g then opsDa L C d dr dst op r past ts h (opC L C ts h op) else opsDz op h (opsD L C dr r (if op.kind = 2 then h :: past else past) ⟨putO ts dst (.tup []), h⟩)
theorem opsD_guard (d : Nat × Nat) (dr : List (Nat × Nat)) (dst : Option Nat) (t : Nat) (w : Bool) (op : AOp) (r : List AOr) (past : List (List AO)) (ts : List AV) (h : List AO) :
    opsD L C (d :: dr) (⟨dst, some (t, w), op⟩ :: r) past ⟨ts, h⟩ = opsDg L C d dr dst op r past ts h (guardB (nth ts t) w) := by
  simp only [opsD, guardOf, opsDg]
  cases guardB (nth ts t) w with
  | none => rfl
  | some g =>
    cases g with
    | true => rfl
    | false =>
      simp only [Option.bind_some, sel, Bool.false_eq_true, if_false, if_true, List.tail_cons]
      cases opsD L C dr r (if op.kind = 2 then h :: past else past) ⟨putO ts dst (.tup []), h⟩ <;> rfl
@[simp] theorem opsDg_true (d : Nat × Nat) (dr : List (Nat × Nat)) (dst : Option Nat) (op : AOp) (r : List AOr) (past : List (List AO)) (ts : List AV) (h : List AO) : opsDg L C d dr dst op r past ts h (some true) = opsDa L C d dr dst op r past ts h (opC L C ts h op) := of_eq_true (eq_true rfl)
@[simp] theorem opsDg_false (d : Nat × Nat) (dr : List (Nat × Nat)) (dst : Option Nat) (op : AOp) (r : List AOr) (past : List (List AO)) (ts : List AV) (h : List AO) : opsDg L C d dr dst op r past ts h (some false) = opsDz op h (opsD L C dr r (if op.kind = 2 then h :: past else past) ⟨putO ts dst (.tup []), h⟩) := of_eq_true (eq_true rfl)
end
section
variable (L : Lay) (C : Mean)
/-- A call whose one argument was a window: it is frozen first. -/
noncomputable def callW (f : Nat) (p : AV × List AO) : Option (AV × List AO) := doCall L C f [p.1] p.2
@[simp] theorem callW_t (f : Nat) (x : Tr) (h : List AO) : callW L C f (.t x, h) = doCall L C f [.t x] h := of_eq_true (eq_true rfl)
theorem doCall_win1 {f : Nat} {af : AFun} (hf : L.F f = some af) (hw : af.win = []) (r v n : Nat) (h : List AO) : doCall L C f [.win r v n] h = callW L C f (frz (.win r v n) h) := by
  have key : frz (frz (.win r v n) h).1 (frz (.win r v n) h).2 = frz (.win r v n) h := by
    unfold frz
    cases hz : fz (.win r v n) h with
    | none => simp only [hz]
    | some p => rfl
  unfold callW doCall
  rw [hf]
  simp only [hw, coerce, key, List.length_cons, List.length_nil]
end
@[simp] theorem guardB_b (q w : Bool) : guardB (.t (.v (.bool q))) w = some (q == w) := by cases q <;> cases w <;> rfl
@[simp] theorem guardB_no (w : Bool) : guardB (.tup []) w = some false := of_eq_true (eq_true rfl)
end Go.Proofs.YtgehpjjpeddomaaGreatDoor
