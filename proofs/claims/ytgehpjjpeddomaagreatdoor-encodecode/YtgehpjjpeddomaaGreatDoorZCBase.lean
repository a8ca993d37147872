/- Contracts of functions: how a call on plain data is used, whatever the heap is. -/
import Derived.Test.YtgehpjjpeddomaaGreatDoorZEvLoops
import Derived.Test.YtgehpjjpeddomaaGreatDoorZEvChk
import Derived.Test.YtgehpjjpeddomaaGreatDoorZEvGc
import Derived.KernelRfl
set_option linter.all false
namespace Go.Proofs.YtgehpjjpeddomaaGreatDoor
open Go

/-- A value that leads nowhere. -/
def AV.closed : AV → Bool
  | .t _ => true
  | .ip _ => true
  | .clo _ a b => closedL a && closedL b
  | _ => false
where
  closedL : List AV → Bool
    | [] => true
    | x :: r => x.closed && closedL r

mutual
theorem closed_refs : ∀ {a : AV}, a.closed = true → refs a = []
  | .t _, _ => rfl
  | .ip _, _ => rfl
  | .clo _ a b, h => by
    simp only [AV.closed, Bool.and_eq_true] at h
    simp only [refs, closedL_refs h.1, closedL_refs h.2, List.append_nil]
theorem closedL_refs : ∀ {l : List AV}, AV.closed.closedL l = true → refs.refsL l = []
  | [], _ => rfl
  | x :: r, h => by
    simp only [AV.closed.closedL, Bool.and_eq_true] at h
    simp only [refs.refsL, closed_refs h.1, closedL_refs h.2, List.append_nil]
end

theorem closed_frz {a : AV} (h : a.closed = true) (H : List AO) : frz a H = (a, H) := by
  cases a <;> first | rfl | cases h

theorem closed_coerce : ∀ {l : List AV} (h : AV.closed.closedL l = true) (H : List AO), coerce l [] H = (l, H)
  | [], _, _ => rfl
  | x :: r, h, H => by
    simp only [AV.closed.closedL, Bool.and_eq_true] at h
    simp only [coerce, closed_frz h.1, closed_coerce h.2]

theorem closedL_ren {l : List AV} (h : AV.closed.closedL l = true) (ρ : Nat → Nat) : ren.renL ρ l = l := renL_eq ρ l fun r hr => by rw [closedL_refs h] at hr; simp at hr

section
variable {L : Lay} {C : Mean}

theorem reach_none (H : List AO) (k : Nat) : reach H k [] [] = some [] := by cases k <;> rfl

/-- A call on plain data. -/
theorem doCall_pure {f : Nat} {af : AFun} {args : List AV} {r : AV} (hf : L.F f = some af) (hw : af.win = []) (hc : AV.closed.closedL args = true) (hr : r.closed = true) (h : C f args [] = some (r, [])) (H : List AO) :
    doCall L C f args H = some (r, H) := by
  unfold doCall
  rw [hf]
  simp only [hw, closed_coerce hc, closedL_refs hc, reach_none, Option.bind_some, closedL_ren hc, pick, List.map_nil, h, List.length_nil, Nat.le_refl, if_true, back, List.append_nil]
  rw [ren_eq _ _ fun x hx => by rw [closed_refs hr] at hx; simp at hx]

end

/-! ### integers in range -/
def tI (n : Int) : Tr := .v (.int .i64 n)
def tU (n : Int) : Tr := .v (.int .u64 n)
def tB (b : Bool) : Tr := .v (.bool b)
def tS (s : List UInt8) : Tr := .v (.string ⟨s.toArray⟩)
end Go.Proofs.YtgehpjjpeddomaaGreatDoor
