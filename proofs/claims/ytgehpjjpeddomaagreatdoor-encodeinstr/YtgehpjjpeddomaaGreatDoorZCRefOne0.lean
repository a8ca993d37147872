/- Parts, one behind the other; the last: Contracts of the reference for shape: one instruction, by what stands behind it (laid by a program, part 0). -/
import Derived.Test.YtgehpjjpeddomaaGreatDoorZCRef09b
import Derived.Test.YtgehpjjpeddomaaGreatDoorZCShape2
set_option linter.all false
/- Contracts of the reference for shape: what one instruction may be. -/
namespace Go.Proofs.YtgehpjjpeddomaaGreatDoor
open Go
set_option maxRecDepth 100000

theorem known_nonneg {op : Int} (h : knownS op = true) : 0 ≤ op := by
  unfold knownS at h
  by_cases h0 : 0 ≤ op
  · exact h0
  · have : rowS op = [] := by
      unfold rowS
      rw [if_neg (by omega), if_neg (by omega), if_neg (by omega)]
    rw [this] at h
    simp at h

def rIdx (m : Int) (l : List Int) : Bool := l.all fun n => !decide (n < 0) && !decide (m ≤ n)
def rFin (i : Ins) (ok ua ub un uh : Bool) : Bool := ok && (ua || decide (i.a = 0)) && (ub || decide (i.b = 0)) && (un || decide (i.n = 0)) && (uh || decide (i.h = 0))
def rOneK (k : Int) (i : Ins) : Bool :=
  if k = 0 ∨ k = 11 ∨ k = 19 then rFin i (decide (i.l.length = 0)) false false false false
  else if k = 1 then rFin i (decide (i.l.length = 0) && (decide (i.a = 0) && decide (i.b = 0) || decide (i.a = 1) && rVal i.b || decide (i.a = 2) && rIndex i.b) && (decide (i.op = 4) || !i.other) && (i.other || decide (i.els.length = 0))) true true false false
  else if k = 2 ∨ k = 4 ∨ k = 7 ∨ k = 8 ∨ k = 9 ∨ k = 17 ∨ k = 18 ∨ k = 21 then rFin i (rIndex i.a && decide (i.l.length = 0)) true false false false
  else if k = 3 then rFin i (rIndex i.a && rIdx 4294967296 i.l) true false false false
  else if k = 5 ∨ k = 20 ∨ k = 22 ∨ k = 10 then rFin i (rIndex i.a && rIndex i.b && decide (i.l.length = 0)) true true false false
  else if k = 26 then rFin i (rIndex i.a && rIndex i.b && decide (i.l.length = 1) && rIdx 256 i.l) true true false false
  else if k = 6 then rFin i (i.l.all rVal) false false false false
  else if k = 12 ∨ k = 14 then rFin i (decide (i.n < 4294967296) && decide (i.l.length = 0)) false false true false
  else if k = 13 ∨ k = 15 then rFin i (decide (i.l.length = 0)) false false true false
  else if k = 23 then rFin i (decide (i.l.length = 0)) false false true true
  else if k = 16 then rFin i (rRef i.a && decide (i.l.length = 0)) true false false false
  else if k = 24 then rFin i (decide (i.l.length = 16) && rIdx 256 i.l) false false false false
  else if k = 25 then rFin i (decide (0 ≤ i.a) && decide (i.a < 256) && decide (i.l.length = 0)) true false false false
  else false
def rOne (i : Ins) : Bool := knownS i.op && ((decide (immS i.op = 1) || (!decide (0 < i.body.length) && !decide (0 < i.els.length) && !i.other)) && rOneK (immS i.op) i)

theorem ofS_known {op : Int} (h : knownS op = true) : ofS op = rowR op (partS op 0) (immS op) (takesS op) (leavesS op) (fixedS op) := by simp [ofS, h]
theorem ofS_none {op : Int} (h : knownS op = false) : ofS op = rowR (-1) [] 0 [] [] false := by simp [ofS, h]

end Go.Proofs.YtgehpjjpeddomaaGreatDoor
/- Contracts of the reference for shape: one instruction, by what stands behind it (laid by a program, part 0). -/
namespace Go.Proofs.YtgehpjjpeddomaaGreatDoor
open Go
set_option maxRecDepth 100000

set_option maxHeartbeats 4000000 in
theorem r_one_0 (i : Ins) (hl : lenOk i.l) (hkn : knownS i.op = true) (h : immS i.op = 0) : callL LG fn_bodkinref09_One [.t i.enc] [] = some (.t (.v (.bool ((decide ((0 : Int) = 1) || (!decide (0 < i.body.length) && !decide (0 < i.els.length) && !i.other)) && rOneK 0 i))), []) := by
  rw [callE LG rfl rfl rfl]
  have ho := c_Of i.op
  rw [ofS_known hkn, h] at ho
  have h0 : ¬ i.op < 0 := by have := known_nonneg hkn; omega
  have hv := r_vals i.l hl
  have hi1 := r_indexes i.l hl 256
  have hi2 := r_indexes i.l hl 4294967296
  rw [show (i.l.all fun n => !decide (n < 0) && !decide (256 ≤ n)) = rIdx 256 i.l from rfl] at hi1
  rw [show (i.l.all fun n => !decide (n < 0) && !decide (4294967296 ≤ n)) = rIdx 4294967296 i.l from rfl] at hi2
  have hz : ((i.l.length : Int) = 0) = (i.l.length = 0) := by apply propext; omega
  have h1 : ((i.l.length : Int) = 1) = (i.l.length = 1) := by apply propext; omega
  have h16 : ((i.l.length : Int) = 16) = (i.l.length = 16) := by apply propext; omega
  simp [ho, h0, hv, hi1, hi2, r_index, r_ref, r_val, hz, h1, h16, rOneK, rFin, Bool.and_assoc]


set_option maxHeartbeats 4000000 in
theorem r_one_1 (i : Ins) (hl : lenOk i.l) (hkn : knownS i.op = true) (h : immS i.op = 1) : callL LG fn_bodkinref09_One [.t i.enc] [] = some (.t (.v (.bool ((decide ((1 : Int) = 1) || (!decide (0 < i.body.length) && !decide (0 < i.els.length) && !i.other)) && rOneK 1 i))), []) := by
  rw [callE LG rfl rfl rfl]
  have ho := c_Of i.op
  rw [ofS_known hkn, h] at ho
  have h0 : ¬ i.op < 0 := by have := known_nonneg hkn; omega
  have hv := r_vals i.l hl
  have hi1 := r_indexes i.l hl 256
  have hi2 := r_indexes i.l hl 4294967296
  rw [show (i.l.all fun n => !decide (n < 0) && !decide (256 ≤ n)) = rIdx 256 i.l from rfl] at hi1
  rw [show (i.l.all fun n => !decide (n < 0) && !decide (4294967296 ≤ n)) = rIdx 4294967296 i.l from rfl] at hi2
  have hz : ((i.l.length : Int) = 0) = (i.l.length = 0) := by apply propext; omega
  have h1 : ((i.l.length : Int) = 1) = (i.l.length = 1) := by apply propext; omega
  have h16 : ((i.l.length : Int) = 16) = (i.l.length = 16) := by apply propext; omega
  simp [ho, h0, hv, hi1, hi2, r_index, r_ref, r_val, hz, h1, h16, rOneK, rFin]
  generalize decide (i.a = 0) = x1
  generalize decide (i.a = 1) = x2
  generalize decide (i.a = 2) = x3
  generalize decide (i.b = 0) = x4
  generalize decide (i.op = 4) = x5
  generalize decide (i.els = []) = x6
  generalize rVal i.b = x7
  generalize rIndex i.b = x8
  generalize decide (i.l = []) = x9
  generalize i.other = x0
  generalize decide (i.n = 0) = y1
  generalize decide (i.h = 0) = y2
  cases y1 <;> cases y2 <;> simp
  revert x0 x1 x2 x3 x4 x5 x6 x7 x8 x9
  decide


set_option maxHeartbeats 4000000 in
theorem r_one_2 (i : Ins) (hl : lenOk i.l) (hkn : knownS i.op = true) (h : immS i.op = 2) : callL LG fn_bodkinref09_One [.t i.enc] [] = some (.t (.v (.bool ((decide ((2 : Int) = 1) || (!decide (0 < i.body.length) && !decide (0 < i.els.length) && !i.other)) && rOneK 2 i))), []) := by
  rw [callE LG rfl rfl rfl]
  have ho := c_Of i.op
  rw [ofS_known hkn, h] at ho
  have h0 : ¬ i.op < 0 := by have := known_nonneg hkn; omega
  have hv := r_vals i.l hl
  have hi1 := r_indexes i.l hl 256
  have hi2 := r_indexes i.l hl 4294967296
  rw [show (i.l.all fun n => !decide (n < 0) && !decide (256 ≤ n)) = rIdx 256 i.l from rfl] at hi1
  rw [show (i.l.all fun n => !decide (n < 0) && !decide (4294967296 ≤ n)) = rIdx 4294967296 i.l from rfl] at hi2
  have hz : ((i.l.length : Int) = 0) = (i.l.length = 0) := by apply propext; omega
  have h1 : ((i.l.length : Int) = 1) = (i.l.length = 1) := by apply propext; omega
  have h16 : ((i.l.length : Int) = 16) = (i.l.length = 16) := by apply propext; omega
  simp [ho, h0, hv, hi1, hi2, r_index, r_ref, r_val, hz, h1, h16, rOneK, rFin, Bool.and_assoc]


set_option maxHeartbeats 4000000 in
theorem r_one_3 (i : Ins) (hl : lenOk i.l) (hkn : knownS i.op = true) (h : immS i.op = 3) : callL LG fn_bodkinref09_One [.t i.enc] [] = some (.t (.v (.bool ((decide ((3 : Int) = 1) || (!decide (0 < i.body.length) && !decide (0 < i.els.length) && !i.other)) && rOneK 3 i))), []) := by
  rw [callE LG rfl rfl rfl]
  have ho := c_Of i.op
  rw [ofS_known hkn, h] at ho
  have h0 : ¬ i.op < 0 := by have := known_nonneg hkn; omega
  have hv := r_vals i.l hl
  have hi1 := r_indexes i.l hl 256
  have hi2 := r_indexes i.l hl 4294967296
  rw [show (i.l.all fun n => !decide (n < 0) && !decide (256 ≤ n)) = rIdx 256 i.l from rfl] at hi1
  rw [show (i.l.all fun n => !decide (n < 0) && !decide (4294967296 ≤ n)) = rIdx 4294967296 i.l from rfl] at hi2
  have hz : ((i.l.length : Int) = 0) = (i.l.length = 0) := by apply propext; omega
  have h1 : ((i.l.length : Int) = 1) = (i.l.length = 1) := by apply propext; omega
  have h16 : ((i.l.length : Int) = 16) = (i.l.length = 16) := by apply propext; omega
  simp [ho, h0, hv, hi1, hi2, r_index, r_ref, r_val, hz, h1, h16, rOneK, rFin, Bool.and_assoc]


set_option maxHeartbeats 4000000 in
theorem r_one_4 (i : Ins) (hl : lenOk i.l) (hkn : knownS i.op = true) (h : immS i.op = 4) : callL LG fn_bodkinref09_One [.t i.enc] [] = some (.t (.v (.bool ((decide ((4 : Int) = 1) || (!decide (0 < i.body.length) && !decide (0 < i.els.length) && !i.other)) && rOneK 4 i))), []) := by
  rw [callE LG rfl rfl rfl]
  have ho := c_Of i.op
  rw [ofS_known hkn, h] at ho
  have h0 : ¬ i.op < 0 := by have := known_nonneg hkn; omega
  have hv := r_vals i.l hl
  have hi1 := r_indexes i.l hl 256
  have hi2 := r_indexes i.l hl 4294967296
  rw [show (i.l.all fun n => !decide (n < 0) && !decide (256 ≤ n)) = rIdx 256 i.l from rfl] at hi1
  rw [show (i.l.all fun n => !decide (n < 0) && !decide (4294967296 ≤ n)) = rIdx 4294967296 i.l from rfl] at hi2
  have hz : ((i.l.length : Int) = 0) = (i.l.length = 0) := by apply propext; omega
  have h1 : ((i.l.length : Int) = 1) = (i.l.length = 1) := by apply propext; omega
  have h16 : ((i.l.length : Int) = 16) = (i.l.length = 16) := by apply propext; omega
  simp [ho, h0, hv, hi1, hi2, r_index, r_ref, r_val, hz, h1, h16, rOneK, rFin, Bool.and_assoc]


set_option maxHeartbeats 4000000 in
theorem r_one_5 (i : Ins) (hl : lenOk i.l) (hkn : knownS i.op = true) (h : immS i.op = 5) : callL LG fn_bodkinref09_One [.t i.enc] [] = some (.t (.v (.bool ((decide ((5 : Int) = 1) || (!decide (0 < i.body.length) && !decide (0 < i.els.length) && !i.other)) && rOneK 5 i))), []) := by
  rw [callE LG rfl rfl rfl]
  have ho := c_Of i.op
  rw [ofS_known hkn, h] at ho
  have h0 : ¬ i.op < 0 := by have := known_nonneg hkn; omega
  have hv := r_vals i.l hl
  have hi1 := r_indexes i.l hl 256
  have hi2 := r_indexes i.l hl 4294967296
  rw [show (i.l.all fun n => !decide (n < 0) && !decide (256 ≤ n)) = rIdx 256 i.l from rfl] at hi1
  rw [show (i.l.all fun n => !decide (n < 0) && !decide (4294967296 ≤ n)) = rIdx 4294967296 i.l from rfl] at hi2
  have hz : ((i.l.length : Int) = 0) = (i.l.length = 0) := by apply propext; omega
  have h1 : ((i.l.length : Int) = 1) = (i.l.length = 1) := by apply propext; omega
  have h16 : ((i.l.length : Int) = 16) = (i.l.length = 16) := by apply propext; omega
  simp [ho, h0, hv, hi1, hi2, r_index, r_ref, r_val, hz, h1, h16, rOneK, rFin, Bool.and_assoc]


set_option maxHeartbeats 4000000 in
theorem r_one_6 (i : Ins) (hl : lenOk i.l) (hkn : knownS i.op = true) (h : immS i.op = 6) : callL LG fn_bodkinref09_One [.t i.enc] [] = some (.t (.v (.bool ((decide ((6 : Int) = 1) || (!decide (0 < i.body.length) && !decide (0 < i.els.length) && !i.other)) && rOneK 6 i))), []) := by
  rw [callE LG rfl rfl rfl]
  have ho := c_Of i.op
  rw [ofS_known hkn, h] at ho
  have h0 : ¬ i.op < 0 := by have := known_nonneg hkn; omega
  have hv := r_vals i.l hl
  have hi1 := r_indexes i.l hl 256
  have hi2 := r_indexes i.l hl 4294967296
  rw [show (i.l.all fun n => !decide (n < 0) && !decide (256 ≤ n)) = rIdx 256 i.l from rfl] at hi1
  rw [show (i.l.all fun n => !decide (n < 0) && !decide (4294967296 ≤ n)) = rIdx 4294967296 i.l from rfl] at hi2
  have hz : ((i.l.length : Int) = 0) = (i.l.length = 0) := by apply propext; omega
  have h1 : ((i.l.length : Int) = 1) = (i.l.length = 1) := by apply propext; omega
  have h16 : ((i.l.length : Int) = 16) = (i.l.length = 16) := by apply propext; omega
  simp [ho, h0, hv, hi1, hi2, r_index, r_ref, r_val, hz, h1, h16, rOneK, rFin, Bool.and_assoc]

end Go.Proofs.YtgehpjjpeddomaaGreatDoor
