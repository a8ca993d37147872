/- Contracts of the reference for shape: one instruction, by what stands behind it (laid by a program, part 3). -/
import Derived.Test.YtgehpjjpeddomaaGreatDoorZCRefOne0
set_option linter.all false
namespace Go.Proofs.YtgehpjjpeddomaaGreatDoor
open Go
set_option maxRecDepth 100000

set_option maxHeartbeats 4000000 in
theorem r_one_21 (i : Ins) (hl : lenOk i.l) (hkn : knownS i.op = true) (h : immS i.op = 21) : callL LG fn_bodkinref09_One [.t i.enc] [] = some (.t (.v (.bool ((decide ((21 : Int) = 1) || (!decide (0 < i.body.length) && !decide (0 < i.els.length) && !i.other)) && rOneK 21 i))), []) := by
  rw [callE LG rfl rfl rfl]
  have ho := c_Of i.op
  rw [ofS_known hkn, h] at ho
  have h0 : ¬ i.op < 0 := by have := known_nonneg hkn; omega
  have hv := r_vals i.l hl
  have hi1 := r_indexes i.l hl 256
  have hi2 := r_indexes i.l hl 4294967296
  rw [show (i.l.all fun n => !decide (n < 0) && !decide (256 ≤ n)) = rIdx 256 i.l from rfl] at hi1
  rw [show (i.l.all fun n => !decide (n < 0) && !decide (4294967296 ≤ n)) = rIdx 4294967296 i.l from rfl] at hi2
  have hz : ((i.l.length : Int) = 0) = (i.l.length = 0) := by apply propext; omega
  have h1 : ((i.l.length : Int) = 1) = (i.l.length = 1) := by apply propext; omega
  have h16 : ((i.l.length : Int) = 16) = (i.l.length = 16) := by apply propext; omega
  simp [ho, h0, hv, hi1, hi2, r_index, r_ref, r_val, hz, h1, h16, rOneK, rFin, Bool.and_assoc]


set_option maxHeartbeats 4000000 in
theorem r_one_22 (i : Ins) (hl : lenOk i.l) (hkn : knownS i.op = true) (h : immS i.op = 22) : callL LG fn_bodkinref09_One [.t i.enc] [] = some (.t (.v (.bool ((decide ((22 : Int) = 1) || (!decide (0 < i.body.length) && !decide (0 < i.els.length) && !i.other)) && rOneK 22 i))), []) := by
  rw [callE LG rfl rfl rfl]
  have ho := c_Of i.op
  rw [ofS_known hkn, h] at ho
  have h0 : ¬ i.op < 0 := by have := known_nonneg hkn; omega
  have hv := r_vals i.l hl
  have hi1 := r_indexes i.l hl 256
  have hi2 := r_indexes i.l hl 4294967296
  rw [show (i.l.all fun n => !decide (n < 0) && !decide (256 ≤ n)) = rIdx 256 i.l from rfl] at hi1
  rw [show (i.l.all fun n => !decide (n < 0) && !decide (4294967296 ≤ n)) = rIdx 4294967296 i.l from rfl] at hi2
  have hz : ((i.l.length : Int) = 0) = (i.l.length = 0) := by apply propext; omega
  have h1 : ((i.l.length : Int) = 1) = (i.l.length = 1) := by apply propext; omega
  have h16 : ((i.l.length : Int) = 16) = (i.l.length = 16) := by apply propext; omega
  simp [ho, h0, hv, hi1, hi2, r_index, r_ref, r_val, hz, h1, h16, rOneK, rFin, Bool.and_assoc]


set_option maxHeartbeats 4000000 in
theorem r_one_23 (i : Ins) (hl : lenOk i.l) (hkn : knownS i.op = true) (h : immS i.op = 23) : callL LG fn_bodkinref09_One [.t i.enc] [] = some (.t (.v (.bool ((decide ((23 : Int) = 1) || (!decide (0 < i.body.length) && !decide (0 < i.els.length) && !i.other)) && rOneK 23 i))), []) := by
  rw [callE LG rfl rfl rfl]
  have ho := c_Of i.op
  rw [ofS_known hkn, h] at ho
  have h0 : ¬ i.op < 0 := by have := known_nonneg hkn; omega
  have hv := r_vals i.l hl
  have hi1 := r_indexes i.l hl 256
  have hi2 := r_indexes i.l hl 4294967296
  rw [show (i.l.all fun n => !decide (n < 0) && !decide (256 ≤ n)) = rIdx 256 i.l from rfl] at hi1
  rw [show (i.l.all fun n => !decide (n < 0) && !decide (4294967296 ≤ n)) = rIdx 4294967296 i.l from rfl] at hi2
  have hz : ((i.l.length : Int) = 0) = (i.l.length = 0) := by apply propext; omega
  have h1 : ((i.l.length : Int) = 1) = (i.l.length = 1) := by apply propext; omega
  have h16 : ((i.l.length : Int) = 16) = (i.l.length = 16) := by apply propext; omega
  simp [ho, h0, hv, hi1, hi2, r_index, r_ref, r_val, hz, h1, h16, rOneK, rFin, Bool.and_assoc]


set_option maxHeartbeats 4000000 in
theorem r_one_24 (i : Ins) (hl : lenOk i.l) (hkn : knownS i.op = true) (h : immS i.op = 24) : callL LG fn_bodkinref09_One [.t i.enc] [] = some (.t (.v (.bool ((decide ((24 : Int) = 1) || (!decide (0 < i.body.length) && !decide (0 < i.els.length) && !i.other)) && rOneK 24 i))), []) := by
  rw [callE LG rfl rfl rfl]
  have ho := c_Of i.op
  rw [ofS_known hkn, h] at ho
  have h0 : ¬ i.op < 0 := by have := known_nonneg hkn; omega
  have hv := r_vals i.l hl
  have hi1 := r_indexes i.l hl 256
  have hi2 := r_indexes i.l hl 4294967296
  rw [show (i.l.all fun n => !decide (n < 0) && !decide (256 ≤ n)) = rIdx 256 i.l from rfl] at hi1
  rw [show (i.l.all fun n => !decide (n < 0) && !decide (4294967296 ≤ n)) = rIdx 4294967296 i.l from rfl] at hi2
  have hz : ((i.l.length : Int) = 0) = (i.l.length = 0) := by apply propext; omega
  have h1 : ((i.l.length : Int) = 1) = (i.l.length = 1) := by apply propext; omega
  have h16 : ((i.l.length : Int) = 16) = (i.l.length = 16) := by apply propext; omega
  simp [ho, h0, hv, hi1, hi2, r_index, r_ref, r_val, hz, h1, h16, rOneK, rFin, Bool.and_assoc]


set_option maxHeartbeats 4000000 in
theorem r_one_25 (i : Ins) (hl : lenOk i.l) (hkn : knownS i.op = true) (h : immS i.op = 25) : callL LG fn_bodkinref09_One [.t i.enc] [] = some (.t (.v (.bool ((decide ((25 : Int) = 1) || (!decide (0 < i.body.length) && !decide (0 < i.els.length) && !i.other)) && rOneK 25 i))), []) := by
  rw [callE LG rfl rfl rfl]
  have ho := c_Of i.op
  rw [ofS_known hkn, h] at ho
  have h0 : ¬ i.op < 0 := by have := known_nonneg hkn; omega
  have hv := r_vals i.l hl
  have hi1 := r_indexes i.l hl 256
  have hi2 := r_indexes i.l hl 4294967296
  rw [show (i.l.all fun n => !decide (n < 0) && !decide (256 ≤ n)) = rIdx 256 i.l from rfl] at hi1
  rw [show (i.l.all fun n => !decide (n < 0) && !decide (4294967296 ≤ n)) = rIdx 4294967296 i.l from rfl] at hi2
  have hz : ((i.l.length : Int) = 0) = (i.l.length = 0) := by apply propext; omega
  have h1 : ((i.l.length : Int) = 1) = (i.l.length = 1) := by apply propext; omega
  have h16 : ((i.l.length : Int) = 16) = (i.l.length = 16) := by apply propext; omega
  simp [ho, h0, hv, hi1, hi2, r_index, r_ref, r_val, hz, h1, h16, rOneK, rFin, Bool.and_assoc]


set_option maxHeartbeats 4000000 in
theorem r_one_26 (i : Ins) (hl : lenOk i.l) (hkn : knownS i.op = true) (h : immS i.op = 26) : callL LG fn_bodkinref09_One [.t i.enc] [] = some (.t (.v (.bool ((decide ((26 : Int) = 1) || (!decide (0 < i.body.length) && !decide (0 < i.els.length) && !i.other)) && rOneK 26 i))), []) := by
  rw [callE LG rfl rfl rfl]
  have ho := c_Of i.op
  rw [ofS_known hkn, h] at ho
  have h0 : ¬ i.op < 0 := by have := known_nonneg hkn; omega
  have hv := r_vals i.l hl
  have hi1 := r_indexes i.l hl 256
  have hi2 := r_indexes i.l hl 4294967296
  rw [show (i.l.all fun n => !decide (n < 0) && !decide (256 ≤ n)) = rIdx 256 i.l from rfl] at hi1
  rw [show (i.l.all fun n => !decide (n < 0) && !decide (4294967296 ≤ n)) = rIdx 4294967296 i.l from rfl] at hi2
  have hz : ((i.l.length : Int) = 0) = (i.l.length = 0) := by apply propext; omega
  have h1 : ((i.l.length : Int) = 1) = (i.l.length = 1) := by apply propext; omega
  have h16 : ((i.l.length : Int) = 16) = (i.l.length = 16) := by apply propext; omega
  simp [ho, h0, hv, hi1, hi2, r_index, r_ref, r_val, hz, h1, h16, rOneK, rFin, Bool.and_assoc]

end Go.Proofs.YtgehpjjpeddomaaGreatDoor
