/- Contracts of the reference for shape: one instruction, by what stands behind it (laid by a program, part 1). -/
import Derived.Test.YtgehpjjpeddomaaGreatDoorZCRefOne0
set_option linter.all false
namespace Go.Proofs.YtgehpjjpeddomaaGreatDoor
open Go
set_option maxRecDepth 100000

set_option maxHeartbeats 4000000 in
theorem r_one_7 (i : Ins) (hl : lenOk i.l) (hkn : knownS i.op = true) (h : immS i.op = 7) : callL LG fn_bodkinref09_One [.t i.enc] [] = some (.t (.v (.bool ((decide ((7 : Int) = 1) || (!decide (0 < i.body.length) && !decide (0 < i.els.length) && !i.other)) && rOneK 7 i))), []) := by
  rw [callE LG rfl rfl rfl]
  have ho := c_Of i.op
  rw [ofS_known hkn, h] at ho
  have h0 : ¬ i.op < 0 := by have := known_nonneg hkn; omega
  have hv := r_vals i.l hl
  have hi1 := r_indexes i.l hl 256
  have hi2 := r_indexes i.l hl 4294967296
  rw [show (i.l.all fun n => !decide (n < 0) && !decide (256 ≤ n)) = rIdx 256 i.l from rfl] at hi1
  rw [show (i.l.all fun n => !decide (n < 0) && !decide (4294967296 ≤ n)) = rIdx 4294967296 i.l from rfl] at hi2
  have hz : ((i.l.length : Int) = 0) = (i.l.length = 0) := by apply propext; omega
  have h1 : ((i.l.length : Int) = 1) = (i.l.length = 1) := by apply propext; omega
  have h16 : ((i.l.length : Int) = 16) = (i.l.length = 16) := by apply propext; omega
  simp [ho, h0, hv, hi1, hi2, r_index, r_ref, r_val, hz, h1, h16, rOneK, rFin, Bool.and_assoc]


set_option maxHeartbeats 4000000 in
theorem r_one_8 (i : Ins) (hl : lenOk i.l) (hkn : knownS i.op = true) (h : immS i.op = 8) : callL LG fn_bodkinref09_One [.t i.enc] [] = some (.t (.v (.bool ((decide ((8 : Int) = 1) || (!decide (0 < i.body.length) && !decide (0 < i.els.length) && !i.other)) && rOneK 8 i))), []) := by
  rw [callE LG rfl rfl rfl]
  have ho := c_Of i.op
  rw [ofS_known hkn, h] at ho
  have h0 : ¬ i.op < 0 := by have := known_nonneg hkn; omega
  have hv := r_vals i.l hl
  have hi1 := r_indexes i.l hl 256
  have hi2 := r_indexes i.l hl 4294967296
  rw [show (i.l.all fun n => !decide (n < 0) && !decide (256 ≤ n)) = rIdx 256 i.l from rfl] at hi1
  rw [show (i.l.all fun n => !decide (n < 0) && !decide (4294967296 ≤ n)) = rIdx 4294967296 i.l from rfl] at hi2
  have hz : ((i.l.length : Int) = 0) = (i.l.length = 0) := by apply propext; omega
  have h1 : ((i.l.length : Int) = 1) = (i.l.length = 1) := by apply propext; omega
  have h16 : ((i.l.length : Int) = 16) = (i.l.length = 16) := by apply propext; omega
  simp [ho, h0, hv, hi1, hi2, r_index, r_ref, r_val, hz, h1, h16, rOneK, rFin, Bool.and_assoc]


set_option maxHeartbeats 4000000 in
theorem r_one_9 (i : Ins) (hl : lenOk i.l) (hkn : knownS i.op = true) (h : immS i.op = 9) : callL LG fn_bodkinref09_One [.t i.enc] [] = some (.t (.v (.bool ((decide ((9 : Int) = 1) || (!decide (0 < i.body.length) && !decide (0 < i.els.length) && !i.other)) && rOneK 9 i))), []) := by
  rw [callE LG rfl rfl rfl]
  have ho := c_Of i.op
  rw [ofS_known hkn, h] at ho
  have h0 : ¬ i.op < 0 := by have := known_nonneg hkn; omega
  have hv := r_vals i.l hl
  have hi1 := r_indexes i.l hl 256
  have hi2 := r_indexes i.l hl 4294967296
  rw [show (i.l.all fun n => !decide (n < 0) && !decide (256 ≤ n)) = rIdx 256 i.l from rfl] at hi1
  rw [show (i.l.all fun n => !decide (n < 0) && !decide (4294967296 ≤ n)) = rIdx 4294967296 i.l from rfl] at hi2
  have hz : ((i.l.length : Int) = 0) = (i.l.length = 0) := by apply propext; omega
  have h1 : ((i.l.length : Int) = 1) = (i.l.length = 1) := by apply propext; omega
  have h16 : ((i.l.length : Int) = 16) = (i.l.length = 16) := by apply propext; omega
  simp [ho, h0, hv, hi1, hi2, r_index, r_ref, r_val, hz, h1, h16, rOneK, rFin, Bool.and_assoc]


set_option maxHeartbeats 4000000 in
theorem r_one_10 (i : Ins) (hl : lenOk i.l) (hkn : knownS i.op = true) (h : immS i.op = 10) : callL LG fn_bodkinref09_One [.t i.enc] [] = some (.t (.v (.bool ((decide ((10 : Int) = 1) || (!decide (0 < i.body.length) && !decide (0 < i.els.length) && !i.other)) && rOneK 10 i))), []) := by
  rw [callE LG rfl rfl rfl]
  have ho := c_Of i.op
  rw [ofS_known hkn, h] at ho
  have h0 : ¬ i.op < 0 := by have := known_nonneg hkn; omega
  have hv := r_vals i.l hl
  have hi1 := r_indexes i.l hl 256
  have hi2 := r_indexes i.l hl 4294967296
  rw [show (i.l.all fun n => !decide (n < 0) && !decide (256 ≤ n)) = rIdx 256 i.l from rfl] at hi1
  rw [show (i.l.all fun n => !decide (n < 0) && !decide (4294967296 ≤ n)) = rIdx 4294967296 i.l from rfl] at hi2
  have hz : ((i.l.length : Int) = 0) = (i.l.length = 0) := by apply propext; omega
  have h1 : ((i.l.length : Int) = 1) = (i.l.length = 1) := by apply propext; omega
  have h16 : ((i.l.length : Int) = 16) = (i.l.length = 16) := by apply propext; omega
  simp [ho, h0, hv, hi1, hi2, r_index, r_ref, r_val, hz, h1, h16, rOneK, rFin, Bool.and_assoc]


set_option maxHeartbeats 4000000 in
theorem r_one_11 (i : Ins) (hl : lenOk i.l) (hkn : knownS i.op = true) (h : immS i.op = 11) : callL LG fn_bodkinref09_One [.t i.enc] [] = some (.t (.v (.bool ((decide ((11 : Int) = 1) || (!decide (0 < i.body.length) && !decide (0 < i.els.length) && !i.other)) && rOneK 11 i))), []) := by
  rw [callE LG rfl rfl rfl]
  have ho := c_Of i.op
  rw [ofS_known hkn, h] at ho
  have h0 : ¬ i.op < 0 := by have := known_nonneg hkn; omega
  have hv := r_vals i.l hl
  have hi1 := r_indexes i.l hl 256
  have hi2 := r_indexes i.l hl 4294967296
  rw [show (i.l.all fun n => !decide (n < 0) && !decide (256 ≤ n)) = rIdx 256 i.l from rfl] at hi1
  rw [show (i.l.all fun n => !decide (n < 0) && !decide (4294967296 ≤ n)) = rIdx 4294967296 i.l from rfl] at hi2
  have hz : ((i.l.length : Int) = 0) = (i.l.length = 0) := by apply propext; omega
  have h1 : ((i.l.length : Int) = 1) = (i.l.length = 1) := by apply propext; omega
  have h16 : ((i.l.length : Int) = 16) = (i.l.length = 16) := by apply propext; omega
  simp [ho, h0, hv, hi1, hi2, r_index, r_ref, r_val, hz, h1, h16, rOneK, rFin, Bool.and_assoc]


set_option maxHeartbeats 4000000 in
theorem r_one_12 (i : Ins) (hl : lenOk i.l) (hkn : knownS i.op = true) (h : immS i.op = 12) : callL LG fn_bodkinref09_One [.t i.enc] [] = some (.t (.v (.bool ((decide ((12 : Int) = 1) || (!decide (0 < i.body.length) && !decide (0 < i.els.length) && !i.other)) && rOneK 12 i))), []) := by
  rw [callE LG rfl rfl rfl]
  have ho := c_Of i.op
  rw [ofS_known hkn, h] at ho
  have h0 : ¬ i.op < 0 := by have := known_nonneg hkn; omega
  have hv := r_vals i.l hl
  have hi1 := r_indexes i.l hl 256
  have hi2 := r_indexes i.l hl 4294967296
  rw [show (i.l.all fun n => !decide (n < 0) && !decide (256 ≤ n)) = rIdx 256 i.l from rfl] at hi1
  rw [show (i.l.all fun n => !decide (n < 0) && !decide (4294967296 ≤ n)) = rIdx 4294967296 i.l from rfl] at hi2
  have hz : ((i.l.length : Int) = 0) = (i.l.length = 0) := by apply propext; omega
  have h1 : ((i.l.length : Int) = 1) = (i.l.length = 1) := by apply propext; omega
  have h16 : ((i.l.length : Int) = 16) = (i.l.length = 16) := by apply propext; omega
  simp [ho, h0, hv, hi1, hi2, r_index, r_ref, r_val, hz, h1, h16, rOneK, rFin, Bool.and_assoc]


set_option maxHeartbeats 4000000 in
theorem r_one_13 (i : Ins) (hl : lenOk i.l) (hkn : knownS i.op = true) (h : immS i.op = 13) : callL LG fn_bodkinref09_One [.t i.enc] [] = some (.t (.v (.bool ((decide ((13 : Int) = 1) || (!decide (0 < i.body.length) && !decide (0 < i.els.length) && !i.other)) && rOneK 13 i))), []) := by
  rw [callE LG rfl rfl rfl]
  have ho := c_Of i.op
  rw [ofS_known hkn, h] at ho
  have h0 : ¬ i.op < 0 := by have := known_nonneg hkn; omega
  have hv := r_vals i.l hl
  have hi1 := r_indexes i.l hl 256
  have hi2 := r_indexes i.l hl 4294967296
  rw [show (i.l.all fun n => !decide (n < 0) && !decide (256 ≤ n)) = rIdx 256 i.l from rfl] at hi1
  rw [show (i.l.all fun n => !decide (n < 0) && !decide (4294967296 ≤ n)) = rIdx 4294967296 i.l from rfl] at hi2
  have hz : ((i.l.length : Int) = 0) = (i.l.length = 0) := by apply propext; omega
  have h1 : ((i.l.length : Int) = 1) = (i.l.length = 1) := by apply propext; omega
  have h16 : ((i.l.length : Int) = 16) = (i.l.length = 16) := by apply propext; omega
  simp [ho, h0, hv, hi1, hi2, r_index, r_ref, r_val, hz, h1, h16, rOneK, rFin, Bool.and_assoc]

end Go.Proofs.YtgehpjjpeddomaaGreatDoor
