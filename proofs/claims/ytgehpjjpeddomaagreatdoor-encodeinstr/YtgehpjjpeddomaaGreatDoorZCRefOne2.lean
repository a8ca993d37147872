/- Contracts of the reference for shape: one instruction, by what stands behind it (laid by a program, part 2). -/
import Derived.Test.YtgehpjjpeddomaaGreatDoorZCRefOne0
set_option linter.all false
namespace Go.Proofs.YtgehpjjpeddomaaGreatDoor
open Go
set_option maxRecDepth 100000

set_option maxHeartbeats 4000000 in
theorem r_one_14 (i : Ins) (hl : lenOk i.l) (hkn : knownS i.op = true) (h : immS i.op = 14) : callL LG fn_bodkinref09_One [.t i.enc] [] = some (.t (.v (.bool ((decide ((14 : Int) = 1) || (!decide (0 < i.body.length) && !decide (0 < i.els.length) && !i.other)) && rOneK 14 i))), []) := by
  rw [callE LG rfl rfl rfl]
  have ho := c_Of i.op
  rw [ofS_known hkn, h] at ho
  have h0 : ¬ i.op < 0 := by have := known_nonneg hkn; omega
  have hv := r_vals i.l hl
  have hi1 := r_indexes i.l hl 256
  have hi2 := r_indexes i.l hl 4294967296
  rw [show (i.l.all fun n => !decide (n < 0) && !decide (256 ≤ n)) = rIdx 256 i.l from rfl] at hi1
  rw [show (i.l.all fun n => !decide (n < 0) && !decide (4294967296 ≤ n)) = rIdx 4294967296 i.l from rfl] at hi2
  have hz : ((i.l.length : Int) = 0) = (i.l.length = 0) := by apply propext; omega
  have h1 : ((i.l.length : Int) = 1) = (i.l.length = 1) := by apply propext; omega
  have h16 : ((i.l.length : Int) = 16) = (i.l.length = 16) := by apply propext; omega
  simp [ho, h0, hv, hi1, hi2, r_index, r_ref, r_val, hz, h1, h16, rOneK, rFin, Bool.and_assoc]


set_option maxHeartbeats 4000000 in
theorem r_one_15 (i : Ins) (hl : lenOk i.l) (hkn : knownS i.op = true) (h : immS i.op = 15) : callL LG fn_bodkinref09_One [.t i.enc] [] = some (.t (.v (.bool ((decide ((15 : Int) = 1) || (!decide (0 < i.body.length) && !decide (0 < i.els.length) && !i.other)) && rOneK 15 i))), []) := by
  rw [callE LG rfl rfl rfl]
  have ho := c_Of i.op
  rw [ofS_known hkn, h] at ho
  have h0 : ¬ i.op < 0 := by have := known_nonneg hkn; omega
  have hv := r_vals i.l hl
  have hi1 := r_indexes i.l hl 256
  have hi2 := r_indexes i.l hl 4294967296
  rw [show (i.l.all fun n => !decide (n < 0) && !decide (256 ≤ n)) = rIdx 256 i.l from rfl] at hi1
  rw [show (i.l.all fun n => !decide (n < 0) && !decide (4294967296 ≤ n)) = rIdx 4294967296 i.l from rfl] at hi2
  have hz : ((i.l.length : Int) = 0) = (i.l.length = 0) := by apply propext; omega
  have h1 : ((i.l.length : Int) = 1) = (i.l.length = 1) := by apply propext; omega
  have h16 : ((i.l.length : Int) = 16) = (i.l.length = 16) := by apply propext; omega
  simp [ho, h0, hv, hi1, hi2, r_index, r_ref, r_val, hz, h1, h16, rOneK, rFin, Bool.and_assoc]


set_option maxHeartbeats 4000000 in
theorem r_one_16 (i : Ins) (hl : lenOk i.l) (hkn : knownS i.op = true) (h : immS i.op = 16) : callL LG fn_bodkinref09_One [.t i.enc] [] = some (.t (.v (.bool ((decide ((16 : Int) = 1) || (!decide (0 < i.body.length) && !decide (0 < i.els.length) && !i.other)) && rOneK 16 i))), []) := by
  rw [callE LG rfl rfl rfl]
  have ho := c_Of i.op
  rw [ofS_known hkn, h] at ho
  have h0 : ¬ i.op < 0 := by have := known_nonneg hkn; omega
  have hv := r_vals i.l hl
  have hi1 := r_indexes i.l hl 256
  have hi2 := r_indexes i.l hl 4294967296
  rw [show (i.l.all fun n => !decide (n < 0) && !decide (256 ≤ n)) = rIdx 256 i.l from rfl] at hi1
  rw [show (i.l.all fun n => !decide (n < 0) && !decide (4294967296 ≤ n)) = rIdx 4294967296 i.l from rfl] at hi2
  have hz : ((i.l.length : Int) = 0) = (i.l.length = 0) := by apply propext; omega
  have h1 : ((i.l.length : Int) = 1) = (i.l.length = 1) := by apply propext; omega
  have h16 : ((i.l.length : Int) = 16) = (i.l.length = 16) := by apply propext; omega
  simp [ho, h0, hv, hi1, hi2, r_index, r_ref, r_val, hz, h1, h16, rOneK, rFin, Bool.and_assoc]


set_option maxHeartbeats 4000000 in
theorem r_one_17 (i : Ins) (hl : lenOk i.l) (hkn : knownS i.op = true) (h : immS i.op = 17) : callL LG fn_bodkinref09_One [.t i.enc] [] = some (.t (.v (.bool ((decide ((17 : Int) = 1) || (!decide (0 < i.body.length) && !decide (0 < i.els.length) && !i.other)) && rOneK 17 i))), []) := by
  rw [callE LG rfl rfl rfl]
  have ho := c_Of i.op
  rw [ofS_known hkn, h] at ho
  have h0 : ¬ i.op < 0 := by have := known_nonneg hkn; omega
  have hv := r_vals i.l hl
  have hi1 := r_indexes i.l hl 256
  have hi2 := r_indexes i.l hl 4294967296
  rw [show (i.l.all fun n => !decide (n < 0) && !decide (256 ≤ n)) = rIdx 256 i.l from rfl] at hi1
  rw [show (i.l.all fun n => !decide (n < 0) && !decide (4294967296 ≤ n)) = rIdx 4294967296 i.l from rfl] at hi2
  have hz : ((i.l.length : Int) = 0) = (i.l.length = 0) := by apply propext; omega
  have h1 : ((i.l.length : Int) = 1) = (i.l.length = 1) := by apply propext; omega
  have h16 : ((i.l.length : Int) = 16) = (i.l.length = 16) := by apply propext; omega
  simp [ho, h0, hv, hi1, hi2, r_index, r_ref, r_val, hz, h1, h16, rOneK, rFin, Bool.and_assoc]


set_option maxHeartbeats 4000000 in
theorem r_one_18 (i : Ins) (hl : lenOk i.l) (hkn : knownS i.op = true) (h : immS i.op = 18) : callL LG fn_bodkinref09_One [.t i.enc] [] = some (.t (.v (.bool ((decide ((18 : Int) = 1) || (!decide (0 < i.body.length) && !decide (0 < i.els.length) && !i.other)) && rOneK 18 i))), []) := by
  rw [callE LG rfl rfl rfl]
  have ho := c_Of i.op
  rw [ofS_known hkn, h] at ho
  have h0 : ¬ i.op < 0 := by have := known_nonneg hkn; omega
  have hv := r_vals i.l hl
  have hi1 := r_indexes i.l hl 256
  have hi2 := r_indexes i.l hl 4294967296
  rw [show (i.l.all fun n => !decide (n < 0) && !decide (256 ≤ n)) = rIdx 256 i.l from rfl] at hi1
  rw [show (i.l.all fun n => !decide (n < 0) && !decide (4294967296 ≤ n)) = rIdx 4294967296 i.l from rfl] at hi2
  have hz : ((i.l.length : Int) = 0) = (i.l.length = 0) := by apply propext; omega
  have h1 : ((i.l.length : Int) = 1) = (i.l.length = 1) := by apply propext; omega
  have h16 : ((i.l.length : Int) = 16) = (i.l.length = 16) := by apply propext; omega
  simp [ho, h0, hv, hi1, hi2, r_index, r_ref, r_val, hz, h1, h16, rOneK, rFin, Bool.and_assoc]


set_option maxHeartbeats 4000000 in
theorem r_one_19 (i : Ins) (hl : lenOk i.l) (hkn : knownS i.op = true) (h : immS i.op = 19) : callL LG fn_bodkinref09_One [.t i.enc] [] = some (.t (.v (.bool ((decide ((19 : Int) = 1) || (!decide (0 < i.body.length) && !decide (0 < i.els.length) && !i.other)) && rOneK 19 i))), []) := by
  rw [callE LG rfl rfl rfl]
  have ho := c_Of i.op
  rw [ofS_known hkn, h] at ho
  have h0 : ¬ i.op < 0 := by have := known_nonneg hkn; omega
  have hv := r_vals i.l hl
  have hi1 := r_indexes i.l hl 256
  have hi2 := r_indexes i.l hl 4294967296
  rw [show (i.l.all fun n => !decide (n < 0) && !decide (256 ≤ n)) = rIdx 256 i.l from rfl] at hi1
  rw [show (i.l.all fun n => !decide (n < 0) && !decide (4294967296 ≤ n)) = rIdx 4294967296 i.l from rfl] at hi2
  have hz : ((i.l.length : Int) = 0) = (i.l.length = 0) := by apply propext; omega
  have h1 : ((i.l.length : Int) = 1) = (i.l.length = 1) := by apply propext; omega
  have h16 : ((i.l.length : Int) = 16) = (i.l.length = 16) := by apply propext; omega
  simp [ho, h0, hv, hi1, hi2, r_index, r_ref, r_val, hz, h1, h16, rOneK, rFin, Bool.and_assoc]


set_option maxHeartbeats 4000000 in
theorem r_one_20 (i : Ins) (hl : lenOk i.l) (hkn : knownS i.op = true) (h : immS i.op = 20) : callL LG fn_bodkinref09_One [.t i.enc] [] = some (.t (.v (.bool ((decide ((20 : Int) = 1) || (!decide (0 < i.body.length) && !decide (0 < i.els.length) && !i.other)) && rOneK 20 i))), []) := by
  rw [callE LG rfl rfl rfl]
  have ho := c_Of i.op
  rw [ofS_known hkn, h] at ho
  have h0 : ¬ i.op < 0 := by have := known_nonneg hkn; omega
  have hv := r_vals i.l hl
  have hi1 := r_indexes i.l hl 256
  have hi2 := r_indexes i.l hl 4294967296
  rw [show (i.l.all fun n => !decide (n < 0) && !decide (256 ≤ n)) = rIdx 256 i.l from rfl] at hi1
  rw [show (i.l.all fun n => !decide (n < 0) && !decide (4294967296 ≤ n)) = rIdx 4294967296 i.l from rfl] at hi2
  have hz : ((i.l.length : Int) = 0) = (i.l.length = 0) := by apply propext; omega
  have h1 : ((i.l.length : Int) = 1) = (i.l.length = 1) := by apply propext; omega
  have h16 : ((i.l.length : Int) = 16) = (i.l.length = 16) := by apply propext; omega
  simp [ho, h0, hv, hi1, hi2, r_index, r_ref, r_val, hz, h1, h16, rOneK, rFin, Bool.and_assoc]

end Go.Proofs.YtgehpjjpeddomaaGreatDoor
