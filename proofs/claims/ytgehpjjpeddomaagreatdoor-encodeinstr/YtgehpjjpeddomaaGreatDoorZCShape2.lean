/- Parts, one behind the other; the last: Contracts of package shape: what one instruction may be. -/
import Derived.Test.YtgehpjjpeddomaaGreatDoorZCAll
import Derived.Test.YtgehpjjpeddomaaGreatDoorZCOps4
set_option linter.all false
/- Contracts of package shape, first part: numbers, types, one instruction. -/
namespace Go.Proofs.YtgehpjjpeddomaaGreatDoor
open Go
set_option maxRecDepth 100000

def pIndex (n : Int) : Bool := decide (0 ≤ n) && decide (n < 4294967296)
def pOctet (n : Int) : Bool := decide (0 ≤ n) && decide (n < 256)
def pRef (n : Int) : Bool := decide (n = 112) || decide (n = 111)
def pValue (n : Int) : Bool := decide (123 ≤ n) && decide (n ≤ 127) || pRef n
def pLim (l : Lim) : Bool := pIndex l.min && pIndex l.max && (l.has || decide (l.max = 0))
def pTab (t : TabT) : Bool := pRef t.ref && pLim t.l

theorem c_index (n : Int) (H : List AO) : doC fn_shape_index [.t (.v (.int .i64 n))] H = some (.t (.v (.bool (pIndex n))), H) := by
  refine pureC rfl rfl rfl rfl ?_ H
  rw [callE LG rfl rfl rfl]
  simp [pIndex]
theorem c_octet (n : Int) (H : List AO) : doC fn_shape_octet [.t (.v (.int .i64 n))] H = some (.t (.v (.bool (pOctet n))), H) := by
  refine pureC rfl rfl rfl rfl ?_ H
  rw [callE LG rfl rfl rfl]
  simp [pOctet]
theorem c_ref (n : Int) (H : List AO) : doC fn_shape_ref [.t (.v (.int .i64 n))] H = some (.t (.v (.bool (pRef n))), H) := by
  refine pureC rfl rfl rfl rfl ?_ H
  rw [callE LG rfl rfl rfl]
  simp [pRef]
theorem c_value (n : Int) (H : List AO) : doC fn_shape_value [.t (.v (.int .i64 n))] H = some (.t (.v (.bool (pValue n))), H) := by
  refine pureC rfl rfl rfl rfl ?_ H
  rw [callE LG rfl rfl rfl]
  simp [c_ref, pValue]
  cases decide (123 ≤ n) <;> simp
theorem c_limits (l : Lim) (H : List AO) : doC fn_shape_limits [.t l.enc] H = some (.t (.v (.bool (pLim l))), H) := by
  refine pureC rfl rfl rfl rfl ?_ H
  rw [callE LG rfl rfl rfl]
  simp [c_index, pLim, Bool.and_assoc]
theorem c_table (t : TabT) (H : List AO) : doC fn_shape_table [.t t.enc] H = some (.t (.v (.bool (pTab t))), H) := by
  have h := c_limits t.l
  refine pureC rfl rfl rfl rfl ?_ H
  rw [callE LG rfl rfl rfl]
  simp [c_ref, h, pTab]

theorem all_index (l : List Int) (hl : lenOk l) (H : List AO) : doC fn_shape_all_int [.t (.sl (l.map tInt)), .clo fn_shape_index [] []] H = some (.t (.v (.bool (l.all pIndex))), H) :=
  all_int l hl _ _ ⟨⟨rfl, rfl, rfl⟩, fun x _ H => by simp [c_index]⟩ H
theorem all_octet (l : List Int) (hl : lenOk l) (H : List AO) : doC fn_shape_all_int [.t (.sl (l.map tInt)), .clo fn_shape_octet [] []] H = some (.t (.v (.bool (l.all pOctet))), H) :=
  all_int l hl _ _ ⟨⟨rfl, rfl, rfl⟩, fun x _ H => by simp [c_octet]⟩ H
theorem all_value (l : List Int) (hl : lenOk l) (H : List AO) : doC fn_shape_all_int [.t (.sl (l.map tInt)), .clo fn_shape_value [] []] H = some (.t (.v (.bool (l.all pValue))), H) :=
  all_int l hl _ _ ⟨⟨rfl, rfl, rfl⟩, fun x _ H => by simp [c_value]⟩ H

/-- The fields in use: A, B, N, H, L. -/
abbrev flds (a b n h l : Bool) : Tr := .agg [.v (.bool a), .v (.bool b), .v (.bool n), .v (.bool h), .v (.bool l)]
theorem c_used (i : Ins) (H : List AO) : doC fn_shape_used [.t i.enc] H = some (.t (flds (!decide (i.a = 0)) (!decide (i.b = 0)) (!decide (i.n = 0)) (!decide (i.h = 0)) (decide (0 < i.l.length))), H) := by
  refine pureC rfl rfl rfl rfl ?_ H
  rw [callE LG rfl rfl rfl]
  simp
def pWithin (i : Ins) (a b n h l : Bool) : Bool := !(!decide (i.a = 0) && !a || !decide (i.b = 0) && !b || !decide (i.n = 0) && !n || !decide (i.h = 0) && !h || decide (0 < i.l.length) && !l)
theorem c_within (i : Ins) (a b n h l : Bool) (H : List AO) : doC fn_shape_within [.t i.enc, .t (flds a b n h l)] H = some (.t (.v (.bool (pWithin i a b n h l))), H) := by
  have hu := c_used i
  refine pureC rfl rfl rfl rfl ?_ H
  rw [callE LG rfl rfl rfl]
  simp +contextual [hu, pWithin, -opsC_guardE, opsC_guard]

theorem imm_rng : ((rows1 ++ rows2 ++ rows3).all fun r => decide (digS 0 ((wordsGo [] r).getD 1 []) ≤ 26) && decide (0 ≤ digS 0 ((wordsGo [] r).getD 1 []))) = true := by kernel_rfl
theorem imm_lt (op : Int) : 0 ≤ immS op ∧ immS op ≤ 26 := by
  unfold immS partS
  rcases rowS_mem op with h | h
  · rw [h]; decide
  · have := List.all_eq_true.1 imm_rng _ h
    simp only [Bool.and_eq_true, decide_eq_true_eq] at this
    exact ⟨this.2, this.1⟩
theorem imm_cases (op : Int) : immS op = 0 ∨ immS op = 1 ∨ immS op = 2 ∨ immS op = 3 ∨ immS op = 4 ∨ immS op = 5 ∨ immS op = 6 ∨ immS op = 7 ∨ immS op = 8 ∨ immS op = 9 ∨ immS op = 10 ∨ immS op = 11 ∨ immS op = 12 ∨ immS op = 13 ∨ immS op = 14 ∨ immS op = 15 ∨ immS op = 16 ∨ immS op = 17 ∨ immS op = 18 ∨ immS op = 19 ∨ immS op = 20 ∨ immS op = 21 ∨ immS op = 22 ∨ immS op = 23 ∨ immS op = 24 ∨ immS op = 25 ∨ immS op = 26 := by
  have := imm_lt op
  omega

def pOneK (k : Int) (i : Ins) : Bool :=
  if k = 1 then (decide (i.a = 0) && decide (i.b = 0) || decide (i.a = 1) && pValue i.b || decide (i.a = 2) && pIndex i.b) && pWithin i true true false false false && (decide (i.op = 4) || !i.other) && (i.other || decide (i.els.length = 0))
  else !decide (0 < i.body.length + i.els.length) && !i.other &&
    (if k = 2 ∨ k = 4 ∨ k = 7 ∨ k = 8 ∨ k = 9 ∨ k = 17 ∨ k = 18 ∨ k = 21 then pWithin i true false false false false && pIndex i.a
    else if k = 3 then pWithin i true false false false true && pIndex i.a && i.l.all pIndex
    else if k = 5 ∨ k = 20 ∨ k = 22 ∨ k = 10 then pWithin i true true false false false && pIndex i.a && pIndex i.b
    else if k = 26 then pWithin i true true false false true && pIndex i.a && pIndex i.b && (decide (i.l.length = 1) && i.l.all pOctet)
    else if k = 6 then pWithin i false false false false true && i.l.all pValue
    else if k = 12 ∨ k = 14 then pWithin i false false true false false && decide (i.n < 4294967296)
    else if k = 13 ∨ k = 15 then pWithin i false false true false false
    else if k = 23 then pWithin i false false true true false
    else if k = 16 then pWithin i true false false false false && pRef i.a
    else if k = 24 then pWithin i false false false false true && (decide (i.l.length = 16) && i.l.all pOctet)
    else if k = 25 then pWithin i true false false false false && pOctet i.a
    else pWithin i false false false false false)
def pOne (i : Ins) : Bool := knownS i.op && pOneK (immS i.op) i

end Go.Proofs.YtgehpjjpeddomaaGreatDoor
/- Contracts of package shape: what one instruction may be. -/
namespace Go.Proofs.YtgehpjjpeddomaaGreatDoor
open Go
set_option maxRecDepth 100000

set_option maxHeartbeats 4000000 in
theorem c_one_s (i : Ins) (hl : lenOk i.l) (hb : i.body.length + i.els.length ≤ 9223372036854775807) (H : List AO) : doC fn_shape_one [.t i.enc] H = some (.t (.v (.bool (pOne i))), H) := by
  refine pureC rfl rfl rfl rfl ?_ H
  rw [callE LG rfl rfl rfl]
  unfold pOne
  have hk := c_Known i.op
  have hi := c_Imm i.op
  have h1 := all_index i.l hl
  have h2 := all_octet i.l hl
  have h3 := all_value i.l hl
  have hw : IntKind.i64.wrap ((i.body.length : Int) + i.els.length) = i.body.length + i.els.length := wrap_i64 (by omega) (by omega)
  cases hkn : knownS i.op with
  | false =>
    rw [hkn] at hk
    simp [hk]
  | true =>
    rw [hkn] at hk
    have hw' := c_within i
    have hlt : ((0 : Int) < i.body.length + i.els.length) = (0 < i.body.length + i.els.length) := by
      apply propext
      omega
    have hl16 : ((i.l.length : Int) = 16) = (i.l.length = 16) := by
      apply propext
      omega
    rcases imm_cases i.op with h | h | h | h | h | h | h | h | h | h | h | h | h | h | h | h | h | h | h | h | h | h | h | h | h | h | h
    case inr.inl =>
      rw [h] at hi ⊢
      simp [hk, hi, c_index, c_octet, c_value, c_ref, h1, h2, h3, hw', pOneK]
      generalize decide (i.a = 0) = x1
      generalize decide (i.a = 1) = x2
      generalize decide (i.a = 2) = x3
      generalize decide (i.b = 0) = x4
      generalize decide (i.op = 4) = x5
      generalize decide (i.els = []) = x6
      generalize pValue i.b = x7
      generalize pIndex i.b = x8
      generalize pWithin i true true false false false = x9
      generalize i.other = x0
      revert x0 x1 x2 x3 x4 x5 x6 x7 x8 x9
      decide
    case inr.inr.inr.inr.inr.inr.inr.inr.inr.inr.inr.inr.inr.inr.inr.inr.inr.inr.inr.inr.inr.inr.inr.inr.inr.inr =>
      rw [h] at hi ⊢
      by_cases hl1 : i.l.length = 1
      · obtain ⟨x, hx⟩ := List.length_eq_one_iff.1 hl1
        have h0 : i.l[0]? = some x := by rw [hx]; rfl
        have hal : i.l.all pOctet = pOctet x := by rw [hx]; simp
        have hl1' : (i.l.length : Int) = 1 := by omega
        have h0' : i.l[0]'(by omega) = x := by simp [hx]
        simp [hk, hi, hw, hlt, hl1, hl1', h0', hal, c_index, c_octet, hw', pOneK, Bool.and_assoc]
      · have hl1' : ¬ (i.l.length : Int) = 1 := by omega
        simp [hk, hi, hw, hlt, hl1, hl1', c_index, hw', pOneK]
    all_goals
      rw [h] at hi ⊢
      simp [hk, hi, hw, hlt, hl16, c_index, c_octet, c_value, c_ref, h1, h2, h3, hw', pOneK, Bool.and_assoc]
end Go.Proofs.YtgehpjjpeddomaaGreatDoor
