/- shape.imported. -/
import Derived.Test.YtgehpjjpeddomaaGreatDoorZCUtf
import Derived.Test.YtgehpjjpeddomaaGreatDoorZCShape2
import Derived.Test.YtgehpjjpeddomaaGreatDoorZCEqs
set_option linter.all false
namespace Go.Proofs.YtgehpjjpeddomaaGreatDoor
open Go
set_option maxRecDepth 100000

def utf (l : List UInt8) : Bool := utfF l l.length 0
theorem c_utf (l : List UInt8) (hl : lenOk l) (H : List AO) : doC fn_leb_Valid [.t (str l)] H = some (.t (.v (.bool (utf l))), H) := c_valid l hl H
theorem eqlc_imp (m1 n1 : List UInt8) (k1 t1 r1 a1 b1 c1 d1 u1 : Int) (h1 g1 v1 : Bool) (m2 n2 : List UInt8) (k2 t2 r2 a2 b2 c2 d2 u2 : Int) (h2 g2 v2 : Bool) : binA Tryz.prog .eql ty_api_Import (.t (.agg [.v (.string ⟨m1.toArray⟩), .v (.string ⟨n1.toArray⟩), .v (.int .i64 k1), .v (.int .i64 t1), .v (.int .i64 r1), .v (.int .i64 a1), .v (.int .i64 b1), .v (.bool h1), .v (.int .i64 c1), .v (.int .i64 d1), .v (.bool g1), .v (.int .i64 u1), .v (.bool v1)])) (.t (.agg [.v (.string ⟨m2.toArray⟩), .v (.string ⟨n2.toArray⟩), .v (.int .i64 k2), .v (.int .i64 t2), .v (.int .i64 r2), .v (.int .i64 a2), .v (.int .i64 b2), .v (.bool h2), .v (.int .i64 c2), .v (.int .i64 d2), .v (.bool g2), .v (.int .i64 u2), .v (.bool v2)])) = some (.t (.v (.bool ((m1 == m2) && ((n1 == n2) && (decide (k1 = k2) && (decide (t1 = t2) && (decide (r1 = r2) && (decide (a1 = a2) && (decide (b1 = b2) && ((h1 == h2) && (decide (c1 = c2) && (decide (d1 = d2) && ((g1 == g2) && (decide (u1 = u2) && ((v1 == v2))))))))))))))))) := by
  have h := bin_agg_eql Tryz.prog plan_imp guard_imp agg_imp (xs := [.string ⟨m1.toArray⟩, .string ⟨n1.toArray⟩, .int .i64 k1, .int .i64 t1, .int .i64 r1, .int .i64 a1, .int .i64 b1, .bool h1, .int .i64 c1, .int .i64 d1, .bool g1, .int .i64 u1, .bool v1]) (ys := [.string ⟨m2.toArray⟩, .string ⟨n2.toArray⟩, .int .i64 k2, .int .i64 t2, .int .i64 r2, .int .i64 a2, .int .i64 b2, .bool h2, .int .i64 c2, .int .i64 d2, .bool g2, .int .i64 u2, .bool v2]) (by simp [fitsL, Leaf.fits]) (by simp [fitsL, Leaf.fits])
  simpa [eqVs, eqV, str_eq] using h
def pImp (i : Imp) : Bool :=
  (if i.kind = 0 then pIndex i.type && i.table.eq TabT.zero && i.mem.eq Lim.zero && i.global.eq GloT.zero
   else if i.kind = 1 then pTab i.table && decide (i.type = 0) && i.mem.eq Lim.zero && i.global.eq GloT.zero
   else if i.kind = 2 then pLim i.mem && decide (i.type = 0) && i.table.eq TabT.zero && i.global.eq GloT.zero
   else if i.kind = 3 then pValue i.global.type && decide (i.type = 0) && i.table.eq TabT.zero && i.mem.eq Lim.zero else false) && utf i.module && utf i.name
theorem z (x : Int) : decide (0 = x) = decide (x = 0) := by
  by_cases h : x = 0
  · rw [decide_eq_true h, decide_eq_true h.symm]
  · rw [decide_eq_false h, decide_eq_false (Ne.symm h)]
theorem c_imported (i : Imp) (hm : lenOk i.module) (hn : lenOk i.name) (H : List AO) : doC fn_shape_imported [.t i.enc] H = some (.t (.v (.bool (pImp i))), H) := by
  refine pureC rfl rfl rfl rfl ?_ H
  rw [callE LG rfl rfl rfl]
  unfold pImp
  have n1 := c_utf i.module hm
  have n2 := c_utf i.name hn
  have zb : ∀ x : Bool, (x == false) = !x := fun x => by cases x <;> rfl
  by_cases k0 : i.kind = 0
  · simp +contextual [-opsC_guardE, opsC_guard, n1, n2, k0, c_index, eqlc_imp]
    simp only [TabT.eq, Lim.eq, GloT.eq, TabT.zero, Lim.zero, GloT.zero, z, zb, Bool.and_assoc, Bool.and_comm, Bool.and_left_comm]
    rfl
  by_cases k1 : i.kind = 1
  · simp +contextual [-opsC_guardE, opsC_guard, n1, n2, k1, c_table, eqlc_imp]
    simp only [TabT.eq, Lim.eq, GloT.eq, TabT.zero, Lim.zero, GloT.zero, z, zb, Bool.and_assoc, Bool.and_comm, Bool.and_left_comm]
    rfl
  by_cases k2 : i.kind = 2
  · simp +contextual [-opsC_guardE, opsC_guard, n1, n2, k2, c_limits, eqlc_imp]
    simp only [TabT.eq, Lim.eq, GloT.eq, TabT.zero, Lim.zero, GloT.zero, z, zb, Bool.and_assoc, Bool.and_comm, Bool.and_left_comm]
    rfl
  by_cases k3 : i.kind = 3
  · simp +contextual [-opsC_guardE, opsC_guard, n1, n2, k3, c_value, eqlc_imp]
    simp only [TabT.eq, Lim.eq, TabT.zero, Lim.zero, z, zb, Bool.and_assoc]
    rfl
  · simp +contextual [-opsC_guardE, opsC_guard, n1, n2, k0, k1, k2, k3]
end Go.Proofs.YtgehpjjpeddomaaGreatDoor
