/- == on the structs of the statements. -/
import Derived.Test.YtgehpjjpeddomaaGreatDoorZCEq
import Derived.Test.YtgehpjjpeddomaaGreatDoorZCMod
import Derived.KernelRfl
set_option linter.all false
namespace Go.Proofs.YtgehpjjpeddomaaGreatDoor
open Go
set_option maxRecDepth 100000

theorem plan_lim : eqPlan Tryz.prog Op.maxDepth ty_api_Limits = some [.i .i64, .i .i64, .b] := by kernel_rfl
theorem guard_lim : Tryz.prog.eqGuardType Tryz.prog.depth ty_api_Limits = false := by kernel_rfl
theorem agg_lim : aggT Tryz.prog ty_api_Limits = true := by kernel_rfl
theorem plan_tab : eqPlan Tryz.prog Op.maxDepth ty_api_TableType = some [.i .i64, .i .i64, .i .i64, .b] := by kernel_rfl
theorem guard_tab : Tryz.prog.eqGuardType Tryz.prog.depth ty_api_TableType = false := by kernel_rfl
theorem agg_tab : aggT Tryz.prog ty_api_TableType = true := by kernel_rfl
theorem plan_glo : eqPlan Tryz.prog Op.maxDepth ty_api_GlobalType = some [.i .i64, .b] := by kernel_rfl
theorem guard_glo : Tryz.prog.eqGuardType Tryz.prog.depth ty_api_GlobalType = false := by kernel_rfl
theorem agg_glo : aggT Tryz.prog ty_api_GlobalType = true := by kernel_rfl
theorem plan_imp : eqPlan Tryz.prog Op.maxDepth ty_api_Import = some [.s, .s, .i .i64, .i .i64, .i .i64, .i .i64, .i .i64, .b, .i .i64, .i .i64, .b, .i .i64, .b] := by kernel_rfl
theorem guard_imp : Tryz.prog.eqGuardType Tryz.prog.depth ty_api_Import = false := by kernel_rfl
theorem agg_imp : aggT Tryz.prog ty_api_Import = true := by kernel_rfl
theorem plan_exp : eqPlan Tryz.prog Op.maxDepth ty_api_Export = some [.s, .i .i64, .i .i64] := by kernel_rfl
theorem guard_exp : Tryz.prog.eqGuardType Tryz.prog.depth ty_api_Export = false := by kernel_rfl
theorem agg_exp : aggT Tryz.prog ty_api_Export = true := by kernel_rfl

theorem str_eq (a b : List UInt8) : ((⟨a.toArray⟩ : ByteArray) == ⟨b.toArray⟩) = (a == b) := by
  show (a.toArray == b.toArray) = _
  simp

def Lim.eq (a b : Lim) : Bool := decide (a.min = b.min) && (decide (a.max = b.max) && (a.has == b.has))
def TabT.eq (a b : TabT) : Bool := decide (a.ref = b.ref) && (decide (a.l.min = b.l.min) && (decide (a.l.max = b.l.max) && (a.l.has == b.l.has)))
def GloT.eq (a b : GloT) : Bool := decide (a.type = b.type) && (a.mu == b.mu)
def Imp.eq (a b : Imp) : Bool := (a.module == b.module) && ((a.name == b.name) && (decide (a.kind = b.kind) && (decide (a.type = b.type) && (decide (a.table.ref = b.table.ref) && (decide (a.table.l.min = b.table.l.min) && (decide (a.table.l.max = b.table.l.max) && ((a.table.l.has == b.table.l.has) && (decide (a.mem.min = b.mem.min) && (decide (a.mem.max = b.mem.max) && ((a.mem.has == b.mem.has) && (decide (a.global.type = b.global.type) && (a.global.mu == b.global.mu))))))))))))
def Exp.eq (a b : Exp) : Bool := (a.name == b.name) && (decide (a.kind = b.kind) && decide (a.index = b.index))

@[simp] theorem eql_lim (a b : Lim) : binA Tryz.prog .eql ty_api_Limits (.t a.enc) (.t b.enc) = some (.t (.v (.bool (a.eq b)))) := by
  have h := bin_agg_eql Tryz.prog plan_lim guard_lim agg_lim (xs := [.int .i64 a.min, .int .i64 a.max, .bool a.has]) (ys := [.int .i64 b.min, .int .i64 b.max, .bool b.has]) (by simp [fitsL, Leaf.fits]) (by simp [fitsL, Leaf.fits])
  simpa [eqVs, eqV, Lim.eq] using h
@[simp] theorem neq_lim (a b : Lim) : binA Tryz.prog .neq ty_api_Limits (.t a.enc) (.t b.enc) = some (.t (.v (.bool (!a.eq b)))) := by
  have h := bin_agg_neq Tryz.prog plan_lim guard_lim agg_lim (xs := [.int .i64 a.min, .int .i64 a.max, .bool a.has]) (ys := [.int .i64 b.min, .int .i64 b.max, .bool b.has]) (by simp [fitsL, Leaf.fits]) (by simp [fitsL, Leaf.fits])
  simpa [eqVs, eqV, Lim.eq] using h
@[simp] theorem eql_tab (a b : TabT) : binA Tryz.prog .eql ty_api_TableType (.t a.enc) (.t b.enc) = some (.t (.v (.bool (a.eq b)))) := by
  have h := bin_agg_eql Tryz.prog plan_tab guard_tab agg_tab (xs := [.int .i64 a.ref, .int .i64 a.l.min, .int .i64 a.l.max, .bool a.l.has]) (ys := [.int .i64 b.ref, .int .i64 b.l.min, .int .i64 b.l.max, .bool b.l.has]) (by simp [fitsL, Leaf.fits]) (by simp [fitsL, Leaf.fits])
  simpa [eqVs, eqV, TabT.eq] using h
@[simp] theorem neq_tab (a b : TabT) : binA Tryz.prog .neq ty_api_TableType (.t a.enc) (.t b.enc) = some (.t (.v (.bool (!a.eq b)))) := by
  have h := bin_agg_neq Tryz.prog plan_tab guard_tab agg_tab (xs := [.int .i64 a.ref, .int .i64 a.l.min, .int .i64 a.l.max, .bool a.l.has]) (ys := [.int .i64 b.ref, .int .i64 b.l.min, .int .i64 b.l.max, .bool b.l.has]) (by simp [fitsL, Leaf.fits]) (by simp [fitsL, Leaf.fits])
  simpa [eqVs, eqV, TabT.eq] using h
@[simp] theorem eql_glo (a b : GloT) : binA Tryz.prog .eql ty_api_GlobalType (.t a.enc) (.t b.enc) = some (.t (.v (.bool (a.eq b)))) := by
  have h := bin_agg_eql Tryz.prog plan_glo guard_glo agg_glo (xs := [.int .i64 a.type, .bool a.mu]) (ys := [.int .i64 b.type, .bool b.mu]) (by simp [fitsL, Leaf.fits]) (by simp [fitsL, Leaf.fits])
  simpa [eqVs, eqV, GloT.eq] using h
@[simp] theorem neq_glo (a b : GloT) : binA Tryz.prog .neq ty_api_GlobalType (.t a.enc) (.t b.enc) = some (.t (.v (.bool (!a.eq b)))) := by
  have h := bin_agg_neq Tryz.prog plan_glo guard_glo agg_glo (xs := [.int .i64 a.type, .bool a.mu]) (ys := [.int .i64 b.type, .bool b.mu]) (by simp [fitsL, Leaf.fits]) (by simp [fitsL, Leaf.fits])
  simpa [eqVs, eqV, GloT.eq] using h
@[simp] theorem eql_exp (a b : Exp) : binA Tryz.prog .eql ty_api_Export (.t a.enc) (.t b.enc) = some (.t (.v (.bool (a.eq b)))) := by
  have h := bin_agg_eql Tryz.prog plan_exp guard_exp agg_exp (xs := [.string ⟨a.name.toArray⟩, .int .i64 a.kind, .int .i64 a.index]) (ys := [.string ⟨b.name.toArray⟩, .int .i64 b.kind, .int .i64 b.index]) (by simp [fitsL, Leaf.fits]) (by simp [fitsL, Leaf.fits])
  simpa [eqVs, eqV, Exp.eq, str_eq] using h
@[simp] theorem neq_exp (a b : Exp) : binA Tryz.prog .neq ty_api_Export (.t a.enc) (.t b.enc) = some (.t (.v (.bool (!a.eq b)))) := by
  have h := bin_agg_neq Tryz.prog plan_exp guard_exp agg_exp (xs := [.string ⟨a.name.toArray⟩, .int .i64 a.kind, .int .i64 a.index]) (ys := [.string ⟨b.name.toArray⟩, .int .i64 b.kind, .int .i64 b.index]) (by simp [fitsL, Leaf.fits]) (by simp [fitsL, Leaf.fits])
  simpa [eqVs, eqV, Exp.eq, str_eq] using h
@[simp] theorem eql_imp (a b : Imp) : binA Tryz.prog .eql ty_api_Import (.t a.enc) (.t b.enc) = some (.t (.v (.bool (a.eq b)))) := by
  have h := bin_agg_eql Tryz.prog plan_imp guard_imp agg_imp (xs := [.string ⟨a.module.toArray⟩, .string ⟨a.name.toArray⟩, .int .i64 a.kind, .int .i64 a.type, .int .i64 a.table.ref, .int .i64 a.table.l.min, .int .i64 a.table.l.max, .bool a.table.l.has, .int .i64 a.mem.min, .int .i64 a.mem.max, .bool a.mem.has, .int .i64 a.global.type, .bool a.global.mu])
    (ys := [.string ⟨b.module.toArray⟩, .string ⟨b.name.toArray⟩, .int .i64 b.kind, .int .i64 b.type, .int .i64 b.table.ref, .int .i64 b.table.l.min, .int .i64 b.table.l.max, .bool b.table.l.has, .int .i64 b.mem.min, .int .i64 b.mem.max, .bool b.mem.has, .int .i64 b.global.type, .bool b.global.mu]) (by simp [fitsL, Leaf.fits]) (by simp [fitsL, Leaf.fits])
  simpa [eqVs, eqV, Imp.eq, str_eq] using h
@[simp] theorem neq_imp (a b : Imp) : binA Tryz.prog .neq ty_api_Import (.t a.enc) (.t b.enc) = some (.t (.v (.bool (!a.eq b)))) := by
  have h := bin_agg_neq Tryz.prog plan_imp guard_imp agg_imp (xs := [.string ⟨a.module.toArray⟩, .string ⟨a.name.toArray⟩, .int .i64 a.kind, .int .i64 a.type, .int .i64 a.table.ref, .int .i64 a.table.l.min, .int .i64 a.table.l.max, .bool a.table.l.has, .int .i64 a.mem.min, .int .i64 a.mem.max, .bool a.mem.has, .int .i64 a.global.type, .bool a.global.mu])
    (ys := [.string ⟨b.module.toArray⟩, .string ⟨b.name.toArray⟩, .int .i64 b.kind, .int .i64 b.type, .int .i64 b.table.ref, .int .i64 b.table.l.min, .int .i64 b.table.l.max, .bool b.table.l.has, .int .i64 b.mem.min, .int .i64 b.mem.max, .bool b.mem.has, .int .i64 b.global.type, .bool b.global.mu]) (by simp [fitsL, Leaf.fits]) (by simp [fitsL, Leaf.fits])
  simpa [eqVs, eqV, Imp.eq, str_eq] using h

/-! the zero values, so that they are seen as such -/
def Lim.zero : Lim := ⟨0, 0, false⟩
def TabT.zero : TabT := ⟨0, Lim.zero⟩
def GloT.zero : GloT := ⟨0, false⟩
@[simp] theorem fold_lim0 : Tr.agg [.v (.int .i64 0), .v (.int .i64 0), .v (.bool false)] = Lim.zero.enc := rfl
@[simp] theorem fold_tab0 : Tr.agg [.v (.int .i64 0), .v (.int .i64 0), .v (.int .i64 0), .v (.bool false)] = TabT.zero.enc := rfl
@[simp] theorem fold_glo0 : Tr.agg [.v (.int .i64 0), .v (.bool false)] = GloT.zero.enc := rfl
end Go.Proofs.YtgehpjjpeddomaaGreatDoor
