/- What the rows of these statements share: the plain types, the globals that are laid down, and how an argument is read. -/
import Derived.Test.YtgehpjjpeddomaaGreatDoorZCMod
import Derived.Test.YtgehpjjpeddomaaGreatDoorZCWin
import Derived.Test.YtgehpjjpeddomaaGreatDoorTie
import Derived.ProofKit
import Derived.OpenShut
import Derived.LaidMore
import Derived.Lay
import Derived.SevenTiedAt
import Derived.Stop.Joined
import Derived.Lib.LaidU8
set_option linter.all false
namespace Go.Proofs.YtgehpjjpeddomaaGreatDoor
open Go Go.Proofs Go.ChangeShapes Go.WideShapes Go.ChangeAt Go.RowKit
set_option maxRecDepth 100000
def plainS : List TypeId := [ty_int64, ty_int, ty_bool, ty_uint8, ty_string, ty_int32, ty_s_api_FuncType, ty_s_api_Import, ty_s_api_Code, ty_s_api_TableType, ty_s_api_Limits, ty_s_api_Var, ty_s_api_Export, ty_s_api_Elem, ty_s_api_Data, ty_api_Module, ty_s_uint8, ty_api_Errno, ty_s_api_Instr, ty_uint64, ty_s_int, ty_api_Instr, ty_s_s_api_Instr, ty_api_Elem, ty_api_Data, ty_api_Code, ty_api_FuncType, ty_api_Limits, ty_api_TableType, ty_api_GlobalType, ty_api_Import, ty_api_Export, ty_api_Var, ty_uint, ty_s_string, ty_uint32]
theorem plainS_ok : tyOk Tryz.prog plainS = true := by kernel_rfl
def arrB (P : Program) (t : TypeId) : Bool := match P.underlying t with
  | some (.array _ _) => true
  | _ => false
theorem plainS_arr : (plainS.all fun t => !arrB Tryz.prog t) = true := by kernel_rfl
theorem plainS_na : ∀ t ∈ plainS, ∀ n e, Tryz.prog.underlying t ≠ some (.array n e) := fun t ht n e h => by
  have := List.all_eq_true.1 plainS_arr t ht
  unfold arrB at this
  rw [h] at this
  cases this
theorem own : ownKnob Tryz.prog.godebug = none := by kernel_rfl
theorem laidOut : laidOutB Tryz.prog = true := by kernel_rfl
section
variable {H : Type} {enc : TypeId × Value → H} {W : World} {sp : Nat → Bool} {held : Bool} {v : Value} {d : DataW H} {ps : List MemPlace}
theorem typed_of {t : TypeId} (ht : plainS.contains t = true) (h : DataW.Trod enc Tryz.prog W 0 sp held t v d ps) : ∃ n, HasT Tryz.prog n t (toTr d) := by
  obtain ⟨fuel, h⟩ := h
  exact ⟨fuel, trod_hasT plainS_ok plainS_na fuel t _ d ps ht h⟩
theorem read_agg {t : TypeId} {fs : Array Field} (hu : Tryz.prog.underlying t = some (.struct fs)) (ht : plainS.contains t = true) {b0 : Nat} (hv : Value.okWide Tryz.prog W .any b0 t v) (h : DataW.Trod enc Tryz.prog W 0 sp held t v d ps) : VRt (pmW W) W (toTr d) v := by
  obtain ⟨cs, rfl, hsz⟩ := okWide_struct hu hv
  refine tree_of_trod (v := .agg cs) plainS_ok ht hsz ?_ h
  obtain ⟨m, hm⟩ := h
  exact trod_agg hu hm
theorem read_sl {t e : TypeId} (hu : Tryz.prog.underlying t = some (.slice e)) (ht : plainS.contains t = true) (hc : Tryz.prog.cellsOf t = 1) {b0 : Nat} (hv : Value.okWide Tryz.prog W .any b0 t v) (h : DataW.Trod enc Tryz.prog W 0 sp held t v d ps) : VRt (pmW W) W (toTr d) v := by
  obtain ⟨a, n, c, rfl⟩ := okWide_slice hu hv
  refine tree_of_trod (v := .slice a n c) plainS_ok ht hc.symm ?_ h
  obtain ⟨n, hn⟩ := typed_of ht h
  cases n with
  | zero => exact hn.elim
  | succ n =>
    unfold HasT at hn
    rw [hu] at hn
    obtain ⟨xs, hx, _⟩ := hn
    show (toTr d).one = true
    rw [hx]; rfl
theorem gok_arr {n : String} {g t k e : Nat} {d : DataW Unit} {S : List TypeId} (hS : tyOk Tryz.prog S = true) (ht : S.contains t = true) (hu : Tryz.prog.underlying t = some (.array k e)) (hg : Tryz.prog.globalNamed n = some g) (hty : (Tryz.prog.globals[g]?).map (·.type) = some t)
    (h : Lib.VarReads Tryz.prog W n d) : VR Tryz.prog (gh0 W) W [] (.ip (toTr d).cells) (.pointer (some ⟨g, 0, none⟩)) := by
  obtain ⟨g', t', cs, fuel, p, q1, q2, q3, q4⟩ := h
  obtain rfl := Option.some.inj (hg.symm.trans q1)
  obtain rfl := Option.some.inj (hty.symm.trans q2)
  obtain ⟨xs, m, e1, e2, hl, _⟩ := DataW.trod_array hu q4
  have hc := trod_tr hS fuel _ _ d p ht hl q4
  have hcell : ∀ i, W.cell? ⟨g, i, none⟩ = cs[i]? := fun i => World.var?_cell q1 q3 i
  refine .ip g 0 (fun i => cs.toList.getD i .nilFunc) (fun i hi => ?_) hc.2.1 (fun i c hic => ?_)
  · rw [Nat.zero_add]
    have hi2 : i < cs.size := by have := hc.1; simp at this; omega
    have h1 : W.cell? ⟨g, i, none⟩ = some cs[i] := by rw [hcell, Array.getElem?_eq_getElem hi2]
    refine ⟨by rw [h1]; simp [hi2], ?_⟩
    exact lt_pmW h1
  · have hi : i < (toTr d).cells.length := (List.getElem?_eq_some_iff.1 hic).1
    have hi2 : i < cs.size := by have := hc.1; simp at this; omega
    have h9 : cs.toList.getD i .nilFunc = cs[i] := by simp [hi2]
    rw [h9]
    exact hc.2.2 i c cs[i] hic (by simp [hi2])
end
def arrS : List TypeId := [ty_string, ty_uint8, 251, 268]
theorem arrS_ok : tyOk Tryz.prog arrS = true := by kernel_rfl
theorem gok {l : List (String × DataW Unit)} {W : World} (hL : laidMet Tryz.prog l W) (h0 : ("bodkin/ops.more", Rows.laid_bodkin_ops_more) ∈ l) (h1 : ("strings.asciiSpace", Rows.laid_strings_asciiSpace) ∈ l) : GOk LG (gh0 W) W [] := by
  intro n cs hn
  have hn : glb n = some cs := hn
  unfold glb at hn
  split at hn
  · rename_i e; subst e; injection hn with hn; subst hn
    exact gok_arr (t := 251) arrS_ok (by decide) Tryz.underlying251 (by kernel_rfl) (by kernel_rfl) (Lib.laidMet.reads hL h0)
  split at hn
  · rename_i e; subst e; injection hn with hn; subst hn
    exact gok_arr (t := 268) arrS_ok (by decide) Tryz.underlying268 (by kernel_rfl) (by kernel_rfl) (Lib.laidMet.reads hL h1)
  cases hn
end Go.Proofs.YtgehpjjpeddomaaGreatDoor
