/- bodkinref09.segments. -/
import Derived.Test.YtbabbianbhcjiaaGreatDoorZCFits
import Derived.Test.YtbabbianbhcjiaaGreatDoorZCImp
import Derived.Test.YtbabbianbhcjiaaGreatDoorZCMay
import Derived.Test.YtbabbianbhcjiaaGreatDoorZCRef09d
set_option linter.all false
namespace Go.Proofs.YtbabbianbhcjiaaGreatDoor
open Go
set_option maxRecDepth 100000
def rDat (d : Dat) : Bool := rPlace d.mode d.mem d.offset && (decide (0 ≤ d.mode) && decide (d.mode ≤ 1))
theorem seg0 (m : Mod) (hm : m.ok) (hs : ∀ d ∈ m.datas, SmallC d.offset) : ∀ ok, K_bodkinref09_segments_0 LG 0 (execL LG 0 (.loop L_bodkinref09_segments_0) (S_bodkinref09_segments_0 (.ptr 0 0) (.t (.v (.bool ok))) (.t (.v (.int .i64 0))) (modB m))) =
    some (.t (.v (.bool (ok && m.datas.all rDat))), []) := by
  have key := for_ind m.datas hm.datasL (fun k r => ∀ ok, K_bodkinref09_segments_0 LG 0 (execL LG 0 (.loop L_bodkinref09_segments_0) (S_bodkinref09_segments_0 (.ptr 0 0) (.t (.v (.bool ok))) (.t (.v (.int .i64 k))) (modB m))) =
      some (.t (.v (.bool (ok && r.all rDat))), []))
    (fun ok => by rw [execL_loop_eq]; simp [K_bodkinref09_segments_0]) (fun k x r hk hx hmm hw ihr ok => by
      have hok := hm.datas x hmm
      rw [execL_loop_eq]
      have e := ihr (ok && rDat x)
      simp only [K_bodkinref09_segments_0] at e ⊢
      simp at hw
      have h2 := r_place x.mode x.mem x.offset hok.2.2.1 (hs x hmm).1
      simp +contextual [-opsC_guardE, opsC_guard, hx, hk, hw, h2, trimE_eq, refs, refs.refsL, Bool.and_assoc]
      simp only [rDat, Bool.and_assoc] at e ⊢
      exact e)
  simpa using key
abbrev segB (m : Mod) (x : Elm) : List AO := [.box (m.enc.cells.map .t), .box (x.enc.cells.map .t)]
theorem seg2 (m : Mod) (hm : m.ok) (i : Nat) (x : Elm) (hxo : x.ok) (hs : ∀ c ∈ x.init, SmallC c) (hw : IntKind.i64.wrap ((i : Int) + 1) = (i : Int) + 1) : ∀ ok, K_bodkinref09_segments_2 LG 0 (execL LG 0 (.loop L_bodkinref09_segments_2) (S_bodkinref09_segments_2 (.ptr 0 0) (.t (.v (.bool ok))) (.t (.v (.int .i64 i))) (.ptr 1 0) (.t (.v (.int .i64 0))) (segB m x))) =
    K_bodkinref09_segments_1 LG 0 (execL LG 0 (.loop L_bodkinref09_segments_1) (S_bodkinref09_segments_1 (.ptr 0 0) (.t (.v (.bool (ok && x.init.all rExpr)))) (.t (.v (.int .i64 (i + 1)))) (modB m))) := by
  have key := for_ind x.init hxo.2.2.2.2.1 (fun k r => ∀ ok, K_bodkinref09_segments_2 LG 0 (execL LG 0 (.loop L_bodkinref09_segments_2) (S_bodkinref09_segments_2 (.ptr 0 0) (.t (.v (.bool ok))) (.t (.v (.int .i64 i))) (.ptr 1 0) (.t (.v (.int .i64 k))) (segB m x))) =
      K_bodkinref09_segments_1 LG 0 (execL LG 0 (.loop L_bodkinref09_segments_1) (S_bodkinref09_segments_1 (.ptr 0 0) (.t (.v (.bool (ok && r.all rExpr)))) (.t (.v (.int .i64 (i + 1)))) (modB m))))
    (fun ok => by
      rw [execL_loop_eq]; simp [K_bodkinref09_segments_2, K_bodkinref09_segments_1, hw, trimE_eq, refs, refs.refsL]; rfl) (fun k y r hk hy hmm hwk ihr ok => by
      have h2 := r_expr y (hxo.2.2.2.2.2 y hmm) (hs y hmm).1
      rw [execL_loop_eq]
      have e := ihr (ok && rExpr y)
      simp only [K_bodkinref09_segments_2, K_bodkinref09_segments_1] at e ⊢
      simp at hwk
      simp +contextual [-opsC_guardE, opsC_guard, hk, hy, hw, hwk, h2, trimE_eq, refs, refs.refsL, Bool.and_assoc]
      simp only [Bool.and_assoc] at e
      exact e)
  simpa using key
def rElm (e : Elm) : Bool := (rRef e.ref && (rPlace e.mode e.table e.offset && (decide (0 ≤ e.mode) && decide (e.mode ≤ 2)))) && e.init.all rExpr
theorem seg1 (m : Mod) (hm : m.ok) (hs : ∀ e ∈ m.elems, SmallC e.offset ∧ ∀ c ∈ e.init, SmallC c) : ∀ ok, K_bodkinref09_segments_1 LG 0 (execL LG 0 (.loop L_bodkinref09_segments_1) (S_bodkinref09_segments_1 (.ptr 0 0) (.t (.v (.bool ok))) (.t (.v (.int .i64 0))) (modB m))) =
    K_bodkinref09_segments_0 LG 0 (execL LG 0 (.loop L_bodkinref09_segments_0) (S_bodkinref09_segments_0 (.ptr 0 0) (.t (.v (.bool (ok && m.elems.all rElm)))) (.t (.v (.int .i64 0))) (modB m))) := by
  have key := for_ind m.elems hm.elemsL (fun k r => ∀ ok, K_bodkinref09_segments_1 LG 0 (execL LG 0 (.loop L_bodkinref09_segments_1) (S_bodkinref09_segments_1 (.ptr 0 0) (.t (.v (.bool ok))) (.t (.v (.int .i64 k))) (modB m))) =
      K_bodkinref09_segments_0 LG 0 (execL LG 0 (.loop L_bodkinref09_segments_0) (S_bodkinref09_segments_0 (.ptr 0 0) (.t (.v (.bool (ok && r.all rElm)))) (.t (.v (.int .i64 0))) (modB m))))
    (fun ok => by rw [execL_loop_eq]; simp [K_bodkinref09_segments_1, K_bodkinref09_segments_0]; try rfl) (fun k x r hk hx hmm hw ihr ok => by
      have hok := hm.elems x hmm
      rw [execL_loop_eq]
      have e := ihr (ok && rElm x)
      simp only [K_bodkinref09_segments_1, K_bodkinref09_segments_0] at e ⊢
      simp at hw
      have h2 := r_place x.mode x.table x.offset hok.2.2.2.1 (hs x hmm).1.1
      have h3 := seg2 m hm k x hok (hs x hmm).2 hw (ok && (rRef x.ref && (rPlace x.mode x.table x.offset && (decide (0 ≤ x.mode) && decide (x.mode ≤ 2)))))
      simp only [K_bodkinref09_segments_2, K_bodkinref09_segments_1] at h3
      simp +contextual [-opsC_guardE, opsC_guard, hx, hk, hw, h2, r_ref, trimE_eq, refs, refs.refsL, Bool.and_assoc]
      refine Eq.trans h3 ?_
      simp only [rElm, Bool.and_assoc] at e ⊢
      exact e)
  simpa using key
def rSeg (m : Mod) : Bool := m.elems.all rElm && m.datas.all rDat
theorem r_segments (m : Mod) (hm : m.ok) (h1 : ∀ e ∈ m.elems, SmallC e.offset ∧ ∀ c ∈ e.init, SmallC c) (h0 : ∀ d ∈ m.datas, SmallC d.offset) (H : List AO) : doC fn_bodkinref09_segments [.t m.enc] H = some (.t (.v (.bool (rSeg m))), H) := by
  refine pureC rfl rfl rfl rfl ?_ H
  rw [callE LG rfl rfl rfl]
  have e := seg1 m hm h1 true
  rw [seg0 m hm h0] at e
  simp only [K_bodkinref09_segments_1, Bool.true_and] at e
  simp
  exact e
end Go.Proofs.YtbabbianbhcjiaaGreatDoor
