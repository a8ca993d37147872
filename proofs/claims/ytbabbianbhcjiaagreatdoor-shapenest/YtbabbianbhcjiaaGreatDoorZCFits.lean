/- Contracts of the reference for shape: whether a module is small enough. -/
import Derived.Test.YtbabbianbhcjiaaGreatDoorZCRef09b
set_option linter.all false
namespace Go.Proofs.YtbabbianbhcjiaaGreatDoor
open Go
set_option maxRecDepth 100000

/-- A module that lies in a box. -/
abbrev modB (m : Mod) : List AO := [.box (m.enc.cells.map .t)]

def fT (t : FunT) : Bool := decide (t.params.length ≤ 1000) && decide (t.results.length ≤ 1000)
def fI (i : Imp) : Bool := decide (i.module.length ≤ 1000) && decide (i.name.length ≤ 1000)
def fE (x : Exp) : Bool := decide (x.name.length ≤ 1000)
def fF (f : Cod) : Bool := few f.body && decide (f.locals.length ≤ 60000)
def fG (g : Glo) : Bool := few g.init
def fEl (e : Elm) : Bool := few e.offset && decide (e.init.length ≤ 100) && e.init.all few
def fD (d : Dat) : Bool := few d.offset && decide (d.bytes.length ≤ 100000)

theorem trimE_box (off : Nat) (l : List AV) (b : AO) : trimE 0 (.ptr 0 off :: l) [b] = [b] := by simp [trimE, refs.refsL]
@[simp] theorem trimE_mod (off : Nat) (l : List AV) (m : Mod) : trimE 0 (.ptr 0 off :: l) (modB m) = modB m := trimE_box _ _ _
theorem cst (n : Nat) (m : Nat) : ((n : Int) ≤ (m : Int)) = (n ≤ m) := by apply propext; omega

theorem fits7 (m : Mod) (hm : m.ok) : ∀ ok, K_bodkinref09_Fits_7 LG 0 (execL LG 0 (.loop L_bodkinref09_Fits_7) (S_bodkinref09_Fits_7 (.ptr 0 0) (.t (.v (.bool ok))) (.t (.v (.int .i64 0))) (modB m))) =
    K_bodkinref09_Fits_6 LG 0 (execL LG 0 (.loop L_bodkinref09_Fits_6) (S_bodkinref09_Fits_6 (.ptr 0 0) (.t (.v (.bool (ok && m.types.all fT)))) (.t (.v (.int .i64 0))) (modB m))) := by
  have key := for_ind m.types hm.typesL (fun k r => ∀ ok, K_bodkinref09_Fits_7 LG 0 (execL LG 0 (.loop L_bodkinref09_Fits_7) (S_bodkinref09_Fits_7 (.ptr 0 0) (.t (.v (.bool ok))) (.t (.v (.int .i64 k))) (modB m))) =
      K_bodkinref09_Fits_6 LG 0 (execL LG 0 (.loop L_bodkinref09_Fits_6) (S_bodkinref09_Fits_6 (.ptr 0 0) (.t (.v (.bool (ok && r.all fT)))) (.t (.v (.int .i64 0))) (modB m))))
    (fun ok => by rw [execL_loop_eq]; simp [K_bodkinref09_Fits_7, K_bodkinref09_Fits_6]) (fun k x r hk hx hmm hw ihr ok => by
      have hok := hm.types x hmm
      rw [execL_loop_eq]
      cases ok with
      | false => simp [K_bodkinref09_Fits_7, K_bodkinref09_Fits_6, hk]
      | true =>
        have e := ihr (fT x)
        simp only [K_bodkinref09_Fits_7, K_bodkinref09_Fits_6] at e ⊢
        simp at hw
        have h1 : ((x.params.length : Int) ≤ 1000) = (x.params.length ≤ 1000) := cst _ _
        have h2 : ((x.results.length : Int) ≤ 1000) = (x.results.length ≤ 1000) := cst _ _
        simp [hx, hk, hw, h1, h2]
        simpa [fT] using e)
  simpa using key

theorem fits6 (m : Mod) (hm : m.ok) : ∀ ok, K_bodkinref09_Fits_6 LG 0 (execL LG 0 (.loop L_bodkinref09_Fits_6) (S_bodkinref09_Fits_6 (.ptr 0 0) (.t (.v (.bool ok))) (.t (.v (.int .i64 0))) (modB m))) =
    K_bodkinref09_Fits_5 LG 0 (execL LG 0 (.loop L_bodkinref09_Fits_5) (S_bodkinref09_Fits_5 (.ptr 0 0) (.t (.v (.bool (ok && m.imports.all fI)))) (.t (.v (.int .i64 0))) (modB m))) := by
  have key := for_ind m.imports hm.importsL (fun k r => ∀ ok, K_bodkinref09_Fits_6 LG 0 (execL LG 0 (.loop L_bodkinref09_Fits_6) (S_bodkinref09_Fits_6 (.ptr 0 0) (.t (.v (.bool ok))) (.t (.v (.int .i64 k))) (modB m))) =
      K_bodkinref09_Fits_5 LG 0 (execL LG 0 (.loop L_bodkinref09_Fits_5) (S_bodkinref09_Fits_5 (.ptr 0 0) (.t (.v (.bool (ok && r.all fI)))) (.t (.v (.int .i64 0))) (modB m))))
    (fun ok => by rw [execL_loop_eq]; simp [K_bodkinref09_Fits_6, K_bodkinref09_Fits_5]) (fun k x r hk hx hmm hw ihr ok => by
      have hok := hm.imports x hmm
      rw [execL_loop_eq]
      cases ok with
      | false => simp [K_bodkinref09_Fits_6, K_bodkinref09_Fits_5, hk]
      | true =>
        have e := ihr (fI x)
        simp only [K_bodkinref09_Fits_6, K_bodkinref09_Fits_5] at e ⊢
        simp at hw
        have h1 : ((x.module.length : Int) ≤ 1000) = (x.module.length ≤ 1000) := cst _ _
        have h2 : ((x.name.length : Int) ≤ 1000) = (x.name.length ≤ 1000) := cst _ _
        simp [hx, hk, hw, h1, h2]
        simpa [fI] using e)
  simpa using key

theorem fits5 (m : Mod) (hm : m.ok) : ∀ ok, K_bodkinref09_Fits_5 LG 0 (execL LG 0 (.loop L_bodkinref09_Fits_5) (S_bodkinref09_Fits_5 (.ptr 0 0) (.t (.v (.bool ok))) (.t (.v (.int .i64 0))) (modB m))) =
    K_bodkinref09_Fits_4 LG 0 (execL LG 0 (.loop L_bodkinref09_Fits_4) (S_bodkinref09_Fits_4 (.ptr 0 0) (.t (.v (.bool (ok && m.exports.all fE)))) (.t (.v (.int .i64 0))) (modB m))) := by
  have key := for_ind m.exports hm.exportsL (fun k r => ∀ ok, K_bodkinref09_Fits_5 LG 0 (execL LG 0 (.loop L_bodkinref09_Fits_5) (S_bodkinref09_Fits_5 (.ptr 0 0) (.t (.v (.bool ok))) (.t (.v (.int .i64 k))) (modB m))) =
      K_bodkinref09_Fits_4 LG 0 (execL LG 0 (.loop L_bodkinref09_Fits_4) (S_bodkinref09_Fits_4 (.ptr 0 0) (.t (.v (.bool (ok && r.all fE)))) (.t (.v (.int .i64 0))) (modB m))))
    (fun ok => by rw [execL_loop_eq]; simp [K_bodkinref09_Fits_5, K_bodkinref09_Fits_4]) (fun k x r hk hx hmm hw ihr ok => by
      have hok := hm.exports x hmm
      rw [execL_loop_eq]
      cases ok with
      | false => simp [K_bodkinref09_Fits_5, K_bodkinref09_Fits_4, hk]
      | true =>
        have e := ihr (fE x)
        simp only [K_bodkinref09_Fits_5, K_bodkinref09_Fits_4] at e ⊢
        simp at hw
        have h1 : ((x.name.length : Int) ≤ 1000) = (x.name.length ≤ 1000) := cst _ _
        simp [hx, hk, hw, h1]
        simpa [fE] using e)
  simpa using key

theorem fits4 (m : Mod) (hm : m.ok) : ∀ ok, K_bodkinref09_Fits_4 LG 0 (execL LG 0 (.loop L_bodkinref09_Fits_4) (S_bodkinref09_Fits_4 (.ptr 0 0) (.t (.v (.bool ok))) (.t (.v (.int .i64 0))) (modB m))) =
    K_bodkinref09_Fits_3 LG 0 (execL LG 0 (.loop L_bodkinref09_Fits_3) (S_bodkinref09_Fits_3 (.ptr 0 0) (.t (.v (.bool (ok && m.funcs.all fF)))) (.t (.v (.int .i64 0))) (modB m))) := by
  have key := for_ind m.funcs hm.funcsL (fun k r => ∀ ok, K_bodkinref09_Fits_4 LG 0 (execL LG 0 (.loop L_bodkinref09_Fits_4) (S_bodkinref09_Fits_4 (.ptr 0 0) (.t (.v (.bool ok))) (.t (.v (.int .i64 k))) (modB m))) =
      K_bodkinref09_Fits_3 LG 0 (execL LG 0 (.loop L_bodkinref09_Fits_3) (S_bodkinref09_Fits_3 (.ptr 0 0) (.t (.v (.bool (ok && r.all fF)))) (.t (.v (.int .i64 0))) (modB m))))
    (fun ok => by rw [execL_loop_eq]; simp [K_bodkinref09_Fits_4, K_bodkinref09_Fits_3]) (fun k x r hk hx hmm hw ihr ok => by
      have hok := hm.funcs x hmm
      rw [execL_loop_eq]
      cases ok with
      | false => simp [K_bodkinref09_Fits_4, K_bodkinref09_Fits_3, hk]
      | true =>
        have e := ihr (fF x)
        simp only [K_bodkinref09_Fits_4, K_bodkinref09_Fits_3] at e ⊢
        simp at hw
        have h1 : ((x.locals.length : Int) ≤ 60000) = (x.locals.length ≤ 60000) := cst _ _
        have h2 := r_few x.body hok.2.2
        simp [hx, hk, hw, h1, h2]
        simpa [fF] using e)
  simpa using key

theorem fits3 (m : Mod) (hm : m.ok) : ∀ ok, K_bodkinref09_Fits_3 LG 0 (execL LG 0 (.loop L_bodkinref09_Fits_3) (S_bodkinref09_Fits_3 (.ptr 0 0) (.t (.v (.bool ok))) (.t (.v (.int .i64 0))) (modB m))) =
    K_bodkinref09_Fits_1 LG 0 (execL LG 0 (.loop L_bodkinref09_Fits_1) (S_bodkinref09_Fits_1 (.ptr 0 0) (.t (.v (.bool (ok && m.globals.all fG)))) (.t (.v (.int .i64 0))) (modB m))) := by
  have key := for_ind m.globals hm.globalsL (fun k r => ∀ ok, K_bodkinref09_Fits_3 LG 0 (execL LG 0 (.loop L_bodkinref09_Fits_3) (S_bodkinref09_Fits_3 (.ptr 0 0) (.t (.v (.bool ok))) (.t (.v (.int .i64 k))) (modB m))) =
      K_bodkinref09_Fits_1 LG 0 (execL LG 0 (.loop L_bodkinref09_Fits_1) (S_bodkinref09_Fits_1 (.ptr 0 0) (.t (.v (.bool (ok && r.all fG)))) (.t (.v (.int .i64 0))) (modB m))))
    (fun ok => by rw [execL_loop_eq]; simp [K_bodkinref09_Fits_3, K_bodkinref09_Fits_1]) (fun k x r hk hx hmm hw ihr ok => by
      have hok := hm.globals x hmm
      rw [execL_loop_eq]
      cases ok with
      | false => simp [K_bodkinref09_Fits_3, K_bodkinref09_Fits_1, hk]
      | true =>
        have e := ihr (fG x)
        simp only [K_bodkinref09_Fits_3, K_bodkinref09_Fits_1] at e ⊢
        simp at hw
        have h2 := r_few x.init hok.2
        simp [hx, hk, hw, h2]
        simpa [fG] using e)
  simpa using key

theorem fits2 (m : Mod) (hm : m.ok) (i : Nat) (x : Elm) (hi : i < m.elems.length) (hx : m.elems[i] = x) (hxo : x.ok) (hw : IntKind.i64.wrap ((i : Int) + 1) = (i : Int) + 1) : ∀ ok, K_bodkinref09_Fits_2 LG 0 (execL LG 0 (.loop L_bodkinref09_Fits_2) (S_bodkinref09_Fits_2 (.ptr 0 0) (.t (.v (.bool ok))) (.t (.v (.int .i64 i))) (.t (.v (.int .i64 0))) (modB m))) =
    K_bodkinref09_Fits_1 LG 0 (execL LG 0 (.loop L_bodkinref09_Fits_1) (S_bodkinref09_Fits_1 (.ptr 0 0) (.t (.v (.bool (ok && x.init.all few)))) (.t (.v (.int .i64 (i + 1)))) (modB m))) := by
  have key := for_ind x.init hxo.2.2.2.2.1 (fun k r => ∀ ok, K_bodkinref09_Fits_2 LG 0 (execL LG 0 (.loop L_bodkinref09_Fits_2) (S_bodkinref09_Fits_2 (.ptr 0 0) (.t (.v (.bool ok))) (.t (.v (.int .i64 i))) (.t (.v (.int .i64 k))) (modB m))) =
      K_bodkinref09_Fits_1 LG 0 (execL LG 0 (.loop L_bodkinref09_Fits_1) (S_bodkinref09_Fits_1 (.ptr 0 0) (.t (.v (.bool (ok && r.all few)))) (.t (.v (.int .i64 (i + 1)))) (modB m))))
    (fun ok => by rw [execL_loop_eq]; simp [K_bodkinref09_Fits_2, K_bodkinref09_Fits_1, hi, hx, hw]) (fun k y r hk hy hmm hwk ihr ok => by
      have h2 := r_few y (hxo.2.2.2.2.2 y hmm)
      rw [execL_loop_eq]
      cases ok with
      | false => simp [K_bodkinref09_Fits_2, K_bodkinref09_Fits_1, hi, hx, hw, hk]
      | true =>
        have e := ihr (few y)
        simp only [K_bodkinref09_Fits_2, K_bodkinref09_Fits_1] at e ⊢
        simp at hwk
        simp [hx, hi, hk, hy, hw, hwk, h2]
        simpa using e)
  simpa using key

theorem fits1 (m : Mod) (hm : m.ok) : ∀ ok, K_bodkinref09_Fits_1 LG 0 (execL LG 0 (.loop L_bodkinref09_Fits_1) (S_bodkinref09_Fits_1 (.ptr 0 0) (.t (.v (.bool ok))) (.t (.v (.int .i64 0))) (modB m))) =
    K_bodkinref09_Fits_0 LG 0 (execL LG 0 (.loop L_bodkinref09_Fits_0) (S_bodkinref09_Fits_0 (.ptr 0 0) (.t (.v (.bool (ok && m.elems.all fEl)))) (.t (.v (.int .i64 0))) (modB m))) := by
  have key := for_ind m.elems hm.elemsL (fun k r => ∀ ok, K_bodkinref09_Fits_1 LG 0 (execL LG 0 (.loop L_bodkinref09_Fits_1) (S_bodkinref09_Fits_1 (.ptr 0 0) (.t (.v (.bool ok))) (.t (.v (.int .i64 k))) (modB m))) =
      K_bodkinref09_Fits_0 LG 0 (execL LG 0 (.loop L_bodkinref09_Fits_0) (S_bodkinref09_Fits_0 (.ptr 0 0) (.t (.v (.bool (ok && r.all fEl)))) (.t (.v (.int .i64 0))) (modB m))))
    (fun ok => by rw [execL_loop_eq]; simp [K_bodkinref09_Fits_1, K_bodkinref09_Fits_0]) (fun k x r hk hx hmm hw ihr ok => by
      have hok := hm.elems x hmm
      rw [execL_loop_eq]
      cases ok with
      | false => simp [K_bodkinref09_Fits_1, K_bodkinref09_Fits_0, hk]
      | true =>
        have e := ihr (fEl x)
        simp only [K_bodkinref09_Fits_1, K_bodkinref09_Fits_0] at e ⊢
        simp at hw
        have h1 : ((x.init.length : Int) ≤ 100) = (x.init.length ≤ 100) := cst _ _
        have h2 := r_few x.offset hok.2.2.2.1
        have h3 := fits2 m hm k x hk hx hok hw (few x.offset && decide (x.init.length ≤ 100))
        simp only [K_bodkinref09_Fits_2, K_bodkinref09_Fits_1] at h3
        simp [hx, hk, hw, h1, h2]
        refine Eq.trans h3 ?_
        simpa [fEl] using e)
  simpa using key

theorem fits0 (m : Mod) (hm : m.ok) : ∀ ok, K_bodkinref09_Fits_0 LG 0 (execL LG 0 (.loop L_bodkinref09_Fits_0) (S_bodkinref09_Fits_0 (.ptr 0 0) (.t (.v (.bool ok))) (.t (.v (.int .i64 0))) (modB m))) =
    some (.t (.v (.bool (ok && m.datas.all fD))), []) := by
  have key := for_ind m.datas hm.datasL (fun k r => ∀ ok, K_bodkinref09_Fits_0 LG 0 (execL LG 0 (.loop L_bodkinref09_Fits_0) (S_bodkinref09_Fits_0 (.ptr 0 0) (.t (.v (.bool ok))) (.t (.v (.int .i64 k))) (modB m))) =
      some (.t (.v (.bool (ok && r.all fD))), []))
    (fun ok => by rw [execL_loop_eq]; simp [K_bodkinref09_Fits_0]) (fun k x r hk hx hmm hw ihr ok => by
      have hok := hm.datas x hmm
      rw [execL_loop_eq]
      cases ok with
      | false => simp [K_bodkinref09_Fits_0, hk]
      | true =>
        have e := ihr (fD x)
        simp only [K_bodkinref09_Fits_0] at e ⊢
        simp at hw
        have h1 : ((x.bytes.length : Int) ≤ 100000) = (x.bytes.length ≤ 100000) := cst _ _
        have h2 := r_few x.offset hok.2.2.1
        simp [hx, hk, hw, h1, h2]
        simpa [fD] using e)
  simpa using key

def fits (m : Mod) : Bool :=
  (decide (m.types.length ≤ 100) && decide (m.imports.length ≤ 100) && decide (m.funcs.length ≤ 50) && decide (m.tables.length ≤ 100) && decide (m.mems.length ≤ 100) && decide (m.globals.length ≤ 50) && decide (m.exports.length ≤ 100) && decide (m.elems.length ≤ 50) && decide (m.datas.length ≤ 50)) &&
    m.types.all fT && m.imports.all fI && m.exports.all fE && m.funcs.all fF && m.globals.all fG && m.elems.all fEl && m.datas.all fD
theorem r_fits (m : Mod) (hm : m.ok) (H : List AO) : doC fn_bodkinref09_Fits [.t m.enc] H = some (.t (.v (.bool (fits m))), H) := by
  refine pureC rfl rfl rfl rfl ?_ H
  rw [callE LG rfl rfl rfl]
  have h7 := fits7 m hm
  have h6 := fits6 m hm
  have h5 := fits5 m hm
  have h4 := fits4 m hm
  have h3 := fits3 m hm
  have h1 := fits1 m hm
  have h0 := fits0 m hm
  have c1 : ((m.types.length : Int) ≤ 100) = (m.types.length ≤ 100) := cst _ _
  have c2 : ((m.imports.length : Int) ≤ 100) = (m.imports.length ≤ 100) := cst _ _
  have c3 : ((m.funcs.length : Int) ≤ 50) = (m.funcs.length ≤ 50) := cst _ _
  have c4 : ((m.tables.length : Int) ≤ 100) = (m.tables.length ≤ 100) := cst _ _
  have c5 : ((m.mems.length : Int) ≤ 100) = (m.mems.length ≤ 100) := cst _ _
  have c6 : ((m.globals.length : Int) ≤ 50) = (m.globals.length ≤ 50) := cst _ _
  have c7 : ((m.exports.length : Int) ≤ 100) = (m.exports.length ≤ 100) := cst _ _
  have c8 : ((m.elems.length : Int) ≤ 50) = (m.elems.length ≤ 50) := cst _ _
  have c9 : ((m.datas.length : Int) ≤ 50) = (m.datas.length ≤ 50) := cst _ _
  have h7' := h7 (decide (m.types.length ≤ 100) && decide (m.imports.length ≤ 100) && decide (m.funcs.length ≤ 50) && decide (m.tables.length ≤ 100) && decide (m.mems.length ≤ 100) && decide (m.globals.length ≤ 50) && decide (m.exports.length ≤ 100) && decide (m.elems.length ≤ 50) && decide (m.datas.length ≤ 50))
  rw [h6, h5, h4, h3, h1, h0] at h7'
  simp only [K_bodkinref09_Fits_7] at h7'
  simp +contextual [-opsC_guardE, opsC_guard, c1, c2, c3, c4, c5, c6, c7, c8, c9]
  exact h7'
end Go.Proofs.YtbabbianbhcjiaaGreatDoor
