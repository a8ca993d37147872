/- Parts, one behind the other; the last: What fits is small. -/
import Derived.Test.YtbabbianbhcjiaaGreatDoorZCSeg
import Derived.Test.YtbabbianbhcjiaaGreatDoorZCMay
set_option linter.all false
/- bodkinref09.May. -/
namespace Go.Proofs.YtbabbianbhcjiaaGreatDoor
open Go
set_option maxRecDepth 100000
/-- What the contract asks of a module's size. -/
structure SmallR (m : Mod) : Prop extends SmallM m where
  imports : ∀ i ∈ m.imports, i.module.length ≤ 1000000 ∧ i.name.length ≤ 1000000
  exports : ∀ x ∈ m.exports, x.name.length ≤ 1000000
def rFunT (t : FunT) : Bool := t.params.all rVal && t.results.all rVal
def rCod (cnt : Bool) (f : Cod) : Bool := rIndex f.type && (f.locals.all rVal && (rExpr f.body && (decide (f.locals.length ≤ 50000) && (cnt || !asksL f.body))))
def rGlo (g : Glo) : Bool := rVal g.type.type && rExpr g.init
def rExp (x : Exp) : Bool := (utf x.name && utf []) && (rIndex x.index && (decide (0 ≤ x.kind) && decide (x.kind ≤ 3)))
def rMay (m : Mod) : Bool := (decide (0 ≤ m.start) && decide (m.start ≤ 4294967296)) && m.types.all rFunT && m.imports.all rImp && m.funcs.all (rCod m.count) && m.tables.all rTab && m.mems.all rLim && m.globals.all rGlo && m.exports.all rExp && rSeg m
theorem rmay6 (m : Mod) (hm : m.ok) (hs : SmallR m) : ∀ ok, K_bodkinref09_May_6 LG 0 (execL LG 0 (.loop L_bodkinref09_May_6) (S_bodkinref09_May_6 (.ptr 0 0) (.t (.v (.bool ok))) (.t (.v (.int .i64 0))) (modB m))) =
    K_bodkinref09_May_5 LG 0 (execL LG 0 (.loop L_bodkinref09_May_5) (S_bodkinref09_May_5 (.ptr 0 0) (.t (.v (.bool (ok && m.types.all rFunT)))) (.t (.v (.int .i64 0))) (modB m))) := by
  have key := for_ind m.types hm.typesL (fun k r => ∀ ok, K_bodkinref09_May_6 LG 0 (execL LG 0 (.loop L_bodkinref09_May_6) (S_bodkinref09_May_6 (.ptr 0 0) (.t (.v (.bool ok))) (.t (.v (.int .i64 k))) (modB m))) =
      K_bodkinref09_May_5 LG 0 (execL LG 0 (.loop L_bodkinref09_May_5) (S_bodkinref09_May_5 (.ptr 0 0) (.t (.v (.bool (ok && r.all rFunT)))) (.t (.v (.int .i64 0))) (modB m))))
    (fun ok => by
      rw [execL_loop_eq]
      simp +contextual [-opsC_guardE, opsC_guard, K_bodkinref09_May_6, K_bodkinref09_May_5]
      try rfl) (fun k x r hk hx hmm hw ihr ok => by
      have hok := hm.types x hmm
      rw [execL_loop_eq]
      have e := ihr (ok && rFunT x)
      simp only [K_bodkinref09_May_6, K_bodkinref09_May_5, rFunT] at e ⊢
      simp at hw
      have h1 := r_vals x.params hok.1.1
      have h2 := r_vals x.results hok.2.1
      simp +contextual [-opsC_guardE, opsC_guard, hx, hk, hw, h1, h2, trimE_eq, refs, refs.refsL, Bool.and_assoc, rFunT]
      simp only [Bool.and_assoc] at e ⊢
      exact e)
  simpa using key
theorem rmay5 (m : Mod) (hm : m.ok) (hs : SmallR m) : ∀ ok, K_bodkinref09_May_5 LG 0 (execL LG 0 (.loop L_bodkinref09_May_5) (S_bodkinref09_May_5 (.ptr 0 0) (.t (.v (.bool ok))) (.t (.v (.int .i64 0))) (modB m))) =
    K_bodkinref09_May_4 LG 0 (execL LG 0 (.loop L_bodkinref09_May_4) (S_bodkinref09_May_4 (.ptr 0 0) (.t (.v (.bool (ok && m.imports.all rImp)))) (.t (.v (.int .i64 0))) (modB m))) := by
  have key := for_ind m.imports hm.importsL (fun k r => ∀ ok, K_bodkinref09_May_5 LG 0 (execL LG 0 (.loop L_bodkinref09_May_5) (S_bodkinref09_May_5 (.ptr 0 0) (.t (.v (.bool ok))) (.t (.v (.int .i64 k))) (modB m))) =
      K_bodkinref09_May_4 LG 0 (execL LG 0 (.loop L_bodkinref09_May_4) (S_bodkinref09_May_4 (.ptr 0 0) (.t (.v (.bool (ok && r.all rImp)))) (.t (.v (.int .i64 0))) (modB m))))
    (fun ok => by
      rw [execL_loop_eq]
      simp +contextual [-opsC_guardE, opsC_guard, K_bodkinref09_May_5, K_bodkinref09_May_4]
      try rfl) (fun k x r hk hx hmm hw ihr ok => by
      have hok := hm.imports x hmm
      rw [execL_loop_eq]
      have e := ihr (ok && rImp x)
      simp only [K_bodkinref09_May_5, K_bodkinref09_May_4] at e ⊢
      simp at hw
      have h1 := r_imported x (hs.imports x hmm).1 (hs.imports x hmm).2
      simp +contextual [-opsC_guardE, opsC_guard, hx, hk, hw, h1, trimE_eq, refs, refs.refsL, Bool.and_assoc]
      simp only [Bool.and_assoc] at e ⊢
      exact e)
  simpa using key
theorem rmay4 (m : Mod) (hm : m.ok) (hs : SmallR m) : ∀ ok, K_bodkinref09_May_4 LG 0 (execL LG 0 (.loop L_bodkinref09_May_4) (S_bodkinref09_May_4 (.ptr 0 0) (.t (.v (.bool ok))) (.t (.v (.int .i64 0))) (modB m))) =
    K_bodkinref09_May_3 LG 0 (execL LG 0 (.loop L_bodkinref09_May_3) (S_bodkinref09_May_3 (.ptr 0 0) (.t (.v (.bool (ok && m.funcs.all (rCod m.count))))) (.t (.v (.int .i64 0))) (modB m))) := by
  have key := for_ind m.funcs hm.funcsL (fun k r => ∀ ok, K_bodkinref09_May_4 LG 0 (execL LG 0 (.loop L_bodkinref09_May_4) (S_bodkinref09_May_4 (.ptr 0 0) (.t (.v (.bool ok))) (.t (.v (.int .i64 k))) (modB m))) =
      K_bodkinref09_May_3 LG 0 (execL LG 0 (.loop L_bodkinref09_May_3) (S_bodkinref09_May_3 (.ptr 0 0) (.t (.v (.bool (ok && r.all (rCod m.count))))) (.t (.v (.int .i64 0))) (modB m))))
    (fun ok => by
      rw [execL_loop_eq]
      simp +contextual [-opsC_guardE, opsC_guard, K_bodkinref09_May_4, K_bodkinref09_May_3]
      try rfl) (fun k x r hk hx hmm hw ihr ok => by
      have hok := hm.funcs x hmm
      rw [execL_loop_eq]
      have e := ihr (ok && (rCod m.count) x)
      simp only [K_bodkinref09_May_4, K_bodkinref09_May_3, rCod] at e ⊢
      simp at hw
      have h1 := r_vals x.locals hok.2.1.1
      have h2 := r_expr x.body hok.2.2 (hs.funcs x hmm).1
      have h3 := r_asks x.body hok.2.2
      have h4 : ((x.locals.length : Int) ≤ 50000) = (x.locals.length ≤ 50000) := cst _ _
      simp +contextual [-opsC_guardE, opsC_guard, hx, hk, hw, h1, h2, h3, h4, r_index, trimE_eq, refs, refs.refsL, Bool.and_assoc, rCod]
      simp only [Bool.and_assoc] at e ⊢
      exact e)
  simpa using key
theorem rmay3 (m : Mod) (hm : m.ok) (hs : SmallR m) : ∀ ok, K_bodkinref09_May_3 LG 0 (execL LG 0 (.loop L_bodkinref09_May_3) (S_bodkinref09_May_3 (.ptr 0 0) (.t (.v (.bool ok))) (.t (.v (.int .i64 0))) (modB m))) =
    K_bodkinref09_May_2 LG 0 (execL LG 0 (.loop L_bodkinref09_May_2) (S_bodkinref09_May_2 (.ptr 0 0) (.t (.v (.bool (ok && m.tables.all rTab)))) (.t (.v (.int .i64 0))) (modB m))) := by
  have key := for_ind m.tables hm.tablesL (fun k r => ∀ ok, K_bodkinref09_May_3 LG 0 (execL LG 0 (.loop L_bodkinref09_May_3) (S_bodkinref09_May_3 (.ptr 0 0) (.t (.v (.bool ok))) (.t (.v (.int .i64 k))) (modB m))) =
      K_bodkinref09_May_2 LG 0 (execL LG 0 (.loop L_bodkinref09_May_2) (S_bodkinref09_May_2 (.ptr 0 0) (.t (.v (.bool (ok && r.all rTab)))) (.t (.v (.int .i64 0))) (modB m))))
    (fun ok => by
      rw [execL_loop_eq]
      simp +contextual [-opsC_guardE, opsC_guard, K_bodkinref09_May_3, K_bodkinref09_May_2]
      try rfl) (fun k x r hk hx hmm hw ihr ok => by
      have hok := hm.tables x hmm
      rw [execL_loop_eq]
      have e := ihr (ok && rTab x)
      simp only [K_bodkinref09_May_3, K_bodkinref09_May_2] at e ⊢
      simp at hw
      
      simp +contextual [-opsC_guardE, opsC_guard, hx, hk, hw, r_table, trimE_eq, refs, refs.refsL, Bool.and_assoc]
      simp only [Bool.and_assoc] at e ⊢
      exact e)
  simpa using key
theorem rmay2 (m : Mod) (hm : m.ok) (hs : SmallR m) : ∀ ok, K_bodkinref09_May_2 LG 0 (execL LG 0 (.loop L_bodkinref09_May_2) (S_bodkinref09_May_2 (.ptr 0 0) (.t (.v (.bool ok))) (.t (.v (.int .i64 0))) (modB m))) =
    K_bodkinref09_May_1 LG 0 (execL LG 0 (.loop L_bodkinref09_May_1) (S_bodkinref09_May_1 (.ptr 0 0) (.t (.v (.bool (ok && m.mems.all rLim)))) (.t (.v (.int .i64 0))) (modB m))) := by
  have key := for_ind m.mems hm.memsL (fun k r => ∀ ok, K_bodkinref09_May_2 LG 0 (execL LG 0 (.loop L_bodkinref09_May_2) (S_bodkinref09_May_2 (.ptr 0 0) (.t (.v (.bool ok))) (.t (.v (.int .i64 k))) (modB m))) =
      K_bodkinref09_May_1 LG 0 (execL LG 0 (.loop L_bodkinref09_May_1) (S_bodkinref09_May_1 (.ptr 0 0) (.t (.v (.bool (ok && r.all rLim)))) (.t (.v (.int .i64 0))) (modB m))))
    (fun ok => by
      rw [execL_loop_eq]
      simp +contextual [-opsC_guardE, opsC_guard, K_bodkinref09_May_2, K_bodkinref09_May_1]
      try rfl) (fun k x r hk hx hmm hw ihr ok => by
      have hok := hm.mems x hmm
      rw [execL_loop_eq]
      have e := ihr (ok && rLim x)
      simp only [K_bodkinref09_May_2, K_bodkinref09_May_1] at e ⊢
      simp at hw
      
      simp +contextual [-opsC_guardE, opsC_guard, hx, hk, hw, r_limits, trimE_eq, refs, refs.refsL, Bool.and_assoc]
      simp only [Bool.and_assoc] at e ⊢
      exact e)
  simpa using key
theorem rmay1 (m : Mod) (hm : m.ok) (hs : SmallR m) : ∀ ok, K_bodkinref09_May_1 LG 0 (execL LG 0 (.loop L_bodkinref09_May_1) (S_bodkinref09_May_1 (.ptr 0 0) (.t (.v (.bool ok))) (.t (.v (.int .i64 0))) (modB m))) =
    K_bodkinref09_May_0 LG 0 (execL LG 0 (.loop L_bodkinref09_May_0) (S_bodkinref09_May_0 (.ptr 0 0) (.t (.v (.bool (ok && m.globals.all rGlo)))) (.t (.v (.int .i64 0))) (modB m))) := by
  have key := for_ind m.globals hm.globalsL (fun k r => ∀ ok, K_bodkinref09_May_1 LG 0 (execL LG 0 (.loop L_bodkinref09_May_1) (S_bodkinref09_May_1 (.ptr 0 0) (.t (.v (.bool ok))) (.t (.v (.int .i64 k))) (modB m))) =
      K_bodkinref09_May_0 LG 0 (execL LG 0 (.loop L_bodkinref09_May_0) (S_bodkinref09_May_0 (.ptr 0 0) (.t (.v (.bool (ok && r.all rGlo)))) (.t (.v (.int .i64 0))) (modB m))))
    (fun ok => by
      rw [execL_loop_eq]
      simp +contextual [-opsC_guardE, opsC_guard, K_bodkinref09_May_1, K_bodkinref09_May_0]
      try rfl) (fun k x r hk hx hmm hw ihr ok => by
      have hok := hm.globals x hmm
      rw [execL_loop_eq]
      have e := ihr (ok && rGlo x)
      simp only [K_bodkinref09_May_1, K_bodkinref09_May_0, rGlo] at e ⊢
      simp at hw
      have h2 := r_expr x.init hok.2 (hs.globals x hmm).1
      simp +contextual [-opsC_guardE, opsC_guard, hx, hk, hw, h2, r_val, trimE_eq, refs, refs.refsL, Bool.and_assoc, rGlo]
      simp only [Bool.and_assoc] at e ⊢
      exact e)
  simpa using key
theorem rmay0 (m : Mod) (hm : m.ok) (hs : SmallR m) : ∀ ok, K_bodkinref09_May_0 LG 0 (execL LG 0 (.loop L_bodkinref09_May_0) (S_bodkinref09_May_0 (.ptr 0 0) (.t (.v (.bool ok))) (.t (.v (.int .i64 0))) (modB m))) =
    some (.t (.v (.bool ((ok && m.exports.all rExp) && rSeg m))), []) := by
  have key := for_ind m.exports hm.exportsL (fun k r => ∀ ok, K_bodkinref09_May_0 LG 0 (execL LG 0 (.loop L_bodkinref09_May_0) (S_bodkinref09_May_0 (.ptr 0 0) (.t (.v (.bool ok))) (.t (.v (.int .i64 k))) (modB m))) =
      some (.t (.v (.bool ((ok && r.all rExp) && rSeg m))), []))
    (fun ok => by
      have sg := r_segments m hm (fun e he => ⟨hs.offs e he, hs.inits e he⟩) hs.datas
      rw [execL_loop_eq]
      simp +contextual [-opsC_guardE, opsC_guard, K_bodkinref09_May_0, sg]
      try rfl) (fun k x r hk hx hmm hw ihr ok => by
      have hok := hm.exports x hmm
      rw [execL_loop_eq]
      have e := ihr (ok && rExp x)
      simp only [K_bodkinref09_May_0, rExp] at e ⊢
      simp at hw
      have h1 := r_names x.name [] (hs.exports x hmm) (by simp)
      simp +contextual [-opsC_guardE, opsC_guard, hx, hk, hw, h1, r_index, trimE_eq, refs, refs.refsL, Bool.and_assoc, rExp]
      simp only [Bool.and_assoc] at e ⊢
      exact e)
  simpa using key
end Go.Proofs.YtbabbianbhcjiaaGreatDoor
/- bodkinref09.May, whole. -/
namespace Go.Proofs.YtbabbianbhcjiaaGreatDoor
open Go
set_option maxRecDepth 100000
theorem r_may (m : Mod) (hm : m.ok) (hs : SmallR m) (H : List AO) : doC fn_bodkinref09_May [.t m.enc] H = some (.t (.v (.bool (rMay m))), H) := by
  refine pureC rfl rfl rfl rfl ?_ H
  rw [callE LG rfl rfl rfl]
  have e := rmay6 m hm hs (decide (0 ≤ m.start) && decide (m.start ≤ 4294967296))
  rw [rmay5 m hm hs, rmay4 m hm hs, rmay3 m hm hs, rmay2 m hm hs, rmay1 m hm hs, rmay0 m hm hs] at e
  simp only [K_bodkinref09_May_6] at e
  simp +contextual [-opsC_guardE, opsC_guard]
  exact e
end Go.Proofs.YtbabbianbhcjiaaGreatDoor
/- The plain law of May: both sides say the same. -/
namespace Go.Proofs.YtbabbianbhcjiaaGreatDoor
open Go
set_option maxRecDepth 100000
theorem index_eq (n : Int) : rIndex n = pIndex n := rfl
theorem ref_eq (n : Int) : rRef n = pRef n := rfl
theorem val_eq (n : Int) : rVal n = pValue n := by
  rw [Bool.eq_iff_iff]
  simp only [rVal, pValue, pRef, Bool.or_eq_true, Bool.and_eq_true, decide_eq_true_eq]
  omega
theorem idx_eq (l : List Int) : rIdx 4294967296 l = l.all pIndex := by
  unfold rIdx; congr 1; funext n
  rw [Bool.eq_iff_iff]; simp only [pIndex, Bool.and_eq_true, Bool.not_eq_true', decide_eq_true_eq, decide_eq_false_iff_not]; omega
theorem oct_eq (l : List Int) : rIdx 256 l = l.all pOctet := by
  unfold rIdx; congr 1; funext n
  rw [Bool.eq_iff_iff]; simp only [pOctet, Bool.and_eq_true, Bool.not_eq_true', decide_eq_true_eq, decide_eq_false_iff_not]; omega
theorem vals_eq (l : List Int) : l.all rVal = l.all pValue := by congr 1; funext n; exact val_eq n
theorem one_eq (i : Ins) : pOne i = rOne i := by
  unfold pOne rOne
  cases knownS i.op with
  | false => rfl
  | true =>
    rw [Bool.true_and, Bool.true_and]
    rcases imm_cases i.op with h | h | h | h | h | h | h | h | h | h | h | h | h | h | h | h | h | h | h | h | h | h | h | h | h | h | h
    all_goals rw [h]
    all_goals simp only [pOneK, rOneK, rFin, pWithin, idx_eq, oct_eq, vals_eq, val_eq, index_eq, ref_eq]
    all_goals simp (config := {decide := true}) only [if_true, if_false]
    all_goals generalize pIndex i.a = g1
    all_goals generalize pIndex i.b = g2
    all_goals generalize i.l.all pIndex = g3
    all_goals generalize i.l.all pOctet = g4
    all_goals generalize i.l.all pValue = g5
    all_goals generalize pRef i.a = g6
    all_goals generalize pValue i.b = g7
    all_goals generalize i.l.length = n
    all_goals generalize i.body.length = nb
    all_goals generalize i.els.length = ne
    all_goals generalize i.other = o
    all_goals rw [Bool.eq_iff_iff]
    all_goals simp only [pOctet, Bool.and_eq_true, Bool.or_eq_true, Bool.not_eq_true', Bool.and_eq_false_iff, Bool.or_eq_false_iff, decide_eq_true_eq, decide_eq_false_iff_not, Bool.not_eq_false', Bool.false_eq_true, Bool.true_eq_false]
    all_goals grind
theorem pone_rone : pOne = rOne := funext one_eq
theorem code_eq (l : List Ins) : pCode l = rExpr l := by
  unfold pCode rExpr
  rw [pone_rone, Bool.and_comm]
theorem place_eq2 (mode of : Int) (l : List Ins) : pPlace mode of l = rPlace mode of l := by
  unfold pPlace rPlace
  by_cases h : mode = 0
  · simp [h, code_eq, index_eq]
  · simp [h]
theorem funT_eq (t : FunT) : pFun t = rFunT t := by simp only [pFun, rFunT, vals_eq]
theorem glo_eq (g : Glo) : pGlo g = rGlo g := by simp only [pGlo, rGlo, val_eq, code_eq]
theorem exp_eq (x : Exp) : pExp x = rExp x := by
  have h : utf [] = true := rfl
  unfold pExp rExp
  rw [h, Bool.and_true, index_eq]
  cases utf x.name <;> cases pIndex x.index <;> cases decide (0 ≤ x.kind) <;> cases decide (x.kind ≤ 3) <;> rfl
theorem imp_eq (i : Imp) : pImp i = rImp i := by
  unfold pImp rImp
  simp only [index_eq, val_eq]
  rw [Bool.and_assoc, Bool.and_comm]
  rfl
theorem elm_eq (e : Elm) : pElm e = rElm e := by
  unfold pElm rElm
  rw [place_eq2, ref_eq, show e.init.all pCode = e.init.all rExpr from by congr 1; funext l; exact code_eq l]
  cases pRef e.ref <;> cases decide (0 ≤ e.mode) <;> cases decide (e.mode ≤ 2) <;> cases rPlace e.mode e.table e.offset <;> simp
theorem dat_eq (d : Dat) : pDat d = rDat d := by
  unfold pDat rDat
  rw [place_eq2]
  have : (decide (d.mode = 0) || decide (d.mode = 1)) = (decide (0 ≤ d.mode) && decide (d.mode ≤ 1)) := by
    rw [Bool.eq_iff_iff]; simp only [Bool.or_eq_true, Bool.and_eq_true, decide_eq_true_eq]; omega
  rw [this, Bool.and_comm]
theorem imm_unknown {op : Int} (h : knownS op = false) : immS op = 0 := by
  have hr : rowS op = [] := by
    unfold knownS at h; simpa using h
  unfold immS partS
  rw [hr]
  rfl
theorem asks_eq (l : List Ins) : everyL noneS l = !asksL l := by
  refine ins_ind (P := fun l => everyL noneS l = !asksL l) ?_ _ l (Nat.le_refl _)
  intro l ih
  induction l with
  | nil => rfl
  | cons i r ihr =>
    obtain ⟨h1, h2⟩ := ih i (by simp)
    have h3 := ihr (fun j hj => ih j (by simp [hj]))
    rw [everyL, asksL, Ins.every_eq, Ins.asks_eq, h1, h2, h3]
    unfold noneS
    cases hk : knownS i.op with
    | false =>
      rw [imm_unknown hk]
      cases asksL i.body <;> cases asksL i.els <;> cases asksL r <;> rfl
    | true =>
      cases decide (immS i.op = 17) <;> cases decide (immS i.op = 18) <;> cases asksL i.body <;> cases asksL i.els <;> cases asksL r <;> rfl
theorem may_eq (m : Mod) : pMay m = rMay m := by
  unfold pMay rMay rSeg
  have c : (m.funcs.all pCod && (m.count || !(!m.funcs.all fun c => everyL noneS c.body))) = m.funcs.all (rCod m.count) := by
    rw [Bool.not_not]
    induction m.funcs with
    | nil => simp
    | cons f r ih =>
      simp only [List.all_cons, ← ih]
      generalize r.all pCod = a1
      generalize (r.all fun c => everyL noneS c.body) = a2
      unfold pCod rCod
      rw [asks_eq, index_eq, vals_eq, code_eq]
      generalize pIndex f.type = a3
      generalize f.locals.all pValue = a4
      generalize rExpr f.body = a5
      generalize asksL f.body = a6
      generalize decide (f.locals.length ≤ 50000) = a7
      generalize m.count = a8
      revert a1 a2 a3 a4 a5 a6 a7 a8
      decide
  rw [← c]
  rw [show m.types.all pFun = m.types.all rFunT from by congr 1; funext t; exact funT_eq t,
    show m.imports.all pImp = m.imports.all rImp from by congr 1; funext t; exact imp_eq t,
    show m.globals.all pGlo = m.globals.all rGlo from by congr 1; funext t; exact glo_eq t,
    show m.exports.all pExp = m.exports.all rExp from by congr 1; funext t; exact exp_eq t,
    show m.elems.all pElm = m.elems.all rElm from by congr 1; funext t; exact elm_eq t,
    show m.datas.all pDat = m.datas.all rDat from by congr 1; funext t; exact dat_eq t,
    show m.tables.all pTab = m.tables.all rTab from rfl,
    show m.mems.all pLim = m.mems.all rLim from rfl]
  ac_rfl
end Go.Proofs.YtbabbianbhcjiaaGreatDoor
/- What fits is small. -/
namespace Go.Proofs.YtbabbianbhcjiaaGreatDoor
open Go
theorem few_small {l : List Ins} (h : few l = true) : SmallC l := by
  have := few_spec h; exact ⟨by omega, by omega⟩
theorem fits_small {m : Mod} (h : fits m = true) : SmallR m := by
  unfold fits at h
  simp only [Bool.and_eq_true, List.all_eq_true] at h
  obtain ⟨⟨⟨⟨⟨⟨⟨h0, h1⟩, h2⟩, h3⟩, h4⟩, h5⟩, h6⟩, h7⟩ := h
  refine { funcs := fun c hc => ?_, globals := fun g hg => ?_, offs := fun e he => ?_, inits := fun e he c hc => ?_, datas := fun d hd => ?_, imports := fun i hi => ?_, exports := fun x hx => ?_ }
  · have := h4 c hc; simp only [fF, Bool.and_eq_true] at this; exact few_small this.1
  · exact few_small (h5 g hg)
  · have := h6 e he; simp only [fEl, Bool.and_eq_true] at this; exact few_small this.1.1
  · have := h6 e he; simp only [fEl, Bool.and_eq_true, List.all_eq_true] at this; exact few_small (this.2 c hc)
  · have := h7 d hd; simp only [fD, Bool.and_eq_true] at this; exact few_small this.1
  · have := h2 i hi; simp only [fI, Bool.and_eq_true, decide_eq_true_eq] at this; omega
  · have := h3 x hx; simp only [fE, decide_eq_true_eq] at this; omega
end Go.Proofs.YtbabbianbhcjiaaGreatDoor
