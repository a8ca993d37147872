/- Parts, one behind the other; the last: shape.May. -/
import Derived.Test.YtgehpjjpeddomaaGreatDoorZCImpA
import Derived.Test.YtgehpjjpeddomaaGreatDoorZCShape3
set_option linter.all false
/- The closures of shape.May. -/
namespace Go.Proofs.YtgehpjjpeddomaaGreatDoor
open Go
set_option maxRecDepth 100000

/-- Code that is small enough for the contracts. -/
def SmallC (l : List Ins) : Prop := nestL l ≤ 1000000 ∧ countL l ≤ 1000000
def pFun (t : FunT) : Bool := t.params.all pValue && t.results.all pValue
theorem c_may1 (t : FunT) (ht : t.ok) (H : List AO) : doC fn_shape_May_1 [.t t.enc] H = some (.t (.v (.bool (pFun t))), H) := by
  refine pureC rfl rfl rfl rfl ?_ H
  rw [callE LG rfl rfl rfl]
  have h1 := all_value t.params ht.1.1
  have h2 := all_value t.results ht.2.1
  simp +contextual [-opsC_guardE, opsC_guard, h1, h2, pFun]
def pCod (c : Cod) : Bool := pIndex c.type && (decide (c.locals.length ≤ 50000) && (c.locals.all pValue && pCode c.body))
theorem c_may2 (c : Cod) (hc : c.ok) (hs : SmallC c.body) (H : List AO) : doC fn_shape_May_2 [.t c.enc] H = some (.t (.v (.bool (pCod c))), H) := by
  refine pureC rfl rfl rfl rfl ?_ H
  rw [callE LG rfl rfl rfl]
  have h1 := all_value c.locals hc.2.1.1
  have h2 := c_code c.body hc.2.2 hs.1 hs.2
  have h3 : ((c.locals.length : Int) ≤ 50000) = (c.locals.length ≤ 50000) := by apply propext; omega
  simp +contextual [-opsC_guardE, opsC_guard, c_index, h1, h2, h3, pCod, Bool.and_assoc]
def pGlo (g : Glo) : Bool := pValue g.type.type && pCode g.init
theorem c_may3 (g : Glo) (hc : g.ok) (hs : SmallC g.init) (H : List AO) : doC fn_shape_May_3 [.t g.enc] H = some (.t (.v (.bool (pGlo g))), H) := by
  refine pureC rfl rfl rfl rfl ?_ H
  rw [callE LG rfl rfl rfl]
  have h2 := c_code g.init hc.2 hs.1 hs.2
  simp +contextual [-opsC_guardE, opsC_guard, c_value, h2, pGlo]
def pExp (x : Exp) : Bool := utf x.name && (decide (0 ≤ x.kind) && (decide (x.kind ≤ 3) && pIndex x.index))
theorem c_may4 (x : Exp) (hx : x.ok) (H : List AO) : doC fn_shape_May_4 [.t x.enc] H = some (.t (.v (.bool (pExp x))), H) := by
  refine pureC rfl rfl rfl rfl ?_ H
  rw [callE LG rfl rfl rfl]
  have h1 := c_utf x.name hx.1
  simp +contextual [-opsC_guardE, opsC_guard, c_index, h1, pExp, Bool.and_assoc]
def pPlace (mode of : Int) (l : List Ins) : Bool := (decide (mode = 0) && (pIndex of && pCode l)) || (!decide (mode = 0) && (decide (of = 0) && decide (l.length = 0)))
theorem c_may5 (mode of : Int) (l : List Ins) (hl : Inss l) (hs : SmallC l) (H : List AO) : doC fn_shape_May_5 [.t (.v (.int .i64 mode)), .t (.v (.int .i64 of)), .t (.sl (l.map Ins.enc))] H = some (.t (.v (.bool (pPlace mode of l))), H) := by
  refine pureC rfl rfl rfl rfl ?_ H
  rw [callE LG rfl rfl rfl]
  have h2 := c_code l hl hs.1 hs.2
  have h3 : ((l.length : Int) = 0) = (l.length = 0) := by apply propext; omega
  unfold pPlace
  by_cases k : mode = 0
  · simp +contextual [-opsC_guardE, opsC_guard, c_index, h2, h3, k]
  · simp +contextual [-opsC_guardE, opsC_guard, c_index, h2, h3, k]
end Go.Proofs.YtgehpjjpeddomaaGreatDoor
/- The closures of shape.May that hold a box, and all over them. -/
namespace Go.Proofs.YtgehpjjpeddomaaGreatDoor
open Go
set_option maxRecDepth 100000
abbrev plBox : List AO := [.box [.clo fn_shape_May_5 [] []]]
abbrev plBox2 (f : Nat) : List AO := [.box [.clo f [] [.ptr 1 0]], .box [.clo fn_shape_May_5 [] []]]
theorem all2_Elm (l : List Elm) (hl : lenOk l) (p : Elm → Bool) (hp : ∀ x ∈ l, callL LG fn_shape_May_6 [.t x.enc, .ptr 0 0] plBox = some (.t (.v (.bool (p x))), plBox)) :
    runC fn_shape_all_api_Elem [.t (.sl (l.map Elm.enc)), .clo fn_shape_May_6 [] [.ptr 0 0]] plBox = some (.t (.v (.bool (l.all p))), plBox) := by
  have h1 : TellsIn (.clo fn_shape_all_api_Elem_1 [] [.ptr 0 0]) (plBox2 fn_shape_May_6) l Elm.enc (fun x => !p x) := fun x hx => by
    have := hp x hx
    simp [doCall_eq LG (callL LG) (f := fn_shape_all_api_Elem_1) rfl]
    rw [callE LG (f := fn_shape_all_api_Elem_1) rfl rfl rfl]
    simp [doCall_eq LG (callL LG) (f := fn_shape_May_6) rfl, this]
  have h2 : runC fn_slices_ContainsFunc_sapi_Elem_api_Elem [.t (.sl (l.map Elm.enc)), .clo fn_shape_all_api_Elem_1 [] [.ptr 0 0]] (plBox2 fn_shape_May_6) = some (.t (.v (.bool (l.any fun x => !p x))), plBox2 fn_shape_May_6) := by
    have hr := IndexFunc_Elm l hl _ _ _ h1
    unfold runC at hr ⊢
    rw [callE LG rfl rfl rfl]
    simp [doCall_eq LG (callL LG) (f := fn_slices_IndexFunc_sapi_Elem_api_Elem) rfl, hr, findI_ge]
  unfold runC at h2 ⊢
  rw [callE LG rfl rfl rfl, List.all_eq_not_any_not]
  simp [doCall_eq LG (callL LG) (f := fn_slices_ContainsFunc_sapi_Elem_api_Elem) rfl, h2]
theorem all2_Dat (l : List Dat) (hl : lenOk l) (p : Dat → Bool) (hp : ∀ x ∈ l, callL LG fn_shape_May_7 [.t x.enc, .ptr 0 0] plBox = some (.t (.v (.bool (p x))), plBox)) :
    runC fn_shape_all_api_Data [.t (.sl (l.map Dat.enc)), .clo fn_shape_May_7 [] [.ptr 0 0]] plBox = some (.t (.v (.bool (l.all p))), plBox) := by
  have h1 : TellsIn (.clo fn_shape_all_api_Data_1 [] [.ptr 0 0]) (plBox2 fn_shape_May_7) l Dat.enc (fun x => !p x) := fun x hx => by
    have := hp x hx
    simp [doCall_eq LG (callL LG) (f := fn_shape_all_api_Data_1) rfl]
    rw [callE LG (f := fn_shape_all_api_Data_1) rfl rfl rfl]
    simp [doCall_eq LG (callL LG) (f := fn_shape_May_7) rfl, this]
  have h2 : runC fn_slices_ContainsFunc_sapi_Data_api_Data [.t (.sl (l.map Dat.enc)), .clo fn_shape_all_api_Data_1 [] [.ptr 0 0]] (plBox2 fn_shape_May_7) = some (.t (.v (.bool (l.any fun x => !p x))), plBox2 fn_shape_May_7) := by
    have hr := IndexFunc_Dat l hl _ _ _ h1
    unfold runC at hr ⊢
    rw [callE LG rfl rfl rfl]
    simp [doCall_eq LG (callL LG) (f := fn_slices_IndexFunc_sapi_Data_api_Data) rfl, hr, findI_ge]
  unfold runC at h2 ⊢
  rw [callE LG rfl rfl rfl, List.all_eq_not_any_not]
  simp [doCall_eq LG (callL LG) (f := fn_slices_ContainsFunc_sapi_Data_api_Data) rfl, h2]

def pElm (e : Elm) : Bool := pRef e.ref && (decide (0 ≤ e.mode) && (decide (e.mode ≤ 2) && (pPlace e.mode e.table e.offset && e.init.all pCode)))
theorem all_code (l : List (List Ins)) (hl : lenOk l) (hk : ∀ c ∈ l, Inss c ∧ SmallC c) (H : List AO) : doC fn_shape_all_sapi_Instr [.t (.sl (l.map inss)), .clo fn_shape_code [] []] H = some (.t (.v (.bool (l.all pCode))), H) :=
  all_inss l hl _ _ ⟨⟨rfl, rfl, rfl⟩, fun x hx H => by simp [c_code x (hk x hx).1 (hk x hx).2.1 (hk x hx).2.2]⟩ H
theorem c_may6 (e : Elm) (he : e.ok) (hs : SmallC e.offset) (hi : ∀ c ∈ e.init, SmallC c) : callL LG fn_shape_May_6 [.t e.enc, .ptr 0 0] plBox = some (.t (.v (.bool (pElm e))), plBox) := by
  rw [callE LG rfl rfl rfl]
  have h1 := c_may5 e.mode e.table e.offset he.2.2.2.1 hs
  have h2 := all_code e.init he.2.2.2.2.1 (fun c hc => ⟨he.2.2.2.2.2 c hc, hi c hc⟩)
  simp +contextual [-opsC_guardE, opsC_guard, c_ref, h1, h2, pElm, Bool.and_assoc]
def pDat (d : Dat) : Bool := (decide (d.mode = 0) || decide (d.mode = 1)) && pPlace d.mode d.mem d.offset
theorem c_may7 (d : Dat) (hd : d.ok) (hs : SmallC d.offset) : callL LG fn_shape_May_7 [.t d.enc, .ptr 0 0] plBox = some (.t (.v (.bool (pDat d))), plBox) := by
  rw [callE LG rfl rfl rfl]
  have h1 := c_may5 d.mode d.mem d.offset hd.2.2.1 hs
  unfold pDat
  by_cases k : d.mode = 0
  · rw [k] at h1 ⊢
    simp +contextual [-opsC_guardE, opsC_guard, h1, k]
  · by_cases k1 : d.mode = 1
    · rw [k1] at h1 ⊢
      simp +contextual [-opsC_guardE, opsC_guard, h1, k1]
    · simp +contextual [-opsC_guardE, opsC_guard, h1, k, k1]
end Go.Proofs.YtgehpjjpeddomaaGreatDoor
/- shape.asks. -/
namespace Go.Proofs.YtgehpjjpeddomaaGreatDoor
open Go
set_option maxRecDepth 100000
abbrev asBox : List AO := [.box [.clo fn_shape_asks_1 [] []]]
abbrev asBox2 (f : Nat) : List AO := [.box [.clo f [] [.ptr 1 0]], .box [.clo fn_shape_asks_1 [] []]]
theorem all2_Cod (l : List Cod) (hl : lenOk l) (p : Cod → Bool) (hp : ∀ x ∈ l, callL LG fn_shape_asks_2 [.t x.enc, .ptr 0 0] asBox = some (.t (.v (.bool (p x))), asBox)) :
    runC fn_shape_all_api_Code [.t (.sl (l.map Cod.enc)), .clo fn_shape_asks_2 [] [.ptr 0 0]] asBox = some (.t (.v (.bool (l.all p))), asBox) := by
  have h1 : TellsIn (.clo fn_shape_all_api_Code_1 [] [.ptr 0 0]) (asBox2 fn_shape_asks_2) l Cod.enc (fun x => !p x) := fun x hx => by
    have := hp x hx
    simp [doCall_eq LG (callL LG) (f := fn_shape_all_api_Code_1) rfl]
    rw [callE LG (f := fn_shape_all_api_Code_1) rfl rfl rfl]
    simp [doCall_eq LG (callL LG) (f := fn_shape_asks_2) rfl, this]
  have h2 : runC fn_slices_ContainsFunc_sapi_Code_api_Code [.t (.sl (l.map Cod.enc)), .clo fn_shape_all_api_Code_1 [] [.ptr 0 0]] (asBox2 fn_shape_asks_2) = some (.t (.v (.bool (l.any fun x => !p x))), asBox2 fn_shape_asks_2) := by
    have hr := IndexFunc_Cod l hl _ _ _ h1
    unfold runC at hr ⊢
    rw [callE LG rfl rfl rfl]
    simp [doCall_eq LG (callL LG) (f := fn_slices_IndexFunc_sapi_Code_api_Code) rfl, hr, findI_ge]
  unfold runC at h2 ⊢
  rw [callE LG rfl rfl rfl, List.all_eq_not_any_not]
  simp [doCall_eq LG (callL LG) (f := fn_slices_ContainsFunc_sapi_Code_api_Code) rfl, h2]
theorem c_asks2 (c : Cod) (hc : c.ok) (hs : SmallC c.body) : callL LG fn_shape_asks_2 [.t c.enc, .ptr 0 0] asBox = some (.t (.v (.bool (everyL noneS c.body))), asBox) := by
  rw [callE LG rfl rfl rfl]
  have h1 := c_each _ _ _ tells_none c.body hc.2.2 (deep_true _)
  simp [h1]
theorem c_asks (m : Mod) (hm : m.ok) (hs : ∀ c ∈ m.funcs, SmallC c.body) (H : List AO) : doC fn_shape_asks [.t m.enc] H = some (.t (.v (.bool (!m.funcs.all fun c => everyL noneS c.body))), H) := by
  refine pureC rfl rfl rfl rfl ?_ H
  rw [callE LG rfl rfl rfl]
  have h := all2_Cod m.funcs hm.funcsL _ (fun c hc => c_asks2 c (hm.funcs c hc) (hs c hc))
  unfold runC at h
  simp [doCall_eq LG (callL LG) (f := fn_shape_all_api_Code) rfl, h]
end Go.Proofs.YtgehpjjpeddomaaGreatDoor
/- shape.May. -/
namespace Go.Proofs.YtgehpjjpeddomaaGreatDoor
open Go
set_option maxRecDepth 100000
/-- What the contract of May asks of a module's size. -/
structure SmallM (m : Mod) : Prop where
  funcs : ∀ c ∈ m.funcs, SmallC c.body
  globals : ∀ g ∈ m.globals, SmallC g.init
  offs : ∀ e ∈ m.elems, SmallC e.offset
  inits : ∀ e ∈ m.elems, ∀ c ∈ e.init, SmallC c
  datas : ∀ d ∈ m.datas, SmallC d.offset
def pMay (m : Mod) : Bool :=
  m.types.all pFun && (m.imports.all pImp && (m.funcs.all pCod && (m.tables.all pTab && (m.mems.all pLim && (m.globals.all pGlo && (m.exports.all pExp && (decide (0 ≤ m.start) && (decide (m.start ≤ 4294967296) &&
    (m.elems.all pElm && (m.datas.all pDat && (m.count || !(!m.funcs.all fun c => everyL noneS c.body))))))))))))
theorem c_may (m : Mod) (hm : m.ok) (hs : SmallM m) (H : List AO) : doC fn_shape_May [.t m.enc] H = some (.t (.v (.bool (pMay m))), H) := by
  refine pureC rfl rfl rfl rfl ?_ H
  rw [callE LG rfl rfl rfl]
  have a1 := all_FunT m.types hm.typesL (.clo fn_shape_May_1 [] []) pFun ⟨⟨rfl, rfl, rfl⟩, fun x hx H => by simp [c_may1 x (hm.types x hx)]⟩
  have a2 := all_Imp m.imports hm.importsL (.clo fn_shape_imported [] []) pImp ⟨⟨rfl, rfl, rfl⟩, fun x hx H => by simp [c_imported x (hm.imports x hx).1 (hm.imports x hx).2.1]⟩
  have a3 := all_Cod m.funcs hm.funcsL (.clo fn_shape_May_2 [] []) pCod ⟨⟨rfl, rfl, rfl⟩, fun x hx H => by simp [c_may2 x (hm.funcs x hx) (hs.funcs x hx)]⟩
  have a4 := all_TabT m.tables hm.tablesL (.clo fn_shape_table [] []) pTab ⟨⟨rfl, rfl, rfl⟩, fun x hx H => by simp [c_table x]⟩
  have a5 := all_Lim m.mems hm.memsL (.clo fn_shape_limits [] []) pLim ⟨⟨rfl, rfl, rfl⟩, fun x hx H => by simp [c_limits x]⟩
  have a6 := all_Glo m.globals hm.globalsL (.clo fn_shape_May_3 [] []) pGlo ⟨⟨rfl, rfl, rfl⟩, fun x hx H => by simp [c_may3 x (hm.globals x hx) (hs.globals x hx)]⟩
  have a7 := all_Exp m.exports hm.exportsL (.clo fn_shape_May_4 [] []) pExp ⟨⟨rfl, rfl, rfl⟩, fun x hx H => by simp [c_may4 x (hm.exports x hx)]⟩
  have a8 := all2_Elm m.elems hm.elemsL _ (fun x hx => c_may6 x (hm.elems x hx) (hs.offs x hx) (hs.inits x hx))
  have a9 := all2_Dat m.datas hm.datasL _ (fun x hx => c_may7 x (hm.datas x hx) (hs.datas x hx))
  have a10 := c_asks m hm hs.funcs
  unfold runC at a8 a9
  simp +contextual [-opsC_guardE, opsC_guard, a1, a2, a3, a4, a5, a6, a7, a10, doCall_eq LG (callL LG) (f := fn_shape_all_api_Elem) rfl, doCall_eq LG (callL LG) (f := fn_shape_all_api_Data) rfl, a8, a9, pMay, Bool.and_assoc]
end Go.Proofs.YtgehpjjpeddomaaGreatDoor
