/- Contracts of the helpers that go through a list with a closure, one for each type: laid by a program (gencon.py). -/
import Derived.Test.YtgehpjjpeddomaaGreatDoorZCWin
set_option linter.all false
namespace Go.Proofs.YtgehpjjpeddomaaGreatDoor
open Go
set_option maxRecDepth 100000


theorem IndexFunc_int (l : List (Int)) (hl : lenOk l) (c : AV) (h : List AO) (p : Int → Bool) (hp : TellsIn c h l tInt p) :
    runC fn_slices_IndexFunc_sint_int [.t (.sl (l.map tInt)), c] h = some (.t (.v (.int .i64 (findI p l 0))), h) := by
  unfold runC
  rw [callE LG rfl rfl rfl]
  have key := for_ind l hl (fun k r => K_slices_IndexFunc_sint_int_0 LG h.length (execL LG h.length (.loop L_slices_IndexFunc_sint_int_0) (S_slices_IndexFunc_sint_int_0 (.t (.sl (l.map tInt))) c (.t (.v (.int .i64 l.length))) (.t (.v (.int .i64 k))) h)) = some (.t (.v (.int .i64 (findI p r k))), h))
    (by rw [execL_loop_eq]; simp [K_slices_IndexFunc_sint_int_0, findI]) (fun k x r hk hx hm hw ih => by
      rw [execL_loop_eq]
      have hp' := hp x hm
      simp at ih hw
      simp [K_slices_IndexFunc_sint_int_0, hx, hk, hw, hp', findI, ih]
      cases p x <;> simp)
  simpa [K_slices_IndexFunc_sint_int_0] using key

theorem ContainsFunc_int (l : List (Int)) (hl : lenOk l) (c0 : AV) (hc : c0.closed = true) (f : Nat) (p : Int → Bool) (hp : TellsIn (.clo f [] [.ptr 0 0]) [.box [c0]] l tInt p) :
    runC fn_slices_ContainsFunc_sint_int [.t (.sl (l.map tInt)), .clo f [] [.ptr 0 0]] [.box [c0]] = some (.t (.v (.bool (l.any p))), [.box [c0]]) := by
  have hr := IndexFunc_int l hl _ _ p hp
  obtain ⟨q1, q2⟩ := closed_clo0 hc
  unfold runC at hr ⊢
  rw [callE LG rfl rfl rfl]
  simp [doCall_eq LG (callL LG) (f := fn_slices_IndexFunc_sint_int) rfl, q1, q2, hr, findI_ge]

theorem all_int (l : List (Int)) (hl : lenOk l) (c0 : AV) (p : Int → Bool) (hp : Tells c0 l tInt p) (H : List AO) :
    doC fn_shape_all_int [.t (.sl (l.map tInt)), c0] H = some (.t (.v (.bool (l.all p))), H) := by
  obtain ⟨⟨hc, q3, q4⟩, hp⟩ := hp
  obtain ⟨q1, q2⟩ := closed_clo0 hc
  have h1 : TellsIn (.clo fn_shape_all_int_1 [] [.ptr 0 0]) [.box [c0]] l tInt (fun x => !p x) := fun x hx => by
    have := hp x hx
    simp [doCall_eq LG (callL LG) (f := fn_shape_all_int_1) rfl, q1, q2]
    rw [callE LG (f := fn_shape_all_int_1) rfl rfl rfl]
    simp [this, q1, q2]
  have h2 := ContainsFunc_int l hl c0 hc _ _ h1
  refine pureC rfl rfl (by simp [AV.closed, AV.closed.closedL, hc]) rfl ?_ H
  rw [callE LG rfl rfl rfl, List.all_eq_not_any_not]
  unfold runC at h2
  simp [doCall_eq LG (callL LG) (f := fn_slices_ContainsFunc_sint_int) rfl, q1, q2, q3, q4, h2]


theorem IndexFunc_inss (l : List (List Ins)) (hl : lenOk l) (c : AV) (h : List AO) (p : List Ins → Bool) (hp : TellsIn c h l inss p) :
    runC fn_slices_IndexFunc_ssapi_Instr_sapi_Instr [.t (.sl (l.map inss)), c] h = some (.t (.v (.int .i64 (findI p l 0))), h) := by
  unfold runC
  rw [callE LG rfl rfl rfl]
  have key := for_ind l hl (fun k r => K_slices_IndexFunc_ssapi_Instr_sapi_Instr_0 LG h.length (execL LG h.length (.loop L_slices_IndexFunc_ssapi_Instr_sapi_Instr_0) (S_slices_IndexFunc_ssapi_Instr_sapi_Instr_0 (.t (.sl (l.map inss))) c (.t (.v (.int .i64 l.length))) (.t (.v (.int .i64 k))) h)) = some (.t (.v (.int .i64 (findI p r k))), h))
    (by rw [execL_loop_eq]; simp [K_slices_IndexFunc_ssapi_Instr_sapi_Instr_0, findI]) (fun k x r hk hx hm hw ih => by
      rw [execL_loop_eq]
      have hp' := hp x hm
      simp at ih hw
      simp [K_slices_IndexFunc_ssapi_Instr_sapi_Instr_0, hx, hk, hw, hp', findI, ih]
      cases p x <;> simp)
  simpa [K_slices_IndexFunc_ssapi_Instr_sapi_Instr_0] using key

theorem ContainsFunc_inss (l : List (List Ins)) (hl : lenOk l) (c0 : AV) (hc : c0.closed = true) (f : Nat) (p : List Ins → Bool) (hp : TellsIn (.clo f [] [.ptr 0 0]) [.box [c0]] l inss p) :
    runC fn_slices_ContainsFunc_ssapi_Instr_sapi_Instr [.t (.sl (l.map inss)), .clo f [] [.ptr 0 0]] [.box [c0]] = some (.t (.v (.bool (l.any p))), [.box [c0]]) := by
  have hr := IndexFunc_inss l hl _ _ p hp
  obtain ⟨q1, q2⟩ := closed_clo0 hc
  unfold runC at hr ⊢
  rw [callE LG rfl rfl rfl]
  simp [doCall_eq LG (callL LG) (f := fn_slices_IndexFunc_ssapi_Instr_sapi_Instr) rfl, q1, q2, hr, findI_ge]

theorem all_inss (l : List (List Ins)) (hl : lenOk l) (c0 : AV) (p : List Ins → Bool) (hp : Tells c0 l inss p) (H : List AO) :
    doC fn_shape_all_sapi_Instr [.t (.sl (l.map inss)), c0] H = some (.t (.v (.bool (l.all p))), H) := by
  obtain ⟨⟨hc, q3, q4⟩, hp⟩ := hp
  obtain ⟨q1, q2⟩ := closed_clo0 hc
  have h1 : TellsIn (.clo fn_shape_all_sapi_Instr_1 [] [.ptr 0 0]) [.box [c0]] l inss (fun x => !p x) := fun x hx => by
    have := hp x hx
    simp [doCall_eq LG (callL LG) (f := fn_shape_all_sapi_Instr_1) rfl, q1, q2]
    rw [callE LG (f := fn_shape_all_sapi_Instr_1) rfl rfl rfl]
    simp [this, q1, q2]
  have h2 := ContainsFunc_inss l hl c0 hc _ _ h1
  refine pureC rfl rfl (by simp [AV.closed, AV.closed.closedL, hc]) rfl ?_ H
  rw [callE LG rfl rfl rfl, List.all_eq_not_any_not]
  unfold runC at h2
  simp [doCall_eq LG (callL LG) (f := fn_slices_ContainsFunc_ssapi_Instr_sapi_Instr) rfl, q1, q2, q3, q4, h2]


theorem IndexFunc_FunT (l : List (FunT)) (hl : lenOk l) (c : AV) (h : List AO) (p : FunT → Bool) (hp : TellsIn c h l FunT.enc p) :
    runC fn_slices_IndexFunc_sapi_FuncType_api_FuncType [.t (.sl (l.map FunT.enc)), c] h = some (.t (.v (.int .i64 (findI p l 0))), h) := by
  unfold runC
  rw [callE LG rfl rfl rfl]
  have key := for_ind l hl (fun k r => K_slices_IndexFunc_sapi_FuncType_api_FuncType_0 LG h.length (execL LG h.length (.loop L_slices_IndexFunc_sapi_FuncType_api_FuncType_0) (S_slices_IndexFunc_sapi_FuncType_api_FuncType_0 (.t (.sl (l.map FunT.enc))) c (.t (.v (.int .i64 l.length))) (.t (.v (.int .i64 k))) h)) = some (.t (.v (.int .i64 (findI p r k))), h))
    (by rw [execL_loop_eq]; simp [K_slices_IndexFunc_sapi_FuncType_api_FuncType_0, findI]) (fun k x r hk hx hm hw ih => by
      rw [execL_loop_eq]
      have hp' := hp x hm
      simp at ih hw
      simp [K_slices_IndexFunc_sapi_FuncType_api_FuncType_0, hx, hk, hw, hp', findI, ih]
      cases p x <;> simp)
  simpa [K_slices_IndexFunc_sapi_FuncType_api_FuncType_0] using key

theorem ContainsFunc_FunT (l : List (FunT)) (hl : lenOk l) (c0 : AV) (hc : c0.closed = true) (f : Nat) (p : FunT → Bool) (hp : TellsIn (.clo f [] [.ptr 0 0]) [.box [c0]] l FunT.enc p) :
    runC fn_slices_ContainsFunc_sapi_FuncType_api_FuncType [.t (.sl (l.map FunT.enc)), .clo f [] [.ptr 0 0]] [.box [c0]] = some (.t (.v (.bool (l.any p))), [.box [c0]]) := by
  have hr := IndexFunc_FunT l hl _ _ p hp
  obtain ⟨q1, q2⟩ := closed_clo0 hc
  unfold runC at hr ⊢
  rw [callE LG rfl rfl rfl]
  simp [doCall_eq LG (callL LG) (f := fn_slices_IndexFunc_sapi_FuncType_api_FuncType) rfl, q1, q2, hr, findI_ge]

theorem all_FunT (l : List (FunT)) (hl : lenOk l) (c0 : AV) (p : FunT → Bool) (hp : Tells c0 l FunT.enc p) (H : List AO) :
    doC fn_shape_all_api_FuncType [.t (.sl (l.map FunT.enc)), c0] H = some (.t (.v (.bool (l.all p))), H) := by
  obtain ⟨⟨hc, q3, q4⟩, hp⟩ := hp
  obtain ⟨q1, q2⟩ := closed_clo0 hc
  have h1 : TellsIn (.clo fn_shape_all_api_FuncType_1 [] [.ptr 0 0]) [.box [c0]] l FunT.enc (fun x => !p x) := fun x hx => by
    have := hp x hx
    simp [doCall_eq LG (callL LG) (f := fn_shape_all_api_FuncType_1) rfl, q1, q2]
    rw [callE LG (f := fn_shape_all_api_FuncType_1) rfl rfl rfl]
    simp [this, q1, q2]
  have h2 := ContainsFunc_FunT l hl c0 hc _ _ h1
  refine pureC rfl rfl (by simp [AV.closed, AV.closed.closedL, hc]) rfl ?_ H
  rw [callE LG rfl rfl rfl, List.all_eq_not_any_not]
  unfold runC at h2
  simp [doCall_eq LG (callL LG) (f := fn_slices_ContainsFunc_sapi_FuncType_api_FuncType) rfl, q1, q2, q3, q4, h2]


theorem IndexFunc_Imp (l : List (Imp)) (hl : lenOk l) (c : AV) (h : List AO) (p : Imp → Bool) (hp : TellsIn c h l Imp.enc p) :
    runC fn_slices_IndexFunc_sapi_Import_api_Import [.t (.sl (l.map Imp.enc)), c] h = some (.t (.v (.int .i64 (findI p l 0))), h) := by
  unfold runC
  rw [callE LG rfl rfl rfl]
  have key := for_ind l hl (fun k r => K_slices_IndexFunc_sapi_Import_api_Import_0 LG h.length (execL LG h.length (.loop L_slices_IndexFunc_sapi_Import_api_Import_0) (S_slices_IndexFunc_sapi_Import_api_Import_0 (.t (.sl (l.map Imp.enc))) c (.t (.v (.int .i64 l.length))) (.t (.v (.int .i64 k))) h)) = some (.t (.v (.int .i64 (findI p r k))), h))
    (by rw [execL_loop_eq]; simp [K_slices_IndexFunc_sapi_Import_api_Import_0, findI]) (fun k x r hk hx hm hw ih => by
      rw [execL_loop_eq]
      have hp' := hp x hm
      simp at ih hw
      simp [K_slices_IndexFunc_sapi_Import_api_Import_0, hx, hk, hw, hp', findI, ih]
      cases p x <;> simp)
  simpa [K_slices_IndexFunc_sapi_Import_api_Import_0] using key

theorem ContainsFunc_Imp (l : List (Imp)) (hl : lenOk l) (c0 : AV) (hc : c0.closed = true) (f : Nat) (p : Imp → Bool) (hp : TellsIn (.clo f [] [.ptr 0 0]) [.box [c0]] l Imp.enc p) :
    runC fn_slices_ContainsFunc_sapi_Import_api_Import [.t (.sl (l.map Imp.enc)), .clo f [] [.ptr 0 0]] [.box [c0]] = some (.t (.v (.bool (l.any p))), [.box [c0]]) := by
  have hr := IndexFunc_Imp l hl _ _ p hp
  obtain ⟨q1, q2⟩ := closed_clo0 hc
  unfold runC at hr ⊢
  rw [callE LG rfl rfl rfl]
  simp [doCall_eq LG (callL LG) (f := fn_slices_IndexFunc_sapi_Import_api_Import) rfl, q1, q2, hr, findI_ge]

theorem all_Imp (l : List (Imp)) (hl : lenOk l) (c0 : AV) (p : Imp → Bool) (hp : Tells c0 l Imp.enc p) (H : List AO) :
    doC fn_shape_all_api_Import [.t (.sl (l.map Imp.enc)), c0] H = some (.t (.v (.bool (l.all p))), H) := by
  obtain ⟨⟨hc, q3, q4⟩, hp⟩ := hp
  obtain ⟨q1, q2⟩ := closed_clo0 hc
  have h1 : TellsIn (.clo fn_shape_all_api_Import_1 [] [.ptr 0 0]) [.box [c0]] l Imp.enc (fun x => !p x) := fun x hx => by
    have := hp x hx
    simp [doCall_eq LG (callL LG) (f := fn_shape_all_api_Import_1) rfl, q1, q2]
    rw [callE LG (f := fn_shape_all_api_Import_1) rfl rfl rfl]
    simp [this, q1, q2]
  have h2 := ContainsFunc_Imp l hl c0 hc _ _ h1
  refine pureC rfl rfl (by simp [AV.closed, AV.closed.closedL, hc]) rfl ?_ H
  rw [callE LG rfl rfl rfl, List.all_eq_not_any_not]
  unfold runC at h2
  simp [doCall_eq LG (callL LG) (f := fn_slices_ContainsFunc_sapi_Import_api_Import) rfl, q1, q2, q3, q4, h2]


theorem IndexFunc_Cod (l : List (Cod)) (hl : lenOk l) (c : AV) (h : List AO) (p : Cod → Bool) (hp : TellsIn c h l Cod.enc p) :
    runC fn_slices_IndexFunc_sapi_Code_api_Code [.t (.sl (l.map Cod.enc)), c] h = some (.t (.v (.int .i64 (findI p l 0))), h) := by
  unfold runC
  rw [callE LG rfl rfl rfl]
  have key := for_ind l hl (fun k r => K_slices_IndexFunc_sapi_Code_api_Code_0 LG h.length (execL LG h.length (.loop L_slices_IndexFunc_sapi_Code_api_Code_0) (S_slices_IndexFunc_sapi_Code_api_Code_0 (.t (.sl (l.map Cod.enc))) c (.t (.v (.int .i64 l.length))) (.t (.v (.int .i64 k))) h)) = some (.t (.v (.int .i64 (findI p r k))), h))
    (by rw [execL_loop_eq]; simp [K_slices_IndexFunc_sapi_Code_api_Code_0, findI]) (fun k x r hk hx hm hw ih => by
      rw [execL_loop_eq]
      have hp' := hp x hm
      simp at ih hw
      simp [K_slices_IndexFunc_sapi_Code_api_Code_0, hx, hk, hw, hp', findI, ih]
      cases p x <;> simp)
  simpa [K_slices_IndexFunc_sapi_Code_api_Code_0] using key

theorem ContainsFunc_Cod (l : List (Cod)) (hl : lenOk l) (c0 : AV) (hc : c0.closed = true) (f : Nat) (p : Cod → Bool) (hp : TellsIn (.clo f [] [.ptr 0 0]) [.box [c0]] l Cod.enc p) :
    runC fn_slices_ContainsFunc_sapi_Code_api_Code [.t (.sl (l.map Cod.enc)), .clo f [] [.ptr 0 0]] [.box [c0]] = some (.t (.v (.bool (l.any p))), [.box [c0]]) := by
  have hr := IndexFunc_Cod l hl _ _ p hp
  obtain ⟨q1, q2⟩ := closed_clo0 hc
  unfold runC at hr ⊢
  rw [callE LG rfl rfl rfl]
  simp [doCall_eq LG (callL LG) (f := fn_slices_IndexFunc_sapi_Code_api_Code) rfl, q1, q2, hr, findI_ge]

theorem all_Cod (l : List (Cod)) (hl : lenOk l) (c0 : AV) (p : Cod → Bool) (hp : Tells c0 l Cod.enc p) (H : List AO) :
    doC fn_shape_all_api_Code [.t (.sl (l.map Cod.enc)), c0] H = some (.t (.v (.bool (l.all p))), H) := by
  obtain ⟨⟨hc, q3, q4⟩, hp⟩ := hp
  obtain ⟨q1, q2⟩ := closed_clo0 hc
  have h1 : TellsIn (.clo fn_shape_all_api_Code_1 [] [.ptr 0 0]) [.box [c0]] l Cod.enc (fun x => !p x) := fun x hx => by
    have := hp x hx
    simp [doCall_eq LG (callL LG) (f := fn_shape_all_api_Code_1) rfl, q1, q2]
    rw [callE LG (f := fn_shape_all_api_Code_1) rfl rfl rfl]
    simp [this, q1, q2]
  have h2 := ContainsFunc_Cod l hl c0 hc _ _ h1
  refine pureC rfl rfl (by simp [AV.closed, AV.closed.closedL, hc]) rfl ?_ H
  rw [callE LG rfl rfl rfl, List.all_eq_not_any_not]
  unfold runC at h2
  simp [doCall_eq LG (callL LG) (f := fn_slices_ContainsFunc_sapi_Code_api_Code) rfl, q1, q2, q3, q4, h2]


theorem IndexFunc_TabT (l : List (TabT)) (hl : lenOk l) (c : AV) (h : List AO) (p : TabT → Bool) (hp : TellsIn c h l TabT.enc p) :
    runC fn_slices_IndexFunc_sapi_TableType_api_TableType [.t (.sl (l.map TabT.enc)), c] h = some (.t (.v (.int .i64 (findI p l 0))), h) := by
  unfold runC
  rw [callE LG rfl rfl rfl]
  have key := for_ind l hl (fun k r => K_slices_IndexFunc_sapi_TableType_api_TableType_0 LG h.length (execL LG h.length (.loop L_slices_IndexFunc_sapi_TableType_api_TableType_0) (S_slices_IndexFunc_sapi_TableType_api_TableType_0 (.t (.sl (l.map TabT.enc))) c (.t (.v (.int .i64 l.length))) (.t (.v (.int .i64 k))) h)) = some (.t (.v (.int .i64 (findI p r k))), h))
    (by rw [execL_loop_eq]; simp [K_slices_IndexFunc_sapi_TableType_api_TableType_0, findI]) (fun k x r hk hx hm hw ih => by
      rw [execL_loop_eq]
      have hp' := hp x hm
      simp at ih hw
      simp [K_slices_IndexFunc_sapi_TableType_api_TableType_0, hx, hk, hw, hp', findI, ih]
      cases p x <;> simp)
  simpa [K_slices_IndexFunc_sapi_TableType_api_TableType_0] using key

theorem ContainsFunc_TabT (l : List (TabT)) (hl : lenOk l) (c0 : AV) (hc : c0.closed = true) (f : Nat) (p : TabT → Bool) (hp : TellsIn (.clo f [] [.ptr 0 0]) [.box [c0]] l TabT.enc p) :
    runC fn_slices_ContainsFunc_sapi_TableType_api_TableType [.t (.sl (l.map TabT.enc)), .clo f [] [.ptr 0 0]] [.box [c0]] = some (.t (.v (.bool (l.any p))), [.box [c0]]) := by
  have hr := IndexFunc_TabT l hl _ _ p hp
  obtain ⟨q1, q2⟩ := closed_clo0 hc
  unfold runC at hr ⊢
  rw [callE LG rfl rfl rfl]
  simp [doCall_eq LG (callL LG) (f := fn_slices_IndexFunc_sapi_TableType_api_TableType) rfl, q1, q2, hr, findI_ge]

theorem all_TabT (l : List (TabT)) (hl : lenOk l) (c0 : AV) (p : TabT → Bool) (hp : Tells c0 l TabT.enc p) (H : List AO) :
    doC fn_shape_all_api_TableType [.t (.sl (l.map TabT.enc)), c0] H = some (.t (.v (.bool (l.all p))), H) := by
  obtain ⟨⟨hc, q3, q4⟩, hp⟩ := hp
  obtain ⟨q1, q2⟩ := closed_clo0 hc
  have h1 : TellsIn (.clo fn_shape_all_api_TableType_1 [] [.ptr 0 0]) [.box [c0]] l TabT.enc (fun x => !p x) := fun x hx => by
    have := hp x hx
    simp [doCall_eq LG (callL LG) (f := fn_shape_all_api_TableType_1) rfl, q1, q2]
    rw [callE LG (f := fn_shape_all_api_TableType_1) rfl rfl rfl]
    simp [this, q1, q2]
  have h2 := ContainsFunc_TabT l hl c0 hc _ _ h1
  refine pureC rfl rfl (by simp [AV.closed, AV.closed.closedL, hc]) rfl ?_ H
  rw [callE LG rfl rfl rfl, List.all_eq_not_any_not]
  unfold runC at h2
  simp [doCall_eq LG (callL LG) (f := fn_slices_ContainsFunc_sapi_TableType_api_TableType) rfl, q1, q2, q3, q4, h2]


theorem IndexFunc_Lim (l : List (Lim)) (hl : lenOk l) (c : AV) (h : List AO) (p : Lim → Bool) (hp : TellsIn c h l Lim.enc p) :
    runC fn_slices_IndexFunc_sapi_Limits_api_Limits [.t (.sl (l.map Lim.enc)), c] h = some (.t (.v (.int .i64 (findI p l 0))), h) := by
  unfold runC
  rw [callE LG rfl rfl rfl]
  have key := for_ind l hl (fun k r => K_slices_IndexFunc_sapi_Limits_api_Limits_0 LG h.length (execL LG h.length (.loop L_slices_IndexFunc_sapi_Limits_api_Limits_0) (S_slices_IndexFunc_sapi_Limits_api_Limits_0 (.t (.sl (l.map Lim.enc))) c (.t (.v (.int .i64 l.length))) (.t (.v (.int .i64 k))) h)) = some (.t (.v (.int .i64 (findI p r k))), h))
    (by rw [execL_loop_eq]; simp [K_slices_IndexFunc_sapi_Limits_api_Limits_0, findI]) (fun k x r hk hx hm hw ih => by
      rw [execL_loop_eq]
      have hp' := hp x hm
      simp at ih hw
      simp [K_slices_IndexFunc_sapi_Limits_api_Limits_0, hx, hk, hw, hp', findI, ih]
      cases p x <;> simp)
  simpa [K_slices_IndexFunc_sapi_Limits_api_Limits_0] using key

theorem ContainsFunc_Lim (l : List (Lim)) (hl : lenOk l) (c0 : AV) (hc : c0.closed = true) (f : Nat) (p : Lim → Bool) (hp : TellsIn (.clo f [] [.ptr 0 0]) [.box [c0]] l Lim.enc p) :
    runC fn_slices_ContainsFunc_sapi_Limits_api_Limits [.t (.sl (l.map Lim.enc)), .clo f [] [.ptr 0 0]] [.box [c0]] = some (.t (.v (.bool (l.any p))), [.box [c0]]) := by
  have hr := IndexFunc_Lim l hl _ _ p hp
  obtain ⟨q1, q2⟩ := closed_clo0 hc
  unfold runC at hr ⊢
  rw [callE LG rfl rfl rfl]
  simp [doCall_eq LG (callL LG) (f := fn_slices_IndexFunc_sapi_Limits_api_Limits) rfl, q1, q2, hr, findI_ge]

theorem all_Lim (l : List (Lim)) (hl : lenOk l) (c0 : AV) (p : Lim → Bool) (hp : Tells c0 l Lim.enc p) (H : List AO) :
    doC fn_shape_all_api_Limits [.t (.sl (l.map Lim.enc)), c0] H = some (.t (.v (.bool (l.all p))), H) := by
  obtain ⟨⟨hc, q3, q4⟩, hp⟩ := hp
  obtain ⟨q1, q2⟩ := closed_clo0 hc
  have h1 : TellsIn (.clo fn_shape_all_api_Limits_1 [] [.ptr 0 0]) [.box [c0]] l Lim.enc (fun x => !p x) := fun x hx => by
    have := hp x hx
    simp [doCall_eq LG (callL LG) (f := fn_shape_all_api_Limits_1) rfl, q1, q2]
    rw [callE LG (f := fn_shape_all_api_Limits_1) rfl rfl rfl]
    simp [this, q1, q2]
  have h2 := ContainsFunc_Lim l hl c0 hc _ _ h1
  refine pureC rfl rfl (by simp [AV.closed, AV.closed.closedL, hc]) rfl ?_ H
  rw [callE LG rfl rfl rfl, List.all_eq_not_any_not]
  unfold runC at h2
  simp [doCall_eq LG (callL LG) (f := fn_slices_ContainsFunc_sapi_Limits_api_Limits) rfl, q1, q2, q3, q4, h2]


theorem IndexFunc_Glo (l : List (Glo)) (hl : lenOk l) (c : AV) (h : List AO) (p : Glo → Bool) (hp : TellsIn c h l Glo.enc p) :
    runC fn_slices_IndexFunc_sapi_Var_api_Var [.t (.sl (l.map Glo.enc)), c] h = some (.t (.v (.int .i64 (findI p l 0))), h) := by
  unfold runC
  rw [callE LG rfl rfl rfl]
  have key := for_ind l hl (fun k r => K_slices_IndexFunc_sapi_Var_api_Var_0 LG h.length (execL LG h.length (.loop L_slices_IndexFunc_sapi_Var_api_Var_0) (S_slices_IndexFunc_sapi_Var_api_Var_0 (.t (.sl (l.map Glo.enc))) c (.t (.v (.int .i64 l.length))) (.t (.v (.int .i64 k))) h)) = some (.t (.v (.int .i64 (findI p r k))), h))
    (by rw [execL_loop_eq]; simp [K_slices_IndexFunc_sapi_Var_api_Var_0, findI]) (fun k x r hk hx hm hw ih => by
      rw [execL_loop_eq]
      have hp' := hp x hm
      simp at ih hw
      simp [K_slices_IndexFunc_sapi_Var_api_Var_0, hx, hk, hw, hp', findI, ih]
      cases p x <;> simp)
  simpa [K_slices_IndexFunc_sapi_Var_api_Var_0] using key

theorem ContainsFunc_Glo (l : List (Glo)) (hl : lenOk l) (c0 : AV) (hc : c0.closed = true) (f : Nat) (p : Glo → Bool) (hp : TellsIn (.clo f [] [.ptr 0 0]) [.box [c0]] l Glo.enc p) :
    runC fn_slices_ContainsFunc_sapi_Var_api_Var [.t (.sl (l.map Glo.enc)), .clo f [] [.ptr 0 0]] [.box [c0]] = some (.t (.v (.bool (l.any p))), [.box [c0]]) := by
  have hr := IndexFunc_Glo l hl _ _ p hp
  obtain ⟨q1, q2⟩ := closed_clo0 hc
  unfold runC at hr ⊢
  rw [callE LG rfl rfl rfl]
  simp [doCall_eq LG (callL LG) (f := fn_slices_IndexFunc_sapi_Var_api_Var) rfl, q1, q2, hr, findI_ge]

theorem all_Glo (l : List (Glo)) (hl : lenOk l) (c0 : AV) (p : Glo → Bool) (hp : Tells c0 l Glo.enc p) (H : List AO) :
    doC fn_shape_all_api_Var [.t (.sl (l.map Glo.enc)), c0] H = some (.t (.v (.bool (l.all p))), H) := by
  obtain ⟨⟨hc, q3, q4⟩, hp⟩ := hp
  obtain ⟨q1, q2⟩ := closed_clo0 hc
  have h1 : TellsIn (.clo fn_shape_all_api_Var_1 [] [.ptr 0 0]) [.box [c0]] l Glo.enc (fun x => !p x) := fun x hx => by
    have := hp x hx
    simp [doCall_eq LG (callL LG) (f := fn_shape_all_api_Var_1) rfl, q1, q2]
    rw [callE LG (f := fn_shape_all_api_Var_1) rfl rfl rfl]
    simp [this, q1, q2]
  have h2 := ContainsFunc_Glo l hl c0 hc _ _ h1
  refine pureC rfl rfl (by simp [AV.closed, AV.closed.closedL, hc]) rfl ?_ H
  rw [callE LG rfl rfl rfl, List.all_eq_not_any_not]
  unfold runC at h2
  simp [doCall_eq LG (callL LG) (f := fn_slices_ContainsFunc_sapi_Var_api_Var) rfl, q1, q2, q3, q4, h2]


theorem IndexFunc_Exp (l : List (Exp)) (hl : lenOk l) (c : AV) (h : List AO) (p : Exp → Bool) (hp : TellsIn c h l Exp.enc p) :
    runC fn_slices_IndexFunc_sapi_Export_api_Export [.t (.sl (l.map Exp.enc)), c] h = some (.t (.v (.int .i64 (findI p l 0))), h) := by
  unfold runC
  rw [callE LG rfl rfl rfl]
  have key := for_ind l hl (fun k r => K_slices_IndexFunc_sapi_Export_api_Export_0 LG h.length (execL LG h.length (.loop L_slices_IndexFunc_sapi_Export_api_Export_0) (S_slices_IndexFunc_sapi_Export_api_Export_0 (.t (.sl (l.map Exp.enc))) c (.t (.v (.int .i64 l.length))) (.t (.v (.int .i64 k))) h)) = some (.t (.v (.int .i64 (findI p r k))), h))
    (by rw [execL_loop_eq]; simp [K_slices_IndexFunc_sapi_Export_api_Export_0, findI]) (fun k x r hk hx hm hw ih => by
      rw [execL_loop_eq]
      have hp' := hp x hm
      simp at ih hw
      simp [K_slices_IndexFunc_sapi_Export_api_Export_0, hx, hk, hw, hp', findI, ih]
      cases p x <;> simp)
  simpa [K_slices_IndexFunc_sapi_Export_api_Export_0] using key

theorem ContainsFunc_Exp (l : List (Exp)) (hl : lenOk l) (c0 : AV) (hc : c0.closed = true) (f : Nat) (p : Exp → Bool) (hp : TellsIn (.clo f [] [.ptr 0 0]) [.box [c0]] l Exp.enc p) :
    runC fn_slices_ContainsFunc_sapi_Export_api_Export [.t (.sl (l.map Exp.enc)), .clo f [] [.ptr 0 0]] [.box [c0]] = some (.t (.v (.bool (l.any p))), [.box [c0]]) := by
  have hr := IndexFunc_Exp l hl _ _ p hp
  obtain ⟨q1, q2⟩ := closed_clo0 hc
  unfold runC at hr ⊢
  rw [callE LG rfl rfl rfl]
  simp [doCall_eq LG (callL LG) (f := fn_slices_IndexFunc_sapi_Export_api_Export) rfl, q1, q2, hr, findI_ge]

theorem all_Exp (l : List (Exp)) (hl : lenOk l) (c0 : AV) (p : Exp → Bool) (hp : Tells c0 l Exp.enc p) (H : List AO) :
    doC fn_shape_all_api_Export [.t (.sl (l.map Exp.enc)), c0] H = some (.t (.v (.bool (l.all p))), H) := by
  obtain ⟨⟨hc, q3, q4⟩, hp⟩ := hp
  obtain ⟨q1, q2⟩ := closed_clo0 hc
  have h1 : TellsIn (.clo fn_shape_all_api_Export_1 [] [.ptr 0 0]) [.box [c0]] l Exp.enc (fun x => !p x) := fun x hx => by
    have := hp x hx
    simp [doCall_eq LG (callL LG) (f := fn_shape_all_api_Export_1) rfl, q1, q2]
    rw [callE LG (f := fn_shape_all_api_Export_1) rfl rfl rfl]
    simp [this, q1, q2]
  have h2 := ContainsFunc_Exp l hl c0 hc _ _ h1
  refine pureC rfl rfl (by simp [AV.closed, AV.closed.closedL, hc]) rfl ?_ H
  rw [callE LG rfl rfl rfl, List.all_eq_not_any_not]
  unfold runC at h2
  simp [doCall_eq LG (callL LG) (f := fn_slices_ContainsFunc_sapi_Export_api_Export) rfl, q1, q2, q3, q4, h2]


theorem IndexFunc_Elm (l : List (Elm)) (hl : lenOk l) (c : AV) (h : List AO) (p : Elm → Bool) (hp : TellsIn c h l Elm.enc p) :
    runC fn_slices_IndexFunc_sapi_Elem_api_Elem [.t (.sl (l.map Elm.enc)), c] h = some (.t (.v (.int .i64 (findI p l 0))), h) := by
  unfold runC
  rw [callE LG rfl rfl rfl]
  have key := for_ind l hl (fun k r => K_slices_IndexFunc_sapi_Elem_api_Elem_0 LG h.length (execL LG h.length (.loop L_slices_IndexFunc_sapi_Elem_api_Elem_0) (S_slices_IndexFunc_sapi_Elem_api_Elem_0 (.t (.sl (l.map Elm.enc))) c (.t (.v (.int .i64 l.length))) (.t (.v (.int .i64 k))) h)) = some (.t (.v (.int .i64 (findI p r k))), h))
    (by rw [execL_loop_eq]; simp [K_slices_IndexFunc_sapi_Elem_api_Elem_0, findI]) (fun k x r hk hx hm hw ih => by
      rw [execL_loop_eq]
      have hp' := hp x hm
      simp at ih hw
      simp [K_slices_IndexFunc_sapi_Elem_api_Elem_0, hx, hk, hw, hp', findI, ih]
      cases p x <;> simp)
  simpa [K_slices_IndexFunc_sapi_Elem_api_Elem_0] using key

theorem ContainsFunc_Elm (l : List (Elm)) (hl : lenOk l) (c0 : AV) (hc : c0.closed = true) (f : Nat) (p : Elm → Bool) (hp : TellsIn (.clo f [] [.ptr 0 0]) [.box [c0]] l Elm.enc p) :
    runC fn_slices_ContainsFunc_sapi_Elem_api_Elem [.t (.sl (l.map Elm.enc)), .clo f [] [.ptr 0 0]] [.box [c0]] = some (.t (.v (.bool (l.any p))), [.box [c0]]) := by
  have hr := IndexFunc_Elm l hl _ _ p hp
  obtain ⟨q1, q2⟩ := closed_clo0 hc
  unfold runC at hr ⊢
  rw [callE LG rfl rfl rfl]
  simp [doCall_eq LG (callL LG) (f := fn_slices_IndexFunc_sapi_Elem_api_Elem) rfl, q1, q2, hr, findI_ge]

theorem all_Elm (l : List (Elm)) (hl : lenOk l) (c0 : AV) (p : Elm → Bool) (hp : Tells c0 l Elm.enc p) (H : List AO) :
    doC fn_shape_all_api_Elem [.t (.sl (l.map Elm.enc)), c0] H = some (.t (.v (.bool (l.all p))), H) := by
  obtain ⟨⟨hc, q3, q4⟩, hp⟩ := hp
  obtain ⟨q1, q2⟩ := closed_clo0 hc
  have h1 : TellsIn (.clo fn_shape_all_api_Elem_1 [] [.ptr 0 0]) [.box [c0]] l Elm.enc (fun x => !p x) := fun x hx => by
    have := hp x hx
    simp [doCall_eq LG (callL LG) (f := fn_shape_all_api_Elem_1) rfl, q1, q2]
    rw [callE LG (f := fn_shape_all_api_Elem_1) rfl rfl rfl]
    simp [this, q1, q2]
  have h2 := ContainsFunc_Elm l hl c0 hc _ _ h1
  refine pureC rfl rfl (by simp [AV.closed, AV.closed.closedL, hc]) rfl ?_ H
  rw [callE LG rfl rfl rfl, List.all_eq_not_any_not]
  unfold runC at h2
  simp [doCall_eq LG (callL LG) (f := fn_slices_ContainsFunc_sapi_Elem_api_Elem) rfl, q1, q2, q3, q4, h2]


theorem IndexFunc_Dat (l : List (Dat)) (hl : lenOk l) (c : AV) (h : List AO) (p : Dat → Bool) (hp : TellsIn c h l Dat.enc p) :
    runC fn_slices_IndexFunc_sapi_Data_api_Data [.t (.sl (l.map Dat.enc)), c] h = some (.t (.v (.int .i64 (findI p l 0))), h) := by
  unfold runC
  rw [callE LG rfl rfl rfl]
  have key := for_ind l hl (fun k r => K_slices_IndexFunc_sapi_Data_api_Data_0 LG h.length (execL LG h.length (.loop L_slices_IndexFunc_sapi_Data_api_Data_0) (S_slices_IndexFunc_sapi_Data_api_Data_0 (.t (.sl (l.map Dat.enc))) c (.t (.v (.int .i64 l.length))) (.t (.v (.int .i64 k))) h)) = some (.t (.v (.int .i64 (findI p r k))), h))
    (by rw [execL_loop_eq]; simp [K_slices_IndexFunc_sapi_Data_api_Data_0, findI]) (fun k x r hk hx hm hw ih => by
      rw [execL_loop_eq]
      have hp' := hp x hm
      simp at ih hw
      simp [K_slices_IndexFunc_sapi_Data_api_Data_0, hx, hk, hw, hp', findI, ih]
      cases p x <;> simp)
  simpa [K_slices_IndexFunc_sapi_Data_api_Data_0] using key

theorem ContainsFunc_Dat (l : List (Dat)) (hl : lenOk l) (c0 : AV) (hc : c0.closed = true) (f : Nat) (p : Dat → Bool) (hp : TellsIn (.clo f [] [.ptr 0 0]) [.box [c0]] l Dat.enc p) :
    runC fn_slices_ContainsFunc_sapi_Data_api_Data [.t (.sl (l.map Dat.enc)), .clo f [] [.ptr 0 0]] [.box [c0]] = some (.t (.v (.bool (l.any p))), [.box [c0]]) := by
  have hr := IndexFunc_Dat l hl _ _ p hp
  obtain ⟨q1, q2⟩ := closed_clo0 hc
  unfold runC at hr ⊢
  rw [callE LG rfl rfl rfl]
  simp [doCall_eq LG (callL LG) (f := fn_slices_IndexFunc_sapi_Data_api_Data) rfl, q1, q2, hr, findI_ge]

theorem all_Dat (l : List (Dat)) (hl : lenOk l) (c0 : AV) (p : Dat → Bool) (hp : Tells c0 l Dat.enc p) (H : List AO) :
    doC fn_shape_all_api_Data [.t (.sl (l.map Dat.enc)), c0] H = some (.t (.v (.bool (l.all p))), H) := by
  obtain ⟨⟨hc, q3, q4⟩, hp⟩ := hp
  obtain ⟨q1, q2⟩ := closed_clo0 hc
  have h1 : TellsIn (.clo fn_shape_all_api_Data_1 [] [.ptr 0 0]) [.box [c0]] l Dat.enc (fun x => !p x) := fun x hx => by
    have := hp x hx
    simp [doCall_eq LG (callL LG) (f := fn_shape_all_api_Data_1) rfl, q1, q2]
    rw [callE LG (f := fn_shape_all_api_Data_1) rfl rfl rfl]
    simp [this, q1, q2]
  have h2 := ContainsFunc_Dat l hl c0 hc _ _ h1
  refine pureC rfl rfl (by simp [AV.closed, AV.closed.closedL, hc]) rfl ?_ H
  rw [callE LG rfl rfl rfl, List.all_eq_not_any_not]
  unfold runC at h2
  simp [doCall_eq LG (callL LG) (f := fn_slices_ContainsFunc_sapi_Data_api_Data) rfl, q1, q2, q3, q4, h2]


theorem IndexFunc_Ins (l : List (Ins)) (hl : lenOk l) (c : AV) (h : List AO) (p : Ins → Bool) (hp : TellsIn c h l Ins.enc p) :
    runC fn_slices_IndexFunc_sapi_Instr_api_Instr [.t (.sl (l.map Ins.enc)), c] h = some (.t (.v (.int .i64 (findI p l 0))), h) := by
  unfold runC
  rw [callE LG rfl rfl rfl]
  have key := for_ind l hl (fun k r => K_slices_IndexFunc_sapi_Instr_api_Instr_0 LG h.length (execL LG h.length (.loop L_slices_IndexFunc_sapi_Instr_api_Instr_0) (S_slices_IndexFunc_sapi_Instr_api_Instr_0 (.t (.sl (l.map Ins.enc))) c (.t (.v (.int .i64 l.length))) (.t (.v (.int .i64 k))) h)) = some (.t (.v (.int .i64 (findI p r k))), h))
    (by rw [execL_loop_eq]; simp [K_slices_IndexFunc_sapi_Instr_api_Instr_0, findI]) (fun k x r hk hx hm hw ih => by
      rw [execL_loop_eq]
      have hp' := hp x hm
      simp at ih hw
      simp [K_slices_IndexFunc_sapi_Instr_api_Instr_0, hx, hk, hw, hp', findI, ih]
      cases p x <;> simp)
  simpa [K_slices_IndexFunc_sapi_Instr_api_Instr_0] using key

theorem ContainsFunc_Ins (l : List (Ins)) (hl : lenOk l) (c0 : AV) (hc : c0.closed = true) (f : Nat) (p : Ins → Bool) (hp : TellsIn (.clo f [] [.ptr 0 0]) [.box [c0]] l Ins.enc p) :
    runC fn_slices_ContainsFunc_sapi_Instr_api_Instr [.t (.sl (l.map Ins.enc)), .clo f [] [.ptr 0 0]] [.box [c0]] = some (.t (.v (.bool (l.any p))), [.box [c0]]) := by
  have hr := IndexFunc_Ins l hl _ _ p hp
  obtain ⟨q1, q2⟩ := closed_clo0 hc
  unfold runC at hr ⊢
  rw [callE LG rfl rfl rfl]
  simp [doCall_eq LG (callL LG) (f := fn_slices_IndexFunc_sapi_Instr_api_Instr) rfl, q1, q2, hr, findI_ge]

theorem all_Ins (l : List (Ins)) (hl : lenOk l) (c0 : AV) (p : Ins → Bool) (hp : Tells c0 l Ins.enc p) (H : List AO) :
    doC fn_shape_all_api_Instr [.t (.sl (l.map Ins.enc)), c0] H = some (.t (.v (.bool (l.all p))), H) := by
  obtain ⟨⟨hc, q3, q4⟩, hp⟩ := hp
  obtain ⟨q1, q2⟩ := closed_clo0 hc
  have h1 : TellsIn (.clo fn_shape_all_api_Instr_1 [] [.ptr 0 0]) [.box [c0]] l Ins.enc (fun x => !p x) := fun x hx => by
    have := hp x hx
    simp [doCall_eq LG (callL LG) (f := fn_shape_all_api_Instr_1) rfl, q1, q2]
    rw [callE LG (f := fn_shape_all_api_Instr_1) rfl rfl rfl]
    simp [this, q1, q2]
  have h2 := ContainsFunc_Ins l hl c0 hc _ _ h1
  refine pureC rfl rfl (by simp [AV.closed, AV.closed.closedL, hc]) rfl ?_ H
  rw [callE LG rfl rfl rfl, List.all_eq_not_any_not]
  unfold runC at h2
  simp [doCall_eq LG (callL LG) (f := fn_slices_ContainsFunc_sapi_Instr_api_Instr) rfl, q1, q2, q3, q4, h2]

end Go.Proofs.YtgehpjjpeddomaaGreatDoor
