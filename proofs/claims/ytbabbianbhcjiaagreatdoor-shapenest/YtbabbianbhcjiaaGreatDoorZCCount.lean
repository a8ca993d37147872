/- shape.Count: a closure that counts, handed through all. -/
import Derived.Test.YtbabbianbhcjiaaGreatDoorZCAll
import Derived.Test.YtbabbianbhcjiaaGreatDoorZCNest
set_option linter.all false
namespace Go.Proofs.YtbabbianbhcjiaaGreatDoor
open Go
set_option maxRecDepth 100000
abbrev nI (n : Nat) : AV := .t (.v (.int .i64 n))
abbrev cntH (n : Nat) : List AO := [.box [.clo fn_shape_each_1 [] [.ptr 1 0]], .box [.clo fn_shape_Count_1 [] [.ptr 2 0]], .box [nI n]]
abbrev cntG (n : Nat) : List AO := [.box [.clo fn_shape_Count_1 [] [.ptr 1 0]], .box [nI n]]
theorem Index_cnt (l : List Ins) (hl : lenOk l) (hp : ∀ x ∈ l, ∀ n : Nat, n + x.count ≤ 1000000 → runC fn_shape_all_api_Instr_1 [.t x.enc, .ptr 0 0] (cntH n) = some (.t (.v (.bool false)), cntH (n + x.count))) (n0 : Nat) (hn0 : n0 + countL l ≤ 1000000) :
    runC fn_slices_IndexFunc_sapi_Instr_api_Instr [.t (.sl (l.map Ins.enc)), .clo fn_shape_all_api_Instr_1 [] [.ptr 0 0]] (cntH n0) = some (.t (.v (.int .i64 (-1))), cntH (n0 + countL l)) := by
  unfold runC at hp ⊢
  rw [callE LG rfl rfl rfl]
  have key := for_ind l hl (fun k r => ∀ n : Nat, n + countL r ≤ 1000000 → K_slices_IndexFunc_sapi_Instr_api_Instr_0 LG 3 (execL LG 3 (.loop L_slices_IndexFunc_sapi_Instr_api_Instr_0) (S_slices_IndexFunc_sapi_Instr_api_Instr_0 (.t (.sl (l.map Ins.enc))) (.clo fn_shape_all_api_Instr_1 [] [.ptr 0 0]) (.t (.v (.int .i64 l.length))) (.t (.v (.int .i64 k))) (cntH n))) = some (.t (.v (.int .i64 (-1))), cntH (n + countL r)))
    (fun n _ => by rw [execL_loop_eq]; simp [K_slices_IndexFunc_sapi_Instr_api_Instr_0, countL]) (fun k x r hk hx hm hw ih n hn => by
      simp only [countL] at hn ⊢
      rw [execL_loop_eq]
      have hp' := hp x hm n (by omega)
      have e := ih (n + x.count) (by omega)
      have hq : n + (x.count + countL r) = n + x.count + countL r := by omega
      rw [hq]
      simp only [K_slices_IndexFunc_sapi_Instr_api_Instr_0] at e ⊢
      simp at hw
      simp [cntH, nI] at hp'
      simp [hx, hk, hw, doCall_eq LG (callL LG) (f := fn_shape_all_api_Instr_1) rfl, hp', trimE_eq]
      simpa [S_slices_IndexFunc_sapi_Instr_api_Instr_0, cntH, nI] using e)
  have := key n0 hn0
  simpa [K_slices_IndexFunc_sapi_Instr_api_Instr_0] using this
theorem all_cnt (l : List Ins) (hl : lenOk l) (hp : ∀ x ∈ l, ∀ n : Nat, n + x.count ≤ 1000000 → runC fn_shape_each_1 [.t x.enc, .ptr 0 0] (cntG n) = some (.t (.v (.bool true)), cntG (n + x.count))) (n : Nat) (hn : n + countL l ≤ 1000000) :
    runC fn_shape_all_api_Instr [.t (.sl (l.map Ins.enc)), .clo fn_shape_each_1 [] [.ptr 0 0]] (cntG n) = some (.t (.v (.bool true)), cntG (n + countL l)) := by
  have h1 := Index_cnt l hl (fun x hx n hn => by
    have := hp x hx n hn
    unfold runC at this ⊢
    simp [cntG, nI] at this
    rw [callE LG (f := fn_shape_all_api_Instr_1) rfl rfl rfl]
    simp [doCall_eq LG (callL LG) (f := fn_shape_each_1) rfl, this]) n hn
  unfold runC at h1 ⊢
  simp [cntH, cntG, nI] at h1
  have h2 : callL LG fn_slices_ContainsFunc_sapi_Instr_api_Instr [.t (.sl (l.map Ins.enc)), .clo fn_shape_all_api_Instr_1 [] [.ptr 0 0]] (cntH n) = some (.t (.v (.bool false)), cntH (n + countL l)) := by
    rw [callE LG rfl rfl rfl]
    simp [doCall_eq LG (callL LG) (f := fn_slices_IndexFunc_sapi_Instr_api_Instr) rfl, h1]
  simp [cntH, cntG, nI] at h2
  rw [callE LG rfl rfl rfl]
  simp [doCall_eq LG (callL LG) (f := fn_slices_ContainsFunc_sapi_Instr_api_Instr) rfl, h2]
theorem each_cnt : ∀ l : List Ins, Inss l → ∀ n : Nat, n + countL l ≤ 1000000 → runC fn_shape_each [.t (.sl (l.map Ins.enc)), .clo fn_shape_Count_1 [] [.ptr 0 0]] [.box [nI n]] = some (.t (.v (.bool true)), [.box [nI (n + countL l)]]) := by
  intro l
  refine ins_ind (P := fun l => Inss l → ∀ n : Nat, n + countL l ≤ 1000000 → runC fn_shape_each [.t (.sl (l.map Ins.enc)), .clo fn_shape_Count_1 [] [.ptr 0 0]] [.box [nI n]] = some (.t (.v (.bool true)), [.box [nI (n + countL l)]])) ?_ _ l (Nat.le_refl _)
  intro l ih hl n hn
  have hc1 : ∀ (x : Ins) (n : Nat), n < 1000000 → runC fn_shape_Count_1 [.t x.enc, .ptr 0 0] [.box [nI n]] = some (.t (.v (.bool true)), [.box [nI (n + 1)]]) := fun x n hn => by
    unfold runC
    rw [callE LG rfl rfl rfl]
    have hw : IntKind.i64.wrap ((n : Int) + 1) = (n : Int) + 1 := wrap_i64 (by omega) (by omega)
    simp [hw]
  have h1 := all_cnt l hl.1 (fun x hx n hn => by
    have hx0 := (Ins.ok_iff x).1 (hl.2 x hx)
    rw [Ins.count_eq] at hn ⊢
    have hb := (ih x hx).1 hx0.2.2.2.2.2.2.1 (n + 1) (by omega)
    have he := (ih x hx).2 hx0.2.2.2.2.2.2.2 (n + 1 + countL x.body) (by omega)
    have hc := hc1 x n (by omega)
    have hq : n + (1 + countL x.body + countL x.els) = n + 1 + countL x.body + countL x.els := by omega
    rw [hq]
    unfold runC at hb he hc ⊢
    simp [nI] at hb he hc
    rw [callE LG (f := fn_shape_each_1) rfl rfl rfl]
    simp [doCall_eq LG (callL LG) (f := fn_shape_each) rfl, doCall_eq LG (callL LG) (f := fn_shape_Count_1) rfl, hb, he, hc]) n hn
  unfold runC at h1 ⊢
  simp [cntH, cntG, nI] at h1
  rw [callE LG rfl rfl rfl]
  simp [doCall_eq LG (callL LG) (f := fn_shape_all_api_Instr) rfl, h1]
theorem c_count_s (l : List Ins) (hl : Inss l) (hn : countL l ≤ 1000000) (H : List AO) : doC fn_shape_Count [.t (.sl (l.map Ins.enc))] H = some (.t (.v (.int .i64 (countL l))), H) := by
  refine pureC rfl rfl rfl rfl ?_ H
  have h := each_cnt l hl 0 (by omega)
  unfold runC at h
  simp [nI] at h
  rw [callE LG rfl rfl rfl]
  simp [doCall_eq LG (callL LG) (f := fn_shape_each) rfl, h]
end Go.Proofs.YtbabbianbhcjiaaGreatDoor
