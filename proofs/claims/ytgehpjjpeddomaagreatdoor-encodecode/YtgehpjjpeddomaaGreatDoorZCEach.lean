/- Contracts: what is so of all instructions, also of those inside. -/
import Derived.Test.YtgehpjjpeddomaaGreatDoorZCAll
import Derived.Test.YtgehpjjpeddomaaGreatDoorZCNest
set_option linter.all false
namespace Go.Proofs.YtgehpjjpeddomaaGreatDoor
open Go
set_option maxRecDepth 100000

mutual
def Ins.every (p : Ins → Bool) : Ins → Bool
  | .mk op a b n h l body els other => p (.mk op a b n h l body els other) && everyL p body && everyL p els
def everyL (p : Ins → Bool) : List Ins → Bool
  | [] => true
  | i :: r => i.every p && everyL p r
end
theorem Ins.every_eq (p : Ins → Bool) (i : Ins) : i.every p = (p i && everyL p i.body && everyL p i.els) := by
  cases i
  simp only [Ins.every, Ins.body, Ins.els]
theorem everyL_all (p : Ins → Bool) : ∀ l : List Ins, everyL p l = l.all (fun i => i.every p)
  | [] => rfl
  | i :: r => by rw [everyL, everyL_all p r, List.all_cons]

/-- ContainsFunc over a closure in a chain of two boxes. -/
theorem ContainsFunc_Ins2 (l : List Ins) (hl : lenOk l) (c0 : AV) (hc : c0.closed = true) (f g : Nat) (p : Ins → Bool) (hp : TellsIn (.clo f [] [.ptr 0 0]) [.box [.clo g [] [.ptr 1 0]], .box [c0]] l Ins.enc p) :
    runC fn_slices_ContainsFunc_sapi_Instr_api_Instr [.t (.sl (l.map Ins.enc)), .clo f [] [.ptr 0 0]] [.box [.clo g [] [.ptr 1 0]], .box [c0]] = some (.t (.v (.bool (l.any p))), [.box [.clo g [] [.ptr 1 0]], .box [c0]]) := by
  have hr := IndexFunc_Ins l hl _ _ p hp
  obtain ⟨q1, q2⟩ := closed_clo0 hc
  unfold runC at hr ⊢
  rw [callE LG rfl rfl rfl]
  simp [doCall_eq LG (callL LG) (f := fn_slices_IndexFunc_sapi_Instr_api_Instr) rfl, q1, q2, hr, findI_ge]

theorem all_Ins2 (l : List Ins) (hl : lenOk l) (c0 : AV) (hc : c0.closed = true) (g : Nat) (p : Ins → Bool)
    (hp : ∀ x ∈ l, doC g [.t x.enc, .ptr 1 0] [.box [.clo g [] [.ptr 1 0]], .box [c0], .box (x.enc.cells.map .t)] = some (.t (.v (.bool (p x))), [.box [.clo g [] [.ptr 1 0]], .box [c0], .box (x.enc.cells.map .t)])) :
    runC fn_shape_all_api_Instr [.t (.sl (l.map Ins.enc)), .clo g [] [.ptr 0 0]] [.box [c0]] = some (.t (.v (.bool (l.all p))), [.box [c0]]) := by
  obtain ⟨q1, q2⟩ := closed_clo0 hc
  have h1 : TellsIn (.clo fn_shape_all_api_Instr_1 [] [.ptr 0 0]) [.box [.clo g [] [.ptr 1 0]], .box [c0]] l Ins.enc (fun x => !p x) := fun x hx => by
    have := hp x hx
    simp at this
    simp [doCall_eq LG (callL LG) (f := fn_shape_all_api_Instr_1) rfl, q1, q2]
    rw [callE LG (f := fn_shape_all_api_Instr_1) rfl rfl rfl]
    simp [this, q1, q2]
  have h2 := ContainsFunc_Ins2 l hl c0 hc _ _ _ h1
  unfold runC at h2 ⊢
  rw [callE LG rfl rfl rfl, List.all_eq_not_any_not]
  simp [doCall_eq LG (callL LG) (f := fn_slices_ContainsFunc_sapi_Instr_api_Instr) rfl, q1, q2, h2]

/-- A closure that tells of every instruction that may lie in memory. -/
def TellsI (c : AV) (Q : Ins → Prop) (p : Ins → Bool) : Prop :=
  (c.closed = true ∧ c.ok = true ∧ c.cells = [c]) ∧ ∀ x : Ins, x.ok → Q x → ∀ H, callvK LG (callL LG) c [.t x.enc] H = some (.t (.v (.bool (p x))), H)

theorem c_each (c : AV) (Q : Ins → Prop) (p : Ins → Bool) (hp : TellsI c Q p) : ∀ l : List Ins, Inss l → deepL Q l → ∀ H, doC fn_shape_each [.t (.sl (l.map Ins.enc)), c] H = some (.t (.v (.bool (everyL p l))), H) := by
  obtain ⟨⟨hc, q3, q4⟩, hp⟩ := hp
  obtain ⟨q1, q2⟩ := closed_clo0 hc
  intro l
  refine ins_ind (P := fun l => Inss l → deepL Q l → ∀ H, doC fn_shape_each [.t (.sl (l.map Ins.enc)), c] H = some (.t (.v (.bool (everyL p l))), H)) ?_ _ l (Nat.le_refl _)
  intro l ih hl hq H
  refine pureC rfl rfl (by simp [AV.closed, AV.closed.closedL, hc]) rfl ?_ H
  have h1 := all_Ins2 l hl.1 c hc fn_shape_each_1 (fun i => i.every p) (fun x hx => by
    have hx0 := (Ins.ok_iff x).1 (hl.2 x hx)
    have hd := (Ins.deep_eq Q x).1 ((deepL_iff Q l).1 hq x hx)
    have hb := (ih x hx).1 hx0.2.2.2.2.2.2.1 hd.2.1
    have he := (ih x hx).2 hx0.2.2.2.2.2.2.2 hd.2.2
    have hx1 := hp x (hl.2 x hx) hd.1
    simp [doCall_eq LG (callL LG) (f := fn_shape_each_1) rfl, q1, q2]
    rw [callE LG (f := fn_shape_each_1) rfl rfl rfl]
    simp [hx1, hb, he, q1, q2, Ins.every_eq, Bool.and_assoc])
  unfold runC at h1
  rw [callE LG rfl rfl rfl, everyL_all]
  simp [doCall_eq LG (callL LG) (f := fn_shape_all_api_Instr) rfl, q1, q2, q3, q4, h1]
end Go.Proofs.YtgehpjjpeddomaaGreatDoor
