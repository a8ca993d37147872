/- Contracts of package shape: code, segments' places, asking for a segment of bytes. -/
import Derived.Test.YtgehpjjpeddomaaGreatDoorZCShape2
import Derived.Test.YtgehpjjpeddomaaGreatDoorZCNest
import Derived.Test.YtgehpjjpeddomaaGreatDoorZCEach
set_option linter.all false
namespace Go.Proofs.YtgehpjjpeddomaaGreatDoor
open Go
set_option maxRecDepth 100000

theorem ins_lens {x : Ins} (h : x.ok) : lenOk x.l ∧ Inss x.body ∧ Inss x.els := by
  have := (Ins.ok_iff x).1 h
  exact ⟨this.2.2.2.2.2.1.1, this.2.2.2.2.2.2.1, this.2.2.2.2.2.2.2⟩

def lean (i : Ins) : Prop := i.body.length + i.els.length ≤ 1000000
theorem tells_one : TellsI (.clo fn_shape_one [] []) lean pOne := ⟨⟨rfl, rfl, rfl⟩, fun x hx hq H => by
  have hq : x.body.length + x.els.length ≤ 1000000 := hq
  have h := c_one_s x (ins_lens hx).1 (by omega)
  simp [h]⟩
def pCode (l : List Ins) : Bool := decide (nestL l ≤ 500) && everyL pOne l
theorem c_code (l : List Ins) (hl : Inss l) (hn : nestL l ≤ 1000000) (hc : countL l ≤ 1000000) (H : List AO) : doC fn_shape_code [.t (.sl (l.map Ins.enc))] H = some (.t (.v (.bool (pCode l))), H) := by
  have h1 := c_nest_s l hl hn
  have h2 := c_each _ _ _ tells_one l hl (countL_deep _ l hc)
  have h3 : ((nestL l : Int) ≤ 500) = (nestL l ≤ 500) := by apply propext; omega
  refine pureC rfl rfl rfl rfl ?_ H
  rw [callE LG rfl rfl rfl]
  simp [h1, h2, h3, pCode]

def noneS (i : Ins) : Bool := !decide (immS i.op = 17) && !decide (immS i.op = 18)
theorem c_asks1 (i : Ins) (H : List AO) : doC fn_shape_asks_1 [.t i.enc] H = some (.t (.v (.bool (noneS i))), H) := by
  have h := c_Imm i.op
  refine pureC rfl rfl rfl rfl ?_ H
  rw [callE LG rfl rfl rfl]
  simp [h, noneS]
theorem tells_none : TellsI (.clo fn_shape_asks_1 [] []) (fun _ => True) noneS := ⟨⟨rfl, rfl, rfl⟩, fun x _ _ H => by simp [c_asks1]⟩
theorem deep_true : ∀ l : List Ins, deepL (fun _ => True) l := fun l => by
  refine ins_ind (P := fun l => deepL (fun _ => True) l) (fun l ih => (deepL_iff _ l).2 fun i hi => (Ins.deep_eq _ i).2 ⟨trivial, (ih i hi).1, (ih i hi).2⟩) _ l (Nat.le_refl _)
end Go.Proofs.YtgehpjjpeddomaaGreatDoor
