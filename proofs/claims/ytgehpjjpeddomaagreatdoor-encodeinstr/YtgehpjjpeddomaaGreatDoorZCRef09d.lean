/- Contracts of the reference for shape: lists of instructions. -/
import Derived.Test.YtgehpjjpeddomaaGreatDoorZCRefOne
import Derived.Test.YtgehpjjpeddomaaGreatDoorZCEach
set_option linter.all false
namespace Go.Proofs.YtgehpjjpeddomaaGreatDoor
open Go
set_option maxRecDepth 100000

theorem r_ones : ∀ l : List Ins, Inss l → ∀ H, doC fn_bodkinref09_ones [.t (.sl (l.map Ins.enc))] H = some (.t (.v (.bool (everyL rOne l))), H) := by
  intro l
  refine ins_ind (P := fun l => Inss l → ∀ H, doC fn_bodkinref09_ones [.t (.sl (l.map Ins.enc))] H = some (.t (.v (.bool (everyL rOne l))), H)) ?_ _ l (Nat.le_refl _)
  intro l ih hl H
  refine pureC rfl rfl rfl rfl ?_ H
  rw [callE LG rfl rfl rfl]
  have key := for_ind l hl.1 (fun k r => K_bodkinref09_ones_0 LG 0 (execL LG 0 (.loop L_bodkinref09_ones_0) (S_bodkinref09_ones_0 (.t (.sl (l.map Ins.enc))) (.t (.v (.int .i64 k))) [])) = some (.t (.v (.bool (everyL rOne r))), []))
    (by rw [execL_loop_eq]; simp [K_bodkinref09_ones_0, everyL]) (fun k x r hk hx hm hw ihr => by
      have hx0 := (Ins.ok_iff x).1 (hl.2 x hm)
      have h1 := r_one x hx0.2.2.2.2.2.1.1
      have hb := (ih x hm).1 hx0.2.2.2.2.2.2.1
      have he := (ih x hm).2 hx0.2.2.2.2.2.2.2
      rw [execL_loop_eq]
      simp only [everyL, Ins.every_eq]
      simp only [K_bodkinref09_ones_0] at ihr ⊢
      simp at hw ihr
      cases h2 : rOne x
      · rw [h2] at h1
        simp [hx, hk, hw, h1, hb, he]
      · rw [h2] at h1
        cases h3 : everyL rOne x.body
        · rw [h3] at hb
          simp [hx, hk, hw, h1, hb, he]
        · rw [h3] at hb
          cases h4 : everyL rOne x.els
          · rw [h4] at he
            simp [hx, hk, hw, h1, hb, he]
          · rw [h4] at he
            simp [hx, hk, hw, h1, hb, he]
            simpa using ihr)
  simpa [K_bodkinref09_ones_0] using key

def rExpr (l : List Ins) : Bool := everyL rOne l && decide (nestL l ≤ 500)
theorem r_expr (l : List Ins) (hl : Inss l) (hn : nestL l ≤ 1000000) (H : List AO) : doC fn_bodkinref09_Expr [.t (.sl (l.map Ins.enc))] H = some (.t (.v (.bool (rExpr l))), H) := by
  have h1 := r_ones l hl
  have h2 := r_nest l hl hn
  have h3 : ((nestL l : Int) ≤ 500) = (nestL l ≤ 500) := by apply propext; omega
  refine pureC rfl rfl rfl rfl ?_ H
  rw [callE LG rfl rfl rfl]
  simp [h1, h2, h3, rExpr]

end Go.Proofs.YtgehpjjpeddomaaGreatDoor
