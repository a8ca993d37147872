/- Contracts: how deep instructions are nested, in both packages. -/
import Derived.Test.YtgehpjjpeddomaaGreatDoorZCWin
set_option linter.all false
namespace Go.Proofs.YtgehpjjpeddomaaGreatDoor
open Go
set_option maxRecDepth 100000

mutual
def Ins.nest : Ins → Nat
  | .mk _ _ _ _ _ _ body els _ => 1 + max (nestL body) (nestL els)
def nestL : List Ins → Nat
  | [] => 0
  | i :: r => max i.nest (nestL r)
end
theorem Ins.nest_eq (i : Ins) : i.nest = 1 + max (nestL i.body) (nestL i.els) := by
  cases i
  simp only [Ins.nest, Ins.body, Ins.els]
theorem nest_mem {l : List Ins} {i : Ins} (h : i ∈ l) : i.nest ≤ nestL l := by
  induction l with
  | nil => simp at h
  | cons x r ih =>
    rcases List.mem_cons.1 h with rfl | h
    · simp only [nestL]; omega
    · have := ih h; simp only [nestL]; omega
mutual
def Ins.count : Ins → Nat
  | .mk _ _ _ _ _ _ body els _ => 1 + countL body + countL els
def countL : List Ins → Nat
  | [] => 0
  | i :: r => i.count + countL r
end
theorem Ins.count_eq (i : Ins) : i.count = 1 + countL i.body + countL i.els := by
  cases i
  simp only [Ins.count, Ins.body, Ins.els]
theorem count_mem {l : List Ins} {i : Ins} (h : i ∈ l) : i.count ≤ countL l := by
  induction l with
  | nil => simp at h
  | cons x r ih =>
    rcases List.mem_cons.1 h with rfl | h
    · simp only [countL]; omega
    · have := ih h; simp only [countL]; omega

mutual
def Ins.deep (p : Ins → Prop) : Ins → Prop
  | .mk op a b n h l body els o => p (.mk op a b n h l body els o) ∧ deepL p body ∧ deepL p els
def deepL (p : Ins → Prop) : List Ins → Prop
  | [] => True
  | i :: r => i.deep p ∧ deepL p r
end
theorem Ins.deep_eq (p : Ins → Prop) (i : Ins) : i.deep p ↔ p i ∧ deepL p i.body ∧ deepL p i.els := by
  cases i
  simp only [Ins.deep, Ins.body, Ins.els]
theorem deepL_iff (p : Ins → Prop) : ∀ l : List Ins, deepL p l ↔ ∀ i ∈ l, i.deep p
  | [] => by simp [deepL]
  | i :: r => by simp [deepL, deepL_iff p r]


mutual
theorem count_deep (N : Nat) : ∀ i : Ins, i.count ≤ N → i.deep (fun i => i.body.length + i.els.length ≤ N)
  | .mk op a b n h l body els o, hc => by
    simp only [Ins.count] at hc
    have h1 := count_len body
    have h2 := count_len els
    simp only [Ins.deep, Ins.body, Ins.els]
    exact ⟨by omega, countL_deep N body (by omega), countL_deep N els (by omega)⟩
theorem countL_deep (N : Nat) : ∀ l : List Ins, countL l ≤ N → deepL (fun i => i.body.length + i.els.length ≤ N) l
  | [], _ => trivial
  | i :: r, hc => by
    simp only [countL] at hc
    exact ⟨count_deep N i (by omega), countL_deep N r (by omega)⟩
theorem count_len : ∀ l : List Ins, l.length ≤ countL l
  | [] => Nat.le_refl _
  | .mk op a b n h l body els o :: r => by
    have := count_len r
    simp only [countL, Ins.count, List.length_cons]
    omega
end
theorem imax (a b : Nat) : (if (b : Int) > a then (b : Int) else a) = ((max a b : Nat) : Int) := by
  split <;> omega
theorem imax' (a b : Nat) : (if (a : Int) < b then (b : Int) else a) = ((max a b : Nat) : Int) := by
  split <;> omega

theorem c_nest_s : ∀ l : List Ins, Inss l → nestL l ≤ 1000000 → ∀ H, doC fn_shape_Nest [.t (.sl (l.map Ins.enc))] H = some (.t (.v (.int .i64 (nestL l))), H) := by
  intro l
  refine ins_ind (P := fun l => Inss l → nestL l ≤ 1000000 → ∀ H, doC fn_shape_Nest [.t (.sl (l.map Ins.enc))] H = some (.t (.v (.int .i64 (nestL l))), H)) ?_ _ l (Nat.le_refl _)
  intro l ih hl hn H
  refine pureC rfl rfl rfl rfl ?_ H
  rw [callE LG rfl rfl rfl]
  have key := for_ind l hl.1 (fun k r => ∀ n : Nat, n ≤ 1000000 → nestL r ≤ 1000000 → K_shape_Nest_0 LG 0 (execL LG 0 (.loop L_shape_Nest_0) (S_shape_Nest_0 (.t (.v (.int .i64 n))) (.t (.sl (l.map Ins.enc))) (.t (.v (.int .i64 l.length))) (.t (.v (.int .i64 k))) [])) = some (.t (.v (.int .i64 (max n (nestL r) : Nat))), []))
    (fun n _ _ => by rw [execL_loop_eq]; simp [K_shape_Nest_0, nestL]) (fun k x r hk hx hm hw ihr n h0 h1 => by
      have hx0 := (Ins.ok_iff x).1 (hl.2 x hm)
      have hxn := nest_mem hm
      rw [Ins.nest_eq] at hxn
      have hb := (ih x hm).1 hx0.2.2.2.2.2.2.1 (by omega)
      have he := (ih x hm).2 hx0.2.2.2.2.2.2.2 (by omega)
      have e := ihr (max n x.nest) (by rw [Ins.nest_eq]; omega) (by simp only [nestL] at h1; omega)
      have hw3 : IntKind.i64.wrap (1 + if nestL x.body < nestL x.els then (nestL x.els : Int) else nestL x.body) = ((x.nest : Nat) : Int) := by
        have : (if nestL x.body < nestL x.els then (nestL x.els : Int) else nestL x.body) = ((max (nestL x.body) (nestL x.els) : Nat) : Int) := by split <;> omega
        rw [this, wrap_i64 (by omega) (by omega), Ins.nest_eq]; omega
      have hmx : max n (nestL (x :: r)) = max (max n x.nest) (nestL r) := by simp only [nestL]; omega
      rw [execL_loop_eq, hmx]
      simp only [K_shape_Nest_0] at e ⊢
      simp at hw
      simp [hx, hk, hw, hb, he, hw3, trimE_eq]
      have hv : (if n < x.nest then (x.nest : Int) else n) = ((max n x.nest : Nat) : Int) := by split <;> omega
      rw [hv]
      simpa using e)
  have := key 0 (by omega) hn
  simpa [K_shape_Nest_0] using this
end Go.Proofs.YtgehpjjpeddomaaGreatDoor
