/- Parts, one behind the other; the last: Contracts of the reference for shape: counting, weighing. -/
import Derived.Test.YtgehpjjpeddomaaGreatDoorZCNest
import Derived.Test.YtgehpjjpeddomaaGreatDoorZCOps4
set_option linter.all false
/- Contracts of the reference for shape, first part. -/
namespace Go.Proofs.YtgehpjjpeddomaaGreatDoor
open Go
set_option maxRecDepth 100000

def rIndex (n : Int) : Bool := decide (0 ≤ n) && decide (n < 4294967296)
def rRef (n : Int) : Bool := decide (n = 112) || decide (n = 111)
def rVal (n : Int) : Bool := decide (n = 127) || (decide (n = 126) || (decide (n = 125) || (decide (n = 124) || (decide (n = 123) || (decide (n = 112) || decide (n = 111))))))
def rLim (l : Lim) : Bool := rIndex l.min && rIndex l.max && (l.has || decide (l.max = 0))
def rTab (t : TabT) : Bool := rRef t.ref && rLim t.l

theorem r_index (n : Int) (H : List AO) : doC fn_bodkinref09_Index [.t (.v (.int .i64 n))] H = some (.t (.v (.bool (rIndex n))), H) := by
  refine pureC rfl rfl rfl rfl ?_ H
  rw [callE LG rfl rfl rfl]
  simp [rIndex]
theorem r_ref (n : Int) (H : List AO) : doC fn_bodkinref09_Ref [.t (.v (.int .i64 n))] H = some (.t (.v (.bool (rRef n))), H) := by
  refine pureC rfl rfl rfl rfl ?_ H
  rw [callE LG rfl rfl rfl]
  simp [rRef]
theorem r_val (n : Int) (H : List AO) : doC fn_bodkinref09_Val [.t (.v (.int .i64 n))] H = some (.t (.v (.bool (rVal n))), H) := by
  refine pureC rfl rfl rfl rfl ?_ H
  rw [callE LG rfl rfl rfl]
  simp [rVal]
theorem r_indexes (l : List Int) (hl : lenOk l) (m : Int) (H : List AO) : doC fn_bodkinref09_indexes [.t (.sl (l.map tInt)), .t (.v (.int .i64 m))] H = some (.t (.v (.bool (l.all fun n => !decide (n < 0) && !decide (m ≤ n)))), H) := by
  refine pureC rfl rfl rfl rfl ?_ H
  rw [callE LG rfl rfl rfl]
  have key := for_ind l hl (fun k r => K_bodkinref09_indexes_0 LG 0 (execL LG 0 (.loop L_bodkinref09_indexes_0) (S_bodkinref09_indexes_0 (.t (.sl (l.map tInt))) (.t (.v (.int .i64 m))) (.t (.v (.int .i64 k))) [])) = some (.t (.v (.bool (r.all fun n => !decide (n < 0) && !decide (m ≤ n)))), []))
    (by rw [execL_loop_eq]; simp [K_bodkinref09_indexes_0]) (fun k x r hk hx hm hw ih => by
      rw [execL_loop_eq]
      simp only [K_bodkinref09_indexes_0] at ih ⊢
      simp at ih hw
      by_cases h1 : x < 0
      · simp [hx, hk, hw, h1]
      · by_cases h2 : m ≤ x
        · simp [hx, hk, hw, h1, h2]
        · simp [hx, hk, hw, h1, h2]
          simpa using ih)
  simpa [K_bodkinref09_indexes_0] using key

theorem r_vals (l : List Int) (hl : lenOk l) (H : List AO) : doC fn_bodkinref09_Vals [.t (.sl (l.map tInt))] H = some (.t (.v (.bool (l.all rVal))), H) := by
  refine pureC rfl rfl rfl rfl ?_ H
  rw [callE LG rfl rfl rfl]
  have key := for_ind l hl (fun k r => K_bodkinref09_Vals_0 LG 0 (execL LG 0 (.loop L_bodkinref09_Vals_0) (S_bodkinref09_Vals_0 (.t (.sl (l.map tInt))) (.t (.v (.int .i64 k))) [])) = some (.t (.v (.bool (r.all rVal))), []))
    (by rw [execL_loop_eq]; simp [K_bodkinref09_Vals_0]) (fun k x r hk hx hm hw ih => by
      rw [execL_loop_eq]
      have hv := r_val x
      simp only [K_bodkinref09_Vals_0] at ih ⊢
      simp at ih hw
      cases h : rVal x
      · rw [h] at hv
        simp [hx, hk, hw, hv, h]
      · rw [h] at hv
        simp [hx, hk, hw, hv, h]
        simpa using ih)
  simpa [K_bodkinref09_Vals_0] using key

theorem r_nest : ∀ l : List Ins, Inss l → nestL l ≤ 1000000 → ∀ H, doC fn_bodkinref09_Nest [.t (.sl (l.map Ins.enc))] H = some (.t (.v (.int .i64 (nestL l))), H) := by
  intro l
  refine ins_ind (P := fun l => Inss l → nestL l ≤ 1000000 → ∀ H, doC fn_bodkinref09_Nest [.t (.sl (l.map Ins.enc))] H = some (.t (.v (.int .i64 (nestL l))), H)) ?_ _ l (Nat.le_refl _)
  intro l ih hl hn H
  refine pureC rfl rfl rfl rfl ?_ H
  rw [callE LG rfl rfl rfl]
  have key := for_ind l hl.1 (fun k r => ∀ n : Nat, n ≤ 1000000 → nestL r ≤ 1000000 → K_bodkinref09_Nest_0 LG 0 (execL LG 0 (.loop L_bodkinref09_Nest_0) (S_bodkinref09_Nest_0 (.t (.sl (l.map Ins.enc))) (.t (.v (.int .i64 n))) (.t (.v (.int .i64 k))) [])) = some (.t (.v (.int .i64 (max n (nestL r) : Nat))), []))
    (fun n _ _ => by rw [execL_loop_eq]; simp [K_bodkinref09_Nest_0, nestL]) (fun k x r hk hx hm hw ihr n h0 h1 => by
      have hx0 := (Ins.ok_iff x).1 (hl.2 x hm)
      have hxn := nest_mem hm
      rw [Ins.nest_eq] at hxn
      have hb := (ih x hm).1 hx0.2.2.2.2.2.2.1 (by omega)
      have he := (ih x hm).2 hx0.2.2.2.2.2.2.2 (by omega)
      have e := ihr (max n x.nest) (by rw [Ins.nest_eq]; omega) (by simp only [nestL] at h1; omega)
      have hmx : max n (nestL (x :: r)) = max (max n x.nest) (nestL r) := by simp only [nestL]; omega
      rw [execL_loop_eq, hmx]
      simp only [K_bodkinref09_Nest_0] at e ⊢
      simp at hw
      have hwb : IntKind.i64.wrap ((nestL x.body : Int) + 1) = nestL x.body + 1 := wrap_i64 (by omega) (by omega)
      have hwe : IntKind.i64.wrap ((nestL x.els : Int) + 1) = nestL x.els + 1 := wrap_i64 (by omega) (by omega)
      rw [Ins.nest_eq] at e ⊢
      by_cases c1 : nestL x.body < nestL x.els
      · by_cases c2 : n < nestL x.els + 1
        · have c2' : (n : Int) < nestL x.els + 1 := by omega
          have hv : max n (1 + max (nestL x.body) (nestL x.els)) = nestL x.els + 1 := by omega
          rw [hv] at e ⊢
          simp [hx, hk, hw, hb, he, hwb, hwe, c1, c2, c2']
          simpa using e
        · have c2' : ¬ (n : Int) < nestL x.els + 1 := by omega
          have hv : max n (1 + max (nestL x.body) (nestL x.els)) = n := by omega
          rw [hv] at e ⊢
          simp [hx, hk, hw, hb, he, hwb, hwe, c1, c2, c2']
          simpa using e
      · by_cases c2 : n < nestL x.body + 1
        · have c2' : (n : Int) < nestL x.body + 1 := by omega
          have hv : max n (1 + max (nestL x.body) (nestL x.els)) = nestL x.body + 1 := by omega
          rw [hv] at e ⊢
          simp [hx, hk, hw, hb, he, hwb, hwe, c1, c2, c2']
          simpa using e
        · have c2' : ¬ (n : Int) < nestL x.body + 1 := by omega
          have hv : max n (1 + max (nestL x.body) (nestL x.els)) = n := by omega
          rw [hv] at e ⊢
          simp [hx, hk, hw, hb, he, hwb, hwe, c1, c2, c2']
          simpa using e)
  have := key 0 (by omega) hn
  simpa [K_bodkinref09_Nest_0] using this
end Go.Proofs.YtgehpjjpeddomaaGreatDoor
/- Contracts of the reference for shape: counting, weighing. -/
namespace Go.Proofs.YtgehpjjpeddomaaGreatDoor
open Go
set_option maxRecDepth 100000

mutual
def Ins.weigh : Ins → Nat → Int → Int
  | .mk _ _ _ _ _ l body els _, d, left =>
    if 1000 < l.length then -1
    else if 600 < d + 1 then -1
    else if 0 ≤ weighL body (d + 1) (left - 1) then weighL els (d + 1) (weighL body (d + 1) (left - 1)) else weighL body (d + 1) (left - 1)
def weighL : List Ins → Nat → Int → Int
  | [], _, left => left
  | i :: r, d, left => if 0 ≤ left then weighL r d (i.weigh d left) else left
end
theorem Ins.weigh_eq (i : Ins) (d : Nat) (left : Int) : i.weigh d left = if 1000 < i.l.length then -1 else if 600 < d + 1 then -1 else if 0 ≤ weighL i.body (d + 1) (left - 1) then weighL i.els (d + 1) (weighL i.body (d + 1) (left - 1)) else weighL i.body (d + 1) (left - 1) := by
  cases i
  simp only [Ins.weigh, Ins.body, Ins.els, Ins.l]
  rfl
mutual
theorem weigh_rng : ∀ (i : Ins) (d : Nat) (left : Int), 0 ≤ left → -1 ≤ i.weigh d left ∧ i.weigh d left ≤ left - 1
  | .mk op a b n h l body els o, d, left, h0 => by
    have h1 := weighL_rng body (d + 1) (left - 1) (by omega)
    have h2 := weighL_rng els (d + 1) (weighL body (d + 1) (left - 1)) h1.1
    simp only [Ins.weigh]
    split
    · omega
    · split
      · omega
      · split <;> omega
theorem weighL_rng : ∀ (l : List Ins) (d : Nat) (left : Int), -1 ≤ left → -1 ≤ weighL l d left ∧ weighL l d left ≤ left
  | [], d, left, h0 => by simp only [weighL]; omega
  | i :: r, d, left, h0 => by
    simp only [weighL]
    split
    · rename_i h
      have h1 := weigh_rng i d left h
      have h2 := weighL_rng r d (i.weigh d left) h1.1
      omega
    · omega
end

/-- All instructions' lists are short. -/
def short (i : Ins) : Prop := i.l.length ≤ 1000
mutual
theorem weigh_few : ∀ (i : Ins) (d : Nat) (left : Int), 0 ≤ left → 0 ≤ i.weigh d left → d ≤ 600 ∧ i.nest + d ≤ 601 ∧ (i.count : Int) + i.weigh d left ≤ left ∧ i.deep short
  | .mk op a b n h l body els o, d, left, h0, hw => by
    have r1 := weighL_rng body (d + 1) (left - 1) (by omega)
    simp only [Ins.weigh] at hw ⊢
    split at hw
    · omega
    · rename_i hl
      split at hw
      · omega
      · rename_i hd
        split at hw
        · rename_i hb
          have h1 := weighL_few body (d + 1) (left - 1) (by omega) hb
          have h2 := weighL_few els (d + 1) (weighL body (d + 1) (left - 1)) hb hw
          rw [if_neg hl, if_neg hd, if_pos hb]
          refine ⟨by omega, ?_, ?_, ?_⟩
          · simp only [Ins.nest]; omega
          · simp only [Ins.count]; omega
          · simp only [Ins.deep]; exact ⟨by unfold short; simp only [Ins.l]; omega, h1.2.2, h2.2.2⟩
        · omega
theorem weighL_few : ∀ (l : List Ins) (d : Nat) (left : Int), 0 ≤ left → 0 ≤ weighL l d left → (d ≤ 601 → nestL l + d ≤ 601) ∧ (countL l : Int) + weighL l d left ≤ left ∧ deepL short l
  | [], d, left, h0, hw => by simp only [weighL, nestL, countL, deepL]; exact ⟨by omega, by omega, trivial⟩
  | i :: r, d, left, h0, hw => by
    simp only [weighL] at hw ⊢
    rw [if_pos h0] at hw ⊢
    have r1 := weigh_rng i d left h0
    have hi : 0 ≤ i.weigh d left := by
      by_cases h : 0 ≤ i.weigh d left
      · exact h
      · have := weighL_rng r d (i.weigh d left) r1.1
        omega
    have h1 := weigh_few i d left h0 hi
    have h2 := weighL_few r d (i.weigh d left) hi hw
    refine ⟨fun hd => ?_, ?_, ?_⟩
    · have := h2.1 hd; simp only [nestL]; omega
    · simp only [countL]; omega
    · simp only [deepL]; exact ⟨h1.2.2.2, h2.2.2⟩
end

theorem r_weigh : ∀ l : List Ins, Inss l → ∀ (d : Nat) (left : Int), d ≤ 601 → -1 ≤ left → left ≤ 3000 → ∀ H, doC fn_bodkinref09_weigh [.t (.sl (l.map Ins.enc)), .t (.v (.int .i64 d)), .t (.v (.int .i64 left))] H = some (.t (.v (.int .i64 (if 600 < d then -1 else weighL l d left))), H) := by
  intro l
  refine ins_ind (P := fun l => Inss l → ∀ (d : Nat) (left : Int), d ≤ 601 → -1 ≤ left → left ≤ 3000 → ∀ H, doC fn_bodkinref09_weigh [.t (.sl (l.map Ins.enc)), .t (.v (.int .i64 d)), .t (.v (.int .i64 left))] H = some (.t (.v (.int .i64 (if 600 < d then -1 else weighL l d left))), H)) ?_ _ l (Nat.le_refl _)
  intro l ih hl d left hd h0 h1 H
  refine pureC rfl rfl rfl rfl ?_ H
  rw [callE LG rfl rfl rfl]
  by_cases hd6 : 600 < d
  · have hd6' : (600 : Int) < d := by omega
    simp [hd6, hd6']
  · have hd6' : ¬ (600 : Int) < d := by omega
    have wd : IntKind.i64.wrap ((d : Int) + 1) = d + 1 := wrap_i64 (by omega) (by omega)
    have key := for_ind l hl.1 (fun k r => ∀ left : Int, -1 ≤ left → left ≤ 3000 → K_bodkinref09_weigh_0 LG 0 (execL LG 0 (.loop L_bodkinref09_weigh_0) (S_bodkinref09_weigh_0 (.t (.sl (l.map Ins.enc))) (.t (.v (.int .i64 d))) (.t (.v (.int .i64 left))) (.t (.v (.int .i64 k))) [])) = some (.t (.v (.int .i64 (weighL r d left))), []))
      (fun left _ _ => by rw [execL_loop_eq]; simp [K_bodkinref09_weigh_0, weighL]) (fun k x r hk hx hm hw ihr left h0 h1 => by
        have hx0 := (Ins.ok_iff x).1 (hl.2 x hm)
        rw [execL_loop_eq]
        simp only [weighL]
        by_cases hp : 0 ≤ left
        · have wl : IntKind.i64.wrap (left - 1) = left - 1 := wrap_i64 (by omega) (by omega)
          have hb := (ih x hm).1 hx0.2.2.2.2.2.2.1 (d + 1) (left - 1) (by omega) (by omega) (by omega)
          have rb := weighL_rng x.body (d + 1) (left - 1) (by omega)
          have e := ihr (x.weigh d left) (weigh_rng x d left hp).1 (by have := (weigh_rng x d left hp).2; omega)
          rw [if_pos hp]
          simp only [K_bodkinref09_weigh_0] at e ⊢
          simp at hw hb
          rw [Ins.weigh_eq] at e ⊢
          by_cases h6 : 600 < d + 1
          · rw [if_pos h6] at hb
            simp only [if_pos h6, ite_self] at e ⊢
            by_cases hL : 1000 < x.l.length
            · have hL' : (1000 : Int) < x.l.length := by omega
              simp [hx, hk, hw, hp, wd, wl, hb, hL']
              exact e
            · have hL' : ¬ (1000 : Int) < x.l.length := by omega
              simp [hx, hk, hw, hp, wd, wl, hb, hL']
              exact e
          · rw [if_neg h6] at hb
            have he := (ih x hm).2 hx0.2.2.2.2.2.2.2 (d + 1) (weighL x.body (d + 1) (left - 1)) (by omega) (by omega) (by omega)
            rw [if_neg h6] at he
            simp at he
            simp only [if_neg h6] at e ⊢
            generalize weighL x.body (d + 1) (left - 1) = lb at *
            generalize weighL x.els (d + 1) lb = le at *
            by_cases hq : 0 ≤ lb
            · by_cases hL : 1000 < x.l.length
              · have hL' : (1000 : Int) < x.l.length := by omega
                simp only [if_pos hL, if_pos hq] at e ⊢
                simp [hx, hk, hw, hp, wd, wl, hb, he, hL', hq]
                exact e
              · have hL' : ¬ (1000 : Int) < x.l.length := by omega
                simp only [if_neg hL, if_pos hq] at e ⊢
                simp [hx, hk, hw, hp, wd, wl, hb, he, hL', hq]
                exact e
            · by_cases hL : 1000 < x.l.length
              · have hL' : (1000 : Int) < x.l.length := by omega
                simp only [if_pos hL, if_neg hq] at e ⊢
                simp [hx, hk, hw, hp, wd, wl, hb, hL', hq]
                exact e
              · have hL' : ¬ (1000 : Int) < x.l.length := by omega
                simp only [if_neg hL, if_neg hq] at e ⊢
                simp [hx, hk, hw, hp, wd, wl, hb, hL', hq]
                exact e
        · rw [if_neg hp]
          simp [K_bodkinref09_weigh_0, hk, hp])
    have := key left h0 h1
    simp only [if_neg hd6]
    simpa [K_bodkinref09_weigh_0, hd6'] using this
def few (l : List Ins) : Bool := decide (0 ≤ weighL l 0 3000)
theorem r_few (l : List Ins) (hl : Inss l) (H : List AO) : doC fn_bodkinref09_Few [.t (.sl (l.map Ins.enc))] H = some (.t (.v (.bool (few l))), H) := by
  have h := r_weigh l hl 0 3000 (by omega) (by omega) (by omega)
  simp at h
  refine pureC rfl rfl rfl rfl ?_ H
  rw [callE LG rfl rfl rfl]
  simp [h, few]
theorem few_spec {l : List Ins} (h : few l = true) : nestL l ≤ 601 ∧ countL l ≤ 3000 ∧ deepL short l := by
  have h1 := weighL_few l 0 3000 (by omega) (by simpa [few] using h)
  have h2 : 0 ≤ weighL l 0 3000 := by simpa [few] using h
  exact ⟨by have := h1.1 (by omega); omega, by have := h1.2.1; omega, h1.2.2⟩
end Go.Proofs.YtgehpjjpeddomaaGreatDoor
