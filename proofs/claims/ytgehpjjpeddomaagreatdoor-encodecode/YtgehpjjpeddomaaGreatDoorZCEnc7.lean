/- Contracts: encode.one whole, code, expr, Code. -/
import Derived.Test.YtgehpjjpeddomaaGreatDoorZCEnc6
import Derived.Test.YtgehpjjpeddomaaGreatDoorZCRefOne0
import Derived.Test.YtgehpjjpeddomaaGreatDoorZCBodyA
set_option linter.all false
namespace Go.Proofs.YtgehpjjpeddomaaGreatDoor
open Go
set_option maxRecDepth 100000
theorem c_one_e (i : Ins) (hi : i.ok) (hl : laneOk i) (hb : WinF fn_encode_block [.t i.enc] (blockB i) (blockV i)) : WinF fn_encode_one [.t i.enc] i.bytes i.ver := by
  rcases imm_cases i.op with h | h | h | h | h | h | h | h | h | h | h | h | h | h | h | h | h | h | h | h | h | h | h | h | h | h | h
  · exact one_0 i hi h
  · exact one_1 i hi h hb
  · exact one_2 i hi h
  · exact one_3 i hi h
  · exact one_4 i hi h
  · exact one_5 i hi h
  · exact one_6 i hi h
  · exact one_7 i hi h
  · exact one_8 i hi h
  · exact one_9 i hi h
  · exact one_10 i hi h
  · exact one_11 i hi h
  · exact one_12 i hi h
  · exact one_13 i hi h
  · exact one_14 i hi h
  · exact one_15 i hi h
  · exact one_16 i hi h
  · exact one_17 i hi h
  · exact one_18 i hi h
  · exact one_19 i hi h
  · exact one_20 i hi h
  · exact one_21 i hi h
  · exact one_22 i hi h
  · exact one_23 i hi h
  · exact one_24 i hi h
  · exact one_25 i hi h
  · obtain ⟨x, r, hx⟩ : ∃ x r, i.l = x :: r := by
      cases hh : i.l with
      | nil => exact absurd hh (hl h)
      | cons x r => exact ⟨x, r, rfl⟩
    exact one_26 i hi h x r hx
theorem c_code_e : ∀ l : List Ins, Inss l → deepL laneOk l → WinF fn_encode_code [insA l] (bytesL l) (verL l) := by
  intro l
  refine ins_ind (P := fun l => Inss l → deepL laneOk l → WinF fn_encode_code [insA l] (bytesL l) (verL l)) ?_ _ l (Nat.le_refl _)
  intro l ih hl hd
  have h1 : ∀ x ∈ l, WinF fn_encode_one [.t x.enc] x.bytes x.ver := fun x hx => by
    have hx0 := (Ins.ok_iff x).1 (hl.2 x hx)
    have hdx := (Ins.deep_eq laneOk x).1 ((deepL_iff laneOk l).1 hd x hx)
    exact c_one_e x (hl.2 x hx) hdx.1 (c_block x (hl.2 x hx) ((ih x hx).1 hx0.2.2.2.2.2.2.1 hdx.2.1) ((ih x hx).2 hx0.2.2.2.2.2.2.2 hdx.2.2))
  refine WinFB.mk fun bs v hb => ?_
  have key := for_ind l hl.1 (fun k r => ∀ (acc : List UInt8) (v : Nat), acc.length + (bytesL r).length ≤ 140737488355000 → K_encode_code_0 LG 1 (execL LG 1 (.loop L_encode_code_0) (S_encode_code_0 (.win 0 v acc.length) (insA l) (.t (.v (.int .i64 l.length))) (.t (.v (.int .i64 k))) [.arr ty_uint8 v (bsT acc) 0 0])) =
      some (.win 0 (v + verL r) (acc ++ bytesL r).length, [.arr ty_uint8 (v + verL r) (bsT (acc ++ bytesL r)) 0 0]))
    (fun acc v _ => by rw [execL_loop_eq]; simp [K_encode_code_0, bytesL, verL]) (fun k x r hk hx hm hw ihr acc v hb => by
      simp only [bytesL, List.length_append] at hb
      have hq := fun R => (h1 x hm).go (sigI rfl rfl) (v := v) (bs := acc) (R := R) rfl (by omega)
      have e := ihr (acc ++ x.bytes) (v + x.ver) (by rw [List.length_append]; omega)
      rw [execL_loop_eq, bytesL, verL, ← List.append_assoc, ← Nat.add_assoc]
      simp only [K_encode_code_0] at e ⊢
      simp at hw
      simp [-List.length_append, -List.append_assoc, hx, hk, hw, hq, trimE_eq]
      simpa [-List.length_append, -List.append_assoc] using e)
  have k0 := key bs v hb
  simp only [K_encode_code_0] at k0
  rw [callE LG rfl rfl rfl]
  simp [-List.length_append, -List.append_assoc]
  simpa [-List.length_append, -List.append_assoc] using k0
theorem c_expr_e (l : List Ins) (hl : Inss l) (hd : deepL laneOk l) : WinF fn_encode_expr [insA l] (exprB l) (verL l) := by
  refine WinFB.mk fun bs v hb => ?_
  simp only [exprB, List.length_append, List.length_cons, List.length_nil] at hb
  have hq := fun R => (c_code_e l hl hd).go (sigI rfl rfl) (v := v) (bs := bs) (R := R) rfl (by omega)
  have q11 : ∀ h : List AO, _ := fun h => appO_bs (bs := bs ++ bytesL l) (ys := [11]) (v := v + verL l) (r := 0) (h := h) rfl (by simp only [List.length_append, List.length_cons, List.length_nil]; omega)
  rw [callE LG rfl rfl rfl, exprB, ← List.append_assoc]
  simp [-List.length_append, -List.append_assoc, -appO_arr, take1, takeB, allB, b11, hq, q11]
theorem tupC {f : Nat} {af : AFun} {args : List AV} {a b : Tr} (hf : LG.F f = some af) (hw : af.win = []) (hc : AV.closed.closedL args = true) (h : callL LG f args [] = some (.tup [.t a, .t b], [])) (H : List AO) :
    doCall LG (callL LG) f args H = some (.tup [.t a, .t b], H) := by
  unfold doCall
  rw [hf]
  simp only [hw, closed_coerce hc, closedL_refs hc, reach_none, Option.bind_some, closedL_ren hc, pick, List.map_nil, h, List.length_nil, Nat.le_refl, if_true, back, List.append_nil]
  rfl
/-- Code that may be has a lane where one is read. -/
theorem lane_of_one (i : Ins) (h : pOne i = true) : laneOk i := by
  intro hk hl
  unfold pOne at h
  rw [hk] at h
  simp [pOneK, hl] at h
theorem lanes_of : ∀ l : List Ins, everyL pOne l = true → deepL laneOk l := by
  intro l
  refine ins_ind (P := fun l => everyL pOne l = true → deepL laneOk l) ?_ _ l (Nat.le_refl _)
  intro l ih h
  rw [everyL_all, List.all_eq_true] at h
  refine (deepL_iff laneOk l).2 fun i hi => (Ins.deep_eq laneOk i).2 ?_
  have hi0 := h i hi
  rw [Ins.every_eq, Bool.and_eq_true, Bool.and_eq_true] at hi0
  exact ⟨lane_of_one i hi0.1.1, (ih i hi).1 hi0.1.2, (ih i hi).2 hi0.2⟩
theorem c_Code (l : List Ins) (hl : Inss l) (hs : SmallC l) (hb : (exprB l).length ≤ 140737488355000) (H : List AO) :
    doC fn_encode_Code [insA l] H = some (.tup [.t (.sl (if pCode l then bsT (exprB l) else [])), .t (.v (.int .i64 (if pCode l then 0 else 1)))], H) := by
  refine tupC rfl rfl rfl ?_ H
  have h1 := c_body l true hl hs
  simp only [Bool.true_or, Bool.and_true] at h1
  rw [callE LG rfl rfl rfl]
  cases hp : pCode l with
  | false =>
    rw [hp] at h1
    simp [h1]
  | true =>
    rw [hp] at h1
    have hev : everyL pOne l = true := by
      simp only [pCode, Bool.and_eq_true] at hp
      exact hp.2
    have h2 := (c_expr_e l hl (lanes_of l hev)).atNil (sigI rfl rfl) hb
    simp [h1, h2, takeB]
end Go.Proofs.YtgehpjjpeddomaaGreatDoor
