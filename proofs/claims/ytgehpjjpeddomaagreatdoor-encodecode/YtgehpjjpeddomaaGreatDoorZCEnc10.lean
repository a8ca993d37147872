/- Contracts of the reference for encode: one instruction, instructions. -/
import Derived.Test.YtgehpjjpeddomaaGreatDoorZCEnc9
import Derived.Test.YtgehpjjpeddomaaGreatDoorZCRefOne0
import Derived.Test.YtgehpjjpeddomaaGreatDoorZCShape2
import Derived.Test.YtgehpjjpeddomaaGreatDoorZCEnc7
set_option linter.all false
namespace Go.Proofs.YtgehpjjpeddomaaGreatDoor
open Go
set_option maxRecDepth 100000
theorem beh_all (i : Ins) (hi : i.ok) (hp : pOne i = true) (hl : i.bytes.length ≤ 140737488000000) (hb : NewF fn_bodkinref10_inner [insA i.body] (bytesL i.body)) (he : NewF fn_bodkinref10_inner [insA i.els] (bytesL i.els)) :
    ∃ Y, i.bytes = headB i.op ++ Y ∧ NewF fn_bodkinref10_behind (beh i (immS i.op)) Y := by
  unfold pOne at hp
  rw [Bool.and_eq_true] at hp
  obtain ⟨hkn, hp⟩ := hp
  rcases imm_cases i.op with h | h | h | h | h | h | h | h | h | h | h | h | h | h | h | h | h | h | h | h | h | h | h | h | h | h | h
  · rw [h]
    exact ⟨[], by rw [Ins.bytes_eq, h]; simp [midB], beh_0 i hi⟩
  · rw [h] at hp ⊢
    have hA : i.a = 0 ∨ i.a = 1 ∨ i.a = 2 := by
      simp [pOneK] at hp
      rcases hp.1.1.1 with h0 | h0
      · rcases h0 with h0 | h0
        · exact .inl h0.1
        · exact .inr (.inl h0.1)
      · exact .inr (.inr h0.1)
    exact ⟨_, by rw [Ins.bytes_eq, h]; simp, beh_1 i hi hA (by rw [Ins.bytes_eq, h] at hl; simp at hl; omega) hb he⟩
  · rw [h]
    exact ⟨uI i.a, by rw [Ins.bytes_eq, h]; simp [midB], beh_2 i hi⟩
  · rw [h]
    exact ⟨listU i.l ++ uI i.a, by rw [Ins.bytes_eq, h]; simp [midB], beh_3 i hi (by rw [Ins.bytes_eq, h] at hl; simp [midB] at hl; simp; omega)⟩
  · rw [h]
    exact ⟨uI i.a, by rw [Ins.bytes_eq, h]; simp [midB], beh_4 i hi⟩
  · rw [h]
    exact ⟨uI i.a ++ uI i.b, by rw [Ins.bytes_eq, h]; simp [midB], beh_5 i hi⟩
  · rw [h]
    exact ⟨uI i.l.length ++ i.l.map by8, by rw [Ins.bytes_eq, h]; simp [midB, listO], beh_6 i hi (by rw [Ins.bytes_eq, h] at hl; simp [midB, listO] at hl; omega)⟩
  · rw [h]
    exact ⟨uI i.a, by rw [Ins.bytes_eq, h]; simp [midB], beh_7 i hi⟩
  · rw [h]
    exact ⟨uI i.a, by rw [Ins.bytes_eq, h]; simp [midB], beh_8 i hi⟩
  · rw [h]
    exact ⟨uI i.a, by rw [Ins.bytes_eq, h]; simp [midB], beh_9 i hi⟩
  · rw [h]
    exact ⟨uI i.a ++ uI i.b, by rw [Ins.bytes_eq, h]; simp [midB], beh_10 i hi⟩
  · rw [h]
    exact ⟨[0], by rw [Ins.bytes_eq, h]; simp [midB], beh_11 i hi⟩
  · rw [h]
    exact ⟨sI (sgn32 i.n), by rw [Ins.bytes_eq, h]; simp [midB], beh_12 i hi⟩
  · rw [h]
    exact ⟨sI (IntKind.i64.wrap i.n), by rw [Ins.bytes_eq, h]; simp [midB], beh_13 i hi⟩
  · rw [h]
    exact ⟨lowB 4 i.n, by rw [Ins.bytes_eq, h]; simp [midB], beh_14 i hi⟩
  · rw [h]
    exact ⟨lowB 8 i.n, by rw [Ins.bytes_eq, h]; simp [midB], beh_15 i hi⟩
  · rw [h]
    exact ⟨[by8 i.a], by rw [Ins.bytes_eq, h]; simp [midB], beh_16 i hi⟩
  · rw [h]
    exact ⟨uI i.a ++ [0], by rw [Ins.bytes_eq, h]; simp [midB], beh_17 i hi⟩
  · rw [h]
    exact ⟨uI i.a, by rw [Ins.bytes_eq, h]; simp [midB], beh_18 i hi⟩
  · rw [h]
    exact ⟨[0, 0], by rw [Ins.bytes_eq, h]; simp [midB], beh_19 i hi⟩
  · rw [h]
    exact ⟨uI i.a ++ uI i.b, by rw [Ins.bytes_eq, h]; simp [midB], beh_20 i hi⟩
  · rw [h]
    exact ⟨uI i.a, by rw [Ins.bytes_eq, h]; simp [midB], beh_21 i hi⟩
  · rw [h]
    exact ⟨uI i.a ++ uI i.b, by rw [Ins.bytes_eq, h]; simp [midB], beh_22 i hi⟩
  · rw [h]
    exact ⟨lowB 8 i.n ++ lowB 8 i.h, by rw [Ins.bytes_eq, h]; simp [midB], beh_23 i hi⟩
  · rw [h]
    exact ⟨i.l.map by8, by rw [Ins.bytes_eq, h]; simp [midB], beh_24 i hi (by rw [Ins.bytes_eq, h] at hl; simp [midB, listO] at hl; omega)⟩
  · rw [h]
    exact ⟨[by8 i.a], by rw [Ins.bytes_eq, h]; simp [midB], beh_25 i hi⟩
  · rw [h] at hp ⊢
    have hlen : i.l.length = 1 := by
      simp [pOneK] at hp
      exact hp.2.2.1
    obtain ⟨x, hx⟩ : ∃ x, i.l = [x] := by
      cases hh : i.l with
      | nil => rw [hh] at hlen; simp at hlen
      | cons x r => cases r with
        | nil => exact ⟨x, rfl⟩
        | cons y s => rw [hh] at hlen; simp at hlen
    exact ⟨_, by rw [Ins.bytes_eq, h]; simp [midB, hx], beh_26 i hi (by omega)⟩
theorem of_imm {op : Int} (h : knownS op = true) : (ofS op)[2]? = some (.v (.int .i64 (immS op))) := by rw [ofS_known h]; rfl
theorem known_range (op : Int) (h : knownS op = true) : (0 ≤ op ∧ op < 211) ∨ (64512 ≤ op ∧ op < 64530) ∨ (64768 ≤ op ∧ op < 65024) := by
  unfold knownS rowS at h
  split at h
  · exact .inl (by assumption)
  · split at h
    · exact .inr (.inl (by assumption))
    · split at h
      · exact .inr (.inr (by assumption))
      · simp at h
theorem b252 : [Tr.v (.int .u8 252)] = bsT [252] := rfl
theorem b253 : [Tr.v (.int .u8 253)] = bsT [253] := rfl
theorem r_one10 (i : Ins) (hi : i.ok) (hkn : knownS i.op = true) (Y : List UInt8) (hY : Y.length ≤ 140737488300000) (hb : NewF fn_bodkinref10_behind (beh i (immS i.op)) Y) : NewF fn_bodkinref10_one [.t i.enc] (headB i.op ++ Y) := by
  have hi0 := (Ins.ok_iff i).1 hi
  refine NewF.mk1 rfl rfl (by simp [AV.closed, AV.closed.closedL]) ?_
  have c1 := fun H => hb H
  have c2 := c_Of i.op
  obtain ⟨o2, ho2⟩ : ∃ o2 : List Tr, ofS i.op = o2 ∧ o2[2]? = some (.v (.int .i64 (immS i.op))) := ⟨ofS i.op, rfl, of_imm hkn⟩
  have ho2' := ho2.2
  rw [ho2.1] at c2
  have hlen : (headB i.op).length ≤ 11 := by
    unfold headB
    split
    · simp
    · have := uI_len (i.op % 256); simp; omega
  have q0 : ∀ (ys : List UInt8), ys.length ≤ 100 → ∀ (r : Nat) (h : List AO), appO (some (.arr ty_uint8 0 [] 0 0)) h ty_uint8 1 1 r 0 0 (bsT ys) = some (.win r 0 ys.length, h.set r (.arr ty_uint8 0 (bsT ys) 0 0)) := fun ys hys r h => by
    have := appO_bs (bs := []) (ys := ys) (n := 0) (v := 0) (r := r) (h := h) rfl (by simp; omega)
    simpa [bsT_nil] using this
  rw [callE LG rfl rfl rfl]
  rcases known_range i.op hkn with hr | hr | hr
  · have hh : headB i.op = [by8 i.op] := by unfold headB; rw [if_pos (by omega)]
    have h1 : i.op < 64512 := by omega
    generalize headB i.op = T at hh hlen ⊢
    have q := fun (r : Nat) (h : List AO) => appO_bs (bs := T) (ys := Y) (n := T.length) (v := 0) (r := r) (h := h) rfl (by omega)
    have bT : [Tr.v (.int .u8 ((by8 i.op).toNat : Int))] = bsT T := by rw [hh]; rfl
    have tT : List.take 1 (bsT T) = bsT T := by rw [hh]; rfl
    have q1 := q0 T (by omega)
    have hT1 : (1 ≤ T.length) = True := eq_true (by rw [hh]; exact Nat.le_refl _)
    simp [-List.length_append, -List.append_assoc, -List.cons_append, -List.nil_append, -List.singleton_append, -appO_arr, takeM, take1, take2, takeB, allB, b00, rng2, hT1, h1, c1, c2, ho2', q, q1, bT, tT, conv_int und_int und_uint8, wrap_by8]
  · have hh : [252] ++ uI (i.op - 64512) = headB i.op := by
      unfold headB
      rw [if_neg (by omega)]
      have e1 : i.op / 256 = 252 := by omega
      have e2 : i.op % 256 = i.op - 64512 := by omega
      rw [e1, e2]; rfl
    have h1 : ¬ i.op < 64512 := by omega
    have h2 : i.op < 64768 := by omega
    have hw : IntKind.i64.wrap (i.op - 64512) = i.op - 64512 := wrap_i64 (by omega) (by omega)
    have hu := fun H => r_u10 (i.op - 64512) H
    have hul := uI_len (i.op - 64512)
    have q1 := q0 [252] (by simp)
    have q3 := fun (r : Nat) (h : List AO) => appO_bs (bs := [252]) (ys := uI (i.op - 64512)) (n := 1) (v := 0) (r := r) (h := h) rfl (by simp; omega)
    rw [hh] at q3
    generalize headB i.op = T at hlen q3 ⊢
    have q := fun (r : Nat) (h : List AO) => appO_bs (bs := T) (ys := Y) (n := T.length) (v := 0) (r := r) (h := h) rfl (by omega)
    simp [-List.length_append, -List.append_assoc, -List.cons_append, -List.nil_append, -List.singleton_append, -appO_arr, takeM, take1, take2, takeB, allB, b00, rng2, h1, h2, hw, hu, c1, c2, ho2', q, q1, q3, b252]
  · have hh : [253] ++ uI (i.op - 64768) = headB i.op := by
      unfold headB
      rw [if_neg (by omega)]
      have e1 : i.op / 256 = 253 := by omega
      have e2 : i.op % 256 = i.op - 64768 := by omega
      rw [e1, e2]; rfl
    have h1 : ¬ i.op < 64512 := by omega
    have h2 : ¬ i.op < 64768 := by omega
    have hw : IntKind.i64.wrap (i.op - 64768) = i.op - 64768 := wrap_i64 (by omega) (by omega)
    have hu := fun H => r_u10 (i.op - 64768) H
    have hul := uI_len (i.op - 64768)
    have q1 := q0 [253] (by simp)
    have q3 := fun (r : Nat) (h : List AO) => appO_bs (bs := [253]) (ys := uI (i.op - 64768)) (n := 1) (v := 0) (r := r) (h := h) rfl (by simp; omega)
    rw [hh] at q3
    generalize headB i.op = T at hlen q3 ⊢
    have q := fun (r : Nat) (h : List AO) => appO_bs (bs := T) (ys := Y) (n := T.length) (v := 0) (r := r) (h := h) rfl (by omega)
    simp [-List.length_append, -List.append_assoc, -List.cons_append, -List.nil_append, -List.singleton_append, -appO_arr, takeM, take1, take2, takeB, allB, b00, rng2, h1, h2, hw, hu, c1, c2, ho2', q, q1, q3, b253]
theorem r_inner10 : ∀ l : List Ins, Inss l → everyL pOne l = true → (bytesL l).length ≤ 140737488000000 → NewF fn_bodkinref10_inner [insA l] (bytesL l) := by
  intro l
  refine ins_ind (P := fun l => Inss l → everyL pOne l = true → (bytesL l).length ≤ 140737488000000 → NewF fn_bodkinref10_inner [insA l] (bytesL l)) ?_ _ l (Nat.le_refl _)
  intro l ih hl hp hlen
  rw [everyL_all, List.all_eq_true] at hp
  have hmem : ∀ (l : List Ins) (x : Ins), x ∈ l → x.bytes.length ≤ (bytesL l).length := by
    intro l x hx
    induction l with
    | nil => simp at hx
    | cons y r ih =>
      simp only [bytesL, List.length_append]
      rcases List.mem_cons.1 hx with rfl | hx
      · omega
      · have := ih hx; omega
  have hin : ∀ x ∈ l, NewF fn_bodkinref10_one [.t x.enc] x.bytes := fun x hx => by
    have hx0 := (Ins.ok_iff x).1 (hl.2 x hx)
    have hpx := hp x hx
    rw [Ins.every_eq, Bool.and_eq_true, Bool.and_eq_true] at hpx
    have hxl := hmem l x hx
    have hsub : immS x.op = 1 → (bytesL x.body).length ≤ x.bytes.length ∧ (x.other = true → (bytesL x.els).length ≤ x.bytes.length) := fun h => by
      rw [Ins.bytes_eq, if_pos h]
      unfold blockB
      refine ⟨by simp only [List.length_append]; omega, fun ho => ?_⟩
      rw [ho]
      simp only [List.length_append, if_true, List.length_cons]
      omega
    have hkn : knownS x.op = true := by
      have := hpx.1.1
      unfold pOne at this
      rw [Bool.and_eq_true] at this
      exact this.1
    -- what is not inside is not asked
    have hnone : immS x.op ≠ 1 → x.body = [] ∧ x.els = [] := fun h => by
      have := hpx.1.1
      unfold pOne pOneK at this
      rw [if_neg h] at this
      simp only [Bool.and_eq_true, Bool.not_eq_true', decide_eq_false_iff_not] at this
      have h0 := this.2.1.1
      constructor
      · exact List.length_eq_zero_iff.1 (by omega)
      · exact List.length_eq_zero_iff.1 (by omega)
    have hels : immS x.op = 1 → x.other = false → x.els = [] := fun h ho => by
      have := hpx.1.1
      unfold pOne pOneK at this
      rw [if_pos h] at this
      simp [ho] at this
      exact this.2.2
    have nb : NewF fn_bodkinref10_inner [insA x.body] (bytesL x.body) := (ih x hx).1 hx0.2.2.2.2.2.2.1 hpx.1.2 (by
      by_cases h : immS x.op = 1
      · have := (hsub h).1; omega
      · rw [(hnone h).1]; simp [bytesL])
    have ne : NewF fn_bodkinref10_inner [insA x.els] (bytesL x.els) := (ih x hx).2 hx0.2.2.2.2.2.2.2 hpx.2 (by
      by_cases h : immS x.op = 1
      · cases ho : x.other with
        | true => have := (hsub h).2 ho; omega
        | false => rw [hels h ho]; simp [bytesL]
      · rw [(hnone h).2]; simp [bytesL])
    obtain ⟨Y, e1, e2⟩ := beh_all x (hl.2 x hx) hpx.1.1 (by omega) nb ne
    rw [e1]
    exact r_one10 x (hl.2 x hx) hkn Y (by rw [e1, List.length_append] at hxl; omega) e2
  refine NewF.mk1 rfl rfl rfl ?_
  have key := for_ind l hl.1 (fun k r => ∀ acc : List UInt8, acc ++ bytesL r = bytesL l → K_bodkinref10_inner_0 LG 0 (execL LG 0 (.loop L_bodkinref10_inner_0) (S_bodkinref10_inner_0 (insA l) (.win 0 0 acc.length) (.t (.v (.int .i64 k))) [.arr ty_uint8 0 (bsT acc) 0 0])) =
      some (.win 0 0 (bytesL l).length, [.arr ty_uint8 0 (bsT (bytesL l)) 0 0]))
    (fun acc ha => by
      simp only [bytesL, List.append_nil] at ha
      subst ha
      rw [execL_loop_eq]
      simp [K_bodkinref10_inner_0]) (fun k x r hk hx hm hw ihr acc ha => by
      simp only [bytesL] at ha
      have hln : acc.length + (x.bytes.length + (bytesL r).length) = (bytesL l).length := by rw [← ha, List.length_append, List.length_append]
      have g1 := fun H => hin x hm H
      have g2 := fun (r : Nat) (h : List AO) => appO_bs (bs := acc) (ys := x.bytes) (n := acc.length) (v := 0) (r := r) (h := h) rfl (by omega)
      have e := ihr (acc ++ x.bytes) (by rw [List.append_assoc]; exact ha)
      rw [execL_loop_eq]
      simp only [K_bodkinref10_inner_0] at e ⊢
      simp at hw
      simp [-List.length_append, -List.append_assoc, -List.cons_append, -List.nil_append, -List.singleton_append, -appO_arr, takeM, take1, take2, takeB, allB, b00, rng2, hx, hk, hw, g1, g2, trimE_eq]
      simpa [-List.length_append, -List.append_assoc] using e)
  have k0 := key [] rfl
  rw [callE LG rfl rfl rfl]
  simp [-List.length_append, -List.append_assoc, K_bodkinref10_inner_0, bsT_nil] at k0
  simp [-List.length_append, -List.append_assoc, -List.cons_append, -List.nil_append, -List.singleton_append, -appO_arr, takeM, take1, take2, takeB, allB, b00, rng2]
  exact k0
theorem r_Expr10 (l : List Ins) (hl : Inss l) (hp : everyL pOne l = true) (hlen : (bytesL l).length ≤ 140737488000000) : NewF fn_bodkinref10_Expr [insA l] (exprB l) := by
  refine NewF.mk1 rfl rfl rfl ?_
  have h := fun H => r_inner10 l hl hp hlen H
  have q := fun (r : Nat) (h : List AO) => appO_bs (bs := bytesL l) (ys := [11]) (n := (bytesL l).length) (v := 0) (r := r) (h := h) rfl (by simp only [List.length_cons, List.length_nil]; omega)
  rw [callE LG rfl rfl rfl, exprB]
  simp [-List.length_append, -List.append_assoc, -List.cons_append, -List.nil_append, -List.singleton_append, -appO_arr, takeM, take1, take2, takeB, allB, b00, rng2, h, q, b11]
end Go.Proofs.YtgehpjjpeddomaaGreatDoor
