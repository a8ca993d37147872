/- encode.one: the two kinds that are not alike. -/
import Derived.Test.YtgehpjjpeddomaaGreatDoorZCEnc8
set_option linter.all false
namespace Go.Proofs.YtgehpjjpeddomaaGreatDoor
open Go
set_option maxRecDepth 100000
theorem lenBs (x y : List UInt8) : (x ++ y).length = x.length + y.length := List.length_append
theorem lowB_take (n : Int) : (lowB 8 n).take 4 = lowB 4 n := rfl
theorem one_14 (i : Ins) (hi : i.ok) (hk : immS i.op = 14) : WinF fn_encode_one [.t i.enc] i.bytes i.ver := by
  have hi0 := (Ins.ok_iff i).1 hi
  refine WinFB.mk fun bs v hl => ?_
  have fin : bs ++ i.bytes = bs ++ headB i.op ++ lowB 4 i.n := by rw [Ins.bytes_eq, hk]; simp [midB]
  have finv : i.ver = 1 := by rw [Ins.ver_eq, hk]; simp
  have hl' := hl
  rw [← List.length_append, fin] at hl
  simp only [List.length_append, lowB_len] at hl
  · rw [fin, finv]
    have him := c_Imm i.op
    rw [hk] at him
    have f1 := fun R => (c_words8 [i.n] (by simp [lenOk]) (by simp; exact hi0.2.2.2.1)).go (sigI rfl rfl) (v := v) (bs := bs ++ headB i.op) (R := R) rfl (by simp only [List.length_append, catB, lowB_len, List.length_nil]; omega)
    simp only [catB, List.append_nil, List.map_cons, List.map_nil, tU] at f1
    have hw : IntKind.i64.wrap (((bs ++ headB i.op).length : Int) + 4) = ((bs ++ headB i.op).length : Int) + 4 := wrap_i64 (by omega) (by rw [List.length_append]; omega)
    have hT : (((bs ++ headB i.op).length : Int) + 4).toNat = (bs ++ headB i.op).length + 4 := by omega
    have h0 : (0 : Int) ≤ ((bs ++ headB i.op).length : Int) + 4 := by omega
    have hle : ((bs ++ headB i.op).length + 4 ≤ (bs ++ headB i.op ++ lowB 8 i.n).length) = True := eq_true (by rw [lenBs (bs ++ headB i.op), lowB_len]; omega)
    have f3 : ∀ h : List AO, _ := fun h => cutO_bs (bs := bs ++ headB i.op ++ lowB 8 i.n) (n := (bs ++ headB i.op ++ lowB 8 i.n).length) (v := v) (r := 0) (k := (bs ++ headB i.op).length + 4) (h := h) rfl (by rw [lenBs (bs ++ headB i.op), lowB_len]; omega)
    have ht : (bs ++ headB i.op ++ lowB 8 i.n).take ((bs ++ headB i.op).length + 4) = bs ++ headB i.op ++ lowB 4 i.n := by
      rw [List.take_length_add_append, lowB_take]
    rw [ht] at f3
    have hlen : (bs ++ headB i.op ++ lowB 4 i.n).length = (bs ++ headB i.op).length + 4 := by rw [lenBs (bs ++ headB i.op), lowB_len]
    rw [callE LG rfl rfl rfl, hlen]
    by_cases ho : i.op < 256
    · have hh : [by8 i.op] = headB i.op := by simp [headB, ho]
      have hlen : (headB i.op).length = 1 := by rw [← hh]; rfl
      have q1 := fun R => (c_octet8 i.op).go (sigI rfl rfl) (v := v) (bs := bs) (R := R) rfl (by simp only [List.length_cons, List.length_nil]; omega)
      rw [hh] at q1
      simp [-List.length_append, -List.append_assoc, -appO_arr, take1, take2, takeB, allB, b00, rng2, b0, ho, q1, him, f1, f3, slK_cut, cutW_eq, hw, hT, h0, hle, doCall_win2 LG (callL LG) (f := fn_encode_words) rfl rfl]
    · have hh : [by8 (i.op / 256)] ++ uI (i.op % 256) = headB i.op := by simp [headB, ho]
      have hlen : (headB i.op).length = 1 + (uI (i.op % 256)).length := by rw [← hh, List.length_append]; rfl
      have q1 := fun R => (c_octet8 (i.op / 256)).go (sigI rfl rfl) (v := v) (bs := bs) (R := R) rfl (by simp only [List.length_cons, List.length_nil]; omega)
      have q2 := fun R => (c_u (i.op % 256)).go (sigI rfl rfl) (v := v) (bs := bs ++ [by8 (i.op / 256)]) (R := R) rfl (by simp only [List.length_append, List.length_cons, List.length_nil]; omega)
      rw [List.append_assoc, hh] at q2
      simp [-List.length_append, -List.append_assoc, -appO_arr, take1, take2, takeB, allB, b00, rng2, b0, ho, q1, q2, bin_shr, shr8i, and255, him, f1, f3, slK_cut, cutW_eq, hw, hT, h0, hle, doCall_win2 LG (callL LG) (f := fn_encode_words) rfl rfl]
abbrev boxI (i : Ins) : AO := .box (i.enc.cells.map .t)
theorem one_24 (i : Ins) (hi : i.ok) (hk : immS i.op = 24) : WinF fn_encode_one [.t i.enc] i.bytes i.ver := by
  have hi0 := (Ins.ok_iff i).1 hi
  refine WinFB.mk fun bs v hl => ?_
  have fin : bs ++ i.bytes = bs ++ headB i.op ++ i.l.map by8 := by rw [Ins.bytes_eq, hk]; simp [midB]
  have finv : i.ver = 0 := by rw [Ins.ver_eq, hk]; simp
  rw [← List.length_append, fin] at hl
  simp only [List.length_append, List.length_map] at hl
  rw [fin, finv]
  have him := c_Imm i.op
  rw [hk] at him
  have key := for_ind i.l hi0.2.2.2.2.2.1.1 (fun k r => ∀ (acc : List UInt8) (R : List AO), (R = [] ∨ R = [boxI i]) → acc.length + r.length ≤ 140737488355000 → K_encode_one_0 LG 1 (execL LG 1 (.loop L_encode_one_0) (S_encode_one_0 (.win 0 v acc.length) (.t (.sl (ints i.l))) (.t (.v (.int .i64 i.l.length))) (.t (.v (.int .i64 k))) (.arr ty_uint8 v (bsT acc) 0 0 :: R))) =
      some (.win 0 v (acc ++ r.map by8).length, [.arr ty_uint8 v (bsT (acc ++ r.map by8)) 0 0]))
    (fun acc R hR _ => by
      rw [execL_loop_eq]
      rcases hR with rfl | rfl <;> simp [K_encode_one_0]) (fun k x r hk hx hm hw ih acc R hR hb => by
      simp only [List.length_cons] at hb
      have h1 := fun R => (c_octet8 x).go (sigI rfl rfl) (v := v) (bs := acc) (R := R) rfl (by simp only [List.length_cons, List.length_nil]; omega)
      have e := ih (acc ++ [by8 x]) [] (.inl rfl) (by simp only [List.length_append, List.length_cons, List.length_nil]; omega)
      have hcat : acc ++ (x :: r).map by8 = acc ++ [by8 x] ++ r.map by8 := by simp
      rw [execL_loop_eq, hcat]
      simp only [K_encode_one_0] at e ⊢
      simp at hw
      rcases hR with rfl | rfl
      · simp [-List.length_append, -List.append_assoc, hx, hk, hw, h1, trimE_eq]
        simpa [-List.length_append, -List.append_assoc] using e
      · simp [-List.length_append, -List.append_assoc, hx, hk, hw, h1, trimE_eq]
        simpa [-List.length_append, -List.append_assoc] using e)
  have k0 := key (bs ++ headB i.op) [boxI i] (.inr rfl) (by simp only [List.length_append]; omega)
  simp only [K_encode_one_0] at k0
  simp [-List.length_append, -List.append_assoc, boxI] at k0
  rw [callE LG rfl rfl rfl]
  by_cases ho : i.op < 256
  · have hh : [by8 i.op] = headB i.op := by simp [headB, ho]
    have hlen : (headB i.op).length = 1 := by rw [← hh]; rfl
    have q1 := fun R => (c_octet8 i.op).go (sigI rfl rfl) (v := v) (bs := bs) (R := R) rfl (by simp only [List.length_cons, List.length_nil]; omega)
    rw [hh] at q1
    simp [-List.length_append, -List.append_assoc, -appO_arr, take1, take2, takeB, allB, b00, rng2, b0, ho, q1, him]
    rw [W_eq]
    exact k0
  · have hh : [by8 (i.op / 256)] ++ uI (i.op % 256) = headB i.op := by simp [headB, ho]
    have hlen : (headB i.op).length = 1 + (uI (i.op % 256)).length := by rw [← hh, List.length_append]; rfl
    have q1 := fun R => (c_octet8 (i.op / 256)).go (sigI rfl rfl) (v := v) (bs := bs) (R := R) rfl (by simp only [List.length_cons, List.length_nil]; omega)
    have q2 := fun R => (c_u (i.op % 256)).go (sigI rfl rfl) (v := v) (bs := bs ++ [by8 (i.op / 256)]) (R := R) rfl (by simp only [List.length_append, List.length_cons, List.length_nil]; omega)
    rw [List.append_assoc, hh] at q2
    simp [-List.length_append, -List.append_assoc, -appO_arr, take1, take2, takeB, allB, b00, rng2, b0, ho, q1, q2, bin_shr, shr8i, and255, him]
    rw [W_eq]
    exact k0
end Go.Proofs.YtgehpjjpeddomaaGreatDoor
