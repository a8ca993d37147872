/- Contracts of the reference for encode: what stands behind an instruction's number. -/
import Derived.Test.YtgehpjjpeddomaaGreatDoorZCEnc8
import Derived.Test.YtgehpjjpeddomaaGreatDoorZCEnc6
set_option linter.all false
namespace Go.Proofs.YtgehpjjpeddomaaGreatDoor
open Go
set_option maxRecDepth 100000
theorem takeM (l : List Int) : (bsT (l.map by8)).take l.length = bsT (l.map by8) := List.take_of_length_le (by simp)
abbrev beh (i : Ins) (k : Int) : List AV := [.t i.enc, .t (.v (.int .i64 k))]
theorem beh_0 (i : Ins) (hi : i.ok)  : NewF fn_bodkinref10_behind (beh i 0) ([]) := by
  have hi0 := (Ins.ok_iff i).1 hi
  obtain ⟨⟨hn0, hn1⟩, _⟩ := hi0.2.2.2
  refine NewF.mk1 rfl rfl (by simp [AV.closed, AV.closed.closedL]) ?_
  rw [callE LG rfl rfl rfl]
  simp [-List.length_append, -List.append_assoc, -appO_arr, takeM, take1, take2, takeB, allB, b00, rng2, bsT_nil]
theorem beh_5 (i : Ins) (hi : i.ok)  : NewF fn_bodkinref10_behind (beh i 5) (uI i.a ++ uI i.b) := by
  have hi0 := (Ins.ok_iff i).1 hi
  obtain ⟨⟨hn0, hn1⟩, _⟩ := hi0.2.2.2
  refine NewF.mk1 rfl rfl (by simp [AV.closed, AV.closed.closedL]) ?_
  have f1 := fun H => r_u10 i.a H
  have f1l := uI_len i.a
  have f2 := fun H => r_u10 i.b H
  have f2l := uI_len i.b
  have f3 := fun (r : Nat) (h : List AO) => appO_bs (bs := uI i.a) (ys := uI i.b) (n := (uI i.a).length) (v := 0) (r := r) (h := h) rfl (by first | omega | (simp only [List.length_append, List.length_cons, List.length_nil, List.length_map, lowB_len]; omega))
  rw [callE LG rfl rfl rfl]
  simp [-List.length_append, -List.append_assoc, -appO_arr, takeM, take1, take2, takeB, allB, b00, rng2, f1, f2, f3]
theorem beh_10 (i : Ins) (hi : i.ok)  : NewF fn_bodkinref10_behind (beh i 10) (uI i.a ++ uI i.b) := by
  have hi0 := (Ins.ok_iff i).1 hi
  obtain ⟨⟨hn0, hn1⟩, _⟩ := hi0.2.2.2
  refine NewF.mk1 rfl rfl (by simp [AV.closed, AV.closed.closedL]) ?_
  have f1 := fun H => r_u10 i.a H
  have f1l := uI_len i.a
  have f2 := fun H => r_u10 i.b H
  have f2l := uI_len i.b
  have f3 := fun (r : Nat) (h : List AO) => appO_bs (bs := uI i.a) (ys := uI i.b) (n := (uI i.a).length) (v := 0) (r := r) (h := h) rfl (by first | omega | (simp only [List.length_append, List.length_cons, List.length_nil, List.length_map, lowB_len]; omega))
  rw [callE LG rfl rfl rfl]
  simp [-List.length_append, -List.append_assoc, -appO_arr, takeM, take1, take2, takeB, allB, b00, rng2, f1, f2, f3]
theorem beh_20 (i : Ins) (hi : i.ok)  : NewF fn_bodkinref10_behind (beh i 20) (uI i.a ++ uI i.b) := by
  have hi0 := (Ins.ok_iff i).1 hi
  obtain ⟨⟨hn0, hn1⟩, _⟩ := hi0.2.2.2
  refine NewF.mk1 rfl rfl (by simp [AV.closed, AV.closed.closedL]) ?_
  have f1 := fun H => r_u10 i.a H
  have f1l := uI_len i.a
  have f2 := fun H => r_u10 i.b H
  have f2l := uI_len i.b
  have f3 := fun (r : Nat) (h : List AO) => appO_bs (bs := uI i.a) (ys := uI i.b) (n := (uI i.a).length) (v := 0) (r := r) (h := h) rfl (by first | omega | (simp only [List.length_append, List.length_cons, List.length_nil, List.length_map, lowB_len]; omega))
  rw [callE LG rfl rfl rfl]
  simp [-List.length_append, -List.append_assoc, -appO_arr, takeM, take1, take2, takeB, allB, b00, rng2, f1, f2, f3]
theorem beh_22 (i : Ins) (hi : i.ok)  : NewF fn_bodkinref10_behind (beh i 22) (uI i.a ++ uI i.b) := by
  have hi0 := (Ins.ok_iff i).1 hi
  obtain ⟨⟨hn0, hn1⟩, _⟩ := hi0.2.2.2
  refine NewF.mk1 rfl rfl (by simp [AV.closed, AV.closed.closedL]) ?_
  have f1 := fun H => r_u10 i.a H
  have f1l := uI_len i.a
  have f2 := fun H => r_u10 i.b H
  have f2l := uI_len i.b
  have f3 := fun (r : Nat) (h : List AO) => appO_bs (bs := uI i.a) (ys := uI i.b) (n := (uI i.a).length) (v := 0) (r := r) (h := h) rfl (by first | omega | (simp only [List.length_append, List.length_cons, List.length_nil, List.length_map, lowB_len]; omega))
  rw [callE LG rfl rfl rfl]
  simp [-List.length_append, -List.append_assoc, -appO_arr, takeM, take1, take2, takeB, allB, b00, rng2, f1, f2, f3]
theorem beh_26 (i : Ins) (hi : i.ok) (hb : i.l.length ≤ 140737488000000) : NewF fn_bodkinref10_behind (beh i 26) (uI i.a ++ uI i.b ++ i.l.map by8) := by
  have hi0 := (Ins.ok_iff i).1 hi
  obtain ⟨⟨hn0, hn1⟩, _⟩ := hi0.2.2.2
  refine NewF.mk1 rfl rfl (by simp [AV.closed, AV.closed.closedL]) ?_
  have f1 := fun H => r_u10 i.a H
  have f1l := uI_len i.a
  have f2 := fun H => r_u10 i.b H
  have f2l := uI_len i.b
  have f3 := fun (r : Nat) (h : List AO) => appO_bs (bs := uI i.a) (ys := uI i.b) (n := (uI i.a).length) (v := 0) (r := r) (h := h) rfl (by first | omega | (simp only [List.length_append, List.length_cons, List.length_nil, List.length_map, lowB_len]; omega))
  have f4 := fun H => r_octets10 i.l hi0.2.2.2.2.2.1.1 (by omega) H
  have f5 := fun (r : Nat) (h : List AO) => appO_bs (bs := uI i.a ++ uI i.b) (ys := i.l.map by8) (n := (uI i.a ++ uI i.b).length) (v := 0) (r := r) (h := h) rfl (by first | omega | (simp only [List.length_append, List.length_cons, List.length_nil, List.length_map, lowB_len]; omega))
  rw [callE LG rfl rfl rfl]
  simp [-List.length_append, -List.append_assoc, -appO_arr, takeM, take1, take2, takeB, allB, b00, rng2, f1, f2, f3, f4, f5]
theorem beh_6 (i : Ins) (hi : i.ok) (hb : i.l.length ≤ 140737488000000) : NewF fn_bodkinref10_behind (beh i 6) (uI i.l.length ++ i.l.map by8) := by
  have hi0 := (Ins.ok_iff i).1 hi
  obtain ⟨⟨hn0, hn1⟩, _⟩ := hi0.2.2.2
  refine NewF.mk1 rfl rfl (by simp [AV.closed, AV.closed.closedL]) ?_
  have f1 := fun H => r_octets10 i.l hi0.2.2.2.2.2.1.1 (by omega) H
  have f2 := fun H => r_listed10 i.l.length (i.l.map by8) (by simp only [List.length_map]; omega) H
  rw [callE LG rfl rfl rfl]
  simp [-List.length_append, -List.append_assoc, -appO_arr, takeM, take1, take2, takeB, allB, b00, rng2, f1, f2, doCall_win2' LG (callL LG) (f := fn_bodkinref10_listed) rfl rfl]
theorem beh_11 (i : Ins) (hi : i.ok)  : NewF fn_bodkinref10_behind (beh i 11) ([0]) := by
  have hi0 := (Ins.ok_iff i).1 hi
  obtain ⟨⟨hn0, hn1⟩, _⟩ := hi0.2.2.2
  refine NewF.mk1 rfl rfl (by simp [AV.closed, AV.closed.closedL]) ?_
  rw [callE LG rfl rfl rfl]
  simp [-List.length_append, -List.append_assoc, -appO_arr, takeM, take1, take2, takeB, allB, b00, rng2, b0]
theorem beh_19 (i : Ins) (hi : i.ok)  : NewF fn_bodkinref10_behind (beh i 19) ([0, 0]) := by
  have hi0 := (Ins.ok_iff i).1 hi
  obtain ⟨⟨hn0, hn1⟩, _⟩ := hi0.2.2.2
  refine NewF.mk1 rfl rfl (by simp [AV.closed, AV.closed.closedL]) ?_
  rw [callE LG rfl rfl rfl]
  simp [-List.length_append, -List.append_assoc, -appO_arr, takeM, take1, take2, takeB, allB, b00, rng2]
theorem beh_17 (i : Ins) (hi : i.ok)  : NewF fn_bodkinref10_behind (beh i 17) (uI i.a ++ [0]) := by
  have hi0 := (Ins.ok_iff i).1 hi
  obtain ⟨⟨hn0, hn1⟩, _⟩ := hi0.2.2.2
  refine NewF.mk1 rfl rfl (by simp [AV.closed, AV.closed.closedL]) ?_
  have f1 := fun H => r_u10 i.a H
  have f1l := uI_len i.a
  have f2 := fun (r : Nat) (h : List AO) => appO_bs (bs := uI i.a) (ys := [0]) (n := (uI i.a).length) (v := 0) (r := r) (h := h) rfl (by first | omega | (simp only [List.length_append, List.length_cons, List.length_nil, List.length_map, lowB_len]; omega))
  rw [callE LG rfl rfl rfl]
  simp [-List.length_append, -List.append_assoc, -appO_arr, takeM, take1, take2, takeB, allB, b00, rng2, f1, f2, b0]
theorem beh_12 (i : Ins) (hi : i.ok)  : NewF fn_bodkinref10_behind (beh i 12) (sI (sgn32 i.n)) := by
  have hi0 := (Ins.ok_iff i).1 hi
  obtain ⟨⟨hn0, hn1⟩, _⟩ := hi0.2.2.2
  refine NewF.mk1 rfl rfl (by simp [AV.closed, AV.closed.closedL]) ?_
  have f0 := r_signed i.n hi0.2.2.2.1
  have f1 := fun H => r_S (sgn32 i.n) (by unfold sgn32 i64ok; split <;> omega) H
  rw [callE LG rfl rfl rfl]
  simp [-List.length_append, -List.append_assoc, -appO_arr, takeM, take1, take2, takeB, allB, b00, rng2, f0, f1]
theorem beh_13 (i : Ins) (hi : i.ok)  : NewF fn_bodkinref10_behind (beh i 13) (sI (IntKind.i64.wrap i.n)) := by
  have hi0 := (Ins.ok_iff i).1 hi
  obtain ⟨⟨hn0, hn1⟩, _⟩ := hi0.2.2.2
  refine NewF.mk1 rfl rfl (by simp [AV.closed, AV.closed.closedL]) ?_
  have f1 := fun H => r_S (IntKind.i64.wrap i.n) (wrap_i64ok _) H
  rw [callE LG rfl rfl rfl]
  simp [-List.length_append, -List.append_assoc, -appO_arr, takeM, take1, take2, takeB, allB, b00, rng2, f1, conv_int und_uint64 und_int64]
theorem beh_14 (i : Ins) (hi : i.ok)  : NewF fn_bodkinref10_behind (beh i 14) (lowB 4 i.n) := by
  have hi0 := (Ins.ok_iff i).1 hi
  obtain ⟨⟨hn0, hn1⟩, _⟩ := hi0.2.2.2
  refine NewF.mk1 rfl rfl (by simp [AV.closed, AV.closed.closedL]) ?_
  have f1 := fun H => r_low10 4 (by omega) i.n hi0.2.2.2.1 H
  simp only [Int.cast_ofNat_Int] at f1
  rw [callE LG rfl rfl rfl]
  simp [-List.length_append, -List.append_assoc, -appO_arr, takeM, take1, take2, takeB, allB, b00, rng2, f1]
theorem beh_15 (i : Ins) (hi : i.ok)  : NewF fn_bodkinref10_behind (beh i 15) (lowB 8 i.n) := by
  have hi0 := (Ins.ok_iff i).1 hi
  obtain ⟨⟨hn0, hn1⟩, _⟩ := hi0.2.2.2
  refine NewF.mk1 rfl rfl (by simp [AV.closed, AV.closed.closedL]) ?_
  have f1 := fun H => r_low10 8 (by omega) i.n hi0.2.2.2.1 H
  simp only [Int.cast_ofNat_Int] at f1
  rw [callE LG rfl rfl rfl]
  simp [-List.length_append, -List.append_assoc, -appO_arr, takeM, take1, take2, takeB, allB, b00, rng2, f1]
theorem beh_23 (i : Ins) (hi : i.ok)  : NewF fn_bodkinref10_behind (beh i 23) (lowB 8 i.n ++ lowB 8 i.h) := by
  have hi0 := (Ins.ok_iff i).1 hi
  obtain ⟨⟨hn0, hn1⟩, _⟩ := hi0.2.2.2
  refine NewF.mk1 rfl rfl (by simp [AV.closed, AV.closed.closedL]) ?_
  have f1 := fun H => r_low10 8 (by omega) i.n hi0.2.2.2.1 H
  simp only [Int.cast_ofNat_Int] at f1
  have f2 := fun H => r_low10 8 (by omega) i.h hi0.2.2.2.2.1 H
  simp only [Int.cast_ofNat_Int] at f2
  have f3 := fun (r : Nat) (h : List AO) => appO_bs (bs := lowB 8 i.n) (ys := lowB 8 i.h) (n := (lowB 8 i.n).length) (v := 0) (r := r) (h := h) rfl (by first | omega | (simp only [List.length_append, List.length_cons, List.length_nil, List.length_map, lowB_len]; omega))
  rw [callE LG rfl rfl rfl]
  simp [-List.length_append, -List.append_assoc, -appO_arr, takeM, take1, take2, takeB, allB, b00, rng2, f1, f2, f3]
theorem beh_16 (i : Ins) (hi : i.ok)  : NewF fn_bodkinref10_behind (beh i 16) ([by8 i.a]) := by
  have hi0 := (Ins.ok_iff i).1 hi
  obtain ⟨⟨hn0, hn1⟩, _⟩ := hi0.2.2.2
  refine NewF.mk1 rfl rfl (by simp [AV.closed, AV.closed.closedL]) ?_
  rw [callE LG rfl rfl rfl]
  simp [-List.length_append, -List.append_assoc, -appO_arr, takeM, take1, take2, takeB, allB, b00, rng2, conv_int und_int und_uint8, wrap_by8, bsT_sing]
theorem beh_25 (i : Ins) (hi : i.ok)  : NewF fn_bodkinref10_behind (beh i 25) ([by8 i.a]) := by
  have hi0 := (Ins.ok_iff i).1 hi
  obtain ⟨⟨hn0, hn1⟩, _⟩ := hi0.2.2.2
  refine NewF.mk1 rfl rfl (by simp [AV.closed, AV.closed.closedL]) ?_
  rw [callE LG rfl rfl rfl]
  simp [-List.length_append, -List.append_assoc, -appO_arr, takeM, take1, take2, takeB, allB, b00, rng2, conv_int und_int und_uint8, wrap_by8, bsT_sing]
theorem beh_24 (i : Ins) (hi : i.ok) (hb : i.l.length ≤ 140737488000000) : NewF fn_bodkinref10_behind (beh i 24) (i.l.map by8) := by
  have hi0 := (Ins.ok_iff i).1 hi
  obtain ⟨⟨hn0, hn1⟩, _⟩ := hi0.2.2.2
  refine NewF.mk1 rfl rfl (by simp [AV.closed, AV.closed.closedL]) ?_
  have f1 := fun H => r_octets10 i.l hi0.2.2.2.2.2.1.1 (by omega) H
  rw [callE LG rfl rfl rfl]
  simp [-List.length_append, -List.append_assoc, -appO_arr, takeM, take1, take2, takeB, allB, b00, rng2, f1]
theorem beh_2 (i : Ins) (hi : i.ok)  : NewF fn_bodkinref10_behind (beh i 2) (uI i.a) := by
  have hi0 := (Ins.ok_iff i).1 hi
  obtain ⟨⟨hn0, hn1⟩, _⟩ := hi0.2.2.2
  refine NewF.mk1 rfl rfl (by simp [AV.closed, AV.closed.closedL]) ?_
  have f1 := fun H => r_u10 i.a H
  have f1l := uI_len i.a
  rw [callE LG rfl rfl rfl]
  simp [-List.length_append, -List.append_assoc, -appO_arr, takeM, take1, take2, takeB, allB, b00, rng2, f1]
theorem beh_4 (i : Ins) (hi : i.ok)  : NewF fn_bodkinref10_behind (beh i 4) (uI i.a) := by
  have hi0 := (Ins.ok_iff i).1 hi
  obtain ⟨⟨hn0, hn1⟩, _⟩ := hi0.2.2.2
  refine NewF.mk1 rfl rfl (by simp [AV.closed, AV.closed.closedL]) ?_
  have f1 := fun H => r_u10 i.a H
  have f1l := uI_len i.a
  rw [callE LG rfl rfl rfl]
  simp [-List.length_append, -List.append_assoc, -appO_arr, takeM, take1, take2, takeB, allB, b00, rng2, f1]
theorem beh_7 (i : Ins) (hi : i.ok)  : NewF fn_bodkinref10_behind (beh i 7) (uI i.a) := by
  have hi0 := (Ins.ok_iff i).1 hi
  obtain ⟨⟨hn0, hn1⟩, _⟩ := hi0.2.2.2
  refine NewF.mk1 rfl rfl (by simp [AV.closed, AV.closed.closedL]) ?_
  have f1 := fun H => r_u10 i.a H
  have f1l := uI_len i.a
  rw [callE LG rfl rfl rfl]
  simp [-List.length_append, -List.append_assoc, -appO_arr, takeM, take1, take2, takeB, allB, b00, rng2, f1]
theorem beh_8 (i : Ins) (hi : i.ok)  : NewF fn_bodkinref10_behind (beh i 8) (uI i.a) := by
  have hi0 := (Ins.ok_iff i).1 hi
  obtain ⟨⟨hn0, hn1⟩, _⟩ := hi0.2.2.2
  refine NewF.mk1 rfl rfl (by simp [AV.closed, AV.closed.closedL]) ?_
  have f1 := fun H => r_u10 i.a H
  have f1l := uI_len i.a
  rw [callE LG rfl rfl rfl]
  simp [-List.length_append, -List.append_assoc, -appO_arr, takeM, take1, take2, takeB, allB, b00, rng2, f1]
theorem beh_9 (i : Ins) (hi : i.ok)  : NewF fn_bodkinref10_behind (beh i 9) (uI i.a) := by
  have hi0 := (Ins.ok_iff i).1 hi
  obtain ⟨⟨hn0, hn1⟩, _⟩ := hi0.2.2.2
  refine NewF.mk1 rfl rfl (by simp [AV.closed, AV.closed.closedL]) ?_
  have f1 := fun H => r_u10 i.a H
  have f1l := uI_len i.a
  rw [callE LG rfl rfl rfl]
  simp [-List.length_append, -List.append_assoc, -appO_arr, takeM, take1, take2, takeB, allB, b00, rng2, f1]
theorem beh_18 (i : Ins) (hi : i.ok)  : NewF fn_bodkinref10_behind (beh i 18) (uI i.a) := by
  have hi0 := (Ins.ok_iff i).1 hi
  obtain ⟨⟨hn0, hn1⟩, _⟩ := hi0.2.2.2
  refine NewF.mk1 rfl rfl (by simp [AV.closed, AV.closed.closedL]) ?_
  have f1 := fun H => r_u10 i.a H
  have f1l := uI_len i.a
  rw [callE LG rfl rfl rfl]
  simp [-List.length_append, -List.append_assoc, -appO_arr, takeM, take1, take2, takeB, allB, b00, rng2, f1]
theorem beh_21 (i : Ins) (hi : i.ok)  : NewF fn_bodkinref10_behind (beh i 21) (uI i.a) := by
  have hi0 := (Ins.ok_iff i).1 hi
  obtain ⟨⟨hn0, hn1⟩, _⟩ := hi0.2.2.2
  refine NewF.mk1 rfl rfl (by simp [AV.closed, AV.closed.closedL]) ?_
  have f1 := fun H => r_u10 i.a H
  have f1l := uI_len i.a
  rw [callE LG rfl rfl rfl]
  simp [-List.length_append, -List.append_assoc, -appO_arr, takeM, take1, take2, takeB, allB, b00, rng2, f1]
theorem beh_3 (i : Ins) (hi : i.ok) (hb : (listU i.l ++ uI i.a).length ≤ 140737488355000) : NewF fn_bodkinref10_behind (beh i 3) (listU i.l ++ uI i.a) := by
  have hi0 := (Ins.ok_iff i).1 hi
  refine NewF.mk1 rfl rfl (by simp [AV.closed, AV.closed.closedL]) ?_
  simp only [listU, List.length_append] at hb
  have f1 := fun H => r_u10 i.a H
  have f1l := uI_len i.a
  have f2 := fun H => r_listed10 i.l.length (catB uI i.l) (by omega) H
  have f3 := fun (r : Nat) (h : List AO) => appO_bs (bs := uI i.l.length ++ catB uI i.l) (ys := uI i.a) (n := (uI i.l.length ++ catB uI i.l).length) (v := 0) (r := r) (h := h) rfl (by first | omega | (simp only [List.length_append, List.length_cons, List.length_nil, List.length_map, lowB_len]; omega))
  have key := for_ind i.l hi0.2.2.2.2.2.1.1 (fun k r => ∀ acc : List UInt8, acc ++ catB uI r = catB uI i.l → K_bodkinref10_behind_0 LG 0 (execL LG 0 (.loop L_bodkinref10_behind_0) (S_bodkinref10_behind_0 (.ptr 0 0) (.win 1 0 acc.length) (.t (.v (.int .i64 k))) [boxI i, .arr ty_uint8 0 (bsT acc) 0 0])) =
      some (.win 0 0 (uI i.l.length ++ catB uI i.l ++ uI i.a).length, [.arr ty_uint8 0 (bsT (uI i.l.length ++ catB uI i.l ++ uI i.a)) 0 0]))
    (fun acc ha => by
      simp only [catB, List.append_nil] at ha
      subst ha
      rw [execL_loop_eq]
      simp [-List.length_append, -List.append_assoc, -appO_arr, takeM, take1, take2, takeB, allB, b00, rng2, K_bodkinref10_behind_0, f1, f2, f3, doCall_win2' LG (callL LG) (f := fn_bodkinref10_listed) rfl rfl]) (fun k x r hk hx hm hw ih acc ha => by
      simp only [catB] at ha
      have hlen : acc.length + ((uI x).length + (catB uI r).length) = (catB uI i.l).length := by rw [← ha, List.length_append, List.length_append]
      have g1 := fun H => r_u10 x H
      have g2 := fun (r : Nat) (h : List AO) => appO_bs (bs := acc) (ys := uI x) (n := acc.length) (v := 0) (r := r) (h := h) rfl (by omega)
      have e := ih (acc ++ uI x) (by rw [List.append_assoc]; exact ha)
      rw [execL_loop_eq]
      simp only [K_bodkinref10_behind_0] at e ⊢
      simp at hw
      simp [-List.length_append, -List.append_assoc, -appO_arr, takeM, take1, take2, takeB, allB, b00, rng2, hx, hk, hw, g1, g2, trimE_eq]
      simpa [-List.length_append, -List.append_assoc, boxI] using e)
  have k0 := key [] rfl
  rw [callE LG rfl rfl rfl]
  simp [-List.length_append, -List.append_assoc, K_bodkinref10_behind_0, bsT_nil, boxI] at k0
  simp [-List.length_append, -List.append_assoc, -appO_arr, takeM, take1, take2, takeB, allB, b00, rng2, listU]
  exact k0
theorem beh_1 (i : Ins) (hi : i.ok) (hA : i.a = 0 ∨ i.a = 1 ∨ i.a = 2) (hl : (blockB i).length ≤ 140737488355000) (hb : NewF fn_bodkinref10_inner [insA i.body] (bytesL i.body)) (he : NewF fn_bodkinref10_inner [insA i.els] (bytesL i.els)) :
    NewF fn_bodkinref10_behind (beh i 1) (blockB i) := by
  have hi0 := (Ins.ok_iff i).1 hi
  refine NewF.mk1 rfl rfl (by simp [AV.closed, AV.closed.closedL]) ?_
  have c1 := fun H => hb H
  have c2 := fun H => he H
  have hS := fun H => r_S i.b hi0.2.2.1 H
  unfold blockB at hl
  simp only [List.length_append, List.length_cons, List.length_nil] at hl
  have hT1 : i.a = 0 → typeB i.a i.b = [64] := fun ha => by simp [typeB, ha]
  have hT2 : i.a = 1 → typeB i.a i.b = [by8 i.b] := fun ha => by simp [typeB, ha]
  have hT3 : i.a = 2 → typeB i.a i.b = sI i.b := fun ha => by simp [typeB, ha]
  have fin : blockB i = typeB i.a i.b ++ bytesL i.body ++ (if i.other then 5 :: bytesL i.els else []) ++ [11] := rfl
  rw [fin]
  generalize typeB i.a i.b = T at hT1 hT2 hT3 hl ⊢
  by_cases ho : i.other = true
  · rw [ho] at hl
    simp only [if_true, List.length_cons] at hl
    have fin2 : T ++ bytesL i.body ++ (if i.other then 5 :: bytesL i.els else []) ++ [11] = T ++ bytesL i.body ++ [5] ++ bytesL i.els ++ [11] := by simp [ho]
    have q1 := fun (n r : Nat) (hn : n = T.length) (h : List AO) => appO_bs (bs := T) (ys := bytesL i.body) (n := n) (v := 0) (r := r) (h := h) hn (by omega)
    have q2 := fun (r : Nat) (h : List AO) => appO_bs (bs := T ++ bytesL i.body) (ys := [5]) (n := (T ++ bytesL i.body).length) (v := 0) (r := r) (h := h) rfl (by simp only [List.length_append, List.length_cons, List.length_nil]; omega)
    have q3 := fun (r : Nat) (h : List AO) => appO_bs (bs := T ++ bytesL i.body ++ [5]) (ys := bytesL i.els) (n := (T ++ bytesL i.body ++ [5]).length) (v := 0) (r := r) (h := h) rfl (by simp only [List.length_append, List.length_cons, List.length_nil]; omega)
    have q4 := fun (r : Nat) (h : List AO) => appO_bs (bs := T ++ bytesL i.body ++ [5] ++ bytesL i.els) (ys := [11]) (n := (T ++ bytesL i.body ++ [5] ++ bytesL i.els).length) (v := 0) (r := r) (h := h) rfl (by simp only [List.length_append, List.length_cons, List.length_nil]; omega)
    rw [callE LG rfl rfl rfl, fin2]
    rcases hA with ha | ha | ha
    · have bT : [Tr.v (.int .u8 64)] = bsT T := by rw [hT1 ha]; rfl
      have q1' := fun r => q1 1 r (by rw [hT1 ha]; rfl)
      simp [-List.length_append, -List.append_assoc, -appO_arr, takeM, take1, take2, takeB, allB, b00, rng2, bT, b5, b11, ha, ho, c1, c2, q1', q2, q3, q4]
    · have bT : [Tr.v (.int .u8 ((by8 i.b).toNat : Int))] = bsT T := by rw [hT2 ha]; rfl
      have q1' := fun r => q1 1 r (by rw [hT2 ha]; rfl)
      simp [-List.length_append, -List.append_assoc, -appO_arr, takeM, take1, take2, takeB, allB, b00, rng2, b64, bT, b5, b11, ha, ho, c1, c2, q1', q2, q3, q4, conv_int und_int und_uint8, wrap_by8]
    · rw [← hT3 ha] at hS
      have q1' := fun r => q1 T.length r rfl
      simp [-List.length_append, -List.append_assoc, -appO_arr, takeM, take1, take2, takeB, allB, b00, rng2, b64, b5, b11, ha, ho, c1, c2, hS, q1', q2, q3, q4]
  · have ho' : i.other = false := by simpa using ho
    rw [ho'] at hl
    simp only [Bool.false_eq_true, if_false, List.length_nil] at hl
    have fin2 : T ++ bytesL i.body ++ (if i.other then 5 :: bytesL i.els else []) ++ [11] = T ++ bytesL i.body ++ [11] := by simp [ho']
    have q1 := fun (n r : Nat) (hn : n = T.length) (h : List AO) => appO_bs (bs := T) (ys := bytesL i.body) (n := n) (v := 0) (r := r) (h := h) hn (by omega)
    have q4 := fun (r : Nat) (h : List AO) => appO_bs (bs := T ++ bytesL i.body) (ys := [11]) (n := (T ++ bytesL i.body).length) (v := 0) (r := r) (h := h) rfl (by simp only [List.length_append, List.length_cons, List.length_nil]; omega)
    rw [callE LG rfl rfl rfl, fin2]
    rcases hA with ha | ha | ha
    · have bT : [Tr.v (.int .u8 64)] = bsT T := by rw [hT1 ha]; rfl
      have q1' := fun r => q1 1 r (by rw [hT1 ha]; rfl)
      simp [-List.length_append, -List.append_assoc, -appO_arr, takeM, take1, take2, takeB, allB, b00, rng2, bT, b11, ha, ho', c1, q1', q4]
    · have bT : [Tr.v (.int .u8 ((by8 i.b).toNat : Int))] = bsT T := by rw [hT2 ha]; rfl
      have q1' := fun r => q1 1 r (by rw [hT2 ha]; rfl)
      simp [-List.length_append, -List.append_assoc, -appO_arr, takeM, take1, take2, takeB, allB, b00, rng2, b64, bT, b11, ha, ho', c1, q1', q4, conv_int und_int und_uint8, wrap_by8]
    · rw [← hT3 ha] at hS
      have q1' := fun r => q1 T.length r rfl
      simp [-List.length_append, -List.append_assoc, -appO_arr, takeM, take1, take2, takeB, allB, b00, rng2, b64, b11, ha, ho', c1, hS, q1', q4]
end Go.Proofs.YtgehpjjpeddomaaGreatDoor
