/- Parts, one behind the other; the last: Contracts of the reference for encode: numbers, bytes, lists. -/
import Derived.Test.YtgehpjjpeddomaaGreatDoorZCEnc4
import Derived.Test.YtgehpjjpeddomaaGreatDoorZCDrawn
set_option linter.all false
/- Contracts: encode.one, by the kind of what stands behind an instruction's number. -/
namespace Go.Proofs.YtgehpjjpeddomaaGreatDoor
open Go
set_option maxRecDepth 100000
theorem shr8i (n : Int) : n.fdiv (2 ^ min 8 IntKind.i64.bits) = n / 256 := by
  show n.fdiv 256 = n / 256
  exact Int.fdiv_eq_ediv_of_nonneg _ (by omega)
theorem and255 (n : Int) : bitI .and .i64 n 255 = n % 256 := by
  have h : (BitVec.ofInt 64 n &&& BitVec.ofInt 64 255).toNat = (BitVec.ofInt 64 n).toNat % 256 := by
    rw [BitVec.toNat_and]
    exact Nat.and_two_pow_sub_one_eq_mod _ 8
  have e : bitI .and .i64 n 255 = IntKind.i64.wrap ((BitVec.ofInt 64 n &&& BitVec.ofInt 64 255).toNat : Int) := rfl
  rw [e, h, wrap_i64 (by omega) (by omega), BitVec.toNat_ofInt]
  have : ((n % ((2 ^ 64 : Nat) : Int)).toNat : Int) = n % 18446744073709551616 := by
    rw [Int.toNat_of_nonneg (Int.emod_nonneg _ (by decide))]
    rfl
  omega
section
variable (L : Lay) (C : Mean)
/-- A call whose second argument was a window: it is frozen first. -/
noncomputable def callW2 (f : Nat) (a : AV) (p : AV × List AO) : Option (AV × List AO) := doCall L C f [a, p.1] p.2
@[simp] theorem callW2_t (f : Nat) (a : AV) (x : Tr) (h : List AO) : callW2 L C f a (.t x, h) = doCall L C f [a, .t x] h := of_eq_true (eq_true rfl)
theorem doCall_win2 {f : Nat} {af : AFun} {e : Nat} (hf : L.F f = some af) (hw : af.win = [some e]) (r0 v0 n0 r v n : Nat) (h : List AO) : doCall L C f [.win r0 v0 n0, .win r v n] h = callW2 L C f (.win r0 v0 n0) (frz (.win r v n) h) := by
  have key : frz (frz (.win r v n) h).1 (frz (.win r v n) h).2 = frz (.win r v n) h := by
    unfold frz
    cases hz : fz (.win r v n) h with
    | none => simp only [hz]
    | some p => rfl
  unfold callW2 doCall
  rw [hf]
  simp only [hw, coerce, coerce1, key, List.length_cons, List.length_nil]
end
theorem slK_cut (sz r v k b : Nat) (h : List AO) : slK sz true (.win r v k) none (some (some b)) h = if b ≤ k then cutW h r v k b else none := by
  simp [slK]
def cutO (o : Option AO) (h : List AO) (r ver n k : Nat) : Option (AV × List AO) := match o with
  | some (.arr e v xs m d) => if ver = v ∧ n = xs.length ∧ k ≤ n ∧ m ≤ k ∧ d ≤ k then some (.win r (v + 1) k, h.set r (.arr e (v + 1) (xs.take k) m d)) else none
  | _ => none
theorem cutW_eq (h : List AO) (r ver n k : Nat) : cutW h r ver n k = cutO h[r]? h r ver n k := rfl
theorem cutO_bs {bs : List UInt8} {n v r k : Nat} {h : List AO} (hn : n = bs.length) (hk : k ≤ bs.length) : cutO (some (.arr ty_uint8 v (bsT bs) 0 0)) h r v n k = some (.win r (v + 1) k, h.set r (.arr ty_uint8 (v + 1) (bsT (bs.take k)) 0 0)) := by
  subst hn
  simp [cutO, hk, bsT_take]
theorem rng2 : ([0, 1] = List.range 2) = True := by decide
theorem sigL {f : Nat} {af : AFun} {x : Tr} {g : Nat} (h : LG.F f = some af) (hw : af.win = [some ty_uint8]) : WinSig f [.t x, .clo g [] []] [.t x, .clo g [] []] := ⟨⟨af, [], h, hw, fun _ => rfl⟩, rfl⟩
theorem one_0 (i : Ins) (hi : i.ok) (hk : immS i.op = 0)  : WinF fn_encode_one [.t i.enc] i.bytes i.ver := by
  have hi0 := (Ins.ok_iff i).1 hi
  obtain ⟨⟨hn0, hn1⟩, _⟩ := hi0.2.2.2
  refine WinFB.mk fun bs v hl => ?_
  have fin : bs ++ i.bytes = bs ++ headB i.op := by rw [Ins.bytes_eq, hk]; simp [midB]
  have finv : i.ver = 0 := by rw [Ins.ver_eq, hk]; simp
  rw [← List.length_append, fin] at hl
  simp only [List.length_append, List.length_cons, List.length_nil] at hl
  rw [fin, finv]
  have him := c_Imm i.op
  rw [hk] at him
  rw [callE LG rfl rfl rfl]
  by_cases ho : i.op < 256
  · have hh : [by8 i.op] = headB i.op := by simp [headB, ho]
    have hlen : (headB i.op).length = 1 := by rw [← hh]; rfl
    have q1 := fun R => (c_octet8 i.op).go (sigI rfl rfl) (v := v) (bs := bs) (R := R) rfl (by simp only [List.length_cons, List.length_nil]; omega)
    rw [hh] at q1
    simp [-List.length_append, -List.append_assoc, -appO_arr, take1, take2, takeB, allB, b00, rng2, b0, ho, q1, him]
  · have hh : [by8 (i.op / 256)] ++ uI (i.op % 256) = headB i.op := by simp [headB, ho]
    have hlen : (headB i.op).length = 1 + (uI (i.op % 256)).length := by rw [← hh, List.length_append]; rfl
    have q1 := fun R => (c_octet8 (i.op / 256)).go (sigI rfl rfl) (v := v) (bs := bs) (R := R) rfl (by simp only [List.length_cons, List.length_nil]; omega)
    have q2 := fun R => (c_u (i.op % 256)).go (sigI rfl rfl) (v := v) (bs := bs ++ [by8 (i.op / 256)]) (R := R) rfl (by simp only [List.length_append, List.length_cons, List.length_nil]; omega)
    rw [List.append_assoc, hh] at q2
    simp [-List.length_append, -List.append_assoc, -appO_arr, take1, take2, takeB, allB, b00, rng2, b0, ho, q1, q2, bin_shr, shr8i, and255, him]
theorem one_1 (i : Ins) (hi : i.ok) (hk : immS i.op = 1) (hb : WinF fn_encode_block [.t i.enc] (blockB i) (blockV i)) : WinF fn_encode_one [.t i.enc] i.bytes i.ver := by
  have hi0 := (Ins.ok_iff i).1 hi
  obtain ⟨⟨hn0, hn1⟩, _⟩ := hi0.2.2.2
  refine WinFB.mk fun bs v hl => ?_
  have fin : bs ++ i.bytes = bs ++ headB i.op ++ blockB i := by rw [Ins.bytes_eq, hk]; simp [midB]
  have finv : i.ver = blockV i := by rw [Ins.ver_eq, hk]; simp
  rw [← List.length_append, fin] at hl
  simp only [List.length_append, List.length_cons, List.length_nil] at hl
  rw [fin, finv]
  have him := c_Imm i.op
  rw [hk] at him
  have f1 := fun R => hb.go (sigI rfl rfl) (v := v) (bs := bs ++ headB i.op) (R := R) rfl (by simp only [List.length_append]; omega)
  rw [callE LG rfl rfl rfl]
  by_cases ho : i.op < 256
  · have hh : [by8 i.op] = headB i.op := by simp [headB, ho]
    have hlen : (headB i.op).length = 1 := by rw [← hh]; rfl
    have q1 := fun R => (c_octet8 i.op).go (sigI rfl rfl) (v := v) (bs := bs) (R := R) rfl (by simp only [List.length_cons, List.length_nil]; omega)
    rw [hh] at q1
    simp [-List.length_append, -List.append_assoc, -appO_arr, take1, take2, takeB, allB, b00, rng2, b0, ho, q1, him, f1]
  · have hh : [by8 (i.op / 256)] ++ uI (i.op % 256) = headB i.op := by simp [headB, ho]
    have hlen : (headB i.op).length = 1 + (uI (i.op % 256)).length := by rw [← hh, List.length_append]; rfl
    have q1 := fun R => (c_octet8 (i.op / 256)).go (sigI rfl rfl) (v := v) (bs := bs) (R := R) rfl (by simp only [List.length_cons, List.length_nil]; omega)
    have q2 := fun R => (c_u (i.op % 256)).go (sigI rfl rfl) (v := v) (bs := bs ++ [by8 (i.op / 256)]) (R := R) rfl (by simp only [List.length_append, List.length_cons, List.length_nil]; omega)
    rw [List.append_assoc, hh] at q2
    simp [-List.length_append, -List.append_assoc, -appO_arr, take1, take2, takeB, allB, b00, rng2, b0, ho, q1, q2, bin_shr, shr8i, and255, him, f1]
theorem one_3 (i : Ins) (hi : i.ok) (hk : immS i.op = 3)  : WinF fn_encode_one [.t i.enc] i.bytes i.ver := by
  have hi0 := (Ins.ok_iff i).1 hi
  obtain ⟨⟨hn0, hn1⟩, _⟩ := hi0.2.2.2
  refine WinFB.mk fun bs v hl => ?_
  have fin : bs ++ i.bytes = bs ++ headB i.op ++ listU i.l ++ uI i.a := by rw [Ins.bytes_eq, hk]; simp [midB]
  have finv : i.ver = 0 := by rw [Ins.ver_eq, hk]; simp
  rw [← List.length_append, fin] at hl
  simp only [List.length_append, List.length_cons, List.length_nil] at hl
  rw [fin, finv]
  have him := c_Imm i.op
  rw [hk] at him
  have f1 := fun R => (c_listU i.l hi0.2.2.2.2.2.1.1).go (sigL rfl rfl) (v := v) (bs := bs ++ headB i.op) (R := R) rfl (by simp only [List.length_append]; omega)
  have f2 := fun R => (c_u i.a).go (sigI rfl rfl) (v := v) (bs := bs ++ headB i.op ++ listU i.l) (R := R) rfl (by simp only [List.length_append]; omega)
  rw [callE LG rfl rfl rfl]
  by_cases ho : i.op < 256
  · have hh : [by8 i.op] = headB i.op := by simp [headB, ho]
    have hlen : (headB i.op).length = 1 := by rw [← hh]; rfl
    have q1 := fun R => (c_octet8 i.op).go (sigI rfl rfl) (v := v) (bs := bs) (R := R) rfl (by simp only [List.length_cons, List.length_nil]; omega)
    rw [hh] at q1
    simp [-List.length_append, -List.append_assoc, -appO_arr, take1, take2, takeB, allB, b00, rng2, b0, ho, q1, him, f1, f2]
  · have hh : [by8 (i.op / 256)] ++ uI (i.op % 256) = headB i.op := by simp [headB, ho]
    have hlen : (headB i.op).length = 1 + (uI (i.op % 256)).length := by rw [← hh, List.length_append]; rfl
    have q1 := fun R => (c_octet8 (i.op / 256)).go (sigI rfl rfl) (v := v) (bs := bs) (R := R) rfl (by simp only [List.length_cons, List.length_nil]; omega)
    have q2 := fun R => (c_u (i.op % 256)).go (sigI rfl rfl) (v := v) (bs := bs ++ [by8 (i.op / 256)]) (R := R) rfl (by simp only [List.length_append, List.length_cons, List.length_nil]; omega)
    rw [List.append_assoc, hh] at q2
    simp [-List.length_append, -List.append_assoc, -appO_arr, take1, take2, takeB, allB, b00, rng2, b0, ho, q1, q2, bin_shr, shr8i, and255, him, f1, f2]
theorem one_5 (i : Ins) (hi : i.ok) (hk : immS i.op = 5)  : WinF fn_encode_one [.t i.enc] i.bytes i.ver := by
  have hi0 := (Ins.ok_iff i).1 hi
  obtain ⟨⟨hn0, hn1⟩, _⟩ := hi0.2.2.2
  refine WinFB.mk fun bs v hl => ?_
  have fin : bs ++ i.bytes = bs ++ headB i.op ++ uI i.a ++ uI i.b := by rw [Ins.bytes_eq, hk]; simp [midB]
  have finv : i.ver = 0 := by rw [Ins.ver_eq, hk]; simp
  rw [← List.length_append, fin] at hl
  simp only [List.length_append, List.length_cons, List.length_nil] at hl
  rw [fin, finv]
  have him := c_Imm i.op
  rw [hk] at him
  have f1 := fun R => (c_u i.a).go (sigI rfl rfl) (v := v) (bs := bs ++ headB i.op) (R := R) rfl (by simp only [List.length_append]; omega)
  have f2 := fun R => (c_u i.b).go (sigI rfl rfl) (v := v) (bs := bs ++ headB i.op ++ uI i.a) (R := R) rfl (by simp only [List.length_append]; omega)
  rw [callE LG rfl rfl rfl]
  by_cases ho : i.op < 256
  · have hh : [by8 i.op] = headB i.op := by simp [headB, ho]
    have hlen : (headB i.op).length = 1 := by rw [← hh]; rfl
    have q1 := fun R => (c_octet8 i.op).go (sigI rfl rfl) (v := v) (bs := bs) (R := R) rfl (by simp only [List.length_cons, List.length_nil]; omega)
    rw [hh] at q1
    simp [-List.length_append, -List.append_assoc, -appO_arr, take1, take2, takeB, allB, b00, rng2, b0, ho, q1, him, f1, f2]
  · have hh : [by8 (i.op / 256)] ++ uI (i.op % 256) = headB i.op := by simp [headB, ho]
    have hlen : (headB i.op).length = 1 + (uI (i.op % 256)).length := by rw [← hh, List.length_append]; rfl
    have q1 := fun R => (c_octet8 (i.op / 256)).go (sigI rfl rfl) (v := v) (bs := bs) (R := R) rfl (by simp only [List.length_cons, List.length_nil]; omega)
    have q2 := fun R => (c_u (i.op % 256)).go (sigI rfl rfl) (v := v) (bs := bs ++ [by8 (i.op / 256)]) (R := R) rfl (by simp only [List.length_append, List.length_cons, List.length_nil]; omega)
    rw [List.append_assoc, hh] at q2
    simp [-List.length_append, -List.append_assoc, -appO_arr, take1, take2, takeB, allB, b00, rng2, b0, ho, q1, q2, bin_shr, shr8i, and255, him, f1, f2]
theorem one_20 (i : Ins) (hi : i.ok) (hk : immS i.op = 20)  : WinF fn_encode_one [.t i.enc] i.bytes i.ver := by
  have hi0 := (Ins.ok_iff i).1 hi
  obtain ⟨⟨hn0, hn1⟩, _⟩ := hi0.2.2.2
  refine WinFB.mk fun bs v hl => ?_
  have fin : bs ++ i.bytes = bs ++ headB i.op ++ uI i.a ++ uI i.b := by rw [Ins.bytes_eq, hk]; simp [midB]
  have finv : i.ver = 0 := by rw [Ins.ver_eq, hk]; simp
  rw [← List.length_append, fin] at hl
  simp only [List.length_append, List.length_cons, List.length_nil] at hl
  rw [fin, finv]
  have him := c_Imm i.op
  rw [hk] at him
  have f1 := fun R => (c_u i.a).go (sigI rfl rfl) (v := v) (bs := bs ++ headB i.op) (R := R) rfl (by simp only [List.length_append]; omega)
  have f2 := fun R => (c_u i.b).go (sigI rfl rfl) (v := v) (bs := bs ++ headB i.op ++ uI i.a) (R := R) rfl (by simp only [List.length_append]; omega)
  rw [callE LG rfl rfl rfl]
  by_cases ho : i.op < 256
  · have hh : [by8 i.op] = headB i.op := by simp [headB, ho]
    have hlen : (headB i.op).length = 1 := by rw [← hh]; rfl
    have q1 := fun R => (c_octet8 i.op).go (sigI rfl rfl) (v := v) (bs := bs) (R := R) rfl (by simp only [List.length_cons, List.length_nil]; omega)
    rw [hh] at q1
    simp [-List.length_append, -List.append_assoc, -appO_arr, take1, take2, takeB, allB, b00, rng2, b0, ho, q1, him, f1, f2]
  · have hh : [by8 (i.op / 256)] ++ uI (i.op % 256) = headB i.op := by simp [headB, ho]
    have hlen : (headB i.op).length = 1 + (uI (i.op % 256)).length := by rw [← hh, List.length_append]; rfl
    have q1 := fun R => (c_octet8 (i.op / 256)).go (sigI rfl rfl) (v := v) (bs := bs) (R := R) rfl (by simp only [List.length_cons, List.length_nil]; omega)
    have q2 := fun R => (c_u (i.op % 256)).go (sigI rfl rfl) (v := v) (bs := bs ++ [by8 (i.op / 256)]) (R := R) rfl (by simp only [List.length_append, List.length_cons, List.length_nil]; omega)
    rw [List.append_assoc, hh] at q2
    simp [-List.length_append, -List.append_assoc, -appO_arr, take1, take2, takeB, allB, b00, rng2, b0, ho, q1, q2, bin_shr, shr8i, and255, him, f1, f2]
theorem one_22 (i : Ins) (hi : i.ok) (hk : immS i.op = 22)  : WinF fn_encode_one [.t i.enc] i.bytes i.ver := by
  have hi0 := (Ins.ok_iff i).1 hi
  obtain ⟨⟨hn0, hn1⟩, _⟩ := hi0.2.2.2
  refine WinFB.mk fun bs v hl => ?_
  have fin : bs ++ i.bytes = bs ++ headB i.op ++ uI i.a ++ uI i.b := by rw [Ins.bytes_eq, hk]; simp [midB]
  have finv : i.ver = 0 := by rw [Ins.ver_eq, hk]; simp
  rw [← List.length_append, fin] at hl
  simp only [List.length_append, List.length_cons, List.length_nil] at hl
  rw [fin, finv]
  have him := c_Imm i.op
  rw [hk] at him
  have f1 := fun R => (c_u i.a).go (sigI rfl rfl) (v := v) (bs := bs ++ headB i.op) (R := R) rfl (by simp only [List.length_append]; omega)
  have f2 := fun R => (c_u i.b).go (sigI rfl rfl) (v := v) (bs := bs ++ headB i.op ++ uI i.a) (R := R) rfl (by simp only [List.length_append]; omega)
  rw [callE LG rfl rfl rfl]
  by_cases ho : i.op < 256
  · have hh : [by8 i.op] = headB i.op := by simp [headB, ho]
    have hlen : (headB i.op).length = 1 := by rw [← hh]; rfl
    have q1 := fun R => (c_octet8 i.op).go (sigI rfl rfl) (v := v) (bs := bs) (R := R) rfl (by simp only [List.length_cons, List.length_nil]; omega)
    rw [hh] at q1
    simp [-List.length_append, -List.append_assoc, -appO_arr, take1, take2, takeB, allB, b00, rng2, b0, ho, q1, him, f1, f2]
  · have hh : [by8 (i.op / 256)] ++ uI (i.op % 256) = headB i.op := by simp [headB, ho]
    have hlen : (headB i.op).length = 1 + (uI (i.op % 256)).length := by rw [← hh, List.length_append]; rfl
    have q1 := fun R => (c_octet8 (i.op / 256)).go (sigI rfl rfl) (v := v) (bs := bs) (R := R) rfl (by simp only [List.length_cons, List.length_nil]; omega)
    have q2 := fun R => (c_u (i.op % 256)).go (sigI rfl rfl) (v := v) (bs := bs ++ [by8 (i.op / 256)]) (R := R) rfl (by simp only [List.length_append, List.length_cons, List.length_nil]; omega)
    rw [List.append_assoc, hh] at q2
    simp [-List.length_append, -List.append_assoc, -appO_arr, take1, take2, takeB, allB, b00, rng2, b0, ho, q1, q2, bin_shr, shr8i, and255, him, f1, f2]
theorem one_10 (i : Ins) (hi : i.ok) (hk : immS i.op = 10)  : WinF fn_encode_one [.t i.enc] i.bytes i.ver := by
  have hi0 := (Ins.ok_iff i).1 hi
  obtain ⟨⟨hn0, hn1⟩, _⟩ := hi0.2.2.2
  refine WinFB.mk fun bs v hl => ?_
  have fin : bs ++ i.bytes = bs ++ headB i.op ++ uI i.a ++ uI i.b := by rw [Ins.bytes_eq, hk]; simp [midB]
  have finv : i.ver = 0 := by rw [Ins.ver_eq, hk]; simp
  rw [← List.length_append, fin] at hl
  simp only [List.length_append, List.length_cons, List.length_nil] at hl
  rw [fin, finv]
  have him := c_Imm i.op
  rw [hk] at him
  have f1 := fun R => (c_u i.a).go (sigI rfl rfl) (v := v) (bs := bs ++ headB i.op) (R := R) rfl (by simp only [List.length_append]; omega)
  have f2 := fun R => (c_u i.b).go (sigI rfl rfl) (v := v) (bs := bs ++ headB i.op ++ uI i.a) (R := R) rfl (by simp only [List.length_append]; omega)
  rw [callE LG rfl rfl rfl]
  by_cases ho : i.op < 256
  · have hh : [by8 i.op] = headB i.op := by simp [headB, ho]
    have hlen : (headB i.op).length = 1 := by rw [← hh]; rfl
    have q1 := fun R => (c_octet8 i.op).go (sigI rfl rfl) (v := v) (bs := bs) (R := R) rfl (by simp only [List.length_cons, List.length_nil]; omega)
    rw [hh] at q1
    simp [-List.length_append, -List.append_assoc, -appO_arr, take1, take2, takeB, allB, b00, rng2, b0, ho, q1, him, f1, f2]
  · have hh : [by8 (i.op / 256)] ++ uI (i.op % 256) = headB i.op := by simp [headB, ho]
    have hlen : (headB i.op).length = 1 + (uI (i.op % 256)).length := by rw [← hh, List.length_append]; rfl
    have q1 := fun R => (c_octet8 (i.op / 256)).go (sigI rfl rfl) (v := v) (bs := bs) (R := R) rfl (by simp only [List.length_cons, List.length_nil]; omega)
    have q2 := fun R => (c_u (i.op % 256)).go (sigI rfl rfl) (v := v) (bs := bs ++ [by8 (i.op / 256)]) (R := R) rfl (by simp only [List.length_append, List.length_cons, List.length_nil]; omega)
    rw [List.append_assoc, hh] at q2
    simp [-List.length_append, -List.append_assoc, -appO_arr, take1, take2, takeB, allB, b00, rng2, b0, ho, q1, q2, bin_shr, shr8i, and255, him, f1, f2]
theorem one_26 (i : Ins) (hi : i.ok) (hk : immS i.op = 26) (x : Int) (r : List Int) (hx : i.l = x :: r) : WinF fn_encode_one [.t i.enc] i.bytes i.ver := by
  have hi0 := (Ins.ok_iff i).1 hi
  obtain ⟨⟨hn0, hn1⟩, _⟩ := hi0.2.2.2
  refine WinFB.mk fun bs v hl => ?_
  have fin : bs ++ i.bytes = bs ++ headB i.op ++ uI i.a ++ uI i.b ++ [by8 x] := by rw [Ins.bytes_eq, hk]; simp [midB, hx]
  have finv : i.ver = 0 := by rw [Ins.ver_eq, hk]; simp
  rw [← List.length_append, fin] at hl
  simp only [List.length_append, List.length_cons, List.length_nil] at hl
  rw [fin, finv]
  have him := c_Imm i.op
  rw [hk] at him
  have f1 := fun R => (c_u i.a).go (sigI rfl rfl) (v := v) (bs := bs ++ headB i.op) (R := R) rfl (by simp only [List.length_append]; omega)
  have f2 := fun R => (c_u i.b).go (sigI rfl rfl) (v := v) (bs := bs ++ headB i.op ++ uI i.a) (R := R) rfl (by simp only [List.length_append]; omega)
  have f3 := fun R => (c_octet8 x).go (sigI rfl rfl) (v := v) (bs := bs ++ headB i.op ++ uI i.a ++ uI i.b) (R := R) rfl (by simp only [List.length_append, List.length_cons, List.length_nil]; omega)
  rw [callE LG rfl rfl rfl]
  by_cases ho : i.op < 256
  · have hh : [by8 i.op] = headB i.op := by simp [headB, ho]
    have hlen : (headB i.op).length = 1 := by rw [← hh]; rfl
    have q1 := fun R => (c_octet8 i.op).go (sigI rfl rfl) (v := v) (bs := bs) (R := R) rfl (by simp only [List.length_cons, List.length_nil]; omega)
    rw [hh] at q1
    simp [-List.length_append, -List.append_assoc, -appO_arr, take1, take2, takeB, allB, b00, rng2, b0, ho, q1, him, f1, f2, f3, hx]
  · have hh : [by8 (i.op / 256)] ++ uI (i.op % 256) = headB i.op := by simp [headB, ho]
    have hlen : (headB i.op).length = 1 + (uI (i.op % 256)).length := by rw [← hh, List.length_append]; rfl
    have q1 := fun R => (c_octet8 (i.op / 256)).go (sigI rfl rfl) (v := v) (bs := bs) (R := R) rfl (by simp only [List.length_cons, List.length_nil]; omega)
    have q2 := fun R => (c_u (i.op % 256)).go (sigI rfl rfl) (v := v) (bs := bs ++ [by8 (i.op / 256)]) (R := R) rfl (by simp only [List.length_append, List.length_cons, List.length_nil]; omega)
    rw [List.append_assoc, hh] at q2
    simp [-List.length_append, -List.append_assoc, -appO_arr, take1, take2, takeB, allB, b00, rng2, b0, ho, q1, q2, bin_shr, shr8i, and255, him, f1, f2, f3, hx]
theorem one_6 (i : Ins) (hi : i.ok) (hk : immS i.op = 6)  : WinF fn_encode_one [.t i.enc] i.bytes i.ver := by
  have hi0 := (Ins.ok_iff i).1 hi
  obtain ⟨⟨hn0, hn1⟩, _⟩ := hi0.2.2.2
  refine WinFB.mk fun bs v hl => ?_
  have fin : bs ++ i.bytes = bs ++ headB i.op ++ listO i.l := by rw [Ins.bytes_eq, hk]; simp [midB]
  have finv : i.ver = 0 := by rw [Ins.ver_eq, hk]; simp
  rw [← List.length_append, fin] at hl
  simp only [List.length_append, List.length_cons, List.length_nil] at hl
  rw [fin, finv]
  have him := c_Imm i.op
  rw [hk] at him
  have f1 := fun R => (c_listO i.l hi0.2.2.2.2.2.1.1).go (sigL rfl rfl) (v := v) (bs := bs ++ headB i.op) (R := R) rfl (by simp only [List.length_append]; omega)
  rw [callE LG rfl rfl rfl]
  by_cases ho : i.op < 256
  · have hh : [by8 i.op] = headB i.op := by simp [headB, ho]
    have hlen : (headB i.op).length = 1 := by rw [← hh]; rfl
    have q1 := fun R => (c_octet8 i.op).go (sigI rfl rfl) (v := v) (bs := bs) (R := R) rfl (by simp only [List.length_cons, List.length_nil]; omega)
    rw [hh] at q1
    simp [-List.length_append, -List.append_assoc, -appO_arr, take1, take2, takeB, allB, b00, rng2, b0, ho, q1, him, f1]
  · have hh : [by8 (i.op / 256)] ++ uI (i.op % 256) = headB i.op := by simp [headB, ho]
    have hlen : (headB i.op).length = 1 + (uI (i.op % 256)).length := by rw [← hh, List.length_append]; rfl
    have q1 := fun R => (c_octet8 (i.op / 256)).go (sigI rfl rfl) (v := v) (bs := bs) (R := R) rfl (by simp only [List.length_cons, List.length_nil]; omega)
    have q2 := fun R => (c_u (i.op % 256)).go (sigI rfl rfl) (v := v) (bs := bs ++ [by8 (i.op / 256)]) (R := R) rfl (by simp only [List.length_append, List.length_cons, List.length_nil]; omega)
    rw [List.append_assoc, hh] at q2
    simp [-List.length_append, -List.append_assoc, -appO_arr, take1, take2, takeB, allB, b00, rng2, b0, ho, q1, q2, bin_shr, shr8i, and255, him, f1]
theorem one_11 (i : Ins) (hi : i.ok) (hk : immS i.op = 11)  : WinF fn_encode_one [.t i.enc] i.bytes i.ver := by
  have hi0 := (Ins.ok_iff i).1 hi
  obtain ⟨⟨hn0, hn1⟩, _⟩ := hi0.2.2.2
  refine WinFB.mk fun bs v hl => ?_
  have fin : bs ++ i.bytes = bs ++ headB i.op ++ [0] := by rw [Ins.bytes_eq, hk]; simp [midB]
  have finv : i.ver = 0 := by rw [Ins.ver_eq, hk]; simp
  rw [← List.length_append, fin] at hl
  simp only [List.length_append, List.length_cons, List.length_nil] at hl
  rw [fin, finv]
  have him := c_Imm i.op
  rw [hk] at him
  have f1 : ∀ h : List AO, _ := fun h => appO_bs (bs := bs ++ headB i.op) (ys := [0]) (v := v) (r := 0) (h := h) rfl (by simp only [List.length_append, List.length_cons, List.length_nil]; omega)
  rw [callE LG rfl rfl rfl]
  by_cases ho : i.op < 256
  · have hh : [by8 i.op] = headB i.op := by simp [headB, ho]
    have hlen : (headB i.op).length = 1 := by rw [← hh]; rfl
    have q1 := fun R => (c_octet8 i.op).go (sigI rfl rfl) (v := v) (bs := bs) (R := R) rfl (by simp only [List.length_cons, List.length_nil]; omega)
    rw [hh] at q1
    simp [-List.length_append, -List.append_assoc, -appO_arr, take1, take2, takeB, allB, b00, rng2, b0, ho, q1, him, f1]
  · have hh : [by8 (i.op / 256)] ++ uI (i.op % 256) = headB i.op := by simp [headB, ho]
    have hlen : (headB i.op).length = 1 + (uI (i.op % 256)).length := by rw [← hh, List.length_append]; rfl
    have q1 := fun R => (c_octet8 (i.op / 256)).go (sigI rfl rfl) (v := v) (bs := bs) (R := R) rfl (by simp only [List.length_cons, List.length_nil]; omega)
    have q2 := fun R => (c_u (i.op % 256)).go (sigI rfl rfl) (v := v) (bs := bs ++ [by8 (i.op / 256)]) (R := R) rfl (by simp only [List.length_append, List.length_cons, List.length_nil]; omega)
    rw [List.append_assoc, hh] at q2
    simp [-List.length_append, -List.append_assoc, -appO_arr, take1, take2, takeB, allB, b00, rng2, b0, ho, q1, q2, bin_shr, shr8i, and255, him, f1]
theorem one_19 (i : Ins) (hi : i.ok) (hk : immS i.op = 19)  : WinF fn_encode_one [.t i.enc] i.bytes i.ver := by
  have hi0 := (Ins.ok_iff i).1 hi
  obtain ⟨⟨hn0, hn1⟩, _⟩ := hi0.2.2.2
  refine WinFB.mk fun bs v hl => ?_
  have fin : bs ++ i.bytes = bs ++ headB i.op ++ [0, 0] := by rw [Ins.bytes_eq, hk]; simp [midB]
  have finv : i.ver = 0 := by rw [Ins.ver_eq, hk]; simp
  rw [← List.length_append, fin] at hl
  simp only [List.length_append, List.length_cons, List.length_nil] at hl
  rw [fin, finv]
  have him := c_Imm i.op
  rw [hk] at him
  have f1 : ∀ h : List AO, _ := fun h => appO_bs (bs := bs ++ headB i.op) (ys := [0, 0]) (v := v) (r := 0) (h := h) rfl (by simp only [List.length_append, List.length_cons, List.length_nil]; omega)
  rw [callE LG rfl rfl rfl]
  by_cases ho : i.op < 256
  · have hh : [by8 i.op] = headB i.op := by simp [headB, ho]
    have hlen : (headB i.op).length = 1 := by rw [← hh]; rfl
    have q1 := fun R => (c_octet8 i.op).go (sigI rfl rfl) (v := v) (bs := bs) (R := R) rfl (by simp only [List.length_cons, List.length_nil]; omega)
    rw [hh] at q1
    simp [-List.length_append, -List.append_assoc, -appO_arr, take1, take2, takeB, allB, b00, rng2, ho, q1, him, f1]
  · have hh : [by8 (i.op / 256)] ++ uI (i.op % 256) = headB i.op := by simp [headB, ho]
    have hlen : (headB i.op).length = 1 + (uI (i.op % 256)).length := by rw [← hh, List.length_append]; rfl
    have q1 := fun R => (c_octet8 (i.op / 256)).go (sigI rfl rfl) (v := v) (bs := bs) (R := R) rfl (by simp only [List.length_cons, List.length_nil]; omega)
    have q2 := fun R => (c_u (i.op % 256)).go (sigI rfl rfl) (v := v) (bs := bs ++ [by8 (i.op / 256)]) (R := R) rfl (by simp only [List.length_append, List.length_cons, List.length_nil]; omega)
    rw [List.append_assoc, hh] at q2
    simp [-List.length_append, -List.append_assoc, -appO_arr, take1, take2, takeB, allB, b00, rng2, ho, q1, q2, bin_shr, shr8i, and255, him, f1]
theorem one_17 (i : Ins) (hi : i.ok) (hk : immS i.op = 17)  : WinF fn_encode_one [.t i.enc] i.bytes i.ver := by
  have hi0 := (Ins.ok_iff i).1 hi
  obtain ⟨⟨hn0, hn1⟩, _⟩ := hi0.2.2.2
  refine WinFB.mk fun bs v hl => ?_
  have fin : bs ++ i.bytes = bs ++ headB i.op ++ uI i.a ++ [0] := by rw [Ins.bytes_eq, hk]; simp [midB]
  have finv : i.ver = 0 := by rw [Ins.ver_eq, hk]; simp
  rw [← List.length_append, fin] at hl
  simp only [List.length_append, List.length_cons, List.length_nil] at hl
  rw [fin, finv]
  have him := c_Imm i.op
  rw [hk] at him
  have f1 := fun R => (c_u i.a).go (sigI rfl rfl) (v := v) (bs := bs ++ headB i.op) (R := R) rfl (by simp only [List.length_append]; omega)
  have f2 : ∀ h : List AO, _ := fun h => appO_bs (bs := bs ++ headB i.op ++ uI i.a) (ys := [0]) (v := v) (r := 0) (h := h) rfl (by simp only [List.length_append, List.length_cons, List.length_nil]; omega)
  rw [callE LG rfl rfl rfl]
  by_cases ho : i.op < 256
  · have hh : [by8 i.op] = headB i.op := by simp [headB, ho]
    have hlen : (headB i.op).length = 1 := by rw [← hh]; rfl
    have q1 := fun R => (c_octet8 i.op).go (sigI rfl rfl) (v := v) (bs := bs) (R := R) rfl (by simp only [List.length_cons, List.length_nil]; omega)
    rw [hh] at q1
    simp [-List.length_append, -List.append_assoc, -appO_arr, take1, take2, takeB, allB, b00, rng2, b0, ho, q1, him, f1, f2]
  · have hh : [by8 (i.op / 256)] ++ uI (i.op % 256) = headB i.op := by simp [headB, ho]
    have hlen : (headB i.op).length = 1 + (uI (i.op % 256)).length := by rw [← hh, List.length_append]; rfl
    have q1 := fun R => (c_octet8 (i.op / 256)).go (sigI rfl rfl) (v := v) (bs := bs) (R := R) rfl (by simp only [List.length_cons, List.length_nil]; omega)
    have q2 := fun R => (c_u (i.op % 256)).go (sigI rfl rfl) (v := v) (bs := bs ++ [by8 (i.op / 256)]) (R := R) rfl (by simp only [List.length_append, List.length_cons, List.length_nil]; omega)
    rw [List.append_assoc, hh] at q2
    simp [-List.length_append, -List.append_assoc, -appO_arr, take1, take2, takeB, allB, b00, rng2, b0, ho, q1, q2, bin_shr, shr8i, and255, him, f1, f2]
theorem one_12 (i : Ins) (hi : i.ok) (hk : immS i.op = 12)  : WinF fn_encode_one [.t i.enc] i.bytes i.ver := by
  have hi0 := (Ins.ok_iff i).1 hi
  obtain ⟨⟨hn0, hn1⟩, _⟩ := hi0.2.2.2
  refine WinFB.mk fun bs v hl => ?_
  have fin : bs ++ i.bytes = bs ++ headB i.op ++ sI (sgn32 i.n) := by rw [Ins.bytes_eq, hk]; simp [midB]
  have finv : i.ver = 0 := by rw [Ins.ver_eq, hk]; simp
  rw [← List.length_append, fin] at hl
  simp only [List.length_append, List.length_cons, List.length_nil] at hl
  rw [fin, finv]
  have him := c_Imm i.op
  rw [hk] at him
  have f0 := c_signed i.n hi0.2.2.2.1
  have f1 := fun R => (c_s (sgn32 i.n) (by unfold sgn32 i64ok; split <;> omega)).go (sigI rfl rfl) (v := v) (bs := bs ++ headB i.op) (R := R) rfl (by simp only [List.length_append]; omega)
  rw [callE LG rfl rfl rfl]
  by_cases ho : i.op < 256
  · have hh : [by8 i.op] = headB i.op := by simp [headB, ho]
    have hlen : (headB i.op).length = 1 := by rw [← hh]; rfl
    have q1 := fun R => (c_octet8 i.op).go (sigI rfl rfl) (v := v) (bs := bs) (R := R) rfl (by simp only [List.length_cons, List.length_nil]; omega)
    rw [hh] at q1
    simp [-List.length_append, -List.append_assoc, -appO_arr, take1, take2, takeB, allB, b00, rng2, b0, ho, q1, him, f0, f1]
  · have hh : [by8 (i.op / 256)] ++ uI (i.op % 256) = headB i.op := by simp [headB, ho]
    have hlen : (headB i.op).length = 1 + (uI (i.op % 256)).length := by rw [← hh, List.length_append]; rfl
    have q1 := fun R => (c_octet8 (i.op / 256)).go (sigI rfl rfl) (v := v) (bs := bs) (R := R) rfl (by simp only [List.length_cons, List.length_nil]; omega)
    have q2 := fun R => (c_u (i.op % 256)).go (sigI rfl rfl) (v := v) (bs := bs ++ [by8 (i.op / 256)]) (R := R) rfl (by simp only [List.length_append, List.length_cons, List.length_nil]; omega)
    rw [List.append_assoc, hh] at q2
    simp [-List.length_append, -List.append_assoc, -appO_arr, take1, take2, takeB, allB, b00, rng2, b0, ho, q1, q2, bin_shr, shr8i, and255, him, f0, f1]
theorem one_13 (i : Ins) (hi : i.ok) (hk : immS i.op = 13)  : WinF fn_encode_one [.t i.enc] i.bytes i.ver := by
  have hi0 := (Ins.ok_iff i).1 hi
  obtain ⟨⟨hn0, hn1⟩, _⟩ := hi0.2.2.2
  refine WinFB.mk fun bs v hl => ?_
  have fin : bs ++ i.bytes = bs ++ headB i.op ++ sI (IntKind.i64.wrap i.n) := by rw [Ins.bytes_eq, hk]; simp [midB]
  have finv : i.ver = 0 := by rw [Ins.ver_eq, hk]; simp
  rw [← List.length_append, fin] at hl
  simp only [List.length_append, List.length_cons, List.length_nil] at hl
  rw [fin, finv]
  have him := c_Imm i.op
  rw [hk] at him
  have f1 := fun R => (c_s (IntKind.i64.wrap i.n) (wrap_i64ok _)).go (sigI rfl rfl) (v := v) (bs := bs ++ headB i.op) (R := R) rfl (by simp only [List.length_append]; omega)
  rw [callE LG rfl rfl rfl]
  by_cases ho : i.op < 256
  · have hh : [by8 i.op] = headB i.op := by simp [headB, ho]
    have hlen : (headB i.op).length = 1 := by rw [← hh]; rfl
    have q1 := fun R => (c_octet8 i.op).go (sigI rfl rfl) (v := v) (bs := bs) (R := R) rfl (by simp only [List.length_cons, List.length_nil]; omega)
    rw [hh] at q1
    simp [-List.length_append, -List.append_assoc, -appO_arr, take1, take2, takeB, allB, b00, rng2, b0, ho, q1, him, f1, conv_int und_uint64 und_int64]
  · have hh : [by8 (i.op / 256)] ++ uI (i.op % 256) = headB i.op := by simp [headB, ho]
    have hlen : (headB i.op).length = 1 + (uI (i.op % 256)).length := by rw [← hh, List.length_append]; rfl
    have q1 := fun R => (c_octet8 (i.op / 256)).go (sigI rfl rfl) (v := v) (bs := bs) (R := R) rfl (by simp only [List.length_cons, List.length_nil]; omega)
    have q2 := fun R => (c_u (i.op % 256)).go (sigI rfl rfl) (v := v) (bs := bs ++ [by8 (i.op / 256)]) (R := R) rfl (by simp only [List.length_append, List.length_cons, List.length_nil]; omega)
    rw [List.append_assoc, hh] at q2
    simp [-List.length_append, -List.append_assoc, -appO_arr, take1, take2, takeB, allB, b00, rng2, b0, ho, q1, q2, bin_shr, shr8i, and255, him, f1, conv_int und_uint64 und_int64]
theorem one_15 (i : Ins) (hi : i.ok) (hk : immS i.op = 15)  : WinF fn_encode_one [.t i.enc] i.bytes i.ver := by
  have hi0 := (Ins.ok_iff i).1 hi
  obtain ⟨⟨hn0, hn1⟩, _⟩ := hi0.2.2.2
  refine WinFB.mk fun bs v hl => ?_
  have fin : bs ++ i.bytes = bs ++ headB i.op ++ lowB 8 i.n := by rw [Ins.bytes_eq, hk]; simp [midB]
  have finv : i.ver = 0 := by rw [Ins.ver_eq, hk]; simp
  rw [← List.length_append, fin] at hl
  simp only [List.length_append, List.length_cons, List.length_nil] at hl
  rw [fin, finv]
  have him := c_Imm i.op
  rw [hk] at him
  have f1 := fun R => (c_words8 [i.n] (by simp [lenOk]) (by simp; exact hi0.2.2.2.1)).go (sigI rfl rfl) (v := v) (bs := bs ++ headB i.op) (R := R) rfl (by simp only [List.length_append, catB, lowB_len, List.length_nil] at hl ⊢; omega)
  simp only [catB, List.append_nil, List.map_cons, List.map_nil, tU] at f1
  rw [callE LG rfl rfl rfl]
  by_cases ho : i.op < 256
  · have hh : [by8 i.op] = headB i.op := by simp [headB, ho]
    have hlen : (headB i.op).length = 1 := by rw [← hh]; rfl
    have q1 := fun R => (c_octet8 i.op).go (sigI rfl rfl) (v := v) (bs := bs) (R := R) rfl (by simp only [List.length_cons, List.length_nil]; omega)
    rw [hh] at q1
    simp [-List.length_append, -List.append_assoc, -appO_arr, take1, take2, takeB, allB, b00, rng2, b0, ho, q1, him, f1, doCall_win2 LG (callL LG) (f := fn_encode_words) rfl rfl]
  · have hh : [by8 (i.op / 256)] ++ uI (i.op % 256) = headB i.op := by simp [headB, ho]
    have hlen : (headB i.op).length = 1 + (uI (i.op % 256)).length := by rw [← hh, List.length_append]; rfl
    have q1 := fun R => (c_octet8 (i.op / 256)).go (sigI rfl rfl) (v := v) (bs := bs) (R := R) rfl (by simp only [List.length_cons, List.length_nil]; omega)
    have q2 := fun R => (c_u (i.op % 256)).go (sigI rfl rfl) (v := v) (bs := bs ++ [by8 (i.op / 256)]) (R := R) rfl (by simp only [List.length_append, List.length_cons, List.length_nil]; omega)
    rw [List.append_assoc, hh] at q2
    simp [-List.length_append, -List.append_assoc, -appO_arr, take1, take2, takeB, allB, b00, rng2, b0, ho, q1, q2, bin_shr, shr8i, and255, him, f1, doCall_win2 LG (callL LG) (f := fn_encode_words) rfl rfl]
theorem one_23 (i : Ins) (hi : i.ok) (hk : immS i.op = 23)  : WinF fn_encode_one [.t i.enc] i.bytes i.ver := by
  have hi0 := (Ins.ok_iff i).1 hi
  obtain ⟨⟨hn0, hn1⟩, _⟩ := hi0.2.2.2
  refine WinFB.mk fun bs v hl => ?_
  have fin : bs ++ i.bytes = bs ++ headB i.op ++ lowB 8 i.n ++ lowB 8 i.h := by rw [Ins.bytes_eq, hk]; simp [midB]
  have finv : i.ver = 0 := by rw [Ins.ver_eq, hk]; simp
  rw [← List.length_append, fin] at hl
  simp only [List.length_append, List.length_cons, List.length_nil] at hl
  rw [fin, finv]
  have him := c_Imm i.op
  rw [hk] at him
  have f1 := fun R => (c_words8 [i.n, i.h] (by simp [lenOk]) (by simp; exact ⟨hi0.2.2.2.1, hi0.2.2.2.2.1⟩)).go (sigI rfl rfl) (v := v) (bs := bs ++ headB i.op) (R := R) rfl (by simp only [List.length_append, catB, lowB_len, List.length_nil] at hl ⊢; omega)
  simp only [catB, List.append_nil, List.map_cons, List.map_nil, tU, ← List.append_assoc] at f1
  rw [callE LG rfl rfl rfl]
  by_cases ho : i.op < 256
  · have hh : [by8 i.op] = headB i.op := by simp [headB, ho]
    have hlen : (headB i.op).length = 1 := by rw [← hh]; rfl
    have q1 := fun R => (c_octet8 i.op).go (sigI rfl rfl) (v := v) (bs := bs) (R := R) rfl (by simp only [List.length_cons, List.length_nil]; omega)
    rw [hh] at q1
    simp [-List.length_append, -List.append_assoc, -appO_arr, take1, take2, takeB, allB, b00, rng2, b0, ho, q1, him, f1, doCall_win2 LG (callL LG) (f := fn_encode_words) rfl rfl]
  · have hh : [by8 (i.op / 256)] ++ uI (i.op % 256) = headB i.op := by simp [headB, ho]
    have hlen : (headB i.op).length = 1 + (uI (i.op % 256)).length := by rw [← hh, List.length_append]; rfl
    have q1 := fun R => (c_octet8 (i.op / 256)).go (sigI rfl rfl) (v := v) (bs := bs) (R := R) rfl (by simp only [List.length_cons, List.length_nil]; omega)
    have q2 := fun R => (c_u (i.op % 256)).go (sigI rfl rfl) (v := v) (bs := bs ++ [by8 (i.op / 256)]) (R := R) rfl (by simp only [List.length_append, List.length_cons, List.length_nil]; omega)
    rw [List.append_assoc, hh] at q2
    simp [-List.length_append, -List.append_assoc, -appO_arr, take1, take2, takeB, allB, b00, rng2, b0, ho, q1, q2, bin_shr, shr8i, and255, him, f1, doCall_win2 LG (callL LG) (f := fn_encode_words) rfl rfl]
theorem one_16 (i : Ins) (hi : i.ok) (hk : immS i.op = 16)  : WinF fn_encode_one [.t i.enc] i.bytes i.ver := by
  have hi0 := (Ins.ok_iff i).1 hi
  obtain ⟨⟨hn0, hn1⟩, _⟩ := hi0.2.2.2
  refine WinFB.mk fun bs v hl => ?_
  have fin : bs ++ i.bytes = bs ++ headB i.op ++ [by8 i.a] := by rw [Ins.bytes_eq, hk]; simp [midB]
  have finv : i.ver = 0 := by rw [Ins.ver_eq, hk]; simp
  rw [← List.length_append, fin] at hl
  simp only [List.length_append, List.length_cons, List.length_nil] at hl
  rw [fin, finv]
  have him := c_Imm i.op
  rw [hk] at him
  have f1 := fun R => (c_octet8 i.a).go (sigI rfl rfl) (v := v) (bs := bs ++ headB i.op) (R := R) rfl (by simp only [List.length_append, List.length_cons, List.length_nil]; omega)
  rw [callE LG rfl rfl rfl]
  by_cases ho : i.op < 256
  · have hh : [by8 i.op] = headB i.op := by simp [headB, ho]
    have hlen : (headB i.op).length = 1 := by rw [← hh]; rfl
    have q1 := fun R => (c_octet8 i.op).go (sigI rfl rfl) (v := v) (bs := bs) (R := R) rfl (by simp only [List.length_cons, List.length_nil]; omega)
    rw [hh] at q1
    simp [-List.length_append, -List.append_assoc, -appO_arr, take1, take2, takeB, allB, b00, rng2, b0, ho, q1, him, f1]
  · have hh : [by8 (i.op / 256)] ++ uI (i.op % 256) = headB i.op := by simp [headB, ho]
    have hlen : (headB i.op).length = 1 + (uI (i.op % 256)).length := by rw [← hh, List.length_append]; rfl
    have q1 := fun R => (c_octet8 (i.op / 256)).go (sigI rfl rfl) (v := v) (bs := bs) (R := R) rfl (by simp only [List.length_cons, List.length_nil]; omega)
    have q2 := fun R => (c_u (i.op % 256)).go (sigI rfl rfl) (v := v) (bs := bs ++ [by8 (i.op / 256)]) (R := R) rfl (by simp only [List.length_append, List.length_cons, List.length_nil]; omega)
    rw [List.append_assoc, hh] at q2
    simp [-List.length_append, -List.append_assoc, -appO_arr, take1, take2, takeB, allB, b00, rng2, b0, ho, q1, q2, bin_shr, shr8i, and255, him, f1]
theorem one_25 (i : Ins) (hi : i.ok) (hk : immS i.op = 25)  : WinF fn_encode_one [.t i.enc] i.bytes i.ver := by
  have hi0 := (Ins.ok_iff i).1 hi
  obtain ⟨⟨hn0, hn1⟩, _⟩ := hi0.2.2.2
  refine WinFB.mk fun bs v hl => ?_
  have fin : bs ++ i.bytes = bs ++ headB i.op ++ [by8 i.a] := by rw [Ins.bytes_eq, hk]; simp [midB]
  have finv : i.ver = 0 := by rw [Ins.ver_eq, hk]; simp
  rw [← List.length_append, fin] at hl
  simp only [List.length_append, List.length_cons, List.length_nil] at hl
  rw [fin, finv]
  have him := c_Imm i.op
  rw [hk] at him
  have f1 := fun R => (c_octet8 i.a).go (sigI rfl rfl) (v := v) (bs := bs ++ headB i.op) (R := R) rfl (by simp only [List.length_append, List.length_cons, List.length_nil]; omega)
  rw [callE LG rfl rfl rfl]
  by_cases ho : i.op < 256
  · have hh : [by8 i.op] = headB i.op := by simp [headB, ho]
    have hlen : (headB i.op).length = 1 := by rw [← hh]; rfl
    have q1 := fun R => (c_octet8 i.op).go (sigI rfl rfl) (v := v) (bs := bs) (R := R) rfl (by simp only [List.length_cons, List.length_nil]; omega)
    rw [hh] at q1
    simp [-List.length_append, -List.append_assoc, -appO_arr, take1, take2, takeB, allB, b00, rng2, b0, ho, q1, him, f1]
  · have hh : [by8 (i.op / 256)] ++ uI (i.op % 256) = headB i.op := by simp [headB, ho]
    have hlen : (headB i.op).length = 1 + (uI (i.op % 256)).length := by rw [← hh, List.length_append]; rfl
    have q1 := fun R => (c_octet8 (i.op / 256)).go (sigI rfl rfl) (v := v) (bs := bs) (R := R) rfl (by simp only [List.length_cons, List.length_nil]; omega)
    have q2 := fun R => (c_u (i.op % 256)).go (sigI rfl rfl) (v := v) (bs := bs ++ [by8 (i.op / 256)]) (R := R) rfl (by simp only [List.length_append, List.length_cons, List.length_nil]; omega)
    rw [List.append_assoc, hh] at q2
    simp [-List.length_append, -List.append_assoc, -appO_arr, take1, take2, takeB, allB, b00, rng2, b0, ho, q1, q2, bin_shr, shr8i, and255, him, f1]
theorem one_2 (i : Ins) (hi : i.ok) (hk : immS i.op = 2)  : WinF fn_encode_one [.t i.enc] i.bytes i.ver := by
  have hi0 := (Ins.ok_iff i).1 hi
  obtain ⟨⟨hn0, hn1⟩, _⟩ := hi0.2.2.2
  refine WinFB.mk fun bs v hl => ?_
  have fin : bs ++ i.bytes = bs ++ headB i.op ++ uI i.a := by rw [Ins.bytes_eq, hk]; simp [midB]
  have finv : i.ver = 0 := by rw [Ins.ver_eq, hk]; simp
  rw [← List.length_append, fin] at hl
  simp only [List.length_append, List.length_cons, List.length_nil] at hl
  rw [fin, finv]
  have him := c_Imm i.op
  rw [hk] at him
  have f1 := fun R => (c_u i.a).go (sigI rfl rfl) (v := v) (bs := bs ++ headB i.op) (R := R) rfl (by simp only [List.length_append]; omega)
  rw [callE LG rfl rfl rfl]
  by_cases ho : i.op < 256
  · have hh : [by8 i.op] = headB i.op := by simp [headB, ho]
    have hlen : (headB i.op).length = 1 := by rw [← hh]; rfl
    have q1 := fun R => (c_octet8 i.op).go (sigI rfl rfl) (v := v) (bs := bs) (R := R) rfl (by simp only [List.length_cons, List.length_nil]; omega)
    rw [hh] at q1
    simp [-List.length_append, -List.append_assoc, -appO_arr, take1, take2, takeB, allB, b00, rng2, b0, ho, q1, him, f1]
  · have hh : [by8 (i.op / 256)] ++ uI (i.op % 256) = headB i.op := by simp [headB, ho]
    have hlen : (headB i.op).length = 1 + (uI (i.op % 256)).length := by rw [← hh, List.length_append]; rfl
    have q1 := fun R => (c_octet8 (i.op / 256)).go (sigI rfl rfl) (v := v) (bs := bs) (R := R) rfl (by simp only [List.length_cons, List.length_nil]; omega)
    have q2 := fun R => (c_u (i.op % 256)).go (sigI rfl rfl) (v := v) (bs := bs ++ [by8 (i.op / 256)]) (R := R) rfl (by simp only [List.length_append, List.length_cons, List.length_nil]; omega)
    rw [List.append_assoc, hh] at q2
    simp [-List.length_append, -List.append_assoc, -appO_arr, take1, take2, takeB, allB, b00, rng2, b0, ho, q1, q2, bin_shr, shr8i, and255, him, f1]
theorem one_4 (i : Ins) (hi : i.ok) (hk : immS i.op = 4)  : WinF fn_encode_one [.t i.enc] i.bytes i.ver := by
  have hi0 := (Ins.ok_iff i).1 hi
  obtain ⟨⟨hn0, hn1⟩, _⟩ := hi0.2.2.2
  refine WinFB.mk fun bs v hl => ?_
  have fin : bs ++ i.bytes = bs ++ headB i.op ++ uI i.a := by rw [Ins.bytes_eq, hk]; simp [midB]
  have finv : i.ver = 0 := by rw [Ins.ver_eq, hk]; simp
  rw [← List.length_append, fin] at hl
  simp only [List.length_append, List.length_cons, List.length_nil] at hl
  rw [fin, finv]
  have him := c_Imm i.op
  rw [hk] at him
  have f1 := fun R => (c_u i.a).go (sigI rfl rfl) (v := v) (bs := bs ++ headB i.op) (R := R) rfl (by simp only [List.length_append]; omega)
  rw [callE LG rfl rfl rfl]
  by_cases ho : i.op < 256
  · have hh : [by8 i.op] = headB i.op := by simp [headB, ho]
    have hlen : (headB i.op).length = 1 := by rw [← hh]; rfl
    have q1 := fun R => (c_octet8 i.op).go (sigI rfl rfl) (v := v) (bs := bs) (R := R) rfl (by simp only [List.length_cons, List.length_nil]; omega)
    rw [hh] at q1
    simp [-List.length_append, -List.append_assoc, -appO_arr, take1, take2, takeB, allB, b00, rng2, b0, ho, q1, him, f1]
  · have hh : [by8 (i.op / 256)] ++ uI (i.op % 256) = headB i.op := by simp [headB, ho]
    have hlen : (headB i.op).length = 1 + (uI (i.op % 256)).length := by rw [← hh, List.length_append]; rfl
    have q1 := fun R => (c_octet8 (i.op / 256)).go (sigI rfl rfl) (v := v) (bs := bs) (R := R) rfl (by simp only [List.length_cons, List.length_nil]; omega)
    have q2 := fun R => (c_u (i.op % 256)).go (sigI rfl rfl) (v := v) (bs := bs ++ [by8 (i.op / 256)]) (R := R) rfl (by simp only [List.length_append, List.length_cons, List.length_nil]; omega)
    rw [List.append_assoc, hh] at q2
    simp [-List.length_append, -List.append_assoc, -appO_arr, take1, take2, takeB, allB, b00, rng2, b0, ho, q1, q2, bin_shr, shr8i, and255, him, f1]
theorem one_7 (i : Ins) (hi : i.ok) (hk : immS i.op = 7)  : WinF fn_encode_one [.t i.enc] i.bytes i.ver := by
  have hi0 := (Ins.ok_iff i).1 hi
  obtain ⟨⟨hn0, hn1⟩, _⟩ := hi0.2.2.2
  refine WinFB.mk fun bs v hl => ?_
  have fin : bs ++ i.bytes = bs ++ headB i.op ++ uI i.a := by rw [Ins.bytes_eq, hk]; simp [midB]
  have finv : i.ver = 0 := by rw [Ins.ver_eq, hk]; simp
  rw [← List.length_append, fin] at hl
  simp only [List.length_append, List.length_cons, List.length_nil] at hl
  rw [fin, finv]
  have him := c_Imm i.op
  rw [hk] at him
  have f1 := fun R => (c_u i.a).go (sigI rfl rfl) (v := v) (bs := bs ++ headB i.op) (R := R) rfl (by simp only [List.length_append]; omega)
  rw [callE LG rfl rfl rfl]
  by_cases ho : i.op < 256
  · have hh : [by8 i.op] = headB i.op := by simp [headB, ho]
    have hlen : (headB i.op).length = 1 := by rw [← hh]; rfl
    have q1 := fun R => (c_octet8 i.op).go (sigI rfl rfl) (v := v) (bs := bs) (R := R) rfl (by simp only [List.length_cons, List.length_nil]; omega)
    rw [hh] at q1
    simp [-List.length_append, -List.append_assoc, -appO_arr, take1, take2, takeB, allB, b00, rng2, b0, ho, q1, him, f1]
  · have hh : [by8 (i.op / 256)] ++ uI (i.op % 256) = headB i.op := by simp [headB, ho]
    have hlen : (headB i.op).length = 1 + (uI (i.op % 256)).length := by rw [← hh, List.length_append]; rfl
    have q1 := fun R => (c_octet8 (i.op / 256)).go (sigI rfl rfl) (v := v) (bs := bs) (R := R) rfl (by simp only [List.length_cons, List.length_nil]; omega)
    have q2 := fun R => (c_u (i.op % 256)).go (sigI rfl rfl) (v := v) (bs := bs ++ [by8 (i.op / 256)]) (R := R) rfl (by simp only [List.length_append, List.length_cons, List.length_nil]; omega)
    rw [List.append_assoc, hh] at q2
    simp [-List.length_append, -List.append_assoc, -appO_arr, take1, take2, takeB, allB, b00, rng2, b0, ho, q1, q2, bin_shr, shr8i, and255, him, f1]
theorem one_8 (i : Ins) (hi : i.ok) (hk : immS i.op = 8)  : WinF fn_encode_one [.t i.enc] i.bytes i.ver := by
  have hi0 := (Ins.ok_iff i).1 hi
  obtain ⟨⟨hn0, hn1⟩, _⟩ := hi0.2.2.2
  refine WinFB.mk fun bs v hl => ?_
  have fin : bs ++ i.bytes = bs ++ headB i.op ++ uI i.a := by rw [Ins.bytes_eq, hk]; simp [midB]
  have finv : i.ver = 0 := by rw [Ins.ver_eq, hk]; simp
  rw [← List.length_append, fin] at hl
  simp only [List.length_append, List.length_cons, List.length_nil] at hl
  rw [fin, finv]
  have him := c_Imm i.op
  rw [hk] at him
  have f1 := fun R => (c_u i.a).go (sigI rfl rfl) (v := v) (bs := bs ++ headB i.op) (R := R) rfl (by simp only [List.length_append]; omega)
  rw [callE LG rfl rfl rfl]
  by_cases ho : i.op < 256
  · have hh : [by8 i.op] = headB i.op := by simp [headB, ho]
    have hlen : (headB i.op).length = 1 := by rw [← hh]; rfl
    have q1 := fun R => (c_octet8 i.op).go (sigI rfl rfl) (v := v) (bs := bs) (R := R) rfl (by simp only [List.length_cons, List.length_nil]; omega)
    rw [hh] at q1
    simp [-List.length_append, -List.append_assoc, -appO_arr, take1, take2, takeB, allB, b00, rng2, b0, ho, q1, him, f1]
  · have hh : [by8 (i.op / 256)] ++ uI (i.op % 256) = headB i.op := by simp [headB, ho]
    have hlen : (headB i.op).length = 1 + (uI (i.op % 256)).length := by rw [← hh, List.length_append]; rfl
    have q1 := fun R => (c_octet8 (i.op / 256)).go (sigI rfl rfl) (v := v) (bs := bs) (R := R) rfl (by simp only [List.length_cons, List.length_nil]; omega)
    have q2 := fun R => (c_u (i.op % 256)).go (sigI rfl rfl) (v := v) (bs := bs ++ [by8 (i.op / 256)]) (R := R) rfl (by simp only [List.length_append, List.length_cons, List.length_nil]; omega)
    rw [List.append_assoc, hh] at q2
    simp [-List.length_append, -List.append_assoc, -appO_arr, take1, take2, takeB, allB, b00, rng2, b0, ho, q1, q2, bin_shr, shr8i, and255, him, f1]
theorem one_9 (i : Ins) (hi : i.ok) (hk : immS i.op = 9)  : WinF fn_encode_one [.t i.enc] i.bytes i.ver := by
  have hi0 := (Ins.ok_iff i).1 hi
  obtain ⟨⟨hn0, hn1⟩, _⟩ := hi0.2.2.2
  refine WinFB.mk fun bs v hl => ?_
  have fin : bs ++ i.bytes = bs ++ headB i.op ++ uI i.a := by rw [Ins.bytes_eq, hk]; simp [midB]
  have finv : i.ver = 0 := by rw [Ins.ver_eq, hk]; simp
  rw [← List.length_append, fin] at hl
  simp only [List.length_append, List.length_cons, List.length_nil] at hl
  rw [fin, finv]
  have him := c_Imm i.op
  rw [hk] at him
  have f1 := fun R => (c_u i.a).go (sigI rfl rfl) (v := v) (bs := bs ++ headB i.op) (R := R) rfl (by simp only [List.length_append]; omega)
  rw [callE LG rfl rfl rfl]
  by_cases ho : i.op < 256
  · have hh : [by8 i.op] = headB i.op := by simp [headB, ho]
    have hlen : (headB i.op).length = 1 := by rw [← hh]; rfl
    have q1 := fun R => (c_octet8 i.op).go (sigI rfl rfl) (v := v) (bs := bs) (R := R) rfl (by simp only [List.length_cons, List.length_nil]; omega)
    rw [hh] at q1
    simp [-List.length_append, -List.append_assoc, -appO_arr, take1, take2, takeB, allB, b00, rng2, b0, ho, q1, him, f1]
  · have hh : [by8 (i.op / 256)] ++ uI (i.op % 256) = headB i.op := by simp [headB, ho]
    have hlen : (headB i.op).length = 1 + (uI (i.op % 256)).length := by rw [← hh, List.length_append]; rfl
    have q1 := fun R => (c_octet8 (i.op / 256)).go (sigI rfl rfl) (v := v) (bs := bs) (R := R) rfl (by simp only [List.length_cons, List.length_nil]; omega)
    have q2 := fun R => (c_u (i.op % 256)).go (sigI rfl rfl) (v := v) (bs := bs ++ [by8 (i.op / 256)]) (R := R) rfl (by simp only [List.length_append, List.length_cons, List.length_nil]; omega)
    rw [List.append_assoc, hh] at q2
    simp [-List.length_append, -List.append_assoc, -appO_arr, take1, take2, takeB, allB, b00, rng2, b0, ho, q1, q2, bin_shr, shr8i, and255, him, f1]
theorem one_18 (i : Ins) (hi : i.ok) (hk : immS i.op = 18)  : WinF fn_encode_one [.t i.enc] i.bytes i.ver := by
  have hi0 := (Ins.ok_iff i).1 hi
  obtain ⟨⟨hn0, hn1⟩, _⟩ := hi0.2.2.2
  refine WinFB.mk fun bs v hl => ?_
  have fin : bs ++ i.bytes = bs ++ headB i.op ++ uI i.a := by rw [Ins.bytes_eq, hk]; simp [midB]
  have finv : i.ver = 0 := by rw [Ins.ver_eq, hk]; simp
  rw [← List.length_append, fin] at hl
  simp only [List.length_append, List.length_cons, List.length_nil] at hl
  rw [fin, finv]
  have him := c_Imm i.op
  rw [hk] at him
  have f1 := fun R => (c_u i.a).go (sigI rfl rfl) (v := v) (bs := bs ++ headB i.op) (R := R) rfl (by simp only [List.length_append]; omega)
  rw [callE LG rfl rfl rfl]
  by_cases ho : i.op < 256
  · have hh : [by8 i.op] = headB i.op := by simp [headB, ho]
    have hlen : (headB i.op).length = 1 := by rw [← hh]; rfl
    have q1 := fun R => (c_octet8 i.op).go (sigI rfl rfl) (v := v) (bs := bs) (R := R) rfl (by simp only [List.length_cons, List.length_nil]; omega)
    rw [hh] at q1
    simp [-List.length_append, -List.append_assoc, -appO_arr, take1, take2, takeB, allB, b00, rng2, b0, ho, q1, him, f1]
  · have hh : [by8 (i.op / 256)] ++ uI (i.op % 256) = headB i.op := by simp [headB, ho]
    have hlen : (headB i.op).length = 1 + (uI (i.op % 256)).length := by rw [← hh, List.length_append]; rfl
    have q1 := fun R => (c_octet8 (i.op / 256)).go (sigI rfl rfl) (v := v) (bs := bs) (R := R) rfl (by simp only [List.length_cons, List.length_nil]; omega)
    have q2 := fun R => (c_u (i.op % 256)).go (sigI rfl rfl) (v := v) (bs := bs ++ [by8 (i.op / 256)]) (R := R) rfl (by simp only [List.length_append, List.length_cons, List.length_nil]; omega)
    rw [List.append_assoc, hh] at q2
    simp [-List.length_append, -List.append_assoc, -appO_arr, take1, take2, takeB, allB, b00, rng2, b0, ho, q1, q2, bin_shr, shr8i, and255, him, f1]
theorem one_21 (i : Ins) (hi : i.ok) (hk : immS i.op = 21)  : WinF fn_encode_one [.t i.enc] i.bytes i.ver := by
  have hi0 := (Ins.ok_iff i).1 hi
  obtain ⟨⟨hn0, hn1⟩, _⟩ := hi0.2.2.2
  refine WinFB.mk fun bs v hl => ?_
  have fin : bs ++ i.bytes = bs ++ headB i.op ++ uI i.a := by rw [Ins.bytes_eq, hk]; simp [midB]
  have finv : i.ver = 0 := by rw [Ins.ver_eq, hk]; simp
  rw [← List.length_append, fin] at hl
  simp only [List.length_append, List.length_cons, List.length_nil] at hl
  rw [fin, finv]
  have him := c_Imm i.op
  rw [hk] at him
  have f1 := fun R => (c_u i.a).go (sigI rfl rfl) (v := v) (bs := bs ++ headB i.op) (R := R) rfl (by simp only [List.length_append]; omega)
  rw [callE LG rfl rfl rfl]
  by_cases ho : i.op < 256
  · have hh : [by8 i.op] = headB i.op := by simp [headB, ho]
    have hlen : (headB i.op).length = 1 := by rw [← hh]; rfl
    have q1 := fun R => (c_octet8 i.op).go (sigI rfl rfl) (v := v) (bs := bs) (R := R) rfl (by simp only [List.length_cons, List.length_nil]; omega)
    rw [hh] at q1
    simp [-List.length_append, -List.append_assoc, -appO_arr, take1, take2, takeB, allB, b00, rng2, b0, ho, q1, him, f1]
  · have hh : [by8 (i.op / 256)] ++ uI (i.op % 256) = headB i.op := by simp [headB, ho]
    have hlen : (headB i.op).length = 1 + (uI (i.op % 256)).length := by rw [← hh, List.length_append]; rfl
    have q1 := fun R => (c_octet8 (i.op / 256)).go (sigI rfl rfl) (v := v) (bs := bs) (R := R) rfl (by simp only [List.length_cons, List.length_nil]; omega)
    have q2 := fun R => (c_u (i.op % 256)).go (sigI rfl rfl) (v := v) (bs := bs ++ [by8 (i.op / 256)]) (R := R) rfl (by simp only [List.length_append, List.length_cons, List.length_nil]; omega)
    rw [List.append_assoc, hh] at q2
    simp [-List.length_append, -List.append_assoc, -appO_arr, take1, take2, takeB, allB, b00, rng2, b0, ho, q1, q2, bin_shr, shr8i, and255, him, f1]
end Go.Proofs.YtgehpjjpeddomaaGreatDoor
/- Contracts of the reference for encode: numbers, bytes, lists. -/
namespace Go.Proofs.YtgehpjjpeddomaaGreatDoor
open Go
set_option maxRecDepth 100000
theorem NewF.mk1 {f : Nat} {af : AFun} {args : List AV} {ys : List UInt8} (hf : LG.F f = some af) (hw : af.win = []) (hc : AV.closed.closedL args = true) (h : callL LG f args [] = some (.win 0 0 ys.length, [.arr ty_uint8 0 (bsT ys) 0 0])) : NewF f args ys :=
  fun H => newC hf (fun H => by rw [hw]; exact closed_coerce hc H) hc h H
theorem r_u10 (n : Int) : NewF fn_bodkinref10_u [.t (.v (.int .i64 n))] (uI n) := by
  refine NewF.mk1 rfl rfl rfl ?_
  have h := fun H => r_U (IntKind.u64.wrap n) (wrap_u64ok n) H
  rw [callE LG rfl rfl rfl]
  simp [conv_int und_int und_uint64, h, uI]
theorem lowR_loop (n : Nat) : ∀ (k i : Nat) (v : Int) (acc : List UInt8), i + k = n → n ≤ 8 → u64ok v → acc.length = i →
    K_bodkinref10_low_0 LG 0 (execL LG 0 (.loop L_bodkinref10_low_0) (S_bodkinref10_low_0 (.t (.v (.int .u64 v))) (.t (.v (.int .i64 n))) (.win 0 0 acc.length) (.t (.v (.int .i64 i))) [.arr ty_uint8 0 (bsT acc) 0 0])) =
    some (.win 0 0 (acc.length + k), [.arr ty_uint8 0 (bsT (acc ++ lowB k v)) 0 0]) := by
  intro k
  induction k with
  | zero =>
    intro i v acc hi hn hv ha
    have : i = n := by omega
    subst this
    rw [execL_loop_eq]
    simp [K_bodkinref10_low_0, lowB]
  | succ k ih =>
    intro i v acc hi hn hv ha
    obtain ⟨v0, v1⟩ := hv
    have e := ih (i + 1) (v / 256) (acc ++ [by8 v]) (by omega) hn ⟨by omega, by omega⟩ (by simp [ha])
    have hlt : i < n := by omega
    have hw : IntKind.i64.wrap ((i : Int) + 1) = (i : Int) + 1 := wrap_i64 (by omega) (by omega)
    have hm : v.tmod 256 = v % 256 := Int.tmod_eq_emod_of_nonneg v0
    have hq : IntKind.u64.wrap (v.tdiv 256) = v / 256 := by rw [Int.tdiv_eq_ediv_of_nonneg v0, wrap_u64 (by omega) (by omega)]
    have hcat : acc.length + (k + 1) = acc.length + 1 + k := by omega
    rw [execL_loop_eq, hcat, lowB]
    simp only [K_bodkinref10_low_0] at e ⊢
    simp [bsTa, bsTc, bsT_nil] at e
    simp [hlt, bin_rem, bin_quo, hm, hq, hw, conv_int und_uint64 und_uint8, wrap_by8, by8_mod, fitsO acc.length _ (by omega), trimE_eq, bsTa, bsTc, bsT_nil]
    exact e
theorem r_low10 (n : Nat) (hn : n ≤ 8) (v : Int) (hv : u64ok v) : NewF fn_bodkinref10_low [.t (.v (.int .u64 v)), .t (.v (.int .i64 n))] (lowB n v) := by
  refine NewF.mk1 rfl rfl rfl ?_
  have key := lowR_loop n n 0 v [] (by omega) hn hv rfl
  rw [callE LG rfl rfl rfl, lowB_len]
  simp [K_bodkinref10_low_0, bsT_nil] at key
  simp
  exact key
theorem r_octets10 (l : List Int) (hl : lenOk l) (hb : l.length ≤ 140737488355000) : NewF fn_bodkinref10_octets [.t (.sl (ints l))] (l.map by8) := by
  refine NewF.mk1 rfl rfl rfl ?_
  have key := for_ind l hl (fun k r => ∀ acc : List UInt8, acc.length + r.length ≤ 140737488355000 → K_bodkinref10_octets_0 LG 0 (execL LG 0 (.loop L_bodkinref10_octets_0) (S_bodkinref10_octets_0 (.t (.sl (ints l))) (.win 0 0 acc.length) (.t (.v (.int .i64 k))) [.arr ty_uint8 0 (bsT acc) 0 0])) =
      some (.win 0 0 (acc.length + r.length), [.arr ty_uint8 0 (bsT (acc ++ r.map by8)) 0 0]))
    (fun acc _ => by rw [execL_loop_eq]; simp [K_bodkinref10_octets_0]) (fun k x r hk hx hm hw ih acc hb => by
      simp only [List.length_cons] at hb
      have e := ih (acc ++ [by8 x]) (by simp only [List.length_append, List.length_cons, List.length_nil]; omega)
      have hcat : acc.length + (x :: r).length = acc.length + 1 + r.length := by simp; omega
      rw [execL_loop_eq, hcat]
      simp only [K_bodkinref10_octets_0] at e ⊢
      simp [bsTa, bsTc, bsT_nil] at e
      simp at hw
      simp [hx, hk, hw, conv_int und_int und_uint8, wrap_by8, fitsO acc.length _ (by omega), trimE_eq, bsTa, bsTc, bsT_nil]
      exact e)
  have k0 := key [] (by simpa using hb)
  rw [callE LG rfl rfl rfl]
  simp [K_bodkinref10_octets_0, bsT_nil] at k0
  simp
  exact k0
theorem r_listed10 (n : Int) (b : List UInt8) (hb : b.length ≤ 140737488355000) : NewF fn_bodkinref10_listed [.t (.v (.int .i64 n)), .t (.sl (bsT b))] (uI n ++ b) := by
  refine NewF.mk1 rfl rfl rfl ?_
  have h := fun H => r_u10 n H
  have hu := uI_len n
  have q : ∀ h : List AO, _ := fun h => appO_bs (bs := uI n) (ys := b) (n := (uI n).length) (v := 0) (r := 0) (h := h) rfl (by omega)
  rw [callE LG rfl rfl rfl]
  simp [-List.length_append, -List.append_assoc, -appO_arr, h, q]
section
variable (L : Lay) (C : Mean)
theorem doCall_win2' {f : Nat} {af : AFun} (hf : L.F f = some af) (hw : af.win = []) (x : Tr) (r v n : Nat) (h : List AO) : doCall L C f [.t x, .win r v n] h = callW2 L C f (.t x) (frz (.win r v n) h) := by
  have key : frz (frz (.win r v n) h).1 (frz (.win r v n) h).2 = frz (.win r v n) h := by
    unfold frz
    cases hz : fz (.win r v n) h with
    | none => simp only [hz]
    | some p => rfl
  unfold callW2 doCall
  rw [hf]
  simp only [hw, coerce, frz_t, key, List.length_cons, List.length_nil]
end
/-! ### numbers of either sign, bit by bit -/
theorem r_Right (H : List AO) : doC fn_bodkinref02_Right [.t (.v (.int .i64 32))] H = some (.t (.v (.bool true)), H) := by
  refine pureC rfl rfl rfl rfl ?_ H
  rw [callE LG rfl rfl rfl]
  simp [-opsC_guardE, opsC_guard]
theorem r_Cut (a : Int) (ha : u64ok a) (H : List AO) : doC fn_bodkinref02_Cut [.t (.v (.int .i64 32)), .t (.v (.int .u64 a))] H = some (.t (.v (.int .u64 (a % 4294967296))), H) := by
  refine pureC rfl rfl rfl rfl ?_ H
  obtain ⟨a0, a1⟩ := ha
  have key : ∀ k i : Nat, i + k = 32 → K_bodkinref02_Cut_0 LG 0 (execL LG 0 (.loop L_bodkinref02_Cut_0) (S_bodkinref02_Cut_0 (.t (.v (.int .i64 32))) (.t (.v (.int .u64 a))) (.t (.v (.int .u64 (2 ^ i : Nat)))) (.t (.v (.int .i64 i))) [])) = some (.t (.v (.int .u64 (a % 4294967296))), []) := by
    intro k
    induction k with
    | zero =>
      intro i hi
      have : i = 32 := by omega
      subst this
      have hm : a.tmod 4294967296 = a % 4294967296 := Int.tmod_eq_emod_of_nonneg a0
      rw [execL_loop_eq]
      simp [K_bodkinref02_Cut_0, bin_rem, hm]
    | succ k ih =>
      intro i hi
      have e := ih (i + 1) (by omega)
      have hlt : (i : Int) < 32 := by omega
      have hw : IntKind.i64.wrap ((i : Int) + 1) = (i : Int) + 1 := wrap_i64 (by omega) (by omega)
      have hp : (2 : Nat) ^ (i + 1) = 2 ^ i * 2 := Nat.pow_succ ..
      have hle : (2 : Nat) ^ (i + 1) ≤ 2 ^ 32 := Nat.pow_le_pow_right (by omega) (by omega)
      have hm : IntKind.u64.wrap (((2 ^ i : Nat) : Int) * 2) = ((2 ^ (i + 1) : Nat) : Int) := by rw [wrap_u64 (by omega) (by omega)]; omega
      rw [execL_loop_eq]
      simp only [K_bodkinref02_Cut_0] at e ⊢
      generalize hg : (2 ^ i : Nat) = p at hm ⊢
      generalize hg2 : (2 ^ (i + 1) : Nat) = p2 at hm e
      simp at e
      simp [hlt, hw, hm]
      exact e
  rw [callE LG rfl rfl rfl]
  have := key 32 0 rfl
  simp [K_bodkinref02_Cut_0] at this
  simp
  exact this
theorem r_bit (a : Int) (ha : u64ok a) (H : List AO) : doC fn_bodkinref02_bit [.t (.v (.int .u64 a)), .t (.v (.int .i64 31))] H = some (.t (.v (.int .u64 (a / 2147483648 % 2))), H) := by
  refine pureC rfl rfl rfl rfl ?_ H
  have key : ∀ (k i : Nat) (b : Int), i + k = 31 → u64ok b → K_bodkinref02_bit_0 LG 0 (execL LG 0 (.loop L_bodkinref02_bit_0) (S_bodkinref02_bit_0 (.t (.v (.int .u64 b))) (.t (.v (.int .i64 31))) (.t (.v (.int .i64 i))) [])) = some (.t (.v (.int .u64 (b / (2 ^ k : Nat) % 2))), []) := by
    intro k
    induction k with
    | zero =>
      intro i b hi hb
      have : i = 31 := by omega
      subst this
      have hm : b.tmod 2 = b % 2 := Int.tmod_eq_emod_of_nonneg hb.1
      rw [execL_loop_eq]
      simp [K_bodkinref02_bit_0, bin_rem, hm]
    | succ k ih =>
      intro i b hi hb
      obtain ⟨b0, b1⟩ := hb
      have e := ih (i + 1) (b / 2) (by omega) ⟨by omega, by omega⟩
      have hlt : (i : Int) < 31 := by omega
      have hw : IntKind.i64.wrap ((i : Int) + 1) = (i : Int) + 1 := wrap_i64 (by omega) (by omega)
      have hq : IntKind.u64.wrap (b.tdiv 2) = b / 2 := by rw [Int.tdiv_eq_ediv_of_nonneg b0, wrap_u64 (by omega) (by omega)]
      have hd : b / 2 / ((2 ^ k : Nat) : Int) = b / ((2 ^ (k + 1) : Nat) : Int) := by
        rw [Int.ediv_ediv_of_nonneg (by omega), Nat.pow_succ, Nat.mul_comm]; rfl
      rw [hd] at e
      rw [execL_loop_eq]
      simp only [K_bodkinref02_bit_0] at e ⊢
      generalize ((2 ^ (k + 1) : Nat) : Int) = p2 at e ⊢
      simp at e
      simp [hlt, hw, bin_quo, hq]
      exact e
  rw [callE LG rfl rfl rfl]
  have := key 31 0 a rfl ha
  simp [K_bodkinref02_bit_0] at this
  simp
  exact this
theorem r_signed (n : Int) (h : u64ok n) (H : List AO) : doC fn_bodkinref02_Signed [.t (.v (.int .i64 32)), .t (.v (.int .u64 n))] H = some (.t (.v (.int .i64 (sgn32 n))), H) := by
  refine pureC rfl rfl rfl rfl ?_ H
  have h1 := r_Cut n h
  have hx : u64ok (n % 4294967296) := ⟨by omega, by omega⟩
  have h2 := r_bit (n % 4294967296) hx
  have w31 : IntKind.i64.wrap 31 = 31 := by decide
  rw [callE LG rfl rfl rfl]
  by_cases hb : n % 4294967296 / 2147483648 % 2 = 1
  · have w1 : IntKind.u64.wrap (-(n % 4294967296)) = 18446744073709551616 - n % 4294967296 := by
      unfold IntKind.wrap
      simp [IntKind.bits, IntKind.signed]
      omega
    have h3 := r_Cut (18446744073709551616 - n % 4294967296) ⟨by omega, by omega⟩
    have e3 : (18446744073709551616 - n % 4294967296) % 4294967296 = 4294967296 - n % 4294967296 := by omega
    rw [e3] at h3
    have w2 : IntKind.u64.wrap (4294967296 - n % 4294967296 - 1) = 4294967295 - n % 4294967296 := by rw [wrap_u64 (by omega) (by omega)]; omega
    have w3 : IntKind.i64.wrap (4294967295 - n % 4294967296) = 4294967295 - n % 4294967296 := wrap_i64 (by omega) (by omega)
    have w4 : IntKind.i64.wrap (-(4294967295 - n % 4294967296)) = n % 4294967296 - 4294967295 := by rw [wrap_i64 (by omega) (by omega)]; omega
    have w4' : IntKind.i64.wrap (n % 4294967296 - 4294967295) = n % 4294967296 - 4294967295 := wrap_i64 (by omega) (by omega)
    have w5 : IntKind.i64.wrap (n % 4294967296 - 4294967295 - 1) = sgn32 n := by
      rw [wrap_i64 (by omega) (by omega)]
      unfold sgn32
      split <;> omega
    simp [r_Right, h1, h2, h3, w31, hb, w1, w2, w3, w4, w4', w5, conv_int und_uint64 und_int64]
  · have w1 : IntKind.i64.wrap (n % 4294967296) = sgn32 n := by
      rw [wrap_i64 (by omega) (by omega)]
      unfold sgn32
      split <;> omega
    simp [r_Right, h1, h2, w31, hb, w1, conv_int und_uint64 und_int64]
end Go.Proofs.YtgehpjjpeddomaaGreatDoor
