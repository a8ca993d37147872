/- How long the bytes of few instructions are. -/
import Derived.Test.YtgehpjjpeddomaaGreatDoorZCEnc10
import Derived.Test.YtgehpjjpeddomaaGreatDoorZCPlainA
import Derived.Test.YtgehpjjpeddomaaGreatDoorZCFew
set_option linter.all false
namespace Go.Proofs.YtgehpjjpeddomaaGreatDoor
open Go
set_option maxRecDepth 100000
theorem catU_len : ∀ l : List Int, (catB uI l).length ≤ 10 * l.length
  | [] => by simp [catB]
  | x :: r => by
    have := uI_len x
    have h := catU_len r
    simp only [catB, List.length_append, List.length_cons]
    omega
theorem headB_len (op : Int) : (headB op).length ≤ 11 := by
  unfold headB
  split
  · simp
  · have := uI_len (op % 256); simp; omega
theorem typeB_len (a b : Int) : (typeB a b).length ≤ 10 := by
  unfold typeB
  split
  · simp
  · split
    · simp
    · exact sI_len b
theorem midB_len (k a b n h : Int) (l : List Int) (hl : l.length ≤ 1000) : (midB k a b n h l).length ≤ 10030 := by
  have h1 := uI_len a
  have h2 := uI_len b
  have h3 := catU_len l
  have h4 := uI_len (l.length : Int)
  have h5 := sI_len (sgn32 n)
  have h6 := sI_len (IntKind.i64.wrap n)
  unfold midB
  by_cases k0 : k = 0
  · rw [if_pos k0]
    (first | omega | (simp only [listU, listO, List.length_append, List.length_cons, List.length_nil, List.length_map, lowB_len]; omega))
  rw [if_neg k0]
  by_cases k1 : k = 3
  · rw [if_pos k1]
    (first | omega | (simp only [listU, listO, List.length_append, List.length_cons, List.length_nil, List.length_map, lowB_len]; omega))
  rw [if_neg k1]
  by_cases k2 : k = 5 ∨ k = 20 ∨ k = 22 ∨ k = 10
  · rw [if_pos k2]
    (first | omega | (simp only [listU, listO, List.length_append, List.length_cons, List.length_nil, List.length_map, lowB_len]; omega))
  rw [if_neg k2]
  by_cases k3 : k = 26
  · rw [if_pos k3]
    (first | omega | (simp only [listU, listO, List.length_append, List.length_cons, List.length_nil, List.length_map, lowB_len]; omega))
  rw [if_neg k3]
  by_cases k4 : k = 6
  · rw [if_pos k4]
    (first | omega | (simp only [listU, listO, List.length_append, List.length_cons, List.length_nil, List.length_map, lowB_len]; omega))
  rw [if_neg k4]
  by_cases k5 : k = 11
  · rw [if_pos k5]
    (first | omega | (simp only [listU, listO, List.length_append, List.length_cons, List.length_nil, List.length_map, lowB_len]; omega))
  rw [if_neg k5]
  by_cases k6 : k = 19
  · rw [if_pos k6]
    (first | omega | (simp only [listU, listO, List.length_append, List.length_cons, List.length_nil, List.length_map, lowB_len]; omega))
  rw [if_neg k6]
  by_cases k7 : k = 17
  · rw [if_pos k7]
    (first | omega | (simp only [listU, listO, List.length_append, List.length_cons, List.length_nil, List.length_map, lowB_len]; omega))
  rw [if_neg k7]
  by_cases k8 : k = 12
  · rw [if_pos k8]
    (first | omega | (simp only [listU, listO, List.length_append, List.length_cons, List.length_nil, List.length_map, lowB_len]; omega))
  rw [if_neg k8]
  by_cases k9 : k = 13
  · rw [if_pos k9]
    (first | omega | (simp only [listU, listO, List.length_append, List.length_cons, List.length_nil, List.length_map, lowB_len]; omega))
  rw [if_neg k9]
  by_cases k10 : k = 14
  · rw [if_pos k10]
    (first | omega | (simp only [listU, listO, List.length_append, List.length_cons, List.length_nil, List.length_map, lowB_len]; omega))
  rw [if_neg k10]
  by_cases k11 : k = 15
  · rw [if_pos k11]
    (first | omega | (simp only [listU, listO, List.length_append, List.length_cons, List.length_nil, List.length_map, lowB_len]; omega))
  rw [if_neg k11]
  by_cases k12 : k = 23
  · rw [if_pos k12]
    (first | omega | (simp only [listU, listO, List.length_append, List.length_cons, List.length_nil, List.length_map, lowB_len]; omega))
  rw [if_neg k12]
  by_cases k13 : k = 16 ∨ k = 25
  · rw [if_pos k13]
    (first | omega | (simp only [listU, listO, List.length_append, List.length_cons, List.length_nil, List.length_map, lowB_len]; omega))
  rw [if_neg k13]
  by_cases k14 : k = 24
  · rw [if_pos k14]
    (first | omega | (simp only [listU, listO, List.length_append, List.length_cons, List.length_nil, List.length_map, lowB_len]; omega))
  rw [if_neg k14]
  (first | omega | (simp only [listU, listO, List.length_append, List.length_cons, List.length_nil, List.length_map, lowB_len]; omega))
mutual
theorem len_bytes : ∀ i : Ins, i.deep short → i.bytes.length ≤ 10100 * i.count
  | .mk op a b n h l body els o, hd => by
    simp only [Ins.deep] at hd
    obtain ⟨h0, h1, h2⟩ := hd
    have e1 := len_bytesL body h1
    have e2 := len_bytesL els h2
    have e3 := headB_len op
    have e4 := typeB_len a b
    have e5 := midB_len (immS op) a b n h l (by simpa [short, Ins.l] using h0)
    simp only [Ins.bytes, Ins.count]
    split
    · cases o with
      | true => simp only [if_true, List.length_append, List.length_cons, List.length_nil]; omega
      | false => simp only [Bool.false_eq_true, if_false, List.length_append, List.length_cons, List.length_nil]; omega
    · simp only [List.length_append]; omega
theorem len_bytesL : ∀ l : List Ins, deepL short l → (bytesL l).length ≤ 10100 * countL l
  | [], _ => by simp [bytesL, countL]
  | i :: r, hd => by
    simp only [deepL] at hd
    have e1 := len_bytes i hd.1
    have e2 := len_bytesL r hd.2
    simp only [bytesL, countL, List.length_append]
    omega
end
theorem few_bytes {l : List Ins} (h : few l = true) : (bytesL l).length ≤ 30300000 := by
  obtain ⟨_, h2, h3⟩ := few_spec h
  have := len_bytesL l h3
  omega
end Go.Proofs.YtgehpjjpeddomaaGreatDoor
