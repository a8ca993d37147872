/- ShapeInside: what the law computes is true. -/
import Derived.Test.YtbabbianbhcjiaaGreatDoorZCLawShapeOne
set_option linter.all false
namespace Go.Proofs.YtbabbianbhcjiaaGreatDoor
open Go
set_option maxRecDepth 100000
theorem may_in (l : List Ins) (h : Inss l) (hs : SmallC l) (v : Bool) (hv : (pCode l && (false || everyL noneS l)) = v) (H : List AO) : doC fn_shape_May [.t (.agg [.sl [], .sl [], .sl [.agg [.v (.int .i64 0), .sl [], .sl (encs l)]], .sl [], .sl [], .sl [], .sl [], .v (.int .i64 0), .sl [], .sl [], .v (.bool false)])] H =
    some (.t (.v (.bool v)), H) := by
  rw [← hv, encs_map]; exact c_body l false h hs H
theorem ok_in (op n : Int) (body els : List Ins) (o : Bool) (h1 : i64ok op) (h2 : u64ok n) (h3 : Inss body) (h4 : Inss els) : Inss [.mk op 0 0 n 0 [] body els o] :=
  inss_one ((Ins.ok_iff _).2 ⟨h1, ⟨by show (-9223372036854775808 : Int) ≤ 0; omega, by show (0 : Int) ≤ 9223372036854775807; omega⟩, ⟨by show (-9223372036854775808 : Int) ≤ 0; omega, by show (0 : Int) ≤ 9223372036854775807; omega⟩, h2, ⟨by show (0 : Int) ≤ 0; omega, by show (0 : Int) ≤ 18446744073709551615; omega⟩, ⟨by simp [Ins.l, lenOk], by simp [Ins.l]⟩, h3, h4⟩)
theorem inss_nil : Inss [] := ⟨by simp [lenOk], by simp⟩
theorem law_ShapeInside (kind n : Int) (o : Bool) (_ : i64ok kind) (_ : u64ok n) : callL LG fn_bodkinlaw09_ShapeInside [.t (.v (.int .i64 kind)), .t (.v (.int .u64 n)), .t (.v (.bool o))] [] = some (.t (.v (.bool true)), []) := by
  obtain ⟨g0, g1⟩ := u64_and n
  obtain ⟨b0, b1⟩ := u64_or n
  have hk := i64_and1 kind
  rw [callE LG rfl rfl rfl]
  generalize hg : bitI .and .u64 n 4294967295 = g at g0 g1
  generalize hb : bitI .or .u64 n 4294967296 = b at b0 b1
  have o65 : Inss [.mk 65 0 0 g 0 [] [] [] false] := ok_in _ _ _ _ _ ⟨by omega, by omega⟩ ⟨by omega, by omega⟩ inss_nil inss_nil
  have p65 : Inss [.mk 65 0 0 b 0 [] [] [] false] := ok_in _ _ _ _ _ ⟨by omega, by omega⟩ ⟨by omega, by omega⟩ inss_nil inss_nil
  have hc := fun H => may_in [.mk 4 0 0 0 0 [] [] [.mk 65 0 0 g 0 [] [] [] false] o] (ok_in _ _ _ _ _ ⟨by omega, by omega⟩ ⟨by omega, by omega⟩ inss_nil o65) ⟨by simp [nestL, Ins.nest], by simp [countL, Ins.count]⟩ o
    (by cases o <;> simp [pCode, nestL, Ins.nest, everyL, Ins.every, pOne, kn65, kn4, im65, im4, pOneK, pWithin, noneS, Ins.op, Ins.a, Ins.b, Ins.n, Ins.h, Ins.l, Ins.body, Ins.els, Ins.other, g1]) H
  have he := fun H => may_in [.mk 1 0 0 0 0 [] [.mk 65 0 0 g 0 [] [] [] false] [] false] (ok_in _ _ _ _ _ ⟨by omega, by omega⟩ ⟨by omega, by omega⟩ o65 inss_nil) ⟨by simp [nestL, Ins.nest], by simp [countL, Ins.count]⟩ false
    (by simp [pCode, nestL, Ins.nest, everyL, Ins.every, pOne, kn1, im1, pOneK, Ins.op, Ins.body, Ins.els]) H
  have hop : ∀ op : Int, op = 2 ∨ op = 3 → knownS op = true ∧ immS op = 1 ∧ i64ok op ∧ ¬ op = 4 := by
    rintro op (rfl | rfl)
    · exact ⟨kn2, im2, ⟨by omega, by omega⟩, by omega⟩
    · exact ⟨kn3, im3, ⟨by omega, by omega⟩, by omega⟩
  have key : ∀ op : Int, op = 2 ∨ op = 3 → (∀ H, doC fn_shape_May [.t (.agg [.sl [], .sl [], .sl [.agg [.v (.int .i64 0), .sl [], .sl (encs [.mk op 0 0 0 0 [] [.mk 65 0 0 g 0 [] [] [] false] [] false])]], .sl [], .sl [], .sl [], .sl [], .v (.int .i64 0), .sl [], .sl [], .v (.bool false)])] H = some (.t (.v (.bool true)), H)) ∧
      (∀ H, doC fn_shape_May [.t (.agg [.sl [], .sl [], .sl [.agg [.v (.int .i64 0), .sl [], .sl (encs [.mk op 0 0 0 0 [] [.mk 65 0 0 b 0 [] [] [] false] [] false])]], .sl [], .sl [], .sl [], .sl [], .v (.int .i64 0), .sl [], .sl [], .v (.bool false)])] H = some (.t (.v (.bool false)), H)) ∧
      (∀ H, doC fn_shape_May [.t (.agg [.sl [], .sl [], .sl [.agg [.v (.int .i64 0), .sl [], .sl (encs [.mk op 0 0 0 0 [] [] [] true])]], .sl [], .sl [], .sl [], .sl [], .v (.int .i64 0), .sl [], .sl [], .v (.bool false)])] H = some (.t (.v (.bool false)), H)) := by
    intro op ho
    obtain ⟨k1, k2, k3, k4⟩ := hop op ho
    refine ⟨fun H => ?_, fun H => ?_, fun H => ?_⟩
    · exact may_in _ (ok_in _ _ _ _ _ k3 ⟨by omega, by omega⟩ o65 inss_nil) ⟨by simp [nestL, Ins.nest], by simp [countL, Ins.count]⟩ true
        (by simp [pCode, nestL, Ins.nest, everyL, Ins.every, pOne, kn65, im65, k1, k2, pOneK, pWithin, noneS, Ins.op, Ins.a, Ins.b, Ins.n, Ins.h, Ins.l, Ins.body, Ins.els, Ins.other, g1]) H
    · exact may_in _ (ok_in _ _ _ _ _ k3 ⟨by omega, by omega⟩ p65 inss_nil) ⟨by simp [nestL, Ins.nest], by simp [countL, Ins.count]⟩ false
        (by
          have : ¬ b < 4294967296 := by omega
          simp [pCode, nestL, Ins.nest, everyL, Ins.every, pOne, kn65, im65, k1, k2, pOneK, pWithin, noneS, Ins.op, Ins.a, Ins.b, Ins.n, Ins.h, Ins.l, Ins.body, Ins.els, Ins.other, this]) H
    · exact may_in _ (ok_in _ _ _ _ _ k3 ⟨by omega, by omega⟩ inss_nil inss_nil) ⟨by simp [nestL, Ins.nest], by simp [countL, Ins.count]⟩ false
        (by simp [pCode, nestL, Ins.nest, everyL, Ins.every, pOne, k1, k2, k4, pOneK, pWithin, noneS, Ins.op, Ins.a, Ins.b, Ins.n, Ins.h, Ins.l, Ins.body, Ins.els, Ins.other]) H
  have w2 : IntKind.i64.wrap 2 = 2 := by decide
  have w3 : IntKind.i64.wrap 3 = 3 := by decide
  rcases hk with hk | hk
  · obtain ⟨ka, kb, kd⟩ := key 2 (.inl rfl)
    simp only [encs, Ins.enc, ints, List.map_nil] at hc he ka kb kd
    simp [hk, hg, hb, w2, w3, c_awake, hc, he, ka, kb, kd, bin_beql und_bool]
  · obtain ⟨ka, kb, kd⟩ := key 3 (.inr rfl)
    simp only [encs, Ins.enc, ints, List.map_nil] at hc he ka kb kd
    simp [hk, hg, hb, w2, w3, c_awake, hc, he, ka, kb, kd, bin_beql und_bool]
end Go.Proofs.YtbabbianbhcjiaaGreatDoor
