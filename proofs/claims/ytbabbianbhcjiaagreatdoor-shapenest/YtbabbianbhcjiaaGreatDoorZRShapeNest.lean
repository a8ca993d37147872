/- The law ShapeNest of bodkin: for every input the law returns true, and its arguments read behind the call as before: the row and the tied card. -/
import Derived.Test.YtbabbianbhcjiaaGreatDoorZRBase
import Derived.Test.YtbabbianbhcjiaaGreatDoorZCLawShapeNest
import Derived.Test.YtbabbianbhcjiaaGreatDoorCards
set_option linter.all false
namespace Go.Proofs.YtbabbianbhcjiaaGreatDoor
open Go Go.Proofs Go.ChangeShapes Go.WideShapes Go.ChangeAt Go.RowKit
set_option maxRecDepth 100000 in
theorem shapeNest_lifted (os : Os) (started : os.Started) (H : Type) (enc : TypeId × Value → H) :
    ReturnsInHanded {} Tryz.checked os 5 .any (fun w args => (Rows.shapeNestSpec.pre enc Tryz.prog Tryz.f5 Rows.shapeNestRow.domain false w args ∧ laidMetH Tryz.prog Rows.shapeNestRow.laid w) ∧ sizedMet enc Tryz.prog Tryz.f5 (OpenSpec.ofChange Rows.shapeNestSpec) false w args)
      (Rows.shapeNestSpec.post enc Tryz.prog Tryz.f5 false true false false) := by
  refine returnsInHanded_of_change_and (C := Tryz.checked) (X := fun w _ => laidMetH Tryz.prog Rows.shapeNestRow.laid w) (fun _ _ _ hh h => h.of_heap hh) own started (by kernel_rfl) Tryz.func5
    (ChangeSpec.witness_shaped (enc := enc) (C := Tryz.checked) (os := os) (X := fun w _ => laidMetH Tryz.prog Rows.shapeNestRow.laid w) false (World.laidAll Tryz.prog os Rows.shapeNestRow.laid) #[.slice none 0 0, .int .i64 0] 8 (World.laidAll_os _ _ _)
      (World.shaped_of_ZipB (by kernel_rfl) (by kernel_rfl)) (by kernel_rfl) (by kernel_rfl) (by kernel_rfl)
      (by rw [MakeChecks.laidMetH_plain _ _ _ (by kernel_rfl)]; exact laidMet_laidAll _ (by kernel_rfl) (by kernel_rfl))) ?_
  intro W base args ds gs before hval0 hW _ _ hL _
  have hval : ∀ (j : Nat) t v, Tryz.f5.params[j]? = some t → args[j]? = some v → Value.okWide Tryz.prog W .any base t v := hval0
  have hW' := hW
  obtain ⟨p, q, hA0, hV, rfl, hfz, hnd⟩ := hW
  have hA : DataW.TrodAll enc Tryz.prog W 0 (fun _ => true) true Tryz.f5.params.toList args.toList ds p := hA0
  rw [Tryz.params5] at hA hval
  generalize hargs : args.toList = al at hA
  obtain ⟨v0, vs0, d0, ds0, p0, q0, rfl, rfl, rfl, h0, r0⟩ := trodAll_cons hA
  obtain ⟨v1, vs1, d1, ds1, p1, q1, rfl, rfl, rfl, h1, r1⟩ := trodAll_cons r0
  obtain ⟨rfl, rfl, rfl⟩ := trodAll_nil r1
  obtain rfl : args = #[v0, v1] := by cases args; simp_all
  obtain ⟨rfl, rfl⟩ := trodVars_none hV
  have lt0 : ∀ x ∈ p0, x.block < W.heap.size := by obtain ⟨m, hm⟩ := h0; exact DataW.trod_lt m _ _ _ hm
  have x0 := read_sl (H := H) Tryz.underlying37 (by decide) (by kernel_rfl) (hval 0 37 v0 rfl rfl) h0
  obtain ⟨n0, hn0⟩ := typed_of (t := 37) (by decide) h0
  obtain ⟨l0, e0, y0⟩ := t_inss hn0
  rw [e0] at x0
  obtain ⟨n1, rfl, rfl, rfl, w1⟩ := open_int Tryz.underlying3 (hval 1 3 v1 rfl rfl) h1
  have y1 : i64ok n1 := by simpa [Lit.wf, IntKind.min, IntKind.max, IntKind.bits, IntKind.signed] using w1
  rw [MakeChecks.laidMetH_plain _ _ _ (by kernel_rfl)] at hL
  refine (call_plain (xs := [inss l0, .v (.int .i64 n1)]) (r := .bool true) (H' := []) (lay_ok glb) (gok hL (by unfold Rows.shapeNestRow; simp only; simp) (by unfold Rows.shapeNestRow; simp only; simp)) (law_ShapeNest l0 n1 y0 y1) (vs := #[_, _]) rfl (fun i x v hi hv => ?_)).mono fun e W' ⟨he, bel⟩ => ?_
  · match i, hi, hv with
    | 0, hi, hv => obtain rfl := Option.some.inj hi; obtain rfl := Option.some.inj hv; exact x0
    | 1, hi, hv => obtain rfl := Option.some.inj hi; obtain rfl := Option.some.inj hv; exact .v _ rfl
    | i + 2, hi, hv => cases hi
  · subst he
    exact ⟨_, rfl, _, _, _, [], _, [], hW', trodAll_mk1 (shut_bool Tryz.underlying4 _), (trodAll_cons_mk (Below.trod laidOut (by kernel_rfl) (of_decide_eq_true (by kernel_rfl)) h0 bel lt0) (trodAll_mk1 (shut_int Tryz.underlying3 w1))), rfl, bel.frame _, fun h => by cases h⟩
theorem shapeNest_row : Rows.ShapeNestSaid :=
  OpenClaim.holds_of_wide 5 Tryz.f5 rfl rfl rfl rfl rfl rfl rfl ⟨rfl, rfl, rfl, rfl, rfl⟩ rfl rfl rfl rfl rfl (by kernel_rfl) Tryz.func5 (by kernel_rfl)
    (of_decide_eq_true (by kernel_rfl)) (by unfold Func.isWrapper; first | (rw [if_pos (by decide +kernel)]; kernel_rfl) | (rw [if_neg (by decide +kernel)]; exact ⟨rfl, rfl⟩))
    (fun os started H enc _ => shapeNest_lifted os started H enc)
theorem shapeNest_holds : Rows.ShapeNestCardSaid :=
  Claim7.holds_tied_plain_at .later [] [.listed, .data, .data] true (true, "29a8cb97a78361069e9b0e5c710176b2a35ae43c4f0ee56c21d8b88f4628fa4f") false shapeNest_row (fun _ h => by cases h) (by kernel_rfl) (fun _ h => by cases h) shapeNest_row_tie rfl ⟨rfl, rfl⟩ (by kernel_rfl) rfl
    (fun f fn hf hfn => by
      obtain rfl : f = 5 := Option.some.inj ((show Tryz.prog.funcNamed "bodkin/bodkinlaw09.ShapeNest" = some 5 by kernel_rfl).symm.trans hf) |>.symm
      obtain rfl : fn = Tryz.f5 := (Option.some.inj (Tryz.func5.symm.trans hfn)).symm
      exact ⟨by kernel_rfl, fun j t ht => by
        rw [Tryz.params5] at ht
        have hm : t ∈ [37, 3] := by simpa using Array.mem_of_getElem? ht
        have hall : ([37, 3].all fun u => !Tryz.prog.wantsStandIn u) = true := by kernel_rfl
        exact (show Tryz.prog.wantsStandIn t = false by simpa using List.all_eq_true.1 hall t hm)⟩)
    (by kernel_rfl)
#print axioms shapeNest_holds
end Go.Proofs.YtbabbianbhcjiaaGreatDoor
