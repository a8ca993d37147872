/- The law ShapeInside of bodkin: for every input the law returns true, and its arguments read behind the call as before: the row and the tied card. -/
import Derived.Test.YtbabbianbhcjiaaGreatDoorZRBase
import Derived.Test.YtbabbianbhcjiaaGreatDoorZCLawShapeInside
import Derived.Test.YtbabbianbhcjiaaGreatDoorCards
set_option linter.all false
namespace Go.Proofs.YtbabbianbhcjiaaGreatDoor
open Go Go.Proofs Go.ChangeShapes Go.WideShapes Go.ChangeAt Go.RowKit
set_option maxRecDepth 100000 in
theorem shapeInside_lifted (os : Os) (started : os.Started) (H : Type) (enc : TypeId × Value → H) :
    ReturnsInHanded {} Tryz.checked os 8 .any (fun w args => (Rows.shapeInsideSpec.pre enc Tryz.prog Tryz.f8 Rows.shapeInsideRow.domain false w args ∧ laidMetH Tryz.prog Rows.shapeInsideRow.laid w) ∧ sizedMet enc Tryz.prog Tryz.f8 (OpenSpec.ofChange Rows.shapeInsideSpec) false w args)
      (Rows.shapeInsideSpec.post enc Tryz.prog Tryz.f8 false true false false) := by
  refine returnsInHanded_of_change_and (C := Tryz.checked) (X := fun w _ => laidMetH Tryz.prog Rows.shapeInsideRow.laid w) (fun _ _ _ hh h => h.of_heap hh) own started (by kernel_rfl) Tryz.func8
    (ChangeSpec.witness_shaped (enc := enc) (C := Tryz.checked) (os := os) (X := fun w _ => laidMetH Tryz.prog Rows.shapeInsideRow.laid w) false (World.laidAll Tryz.prog os Rows.shapeInsideRow.laid) #[.int .i64 0, .int .u64 0, .bool false] 8 (World.laidAll_os _ _ _)
      (World.shaped_of_ZipB (by kernel_rfl) (by kernel_rfl)) (by kernel_rfl) (by kernel_rfl) (by kernel_rfl)
      (by rw [MakeChecks.laidMetH_plain _ _ _ (by kernel_rfl)]; exact laidMet_laidAll _ (by kernel_rfl) (by kernel_rfl))) ?_
  intro W base args ds gs before hval0 hW _ _ hL _
  have hval : ∀ (j : Nat) t v, Tryz.f8.params[j]? = some t → args[j]? = some v → Value.okWide Tryz.prog W .any base t v := hval0
  have hW' := hW
  obtain ⟨p, q, hA0, hV, rfl, hfz, hnd⟩ := hW
  have hA : DataW.TrodAll enc Tryz.prog W 0 (fun _ => true) true Tryz.f8.params.toList args.toList ds p := hA0
  rw [Tryz.params8] at hA hval
  generalize hargs : args.toList = al at hA
  obtain ⟨v0, vs0, d0, ds0, p0, q0, rfl, rfl, rfl, h0, r0⟩ := trodAll_cons hA
  obtain ⟨v1, vs1, d1, ds1, p1, q1, rfl, rfl, rfl, h1, r1⟩ := trodAll_cons r0
  obtain ⟨v2, vs2, d2, ds2, p2, q2, rfl, rfl, rfl, h2, r2⟩ := trodAll_cons r1
  obtain ⟨rfl, rfl, rfl⟩ := trodAll_nil r2
  obtain rfl : args = #[v0, v1, v2] := by cases args; simp_all
  obtain ⟨rfl, rfl⟩ := trodVars_none hV
  obtain ⟨n0, rfl, rfl, rfl, w0⟩ := open_int Tryz.underlying3 (hval 0 3 v0 rfl rfl) h0
  have y0 : i64ok n0 := by simpa [Lit.wf, IntKind.min, IntKind.max, IntKind.bits, IntKind.signed] using w0
  obtain ⟨n1, rfl, rfl, rfl, w1⟩ := open_int Tryz.underlying35 (hval 1 35 v1 rfl rfl) h1
  have y1 : u64ok n1 := by simpa [Lit.wf, IntKind.min, IntKind.max, IntKind.bits, IntKind.signed] using w1
  obtain ⟨q2, rfl, rfl, rfl⟩ := open_bool Tryz.underlying4 (hval 2 4 v2 rfl rfl) h2
  rw [MakeChecks.laidMetH_plain _ _ _ (by kernel_rfl)] at hL
  refine (call_plain (xs := [.v (.int .i64 n0), .v (.int .u64 n1), .v (.bool q2)]) (r := .bool true) (H' := []) (lay_ok glb) (gok hL (by unfold Rows.shapeInsideRow; simp only; simp) (by unfold Rows.shapeInsideRow; simp only; simp)) (law_ShapeInside n0 n1 q2 y0 y1) (vs := #[_, _, _]) rfl (fun i x v hi hv => ?_)).mono fun e W' ⟨he, bel⟩ => ?_
  · match i, hi, hv with
    | 0, hi, hv => obtain rfl := Option.some.inj hi; obtain rfl := Option.some.inj hv; exact .v _ rfl
    | 1, hi, hv => obtain rfl := Option.some.inj hi; obtain rfl := Option.some.inj hv; exact .v _ rfl
    | 2, hi, hv => obtain rfl := Option.some.inj hi; obtain rfl := Option.some.inj hv; exact .v _ rfl
    | i + 3, hi, hv => cases hi
  · subst he
    exact ⟨_, rfl, _, _, _, [], _, [], hW', trodAll_mk1 (shut_bool Tryz.underlying4 _), (trodAll_cons_mk (shut_int Tryz.underlying3 w0) (trodAll_cons_mk (shut_int Tryz.underlying35 w1) (trodAll_mk1 (shut_bool Tryz.underlying4 _)))), rfl, bel.frame _, fun h => by cases h⟩
theorem shapeInside_row : Rows.ShapeInsideSaid :=
  OpenClaim.holds_of_wide 8 Tryz.f8 rfl rfl rfl rfl rfl rfl rfl ⟨rfl, rfl, rfl, rfl, rfl⟩ rfl rfl rfl rfl rfl (by kernel_rfl) Tryz.func8 (by kernel_rfl)
    (of_decide_eq_true (by kernel_rfl)) (by unfold Func.isWrapper; first | (rw [if_pos (by decide +kernel)]; kernel_rfl) | (rw [if_neg (by decide +kernel)]; exact ⟨rfl, rfl⟩))
    (fun os started H enc _ => shapeInside_lifted os started H enc)
theorem shapeInside_holds : Rows.ShapeInsideCardSaid :=
  Claim7.holds_tied_plain_at .later [] [.listed, .data, .data] true (true, "29a8cb97a78361069e9b0e5c710176b2a35ae43c4f0ee56c21d8b88f4628fa4f") false shapeInside_row (fun _ h => by cases h) (by kernel_rfl) (fun _ h => by cases h) shapeInside_row_tie rfl ⟨rfl, rfl⟩ (by kernel_rfl) rfl
    (fun f fn hf hfn => by
      obtain rfl : f = 8 := Option.some.inj ((show Tryz.prog.funcNamed "bodkin/bodkinlaw09.ShapeInside" = some 8 by kernel_rfl).symm.trans hf) |>.symm
      obtain rfl : fn = Tryz.f8 := (Option.some.inj (Tryz.func8.symm.trans hfn)).symm
      exact ⟨by kernel_rfl, fun j t ht => by
        rw [Tryz.params8] at ht
        have hm : t ∈ [3, 35, 4] := by simpa using Array.mem_of_getElem? ht
        have hall : ([3, 35, 4].all fun u => !Tryz.prog.wantsStandIn u) = true := by kernel_rfl
        exact (show Tryz.prog.wantsStandIn t = false by simpa using List.all_eq_true.1 hall t hm)⟩)
    (by kernel_rfl)
#print axioms shapeInside_holds
end Go.Proofs.YtbabbianbhcjiaaGreatDoor
