/- The law EncodeDeep of bodkin: for every input the law returns true, and its arguments read behind the call as before: the row and the tied card. -/
import Derived.Test.YtgehpjjpeddomaaGreatDoorZRBase
import Derived.Test.YtgehpjjpeddomaaGreatDoorZCLawEncodeDeep
import Derived.Test.YtgehpjjpeddomaaGreatDoorCards
set_option linter.all false
namespace Go.Proofs.YtgehpjjpeddomaaGreatDoor
open Go Go.Proofs Go.ChangeShapes Go.WideShapes Go.ChangeAt Go.RowKit
set_option maxRecDepth 100000 in
theorem encodeDeep_lifted (os : Os) (started : os.Started) (H : Type) (enc : TypeId × Value → H) :
    ReturnsInHanded {} Tryz.checked os 6 .any (fun w args => (Rows.encodeDeepSpec.pre enc Tryz.prog Tryz.f6 Rows.encodeDeepRow.domain false w args ∧ laidMetH Tryz.prog Rows.encodeDeepRow.laid w) ∧ sizedMet enc Tryz.prog Tryz.f6 (OpenSpec.ofChange Rows.encodeDeepSpec) false w args)
      (Rows.encodeDeepSpec.post enc Tryz.prog Tryz.f6 false true false false) := by
  refine returnsInHanded_of_change_and (C := Tryz.checked) (X := fun w _ => laidMetH Tryz.prog Rows.encodeDeepRow.laid w) (fun _ _ _ hh h => h.of_heap hh) own started (by kernel_rfl) Tryz.func6
    (ChangeSpec.witness_shaped (enc := enc) (C := Tryz.checked) (os := os) (X := fun w _ => laidMetH Tryz.prog Rows.encodeDeepRow.laid w) false (World.laidAll Tryz.prog os Rows.encodeDeepRow.laid) #[.int .i64 0, .int .i64 0] 8 (World.laidAll_os _ _ _)
      (World.shaped_of_ZipB (by kernel_rfl) (by kernel_rfl)) (by kernel_rfl) (by kernel_rfl) (by kernel_rfl)
      (by rw [MakeChecks.laidMetH_plain _ _ _ (by kernel_rfl)]; exact laidMet_laidAll _ (by kernel_rfl) (by kernel_rfl))) ?_
  intro W base args ds gs before hval0 hW _ _ hL _
  have hval : ∀ (j : Nat) t v, Tryz.f6.params[j]? = some t → args[j]? = some v → Value.okWide Tryz.prog W .any base t v := hval0
  have hW' := hW
  obtain ⟨p, q, hA0, hV, rfl, hfz, hnd⟩ := hW
  have hA : DataW.TrodAll enc Tryz.prog W 0 (fun _ => true) true Tryz.f6.params.toList args.toList ds p := hA0
  rw [Tryz.params6] at hA hval
  generalize hargs : args.toList = al at hA
  obtain ⟨v0, vs0, d0, ds0, p0, q0, rfl, rfl, rfl, h0, r0⟩ := trodAll_cons hA
  obtain ⟨v1, vs1, d1, ds1, p1, q1, rfl, rfl, rfl, h1, r1⟩ := trodAll_cons r0
  obtain ⟨rfl, rfl, rfl⟩ := trodAll_nil r1
  obtain rfl : args = #[v0, v1] := by cases args; simp_all
  obtain ⟨rfl, rfl⟩ := trodVars_none hV
  obtain ⟨n0, rfl, rfl, rfl, w0⟩ := open_int Tryz.underlying3 (hval 0 3 v0 rfl rfl) h0
  have y0 : i64ok n0 := by simpa [Lit.wf, IntKind.min, IntKind.max, IntKind.bits, IntKind.signed] using w0
  obtain ⟨n1, rfl, rfl, rfl, w1⟩ := open_int Tryz.underlying3 (hval 1 3 v1 rfl rfl) h1
  have y1 : i64ok n1 := by simpa [Lit.wf, IntKind.min, IntKind.max, IntKind.bits, IntKind.signed] using w1
  rw [MakeChecks.laidMetH_plain _ _ _ (by kernel_rfl)] at hL
  refine (call_plain (xs := [.v (.int .i64 n0), .v (.int .i64 n1)]) (r := .bool true) (H' := []) (lay_ok glb) (gok hL (by unfold Rows.encodeDeepRow; simp only; simp) (by unfold Rows.encodeDeepRow; simp only; simp)) (law_EncodeDeep n0 n1 y0 y1) (vs := #[_, _]) rfl (fun i x v hi hv => ?_)).mono fun e W' ⟨he, bel⟩ => ?_
  · match i, hi, hv with
    | 0, hi, hv => obtain rfl := Option.some.inj hi; obtain rfl := Option.some.inj hv; exact .v _ rfl
    | 1, hi, hv => obtain rfl := Option.some.inj hi; obtain rfl := Option.some.inj hv; exact .v _ rfl
    | i + 2, hi, hv => cases hi
  · subst he
    exact ⟨_, rfl, _, _, _, [], _, [], hW', trodAll_mk1 (shut_bool Tryz.underlying4 _), (trodAll_cons_mk (shut_int Tryz.underlying3 w0) (trodAll_mk1 (shut_int Tryz.underlying3 w1))), rfl, bel.frame _, fun h => by cases h⟩
theorem encodeDeep_fa : (Rows.encodeDeepRow.inPlace == Tryz.pinned.checked.prog.inPlace 6) = true := by kernel_rfl
theorem encodeDeep_fb : (Rows.encodeDeepRow.unfollowed == Tryz.pinned.checked.prog.unfollowed 6) = true := by kernel_rfl
theorem encodeDeep_fc : (Rows.encodeDeepRow.recurses == Tryz.pinned.checked.prog.recurses 6) = true := by kernel_rfl
theorem encodeDeep_fd : (Rows.encodeDeepRow.named == Tryz.pinned.checked.prog.varsNamed 6) = true := by kernel_rfl
theorem encodeDeep_facts : joinedFacts Tryz.pinned.checked.prog 6 Tryz.f6 Rows.encodeDeepSpec Rows.encodeDeepRow = true := by
  unfold joinedFacts
  rw [encodeDeep_fa, encodeDeep_fb, encodeDeep_fc, encodeDeep_fd]
  kernel_rfl
theorem encodeDeep_row : Rows.EncodeDeepSaid :=
  OpenClaim.holds_of_wide 6 Tryz.f6 rfl rfl rfl rfl rfl rfl rfl ⟨rfl, rfl, rfl, rfl, rfl⟩ rfl rfl rfl rfl rfl (by kernel_rfl) Tryz.func6 encodeDeep_facts
    (of_decide_eq_true (by kernel_rfl)) (by unfold Func.isWrapper; first | (rw [if_pos (by decide +kernel)]; kernel_rfl) | (rw [if_neg (by decide +kernel)]; exact ⟨rfl, rfl⟩))
    (fun os started H enc _ => encodeDeep_lifted os started H enc)
theorem encodeDeep_holds : Rows.EncodeDeepCardSaid :=
  Claim7.holds_tied_plain_at .later [] [.listed, .data, .data] true (true, "ff808c13cf5612c644122b9cc2c403e0268b90809ca53fab8c0a6b86a1df6477") false encodeDeep_row (fun _ h => by cases h) (by kernel_rfl) (fun _ h => by cases h) encodeDeep_row_tie rfl ⟨rfl, rfl⟩ (by kernel_rfl) rfl
    (fun f fn hf hfn => by
      obtain rfl : f = 6 := Option.some.inj ((show Tryz.prog.funcNamed "bodkin/bodkinlaw10.EncodeDeep" = some 6 by kernel_rfl).symm.trans hf) |>.symm
      obtain rfl : fn = Tryz.f6 := (Option.some.inj (Tryz.func6.symm.trans hfn)).symm
      exact ⟨by kernel_rfl, fun j t ht => by
        rw [Tryz.params6] at ht
        have hm : t ∈ [3, 3] := by simpa using Array.mem_of_getElem? ht
        have hall : ([3, 3].all fun u => !Tryz.prog.wantsStandIn u) = true := by kernel_rfl
        exact (show Tryz.prog.wantsStandIn t = false by simpa using List.all_eq_true.1 hall t hm)⟩)
    (by kernel_rfl)
#print axioms encodeDeep_holds
end Go.Proofs.YtgehpjjpeddomaaGreatDoor
