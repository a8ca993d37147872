/- The law EncodeInstr of bodkin: for every input the law returns true, and its arguments read behind the call as before: the row and the tied card. -/
import Derived.Test.YtgehpjjpeddomaaGreatDoorZRBase
import Derived.Test.YtgehpjjpeddomaaGreatDoorZCLawEncodeInstr
import Derived.Test.YtgehpjjpeddomaaGreatDoorCards
set_option linter.all false
namespace Go.Proofs.YtgehpjjpeddomaaGreatDoor
open Go Go.Proofs Go.ChangeShapes Go.WideShapes Go.ChangeAt Go.RowKit
set_option maxRecDepth 100000 in
theorem encodeInstr_lifted (os : Os) (started : os.Started) (H : Type) (enc : TypeId × Value → H) :
    ReturnsInHanded {} Tryz.checked os 7 .any (fun w args => (Rows.encodeInstrSpec.pre enc Tryz.prog Tryz.f7 Rows.encodeInstrRow.domain false w args ∧ laidMetH Tryz.prog Rows.encodeInstrRow.laid w) ∧ sizedMet enc Tryz.prog Tryz.f7 (OpenSpec.ofChange Rows.encodeInstrSpec) false w args)
      (Rows.encodeInstrSpec.post enc Tryz.prog Tryz.f7 false true false false) := by
  refine returnsInHanded_of_change_and (C := Tryz.checked) (X := fun w _ => laidMetH Tryz.prog Rows.encodeInstrRow.laid w) (fun _ _ _ hh h => h.of_heap hh) own started (by kernel_rfl) Tryz.func7
    (ChangeSpec.witness_shaped (enc := enc) (C := Tryz.checked) (os := os) (X := fun w _ => laidMetH Tryz.prog Rows.encodeInstrRow.laid w) false (World.laidAll Tryz.prog os Rows.encodeInstrRow.laid) #[.agg #[.int .i64 0, .int .i64 0, .int .i64 0, .int .u64 0, .int .u64 0, .slice none 0 0, .slice none 0 0, .slice none 0 0, .bool false]] 8 (World.laidAll_os _ _ _)
      (World.shaped_of_ZipB (by kernel_rfl) (by kernel_rfl)) (by kernel_rfl) (by kernel_rfl) (by kernel_rfl)
      (by rw [MakeChecks.laidMetH_plain _ _ _ (by kernel_rfl)]; exact laidMet_laidAll _ (by kernel_rfl) (by kernel_rfl))) ?_
  intro W base args ds gs before hval0 hW _ _ hL _
  have hval : ∀ (j : Nat) t v, Tryz.f7.params[j]? = some t → args[j]? = some v → Value.okWide Tryz.prog W .any base t v := hval0
  have hW' := hW
  obtain ⟨p, q, hA0, hV, rfl, hfz, hnd⟩ := hW
  have hA : DataW.TrodAll enc Tryz.prog W 0 (fun _ => true) true Tryz.f7.params.toList args.toList ds p := hA0
  rw [Tryz.params7] at hA hval
  generalize hargs : args.toList = al at hA
  obtain ⟨v0, vs0, d0, ds0, p0, q0, rfl, rfl, rfl, h0, r0⟩ := trodAll_cons hA
  obtain ⟨rfl, rfl, rfl⟩ := trodAll_nil r0
  obtain rfl : args = #[v0] := by cases args; simp_all
  obtain ⟨rfl, rfl⟩ := trodVars_none hV
  have lt0 : ∀ x ∈ p0, x.block < W.heap.size := by obtain ⟨m, hm⟩ := h0; exact DataW.trod_lt m _ _ _ hm
  have x0 := read_agg (H := H) Tryz.underlying47 (by decide) (hval 0 47 v0 rfl rfl) h0
  obtain ⟨n0, hn0⟩ := typed_of (t := 47) (by decide) h0
  obtain ⟨i0, e0, y0⟩ := t_ins hn0
  rw [e0] at x0
  rw [MakeChecks.laidMetH_plain _ _ _ (by kernel_rfl)] at hL
  refine (call_plain (xs := [i0.enc]) (r := .bool true) (H' := []) (lay_ok glb) (gok hL (by unfold Rows.encodeInstrRow; simp only; simp) (by unfold Rows.encodeInstrRow; simp only; simp)) (law_EncodeInstr i0 y0) (vs := #[_]) rfl (fun i x v hi hv => ?_)).mono fun e W' ⟨he, bel⟩ => ?_
  · match i, hi, hv with
    | 0, hi, hv => obtain rfl := Option.some.inj hi; obtain rfl := Option.some.inj hv; exact x0
    | i + 1, hi, hv => cases hi
  · subst he
    exact ⟨_, rfl, _, _, _, [], _, [], hW', trodAll_mk1 (shut_bool Tryz.underlying4 _), (trodAll_mk1 (Below.trod laidOut (by kernel_rfl) (of_decide_eq_true (by kernel_rfl)) h0 bel lt0)), rfl, bel.frame _, fun h => by cases h⟩
theorem encodeInstr_fa : (Rows.encodeInstrRow.inPlace == Tryz.pinned.checked.prog.inPlace 7) = true := by kernel_rfl
theorem encodeInstr_fb : (Rows.encodeInstrRow.unfollowed == Tryz.pinned.checked.prog.unfollowed 7) = true := by kernel_rfl
theorem encodeInstr_fc : (Rows.encodeInstrRow.recurses == Tryz.pinned.checked.prog.recurses 7) = true := by kernel_rfl
theorem encodeInstr_fd : (Rows.encodeInstrRow.named == Tryz.pinned.checked.prog.varsNamed 7) = true := by kernel_rfl
theorem encodeInstr_facts : joinedFacts Tryz.pinned.checked.prog 7 Tryz.f7 Rows.encodeInstrSpec Rows.encodeInstrRow = true := by
  unfold joinedFacts
  rw [encodeInstr_fa, encodeInstr_fb, encodeInstr_fc, encodeInstr_fd]
  kernel_rfl
theorem encodeInstr_row : Rows.EncodeInstrSaid :=
  OpenClaim.holds_of_wide 7 Tryz.f7 rfl rfl rfl rfl rfl rfl rfl ⟨rfl, rfl, rfl, rfl, rfl⟩ rfl rfl rfl rfl rfl (by kernel_rfl) Tryz.func7 encodeInstr_facts
    (of_decide_eq_true (by kernel_rfl)) (by unfold Func.isWrapper; first | (rw [if_pos (by decide +kernel)]; kernel_rfl) | (rw [if_neg (by decide +kernel)]; exact ⟨rfl, rfl⟩))
    (fun os started H enc _ => encodeInstr_lifted os started H enc)
theorem encodeInstr_holds : Rows.EncodeInstrCardSaid :=
  Claim7.holds_tied_plain_at .later [] [.listed, .data, .data] true (true, "ff808c13cf5612c644122b9cc2c403e0268b90809ca53fab8c0a6b86a1df6477") false encodeInstr_row (fun _ h => by cases h) (by kernel_rfl) (fun _ h => by cases h) encodeInstr_row_tie rfl ⟨rfl, rfl⟩ (by kernel_rfl) rfl
    (fun f fn hf hfn => by
      obtain rfl : f = 7 := Option.some.inj ((show Tryz.prog.funcNamed "bodkin/bodkinlaw10.EncodeInstr" = some 7 by kernel_rfl).symm.trans hf) |>.symm
      obtain rfl : fn = Tryz.f7 := (Option.some.inj (Tryz.func7.symm.trans hfn)).symm
      exact ⟨by kernel_rfl, fun j t ht => by
        rw [Tryz.params7] at ht
        have hm : t ∈ [47] := by simpa using Array.mem_of_getElem? ht
        have hall : ([47].all fun u => !Tryz.prog.wantsStandIn u) = true := by kernel_rfl
        exact (show Tryz.prog.wantsStandIn t = false by simpa using List.all_eq_true.1 hall t hm)⟩)
    (by kernel_rfl)
#print axioms encodeInstr_holds
end Go.Proofs.YtgehpjjpeddomaaGreatDoor
