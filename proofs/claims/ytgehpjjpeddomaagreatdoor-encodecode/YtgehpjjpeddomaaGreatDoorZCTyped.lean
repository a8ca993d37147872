/- Parts, one behind the other; the last: Typed trees: what reads as data of a plain type is a tree of that type. -/
import Derived.Test.YtgehpjjpeddomaaGreatDoorZEvEntry
import Derived.ProofKit
set_option linter.all false
/- A law: what the evaluator says of a call on trees, as a call in the model, with nothing of the old world written. -/
namespace Go.Proofs.YtgehpjjpeddomaaGreatDoor
open Go Go.Lib Go.RowKit

section
variable {L : Lay} {W : World}

/-- The ghost of a start: all that is there stays. -/
def gh0 (W : World) : Gh := ⟨fun _ => .nilFunc, pmW W⟩

theorem pmW_new {b : Nat} (h : W.heap.size ≤ b) : pmW W b = 0 := by
  unfold pmW
  rw [Array.getElem?_eq_none h]

theorem sr_start (P : Program) (W : World) : SR P (gh0 W) W [] := ⟨fun r x h => by simp at h, fun r r' b h => by simp at h, fun r b h => by simp at h, fun b h => pmW_new h⟩

theorem below_of_stp {P : Program} {g g' : Gh} {W' : World} {H' : List AO} (T : Stp P g W [] g' W' H') : Below W.heap.size W W' :=
  ⟨T.fr.os, T.fr.tape, T.fr.output, T.fr.size, fun k hk => (T.fr.heap k hk fun r hr => by simp at hr).1⟩

theorem vrs_start {P : Program} {xs : List Tr} {vs : Array Value} (h : vs.size = xs.length) (hv : ∀ (i : Nat) (x : Tr) (v : Value), xs[i]? = some x → vs[i]? = some v → VRt (pmW W) W x v) : VRs P (gh0 W) W [] (xs.map .t) vs := by
  refine ⟨by simpa using h, fun i a v ha hvv => ?_⟩
  rw [List.getElem?_map] at ha
  obtain ⟨x, h1, rfl⟩ := Option.map_eq_some_iff.1 ha
  exact .t (hv i x v h1 hvv)

/-- A call on trees whose answer is a plain value. -/
theorem call_plain (hL : LOk L) (hG : GOk L (gh0 W) W []) {f : Nat} {xs : List Tr} {vs : Array Value} {r : Value} {H' : List AO} (hc : callL L f (xs.map .t) [] = some (.t (.v r), H')) (h : vs.size = xs.length)
    (hv : ∀ (i : Nat) (x : Tr) (v : Value), xs[i]? = some x → vs[i]? = some v → VRt (pmW W) W x v) : Calls L.P f vs W fun e W' => e = .returned r ∧ Below W.heap.size W W' :=
  (callL_sound hL f _ [] _ H' hc (gh0 W) W vs (sr_start L.P W) (vrs_start h hv) hG).mono fun e W' he => by
    cases e with
    | returned v =>
      obtain ⟨g', T, hx⟩ := he
      have := vr_v hx
      subst this
      exact ⟨rfl, below_of_stp T⟩
    | panicked => exact he.elim
    | outgrown => exact he.elim

theorem trod_agg {P : Program} {Hd : Type} {enc : TypeId × Value → Hd} {spare : Nat → Bool} {held : Bool} {t : TypeId} {fs : Array Field} (hu : P.underlying t = some (.struct fs)) {fuel : Nat} {cs : List Value} {d : DataW Hd} {ps : List MemPlace}
    (h : DataW.trod enc P W 0 spare held fuel t cs = some (d, ps)) : (toTr d).one = false := by
  cases fuel with
  | zero => cases h
  | succ fuel =>
    unfold DataW.trod at h
    rw [hu] at h
    have h : (if cs.length = P.cellsOf t then (fs.toList.mapM fun f => DataW.trod enc P W 0 spare held fuel f.type ((cs.drop f.offset).take (P.cellsOf f.type))).map fun xs => (DataW.agg (xs.map (·.1)), xs.flatMap (·.2)) else none) = some (d, ps) := by
      cases cs with
      | nil => exact h
      | cons c r => cases r with
        | nil => cases c <;> exact h
        | cons c2 r2 => cases c <;> exact h
    split at h
    · obtain ⟨xs, _, h2⟩ := Option.map_eq_some_iff.1 h
      injection h2 with h2 _
      rw [← h2]; rfl
    · cases h

/-- A value that reads as data of a plain type is its tree. -/
theorem tree_of_trod {P : Program} {S : List TypeId} (hS : tyOk P S = true) {Hd : Type} {enc : TypeId × Value → Hd} {spare : Nat → Bool} {held : Bool} {t : TypeId} {v : Value} {d : DataW Hd} {ps : List MemPlace} (ht : S.contains t = true)
    (hl : v.cells.size = P.cellsOf t) (hf : match v with | .agg _ => (toTr d).one = false | _ => (toTr d).one = true) (h : DataW.Trod enc P W 0 spare held t v d ps) : VRt (pmW W) W (toTr d) v := by
  obtain ⟨fuel, h⟩ := h
  have hc := trod_tr hS fuel t v.cells.toList d ps ht (by simpa using hl) h
  cases v with
  | agg cs =>
    cases hd : toTr d with
    | agg xs =>
      rw [hd] at hc
      exact .of_cells hc
    | v x => rw [hd] at hf; cases hf
    | sl x => rw [hd] at hf; cases hf
  | _ =>
    have h1 : (toTr d).one = true := hf
    rw [tr_cells_one h1] at hc
    exact hc.2.2 0 _ _ rfl rfl
end
end Go.Proofs.YtgehpjjpeddomaaGreatDoor
/- Typed trees: what reads as data of a plain type is a tree of that type. -/
namespace Go.Proofs.YtgehpjjpeddomaaGreatDoor
open Go Go.Lib

def All2 {α β : Type} (R : α → β → Prop) : List α → List β → Prop
  | [], [] => True
  | a :: r, b :: q => R a b ∧ All2 R r q
  | _, _ => False

/-- A tree of a type. -/
def HasT (P : Program) : Nat → TypeId → Tr → Prop
  | 0, _, _ => False
  | n + 1, t, x => match P.underlying t with
    | some .bool => ∃ b, x = .v (.bool b)
    | some (.int k) => ∃ i, x = .v (.int k i) ∧ (Lit.int k i).wf = true
    | some .string => ∃ s : List UInt8, x = .v (.string ⟨s.toArray⟩) ∧ s.length ≤ maxLen
    | some (.slice e) => ∃ xs, x = .sl xs ∧ xs.length ≤ maxLen ∧ ∀ y ∈ xs, HasT P n e y
    | some (.struct fs) => ∃ ys : List Tr, x = .agg (ys.flatMap Tr.cells) ∧ All2 (fun (f : Field) y => HasT P n f.type y) fs.toList ys
    | _ => False

section
variable {Hd : Type} {P : Program}

theorem flat_flatMap (l : List (DataW Hd)) : toTr.flat l = (l.map toTr).flatMap Tr.cells := by
  induction l with
  | nil => rfl
  | cons d r ih => simp [toTr.flat, ih]

theorem rowOk_mem {S : List TypeId} : ∀ {fs : List Field} {k m : Nat}, rowOk P S k fs = some m → ∀ f ∈ fs, S.contains f.type = true
  | [], _, _, _, f, hf => by simp at hf
  | f :: fs, k, m, h, g, hg => by
    unfold rowOk at h
    split at h
    · rename_i hc
      rcases List.mem_cons.1 hg with rfl | hg
      · exact hc.2
      · exact rowOk_mem h g hg
    · cases h

theorem all2_mapM {α β γ : Type} {g : α → Option (β × γ)} {R : α → β → Prop} : ∀ {l : List α} {xs : List (β × γ)}, l.mapM g = some xs → (∀ a ∈ l, ∀ b c, g a = some (b, c) → R a b) → All2 R l (xs.map (·.1))
  | [], xs, h, _ => by injection h with h; subst h; trivial
  | a :: l, xs, h, hR => by
    rw [List.mapM_cons] at h
    cases hg : g a with
    | none => simp [hg] at h
    | some y =>
      cases hm : l.mapM g with
      | none => simp [hg, hm] at h
      | some ys =>
        simp [hg, hm] at h
        subst h
        exact ⟨hR a (by simp) y.1 y.2 hg, all2_mapM hm fun a ha => hR a (by simp [ha])⟩

theorem all2_map {α β γ : Type} {R : α → γ → Prop} {f : β → γ} : ∀ {l : List α} {r : List β}, All2 (fun a b => R a (f b)) l r → All2 R l (r.map f)
  | [], [], _ => trivial
  | a :: l, b :: r, h => ⟨h.1, all2_map h.2⟩

theorem trod_hasT {S : List TypeId} (hS : tyOk P S = true) (hA : ∀ t ∈ S, ∀ n e, P.underlying t ≠ some (.array n e)) {w : World} {enc : TypeId × Value → Hd} {spare : Nat → Bool} {held : Bool} : ∀ (fuel : Nat) (t : TypeId) (cs : List Value) (d : DataW Hd) (ps : List MemPlace),
    S.contains t = true → DataW.trod enc P w 0 spare held fuel t cs = some (d, ps) → HasT P fuel t (toTr d)
  | 0, t, cs, d, ps, _, h => by cases h
  | fuel + 1, t, cs, d, ps, ht, h => by
    have hty : tyOk1 P S t = true := List.all_eq_true.1 hS t (by simpa using ht)
    have ih := trod_hasT hS hA (w := w) (enc := enc) (spare := spare) (held := held) fuel
    unfold tyOk1 at hty
    unfold DataW.trod at h
    unfold HasT
    split at hty
    · rename_i hu
      rw [hu] at h ⊢
      rcases cs with _ | ⟨v, _ | ⟨v2, r⟩⟩ <;> try (cases h)
      cases v with
      | bool b =>
        injection h with h
        injection h with h1 h2
        subst h1
        exact ⟨b, rfl⟩
      | _ => cases h
      · cases v <;> cases h
    · rename_i k hu
      rw [hu] at h ⊢
      rcases cs with _ | ⟨v, _ | ⟨v2, r⟩⟩ <;> try (cases h)
      cases v with
      | int k' n =>
        dsimp only at h
        split at h
        · rename_i hc
          obtain ⟨rfl, hw⟩ := hc
          injection h with h
          injection h with h1 h2
          subst h1
          exact ⟨n, rfl, hw⟩
        · cases h
      | _ => cases h
      · cases v <;> cases h
    · rename_i hu
      rw [hu] at h ⊢
      rcases cs with _ | ⟨v, _ | ⟨v2, r⟩⟩ <;> try (cases h)
      cases v with
      | string st =>
        dsimp only at h
        split at h
        · rename_i hc
          injection h with h
          injection h with h1 h2
          subst h1
          exact ⟨st.data.toList, rfl, by rw [Array.length_toList]; exact hc⟩
        · cases h
      | _ => cases h
      · cases v <;> cases h
    · rename_i e hu
      simp only [Bool.and_eq_true, beq_iff_eq, decide_eq_true_eq] at hty
      obtain ⟨⟨hty1, heS⟩, hpos⟩ := hty
      rw [hu] at h ⊢
      rcases cs with _ | ⟨v, _ | ⟨v2, r⟩⟩ <;> try (cases h)
      cases v with
      | slice A len cap =>
        cases A with
        | none =>
          cases len with
          | succ n => cases h
          | zero =>
            cases cap with
            | succ n => cases h
            | zero =>
              injection h with h
              injection h with h1 h2
              subst h1
              exact ⟨[], rfl, Nat.zero_le _, fun y hy => by simp at hy⟩
        | some a =>
          dsimp only at h
          split at h
          case isFalse => cases h
          rename_i hc
          obtain ⟨elems, h1, h2⟩ := bind_some_iff.1 h
          obtain ⟨rest, h3, h4⟩ := Option.map_eq_some_iff.1 h2
          injection h4 with h4 h5
          subst h4
          have hel : elems.length = len := by have := mapM_some_length h1; simpa using this
          refine ⟨_, rfl, by rw [trs_eq]; simp; omega, fun y hy => ?_⟩
          rw [trs_eq, List.map_map] at hy
          obtain ⟨z, hz, rfl⟩ := List.mem_map.1 hy
          obtain ⟨j, hj⟩ := List.getElem?_of_mem hz
          obtain ⟨j', q1, q2⟩ := mapM_get' h1 hj
          obtain ⟨cj, q3, q4⟩ := bind_some_iff.1 q2
          exact ih e cj z.1 z.2 heS q4
      | _ => cases h
      · cases v with
        | slice A l c =>
          cases A with
          | none => cases l <;> cases c <;> cases h
          | some A => cases h
        | _ => cases h
    · rename_i fs hu
      rw [hu] at h ⊢
      have hrow : rowOk P S 0 fs.toList = some (P.cellsOf t) := by simpa using hty
      have h : (if cs.length = P.cellsOf t then (fs.toList.mapM fun f => DataW.trod enc P w 0 spare held fuel f.type ((cs.drop f.offset).take (P.cellsOf f.type))).map fun xs => (DataW.agg (xs.map (·.1)), xs.flatMap (·.2)) else none) = some (d, ps) := by
        cases cs with
        | nil => exact h
        | cons c r => cases r with
          | nil => cases c <;> exact h
          | cons c2 r2 => cases c <;> exact h
      split at h
      case isFalse => cases h
      obtain ⟨xs, h1, h2⟩ := Option.map_eq_some_iff.1 h
      injection h2 with h2 h3
      subst h2
      refine ⟨(xs.map (·.1)).map toTr, by simp only [toTr, flat_flatMap], ?_⟩
      refine all2_map (f := toTr) (R := fun (f : Field) y => HasT P fuel f.type y) (all2_mapM (R := fun (f : Field) d => HasT P fuel f.type (toTr d)) h1 fun f hf d' ps' hd => ?_)
      exact ih f.type _ d' ps' (rowOk_mem hrow f hf) hd
    · rename_i n e hu
      exact absurd hu (hA t (by simpa using ht) n e)
    · cases hty
end
end Go.Proofs.YtgehpjjpeddomaaGreatDoor
