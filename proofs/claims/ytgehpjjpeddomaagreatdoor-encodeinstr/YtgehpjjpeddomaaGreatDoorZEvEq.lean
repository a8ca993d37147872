/- The evaluator without bounds: its meaning as the limit, and the equations by which one reckons with it. -/
import Derived.Test.YtgehpjjpeddomaaGreatDoorZEvComp
set_option linter.all false
namespace Go.Proofs.YtgehpjjpeddomaaGreatDoor
open Go

theorem vFast_sound {a b : Value} (h : vFast a b = true) : a = b := by
  unfold vFast at h
  split at h
  · simpa using h
  · simp only [Bool.and_eq_true, decide_eq_true_eq] at h
    rw [h.1, h.2]
  · rename_i x y
    obtain ⟨⟨x⟩⟩ := x
    obtain ⟨⟨y⟩⟩ := y
    simp only [decide_eq_true_eq] at h
    rw [h]
  · rfl
  · rfl
  · rfl
  · cases h

mutual
theorem trFast_sound : ∀ (a b : Tr), trFast a b = true → a = b
  | .v a, .v b, h => by rw [vFast_sound h]
  | .sl a, .sl b, h => by rw [trsFast_sound a b h]
  | .agg a, .agg b, h => by rw [trsFast_sound a b h]
  | .v _, .sl _, h => by cases h
  | .v _, .agg _, h => by cases h
  | .sl _, .v _, h => by cases h
  | .sl _, .agg _, h => by cases h
  | .agg _, .v _, h => by cases h
  | .agg _, .sl _, h => by cases h
theorem trsFast_sound : ∀ (a b : List Tr), trFast.trsFast a b = true → a = b
  | [], [], h => rfl
  | a :: r, b :: q, h => by
    simp only [trFast.trsFast, Bool.and_eq_true] at h
    rw [trFast_sound a b h.1, trsFast_sound r q h.2]
  | [], _ :: _, h => by cases h
  | _ :: _, [], h => by cases h
end

theorem avFast_sound {a b : AV} (h : avFast a b = true) : a = b := by
  unfold avFast at h
  split at h
  · rw [trFast_sound _ _ h]
  · simp only [Bool.and_eq_true, beq_iff_eq] at h; obtain ⟨⟨rfl, rfl⟩, rfl⟩ := h; rfl
  · simp only [Bool.and_eq_true, beq_iff_eq] at h; obtain ⟨rfl, rfl⟩ := h; rfl
  · simp only [Bool.and_eq_true, beq_iff_eq] at h; obtain ⟨⟨⟨⟨rfl, rfl⟩, rfl⟩, rfl⟩, rfl⟩ := h; rfl
  · rw [trsFast_sound _ _ h]
  · rfl
  · rfl
  · cases h


theorem avsFast_sound : ∀ (a b : List AV), avsFast a b = true → a = b
  | [], [], h => rfl
  | a :: r, b :: q, h => by
    simp only [avsFast, Bool.and_eq_true] at h
    rw [avFast_sound h.1, avsFast_sound r q h.2]
  | [], _ :: _, h => by cases h
  | _ :: _, [], h => by cases h
theorem aoFast_sound {a b : AO} (h : aoFast a b = true) : a = b := by
  unfold aoFast at h
  split at h
  · rw [avsFast_sound _ _ h]
  · simp only [Bool.and_eq_true, beq_iff_eq] at h
    obtain ⟨⟨⟨⟨rfl, rfl⟩, h⟩, rfl⟩, rfl⟩ := h
    rw [trsFast_sound _ _ h]
  · rfl
  · cases h
theorem heapFast_sound : ∀ (a b : List AO), heapFast a b = true → a = b
  | [], [], h => rfl
  | a :: r, b :: q, h => by
    simp only [heapFast, Bool.and_eq_true] at h
    rw [aoFast_sound h.1, heapFast_sound r q h.2]
  | [], _ :: _, h => by cases h
  | _ :: _, [], h => by cases h
theorem resFast_sound {x y : Option (AV × List AO)} (h : resFast x y = true) : x = y := by
  unfold resFast at h
  split at h
  · rename_i a b
    simp only [Bool.and_eq_true] at h
    obtain ⟨a1, a2⟩ := a
    obtain ⟨b1, b2⟩ := b
    rw [show a1 = b1 from avFast_sound h.1, show a2 = b2 from heapFast_sound _ _ h.2]
  · cases h

theorem sel_true {α : Type} (x y : α) : sel true x y = x := rfl
theorem sel_false {α : Type} (x y : α) : sel false x y = y := rfl

/-- What a chain of answers comes to. -/
noncomputable def lim {α : Type} (g : Nat → Option α) : Option α :=
  open Classical in if h : ∃ n x, g n = some x then some (Classical.choose (Classical.choose_spec h)) else none

def Grows {α : Type} (g : Nat → Option α) : Prop := ∀ n x, g n = some x → g (n + 1) = some x

theorem Grows.le {α : Type} {g : Nat → Option α} (h : Grows g) {n m : Nat} {x : α} (hn : g n = some x) (hm : n ≤ m) : g m = some x := by
  induction hm with
  | refl => exact hn
  | step _ ih => exact h _ _ ih

theorem lim_of {α : Type} {g : Nat → Option α} (h : Grows g) {n : Nat} {x : α} (hn : g n = some x) : lim g = some x := by
  have he : ∃ n x, g n = some x := ⟨n, x, hn⟩
  unfold lim
  rw [dif_pos he]
  have hc := Classical.choose_spec (Classical.choose_spec he)
  have a := h.le hn (Nat.le_max_left n (Classical.choose he))
  have b := h.le hc (Nat.le_max_right n (Classical.choose he))
  rw [a] at b
  exact b.symm

theorem lim_some {α : Type} {g : Nat → Option α} {x : α} (h : lim g = some x) : ∃ n, g n = some x := by
  unfold lim at h
  split at h
  · rename_i he
    injection h with h
    subst h
    exact ⟨_, Classical.choose_spec (Classical.choose_spec he)⟩
  · cases h

abbrev Mean := Nat → List AV → List AO → Option (AV × List AO)
def Mean.Le (C C' : Mean) : Prop := ∀ f a h r, C f a h = some r → C' f a h = some r

section
variable (L : Lay)

theorem bind_some_iff {α β : Type} {x : Option α} {f : α → Option β} {r : β} : x.bind f = some r ↔ ∃ a, x = some a ∧ f a = some r := by
  cases x <;> simp

theorem doCall_mono {C C' : Mean} (hC : Mean.Le C C') {f : Nat} {args : List AV} {h : List AO} {r : AV × List AO} (hr : doCall L C f args h = some r) : doCall L C' f args h = some r := by
  unfold doCall at hr ⊢
  cases hf : L.F f with
  | none => simp [hf] at hr
  | some af =>
    simp only [hf] at hr ⊢
    obtain ⟨ids, h1, h2⟩ := bind_some_iff.1 hr
    obtain ⟨p, h3, h4⟩ := bind_some_iff.1 h2
    rw [h1, Option.bind_some, hC _ _ _ _ h3, Option.bind_some]
    exact h4

theorem opC_mono {C C' : Mean} (hC : Mean.Le C C') {ts : List AV} {h : List AO} {o : AOp} {r : AV × List AO} (hr : opC L C ts h o = some r) : opC L C' ts h o = some r := by
  cases o <;> try exact hr
  case call f args => exact doCall_mono L hC hr
  case callv x args =>
    simp only [opC] at hr ⊢
    split at hr
    · exact doCall_mono L hC hr
    · cases hr
  case callq f args =>
    simp only [opC, quiet] at hr ⊢
    obtain ⟨p, h1, h2⟩ := bind_some_iff.1 hr
    rw [doCall_mono L hC h1, Option.bind_some]
    exact h2

theorem altC_mono {C C' : Mean} (hC : Mean.Le C C') {ts : List AV} {o : AOp} {v : AV} : ∀ {l : List (List AO)}, altC L C ts o v l = true → altC L C' ts o v l = true
  | [], _ => rfl
  | h :: r, ha => by
    simp only [altC, Bool.and_eq_true] at ha ⊢
    refine ⟨?_, altC_mono hC ha.2⟩
    have h1 := ha.1
    split at h1
    · rename_i p hp
      rw [opC_mono L hC hp]
      exact h1
    · cases h1

theorem selalt_mono {C C' : Mean} (hC : Mean.Le C C') {g : Bool} {ts : List AV} {o : AOp} {v : AV} {l : List (List AO)} (h : sel g (altC L C ts o v l) true = true) : sel g (altC L C' ts o v l) true = true := by
  cases g with
  | false => rfl
  | true => exact altC_mono L hC h

theorem opsC_mono {C C' : Mean} (hC : Mean.Le C C') : ∀ {ops : List AOr} {s r : St}, opsC L C ops s = some r → opsC L C' ops s = some r
  | [], s, r, h => h
  | o :: ops, s, r, h => by
    simp only [opsC] at h ⊢
    obtain ⟨g, h1, h2⟩ := bind_some_iff.1 h
    obtain ⟨p, h3, h4⟩ := bind_some_iff.1 h2
    rw [h1, Option.bind_some]
    cases g with
    | false =>
      simp only [sel_false] at h3 ⊢
      injection h3 with h3
      subst h3
      exact opsC_mono hC h4
    | true =>
      simp only [sel_true] at h3 ⊢
      rw [opC_mono L hC h3, Option.bind_some]
      exact opsC_mono hC h4

theorem stepg_mono {C C' : Mean} (hC : Mean.Le C C') {g : Bool} {ts : List AV} {h : List AO} {o : AOp} {r : AV × List AO} (hr : sel g (opC L C ts h o) (some (.tup [], h)) = some r) : sel g (opC L C' ts h o) (some (.tup [], h)) = some r := by
  cases g with
  | false => exact hr
  | true => exact opC_mono L hC hr

theorem opsD_mono {C C' : Mean} (hC : Mean.Le C C') : ∀ {ops : List AOr} {dr : List (Nat × Nat)} {past : List (List AO)} {s : St} {r : St × List (List AO)}, opsD L C dr ops past s = some r → opsD L C' dr ops past s = some r
  | [], dr, past, s, r, h => by cases dr <;> exact h
  | o :: ops, dr, past, s, r, h => by
    have e : ∀ C, opsD L C dr (o :: ops) past s = ((guardOf s.t o.grd).bind fun g =>
      (sel g (opC L C s.t s.h o.op) (some (.tup [], s.h))).bind fun p =>
        (opsD L C dr.tail ops (if o.op.kind = 2 then s.h :: past else past) ⟨putO s.t o.dst p.1, p.2⟩).bind fun q =>
          if sel g (altC L C s.t o.op p.1 (past.take (dr.headD (0, 0)).1 ++ q.2.take (dr.headD (0, 0)).2)) true = true then
            some (q.1, if o.op.kind = 2 then p.2 :: q.2 else q.2)
          else none) := fun C => by cases dr <;> rfl
    rw [e] at h ⊢
    obtain ⟨g, h1, h2⟩ := bind_some_iff.1 h
    obtain ⟨p, h3, h4⟩ := bind_some_iff.1 h2
    obtain ⟨q, h5, h6⟩ := bind_some_iff.1 h4
    rw [h1, Option.bind_some, stepg_mono L hC h3, Option.bind_some, opsD_mono hC h5, Option.bind_some]
    split at h6
    · rename_i ha
      rw [if_pos (selalt_mono L hC ha)]
      exact h6
    · cases h6

theorem regC_mono {C C' : Mean} (hC : Mean.Le C C') {dr : List (Nat × Nat)} {ops : List AOr} {s r : St} (h : regC L C dr ops s = some r) : regC L C' dr ops s = some r := by
  cases dr with
  | nil => exact opsC_mono L hC h
  | cons d dr =>
    obtain ⟨q, h1, h2⟩ := Option.map_eq_some_iff.1 h
    exact Option.map_eq_some_iff.2 ⟨q, opsD_mono L hC h1, h2⟩

theorem loopN_mono {b b' : St → Option (Ex × St)} (hb : ∀ s r, b s = some r → b' s = some r) : ∀ {n m : Nat} {s : St} {r : Ex × St}, n ≤ m → loopN b n s = some r → loopN b' m s = some r
  | 0, _, _, _, _, h => by simp [loopN] at h
  | n + 1, 0, _, _, hm, _ => by omega
  | n + 1, m + 1, s, r, hm, h => by
    simp only [loopN] at h ⊢
    obtain ⟨⟨e, s'⟩, h1, h2⟩ := bind_some_iff.1 h
    rw [hb _ _ h1, Option.bind_some]
    cases e with
    | norm => exact loopN_mono hb (by omega) h2
    | exit id => exact h2
    | ret => exact h2

theorem execC_mono {C C' : Mean} (hC : Mean.Le C C') {n m kb : Nat} (hm : n ≤ m) : ∀ {c : AC} {s : St} {r : Ex × St}, execC L C n kb c s = some r → execC L C' m kb c s = some r
  | .skip, _, _, h => h
  | .reg _ ops kl, s, r, h => by
    simp only [execC, Option.map_eq_some_iff] at h ⊢
    obtain ⟨s', h1, h2⟩ := h
    exact ⟨s', regC_mono L hC h1, h2⟩
  | .seq a b, s, r, h => by
    simp only [execC] at h ⊢
    obtain ⟨⟨e, s'⟩, h1, h2⟩ := bind_some_iff.1 h
    rw [execC_mono hC hm h1, Option.bind_some]
    cases e with
    | norm => exact execC_mono hC hm h2
    | exit id => exact h2
    | ret => exact h2
  | .cond c a b, s, r, h => by
    simp only [execC] at h ⊢
    obtain ⟨q, h1, h2⟩ := bind_some_iff.1 h
    rw [h1, Option.bind_some]
    cases q with
    | false => exact execC_mono hC hm h2
    | true => exact execC_mono hC hm h2
  | .block id a, s, r, h => by
    simp only [execC, Option.map_eq_some_iff] at h ⊢
    obtain ⟨s', h1, h2⟩ := h
    exact ⟨s', execC_mono hC hm h1, h2⟩
  | .loop a, s, r, h => by
    simp only [execC] at h ⊢
    exact loopN_mono (fun s r h => execC_mono hC hm h) hm h
  | .exit _, _, _, h => h
  | .ret, _, _, h => h
  | .gc, _, _, h => h

theorem bodyC_mono {C C' : Mean} (hC : Mean.Le C C') {n m : Nat} (hm : n ≤ m) {af : AFun} {args : List AV} {h : List AO} {r : AV × List AO} (hr : bodyC L C n af args h = some r) : bodyC L C' m af args h = some r := by
  unfold bodyC at hr ⊢
  split at hr
  · rename_i hl
    rw [if_pos hl]
    obtain ⟨p, h1, h2⟩ := bind_some_iff.1 hr
    rw [execC_mono L hC hm h1, Option.bind_some]
    exact h2
  · cases hr

theorem both_some {x y : Option (AV × List AO)} {r : AV × List AO} : both x y = some r ↔ x = some r ∧ y = some r := by
  unfold both
  constructor
  · intro h
    split at h
    · rename_i he
      have : x = y := by
        rw [Bool.or_eq_true] at he
        rcases he with he | he
        · exact resFast_sound he
        · exact @of_decide_eq_true _ (Classical.propDecidable _) he
      exact ⟨h, by rw [← this]; exact h⟩
    · cases h
  · rintro ⟨rfl, rfl⟩
    simp

theorem twin_mono {f g : List AV → Option (AV × List AO)} (hfg : ∀ l r, f l = some r → g l = some r) {args : List AV} {r : AV × List AO} (h : twin f args = some r) : twin g args = some r := by
  unfold twin at h ⊢
  split at h
  · obtain ⟨h1, h2⟩ := both_some.1 h
    exact both_some.2 ⟨hfg _ _ h1, hfg _ _ h2⟩
  · exact hfg _ _ h

theorem runF_mono {C C' : Mean} (hC : Mean.Le C C') {n m : Nat} (hm : n ≤ m) {af : AFun} {args : List AV} {h : List AO} {r : AV × List AO} (hr : runF L C n af args h = some r) : runF L C' m af args h = some r := by
  unfold runF at hr ⊢
  split at hr
  · rename_i ht
    rw [if_pos ht]
    exact twin_mono (fun l r h => bodyC_mono L hC hm h) hr
  · rename_i ht
    rw [if_neg ht]
    exact bodyC_mono L hC hm hr

theorem callN_step : ∀ n, Mean.Le (callN L n) (callN L (n + 1))
  | 0, _, _, _, _, h => by simp [callN] at h
  | n + 1, f, args, h, r, hr => by
    unfold callN at hr ⊢
    cases hf : L.F f with
    | none => simp [hf] at hr
    | some af =>
      simp only [hf] at hr ⊢
      exact runF_mono L (callN_step n) (Nat.le_succ n) hr

theorem callN_grows (f : Nat) (args : List AV) (h : List AO) : Grows fun n => callN L n f args h := fun n r hr => callN_step L n f args h r hr

theorem callN_le {n m : Nat} (h : n ≤ m) : Mean.Le (callN L n) (callN L m) := fun f a hp _ hr => (callN_grows L f a hp).le hr h

/-- What a call comes to. -/
noncomputable def callL (f : Nat) (args : List AV) (h : List AO) : Option (AV × List AO) := lim fun n => callN L n f args h

theorem callL_of {n f : Nat} {args : List AV} {h : List AO} {r : AV × List AO} (hr : callN L n f args h = some r) : callL L f args h = some r := lim_of (callN_grows L f args h) hr

theorem callN_callL (n : Nat) : Mean.Le (callN L n) (callL L) := fun _ _ _ _ hr => callL_of L hr

noncomputable def loopL (b : St → Option (Ex × St)) (s : St) : Option (Ex × St) := lim fun n => loopN b n s

theorem loopN_grows (b : St → Option (Ex × St)) (s : St) : Grows fun n => loopN b n s := fun n _ h => loopN_mono (fun _ _ h => h) (Nat.le_succ n) h

theorem loopL_eq (b : St → Option (Ex × St)) (s : St) : loopL b s = (b s).bind fun p => match p.1 with
    | .norm => loopL b p.2
    | e => some (e, p.2) := by
  cases hb : b s with
  | none =>
    simp only [Option.bind_none]
    cases hl : loopL b s with
    | none => rfl
    | some r =>
      obtain ⟨n, hn⟩ := lim_some hl
      cases n with
      | zero => simp [loopN] at hn
      | succ n => simp [loopN, hb] at hn
  | some p =>
    obtain ⟨e, s'⟩ := p
    simp only [Option.bind_some]
    cases e with
    | norm =>
      cases hl : loopL b s' with
      | some r =>
        obtain ⟨n, hn⟩ := lim_some hl
        exact lim_of (loopN_grows b s) (n := n + 1) (by simp [loopN, hb, hn])
      | none =>
        cases hl' : loopL b s with
        | none => rfl
        | some r =>
          obtain ⟨n, hn⟩ := lim_some hl'
          cases n with
          | zero => simp [loopN] at hn
          | succ n =>
            simp only [loopN, hb, Option.bind_some] at hn
            rw [show loopL b s' = some r from lim_of (loopN_grows b s') hn] at hl
            cases hl
    | exit id => exact lim_of (loopN_grows b s) (n := 1) (by simp [loopN, hb])
    | ret => exact lim_of (loopN_grows b s) (n := 1) (by simp [loopN, hb])

noncomputable def execL (kb : Nat) : AC → St → Option (Ex × St)
  | .skip, s => some (.norm, s)
  | .reg dr ops kl, s => (regC L (callL L) dr ops s).map fun s' => (.norm, ⟨kills s'.t kl, s'.h⟩)
  | .seq a b, s => (execL kb a s).bind fun p => match p.1 with
    | .norm => execL kb b p.2
    | e => some (e, p.2)
  | .cond c a b, s => (isB (c.ev L s.t)).bind fun q => sel q (execL kb a s) (execL kb b s)
  | .block id a, s => (execL kb a s).map fun p => match p.1 with
    | .exit j => (if j = id then .norm else .exit j, p.2)
    | e => (e, p.2)
  | .loop a, s => loopL (execL kb a) s
  | .exit id, s => some (.exit id, s)
  | .ret, s => some (.ret, s)
  | .gc, s => some (.norm, ⟨s.t, trim kb s.t s.h⟩)

theorem execC_execL {C : Mean} (hC : Mean.Le C (callL L)) (n : Nat) {kb : Nat} : ∀ {c : AC} {s : St} {r : Ex × St}, execC L C n kb c s = some r → execL L kb c s = some r
  | .skip, _, _, h => h
  | .reg _ ops kl, s, r, h => by
    simp only [execC, execL, Option.map_eq_some_iff] at h ⊢
    obtain ⟨s', h1, h2⟩ := h
    exact ⟨s', regC_mono L hC h1, h2⟩
  | .seq a b, s, r, h => by
    simp only [execC, execL] at h ⊢
    obtain ⟨⟨e, s'⟩, h1, h2⟩ := bind_some_iff.1 h
    rw [execC_execL hC n h1, Option.bind_some]
    cases e with
    | norm => exact execC_execL hC n h2
    | exit id => exact h2
    | ret => exact h2
  | .cond c a b, s, r, h => by
    simp only [execC, execL] at h ⊢
    obtain ⟨q, h1, h2⟩ := bind_some_iff.1 h
    rw [h1, Option.bind_some]
    cases q with
    | false => exact execC_execL hC n h2
    | true => exact execC_execL hC n h2
  | .block id a, s, r, h => by
    simp only [execC, execL, Option.map_eq_some_iff] at h ⊢
    obtain ⟨s', h1, h2⟩ := h
    exact ⟨s', execC_execL hC n h1, h2⟩
  | .loop a, s, r, h => by
    simp only [execC, execL] at h ⊢
    exact lim_of (loopN_grows _ s) (loopN_mono (fun s r h => execC_execL hC n h) (Nat.le_refl n) h)
  | .exit _, _, _, h => h
  | .ret, _, _, h => h
  | .gc, _, _, h => h

theorem opC_cont {ts : List AV} {h : List AO} {o : AOp} {r : AV × List AO} (hr : opC L (callL L) ts h o = some r) : ∃ n, opC L (callN L n) ts h o = some r := by
  have key : ∀ f args r, doCall L (callL L) f args h = some r → ∃ n, doCall L (callN L n) f args h = some r := by
    intro f args r hr
    unfold doCall at hr ⊢
    cases hf : L.F f with
    | none => simp [hf] at hr
    | some af =>
      simp only [hf] at hr ⊢
      obtain ⟨ids, h1, h2⟩ := bind_some_iff.1 hr
      obtain ⟨p, h3, h4⟩ := bind_some_iff.1 h2
      obtain ⟨n, hn⟩ := lim_some h3
      refine ⟨n, ?_⟩
      rw [h1, Option.bind_some]
      show (callN L n f _ _).bind _ = _
      rw [show callN L n f _ _ = some p from hn, Option.bind_some]
      exact h4
  cases o <;> try exact ⟨0, hr⟩
  case call f args => exact key _ _ _ hr
  case callv x args =>
    simp only [opC] at hr ⊢
    split at hr
    · exact key _ _ _ hr
    · cases hr
  case callq f args =>
    simp only [opC, quiet] at hr ⊢
    obtain ⟨p, h1, h2⟩ := bind_some_iff.1 hr
    obtain ⟨n, hn⟩ := key _ _ _ h1
    exact ⟨n, by rw [hn, Option.bind_some]; exact h2⟩

theorem altC_cont {ts : List AV} {o : AOp} {v : AV} : ∀ {l : List (List AO)}, altC L (callL L) ts o v l = true → ∃ n, altC L (callN L n) ts o v l = true
  | [], _ => ⟨0, rfl⟩
  | h :: r, ha => by
    simp only [altC, Bool.and_eq_true] at ha ⊢
    obtain ⟨m, hm⟩ := altC_cont ha.2
    have h1 := ha.1
    split at h1
    · rename_i p hp
      obtain ⟨n, hn⟩ := opC_cont L hp
      refine ⟨max n m, ?_, altC_mono L (callN_le L (Nat.le_max_right n m)) hm⟩
      rw [opC_mono L (callN_le L (Nat.le_max_left n m)) hn]
      exact h1
    · cases h1

theorem opsC_cont : ∀ {ops : List AOr} {s r : St}, opsC L (callL L) ops s = some r → ∃ n, opsC L (callN L n) ops s = some r
  | [], s, r, h => ⟨0, h⟩
  | o :: ops, s, r, h => by
    simp only [opsC] at h
    obtain ⟨g, h1, h2⟩ := bind_some_iff.1 h
    obtain ⟨p, h3, h4⟩ := bind_some_iff.1 h2
    obtain ⟨n, hn⟩ := opsC_cont h4
    cases g with
    | false =>
      refine ⟨n, ?_⟩
      simp only [opsC, h1, Option.bind_some]
      simp only [sel_false] at h3 ⊢
      injection h3 with h3
      subst h3
      exact hn
    | true =>
      simp only [sel_true] at h3
      obtain ⟨m, hm⟩ := opC_cont L h3
      refine ⟨max n m, ?_⟩
      simp only [opsC, h1, Option.bind_some, sel_true]
      rw [opC_mono L (callN_le L (Nat.le_max_right n m)) hm, Option.bind_some]
      exact opsC_mono L (callN_le L (Nat.le_max_left n m)) hn

theorem opsD_cont : ∀ {ops : List AOr} {dr : List (Nat × Nat)} {past : List (List AO)} {s : St} {r : St × List (List AO)}, opsD L (callL L) dr ops past s = some r → ∃ n, opsD L (callN L n) dr ops past s = some r
  | [], dr, past, s, r, h => ⟨0, by cases dr <;> exact h⟩
  | o :: ops, dr, past, s, r, h => by
    have e : ∀ C, opsD L C dr (o :: ops) past s = ((guardOf s.t o.grd).bind fun g =>
      (sel g (opC L C s.t s.h o.op) (some (.tup [], s.h))).bind fun p =>
        (opsD L C dr.tail ops (if o.op.kind = 2 then s.h :: past else past) ⟨putO s.t o.dst p.1, p.2⟩).bind fun q =>
          if sel g (altC L C s.t o.op p.1 (past.take (dr.headD (0, 0)).1 ++ q.2.take (dr.headD (0, 0)).2)) true = true then
            some (q.1, if o.op.kind = 2 then p.2 :: q.2 else q.2)
          else none) := fun C => by cases dr <;> rfl
    rw [e] at h
    obtain ⟨g, h1, h2⟩ := bind_some_iff.1 h
    obtain ⟨p, h3, h4⟩ := bind_some_iff.1 h2
    obtain ⟨q, h5, h6⟩ := bind_some_iff.1 h4
    obtain ⟨n, hn⟩ := opsD_cont h5
    have hs : ∃ m, sel g (opC L (callN L m) s.t s.h o.op) (some (.tup [], s.h)) = some p := by
      cases g with
      | false => exact ⟨0, h3⟩
      | true => exact opC_cont L h3
    obtain ⟨m, hm⟩ := hs
    split at h6
    case isFalse => cases h6
    rename_i hal
    have ha : ∃ k, sel g (altC L (callN L k) s.t o.op p.1 (past.take (dr.headD (0, 0)).1 ++ q.2.take (dr.headD (0, 0)).2)) true = true := by
      cases g with
      | false => exact ⟨0, rfl⟩
      | true => exact altC_cont L hal
    obtain ⟨k, hk⟩ := ha
    refine ⟨max (max n m) k, ?_⟩
    rw [e, h1, Option.bind_some, stepg_mono L (callN_le L (show m ≤ max (max n m) k by omega)) hm, Option.bind_some, opsD_mono L (callN_le L (show n ≤ max (max n m) k by omega)) hn, Option.bind_some, if_pos (selalt_mono L (callN_le L (show k ≤ max (max n m) k by omega)) hk)]
    exact h6

theorem regC_cont {dr : List (Nat × Nat)} {ops : List AOr} {s r : St} (h : regC L (callL L) dr ops s = some r) : ∃ n, regC L (callN L n) dr ops s = some r := by
  cases dr with
  | nil => exact opsC_cont L h
  | cons d dr =>
    obtain ⟨q, h1, h2⟩ := Option.map_eq_some_iff.1 h
    obtain ⟨n, hn⟩ := opsD_cont L h1
    exact ⟨n, Option.map_eq_some_iff.2 ⟨q, hn, h2⟩⟩

theorem loopL_cont {b : Nat → St → Option (Ex × St)} {bL : St → Option (Ex × St)} (hg : ∀ n m s r, n ≤ m → b n s = some r → b m s = some r) (hc : ∀ s r, bL s = some r → ∃ n, b n s = some r) :
    ∀ (k : Nat) (s : St) (r : Ex × St), loopN bL k s = some r → ∃ n, k ≤ n ∧ loopN (b n) n s = some r
  | 0, _, _, h => by simp [loopN] at h
  | k + 1, s, r, h => by
    simp only [loopN] at h
    obtain ⟨⟨e, s'⟩, h1, h2⟩ := bind_some_iff.1 h
    obtain ⟨n, hn⟩ := hc _ _ h1
    cases e with
    | norm =>
      obtain ⟨m, hkm, hm⟩ := loopL_cont hg hc k s' r h2
      refine ⟨max n m + 1, by omega, ?_⟩
      simp only [loopN]
      rw [hg _ _ _ _ (show n ≤ max n m + 1 by omega) hn, Option.bind_some]
      exact loopN_mono (fun s r h => hg _ _ _ _ (show m ≤ max n m + 1 by omega) h) (show m ≤ max n m by omega) hm
    | exit id =>
      refine ⟨max n k + 1, by omega, ?_⟩
      simp only [loopN]
      rw [hg _ _ _ _ (show n ≤ max n k + 1 by omega) hn, Option.bind_some]
      exact h2
    | ret =>
      refine ⟨max n k + 1, by omega, ?_⟩
      simp only [loopN]
      rw [hg _ _ _ _ (show n ≤ max n k + 1 by omega) hn, Option.bind_some]
      exact h2

theorem execL_cont {kb : Nat} : ∀ {c : AC} {s : St} {r : Ex × St}, execL L kb c s = some r → ∃ n, execC L (callN L n) n kb c s = some r
  | .skip, _, _, h => ⟨0, h⟩
  | .reg _ ops kl, s, r, h => by
    simp only [execL, Option.map_eq_some_iff] at h
    obtain ⟨s', h1, h2⟩ := h
    obtain ⟨n, hn⟩ := regC_cont L h1
    exact ⟨n, by simp only [execC, Option.map_eq_some_iff]; exact ⟨s', hn, h2⟩⟩
  | .seq a b, s, r, h => by
    simp only [execL] at h
    obtain ⟨⟨e, s'⟩, h1, h2⟩ := bind_some_iff.1 h
    obtain ⟨n, hn⟩ := execL_cont h1
    cases e with
    | norm =>
      obtain ⟨m, hm⟩ := execL_cont h2
      refine ⟨max n m, ?_⟩
      simp only [execC]
      rw [execC_mono L (callN_le L (Nat.le_max_left n m)) (Nat.le_max_left n m) hn, Option.bind_some]
      exact execC_mono L (callN_le L (Nat.le_max_right n m)) (Nat.le_max_right n m) hm
    | exit id => exact ⟨n, by simp only [execC]; rw [hn, Option.bind_some]; exact h2⟩
    | ret => exact ⟨n, by simp only [execC]; rw [hn, Option.bind_some]; exact h2⟩
  | .cond c a b, s, r, h => by
    simp only [execL] at h
    obtain ⟨q, h1, h2⟩ := bind_some_iff.1 h
    cases q with
    | false =>
      obtain ⟨n, hn⟩ := execL_cont h2
      exact ⟨n, by simp only [execC, h1, Option.bind_some, sel_false]; exact hn⟩
    | true =>
      obtain ⟨n, hn⟩ := execL_cont h2
      exact ⟨n, by simp only [execC, h1, Option.bind_some, sel_true]; exact hn⟩
  | .block id a, s, r, h => by
    simp only [execL, Option.map_eq_some_iff] at h
    obtain ⟨s', h1, h2⟩ := h
    obtain ⟨n, hn⟩ := execL_cont h1
    exact ⟨n, by simp only [execC, Option.map_eq_some_iff]; exact ⟨s', hn, h2⟩⟩
  | .loop a, s, r, h => by
    simp only [execL] at h
    obtain ⟨k, hk⟩ := lim_some h
    obtain ⟨n, _, hn⟩ := loopL_cont (b := fun n s => execC L (callN L n) n kb a s) (fun n m s r hm h => execC_mono L (callN_le L hm) hm h) (fun s r h => execL_cont h) k s r hk
    exact ⟨n, by simp only [execC]; exact hn⟩
  | .exit _, _, _, h => ⟨0, h⟩
  | .ret, _, _, h => ⟨0, h⟩
  | .gc, _, _, h => ⟨0, h⟩

/-- A function's own course, without bounds. -/
noncomputable def bodyL (af : AFun) (args : List AV) (h : List AO) : Option (AV × List AO) :=
  if args.length = af.np then
    (execL L h.length af.body ⟨args ++ List.replicate (af.nt - af.np) .junk, h⟩).bind fun p => match p.1 with
      | .exit _ => none
      | _ => finish af h.length p.2
  else none

theorem bodyL_of {n : Nat} {af : AFun} {args : List AV} {h : List AO} {r : AV × List AO} (hr : bodyC L (callN L n) n af args h = some r) : bodyL L af args h = some r := by
  unfold bodyC at hr
  unfold bodyL
  split at hr
  · rename_i hl
    rw [if_pos hl]
    obtain ⟨p, h1, h2⟩ := bind_some_iff.1 hr
    rw [execC_execL L (callN_callL L n) n h1, Option.bind_some]
    exact h2
  · cases hr

theorem bodyL_cont {af : AFun} {args : List AV} {h : List AO} {r : AV × List AO} (hr : bodyL L af args h = some r) : ∃ n, bodyC L (callN L n) n af args h = some r := by
  unfold bodyL at hr
  split at hr
  · rename_i hl
    obtain ⟨p, h1, h2⟩ := bind_some_iff.1 hr
    obtain ⟨n, hn⟩ := execL_cont L h1
    refine ⟨n, ?_⟩
    unfold bodyC
    rw [if_pos hl, hn, Option.bind_some]
    exact h2
  · cases hr

noncomputable def runL (af : AFun) (args : List AV) (h : List AO) : Option (AV × List AO) :=
  if af.tw = true then twin (fun l => bodyL L af l h) args else bodyL L af args h

theorem runL_cont {af : AFun} {args : List AV} {h : List AO} {r : AV × List AO} (hr : runL L af args h = some r) : ∃ n, runF L (callN L n) n af args h = some r := by
  unfold runL at hr
  unfold runF
  split at hr
  · rename_i ht
    simp only [if_pos ht]
    unfold twin at hr ⊢
    split at hr
    · obtain ⟨h1, h2⟩ := both_some.1 hr
      obtain ⟨n, hn⟩ := bodyL_cont L h1
      obtain ⟨m, hm⟩ := bodyL_cont L h2
      exact ⟨max n m, both_some.2 ⟨bodyC_mono L (callN_le L (Nat.le_max_left n m)) (Nat.le_max_left n m) hn, bodyC_mono L (callN_le L (Nat.le_max_right n m)) (Nat.le_max_right n m) hm⟩⟩
    · exact bodyL_cont L hr
  · rename_i ht
    simp only [if_neg ht]
    exact bodyL_cont L hr

theorem runL_of {n : Nat} {af : AFun} {args : List AV} {h : List AO} {r : AV × List AO} (hr : runF L (callN L n) n af args h = some r) : runL L af args h = some r := by
  unfold runF at hr
  unfold runL
  split at hr
  · rename_i ht
    rw [if_pos ht]
    exact twin_mono (fun l r h => bodyL_of L h) hr
  · rename_i ht
    rw [if_neg ht]
    exact bodyL_of L hr

/-- A call is its course. -/
theorem callL_run {f : Nat} {af : AFun} (hf : L.F f = some af) (args : List AV) (h : List AO) : callL L f args h = runL L af args h := by
  apply Option.ext
  intro r
  constructor
  · intro hr
    obtain ⟨n, hn⟩ := lim_some hr
    cases n with
    | zero => simp [callN] at hn
    | succ n =>
      simp only [callN, hf] at hn
      exact runL_of L hn
  · intro hr
    obtain ⟨n, hn⟩ := runL_cont L hr
    refine callL_of L (n := n + 1) ?_
    simp only [callN, hf]
    exact hn

/-- A call is its body. -/
theorem callL_eq {f : Nat} {af : AFun} (hf : L.F f = some af) (ht : af.tw = false) (args : List AV) (h : List AO) : callL L f args h = if args.length = af.np then
    (execL L h.length af.body ⟨args ++ List.replicate (af.nt - af.np) .junk, h⟩).bind fun p => match p.1 with
      | .exit _ => none
      | _ => finish af h.length p.2
    else none := by
  rw [callL_run L hf, runL, ht]
  rfl
end
end Go.Proofs.YtgehpjjpeddomaaGreatDoor
