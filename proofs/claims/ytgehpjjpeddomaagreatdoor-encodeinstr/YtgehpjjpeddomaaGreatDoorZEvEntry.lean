/- The entry: how what a value reads as gives its tree. -/
import Derived.Test.YtgehpjjpeddomaaGreatDoorZEvLay
import Derived.DataReads
set_option linter.all false
namespace Go.Proofs.YtgehpjjpeddomaaGreatDoor
open Go Go.Lib

section
variable {Hd : Type}

def toTr : DataW Hd → Tr
  | .lit (.bool b) => .v (.bool b)
  | .lit (.int k n) => .v (.int k n)
  | .lit (.string s) => .v (.string ⟨s.toArray⟩)
  | .lit _ => .v .nilFunc
  | .nil => .sl []
  | .slice elems _ => .sl (trs elems)
  | .agg parts => .agg (flat parts)
  | .ptr _ => .v .nilFunc
  | .iface _ _ => .v .nilFunc
  | .map _ => .v .nilFunc
  | .held _ => .v .nilFunc
where
  trs : List (DataW Hd) → List Tr
    | [] => []
    | d :: r => toTr d :: trs r
  flat : List (DataW Hd) → List Tr
    | [] => []
    | d :: r => (toTr d).cells ++ flat r

/-- Fields lie one behind the other. -/
def rowOk (P : Program) (S : List TypeId) : Nat → List Field → Option Nat
  | k, [] => some k
  | k, f :: r => if f.offset = k ∧ S.contains f.type = true then rowOk P S (k + P.cellsOf f.type) r else none

/-- A closed list of plain types. -/
def tyOk1 (P : Program) (S : List TypeId) (t : TypeId) : Bool :=
  match P.underlying t with
  | some .bool => P.cellsOf t == 1
  | some (.int _) => P.cellsOf t == 1
  | some .string => P.cellsOf t == 1
  | some (.slice e) => P.cellsOf t == 1 && S.contains e && decide (0 < P.cellsOf e)
  | some (.struct fs) => rowOk P S 0 fs.toList == some (P.cellsOf t)
  | some (.array n e) => S.contains e && P.cellsOf t == n * P.cellsOf e
  | _ => false

def tyOk (P : Program) (S : List TypeId) : Bool := S.all (tyOk1 P S)

/-- Cells read as trees. -/
def CellsOk (pm : Nat → Nat) (w : World) (xs : List Tr) (cs : List Value) : Prop :=
  xs.length = cs.length ∧ (∀ x ∈ xs, x.one = true) ∧ ∀ (i : Nat) (x : Tr) (v : Value), xs[i]? = some x → cs[i]? = some v → VRt pm w x v

theorem CellsOk.nil {pm : Nat → Nat} {w : World} : CellsOk pm w [] [] := ⟨rfl, by simp, fun i x v h => by simp at h⟩

theorem CellsOk.append {pm : Nat → Nat} {w : World} {xs ys : List Tr} {cs ds : List Value} (h : CellsOk pm w xs cs) (h' : CellsOk pm w ys ds) : CellsOk pm w (xs ++ ys) (cs ++ ds) := by
  refine ⟨by simp [h.1, h'.1], fun x hx => ?_, fun i x v hx hv => ?_⟩
  · rcases List.mem_append.1 hx with hx | hx
    · exact h.2.1 x hx
    · exact h'.2.1 x hx
  · rcases Nat.lt_or_ge i xs.length with hi | hi
    · rw [List.getElem?_append_left hi] at hx
      rw [List.getElem?_append_left (by rw [← h.1]; exact hi)] at hv
      exact h.2.2 i x v hx hv
    · rw [List.getElem?_append_right hi] at hx
      rw [List.getElem?_append_right (by rw [← h.1]; exact hi), ← h.1] at hv
      exact h'.2.2 _ x v hx hv

theorem CellsOk.one {pm : Nat → Nat} {w : World} {x : Tr} {v : Value} (h1 : x.one = true) (h : VRt pm w x v) : CellsOk pm w x.cells [v] := by
  rw [tr_cells_one h1]
  refine ⟨rfl, fun y hy => by rw [List.mem_singleton.1 hy]; exact h1, fun i y u hy hu => ?_⟩
  cases i with
  | zero => simp at hy hu; subst hy; subst hu; exact h
  | succ i => simp at hy

theorem VRt.of_cells {pm : Nat → Nat} {w : World} {xs : List Tr} {cs : Array Value} (h : CellsOk pm w xs cs.toList) : VRt pm w (.agg xs) (.agg cs) :=
  .agg xs cs (by simpa using h.1.symm) h.2.1 fun i c v hc hv => h.2.2 i c v hc (by simpa using hv)

/-- How far a block reaches. -/
def pmW (w : World) (b : Nat) : Nat := match w.heap[b]? with
  | some (.cells c _ _) => c.size
  | _ => 0

theorem lt_pmW {w : World} {b o : Nat} {v : Value} (h : w.cell? ⟨b, o, none⟩ = some v) : o < pmW w b := by
  unfold World.cell? at h
  unfold pmW
  split at h
  · rename_i c _ _ hh
    have hh : w.heap[b]? = some (.cells c _ _) := hh
    rw [hh]
    simp only [Option.isSome_none, Bool.false_eq_true, if_false] at h
    exact (Array.getElem?_eq_some_iff.1 h).1
  · cases h

theorem trs_eq (l : List (DataW Hd)) : toTr.trs l = l.map toTr := by
  induction l with
  | nil => rfl
  | cons d r ih => simp [toTr.trs, ih]

theorem mapM_get' {α β : Type} {f : α → Option β} {l : List α} {r : List β} (h : l.mapM f = some r) {i : Nat} {y : β} (hy : r[i]? = some y) : ∃ x, l[i]? = some x ∧ f x = some y := by
  have hl := mapM_some_length h
  have hi : i < l.length := by have := lt_of_get hy; omega
  exact ⟨l[i], List.getElem?_eq_getElem hi, by rw [mapM_some_get h i _ (List.getElem?_eq_getElem hi), hy]⟩

theorem trod_fields {P : Program} {S : List TypeId} {w : World} {g : TypeId → List Value → Option (DataW Hd × List MemPlace)} (ih : ∀ t cs d ps, S.contains t = true → cs.length = P.cellsOf t → g t cs = some (d, ps) → CellsOk (pmW w) w (toTr d).cells cs)
    (cs : List Value) : ∀ (fs : List Field) (k m : Nat) (xs : List (DataW Hd × List MemPlace)), rowOk P S k fs = some m → m ≤ cs.length → fs.mapM (fun f => g f.type ((cs.drop f.offset).take (P.cellsOf f.type))) = some xs →
      CellsOk (pmW w) w (toTr.flat (xs.map (·.1))) ((cs.drop k).take (m - k)) ∧ k ≤ m
  | [], k, m, xs, h1, h2, h3 => by
    injection h1 with h1
    subst h1
    injection h3 with h3
    subst h3
    simp only [List.map_nil, toTr.flat, Nat.sub_self, List.take_zero]
    exact ⟨.nil, Nat.le_refl _⟩
  | f :: fs, k, m, xs, h1, h2, h3 => by
    unfold rowOk at h1
    split at h1
    case isFalse => cases h1
    rename_i hc
    obtain ⟨rfl, hS⟩ := hc
    rw [List.mapM_cons] at h3
    cases hg : g f.type ((cs.drop f.offset).take (P.cellsOf f.type)) with
    | none => simp [hg] at h3
    | some y =>
      cases hm : fs.mapM (fun f => g f.type ((cs.drop f.offset).take (P.cellsOf f.type))) with
      | none => simp [hg, hm] at h3
      | some ys =>
        simp [hg, hm] at h3
        subst h3
        obtain ⟨e1, e2⟩ := trod_fields ih cs fs _ m ys h1 h2 hm
        have hlen : ((cs.drop f.offset).take (P.cellsOf f.type)).length = P.cellsOf f.type := by simp; omega
        have e3 := ih f.type _ y.1 y.2 hS hlen hg
        refine ⟨?_, by omega⟩
        have := e3.append e1
        have hcs : (cs.drop f.offset).take (P.cellsOf f.type) ++ (cs.drop (f.offset + P.cellsOf f.type)).take (m - (f.offset + P.cellsOf f.type)) = (cs.drop f.offset).take (m - f.offset) := by
          rw [← List.drop_drop, ← List.take_add]
          congr 1
          omega
        rw [hcs] at this
        exact this

theorem trod_elems {P : Program} {S : List TypeId} {w : World} {g : TypeId → List Value → Option (DataW Hd × List MemPlace)} (ih : ∀ t cs d ps, S.contains t = true → cs.length = P.cellsOf t → g t cs = some (d, ps) → CellsOk (pmW w) w (toTr d).cells cs)
    (cs : List Value) (e : TypeId) (he : S.contains e = true) : ∀ (n k : Nat) (xs : List (DataW Hd × List MemPlace)), (k + n) * P.cellsOf e ≤ cs.length → (List.range' k n).mapM (fun i => g e ((cs.drop (i * P.cellsOf e)).take (P.cellsOf e))) = some xs →
      CellsOk (pmW w) w (toTr.flat (xs.map (·.1))) ((cs.drop (k * P.cellsOf e)).take (n * P.cellsOf e))
  | 0, k, xs, _, h => by
    injection h with h
    subst h
    simp only [List.map_nil, toTr.flat, Nat.zero_mul, List.take_zero]
    exact .nil
  | n + 1, k, xs, hle, h => by
    rw [List.range'_succ, List.mapM_cons] at h
    cases hg : g e ((cs.drop (k * P.cellsOf e)).take (P.cellsOf e)) with
    | none => simp [hg] at h
    | some y =>
      cases hm : (List.range' (k + 1) n).mapM (fun i => g e ((cs.drop (i * P.cellsOf e)).take (P.cellsOf e))) with
      | none => simp [hg, hm] at h
      | some ys =>
        simp [hg, hm] at h
        subst h
        have e1 := trod_elems ih cs e he n (k + 1) ys (by rw [show k + 1 + n = k + (n + 1) by omega]; exact hle) hm
        have hkc : (k + 1) * P.cellsOf e ≤ (k + (n + 1)) * P.cellsOf e := Nat.mul_le_mul_right _ (by omega)
        rw [Nat.add_mul, Nat.one_mul] at hkc
        have hlen : ((cs.drop (k * P.cellsOf e)).take (P.cellsOf e)).length = P.cellsOf e := by simp; omega
        have e3 := ih e _ y.1 y.2 he hlen hg
        have := e3.append e1
        have hcs : (cs.drop (k * P.cellsOf e)).take (P.cellsOf e) ++ (cs.drop ((k + 1) * P.cellsOf e)).take (n * P.cellsOf e) = (cs.drop (k * P.cellsOf e)).take ((n + 1) * P.cellsOf e) := by
          rw [Nat.add_mul k 1, Nat.one_mul, ← List.drop_drop, ← List.take_add]
          congr 1
          rw [Nat.add_mul, Nat.one_mul, Nat.add_comm]
        rw [hcs] at this
        exact this

theorem trod_tr {P : Program} {S : List TypeId} (hS : tyOk P S = true) {w : World} {enc : TypeId × Value → Hd} {spare : Nat → Bool} {held : Bool} : ∀ (fuel : Nat) (t : TypeId) (cs : List Value) (d : DataW Hd) (ps : List MemPlace),
    S.contains t = true → cs.length = P.cellsOf t → DataW.trod enc P w 0 spare held fuel t cs = some (d, ps) → CellsOk (pmW w) w (toTr d).cells cs
  | 0, t, cs, d, ps, _, _, h => by cases h
  | fuel + 1, t, cs, d, ps, ht, hl, h => by
    have hty : tyOk1 P S t = true := List.all_eq_true.1 hS t (by simpa using ht)
    have ih := trod_tr hS (w := w) (enc := enc) (spare := spare) (held := held) fuel
    unfold tyOk1 at hty
    unfold DataW.trod at h
    split at hty
    · rename_i hu
      obtain ⟨v, rfl⟩ := List.length_eq_one_iff.1 (hl.trans (by simpa using hty))
      rw [hu] at h
      cases v with
      | bool b =>
        injection h with h
        injection h with h1 h2
        subst h1
        exact .one rfl (.v _ rfl)
      | _ => cases h
    · rename_i k hu
      obtain ⟨v, rfl⟩ := List.length_eq_one_iff.1 (hl.trans (by simpa using hty))
      rw [hu] at h
      cases v with
      | int k' n =>
        dsimp only at h
        split at h
        · rename_i hc
          obtain ⟨rfl, _⟩ := hc
          injection h with h
          injection h with h1 h2
          subst h1
          exact .one rfl (.v _ rfl)
        · cases h
      | _ => cases h
    · rename_i hu
      obtain ⟨v, rfl⟩ := List.length_eq_one_iff.1 (hl.trans (by simpa using hty))
      rw [hu] at h
      cases v with
      | string st =>
        dsimp only at h
        split at h
        · injection h with h
          injection h with h1 h2
          subst h1
          exact .one rfl (.v _ rfl)
        · cases h
      | _ => cases h
    · rename_i e hu
      simp only [Bool.and_eq_true, beq_iff_eq, decide_eq_true_eq] at hty
      obtain ⟨⟨hty1, heS⟩, hpos⟩ := hty
      obtain ⟨v, rfl⟩ := List.length_eq_one_iff.1 (hl.trans hty1)
      rw [hu] at h
      cases v with
      | slice A len cap =>
        cases A with
        | none =>
          cases len with
          | succ n => cases h
          | zero =>
            cases cap with
            | succ n => cases h
            | zero =>
              injection h with h
              injection h with h1 h2
              subst h1
              exact .one rfl (.sl [] none 0 0 0 (fun _ _ => .nilFunc) rfl (Nat.le_refl _) (by simp) (by simp) (by simp) (by simp))
        | some a =>
          dsimp only at h
          split at h
          case isFalse => cases h
          rename_i hc
          obtain ⟨elems, h1, h2⟩ := bind_some_iff.1 h
          obtain ⟨rest, h3, h4⟩ := Option.map_eq_some_iff.1 h2
          injection h4 with h4 h5
          subst h4
          have hel : elems.length = len := by have := mapM_some_length h1; simpa using this
          have hget : ∀ j y, elems[j]? = some y → ∃ cj, (∀ i, i < P.cellsOf e → w.cell? ((a.add (j * P.cellsOf e)).add i) = cj[i]?) ∧ cj.length = P.cellsOf e ∧ CellsOk (pmW w) w (toTr y.1).cells cj := by
            intro j y hy
            obtain ⟨j', q1, q2⟩ := mapM_get' h1 hy
            have hjl := lt_of_get hy
            have : j' = j := by rw [List.getElem?_range (by omega)] at q1; injection q1 with q1; exact q1.symm
            subst this
            obtain ⟨cj, q3, q4⟩ := bind_some_iff.1 q2
            obtain ⟨_, q5, q6⟩ := World.cells?_some q3
            exact ⟨cj, q6, q5, ih e cj y.1 y.2 heS q5 q4⟩
          have hxs : ∀ (j : Nat) (x : Tr), (toTr.trs (elems.map (·.1)))[j]? = some x → ∃ y, elems[j]? = some y ∧ x = toTr y.1 := by
            intro j x hx
            rw [trs_eq, List.map_map, List.getElem?_map] at hx
            obtain ⟨y, q1, q2⟩ := Option.map_eq_some_iff.1 hx
            exact ⟨y, q1, q2.symm⟩
          have hlen : (toTr.trs (elems.map (·.1))).length = len := by rw [trs_eq]; simpa using hel
          refine .one rfl (.sl _ _ _ _ (P.cellsOf e) (fun j i => (w.cell? ((a.add (j * P.cellsOf e)).add i)).getD .nilFunc) hlen.symm hc.2.1 (fun x hx => ?_) (fun x hx c hcm => ?_) (fun hne => ?_) (fun j x i c hx hcm => ?_))
          · obtain ⟨j, hj⟩ := List.getElem?_of_mem hx
            obtain ⟨y, q1, rfl⟩ := hxs j x hj
            obtain ⟨cj, _, q3, q4⟩ := hget j y q1
            rw [q4.1, q3]
          · obtain ⟨j, hj⟩ := List.getElem?_of_mem hx
            obtain ⟨y, q1, rfl⟩ := hxs j x hj
            obtain ⟨cj, _, q3, q4⟩ := hget j y q1
            exact q4.2.1 c hcm
          · have hspot : ∃ v0, w.cell? a = some v0 := by
              obtain ⟨x, xs, hx⟩ := List.exists_cons_of_ne_nil hne
              obtain ⟨y, q1, _⟩ := hxs 0 x (by rw [hx]; rfl)
              obtain ⟨cj, q2, q3, _⟩ := hget 0 y q1
              have := q2 0 hpos
              rw [Nat.zero_mul] at this
              have ha0 : (a.add 0).add 0 = a := by simp [Addr.add]
              rw [ha0, List.getElem?_eq_getElem (by omega)] at this
              exact ⟨_, this⟩
            obtain ⟨v0, hv0⟩ := hspot
            have hsp := World.cell?_spot hv0
            obtain ⟨bb, oo, sp⟩ := a
            have hsp : sp = none := hsp
            subst hsp
            refine ⟨bb, oo, rfl, fun j i hj hi => ?_⟩
            have hjy : j < elems.length := by omega
            obtain ⟨cj, q2, q3, q4⟩ := hget j _ (List.getElem?_eq_getElem hjy)
            have hcell := q2 i hi
            rw [List.getElem?_eq_getElem (by omega)] at hcell
            have ead : ((⟨bb, oo, none⟩ : Addr).add (j * P.cellsOf e)).add i = ⟨bb, oo + (j * P.cellsOf e + i), none⟩ := by rw [add_none, add_none, Nat.add_assoc]
            rw [ead] at hcell ⊢
            exact ⟨by rw [hcell]; rfl, lt_pmW hcell⟩
          · obtain ⟨y, q1, rfl⟩ := hxs j x hx
            obtain ⟨cj, q2, q3, q4⟩ := hget j y q1
            have hil : i < P.cellsOf e := by have := lt_of_get hcm; rw [q4.1] at this; omega
            have hcv : cj[i]? = some cj[i] := List.getElem?_eq_getElem (by omega)
            rw [q2 i hil, hcv]
            exact q4.2.2 i c _ hcm hcv
      | _ => cases h
    · rename_i fs hu
      rw [hu] at h
      have hrow : rowOk P S 0 fs.toList = some (P.cellsOf t) := by simpa using hty
      have h : (if cs.length = P.cellsOf t then (fs.toList.mapM fun f => DataW.trod enc P w 0 spare held fuel f.type ((cs.drop f.offset).take (P.cellsOf f.type))).map fun xs => (DataW.agg (xs.map (·.1)), xs.flatMap (·.2)) else none) = some (d, ps) := by
        cases cs with
        | nil => exact h
        | cons c r => cases r with
          | nil => cases c <;> exact h
          | cons c2 r2 => cases c <;> exact h
      rw [if_pos hl] at h
      obtain ⟨xs, h1, h2⟩ := Option.map_eq_some_iff.1 h
      injection h2 with h2 h3
      subst h2
      have := (trod_fields (P := P) (S := S) (g := DataW.trod enc P w 0 spare held fuel) (fun t cs d ps => ih t cs d ps) cs fs.toList 0 _ xs hrow (by omega) h1).1
      simp only [List.drop_zero, Nat.sub_zero] at this
      rw [List.take_of_length_le (by omega)] at this
      exact this
    · rename_i n e hu
      rw [hu] at h
      simp only [Bool.and_eq_true, beq_iff_eq] at hty
      obtain ⟨heS, hct⟩ := hty
      have h : (if cs.length = P.cellsOf t then ((List.range n).mapM fun i => DataW.trod enc P w 0 spare held fuel e ((cs.drop (i * P.cellsOf e)).take (P.cellsOf e))).map fun xs => (DataW.agg (xs.map (·.1)), xs.flatMap (·.2)) else none) = some (d, ps) := by
        cases cs with
        | nil => exact h
        | cons c r => cases r with
          | nil => cases c <;> exact h
          | cons c2 r2 => cases c <;> exact h
      rw [if_pos hl] at h
      obtain ⟨xs, h1, h2⟩ := Option.map_eq_some_iff.1 h
      injection h2 with h2 h3
      subst h2
      rw [List.range_eq_range'] at h1
      have := trod_elems (P := P) (S := S) (g := DataW.trod enc P w 0 spare held fuel) (fun t cs d ps => ih t cs d ps) cs e heS n 0 xs (by rw [Nat.zero_add]; omega) h1
      rw [Nat.zero_mul, List.drop_zero, List.take_of_length_le (by omega)] at this
      exact this
    · cases hty

end
end Go.Proofs.YtgehpjjpeddomaaGreatDoor
