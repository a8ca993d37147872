/- Parts, one behind the other; the last: The evaluator is true to the model: arguments as they are taken, results as they are left. -/
import Derived.Test.YtgehpjjpeddomaaGreatDoorZEvComp
import Derived.Test.YtgehpjjpeddomaaGreatDoorZEvEq
import Derived.Below
import Derived.OwnWalk
import Derived.Lib.AppendStr
import Derived.Laws.OwnMore
import Derived.Laws.BytesArg
import Derived.Laws.IdiomStrings
import Derived.Laws.MakeOwn
set_option linter.all false
/- What it means that a value of the model is an abstract value, and that a world holds the local heap; what stays so. -/
namespace Go.Proofs.YtgehpjjpeddomaaGreatDoor
open Go

/-- Where the things lie; how far each block is never written again. -/
structure Gh where
  loc : Nat → Value
  pm : Nat → Nat

def Tr.one : Tr → Bool
  | .agg _ => false
  | _ => true

def AV.one : AV → Bool
  | .t x => x.one
  | .win _ _ _ => true
  | .ptr _ _ => true
  | .ep _ _ _ _ _ => true
  | .ip _ => true
  | .clo _ _ _ => true
  | .nils => true
  | .emp _ => true
  | _ => false

/-- A value reads as a tree, in cells that stay. -/
inductive VRt (pm : Nat → Nat) (w : World) : Tr → Value → Prop
  | v (x : Value) (h1 : x.oneCell' = true) : VRt pm w (.v x) x
  | sl (xs : List Tr) (a : Option Addr) (n cap sz : Nat) (u : Nat → Nat → Value) (hn : n = xs.length) (hc : n ≤ cap)
      (hsz : ∀ x ∈ xs, x.cells.length = sz) (ho : ∀ x ∈ xs, ∀ c ∈ x.cells, c.one = true)
      (ha : xs ≠ [] → ∃ b o, a = some ⟨b, o, none⟩ ∧ ∀ j i, j < xs.length → i < sz → w.cell? ⟨b, o + (j * sz + i), none⟩ = some (u j i) ∧ o + (j * sz + i) < pm b)
      (hv : ∀ (j : Nat) (x : Tr) (i : Nat) (c : Tr), xs[j]? = some x → x.cells[i]? = some c → VRt pm w c (u j i)) : VRt pm w (.sl xs) (.slice a n cap)
  | agg (cs : List Tr) (vs : Array Value) (hl : vs.size = cs.length) (ho : ∀ c ∈ cs, c.one = true)
      (hv : ∀ (i : Nat) (c : Tr) (v : Value), cs[i]? = some c → vs[i]? = some v → VRt pm w c v) : VRt pm w (.agg cs) (.agg vs)

theorem VRt.mono {pm pm' : Nat → Nat} {w w' : World} (hp : ∀ b, pm b ≤ pm' b) (hc : ∀ b o, o < pm b → w'.cell? ⟨b, o, none⟩ = w.cell? ⟨b, o, none⟩)
    {x : Tr} {v : Value} (h : VRt pm w x v) : VRt pm' w' x v := by
  induction h with
  | v x h1 => exact .v x h1
  | sl xs a n cap sz u hn hcap hsz ho ha hv ih =>
    refine .sl xs a n cap sz u hn hcap hsz ho (fun hne => ?_) ih
    obtain ⟨b, o, e, h⟩ := ha hne
    exact ⟨b, o, e, fun j i hj hi => ⟨(hc b _ (h j i hj hi).2).trans (h j i hj hi).1, Nat.lt_of_lt_of_le (h j i hj hi).2 (hp b)⟩⟩
  | agg cs vs hl ho hv ih => exact .agg cs vs hl ho ih

theorem VRt.oneCell {pm : Nat → Nat} {w : World} {x : Tr} {v : Value} (h : VRt pm w x v) (h1 : x.one = true) : v.oneCell' = true := by
  cases h with
  | v x h => exact h
  | sl => rfl
  | agg => simp [Tr.one] at h1

/-- A window at its array: the array's own slice, or an elder one: at the same place, or elsewhere of the same content. -/
def WinAt (pm : Nat → Nat) (w : World) (l : Value) (xs : List Tr) (n : Nat) (v : Value) : Prop :=
  (n = xs.length ∧ v = l) ∨ (n < xs.length ∧ ((∃ A len cap cap', l = .slice A len cap ∧ v = .slice A n cap' ∧ n ≤ cap') ∨ VRt pm w (.sl (xs.take n)) v))

/-- A slice of that length. -/
def IsSl (n : Nat) (v : Value) : Prop := ∃ A c, v = .slice A n c ∧ (0 < n → A ≠ none)

inductive VR (P : Program) (g : Gh) (w : World) (H : List AO) : AV → Value → Prop
  | t {x : Tr} {v : Value} (h : VRt g.pm w x v) : VR P g w H (.t x) v
  | win {r ver n : Nat} {v : Value} (h1 : IsSl n v) (e v0 : Nat) (xs : List Tr) (m d : Nat) (hH : H[r]? = some (.arr e v0 xs m d)) (hv : ver ≤ v0)
      (h : ver = v0 → n ≤ xs.length ∧ (d ≤ n → WinAt g.pm w (g.loc r) xs n v)) : VR P g w H (.win r ver n) v
  | ptr {r off : Nat} (cs : List AV) (b : Nat) (hH : H[r]? = some (.box cs)) (hl : g.loc r = .pointer (some ⟨b, 0, none⟩)) : VR P g w H (.ptr r off) (.pointer (some ⟨b, off, none⟩))
  | it {r off : Nat} (s : ByteArray) (pos b : Nat) (hH : H[r]? = some (.iter s pos)) (hl : g.loc r = .pointer (some ⟨b, 0, none⟩)) : VR P g w H (.ptr r off) (.pointer (some ⟨b, off, none⟩))
  | ep {r ver n k off : Nat} {v : Value} (h1 : ∃ b o, v = .pointer (some ⟨b, o, none⟩)) (e v0 : Nat) (xs : List Tr) (m d : Nat) (hH : H[r]? = some (.arr e v0 xs m d)) (hv : ver ≤ v0)
      (h : ver = v0 → n ≤ xs.length ∧ (n = xs.length → ∃ b cap, g.loc r = .slice (some ⟨b, 0, none⟩) n cap ∧ v = .pointer (some ⟨b, k * P.cellsOf e + off, none⟩))) : VR P g w H (.ep r ver n k off) v
  | ip {cs : List Tr} (b o : Nat) (u : Nat → Value) (hc : ∀ i, i < cs.length → w.cell? ⟨b, o + i, none⟩ = some (u i) ∧ o + i < g.pm b) (ho : ∀ c ∈ cs, c.one = true)
      (hv : ∀ (i : Nat) (c : Tr), cs[i]? = some c → VRt g.pm w c (u i)) : VR P g w H (.ip cs) (.pointer (some ⟨b, o, none⟩))
  | clo {f : Nat} {as bs : List AV} (vs us : Array Value) (h1 : vs.size = as.length) (h2 : us.size = bs.length) (h3 : ∀ (i : Nat) (a : AV) (v : Value), as[i]? = some a → vs[i]? = some v → VR P g w H a v)
      (h4 : ∀ (i : Nat) (a : AV) (v : Value), bs[i]? = some a → us[i]? = some v → VR P g w H a v) : VR P g w H (.clo f as bs) (.func (.func f) vs us)
  | mix {cs : List AV} (vs : Array Value) (h1 : vs.size = cs.length) (ho : ∀ c ∈ cs, c.one = true) (h2 : ∀ (i : Nat) (a : AV) (v : Value), cs[i]? = some a → vs[i]? = some v → VR P g w H a v) : VR P g w H (.mix cs) (.agg vs)
  | tup {xs : List AV} (vs : Array Value) (h1 : vs.size = xs.length) (h2 : ∀ (i : Nat) (a : AV) (v : Value), xs[i]? = some a → vs[i]? = some v → VR P g w H a v) : VR P g w H (.tup xs) (.tuple vs)
  | nils : VR P g w H .nils (.slice none 0 0)
  | emp (nl : Bool) (A : Option Addr) (c : Nat) (h : A.isNone = nl) : VR P g w H (.emp nl) (.slice A 0 c)
  | junk (v : Value) : VR P g w H .junk v

theorem VR.oneCell {P : Program} {g : Gh} {w : World} {H : List AO} {a : AV} {v : Value} (h : VR P g w H a v) (h1 : a.one = true) : v.oneCell' = true := by
  cases h with
  | t h => exact h.oneCell h1
  | win h1 => obtain ⟨_, _, rfl, _⟩ := h1; rfl
  | ep h1 => obtain ⟨_, _, rfl⟩ := h1; rfl
  | ptr => rfl
  | it => rfl
  | ip => rfl
  | nils => rfl
  | emp => rfl
  | clo => rfl
  | mix => simp [AV.one] at h1
  | tup => simp [AV.one] at h1
  | junk => simp [AV.one] at h1

def blk : Value → Option Nat
  | .pointer (some a) => some a.block
  | .slice (some a) _ _ => some a.block
  | _ => none

/-- A thing of the local heap lies in the world. -/
def Ok1 (P : Program) (g : Gh) (w : World) (H : List AO) (r : Nat) : AO → Prop
  | .box cs => ∃ b vs e, g.loc r = .pointer (some ⟨b, 0, none⟩) ∧ w.heap[b]? = some (.cells vs e (0, 0)) ∧ vs.size = cs.length ∧ (∀ c ∈ cs, c.one = true) ∧
    (∀ (i : Nat) (a : AV) (v : Value), cs[i]? = some a → vs[i]? = some v → VR P g w H a v) ∧ g.pm b = 0
  | .arr e _ xs m d => ∃ i z cells, P.info? e = some i ∧ i.zero = some z ∧ z.cells.size = i.size ∧ 0 < i.size ∧ w.ownsRow 0 e i.size (g.loc r) xs.length cells ∧
    (∀ x ∈ xs, x.cells.length = i.size) ∧ (∀ x ∈ xs, ∀ c ∈ x.cells, c.one = true) ∧
    (∀ (j : Nat) (x : Tr) (k : Nat) (c : Tr), xs[j]? = some x → x.cells[k]? = some c → ∃ u, cells[j * i.size + k]? = some u ∧ VRt g.pm w c u) ∧ m ≤ xs.length ∧ d ≤ xs.length ∧
    (∀ b, blk (g.loc r) = some b → g.pm b ≤ m * i.size)
  | .iter s pos => ∃ b, g.loc r = .pointer (some ⟨b, 0, none⟩) ∧ w.heap[b]? = some (.stringIter s pos) ∧ g.pm b = 0
  | .dead => False

/-- The world holds the local heap. -/
structure SR (P : Program) (g : Gh) (w : World) (H : List AO) : Prop where
  ok : ∀ (r : Nat) (x : AO), H[r]? = some x → Ok1 P g w H r x
  disj : ∀ r r' b, r < H.length → r' < H.length → blk (g.loc r) = some b → blk (g.loc r') = some b → r = r'
  lt : ∀ r b, r < H.length → blk (g.loc r) = some b → b < w.heap.size
  new : ∀ b, w.heap.size ≤ b → g.pm b = 0

/-- What was so stays so. -/
structure Ext (P : Program) (g : Gh) (w : World) (H : List AO) (g' : Gh) (w' : World) (H' : List AO) : Prop where
  pm : ∀ b, g.pm b ≤ g'.pm b
  cell : ∀ b o, o < g.pm b → w'.cell? ⟨b, o, none⟩ = w.cell? ⟨b, o, none⟩
  len : H.length ≤ H'.length
  box : ∀ (r : Nat) (cs : List AV), H[r]? = some (.box cs) → (∃ cs', H'[r]? = some (.box cs')) ∧ g'.loc r = g.loc r
  iter : ∀ (r : Nat) (s : ByteArray) (p : Nat), H[r]? = some (.iter s p) → (∃ p', H'[r]? = some (.iter s p')) ∧ g'.loc r = g.loc r
  arr : ∀ (r e ver : Nat) (xs : List Tr) (m d : Nat), H[r]? = some (.arr e ver xs m d) → ∃ ver' xs' m' d', H'[r]? = some (.arr e ver' xs' m' d') ∧ ver ≤ ver' ∧
    (ver' = ver → xs.length ≤ xs'.length ∧ d ≤ d' ∧ (xs'.length = xs.length → g'.loc r = g.loc r) ∧
      ∀ n v, d' ≤ n → n ≤ xs.length → WinAt g.pm w (g.loc r) xs n v → WinAt g'.pm w' (g'.loc r) xs' n v)

section
variable {P : Program} {g g' g2 : Gh} {w w' w2 : World} {H H' H2 : List AO}

theorem WinAt.mono {pm pm' : Nat → Nat} {l : Value} {xs : List Tr} {n : Nat} {v : Value} (hp : ∀ b, pm b ≤ pm' b) (hc : ∀ b o, o < pm b → w'.cell? ⟨b, o, none⟩ = w.cell? ⟨b, o, none⟩)
    (h : WinAt pm w l xs n v) : WinAt pm' w' l xs n v := by
  rcases h with h | ⟨h1, h2⟩
  · exact .inl h
  · exact .inr ⟨h1, h2.imp id fun h => h.mono hp hc⟩

theorem VR.ext (E : Ext P g w H g' w' H') {a : AV} {v : Value} (h : VR P g w H a v) : VR P g' w' H' a v := by
  induction h with
  | t h => exact .t (h.mono E.pm E.cell)
  | win h1 e v0 xs m d hH hv h =>
    obtain ⟨ver', xs', m', d', hH', hle, hw⟩ := E.arr _ _ _ _ _ _ hH
    refine .win h1 e ver' xs' m' d' hH' (Nat.le_trans hv hle) fun he => ?_
    have e1 : ver' = v0 := by omega
    obtain ⟨h2, h3, _, h4⟩ := hw e1
    obtain ⟨h5, h6⟩ := h (by omega)
    exact ⟨by omega, fun hd => h4 _ _ hd h5 (h6 (by omega))⟩
  | ptr cs b hH hl =>
    obtain ⟨⟨cs', h1⟩, h2⟩ := E.box _ _ hH
    exact .ptr cs' b h1 (h2.trans hl)
  | it s pos b hH hl =>
    obtain ⟨⟨p', h1⟩, h2⟩ := E.iter _ _ _ hH
    exact .it s p' b h1 (h2.trans hl)
  | ep h1 e v0 xs m d hH hv h =>
    obtain ⟨ver', xs', m', d', hH', hle, hw⟩ := E.arr _ _ _ _ _ _ hH
    refine .ep h1 e ver' xs' m' d' hH' (Nat.le_trans hv hle) fun he => ?_
    have e1 : ver' = v0 := by omega
    obtain ⟨h2, h3, h7, _⟩ := hw e1
    obtain ⟨h5, h6⟩ := h (by omega)
    refine ⟨by omega, fun hd => ?_⟩
    obtain ⟨b, cap, h8, h9⟩ := h6 (by omega)
    exact ⟨b, cap, (h7 (by omega)).trans h8, h9⟩
  | ip b o u hc ho hv =>
    exact .ip b o u (fun i hi => ⟨(E.cell _ _ (hc i hi).2).trans (hc i hi).1, Nat.lt_of_lt_of_le (hc i hi).2 (E.pm b)⟩) ho (fun i c hi => (hv i c hi).mono E.pm E.cell)
  | clo vs us h1 h2 _ _ ih1 ih2 => exact .clo vs us h1 h2 ih1 ih2
  | mix vs h1 ho _ ih => exact .mix vs h1 ho ih
  | tup vs h1 _ ih => exact .tup vs h1 ih
  | nils => exact .nils
  | emp nl A c h => exact .emp nl A c h
  | junk v => exact .junk v

theorem Ext.refl (P : Program) (g : Gh) (w : World) (H : List AO) : Ext P g w H g w H :=
  ⟨fun _ => Nat.le_refl _, fun _ _ _ => rfl, Nat.le_refl _, fun _ cs h => ⟨⟨cs, h⟩, rfl⟩, fun _ _ p h => ⟨⟨p, h⟩, rfl⟩,
    fun _ _ ver xs m d h => ⟨ver, xs, m, d, h, Nat.le_refl _, fun _ => ⟨Nat.le_refl _, Nat.le_refl _, fun _ => rfl, fun _ _ _ _ hw => hw⟩⟩⟩

theorem Ext.trans (A : Ext P g w H g' w' H') (B : Ext P g' w' H' g2 w2 H2) : Ext P g w H g2 w2 H2 where
  pm b := Nat.le_trans (A.pm b) (B.pm b)
  cell b o h := (B.cell b o (Nat.lt_of_lt_of_le h (A.pm b))).trans (A.cell b o h)
  len := Nat.le_trans A.len B.len
  box r cs h := by
    obtain ⟨⟨cs', h1⟩, h2⟩ := A.box r cs h
    obtain ⟨h3, h4⟩ := B.box r cs' h1
    exact ⟨h3, h4.trans h2⟩
  iter r s p h := by
    obtain ⟨⟨cs', h1⟩, h2⟩ := A.iter r s p h
    obtain ⟨h3, h4⟩ := B.iter r s cs' h1
    exact ⟨h3, h4.trans h2⟩
  arr r e ver xs m d h := by
    obtain ⟨v1, x1, m1, d1, h1, l1, k1⟩ := A.arr r e ver xs m d h
    obtain ⟨v2, x2, m2, d2, h2, l2, k2⟩ := B.arr r e v1 x1 m1 d1 h1
    refine ⟨v2, x2, m2, d2, h2, Nat.le_trans l1 l2, fun he => ?_⟩
    obtain ⟨a1, a2, a3, a4⟩ := k1 (by omega)
    obtain ⟨b1, b2, b3, b4⟩ := k2 (by omega)
    exact ⟨by omega, by omega, fun hl => (b3 (by omega)).trans (a3 (by omega)), fun n v hd hn hw => b4 n v hd (by omega) (a4 n v (by omega) hn hw)⟩

/-- What is written is the heap's, or new. -/
structure Fr (g : Gh) (w : World) (H : List AO) (g' : Gh) (w' : World) (H' : List AO) : Prop where
  os : w'.os = w.os
  tape : w'.tape = w.tape
  output : w'.output = w.output
  size : w.heap.size ≤ w'.heap.size
  heap : ∀ b, b < w.heap.size → (∀ r, r < H.length → blk (g.loc r) ≠ some b) → w'.heap[b]? = w.heap[b]? ∧ g'.pm b = g.pm b
  own : ∀ r b, r < H'.length → blk (g'.loc r) = some b → w.heap.size ≤ b ∨ ∃ r0, r0 < H.length ∧ blk (g.loc r0) = some b

theorem Fr.refl (g : Gh) (w : World) (H : List AO) : Fr g w H g w H := ⟨rfl, rfl, rfl, Nat.le_refl _, fun _ _ _ => ⟨rfl, rfl⟩, fun r b hr hb => .inr ⟨r, hr, hb⟩⟩

theorem Fr.trans (A : Fr g w H g' w' H') (B : Fr g' w' H' g2 w2 H2) : Fr g w H g2 w2 H2 where
  os := B.os.trans A.os
  tape := B.tape.trans A.tape
  output := B.output.trans A.output
  size := Nat.le_trans A.size B.size
  heap b hb hn := by
    have h := A.heap b hb hn
    have h2 := B.heap b (Nat.lt_of_lt_of_le hb A.size) (fun r hr he => by
      rcases A.own r b hr he with h | ⟨r0, h0, h1⟩
      · omega
      · exact hn r0 h0 h1)
    exact ⟨h2.1.trans h.1, h2.2.trans h.2⟩
  own r b hr hb := by
    rcases B.own r b hr hb with h | ⟨r0, h0, h1⟩
    · exact .inl (Nat.le_trans A.size h)
    · exact A.own r0 b h0 h1

/-- One step: the new state holds the new heap, what was so stays so, nothing else is written. -/
structure Stp (P : Program) (g : Gh) (w : World) (H : List AO) (g' : Gh) (w' : World) (H' : List AO) : Prop where
  sr : SR P g' w' H'
  ext : Ext P g w H g' w' H'
  fr : Fr g w H g' w' H'

theorem Stp.refl (S : SR P g w H) : Stp P g w H g w H := ⟨S, .refl P g w H, .refl g w H⟩
theorem Stp.trans (A : Stp P g w H g' w' H') (B : Stp P g' w' H' g2 w2 H2) : Stp P g w H g2 w2 H2 := ⟨B.sr, A.ext.trans B.ext, A.fr.trans B.fr⟩

theorem ownsRow_of_block {w w' : World} {base e size n : Nat} {v : Value} {xs : List Value} (h : w.ownsRow base e size v n xs) (hb : ∀ b, blk v = some b → w'.heap[b]? = w.heap[b]?) : w'.ownsRow base e size v n xs := by
  refine ⟨h.1, ?_⟩
  rcases h.2 with hn | ⟨g, cap, cur, rfl, h1, h2, h3⟩
  · exact .inl hn
  · exact .inr ⟨g, cap, cur, rfl, h1, (hb g rfl).trans h2, h3⟩

/-- A thing that lies where it lay, in a block that has not turned. -/
theorem Ok1.move (E : Ext P g w H g' w' H') {r : Nat} {x : AO} (hl : g'.loc r = g.loc r) (hb : ∀ b, blk (g.loc r) = some b → w'.heap[b]? = w.heap[b]? ∧ g'.pm b = g.pm b)
    (h : Ok1 P g w H r x) : Ok1 P g' w' H' r x := by
  cases x with
  | box cs =>
    obtain ⟨b, vs, e, h1, h2, h3, h4, h5, h6⟩ := h
    have hk := hb b (by rw [h1]; rfl)
    exact ⟨b, vs, e, hl.trans h1, hk.1.trans h2, h3, h4, fun i a v ha hv => (h5 i a v ha hv).ext E, hk.2.trans h6⟩
  | arr e ver xs m d =>
    obtain ⟨i, z, cells, h1, h2, h3, h4, h5, h6, h7, h8, h9, h10, h11⟩ := h
    refine ⟨i, z, cells, h1, h2, h3, h4, ?_, h6, h7, fun j x k c hx hc => ?_, h9, h10, fun b hbl => ?_⟩
    · rw [hl]; exact ownsRow_of_block h5 fun b hbl => (hb b hbl).1
    · obtain ⟨u, hu, hv⟩ := h8 j x k c hx hc
      exact ⟨u, hu, hv.mono E.pm E.cell⟩
    · rw [hl] at hbl
      rw [(hb b hbl).2]
      exact h11 b hbl
  | iter s pos =>
    obtain ⟨b, h1, h2, h3⟩ := h
    have hk := hb b (by rw [h1]; rfl)
    exact ⟨b, hl.trans h1, hk.1.trans h2, hk.2.trans h3⟩
  | dead => exact h

theorem SR.step (S : SR P g w H) (E : Ext P g w H g' w' H')
    (hk : ∀ (r : Nat) (x : AO), H'[r]? = some x → (H[r]? = some x ∧ g'.loc r = g.loc r ∧ ∀ b, blk (g.loc r) = some b → w'.heap[b]? = w.heap[b]? ∧ g'.pm b = g.pm b) ∨ Ok1 P g' w' H' r x)
    (hd : ∀ r r' b, r < H'.length → r' < H'.length → blk (g'.loc r) = some b → blk (g'.loc r') = some b → r = r')
    (hl : ∀ r b, r < H'.length → blk (g'.loc r) = some b → b < w'.heap.size) (hn : ∀ b, w'.heap.size ≤ b → g'.pm b = 0) : SR P g' w' H' where
  ok r x hx := by
    rcases hk r x hx with ⟨h1, h2, h3⟩ | h
    · exact (S.ok r x h1).move E h2 h3
    · exact h
  disj := hd
  lt := hl
  new := hn

/-- Lists of values. -/
def VRs (P : Program) (g : Gh) (w : World) (H : List AO) (as : List AV) (vs : Array Value) : Prop :=
  vs.size = as.length ∧ ∀ (i : Nat) (a : AV) (v : Value), as[i]? = some a → vs[i]? = some v → VR P g w H a v

theorem VRs.ext (E : Ext P g w H g' w' H') {as : List AV} {vs : Array Value} (h : VRs P g w H as vs) : VRs P g' w' H' as vs := ⟨h.1, fun i a v ha hv => (h.2 i a v ha hv).ext E⟩
end
end Go.Proofs.YtgehpjjpeddomaaGreatDoor
/- The evaluator is true to the model: what each change of the local heap does in the world. -/
namespace Go.Proofs.YtgehpjjpeddomaaGreatDoor
open Go

def Gh.put (g : Gh) (r : Nat) (v : Value) : Gh := ⟨fun i => if i = r then v else g.loc i, g.pm⟩
def Gh.raise (g : Gh) (b n : Nat) : Gh := ⟨g.loc, fun i => if i = b then max (g.pm b) n else g.pm i⟩
@[simp] theorem Gh.put_pm (g : Gh) (r : Nat) (v : Value) : (g.put r v).pm = g.pm := rfl
@[simp] theorem Gh.put_same (g : Gh) (r : Nat) (v : Value) : (g.put r v).loc r = v := by simp [Gh.put]
theorem Gh.put_other (g : Gh) {r i : Nat} (v : Value) (h : i ≠ r) : (g.put r v).loc i = g.loc i := by simp [Gh.put, h]

theorem heap_alloc_old' (w : World) (o : Obj) (b : Nat) (h : b < w.heap.size) : (w.alloc o).heap[b]? = w.heap[b]? := heap_alloc_old w o b h
theorem cell_of_heap {w w' : World} {b : Nat} (h : w'.heap[b]? = w.heap[b]?) (o : Nat) : w'.cell? ⟨b, o, none⟩ = w.cell? ⟨b, o, none⟩ := by simp [World.cell?, h]

section
variable {P : Program} {g : Gh} {w : World} {H : List AO}

theorem getElem?_append_lt {α : Type} {l m : List α} {i : Nat} (h : i < l.length) : (l ++ m)[i]? = l[i]? := List.getElem?_append_left h
theorem lt_of_get {α : Type} {l : List α} {i : Nat} {x : α} (h : l[i]? = some x) : i < l.length := (List.getElem?_eq_some_iff.1 h).1

theorem ext_alloc (S : SR P g w H) (o : Obj) (x : AO) (v : Value) : Ext P g w H (g.put H.length v) (w.alloc o) (H ++ [x]) where
  pm b := Nat.le_refl _
  cell b i h := cell_of_heap (heap_alloc_old w o b (by
    rcases Nat.lt_or_ge b w.heap.size with h1 | h1
    · exact h1
    · rw [S.new b h1] at h; omega)) i
  len := by simp
  box r cs h := ⟨⟨cs, (getElem?_append_lt (lt_of_get h)).trans h⟩, g.put_other v (Nat.ne_of_lt (lt_of_get h))⟩
  iter r s p h := ⟨⟨p, (getElem?_append_lt (lt_of_get h)).trans h⟩, g.put_other v (Nat.ne_of_lt (lt_of_get h))⟩
  arr r e ver xs m d h := by
    have hl := g.put_other v (Nat.ne_of_lt (lt_of_get h))
    refine ⟨ver, xs, m, d, (getElem?_append_lt (lt_of_get h)).trans h, Nat.le_refl _, fun _ => ⟨Nat.le_refl _, Nat.le_refl _, fun _ => hl, fun n u _ _ hw => ?_⟩⟩
    rw [hl]
    refine hw.mono (fun _ => Nat.le_refl _) fun b i h => cell_of_heap (heap_alloc_old w o b ?_) i
    have h' : i < g.pm b := h
    rcases Nat.lt_or_ge b w.heap.size with h3 | h3
    · exact h3
    · rw [S.new b h3] at h'; omega

theorem stp_alloc (S : SR P g w H) (o : Obj) (x : AO) (v : Value) (hv : ∀ b, blk v = some b → b = w.heap.size)
    (hx : Ok1 P (g.put H.length v) (w.alloc o) (H ++ [x]) H.length x) : Stp P g w H (g.put H.length v) (w.alloc o) (H ++ [x]) := by
  have E := ext_alloc S o x v
  refine ⟨S.step E (fun r y hy => ?_) (fun r r' b hr hr' hb hb' => ?_) (fun r b hr hb => ?_) (fun b hb => S.new b (by simp at hb; omega)), E, rfl, rfl, rfl, by simp, fun b hb _ => ⟨heap_alloc_old w o b hb, rfl⟩, fun r b hr hb => ?_⟩
  · rcases Nat.lt_or_ge r H.length with h | h
    · refine .inl ⟨(getElem?_append_lt h).symm.trans hy, g.put_other v (Nat.ne_of_lt h), fun b hb => ⟨heap_alloc_old w o b (S.lt r b h hb), rfl⟩⟩
    · have : r = H.length := by have := lt_of_get hy; simp at this; omega
      subst this
      have : y = x := by simpa using hy.symm
      subst this
      exact .inr hx
  · simp at hr hr'
    rcases Nat.lt_or_ge r H.length with h | h <;> rcases Nat.lt_or_ge r' H.length with h' | h'
    · rw [g.put_other v (Nat.ne_of_lt h)] at hb
      rw [g.put_other v (Nat.ne_of_lt h')] at hb'
      exact S.disj r r' b h h' hb hb'
    · rw [g.put_other v (Nat.ne_of_lt h)] at hb
      have : r' = H.length := by omega
      subst this
      rw [g.put_same] at hb'
      have := S.lt r b h hb
      have := hv b hb'
      omega
    · rw [g.put_other v (Nat.ne_of_lt h')] at hb'
      have : r = H.length := by omega
      subst this
      rw [g.put_same] at hb
      have := S.lt r' b h' hb'
      have := hv b hb
      omega
    · omega
  · simp at hr ⊢
    rcases Nat.lt_or_ge r H.length with h | h
    · rw [g.put_other v (Nat.ne_of_lt h)] at hb
      have := S.lt r b h hb
      omega
    · have : r = H.length := by omega
      subst this
      rw [g.put_same] at hb
      have := hv b hb
      omega
  · simp at hr
    rcases Nat.lt_or_ge r H.length with h | h
    · rw [g.put_other v (Nat.ne_of_lt h)] at hb
      exact .inr ⟨r, h, hb⟩
    · have : r = H.length := by omega
      subst this
      rw [g.put_same] at hb
      exact .inl (by have := hv b hb; omega)

/-- A new box. -/
theorem stp_box (S : SR P g w H) (e : TypeId) (vs : Array Value) (cs : List AV) (h : VRs P g w H cs vs) (h1 : ∀ c ∈ cs, c.one = true) :
    Stp P g w H (g.put H.length (.pointer (some ⟨w.heap.size, 0, none⟩))) (w.alloc (.cells vs e)) (H ++ [.box cs]) := by
  have E := ext_alloc S (.cells vs e) (.box cs) (.pointer (some ⟨w.heap.size, 0, none⟩))
  refine stp_alloc S _ _ _ (fun b hb => by simpa [blk] using hb.symm) ⟨w.heap.size, vs, e, g.put_same .., heap_alloc_new w _, h.1, h1, fun i a v ha hv => (h.2 i a v ha hv).ext E, S.new _ (Nat.le_refl _)⟩

/-- A string's iterator. -/
theorem stp_iter (S : SR P g w H) (s : ByteArray) :
    Stp P g w H (g.put H.length (.pointer (some ⟨w.heap.size, 0, none⟩))) (w.alloc (.stringIter s 0)) (H ++ [.iter s 0]) :=
  stp_alloc S _ _ _ (fun b hb => by simpa [blk] using hb.symm) ⟨w.heap.size, g.put_same .., heap_alloc_new w _, S.new _ (Nat.le_refl _)⟩

/-- One thing of the heap turns; of the world its own block alone, or a new one that takes its place. -/
theorem stp_set (S : SR P g w H) {r : Nat} {x x' : AO} (hr : H[r]? = some x) {g' : Gh} {w' : World}
    (E : Ext P g w H g' w' (H.set r x')) (ho : w'.os = w.os) (ht : w'.tape = w.tape) (hou : w'.output = w.output) (hs : w.heap.size ≤ w'.heap.size)
    (hloc : ∀ i, i ≠ r → g'.loc i = g.loc i)
    (hheap : ∀ b, b < w.heap.size → blk (g.loc r) ≠ some b → w'.heap[b]? = w.heap[b]? ∧ g'.pm b = g.pm b)
    (hnew : ∀ b, blk (g'.loc r) = some b → (blk (g.loc r) = some b ∨ w.heap.size ≤ b) ∧ b < w'.heap.size)
    (hz : ∀ b, w'.heap.size ≤ b → g'.pm b = 0)
    (hx : Ok1 P g' w' (H.set r x') r x') : Stp P g w H g' w' (H.set r x') := by
  have hrl := lt_of_get hr
  refine ⟨S.step E (fun i y hy => ?_) (fun i j b hi hj hb hb' => ?_) (fun i b hi hb => ?_) hz, E, ho, ht, hou, hs, fun b hb hn => hheap b hb (hn r hrl), fun i b hi hb => ?_⟩
  · by_cases hir : i = r
    · subst hir
      rw [List.getElem?_set_self (by omega)] at hy
      injection hy with hy
      subst hy
      exact .inr hx
    · rw [List.getElem?_set_ne (Ne.symm hir)] at hy
      refine .inl ⟨hy, hloc i hir, fun b hb => hheap b (S.lt i b (lt_of_get hy) hb) fun he => hir (S.disj i r b (lt_of_get hy) hrl hb he)⟩
  · simp at hi hj
    by_cases hir : i = r <;> by_cases hjr : j = r
    · omega
    · subst hir
      rw [hloc j hjr] at hb'
      have h1 := hnew b hb
      have h2 := S.lt j b hj hb'
      rcases h1.1 with h3 | h3
      · exact (S.disj j i b hj hrl hb' h3).symm
      · omega
    · subst hjr
      rw [hloc i hir] at hb
      have h1 := hnew b hb'
      have h2 := S.lt i b hi hb
      rcases h1.1 with h3 | h3
      · exact S.disj i j b hi hrl hb h3
      · omega
    · rw [hloc i hir] at hb
      rw [hloc j hjr] at hb'
      exact S.disj i j b hi hj hb hb'
  · simp at hi
    by_cases hir : i = r
    · subst hir; exact (hnew b hb).2
    · rw [hloc i hir] at hb
      exact Nat.lt_of_lt_of_le (S.lt i b hi hb) hs
  · simp at hi
    by_cases hir : i = r
    · subst hir
      rcases (hnew b hb).1 with h | h
      · exact .inr ⟨i, hrl, h⟩
      · exact .inl h
    · rw [hloc i hir] at hb
      exact .inr ⟨i, hi, hb⟩

/-- The frame of a change at one thing that is a box or an iterator. -/
theorem ext_set (S : SR P g w H) {r : Nat} {x x' : AO} (hr : H[r]? = some x) {w' : World} {b0 : Nat} (hb0 : blk (g.loc r) = some b0) (hp : g.pm b0 = 0)
    (hheap : ∀ b, b < w.heap.size → b ≠ b0 → w'.heap[b]? = w.heap[b]?)
    (hbox : ∀ cs, x = .box cs → ∃ cs', x' = .box cs') (hit : ∀ s p, x = .iter s p → ∃ p', x' = .iter s p') (harr : ∀ e v xs m d, x ≠ .arr e v xs m d) : Ext P g w H g w' (H.set r x') := by
  have hrl := lt_of_get hr
  have hcell : ∀ b o, o < g.pm b → w'.cell? ⟨b, o, none⟩ = w.cell? ⟨b, o, none⟩ := by
    intro b o h
    refine cell_of_heap (hheap b ?_ ?_) o
    · rcases Nat.lt_or_ge b w.heap.size with h1 | h1
      · exact h1
      · rw [S.new b h1] at h; omega
    · rintro rfl; omega
  refine ⟨fun _ => Nat.le_refl _, hcell, by simp, fun i cs h => ⟨?_, rfl⟩, fun i s p h => ⟨?_, rfl⟩, fun i e ver xs m d h => ?_⟩
  · by_cases hir : i = r
    · subst hir
      rw [hr] at h
      injection h with h
      obtain ⟨cs', hc⟩ := hbox cs h
      exact ⟨cs', by rw [List.getElem?_set_self hrl, hc]⟩
    · exact ⟨cs, by rw [List.getElem?_set_ne (Ne.symm hir)]; exact h⟩
  · by_cases hir : i = r
    · subst hir
      rw [hr] at h
      injection h with h
      obtain ⟨p', hc⟩ := hit s p h
      exact ⟨p', by rw [List.getElem?_set_self hrl, hc]⟩
    · exact ⟨p, by rw [List.getElem?_set_ne (Ne.symm hir)]; exact h⟩
  · by_cases hir : i = r
    · subst hir
      rw [hr] at h
      injection h with h
      exact absurd h (harr e ver xs m d)
    · refine ⟨ver, xs, m, d, by rw [List.getElem?_set_ne (Ne.symm hir)]; exact h, Nat.le_refl _, fun _ => ⟨Nat.le_refl _, Nat.le_refl _, fun _ => rfl, fun n v _ _ hw => hw.mono (fun _ => Nat.le_refl _) hcell⟩⟩

/-- A box is written. -/
theorem stp_setBox (S : SR P g w H) {r b : Nat} {cs cs' : List AV} {vs vs' : Array Value} {e : TypeId} (hr : H[r]? = some (.box cs)) (hl : g.loc r = .pointer (some ⟨b, 0, none⟩))
    (hh : w.heap[b]? = some (.cells vs e (0, 0))) (h : VRs P g w H cs' vs') (h1 : ∀ c ∈ cs', c.one = true) : Stp P g w H g (w.setRow b vs') (H.set r (.box cs')) := by
  have hp : g.pm b = 0 := by
    obtain ⟨b', _, _, h1, _, _, _, _, h2⟩ := S.ok r _ hr
    rw [hl] at h1
    injection h1 with h1
    injection h1 with h1
    injection h1 with h1
    rw [h1]; exact h2
  have hb0 : blk (g.loc r) = some b := by rw [hl]; rfl
  have hheap : ∀ b', b' < w.heap.size → b' ≠ b → (w.setRow b vs').heap[b']? = w.heap[b']? := fun b' _ hne => setRow_other w b b' vs' hne
  have E : Ext P g w H g (w.setRow b vs') (H.set r (.box cs')) := ext_set S hr hb0 hp hheap (fun _ _ => ⟨cs', rfl⟩) (fun _ _ h => by cases h) (fun _ _ _ _ _ h => by cases h)
  refine stp_set S hr E rfl rfl rfl (by simp) (fun _ _ => rfl) (fun b' hb' hne => ⟨hheap b' hb' fun he => hne (by rw [hb0, he]), rfl⟩) (fun b' hb' => ⟨.inl hb', by simpa using S.lt r b' (lt_of_get hr) hb'⟩) (fun b' hb' => S.new b' (by simpa using hb')) ?_
  exact ⟨b, vs', e, hl, setRow_heap w b vs vs' e _ hh, h.1, h1, fun i a v ha hv => (h.2 i a v ha hv).ext E, hp⟩
end
end Go.Proofs.YtgehpjjpeddomaaGreatDoor
/- The evaluator is true to the model: arrays that grow: frozen, appended to, cut, written; new ones. -/
namespace Go.Proofs.YtgehpjjpeddomaaGreatDoor
open Go

section
variable {P : Program} {g g' : Gh} {w w' : World} {H : List AO}

theorem ext_arr {r e ver ver' m m' d d' : Nat} {xs xs' : List Tr} (hr : H[r]? = some (.arr e ver xs m d)) (hpm : ∀ b, g.pm b ≤ g'.pm b)
    (hcell : ∀ b o, o < g.pm b → w'.cell? ⟨b, o, none⟩ = w.cell? ⟨b, o, none⟩) (hloc : ∀ i, i ≠ r → g'.loc i = g.loc i)
    (hv : ver ≤ ver') (hk : ver' = ver → xs.length ≤ xs'.length ∧ d ≤ d' ∧ (xs'.length = xs.length → g'.loc r = g.loc r) ∧
      ∀ n v, d' ≤ n → n ≤ xs.length → WinAt g.pm w (g.loc r) xs n v → WinAt g'.pm w' (g'.loc r) xs' n v) : Ext P g w H g' w' (H.set r (.arr e ver' xs' m' d')) := by
  have hrl := lt_of_get hr
  refine ⟨hpm, hcell, by simp, fun i cs h => ?_, fun i s p h => ?_, fun i e1 v1 x1 m1 d1 h => ?_⟩
  · have hir : i ≠ r := by rintro rfl; rw [hr] at h; cases h
    exact ⟨⟨cs, by rw [List.getElem?_set_ne (Ne.symm hir)]; exact h⟩, hloc i hir⟩
  · have hir : i ≠ r := by rintro rfl; rw [hr] at h; cases h
    exact ⟨⟨p, by rw [List.getElem?_set_ne (Ne.symm hir)]; exact h⟩, hloc i hir⟩
  · by_cases hir : i = r
    · subst hir
      rw [hr] at h
      injection h with h
      injection h with h1 h2 h3 h4 h5
      subst h1; subst h2; subst h3; subst h4; subst h5
      exact ⟨ver', xs', m', d', List.getElem?_set_self hrl, hv, hk⟩
    · refine ⟨v1, x1, m1, d1, by rw [List.getElem?_set_ne (Ne.symm hir)]; exact h, Nat.le_refl _, fun _ => ⟨Nat.le_refl _, Nat.le_refl _, fun _ => hloc i hir, fun n v _ _ hw => ?_⟩⟩
      rw [hloc i hir]
      exact hw.mono hpm hcell

/-- An array, laid open. -/
theorem arr_open (S : SR P g w H) {r e ver m d : Nat} {xs : List Tr} (hr : H[r]? = some (.arr e ver xs m d)) :
    ∃ i z cells, P.info? e = some i ∧ i.zero = some z ∧ z.cells.size = i.size ∧ 0 < i.size ∧ w.ownsRow 0 e i.size (g.loc r) xs.length cells ∧
    (∀ x ∈ xs, x.cells.length = i.size) ∧ (∀ x ∈ xs, ∀ c ∈ x.cells, c.one = true) ∧
    (∀ (j : Nat) (x : Tr) (k : Nat) (c : Tr), xs[j]? = some x → x.cells[k]? = some c → ∃ u, cells[j * i.size + k]? = some u ∧ VRt g.pm w c u) ∧ m ≤ xs.length ∧ d ≤ xs.length ∧
    (∀ b, blk (g.loc r) = some b → g.pm b ≤ m * i.size) := S.ok r _ hr

theorem win_open {r ver n e m d : Nat} {v : Value} {xs : List Tr} (h : VR P g w H (.win r ver n) v) (hr : H[r]? = some (.arr e ver xs m d)) (hd : d ≤ n) : n ≤ xs.length ∧ WinAt g.pm w (g.loc r) xs n v := by
  cases h with
  | win h1 e' v0 xs' m' d' hH hv h =>
    rw [hr] at hH
    injection hH with hH
    injection hH with a1 a2 a3 a4 a5
    subst a1; subst a2; subst a3; subst a4; subst a5
    exact ⟨(h rfl).1, (h rfl).2 hd⟩

theorem mem_take {α : Type} {x : α} {l : List α} {n : Nat} (h : x ∈ l.take n) : x ∈ l := List.mem_of_mem_take h

/-- A window is read as a tree that stays. -/
theorem freeze_win (S : SR P g w H) {r ver n : Nat} {v : Value} (hw : VR P g w H (.win r ver n) v) {x : Tr} {H' : List AO} (h : fzW H r ver n = some (x, H')) :
    ∃ g', Stp P g w H g' w H' ∧ VRt g'.pm w x v := by
  unfold fzW at h
  split at h
  case h_2 => cases h
  rename_i e v0 xs m d hr
  split at h
  case isFalse => cases h
  rename_i hc
  obtain ⟨rfl, hd, hn⟩ := hc
  injection h with h
  injection h with h1 h2
  subst h1; subst h2
  obtain ⟨hn, hat⟩ := win_open hw hr hd
  obtain ⟨i, z, cells, a1, a2, a3, a4, a5, a6, a7, a8, a9, a10, a11⟩ := arr_open S hr
  have hrl := lt_of_get hr
  have hat' : (∃ A len cap cap', g.loc r = .slice A len cap ∧ v = .slice A n cap' ∧ n ≤ cap') ∨ VRt g.pm w (.sl (xs.take n)) v := by
    rcases hat with ⟨e1, e2⟩ | ⟨_, h⟩
    · rcases a5.2 with ⟨e3, e4⟩ | ⟨b, cap', cur, e3, _, _, h3, _⟩
      · exact .inl ⟨none, 0, 0, 0, e3, by rw [e2, e3, e1, e4], by omega⟩
      · exact .inl ⟨_, _, _, cap', e3, by rw [e2, e3, e1], by omega⟩
    · exact h
  rcases hat' with ⟨A, len, cap, capv, e1, rfl, hcv⟩ | hv
  · rcases a5.2 with ⟨e2, e3⟩ | ⟨b, cap', cur, e2, b1, b2, b3, b4, b5, b6⟩
    · rw [e1] at e2
      injection e2 with e4 e5 e6
      subst e4; subst e5; subst e6
      have hn0 : n = 0 := by omega
      subst hn0
      have hx0 : xs = [] := List.eq_nil_of_length_eq_zero e3
      subst hx0
      have E : Ext P g w H g w (H.set r (.arr e ver [] (max m 0) d)) := ext_arr hr (fun _ => Nat.le_refl _) (fun _ _ _ => rfl) (fun _ _ => rfl) (Nat.le_refl _)
        fun _ => ⟨Nat.le_refl _, Nat.le_refl _, fun _ => rfl, fun _ _ _ _ h => h⟩
      refine ⟨g, stp_set S hr E rfl rfl rfl (Nat.le_refl _) (fun _ _ => rfl) (fun _ _ _ => ⟨rfl, rfl⟩) (fun b hb => ⟨.inl hb, S.lt r b hrl hb⟩) S.new ⟨i, z, cells, a1, a2, a3, a4, a5, a6, a7, a8, by omega, by omega, fun b hb => ?_⟩, ?_⟩
      · rw [e1] at hb; cases hb
      · exact .sl [] none 0 capv i.size (fun _ _ => .nilFunc) rfl hcv (by simp) (by simp) (by simp) (by simp)
    · rw [e1] at e2
      injection e2 with e4 e5 e6
      subst e4; subst e5; subst e6
      have hpm : ∀ b', g.pm b' ≤ (g.raise b (n * i.size)).pm b' := by
        intro b'; simp only [Gh.raise]; split
        · rename_i h; subst h; omega
        · exact Nat.le_refl _
      have E : Ext P g w H (g.raise b (n * i.size)) w (H.set r (.arr e ver xs (max m n) d)) := ext_arr hr hpm (fun _ _ _ => rfl) (fun _ _ => rfl) (Nat.le_refl _)
        fun _ => ⟨Nat.le_refl _, Nat.le_refl _, fun _ => rfl, fun n' v' _ _ h => h.mono hpm fun _ _ _ => rfl⟩
      have hblk : blk (g.loc r) = some b := by rw [e1]; rfl
      have hbl := S.lt r b hrl hblk
      refine ⟨g.raise b (n * i.size), stp_set S hr E rfl rfl rfl (Nat.le_refl _) (fun _ _ => rfl) (fun b' _ hne => ⟨rfl, ?_⟩) (fun b' hb' => ⟨.inl hb', S.lt r b' hrl hb'⟩) (fun b' hb' => ?_)
        ⟨i, z, cells, a1, a2, a3, a4, a5, a6, a7, fun j x k c hx hc => ?_, by omega, a10, fun b' hb' => ?_⟩, ?_⟩
      · have : b' ≠ b := by rintro rfl; exact hne hblk
        simp [Gh.raise, this]
      · have : b' ≠ b := by omega
        simp [Gh.raise, this, S.new b' hb']
      · obtain ⟨u, hu, hv⟩ := a8 j x k c hx hc
        exact ⟨u, hu, hv.mono hpm fun _ _ _ => rfl⟩
      · have : b' = b := by
          have h := hb'
          simp only [Gh.raise] at h
          rw [hblk] at h; injection h with h; exact h.symm
        subst this
        have h1 := a11 b' hblk
        have h2 : m * i.size ≤ max m n * i.size := Nat.mul_le_mul_right _ (Nat.le_max_left ..)
        have h3 : n * i.size ≤ max m n * i.size := Nat.mul_le_mul_right _ (Nat.le_max_right ..)
        simp only [Gh.raise, if_true]
        omega
      · have hcs : ∀ j k, j < n → k < i.size → ∃ u, cur[j * i.size + k]? = some u ∧ ∀ x c, xs[j]? = some x → x.cells[k]? = some c → VRt g.pm w c u := by
          intro j k hj hk
          have hjl : j < xs.length := by omega
          have hx : xs[j]? = some xs[j] := List.getElem?_eq_getElem hjl
          have hsz := a6 xs[j] (List.getElem_mem hjl)
          have hc : xs[j].cells[k]? = some (xs[j].cells[k]'(by omega)) := List.getElem?_eq_getElem (by omega)
          obtain ⟨u, hu, hv⟩ := a8 j _ k _ hx hc
          refine ⟨u, ?_, fun x c h1 h2 => ?_⟩
          · rw [← b6, List.getElem?_take] at hu
            split at hu
            · simpa using hu
            · cases hu
          · rw [hx] at h1; injection h1 with h1; subst h1
            rw [hc] at h2; injection h2 with h2; subst h2
            exact hv
        refine .sl (xs.take n) (some ⟨b, 0, none⟩) n capv i.size (fun j k => cur.getD (j * i.size + k) .nilFunc) (by simp; omega) hcv (fun x hx => a6 x (mem_take hx)) (fun x hx => a7 x (mem_take hx)) (fun _ => ⟨b, 0, rfl, fun j k hj hk => ?_⟩) (fun j x k c hx hc => ?_)
        · have hj' : j < n := by simp at hj; omega
          obtain ⟨u, hu, _⟩ := hcs j k hj' hk
          refine ⟨?_, ?_⟩
          · simp [World.cell?, b2, hu]
          · have : (j + 1) * i.size ≤ n * i.size := Nat.mul_le_mul_right _ hj'
            have : (j + 1) * i.size = j * i.size + i.size := Nat.succ_mul _ _
            simp only [Gh.raise, if_true]
            omega
        · rw [List.getElem?_take] at hx
          split at hx
          · rename_i hj
            have hk : k < i.size := by
              have := lt_of_get hc
              have := a6 x (List.mem_of_getElem? hx)
              omega
            obtain ⟨u, hu, hv⟩ := hcs j k hj hk
            have : cur.getD (j * i.size + k) .nilFunc = u := by simp [hu]
            rw [this]
            exact (hv x c hx hc).mono hpm fun _ _ _ => rfl
          · cases hx
  · have E : Ext P g w H g w (H.set r (.arr e ver xs (max m n) d)) := ext_arr hr (fun _ => Nat.le_refl _) (fun _ _ _ => rfl) (fun _ _ => rfl) (Nat.le_refl _)
      fun _ => ⟨Nat.le_refl _, Nat.le_refl _, fun _ => rfl, fun _ _ _ _ h => h⟩
    refine ⟨g, stp_set S hr E rfl rfl rfl (Nat.le_refl _) (fun _ _ => rfl) (fun _ _ _ => ⟨rfl, rfl⟩) (fun b hb => ⟨.inl hb, S.lt r b hrl hb⟩) S.new ⟨i, z, cells, a1, a2, a3, a4, a5, a6, a7, a8, by omega, by omega, fun b hb => ?_⟩, hv⟩
    exact Nat.le_trans (a11 b hb) (Nat.mul_le_mul_right _ (Nat.le_max_left ..))
end
end Go.Proofs.YtgehpjjpeddomaaGreatDoor
/- The evaluator is true to the model: append. -/
namespace Go.Proofs.YtgehpjjpeddomaaGreatDoor
open Go Go.Lib

/-- What an append comes to: in place, or in a new block. -/
structure Grew (w w' : World) (e size n m : Nat) (v v' : Value) (xs : List Value) : Prop where
  own : w'.ownsRow 0 e size v' (n + m) xs
  os : w'.os = w.os
  tape : w'.tape = w.tape
  output : w'.output = w.output
  alt : ((∃ A cap, v = .slice A n cap ∧ v' = .slice A (n + m) cap) ∧ w'.heap.size = w.heap.size ∧ ∀ k, some k ≠ blk v → w'.heap[k]? = w.heap[k]?) ∨
    (0 < m ∧ (∃ cap, v' = .slice (some ⟨w.heap.size, 0, none⟩) (n + m) cap) ∧ w.heap.size < w'.heap.size ∧ ∀ k, k < w.heap.size → w'.heap[k]? = w.heap[k]?)

section
variable {P : Program} {w : World}

theorem grew_new {e size n m : Nat} {z : Value} {v : Value} {xs news : List Value} (hzs : z.cells.size = size) (hx : xs.length = n * size) (hl : news.length = m * size) (hm : 0 < m) (h63 : n + m ≤ maxLen) (old : Nat) :
    Grew w (w.drew.alloc (.cells (xs.toArray ++ news.toArray ++ Builtin.zeroCells z.cells (grownCap w (n + m) old e - (n + m))) e)) e size n m v (.slice (some ⟨w.heap.size, 0, none⟩) (n + m) (grownCap w (n + m) old e)) (xs ++ news) := by
  have hlen : (xs ++ news).length = (n + m) * size := by rw [List.length_append, hx, hl, Nat.add_mul]
  have hge := grownCap_ge w (n + m) old e
  have hcm : grownCap w (n + m) old e ≤ maxLen := grownCap_le_maxLen w (n + m) old e h63
  refine ⟨⟨hlen, .inr ⟨w.heap.size, _, _, rfl, Nat.zero_le _, heap_alloc_new w.drew _, hge, hcm, ?_, ?_⟩⟩, rfl, rfl, rfl, .inr ⟨hm, ⟨_, rfl⟩, by simp, fun k hk => heap_alloc_old w.drew _ k hk⟩⟩
  · simp only [Array.size_append, List.size_toArray, size_zeroCells, hzs, hx, hl, ← Nat.add_mul]
    congr 1
    omega
  · simp only [Array.toList_append, List.append_assoc]
    rw [← List.append_assoc, ← hlen]
    exact List.take_left

/-- A slice is appended to what is owned. -/
theorem grew_slice (t ty e : TypeId) (i : TypeInfo) (z : Value) (ht : P.underlying t = some (.slice e)) (hi : P.info? e = some i) (hz : i.zero = some z) (hzs : z.cells.size = i.size) (hsz : 0 < i.size)
    (v : Value) (n : Nat) (xs : List Value) (hown : w.ownsRow 0 e i.size v n xs)
    (a : Option Addr) (m c : Nat) (news : List Value) (hl : news.length = m * i.size) (hnews : 0 < m → ∃ ad, a = some ad ∧ ∀ j u, news[j]? = some u → w.cell? (ad.add j) = some u) (h1 : ∀ u ∈ news, u.oneCell' = true)
    (hbytes : (n + m) * i.bytes ≤ 140737488355328) (h63 : n + m ≤ 9223372036854775807) :
    ∃ v' w', (Builtin.append_ #[t, t] ty #[v, .slice a m c]).run P w = .ok v' w' ∧ Grew w w' e i.size n m v v' (xs ++ news) := by
  have hmax : n + m ≤ maxLen := by simp only [maxLen]; omega
  rcases Nat.eq_zero_or_pos m with hm | hm
  · subst hm
    have hn : news = [] := List.eq_nil_of_length_eq_zero (by simpa using hl)
    subst hn
    have hf : (Builtin.firstCells i.size 0 (.slice a 0 c)).run P w = .ok #[] w := by
      cases a <;> simp [Builtin.firstCells, loadCells, loadCellsFrom]
    refine ⟨v, w, ?_, by simpa using hown, rfl, rfl, rfl, .inl ⟨?_, rfl, fun _ _ => rfl⟩⟩
    · rcases hown.2 with ⟨rfl, rfl⟩ | ⟨g, cap, cur, rfl, _, _, hnc, _⟩
      · simp [Builtin.append_, run_underlying ht, sizeOf, typeInfo, hi, Builtin.lenOf, hf]
      · simp [Builtin.append_, run_underlying ht, sizeOf, typeInfo, hi, Builtin.lenOf, hnc, hf, storeCells]
    · rcases hown.2 with ⟨rfl, rfl⟩ | ⟨g, cap, cur, rfl, _, _, hnc, _⟩
      · exact ⟨_, _, rfl, rfl⟩
      · exact ⟨_, _, rfl, rfl⟩
  · obtain ⟨ad, rfl, hnews2⟩ := hnews hm
    rcases hown.2 with ⟨rfl, rfl⟩ | ⟨g, cap, cur, rfl, hbg, hg, hnc, hcm, hcs, htake⟩
    · have hx : xs = [] := List.eq_nil_of_length_eq_zero (by simpa using hown.1)
      subst hx
      have hr := run_append_nil (P := P) w t ty e i z ht hi hz ad m c news hl hnews2 (by omega) (by omega) (by have hb := hbytes; simp only [Nat.zero_add] at hb; omega)
      have hgr := grew_new (w := w) (e := e) (n := 0) (z := z) (v := .slice none 0 0) (xs := []) hzs (by simp) hl hm (by simpa using hmax) 0
      simp only [Nat.zero_add, List.nil_append, Array.empty_append] at hgr ⊢
      exact ⟨_, _, hr, hgr⟩
    · by_cases hroom : n + m ≤ cap
      · have hfit : n * i.size + news.length ≤ cur.size := by rw [hl, hcs, ← Nat.add_mul]; exact Nat.mul_le_mul_right _ hroom
        have hr := run_append_room (P := P) w t ty e i ht hi g n cap cur hg ad m c news hl hnews2 h1 hroom hfit
        have hlen : (xs ++ news).length = (n + m) * i.size := by rw [List.length_append, hown.1, hl, Nat.add_mul]
        refine ⟨_, _, hr, ⟨hlen, .inr ⟨g, cap, _, rfl, Nat.zero_le _, setRow_heap w g cur _ e _ hg, hroom, hcm, ?_, ?_⟩⟩, rfl, rfl, rfl, .inl ⟨⟨_, _, rfl, rfl⟩, by simp, fun k hk => setRow_other w g k _ (fun e => hk (by simp [blk, e]))⟩⟩
        · simp only [List.size_toArray, List.length_append, List.length_take, List.length_drop, Array.length_toList]
          omega
        · rw [htake, ← hlen]
          exact List.take_left
      · have holds : ∀ j u, xs[j]? = some u → w.cell? ((⟨g, 0, none⟩ : Addr).add j) = some u := hown.cells (g := g) rfl
        have hr := run_append_grow (P := P) w t ty e i z ht hi hz ⟨g, 0, none⟩ n cap xs hown.1 holds ad m c news hl hnews2 (by omega) (by omega) (growslice_fits (by omega) hbytes)
        exact ⟨_, _, hr, grew_new (w := w) (e := e) (z := z) hzs hown.1 hl hm hmax cap⟩

/-- A string is appended to what is owned. -/
theorem grew_string (t u ty e : TypeId) (i : TypeInfo) (z : Value) (ht : P.underlying t = some (.slice e)) (hu : P.underlying u = some .string) (hi : P.info? e = some i) (hz : i.zero = some z) (hzs : z.cells.size = i.size) (hsz : i.size = 1) (hby : i.bytes = 1)
    (v : Value) (n : Nat) (xs : List Value) (hown : w.ownsRow 0 e i.size v n xs) (s : ByteArray)
    (hbytes : n + s.size ≤ 140737488355328) :
    ∃ v' w', (Builtin.append_ #[t, u] ty #[v, .string s]).run P w = .ok v' w' ∧ Grew w w' e i.size n s.size v v' (xs ++ strCells s) := by
  have hmax : n + s.size ≤ maxLen := by simp only [maxLen]; omega
  have hl : (strCells s).length = s.size * i.size := by rw [strCells_length, hsz, Nat.mul_one]
  rcases Nat.eq_zero_or_pos s.size with hm | hm
  · have hn : strCells s = [] := List.eq_nil_of_length_eq_zero (by rw [strCells_length]; exact hm)
    have hf := run_firstCells_string (P := P) w i.size s
    rw [hn, hm] at hf
    refine ⟨v, w, ?_, by rw [hn, hm]; simpa using hown, rfl, rfl, rfl, .inl ⟨?_, rfl, fun _ _ => rfl⟩⟩
    · rcases hown.2 with ⟨rfl, rfl⟩ | ⟨g, cap, cur, rfl, _, _, hnc, _⟩
      · simp [Builtin.append_, run_underlying ht, run_underlying hu, sizeOf, typeInfo, hi, Builtin.lenOf, hm, hf]
      · simp [Builtin.append_, run_underlying ht, run_underlying hu, sizeOf, typeInfo, hi, Builtin.lenOf, hm, hnc, hf, storeCells]
    · rcases hown.2 with ⟨rfl, rfl⟩ | ⟨g, cap, cur, rfl, _, _, hnc, _⟩
      · exact ⟨_, _, rfl, by rw [hm]⟩
      · exact ⟨_, _, rfl, by rw [hm, Nat.add_zero]⟩
  · rcases hown.2 with ⟨rfl, rfl⟩ | ⟨g, cap, cur, rfl, hbg, hg, hnc, hcm, hcs, htake⟩
    · have hx : xs = [] := List.eq_nil_of_length_eq_zero (by simpa using hown.1)
      subst hx
      have hr := run_append_nil_string (P := P) w t u ty e i z ht hu hi hz s (by omega) (by omega) (by rw [hby]; omega)
      have e1 : (s.data.map fun b => Value.int .u8 b.toNat) = (strCells s).toArray := by
        apply Array.ext'
        simp [strCells]
      rw [e1] at hr
      have hgr := grew_new (w := w) (e := e) (n := 0) (z := z) (v := .slice none 0 0) (xs := []) hzs (by simp) hl hm (by simpa using hmax) 0
      simp only [Nat.zero_add, List.nil_append, Array.empty_append] at hgr ⊢
      exact ⟨_, _, hr, hgr⟩
    · by_cases hroom : n + s.size ≤ cap
      · have hcs' : cur.size = cap := by rw [hcs, hsz, Nat.mul_one]
        have hr := run_append_room_string (P := P) w t u ty e i ht hu hi hsz g n cap cur hg s hroom (by omega)
        have hlen : (xs ++ strCells s).length = (n + s.size) * i.size := by rw [List.length_append, hown.1, hl, Nat.add_mul]
        refine ⟨_, _, hr, ⟨hlen, .inr ⟨g, cap, _, rfl, Nat.zero_le _, setRow_heap w g cur _ e _ hg, hroom, hcm, ?_, ?_⟩⟩, rfl, rfl, rfl, .inl ⟨⟨_, _, rfl, rfl⟩, by simp, fun k hk => setRow_other w g k _ (fun e => hk (by simp [blk, e]))⟩⟩
        · simp only [List.size_toArray, List.length_append, List.length_take, List.length_drop, Array.length_toList, strCells_length]
          rw [hsz]
          omega
        · have ht' : cur.toList.take n = xs := by rw [← htake, hsz, Nat.mul_one]
          rw [ht', ← hlen]
          exact List.take_left
      · have holds : ∀ j u, xs[j]? = some u → w.cell? ((⟨g, 0, none⟩ : Addr).add j) = some u := hown.cells (g := g) rfl
        have hr := run_append_grow_string (P := P) w t u ty e i z ht hu hi hz ⟨g, 0, none⟩ n cap xs hown.1 holds s (by omega) (by omega) (by rw [hby]; exact growslice_fits (by omega) (by omega))
        exact ⟨_, _, hr, grew_new (w := w) (e := e) (z := z) hzs hown.1 hl hm hmax cap⟩
end

section
variable {P : Program} {g : Gh} {w w' : World} {H : List AO}

theorem cells_index {size j k : Nat} (hk : k < size) (n : Nat) (hj : j < n) : j * size + k < n * size := by
  have h1 : (j + 1) * size ≤ n * size := Nat.mul_le_mul_right _ hj
  rw [Nat.succ_mul] at h1
  omega

/-- The array behind a window has grown. -/
theorem stp_grew (S : SR P g w H) {r e ver m d : Nat} {xs ys : List Tr} (hr : H[r]? = some (.arr e ver xs m d)) {i : TypeInfo} {cells news : List Value} {z : Value}
    (hi : P.info? e = some i) (hz : i.zero = some z) (hzs : z.cells.size = i.size) (hsz : 0 < i.size) (hown : w.ownsRow 0 e i.size (g.loc r) xs.length cells)
    (hcells : ∀ (j : Nat) (x : Tr) (k : Nat) (c : Tr), xs[j]? = some x → x.cells[k]? = some c → ∃ u, cells[j * i.size + k]? = some u ∧ VRt g.pm w c u)
    (hy1 : ∀ x ∈ ys, x.cells.length = i.size) (hy2 : ∀ x ∈ ys, ∀ c ∈ x.cells, c.one = true)
    (hy3 : ∀ (j : Nat) (x : Tr) (k : Nat) (c : Tr), ys[j]? = some x → x.cells[k]? = some c → ∃ u, news[j * i.size + k]? = some u ∧ VRt g.pm w c u)
    {v' : Value} (hg : Grew w w' e i.size xs.length ys.length (g.loc r) v' (cells ++ news)) :
    ∃ g', Stp P g w H g' w' (H.set r (.arr e ver (xs ++ ys) m d)) ∧ g'.loc r = v' := by
  obtain ⟨i', z', cells', b1, b2, b3, b4, b5, b6, b7, b8, b9, b10, b11⟩ := arr_open S hr
  have hii : i' = i := by rw [hi] at b1; injection b1 with b1; exact b1.symm
  subst hii
  have hrl := lt_of_get hr
  have hcl : cells.length = xs.length * i'.size := hown.1
  have hall : ∀ {pm' : Nat → Nat}, (∀ b, g.pm b ≤ pm' b) → (∀ b o, o < g.pm b → w'.cell? ⟨b, o, none⟩ = w.cell? ⟨b, o, none⟩) →
      ∀ (j : Nat) (x : Tr) (k : Nat) (c : Tr), (xs ++ ys)[j]? = some x → x.cells[k]? = some c → ∃ u, (cells ++ news)[j * i'.size + k]? = some u ∧ VRt pm' w' c u := by
    intro pm' hp hc j x k c hx hk
    rcases Nat.lt_or_ge j xs.length with hj | hj
    · rw [List.getElem?_append_left hj] at hx
      obtain ⟨u, hu, hv⟩ := hcells j x k c hx hk
      exact ⟨u, by rw [List.getElem?_append_left (lt_of_get hu)]; exact hu, hv.mono hp hc⟩
    · rw [List.getElem?_append_right hj] at hx
      obtain ⟨u, hu, hv⟩ := hy3 _ x k c hx hk
      refine ⟨u, ?_, hv.mono hp hc⟩
      have e1 : j * i'.size = xs.length * i'.size + (j - xs.length) * i'.size := by rw [← Nat.add_mul]; congr 1; omega
      rw [List.getElem?_append_right (by rw [hcl]; omega), hcl, ← hu]
      congr 1
      omega
  have hs1 : ∀ x ∈ xs ++ ys, x.cells.length = i'.size := fun x hx => by rcases List.mem_append.1 hx with h | h; exact b6 x h; exact hy1 x h
  have hs2 : ∀ x ∈ xs ++ ys, ∀ c ∈ x.cells, c.one = true := fun x hx => by rcases List.mem_append.1 hx with h | h; exact b7 x h; exact hy2 x h
  rcases hg.alt with ⟨⟨A, cap, h1, h2⟩, hsize, hheap⟩ | ⟨hm, ⟨cap, h2⟩, hsize, hheap⟩
  · -- in place
    have hblk : blk v' = blk (g.loc r) := by rw [h1, h2]; cases A <;> rfl
    have hcell : ∀ b o, o < g.pm b → w'.cell? ⟨b, o, none⟩ = w.cell? ⟨b, o, none⟩ := by
      intro b o ho
      by_cases hb : blk (g.loc r) = some b
      · have h3 := b11 b hb
        have h4 : m * i'.size ≤ xs.length * i'.size := Nat.mul_le_mul_right _ b9
        have ho' : o < cells.length := by rw [hcl]; omega
        have hg1 : (g.loc r).ownBlock = some b := by rw [h1] at hb ⊢; cases A with | none => cases hb | some a => exact hb
        have hg2 : v'.ownBlock = some b := by rw [h2]; rw [h1] at hb; cases A with | none => cases hb | some a => exact hb
        have a1 := hown.cells hg1 o _ (List.getElem?_eq_getElem ho')
        have a2 := hg.own.cells hg2 o cells[o] (by rw [List.getElem?_append_left ho']; exact List.getElem?_eq_getElem ho')
        have hadd : (⟨b, 0, none⟩ : Addr).add o = ⟨b, o, none⟩ := by unfold Addr.add; split <;> simp_all
        rw [hadd] at a1 a2
        rw [a1, a2]
      · exact cell_of_heap (hheap b fun he => hb he.symm) o
    have E : Ext P g w H (g.put r v') w' (H.set r (.arr e ver (xs ++ ys) m d)) := by
      refine ext_arr hr (fun _ => Nat.le_refl _) hcell (fun i hi => g.put_other v' hi) (Nat.le_refl _) fun _ => ⟨by simp, Nat.le_refl _, fun hl => ?_, fun n u hd hn hw => ?_⟩
      · have : ys.length = 0 := by simp at hl; simpa using congrArg List.length hl
        rw [g.put_same, h1, h2, this, Nat.add_zero]
      · rw [g.put_same]
        rcases hw with ⟨e1, e2⟩ | ⟨h3, h4⟩
        · subst e2
          rcases Nat.eq_zero_or_pos ys.length with h0 | h0
          · left
            refine ⟨by simp; omega, ?_⟩
            rw [h1, h2, h0, Nat.add_zero]
          · right
            refine ⟨by simp; omega, .inl ⟨A, _, cap, cap, h2, by rw [h1, e1], ?_⟩⟩
            rcases hown.2 with ⟨e3, e4⟩ | ⟨_, _, _, e3, _, _, e4, _⟩
            · omega
            · rw [h1] at e3; injection e3 with _ _ e5; omega
        · right
          refine ⟨by simp; omega, ?_⟩
          rcases h4 with ⟨A', len, cap', cap2, e3, e4, e5⟩ | h4
          · rw [h1] at e3
            injection e3 with e6 e7 e8
            subst e6
            exact .inl ⟨A, _, cap, cap2, h2, e4, e5⟩
          · rw [List.take_append_of_le_length (by omega)]
            exact .inr (h4.mono (fun _ => Nat.le_refl _) hcell)
    refine ⟨g.put r v', stp_set S hr E hg.os hg.tape hg.output (by omega) (fun i hi => g.put_other v' hi) (fun b hb hne => ⟨hheap b fun he => hne he.symm, rfl⟩) (fun b hb => ?_) (fun b hb => S.new b (by omega)) ?_, g.put_same ..⟩
    · rw [g.put_same, hblk] at hb
      exact ⟨.inl hb, by rw [hsize]; exact S.lt r b hrl hb⟩
    · refine ⟨i', z, cells ++ news, hi, hz, hzs, hsz, ?_, hs1, hs2, hall (fun _ => Nat.le_refl _) hcell, by simp; omega, by simp; omega, fun b hb => b11 b (by rw [g.put_same, hblk] at hb; exact hb)⟩
      rw [g.put_same, List.length_append]
      exact hg.own
  · -- in a new block
    have hblk : blk v' = some w.heap.size := by rw [h2]; rfl
    -- the elder block stays as it is, for good
    rcases hown.2 with ⟨e3, e4⟩ | ⟨b, cap0, cur, e3, _, c2, c3, c4, c5, c6⟩
    · have hx0 : xs = [] := List.eq_nil_of_length_eq_zero e4
      subst hx0
      have hcell : ∀ b o, o < g.pm b → w'.cell? ⟨b, o, none⟩ = w.cell? ⟨b, o, none⟩ := fun b o ho => cell_of_heap (hheap b (by
        rcases Nat.lt_or_ge b w.heap.size with h | h
        · exact h
        · rw [S.new b h] at ho; omega)) o
      have E : Ext P g w H (g.put r v') w' (H.set r (.arr e ver ([] ++ ys) m d)) := by
        refine ext_arr hr (fun _ => Nat.le_refl _) hcell (fun i hi => g.put_other v' hi) (Nat.le_refl _) fun _ => ⟨by simp, Nat.le_refl _, fun hl => ?_, fun n u hd hn hw => ?_⟩
        · simp at hl; subst hl; simp at hm
        · have hn0 : n = 0 := by simpa using hn
          subst hn0
          rcases hw with ⟨_, e2⟩ | ⟨h3, _⟩
          · refine .inr ⟨by simp; omega, .inr ?_⟩
            rw [e2, e3]
            exact .sl [] none 0 0 0 (fun _ _ => .nilFunc) rfl (Nat.le_refl _) (by simp) (by simp) (by simp) (by simp)
          · simp at h3
      refine ⟨g.put r v', stp_set S hr E hg.os hg.tape hg.output (by omega) (fun i hi => g.put_other v' hi) (fun b hb _ => ⟨hheap b hb, rfl⟩) (fun b hb => ?_) (fun b hb => S.new b (by omega)) ?_, g.put_same ..⟩
      · rw [g.put_same, hblk] at hb
        injection hb with hb
        exact ⟨.inr (by omega), by omega⟩
      · refine ⟨i', z, cells ++ news, hi, hz, hzs, hsz, ?_, hs1, hs2, hall (fun _ => Nat.le_refl _) hcell, Nat.le_trans b9 (by simp), Nat.le_trans b10 (by simp), fun b hb => ?_⟩
        · rw [g.put_same, List.length_append]
          exact hg.own
        · rw [g.put_same, hblk] at hb
          injection hb with hb
          subst hb
          rw [show (g.put r v').pm w.heap.size = 0 from S.new _ (Nat.le_refl _)]
          exact Nat.zero_le _
    · have hob : blk (g.loc r) = some b := by rw [e3]; rfl
      have hbl := S.lt r b hrl hob
      have hcell : ∀ b o, o < g.pm b → w'.cell? ⟨b, o, none⟩ = w.cell? ⟨b, o, none⟩ := fun b o ho => cell_of_heap (hheap b (by
        rcases Nat.lt_or_ge b w.heap.size with h | h
        · exact h
        · rw [S.new b h] at ho; omega)) o
      have hpm : ∀ b', g.pm b' ≤ ((g.raise b (xs.length * i'.size)).put r v').pm b' := by
        intro b'; simp only [Gh.put_pm, Gh.raise]; split
        · rename_i h; subst h; omega
        · exact Nat.le_refl _
      have hloc : ∀ i, i ≠ r → ((g.raise b (xs.length * i'.size)).put r v').loc i = g.loc i := fun i hi => (g.raise b _).put_other v' hi
      have E : Ext P g w H ((g.raise b (xs.length * i'.size)).put r v') w' (H.set r (.arr e ver (xs ++ ys) m d)) := by
        refine ext_arr hr hpm hcell hloc (Nat.le_refl _) fun _ => ⟨by simp, Nat.le_refl _, fun hl => ?_, fun n u hd hn hw => ?_⟩
        · simp at hl; subst hl; simp at hm
        · refine .inr ⟨by simp; omega, .inr ?_⟩
          rw [List.take_append_of_le_length hn]
          have hat : (∃ A len cap cap', g.loc r = .slice A len cap ∧ u = .slice A n cap' ∧ n ≤ cap') ∨ VRt g.pm w (.sl (xs.take n)) u := by
            rcases hw with ⟨e1, e2⟩ | ⟨_, h⟩
            · exact .inl ⟨_, _, _, cap0, e3, by rw [e2, e3, e1], by omega⟩
            · exact h
          rcases hat with ⟨A, len, cap1, capv, f1, rfl, f2⟩ | hv
          · rw [e3] at f1
            injection f1 with f3 f4 f5
            subst f3
            have hcs : ∀ j k, j < xs.length → k < i'.size → ∃ u, cur[j * i'.size + k]? = some u ∧ ∀ x c, xs[j]? = some x → x.cells[k]? = some c → VRt g.pm w c u := by
              intro j k hj hk
              have hx : xs[j]? = some xs[j] := List.getElem?_eq_getElem hj
              have hc : xs[j].cells[k]? = some (xs[j].cells[k]'(by rw [b6 _ (List.getElem_mem hj)]; exact hk)) := List.getElem?_eq_getElem _
              obtain ⟨u, hu, hv⟩ := hcells j _ k _ hx hc
              refine ⟨u, ?_, fun x c h1 h2 => ?_⟩
              · rw [← c6, List.getElem?_take] at hu
                split at hu
                · simpa using hu
                · cases hu
              · rw [hx] at h1; injection h1 with h1; subst h1
                rw [hc] at h2; injection h2 with h2; subst h2
                exact hv
            refine .sl (xs.take n) (some ⟨b, 0, none⟩) n capv i'.size (fun j k => cur.getD (j * i'.size + k) .nilFunc) (by simp; omega) f2 (fun x hx => b6 x (mem_take hx)) (fun x hx => b7 x (mem_take hx)) (fun _ => ⟨b, 0, rfl, fun j k hj hk => ?_⟩) (fun j x k c hx hc => ?_)
            · have hj' : j < xs.length := by simp at hj; omega
              obtain ⟨u, hu, _⟩ := hcs j k hj' hk
              refine ⟨?_, ?_⟩
              · simp [World.cell?, hheap b hbl, c2, hu]
              · have := cells_index hk xs.length hj'
                simp only [Gh.put_pm, Gh.raise, if_true]
                omega
            · rw [List.getElem?_take] at hx
              split at hx
              · have hk : k < i'.size := by
                  have := lt_of_get hc
                  have := b6 x (List.mem_of_getElem? hx)
                  omega
                obtain ⟨u, hu, hv⟩ := hcs j k (lt_of_get hx) hk
                have : cur.getD (j * i'.size + k) .nilFunc = u := by simp [hu]
                rw [this]
                exact (hv x c hx hc).mono hpm hcell
              · cases hx
          · exact hv.mono hpm hcell
      refine ⟨(g.raise b (xs.length * i'.size)).put r v', stp_set S hr E hg.os hg.tape hg.output (by omega) hloc (fun b' hb' hne => ⟨hheap b' hb', ?_⟩) (fun b' hb' => ?_) (fun b' hb' => ?_) ?_, Gh.put_same ..⟩
      · have : b' ≠ b := by rintro rfl; exact hne hob
        simp [Gh.raise, this]
      · rw [Gh.put_same, hblk] at hb'
        injection hb' with hb'
        exact ⟨.inr (by omega), by omega⟩
      · have : b' ≠ b := by omega
        simp [Gh.raise, this, S.new b' (by omega)]
      · refine ⟨i', z, cells ++ news, hi, hz, hzs, hsz, ?_, hs1, hs2, hall hpm hcell, by simp; omega, by simp; omega, fun b' hb' => ?_⟩
        · rw [Gh.put_same, List.length_append]
          exact hg.own
        · rw [Gh.put_same, hblk] at hb'
          injection hb' with hb'
          have : b' ≠ b := by omega
          simp [Gh.raise, this, S.new b' (by omega)]
end
end Go.Proofs.YtgehpjjpeddomaaGreatDoor
/- The evaluator is true to the model: the operations, first part: operands, plain values, addresses, loads. -/
namespace Go.Proofs.YtgehpjjpeddomaaGreatDoor
open Go Go.Lib

/-- An operation goes on with a value that is the abstract one, in a world that holds the new heap. -/
def OpOk (P : Program) (g : Gh) (w : World) (H : List AO) (r : Result Next) (a : AV) (H' : List AO) : Prop :=
  ∃ nx v w' g', r = .ok nx w' ∧ (nx = .value v ∨ (nx = .skip ∧ v = undef)) ∧ Stp P g w H g' w' H' ∧ VR P g' w' H' a v

section
variable {P : Program} {g : Gh} {w : World} {H : List AO}

theorem OpOk.same (S : SR P g w H) {r : Result Next} {a : AV} {v : Value} (hr : r = .ok (.value v) w) (h : VR P g w H a v) : OpOk P g w H r a H :=
  ⟨.value v, v, w, g, hr, .inl rfl, .refl S, h⟩

theorem nth_get (ts : List AV) (n : Nat) : nth ts n = ts[n]?.getD .junk := by
  induction ts generalizing n with
  | nil => rfl
  | cons x xs ih => cases n with
    | zero => rfl
    | succ n => exact (ih n).trans (by simp)

theorem nth_sound {ts : List AV} {tmps : Array Value} (h : VRs P g w H ts tmps) (n : Nat) : VR P g w H (nth ts n) (tmps.getD n undef) := by
  rw [nth_get]
  cases ht : ts[n]? with
  | none => exact .junk _
  | some a =>
    have hn : n < tmps.size := by rw [h.1]; exact lt_of_get ht
    have hv : tmps[n]? = some tmps[n] := Array.getElem?_eq_getElem hn
    have : tmps.getD n undef = tmps[n] := by simp [Array.getD, hn]
    rw [this]
    exact h.2 n a _ ht hv

theorem trOf1_one (v : Value) : (trOf1 v).one = true := by
  unfold trOf1; split <;> rfl
theorem trOf1_sound {pm : Nat → Nat} {v : Value} (h : one1 v = true) : VRt pm w (trOf1 v) v := by
  unfold trOf1
  split
  · exact .sl [] none 0 0 0 (fun _ _ => .nilFunc) rfl (Nat.le_refl _) (by simp) (by simp) (by simp) (by simp)
  · refine .v v ?_
    cases v <;> first | rfl | (simp [one1] at h)
theorem trOf_sound {pm : Nat → Nat} {v : Value} (h : okV v = true) : VRt pm w (trOf v) v := by
  have other : ∀ u : Value, trOf u = trOf1 u → okV u = one1 u → okV u = true → VRt pm w (trOf u) u := fun u e1 e2 h => by
    rw [e1]; rw [e2] at h; exact trOf1_sound h
  cases v with
  | agg cs =>
    refine .agg _ cs (by simp) (fun c hc => ?_) (fun i c v hc hv => ?_)
    · obtain ⟨x, _, rfl⟩ := List.mem_map.1 hc
      exact trOf1_one x
    · have hv' : cs.toList[i]? = some v := by simpa using hv
      rw [List.getElem?_map, hv'] at hc
      injection hc with hc
      subst hc
      exact trOf1_sound (List.all_eq_true.1 h v (List.mem_of_getElem? hv'))
  | _ => exact other _ rfl rfl h

/-- The variables that are laid. -/
def GOk (L : Lay) (g : Gh) (w : World) (H : List AO) : Prop := ∀ n cs, L.G n = some cs → VR L.P g w H (.ip cs) (.pointer (some ⟨n, 0, none⟩))

theorem GOk.ext {L : Lay} {g' : Gh} {w' : World} {H' : List AO} (h : GOk L g w H) (E : Ext L.P g w H g' w' H') : GOk L g' w' H' := fun n cs hn => (h n cs hn).ext E

theorem VRs_nil : VRs P g w H [] #[] := ⟨rfl, fun i a v h => by simp at h⟩
end

section
variable {L : Lay} {g : Gh} {w : World} {H : List AO} {ts : List AV} {a : Act}

theorem opd_sound (hts : VRs L.P g w H ts a.tmps) (hG : GOk L g w H) {x : Operand} {o : Opd} (h : compOpd x = some o) : VR L.P g w H (o.ev L ts) (a.eval x) := by
  cases x with
  | tmp t => injection h with h; subst h; exact nth_sound hts t
  | const v =>
    unfold compOpd at h
    split at h
    · cases ‹Operand.const v = _›
    · rename_i heq
      injection heq with heq
      subst heq
      injection h with h; subst h; exact .nils
    · rename_i v' _ heq
      injection heq with heq
      subst heq
      split at h
      · rename_i hv
        injection h with h; subst h; exact .t (trOf_sound hv)
      · cases h
    · cases ‹Operand.const v = _›
    · cases ‹Operand.const v = _›
  | global n =>
    injection h with h; subst h
    simp only [Opd.ev, Act.eval]
    split
    · rename_i cs hn; exact hG n cs hn
    · exact .junk _
  | func f => injection h with h; subst h; exact .clo #[] #[] rfl rfl (by simp) (by simp)

theorem opds_sound (hts : VRs L.P g w H ts a.tmps) (hG : GOk L g w H) : ∀ {xs : List Operand} {os : List Opd}, compL xs = some os → VRs L.P g w H (os.map (·.ev L ts)) (xs.map a.eval).toArray
  | [], os, h => by injection h with h; subst h; exact ⟨rfl, fun i a v h => by simp at h⟩
  | x :: xs, os, h => by
    simp only [compL] at h
    cases h1 : compOpd x with
    | none => simp [h1] at h
    | some o =>
      cases h2 : compL xs with
      | none => simp [h1, h2] at h
      | some os' =>
        simp [h1, h2] at h
        subst h
        have ih := opds_sound hts hG h2
        refine ⟨by simpa using ih.1, fun i b v hb hv => ?_⟩
        cases i with
        | zero =>
          simp at hb hv
          subst hb; subst hv
          exact opd_sound hts hG h1
        | succ i =>
          have hb' : (os'.map (·.ev L ts))[i]? = some b := by simpa using hb
          have hv' : (xs.map a.eval).toArray[i]? = some v := by simpa using hv
          exact ih.2 i b v hb' hv'
end

/-! ### plain values -/
section
variable {P : Program} {g : Gh} {w : World} {H : List AO}

theorem runP_sound {α : Type} {s : Sem α} {r : α} (h : runP P s = some r) (w : World) : s.run P w = .ok r w := by
  induction s with
  | pure a => injection h with h; subst h; rfl
  | program k ih => exact ih P h
  | _ => cases h

theorem flatL_sound {pm : Nat → Nat} : ∀ {cs : List Tr} {l : List Value}, flatL cs = some l → ∀ {vs : List Value}, vs.length = cs.length → (∀ (i : Nat) (c : Tr) (v : Value), cs[i]? = some c → vs[i]? = some v → VRt pm w c v) → vs = l
  | [], l, h, vs, hl, _ => by injection h with h; subst h; exact List.eq_nil_of_length_eq_zero hl
  | .v x :: cs, l, h, [], hl, _ => by simp at hl
  | .v x :: cs, l, h, v :: vs, hl, hv => by
    simp only [flatL, Option.map_eq_some_iff] at h
    obtain ⟨l', h1, h2⟩ := h
    subst h2
    have e1 : v = x := by
      have := hv 0 (.v x) v rfl rfl
      cases this; rfl
    have e2 : vs = l' := flatL_sound h1 (by simpa using hl) fun i c v hc hw => hv (i + 1) c v (by simpa using hc) (by simpa using hw)
    rw [e1, e2]
  | .sl _ :: _, _, h, _, _, _ => by cases h
  | .agg _ :: _, _, h, _, _, _ => by cases h

theorem flat_sound {pm : Nat → Nat} {x : Tr} {u v : Value} (h : x.flat = some u) (hv : VRt pm w x v) : v = u := by
  cases hv with
  | v x _ => injection h
  | sl => cases h
  | agg cs vs hl ho hv =>
    simp only [Tr.flat, Option.map_eq_some_iff] at h
    obtain ⟨l, h1, h2⟩ := h
    subst h2
    have : vs.toList = l := flatL_sound h1 (by simpa using hl) fun i c v hc hw => hv i c v hc (by simpa using hw)
    subst this
    simp

theorem ofR_sound {r : Value} {a : AV} (h : ofR r = some a) : VR P g w H a r := by
  unfold ofR at h
  split at h
  case isFalse => cases h
  rename_i hr
  injection h with h
  subst h
  cases r with
  | agg cs =>
    refine .t (.agg _ cs (by simp) (fun c hc => ?_) (fun i c v hc hv => ?_))
    · obtain ⟨x, _, rfl⟩ := List.mem_map.1 hc; rfl
    · have hv' : cs.toList[i]? = some v := by simpa using hv
      rw [List.getElem?_map, hv'] at hc
      injection hc with hc
      subst hc
      exact .v v (List.all_eq_true.1 hr v (List.mem_of_getElem? hv'))
  | _ => exact .t (.v _ hr)

theorem flat1_sound {f : Value → Sem Value} {a b : AV} (h : flat1 P f a = some b) {u : Value} (hu : VR P g w H a u) : ∃ r, (f u).run P w = .ok r w ∧ VR P g w H b r := by
  unfold flat1 at h
  split at h
  case h_2 => cases h
  rename_i x
  cases hu with
  | t hu =>
    obtain ⟨u', h1, h2⟩ := bind_some_iff.1 h
    obtain ⟨r, h3, h4⟩ := bind_some_iff.1 h2
    rw [flat_sound h1 hu]
    exact ⟨r, runP_sound h3 w, ofR_sound h4⟩

theorem flat2_sound {f : Value → Value → Sem Value} {a b c : AV} (h : flat2 P f a b = some c) {u v : Value} (hu : VR P g w H a u) (hv : VR P g w H b v) : ∃ r, runP P (f u v) = some r ∧ VR P g w H c r := by
  unfold flat2 at h
  split at h
  case h_2 => cases h
  cases hu with
  | t hu => cases hv with
    | t hv =>
      obtain ⟨u', h1, h2⟩ := bind_some_iff.1 h
      obtain ⟨v', h3, h4⟩ := bind_some_iff.1 h2
      obtain ⟨r, h5, h6⟩ := bind_some_iff.1 h4
      rw [flat_sound h1 hu, flat_sound h3 hv]
      exact ⟨r, h5, ofR_sound h6⟩

theorem runP_bind_some {α β : Type} {x : Sem α} {f : α → Sem β} {r : β} (h : runP P (x >>= f) = some r) : ∃ a, runP P x = some a ∧ runP P (f a) = some r := by
  have e : ∀ x : Sem α, runP P (x.bind f) = (runP P x).bind fun a => runP P (f a) := by
    intro x
    induction x with
    | pure a => rfl
    | program k ih => exact ih P
    | _ => rfl
  have h' : runP P (x.bind f) = some r := h
  rw [e] at h'
  exact bind_some_iff.1 h'

/-- The guard of an equality, asked with the strictest operands, lets the real ones by. -/
theorem eqGuard_any {op : BinOp} {t : TypeId} {u v : Value} (h : runP P (eqGuard op t (.tmp 0) (.tmp 0) u v) = some ()) (x y : Operand) : (eqGuard op t x y u v).run P w = .ok () w := by
  cases op <;> try exact runP_sound h w
  all_goals
    cases u <;> cases v <;> try exact runP_sound h w
  all_goals
    cases x <;> cases y <;> first
      | exact runP_sound h w
      | rfl

theorem bin_sound {op : BinOp} {t : TypeId} {a b c : AV} (h : binA P op t a b = some c) {u v : Value} (hu : VR P g w H a u) (hv : VR P g w H b v) (x y : Operand) :
    ∃ r, (do eqGuard op t x y u v; binOp op t u v : Sem Value).run P w = .ok r w ∧ VR P g w H c r := by
  obtain ⟨r, h1, h2⟩ := flat2_sound h hu hv
  obtain ⟨q, h3, h4⟩ := runP_bind_some h1
  refine ⟨r, ?_, h2⟩
  rw [Sem.run_bind, eqGuard_any h3 x y, Result.andThen_ok]
  exact runP_sound h4 w

/-! ### addresses -/
theorem add_none (b o n : Nat) : (⟨b, o, none⟩ : Addr).add n = ⟨b, o + n, none⟩ := Addr.add_lit b o n

theorem run_sizeOf' {t : TypeId} {i : TypeInfo} (h : P.info? t = some i) (w : World) : (sizeOf t).run P w = .ok i.size w := by simp [sizeOf, typeInfo, h]

/-- What a pointer leads to: its cells, read. -/
theorem loadA_cells (S : SR P g w H) {k : Option Nat} {p a : AV} (h : loadA H k p = some a) {v : Value} (hv : VR P g w H p v) :
    ∃ b o, v = .pointer (some ⟨b, o, none⟩) ∧ match k with
      | none => ∃ u, w.cell? ⟨b, o, none⟩ = some u ∧ VR P g w H a u
      | some n => ∃ us : List Value, us.length = n ∧ (∀ j u, us[j]? = some u → w.cell? ⟨b, o + j, none⟩ = some u) ∧ VR P g w H a (.agg us.toArray) := by
  -- pieces of a tree
  have piece : ∀ (cs : List Tr) (off : Nat) (u : Nat → Value) (b o : Nat), (∀ i, i < cs.length → w.cell? ⟨b, o + i, none⟩ = some (u i)) → (∀ c ∈ cs, c.one = true) →
      (∀ (i : Nat) (c : Tr), cs[i]? = some c → VRt g.pm w c (u i)) → takeT cs off k = some a → match k with
      | none => ∃ u, w.cell? ⟨b, o + off, none⟩ = some u ∧ VR P g w H a u
      | some n => ∃ us : List Value, us.length = n ∧ (∀ j u, us[j]? = some u → w.cell? ⟨b, o + off + j, none⟩ = some u) ∧ VR P g w H a (.agg us.toArray) := by
    intro cs off u b o hc ho hv ht
    cases k with
    | none =>
      simp only [takeT, Option.map_eq_some_iff] at ht
      obtain ⟨c, h1, rfl⟩ := ht
      exact ⟨u off, hc off (lt_of_get h1), .t (hv off c h1)⟩
    | some n =>
      simp only [takeT] at ht
      split at ht
      case isFalse => cases ht
      rename_i hn
      injection ht with ht
      subst ht
      refine ⟨(List.range n).map fun j => u (off + j), by simp, fun j x hx => ?_, .t (.agg _ _ (by simp; omega) (fun c hc => ho c (List.mem_of_mem_drop (List.mem_of_mem_take hc))) fun i c x hci hx => ?_)⟩
      · simp only [List.getElem?_map, Option.map_eq_some_iff] at hx
        obtain ⟨j', h1, rfl⟩ := hx
        have h2 := lt_of_get h1
        simp at h2
        have : j' = j := by rw [List.getElem?_range h2] at h1; injection h1 with h1; exact h1.symm
        subst this
        rw [Nat.add_assoc]
        exact hc _ (by omega)
      · rw [List.getElem?_take] at hci
        split at hci
        · rename_i hi
          rw [List.getElem?_drop] at hci
          have hx' : ((List.range n).map fun j => u (off + j))[i]? = some x := by simpa using hx
          simp only [List.getElem?_map, Option.map_eq_some_iff] at hx'
          obtain ⟨j', h1, rfl⟩ := hx'
          rw [List.getElem?_range hi] at h1
          injection h1 with h1
          subst h1
          exact hv _ _ hci
        · cases hci
  cases hv with
  | t h1 => cases h
  | win => cases h
  | clo => cases h
  | mix => cases h
  | tup => cases h
  | nils => cases h
  | emp => cases h
  | junk => cases h
  | it s pos b hH hl =>
    simp only [loadA, hH] at h
    cases h
  | @ptr r off cs b hH hl =>
    refine ⟨b, off, rfl, ?_⟩
    simp only [loadA, hH] at h
    obtain ⟨b', vs, e, h1, h2, h3, h4, h5, h6⟩ := S.ok r _ hH
    have hb : b' = b := by rw [hl] at h1; injection h1 with h1; injection h1 with h1; injection h1 with h1; exact h1.symm
    subst hb
    have hcell : ∀ i, w.cell? ⟨b', i, none⟩ = vs[i]? := fun i => cell_of_row w b' i vs e _ h2
    cases k with
    | none =>
      simp only [takeC] at h
      have hi : off < vs.size := by rw [h3]; exact lt_of_get h
      exact ⟨vs[off], by rw [hcell]; exact Array.getElem?_eq_getElem hi, h5 off a _ h (Array.getElem?_eq_getElem hi)⟩
    | some n =>
      simp only [takeC] at h
      split at h
      case isFalse => cases h
      rename_i hn
      injection h with h
      have hlen : ((vs.toList.drop off).take n).length = n := by simp; omega
      refine ⟨(vs.toList.drop off).take n, hlen, fun j u hu => ?_, ?_⟩
      · rw [List.getElem?_take] at hu
        split at hu
        · rw [List.getElem?_drop] at hu
          rw [hcell]
          simpa using hu
        · cases hu
      · have hrel : ∀ (i : Nat) (c : AV) (x : Value), ((cs.drop off).take n)[i]? = some c → ((vs.toList.drop off).take n)[i]? = some x → VR P g w H c x := by
          intro i c x hc hx
          rw [List.getElem?_take] at hc hx
          split at hc
          · rename_i hi
            rw [if_pos hi] at hx
            rw [List.getElem?_drop] at hc hx
            exact h5 _ c x hc (by simpa using hx)
          · cases hc
        have hone : ∀ c ∈ (cs.drop off).take n, c.one = true := fun c hc => h4 c (List.mem_of_mem_drop (List.mem_of_mem_take hc))
        have hl2 : ((cs.drop off).take n).length = n := by simp; omega
        generalize hcs : (cs.drop off).take n = cs' at *
        generalize hvs : (vs.toList.drop off).take n = vs' at *
        subst h
        unfold ofCells
        split
        · rename_i l hl
          -- all plain
          have key : ∀ (cs : List AV) (vs : List Value) (l : List Tr), fzL cs = some l → (∀ (i : Nat) (c : AV) (x : Value), cs[i]? = some c → vs[i]? = some x → VR P g w H c x) →
              l.length = cs.length ∧ (∀ c ∈ l, c.one = true) ∧ ∀ (i : Nat) (c : Tr) (x : Value), l[i]? = some c → vs[i]? = some x → VRt g.pm w c x := by
            intro cs
            induction cs with
            | nil => intro vs l h _; injection h with h; subst h; exact ⟨rfl, by simp, fun i c x h => by simp at h⟩
            | cons c cs ih =>
              intro vs l h hv
              have step : ∀ y : Tr, y.one = true → (∀ x : Value, vs[0]? = some x → VRt g.pm w y x) → (fzL cs).map (y :: ·) = some l → l.length = (c :: cs).length ∧ (∀ c ∈ l, c.one = true) ∧ ∀ (i : Nat) (c : Tr) (x : Value), l[i]? = some c → vs[i]? = some x → VRt g.pm w c x := by
                intro y hy1 hy2 hq
                obtain ⟨l', h1, h2⟩ := Option.map_eq_some_iff.1 hq
                subst h2
                obtain ⟨e1, e2, e3⟩ := ih vs.tail l' h1 fun i c x hc hx => hv (i + 1) c x (by simpa using hc) (by rw [List.getElem?_tail] at hx; exact hx)
                refine ⟨by simp [e1], fun d hd => ?_, fun i d x hd hx => ?_⟩
                · rcases List.mem_cons.1 hd with rfl | hd
                  · exact hy1
                  · exact e2 d hd
                · cases i with
                  | zero => simp at hd; subst hd; exact hy2 x hx
                  | succ i => exact e3 i d x (by simpa using hd) (by rw [List.getElem?_tail]; exact hx)
              cases c with
              | t y =>
                cases y with
                | v y => exact step _ rfl (fun x hx => by have := hv 0 _ x rfl hx; cases this with | t h => exact h) h
                | sl y => exact step _ rfl (fun x hx => by have := hv 0 _ x rfl hx; cases this with | t h => exact h) h
                | agg => cases h
              | nils => exact step (.sl []) rfl (fun x hx => by
                  have := hv 0 _ x rfl hx
                  cases this
                  exact .sl [] none 0 0 0 (fun _ _ => .nilFunc) rfl (Nat.le_refl _) (by simp) (by simp) (by simp) (by simp)) h
              | emp => cases h
              | win => cases h
              | ptr => cases h
              | ep => cases h
              | ip => cases h
              | clo => cases h
              | mix => cases h
              | tup => cases h
              | junk => cases h
          obtain ⟨e1, e2, e3⟩ := key _ vs' _ hl hrel
          exact .t (.agg l _ (by simp; omega) e2 fun i c x hc hx => e3 i c x hc (by simpa using hx))
        · exact .mix _ (by simp; omega) hone fun i c x hc hx => hrel i c x hc (by simpa using hx)
  | @ep r ver n j off _ h1 e v0 xs m d hH hv hh =>
    simp only [loadA, hH] at h
    by_cases hc : ver = v0 ∧ n = xs.length
    case neg => rw [if_neg hc] at h; cases h
    rw [if_pos hc] at h
    obtain ⟨x, hx, ht⟩ := bind_some_iff.1 h
    obtain ⟨rfl, rfl⟩ := hc
    obtain ⟨b, cap, hl, rfl⟩ := (hh rfl).2 rfl
    obtain ⟨i, z, cells, a1, a2, a3, a4, a5, a6, a7, a8, a9, a10, a11⟩ := S.ok r _ hH
    have hsz : P.cellsOf e = i.size := by simp [Program.cellsOf, a1]
    refine ⟨b, j * P.cellsOf e + off, rfl, ?_⟩
    rw [hsz]
    have hxl := a6 x (List.mem_of_getElem? hx)
    have hcell : ∀ q u, cells[q]? = some u → w.cell? ⟨b, q, none⟩ = some u := by
      intro q u hu
      have := a5.cells (g := b) (by rw [hl]; rfl) q u hu
      rwa [add_none, Nat.zero_add] at this
    refine piece x.cells off (fun k => cells.getD (j * i.size + k) .nilFunc) b (j * i.size) (fun k hk => ?_) (a7 x (List.mem_of_getElem? hx)) (fun k c hc => ?_) ht
    · obtain ⟨u, hu, _⟩ := a8 j x k _ hx (List.getElem?_eq_getElem hk)
      rw [hcell _ _ hu]
      simp [List.getD, hu]
    · obtain ⟨u, hu, hv⟩ := a8 j x k c hx hc
      simpa [List.getD, hu] using hv
  | @ip cs b o u hc ho hv =>
    refine ⟨b, o, rfl, ?_⟩
    simp only [loadA] at h
    have := piece cs 0 u b o (fun i hi => (hc i hi).1) ho hv h
    simpa using this

theorem run_loadVar {k : Option Nat} {t : TypeId} (hk : aggK P t = some k) {b o : Nat} {a : AV}
    (h : match k with
      | none => ∃ u, w.cell? ⟨b, o, none⟩ = some u ∧ VR P g w H a u
      | some n => ∃ us : List Value, us.length = n ∧ (∀ j u, us[j]? = some u → w.cell? ⟨b, o + j, none⟩ = some u) ∧ VR P g w H a (.agg us.toArray)) :
    ∃ v, (loadVar t ⟨b, o, none⟩).run P w = .ok v w ∧ VR P g w H a v := by
  unfold aggK at hk
  split at hk
  · rename_i fs i hu hi
    injection hk with hk
    subst hk
    obtain ⟨us, h1, h2, h3⟩ := h
    refine ⟨_, ?_, h3⟩
    have hl := run_loadCells_list (P := P) w ⟨b, o, none⟩ us fun j v hj => by rw [add_none]; exact h2 j v hj
    rw [h1] at hl
    simp [loadVar, isAgg, run_underlying hu, run_sizeOf' hi, hl]
  · rename_i x e i hu hi
    injection hk with hk
    subst hk
    obtain ⟨us, h1, h2, h3⟩ := h
    refine ⟨_, ?_, h3⟩
    have hl := run_loadCells_list (P := P) w ⟨b, o, none⟩ us fun j v hj => by rw [add_none]; exact h2 j v hj
    rw [h1] at hl
    simp [loadVar, isAgg, run_underlying hu, run_sizeOf' hi, hl]
  · rename_i d i hn1 hn2 hu hi
    split at hk
    case isFalse => cases hk
    injection hk with hk
    subst hk
    obtain ⟨u, h1, h2⟩ := h
    refine ⟨u, ?_, h2⟩
    have hagg : (isAgg t).run P w = .ok false w := by
      unfold isAgg
      rw [Sem.run_bind, run_underlying hu w, Result.andThen_ok]
      cases d <;> first | rfl | exact absurd rfl (hn1 _) | exact absurd rfl (hn2 _ _)
    simp [loadVar, hagg, h1]
  · cases hk
end
end Go.Proofs.YtgehpjjpeddomaaGreatDoor
/- The evaluator is true to the model: the operations, second part: freezing, structs, stores. -/
namespace Go.Proofs.YtgehpjjpeddomaaGreatDoor
open Go Go.Lib

section
variable {P : Program} {g : Gh} {w : World} {H : List AO}

/-! ### cells of values -/
theorem cells_one {v : Value} (h : v.oneCell' = true) : v.cells = #[v] := by
  cases v <;> first | rfl | (simp [Value.oneCell'] at h)

theorem tr_cells_one {x : Tr} (h : x.one = true) : x.cells = [x] := by
  cases x <;> first | rfl | (simp [Tr.one] at h)

theorem vrt_cells {pm : Nat → Nat} {x : Tr} {v : Value} (h : VRt pm w x v) : v.cells.size = x.cells.length ∧ (∀ c ∈ x.cells, c.one = true) ∧
    ∀ (i : Nat) (c : Tr) (u : Value), x.cells[i]? = some c → v.cells[i]? = some u → VRt pm w c u := by
  cases h with
  | v x h1 =>
    rw [cells_one h1]
    refine ⟨rfl, fun c hc => by simp [Tr.cells] at hc; subst hc; rfl, fun i c u hc hu => ?_⟩
    cases i with
    | zero => simp [Tr.cells] at hc hu; subst hc; subst hu; exact .v _ h1
    | succ i => simp [Tr.cells] at hc
  | sl xs a n cap sz u hn hcap hsz ho ha hv =>
    refine ⟨rfl, fun c hc => by simp [Tr.cells] at hc; subst hc; rfl, fun i c u' hc hu => ?_⟩
    cases i with
    | zero => simp [Tr.cells, Value.cells] at hc hu; subst hc; subst hu; exact .sl xs a n cap sz u hn hcap hsz ho ha hv
    | succ i => simp [Tr.cells] at hc
  | agg cs vs hl ho hv => exact ⟨hl, ho, hv⟩

theorem vr_cells {a : AV} {v : Value} (hok : a.ok = true) (h : VR P g w H a v) : VRs P g w H a.cells v.cells ∧ ∀ c ∈ a.cells, c.one = true := by
  have one : ∀ {a : AV} {v : Value}, a.cells = [a] → a.one = true → VR P g w H a v → VRs P g w H a.cells v.cells ∧ ∀ c ∈ a.cells, c.one = true := by
    intro a v e h1 h
    rw [e, cells_one (h.oneCell h1)]
    refine ⟨⟨rfl, fun i c u hc hu => ?_⟩, fun c hc => by simp at hc; subst hc; exact h1⟩
    cases i with
    | zero => simp at hc hu; subst hc; subst hu; exact h
    | succ i => simp at hc
  cases a with
  | t x =>
    cases h with
    | t h =>
      obtain ⟨h1, h2, h3⟩ := vrt_cells h
      refine ⟨⟨by simpa [AV.cells] using h1, fun i c u hc hu => ?_⟩, fun c hc => ?_⟩
      · simp only [AV.cells, List.getElem?_map, Option.map_eq_some_iff] at hc
        obtain ⟨y, hy, rfl⟩ := hc
        exact .t (h3 i y u hy hu)
      · simp only [AV.cells, List.mem_map] at hc
        obtain ⟨y, hy, rfl⟩ := hc
        exact h2 y hy
  | win => exact one rfl rfl h
  | ptr => exact one rfl rfl h
  | ep => exact one rfl rfl h
  | ip => exact one rfl rfl h
  | clo => exact one rfl rfl h
  | nils => exact one rfl rfl h
  | emp => exact one rfl rfl h
  | mix cs => cases h with | mix vs h1 ho h2 => exact ⟨⟨h1, h2⟩, ho⟩
  | tup => cases hok
  | junk => cases hok

theorem VRs.one {cs : List AV} {vs : Array Value} (h : VRs P g w H cs vs) (h1 : ∀ c ∈ cs, c.one = true) : ∀ u ∈ vs.toList, u.oneCell' = true := by
  intro u hu
  obtain ⟨i, hi, rfl⟩ := List.getElem_of_mem hu
  have hi' : i < vs.size := by simpa using hi
  have hc : cs[i]? = some (cs[i]'(by rw [← h.1]; exact hi')) := List.getElem?_eq_getElem _
  have := h.2 i _ (vs[i]) hc (Array.getElem?_eq_getElem hi')
  simpa using this.oneCell (h1 _ (List.mem_of_getElem? hc))

/-! ### freezing -/
theorem fz_step {g' : Gh} {H' : List AO} (T : Stp P g w H g' w H') {x : Tr} {v : Value} (h : VRt g.pm w x v) : VRt g'.pm w x v := h.mono T.ext.pm fun _ _ _ => rfl

theorem fzC_sound : ∀ (cs : List AV) (g : Gh) (H : List AO), SR P g w H → ∀ (vs : List Value), vs.length = cs.length → (∀ (i : Nat) (a : AV) (v : Value), cs[i]? = some a → vs[i]? = some v → VR P g w H a v) →
    ∀ (l : List Tr) (H' : List AO), fzC cs H = some (l, H') → ∃ g', Stp P g w H g' w H' ∧ l.length = cs.length ∧ (∀ c ∈ l, c.one = true) ∧ ∀ (i : Nat) (c : Tr) (v : Value), l[i]? = some c → vs[i]? = some v → VRt g'.pm w c v
  | [], g, H, S, vs, hl, hv, l, H', h => by
    injection h with h
    injection h with h1 h2
    subst h1; subst h2
    exact ⟨g, .refl S, rfl, by simp, fun i c v hc => by simp at hc⟩
  | a :: cs, g, H, S, [], hl, hv, l, H', h => by simp at hl
  | a :: cs, g, H, S, v :: vs, hl, hv, l, H', h => by
    have hv0 := hv 0 a v rfl rfl
    have hv1 : ∀ (i : Nat) (a : AV) (u : Value), cs[i]? = some a → vs[i]? = some u → VR P g w H a u := fun i a u ha hu => hv (i + 1) a u (by simpa using ha) (by simpa using hu)
    have plain : ∀ x : Tr, VRt g.pm w x v → x.one = true → (fzC cs H).map (fun q => (x :: q.1, q.2)) = some (l, H') →
        ∃ g', Stp P g w H g' w H' ∧ l.length = (a :: cs).length ∧ (∀ c ∈ l, c.one = true) ∧ ∀ (i : Nat) (c : Tr) (u : Value), l[i]? = some c → (v :: vs)[i]? = some u → VRt g'.pm w c u := by
      intro x ex hx hq
      obtain ⟨⟨l', H''⟩, h1, h2⟩ := Option.map_eq_some_iff.1 hq
      injection h2 with h3 h4
      subst h3; subst h4
      obtain ⟨g', T, e1, e2, e3⟩ := fzC_sound cs g H S vs (by simpa using hl) hv1 l' H'' h1
      refine ⟨g', T, by simp [e1], fun c hc => ?_, fun i c u hc hu => ?_⟩
      · rcases List.mem_cons.1 hc with rfl | hc
        · exact hx
        · exact e2 c hc
      · cases i with
        | zero =>
          simp at hc hu
          subst hc; subst hu
          exact fz_step T ex
        | succ i => exact e3 i c u (by simpa using hc) (by simpa using hu)
    cases a with
    | t x =>
      cases hv0 with
      | t hv0 =>
        cases x with
        | v x => exact plain _ hv0 rfl h
        | sl xs => exact plain _ hv0 rfl h
        | agg => cases h
    | nils =>
      cases hv0
      exact plain (.sl []) (.sl [] none 0 0 0 (fun _ _ => .nilFunc) rfl (Nat.le_refl _) (by simp) (by simp) (by simp) (by simp)) rfl h
    | emp => cases h
    | win r ver n =>
      simp only [fzC] at h
      obtain ⟨⟨x, H1⟩, h1, h2⟩ := bind_some_iff.1 h
      simp only [Option.map_eq_some_iff] at h2
      obtain ⟨⟨l', H''⟩, h3, h4⟩ := h2
      injection h4 with h5 h6
      subst h5; subst h6
      obtain ⟨g1, T1, hx⟩ := freeze_win S hv0 h1
      obtain ⟨g', T, e1, e2, e3⟩ := fzC_sound cs g1 H1 T1.sr vs (by simpa using hl) (fun i a u ha hu => (hv1 i a u ha hu).ext T1.ext) l' H'' h3
      have hxs : ∃ ys, x = .sl ys := by
        unfold fzW at h1
        split at h1
        · split at h1
          · injection h1 with h1; injection h1 with h1; exact ⟨_, h1.symm⟩
          · cases h1
        · cases h1
      obtain ⟨ys, rfl⟩ := hxs
      refine ⟨g', T1.trans T, by simp [e1], fun c hc => ?_, fun i c u hc hu => ?_⟩
      · rcases List.mem_cons.1 hc with rfl | hc
        · rfl
        · exact e2 c hc
      · cases i with
        | zero =>
          simp at hc hu
          subst hc; subst hu
          exact fz_step T hx
        | succ i => exact e3 i c u (by simpa using hc) (by simpa using hu)
    | ptr => cases h
    | ep => cases h
    | ip => cases h
    | clo => cases h
    | mix => cases h
    | tup => cases h
    | junk => cases h

theorem fz_sound (S : SR P g w H) {a : AV} {v : Value} (hv : VR P g w H a v) {x : Tr} {H' : List AO} (h : fz a H = some (x, H')) : ∃ g', Stp P g w H g' w H' ∧ VRt g'.pm w x v := by
  cases a with
  | t y =>
    injection h with h
    injection h with h1 h2
    subst h1; subst h2
    cases hv with
    | t hv => exact ⟨g, .refl S, hv⟩
  | win r ver n => exact freeze_win S hv h
  | nils =>
    injection h with h
    injection h with h1 h2
    subst h1; subst h2
    cases hv
    exact ⟨g, .refl S, .sl [] none 0 0 0 (fun _ _ => .nilFunc) rfl (Nat.le_refl _) (by simp) (by simp) (by simp) (by simp)⟩
  | emp =>
    injection h with h
    injection h with h1 h2
    subst h1; subst h2
    cases hv with
    | emp nl A c hA => exact ⟨g, .refl S, .sl [] A 0 c 0 (fun _ _ => .nilFunc) rfl (Nat.zero_le _) (by simp) (by simp) (by simp) (by simp)⟩
  | mix cs =>
    simp only [fz, Option.map_eq_some_iff] at h
    obtain ⟨⟨l, H''⟩, h1, h2⟩ := h
    injection h2 with h3 h4
    subst h3; subst h4
    cases hv with
    | mix vs e1 ho e2 =>
      obtain ⟨g', T, f1, f2, f3⟩ := fzC_sound cs g H S vs.toList (by simpa using e1) (fun i a u ha hu => e2 i a u ha (by simpa using hu)) l H'' h1
      exact ⟨g', T, .agg l vs (by rw [f1]; exact e1) f2 fun i c u hc hu => f3 i c u hc (by simpa using hu)⟩
  | ptr => cases h
  | ep => cases h
  | ip => cases h
  | clo => cases h
  | tup => cases h
  | junk => cases h

theorem fzs_sound : ∀ (as : List AV) (g : Gh) (H : List AO), SR P g w H → ∀ (vs : List Value), vs.length = as.length → (∀ (i : Nat) (a : AV) (v : Value), as[i]? = some a → vs[i]? = some v → VR P g w H a v) →
    ∀ (l : List Tr) (H' : List AO), fzs as H = some (l, H') → ∃ g', Stp P g w H g' w H' ∧ l.length = as.length ∧ ∀ (i : Nat) (c : Tr) (v : Value), l[i]? = some c → vs[i]? = some v → VRt g'.pm w c v
  | [], g, H, S, vs, hl, hv, l, H', h => by
    injection h with h
    injection h with h1 h2
    subst h1; subst h2
    exact ⟨g, .refl S, rfl, fun i c v hc => by simp at hc⟩
  | a :: as, g, H, S, [], hl, hv, l, H', h => by simp at hl
  | a :: as, g, H, S, v :: vs, hl, hv, l, H', h => by
    simp only [fzs] at h
    obtain ⟨⟨x, H1⟩, h1, h2⟩ := bind_some_iff.1 h
    simp only [Option.map_eq_some_iff] at h2
    obtain ⟨⟨l', H''⟩, h3, h4⟩ := h2
    injection h4 with h5 h6
    subst h5; subst h6
    obtain ⟨g1, T1, hx⟩ := fz_sound S (hv 0 a v rfl rfl) h1
    obtain ⟨g', T, e1, e3⟩ := fzs_sound as g1 H1 T1.sr vs (by simpa using hl) (fun i a u ha hu => (hv (i + 1) a u (by simpa using ha) (by simpa using hu)).ext T1.ext) l' H'' h3
    refine ⟨g', T1.trans T, by simp [e1], fun i c u hc hu => ?_⟩
    cases i with
    | zero =>
      simp at hc hu
      subst hc; subst hu
      exact fz_step T hx
    | succ i => exact e3 i c u (by simpa using hc) (by simpa using hu)

theorem frz_sound (S : SR P g w H) {a : AV} {v : Value} (hv : VR P g w H a v) : ∃ g', Stp P g w H g' w (frz a H).2 ∧ VR P g' w (frz a H).2 (frz a H).1 v := by
  unfold frz
  split
  · rename_i x H' h
    obtain ⟨g', T, hx⟩ := fz_sound S hv h
    exact ⟨g', T, .t hx⟩
  · exact ⟨g, .refl S, hv⟩

/-! ### cells written -/
theorem put_eq_set (ts : List AV) (n : Nat) (v : AV) : put ts n v = ts.set n v := by
  induction ts generalizing n with
  | nil => rfl
  | cons x xs ih => cases n with
    | zero => rfl
    | succ n => simp [put, ih]

theorem VRs.put {ts : List AV} {tmps : Array Value} (h : VRs P g w H ts tmps) (n : Nat) {a : AV} {v : Value} (hv : VR P g w H a v) : VRs P g w H (put ts n a) (tmps.setIfInBounds n v) := by
  rw [put_eq_set]
  refine ⟨by simpa using h.1, fun i b u hb hu => ?_⟩
  rw [List.getElem?_set] at hb
  rw [Array.getElem?_setIfInBounds] at hu
  split at hb
  · rename_i hi
    rw [if_pos hi] at hu
    split at hb
    · injection hb with hb
      subst hb
      split at hu
      · injection hu with hu; subst hu; exact hv
      · cases hu
    · cases hb
  · rename_i hi
    rw [if_neg hi] at hu
    exact h.2 i b u hb hu

def valSet : Array Value → Nat → List Value → Array Value
  | z, _, [] => z
  | z, off, v :: r => valSet (z.setIfInBounds off v) (off + 1) r

theorem valSet_size (z : Array Value) (off : Nat) (vs : List Value) : (valSet z off vs).size = z.size := by
  induction vs generalizing z off with
  | nil => rfl
  | cons v vs ih => rw [valSet, ih]; simp

theorem setC_sound {z : List AV} {zs : Array Value} (h : VRs P g w H z zs) (off : Nat) : ∀ (cs : List AV) (vs : List Value), vs.length = cs.length → (∀ (i : Nat) (a : AV) (v : Value), cs[i]? = some a → vs[i]? = some v → VR P g w H a v) →
    VRs P g w H (setC z off cs) (valSet zs off vs) := by
  intro cs
  induction cs generalizing z zs off with
  | nil => intro vs hl _; rw [List.eq_nil_of_length_eq_zero hl]; exact h
  | cons c cs ih =>
    intro vs hl hv
    cases vs with
    | nil => simp at hl
    | cons v vs => exact ih (h.put off (hv 0 c v rfl rfl)) (off + 1) vs (by simpa using hl) fun i a u ha hu => hv (i + 1) a u (by simpa using ha) (by simpa using hu)

theorem setC_length (z : List AV) (off : Nat) (cs : List AV) : (setC z off cs).length = z.length := by
  induction cs generalizing z off with
  | nil => rfl
  | cons c cs ih => rw [setC, ih, put_eq_set]; simp

theorem setC_one {z : List AV} (h : ∀ c ∈ z, c.one = true) (off : Nat) : ∀ (cs : List AV), (∀ c ∈ cs, c.one = true) → ∀ c ∈ setC z off cs, c.one = true := by
  intro cs
  induction cs generalizing z off with
  | nil => intro _; exact h
  | cons c cs ih =>
    intro hc
    refine ih (fun d hd => ?_) (off + 1) fun d hd => hc d (by simp [hd])
    rw [put_eq_set] at hd
    rcases List.mem_or_eq_of_mem_set hd with hd | rfl
    · exact h d hd
    · exact hc _ (by simp)

theorem valSet_fold (z : Array Value) (off k : Nat) (l : List Value) : (l.zipIdx k).foldl (fun cs (p : Value × Nat) => cs.setIfInBounds (off + p.2) p.1) z = valSet z (off + k) l := by
  induction l generalizing z k with
  | nil => rfl
  | cons v l ih => simp only [List.zipIdx_cons, List.foldl_cons, valSet]; rw [ih]; rfl

theorem valSet_seg (z : Array Value) : ∀ (off : Nat) (vs : List Value), off + vs.length ≤ z.size → valSet z off vs = (z.toList.take off ++ vs ++ z.toList.drop (off + vs.length)).toArray := by
  intro off vs
  induction vs generalizing z off with
  | nil => intro _; simp [valSet]
  | cons v vs ih =>
    intro hl
    have hl' : off + 1 + vs.length ≤ z.size := by simp at hl; omega
    rw [valSet, ih _ _ (by simpa using hl')]
    have e := list_seg_step z.toList off v vs (by simpa using hl)
    congr 1
    simpa [Array.toList_setIfInBounds, Nat.add_assoc, Nat.add_comm, Nat.add_left_comm] using e

/-! ### a struct is built -/
theorem fill_sound (place : Nat → Option (Nat × Nat)) : ∀ (ps : List (Nat × Nat × AV)) (vps : List (Nat × Value)) (z : List AV) (zs : Array Value), VRs P g w H z zs → (∀ c ∈ z, c.one = true) → vps.length = ps.length →
    (∀ (i : Nat) (p : Nat × Nat × AV) (q : Nat × Value), ps[i]? = some p → vps[i]? = some q → place q.1 = some (p.1, p.2.1) ∧ VR P g w H p.2.2 q.2) →
    ∀ cs, fillC z ps = some cs → ∃ cells, Instr.fill place zs vps = some cells ∧ VRs P g w H cs cells ∧ ∀ c ∈ cs, c.one = true
  | [], vps, z, zs, hz, h1, hl, _, cs, h => by
    injection h with h
    subst h
    rw [List.eq_nil_of_length_eq_zero hl]
    exact ⟨zs, rfl, hz, h1⟩
  | p :: ps, [], z, zs, hz, h1, hl, _, cs, h => by simp at hl
  | (off, sz, a) :: ps, (i, v) :: vps, z, zs, hz, h1, hl, hp, cs, h => by
    simp only [fillC] at h
    split at h
    case isFalse => cases h
    rename_i hc
    obtain ⟨hok, hsz, hoff⟩ := hc
    obtain ⟨e1, e2⟩ := hp 0 (off, sz, a) (i, v) rfl rfl
    obtain ⟨hcs, hone⟩ := vr_cells hok e2
    have hvs : v.cells.size = sz := by rw [hcs.1]; exact hsz
    have step := setC_sound hz off a.cells v.cells.toList (by simpa using hcs.1) fun i a u ha hu => hcs.2 i a u ha (by simpa using hu)
    obtain ⟨cells, f1, f2, f3⟩ := fill_sound place ps vps _ _ step (setC_one h1 off _ hone) (by simpa using hl) (fun i p q hp' hq => hp (i + 1) p q (by simpa using hp') (by simpa using hq)) cs h
    refine ⟨cells, ?_, f2, f3⟩
    simp only [Instr.fill, show place i = some (off, sz) from e1]
    have hb : (decide (v.cells.size ≠ sz) || decide (off + v.cells.size > zs.size)) = false := by
      have := hz.1
      simp [hvs]; omega
    rw [if_neg (by simpa using hb)]
    have hf := valSet_fold zs off 0 v.cells.toList
    rw [Nat.add_zero] at hf
    rw [← f1, ← hf]
    congr 1
    rw [← Array.foldl_toList]
    simp [Array.toList_zipIdx]
end
end Go.Proofs.YtgehpjjpeddomaaGreatDoor
/- The evaluator is true to the model: the operations, third part: slices read, cut, written, appended to. -/
namespace Go.Proofs.YtgehpjjpeddomaaGreatDoor
open Go Go.Lib

section
variable {P : Program} {g : Gh} {w : World} {H : List AO}

/-- A slice that is read: where its cells lie. -/
def Src (g : Gh) (w : World) (ys : List Tr) (v : Value) : Prop :=
  ∃ a c sz, ∃ u : Nat → Nat → Value, v = .slice a ys.length c ∧ ys.length ≤ c ∧ (∀ x ∈ ys, x.cells.length = sz) ∧ (∀ x ∈ ys, ∀ c ∈ x.cells, c.one = true) ∧
    (ys ≠ [] → ∃ b o, a = some ⟨b, o, none⟩ ∧ ∀ j i, j < ys.length → i < sz → w.cell? ⟨b, o + (j * sz + i), none⟩ = some (u j i)) ∧
    (∀ (j : Nat) (x : Tr) (i : Nat) (c : Tr), ys[j]? = some x → x.cells[i]? = some c → VRt g.pm w c (u j i))

theorem src_of_vrt {ys : List Tr} {v : Value} (h : VRt g.pm w (.sl ys) v) : Src g w ys v := by
  cases h with
  | sl xs a n cap sz u hn hc hsz ho ha hv =>
    subst hn
    exact ⟨a, cap, sz, u, rfl, hc, hsz, ho, fun hne => by
      obtain ⟨b, o, e, h⟩ := ha hne
      exact ⟨b, o, e, fun j i hj hi => (h j i hj hi).1⟩, hv⟩

theorem src_sound (S : SR P g w H) {a : AV} {v : Value} (hv : VR P g w H a v) {ys : List Tr} (h : lookS H a = some ys) : Src g w ys v := by
  cases a with
  | t x =>
    cases x with
    | sl xs => injection h with h; subst h; cases hv with | t hv => exact src_of_vrt hv
    | v => cases h
    | agg => cases h
  | win r ver n =>
    simp only [lookS, fzW] at h
    obtain ⟨⟨x, H'⟩, h1, h2⟩ := bind_some_iff.1 h
    split at h1
    case h_2 => cases h1
    rename_i e v0 xs m d hr
    by_cases hc : ver = v0 ∧ d ≤ n ∧ n ≤ xs.length
    case neg => rw [if_neg hc] at h1; cases h1
    rw [if_pos hc] at h1
    injection h1 with h1
    injection h1 with h3 h4
    subst h3
    injection h2 with h2
    subst h2
    obtain ⟨rfl, hd, _⟩ := hc
    obtain ⟨hn, hat⟩ := win_open hv hr hd
    obtain ⟨i, z, cells, a1, a2, a3, a4, a5, a6, a7, a8, a9, a10, a11⟩ := arr_open S hr
    have hlen : (xs.take n).length = n := by simp; omega
    have hat' : (∃ A len cap cap', g.loc r = .slice A len cap ∧ v = .slice A n cap' ∧ n ≤ cap') ∨ VRt g.pm w (.sl (xs.take n)) v := by
      rcases hat with ⟨e1, e2⟩ | ⟨_, h⟩
      · rcases a5.2 with ⟨e3, e4⟩ | ⟨b, cap', cur, e3, _, _, h3, _⟩
        · exact .inl ⟨none, 0, 0, 0, e3, by rw [e2, e3, e1, e4], by omega⟩
        · exact .inl ⟨_, _, _, cap', e3, by rw [e2, e3, e1], by omega⟩
      · exact h
    rcases hat' with ⟨A, len, cap, capv, e1, rfl, hcv⟩ | hv
    · refine ⟨A, capv, i.size, fun j k => cells.getD (j * i.size + k) .nilFunc, by rw [hlen], by rw [hlen]; exact hcv, fun x hx => a6 x (mem_take hx), fun x hx => a7 x (mem_take hx), fun hne => ?_, fun j x k c hx hc => ?_⟩
      · have hne' : 0 < n := by
          rcases Nat.eq_zero_or_pos n with h0 | h0
          · subst h0; simp at hne
          · exact h0
        obtain ⟨b, eb⟩ : ∃ b, A = some ⟨b, 0, none⟩ := by
          rcases a5.2 with ⟨e3, e4⟩ | ⟨b, cap', cur, e3, _⟩
          · omega
          · rw [e1] at e3; injection e3 with e5; exact ⟨b, e5⟩
        subst eb
        refine ⟨b, 0, rfl, fun j k hj hk => ?_⟩
        rw [hlen] at hj
        have hjl : j < xs.length := by omega
        have hk' : k < xs[j].cells.length := by rw [a6 _ (List.getElem_mem hjl)]; exact hk
        obtain ⟨u, hu, _⟩ := a8 j _ k _ (List.getElem?_eq_getElem hjl) (List.getElem?_eq_getElem hk')
        have := a5.cells (g := b) (by rw [e1]; rfl) _ u hu
        rw [add_none] at this
        rw [this]
        simp [List.getD, hu]
      · rw [List.getElem?_take] at hx
        split at hx
        · obtain ⟨u, hu, hv⟩ := a8 j x k c hx hc
          simpa [List.getD, hu] using hv
        · cases hx
    · exact src_of_vrt hv
  | ptr => cases h
  | ep => cases h
  | ip => cases h
  | clo => cases h
  | mix => cases h
  | tup => cases h
  | nils =>
    injection h with h
    subst h
    cases hv
    exact ⟨none, 0, 0, fun _ _ => .nilFunc, rfl, Nat.le_refl _, by simp, by simp, by simp, by simp⟩
  | emp =>
    injection h with h
    subst h
    cases hv with
    | emp nl A c hA => exact ⟨A, c, 0, fun _ _ => .nilFunc, rfl, Nat.zero_le _, by simp, by simp, by simp, by simp⟩
  | junk => cases h

/-- A source's cells, in a row. -/
theorem src_news {ys : List Tr} {v : Value} (h : Src g w ys v) {size : Nat} (hsize : 0 < size) (hs : ∀ y ∈ ys, y.cells.length = size) : ∃ (a : Option Addr) (c : Nat) (news : List Value), v = .slice a ys.length c ∧ ys.length ≤ c ∧ news.length = ys.length * size ∧
    (0 < ys.length → ∃ ad, a = some ad ∧ ∀ (j : Nat) (u : Value), news[j]? = some u → w.cell? (ad.add j) = some u) ∧ (∀ u ∈ news, u.oneCell' = true) ∧
    (∀ (j : Nat) (x : Tr) (k : Nat) (c : Tr), ys[j]? = some x → x.cells[k]? = some c → ∃ u, news[j * size + k]? = some u ∧ VRt g.pm w c u) := by
  obtain ⟨a, c, sz, u, e, hc, hsz, ho, hb, hv⟩ := h
  have hnews : ∀ j x k, ys[j]? = some x → k < size → ((List.range (ys.length * size)).map fun q => u (q / size) (q % size))[j * size + k]? = some (u j k) := by
    intro j x k hx hk
    have hj := lt_of_get hx
    have hlt := cells_index hk ys.length hj
    rw [List.getElem?_map, List.getElem?_range hlt]
    have e1 : (j * size + k) / size = j := by rw [Nat.mul_comm, Nat.mul_add_div hsize, Nat.div_eq_of_lt hk, Nat.add_zero]
    have e2 : (j * size + k) % size = k := by rw [Nat.mul_comm, Nat.mul_add_mod, Nat.mod_eq_of_lt hk]
    simp [e1, e2]
  refine ⟨a, c, (List.range (ys.length * size)).map fun q => u (q / size) (q % size), e, hc, by simp, fun hpos => ?_, fun x hx => ?_, fun j x k c hx hc => ?_⟩
  · have hne : ys ≠ [] := by intro h0; subst h0; simp at hpos
    obtain ⟨b, o, e1, hcell⟩ := hb hne
    have hszs : sz = size := by
      obtain ⟨y, r, rfl⟩ := List.exists_cons_of_ne_nil hne
      rw [← hsz y (by simp), hs y (by simp)]
    subst hszs
    refine ⟨_, e1, fun j x hx => ?_⟩
    rw [List.getElem?_map] at hx
    obtain ⟨q, h1, h2⟩ := Option.map_eq_some_iff.1 hx
    have hq := lt_of_get h1
    simp at hq
    rw [List.getElem?_range hq] at h1
    injection h1 with h1
    subst h1
    subst h2
    rw [add_none]
    have hj : j / sz < ys.length := by rw [Nat.div_lt_iff_lt_mul hsize]; exact hq
    have := hcell (j / sz) (j % sz) hj (Nat.mod_lt _ hsize)
    rwa [Nat.mul_comm, Nat.div_add_mod] at this
  · obtain ⟨q, h1, rfl⟩ := List.mem_map.1 hx
    have hq : q < ys.length * size := by simpa using h1
    have hj : q / size < ys.length := by rw [Nat.div_lt_iff_lt_mul hsize]; exact hq
    have hy : ys[q / size]? = some ys[q / size] := List.getElem?_eq_getElem hj
    have hk : q % size < ys[q / size].cells.length := by rw [hs _ (List.getElem_mem hj)]; exact Nat.mod_lt _ hsize
    exact (hv _ _ _ _ hy (List.getElem?_eq_getElem hk)).oneCell (ho _ (List.getElem_mem hj) _ (List.getElem_mem hk))
  · have hk : k < size := by have := lt_of_get hc; rw [hs x (List.mem_of_getElem? hx)] at this; exact this
    exact ⟨u j k, hnews j x k hx hk, hv j x k c hx hc⟩

/-! ### append -/
theorem win_front (S : SR P g w H) {r ver e m d : Nat} {v : Value} {xs : List Tr} (h : VR P g w H (.win r ver xs.length) v) (hr : H[r]? = some (.arr e ver xs m d)) : v = g.loc r := by
  obtain ⟨_, _, _, _, _, _, _, _, _, _, _, _, hd, _⟩ := arr_open S hr
  rcases (win_open h hr hd).2 with ⟨_, h⟩ | ⟨h, _⟩
  · exact h
  · omega

theorem stp_newArr (S : SR P g w H) {e : TypeId} {i : TypeInfo} {z : Value} (hi : P.info? e = some i) (hz : i.zero = some z) (hzs : z.cells.size = i.size) (hsz : 0 < i.size) :
    Stp P g w H (g.put H.length (.slice none 0 0)) w (H ++ [.arr e 0 [] 0 0]) := by
  have E : Ext P g w H (g.put H.length (.slice none 0 0)) w (H ++ [.arr e 0 [] 0 0]) := by
    refine ⟨fun _ => Nat.le_refl _, fun _ _ _ => rfl, by simp, fun r cs h => ⟨⟨cs, (getElem?_append_lt (lt_of_get h)).trans h⟩, g.put_other _ (Nat.ne_of_lt (lt_of_get h))⟩,
      fun r s p h => ⟨⟨p, (getElem?_append_lt (lt_of_get h)).trans h⟩, g.put_other _ (Nat.ne_of_lt (lt_of_get h))⟩, fun r e ver xs m d h => ?_⟩
    have hl := g.put_other (.slice none 0 0) (Nat.ne_of_lt (lt_of_get h))
    exact ⟨ver, xs, m, d, (getElem?_append_lt (lt_of_get h)).trans h, Nat.le_refl _, fun _ => ⟨Nat.le_refl _, Nat.le_refl _, fun _ => hl, fun n u _ _ hw => by rw [hl]; exact hw⟩⟩
  refine ⟨S.step E (fun r y hy => ?_) (fun r r' b hr hr' hb hb' => ?_) (fun r b hr hb => ?_) S.new, E, rfl, rfl, rfl, Nat.le_refl _, fun b _ _ => ⟨rfl, rfl⟩, fun r b hr hb => ?_⟩
  · rcases Nat.lt_or_ge r H.length with h | h
    · exact .inl ⟨(getElem?_append_lt h).symm.trans hy, g.put_other _ (Nat.ne_of_lt h), fun b hb => ⟨rfl, rfl⟩⟩
    · have : r = H.length := by have := lt_of_get hy; simp at this; omega
      subst this
      have : y = .arr e 0 [] 0 0 := by simpa using hy.symm
      subst this
      exact .inr ⟨i, z, [], hi, hz, hzs, hsz, by rw [g.put_same]; exact World.ownsRow_nil .., by simp, by simp, by simp, by simp, by simp, fun b hb => by rw [g.put_same] at hb; cases hb⟩
  · simp at hr hr'
    rcases Nat.lt_or_ge r H.length with h | h
    · rcases Nat.lt_or_ge r' H.length with h' | h'
      · rw [g.put_other _ (Nat.ne_of_lt h)] at hb
        rw [g.put_other _ (Nat.ne_of_lt h')] at hb'
        exact S.disj r r' b h h' hb hb'
      · have : r' = H.length := by omega
        subst this
        rw [g.put_same] at hb'
        cases hb'
    · have : r = H.length := by omega
      subst this
      rw [g.put_same] at hb
      cases hb
  · simp at hr
    rcases Nat.lt_or_ge r H.length with h | h
    · rw [g.put_other _ (Nat.ne_of_lt h)] at hb
      exact S.lt r b h hb
    · have : r = H.length := by omega
      subst this
      rw [g.put_same] at hb
      cases hb
  · simp at hr
    rcases Nat.lt_or_ge r H.length with h | h
    · rw [g.put_other _ (Nat.ne_of_lt h)] at hb
      exact .inr ⟨r, h, hb⟩
    · have : r = H.length := by omega
      subst this
      rw [g.put_same] at hb
      cases hb

theorem winAt_front {r ver e m d : Nat} {xs : List Tr} {v : Value} (hr : H[r]? = some (.arr e ver xs m d)) (hv : v = g.loc r) (h1 : IsSl xs.length v) : VR P g w H (.win r ver xs.length) v :=
  .win h1 e ver xs m d hr (Nat.le_refl _) fun _ => ⟨Nat.le_refl _, fun _ => .inl ⟨rfl, hv⟩⟩

theorem ownsRow_one {base e size n : Nat} {v : Value} {xs : List Value} (h : w.ownsRow base e size v n xs) : v.oneCell' = true := by
  rcases h.2 with ⟨rfl, _⟩ | ⟨_, _, _, rfl, _⟩ <;> rfl

theorem ownsRow_isSl {base e size n : Nat} {v : Value} {xs : List Value} (h : w.ownsRow base e size v n xs) : IsSl n v := by
  rcases h.2 with ⟨rfl, rfl⟩ | ⟨_, cap, _, rfl, _⟩
  · exact ⟨none, 0, rfl, by omega⟩
  · exact ⟨_, cap, rfl, by simp⟩

theorem app_sound (S : SR P g w H) {e sz bytes : Nat} {a c : AV} {v : Value} (hv : VR P g w H a v) {ys : List Tr} {H' : List AO} (h : appW H e sz bytes a ys = some (c, H'))
    {i : TypeInfo} {z : Value} (hi : P.info? e = some i) (hz : i.zero = some z) (hzs : z.cells.size = i.size) (hsz : 0 < i.size) (hs : sz = i.size) (hby : bytes = i.bytes)
    {r : Value → World → Prop} {run : Value → World → Result Value}
    (hrun : ∀ (v : Value) (n : Nat) (cells : List Value), w.ownsRow 0 e i.size v n cells → (n + ys.length) * i.bytes ≤ 140737488355328 → n + ys.length ≤ 140737488355328 → (∀ y ∈ ys, y.cells.length = i.size) →
      ∃ v' w' news, run v w = .ok v' w' ∧ Grew w w' e i.size n ys.length v v' (cells ++ news) ∧
      (∀ x ∈ ys, ∀ c ∈ x.cells, c.one = true) ∧ (∀ (j : Nat) (x : Tr) (k : Nat) (c : Tr), ys[j]? = some x → x.cells[k]? = some c → ∃ u, news[j * i.size + k]? = some u ∧ VRt g.pm w c u)) :
    ∃ v' w' g', run v w = .ok v' w' ∧ Stp P g w H g' w' H' ∧ VR P g' w' H' c v' := by
  subst hs; subst hby
  unfold appW at h
  obtain ⟨⟨r0, v0, xs, m, d, H1⟩, h1, h2⟩ := bind_some_iff.1 h
  dsimp only at h2
  split at h2
  case isFalse => cases h2
  rename_i hc
  obtain ⟨hb1, hb2, hall⟩ := hc
  injection h2 with h2
  injection h2 with h3 h4
  subst h3; subst h4
  have hys : ∀ y ∈ ys, y.cells.length = i.size := fun y hy => by simpa using List.all_eq_true.1 hall y hy
  have main : ∀ {g1 : Gh} {H1 : List AO} (T : Stp P g w H g1 w H1) (hpm : ∀ b, g.pm b ≤ g1.pm b), H1[r0]? = some (.arr e v0 xs m d) → v = g1.loc r0 →
      ∃ v' w' g', run v w = .ok v' w' ∧ Stp P g w H g' w' (H1.set r0 (.arr e v0 (xs ++ ys) m d)) ∧ VR P g' w' (H1.set r0 (.arr e v0 (xs ++ ys) m d)) (.win r0 v0 (xs.length + ys.length)) v' := by
    intro g1 H1 T hpm hr hl
    obtain ⟨i', z', cells, a1, a2, a3, a4, a5, a6, a7, a8, a9, a10, a11⟩ := arr_open T.sr hr
    have hii : i' = i := by rw [hi] at a1; injection a1 with a1; exact a1.symm
    subst hii
    obtain ⟨v', w', news, hr1, hg, ho, hcells⟩ := hrun v xs.length cells (by rw [hl]; exact a5) (by simpa [maxLenB] using hb1) (by simpa [maxLenB] using hb2) hys
    obtain ⟨g', T2, hl2⟩ := stp_grew T.sr hr hi hz hzs hsz a5 a8 hys ho (fun j x k c hx hc => by
      obtain ⟨u, hu, hv⟩ := hcells j x k c hx hc
      exact ⟨u, hu, hv.mono hpm fun _ _ _ => rfl⟩) (by rw [← hl]; exact hg)
    refine ⟨v', w', g', hr1, T.trans T2, ?_⟩
    have := winAt_front (P := P) (w := w') (g := g') (List.getElem?_set_self (lt_of_get hr) : (H1.set r0 (.arr e v0 (xs ++ ys) m d))[r0]? = _) hl2.symm (by rw [List.length_append]; exact ownsRow_isSl hg.own)
    simpa using this
  unfold appTo at h1
  split at h1
  · -- nil, or empty: a new array
    injection h1 with h1
    injection h1 with e1 e2
    injection e2 with e2 e3
    injection e3 with e3 e4
    injection e4 with e4 e5
    injection e5 with e5 e6
    subst e1; subst e2; subst e3; subst e4; subst e5; subst e6
    cases hv
    exact main (stp_newArr S hi hz hzs hsz) (fun _ => Nat.le_refl _) (by simp) (g.put_same ..).symm
  · rename_i rr ver n
    split at h1
    case h_2 => cases h1
    rename_i e' v1 xs' m' d' hr
    split at h1
    case isFalse => cases h1
    rename_i hc
    injection h1 with h1
    injection h1 with e1 e2
    injection e2 with e2 e3
    injection e3 with e3 e4
    injection e4 with e4 e5
    injection e5 with e5 e6
    obtain ⟨c1, c2, c3⟩ := hc
    subst e1; subst e2; subst e3; subst e4; subst e5; subst e6; subst c1; subst c2; subst c3
    exact main (.refl S) (fun _ => Nat.le_refl _) hr (win_front S hv hr)
  · cases h1
end
end Go.Proofs.YtgehpjjpeddomaaGreatDoor
/- The evaluator is true to the model: the operations, fourth part: each operation. -/
namespace Go.Proofs.YtgehpjjpeddomaaGreatDoor
open Go Go.Lib

section
variable {P : Program} {g : Gh} {w : World} {H : List AO}

theorem run_v {ρ : Operand → Value} {o : Oper} {s : Sem Value} (h : execOp ρ o = (do pure (.value (← s)))) {r : Value} {w' : World} (hs : s.run P w = .ok r w') : (execOp ρ o).run P w = .ok (.value r) w' := by
  rw [h, Sem.run_bind, hs]; rfl

theorem opOk_v {ρ : Operand → Value} {o : Oper} {s : Sem Value} (h : execOp ρ o = (do pure (.value (← s)))) {a : AV} {H' : List AO}
    (hs : ∃ r w' g', s.run P w = .ok r w' ∧ Stp P g w H g' w' H' ∧ VR P g' w' H' a r) : OpOk P g w H ((execOp ρ o).run P w) a H' := by
  obtain ⟨r, w', g', h1, h2, h3⟩ := hs
  exact ⟨.value r, r, w', g', run_v h h1, .inl rfl, h2, h3⟩

theorem zeroT_some {t : TypeId} {x : Tr} (h : zeroT P t = some x) : ∃ i z, P.info? t = some i ∧ i.zero = some z ∧ okV z = true ∧ z.cells.size = i.size ∧ x = trOf z := by
  unfold zeroT at h
  split at h
  · rename_i i hi
    split at h
    · rename_i z hz
      split at h
      · rename_i hc
        injection h with h
        simp only [Bool.and_eq_true, beq_iff_eq] at hc
        exact ⟨i, z, hi, hz, hc.1, hc.2, h.symm⟩
      · cases h
    · cases h
  · cases h

theorem trOf_cell {z : Value} (h : okV z = true) {j : Nat} {c : Tr} {v : Value} (hc : (trOf z).cells[j]? = some c) (hv : z.cells[j]? = some v) : c = trOf1 v ∧ one1 v = true := by
  have other : ∀ u : Value, trOf u = trOf1 u → u.cells = #[u] → okV u = one1 u → okV u = true → (trOf u).cells[j]? = some c → u.cells[j]? = some v → c = trOf1 v ∧ one1 v = true := by
    intro u e1 e2 e3 h hc hv
    rw [e1, tr_cells_one (trOf1_one u)] at hc
    rw [e2] at hv
    cases j with
    | zero => simp at hc hv; subst hc; subst hv; exact ⟨rfl, by rw [← e3]; exact h⟩
    | succ j => simp at hc
  cases z with
  | agg cs =>
    have hvl : cs.toList[j]? = some v := by simpa [Value.cells] using hv
    simp only [trOf, Tr.cells] at hc
    rw [List.getElem?_map, hvl] at hc
    injection hc with hc
    exact ⟨hc.symm, List.all_eq_true.1 h v (List.mem_of_getElem? hvl)⟩
  | _ => exact other _ rfl rfl rfl h hc hv

theorem trOf_cells {z : Value} (h : okV z = true) : (trOf z).cells.length = z.cells.size := by
  have := (vrt_cells (trOf_sound (pm := fun _ => 0) (w := default) h)).1
  exact this.symm

theorem zeroE_some {t : TypeId} {x : Tr} (h : zeroE P t = some x) : ∃ i z, P.info? t = some i ∧ i.zero = some z ∧ okV z = true ∧ z.cells.size = i.size ∧ 0 < i.size ∧ x = trOf z ∧ x.cells.length = i.size := by
  unfold zeroE at h
  obtain ⟨y, h1, h2⟩ := bind_some_iff.1 h
  split at h2
  · rename_i hlt
    injection h2 with h2
    subst h2
    obtain ⟨i, z, a1, a2, a3, a4, rfl⟩ := zeroT_some h1
    have := trOf_cells a3
    exact ⟨i, z, a1, a2, a3, a4, by omega, rfl, by omega⟩
  · cases h2

theorem sizeA_some {t : TypeId} {n : Nat} (h : sizeA P t = some n) : ∃ i, P.info? t = some i ∧ i.size = n := Option.map_eq_some_iff.1 h

theorem cellsOf_eq {t : TypeId} {i : TypeInfo} (h : P.info? t = some i) : P.cellsOf t = i.size := by simp [Program.cellsOf, h]

/-! ### numbers out of values -/
theorem asNat_sound {a : AV} {n : Nat} (h : asNat? a = some n) {v : Value} (hv : VR P g w H a v) : ∃ k, v = .int k n := by
  unfold asNat? at h
  obtain ⟨i, h1, h2⟩ := bind_some_iff.1 h
  unfold asInt? at h1
  split at h1
  case h_2 => cases h1
  rename_i k i'
  injection h1 with h1
  subst h1
  split at h2
  case isFalse => cases h2
  rename_i h0
  injection h2 with h2
  cases hv with
  | t hv => cases hv with
    | v => exact ⟨k, by rw [← h2]; congr 1; omega⟩

theorem isB_sound {a : AV} {q : Bool} (h : isB a = some q) {v : Value} (hv : VR P g w H a v) : v = .bool q := by
  unfold isB at h
  split at h
  case h_2 => cases h
  injection h with h
  subst h
  cases hv with
  | t hv => cases hv with | v => rfl

theorem sel_sound {q : Bool} {a b : AV} {u v : Value} (ha : VR P g w H a u) (hb : VR P g w H b v) : VR P g w H (sel q a b) (if q then u else v) := by
  cases q
  · exact hb
  · exact ha

theorem lenS_slice {a : AV} {n : Nat} (h : lenS a = some n) {v : Value} (hv : VR P g w H a v) : IsSl n v := by
  cases a with
  | t y =>
    cases y with
    | sl xs =>
      injection h with h
      cases hv with
      | t hv => cases hv with
        | sl _ a m cap sz u hn hc hsz ho ha =>
          subst h; subst hn
          refine ⟨a, cap, rfl, fun h0 => ?_⟩
          obtain ⟨b, o, e, _⟩ := ha (List.length_pos_iff.1 h0)
          rw [e]; simp
    | v => cases h
    | agg => cases h
  | nils => injection h with h; subst h; cases hv; exact ⟨none, 0, rfl, by omega⟩
  | emp => injection h with h; subst h; cases hv with | emp nl A c hA => exact ⟨A, c, rfl, by omega⟩
  | win r ver k =>
    injection h with h
    subst h
    cases hv with | win h1 => exact h1
  | ptr => cases h
  | ep => cases h
  | ip => cases h
  | clo => cases h
  | mix => cases h
  | tup => cases h
  | junk => cases h

/-! ### new things -/
theorem alloc_sound (S : SR P g w H) {t : TypeId} {x : Tr} (h : zeroT P t = some x) :
    ∃ r w' g', (Instr.alloc t true (.tuple #[])).run P w = .ok r w' ∧ Stp P g w H g' w' (H ++ [.box (x.cells.map zAV)]) ∧ VR P g' w' (H ++ [.box (x.cells.map zAV)]) (.ptr H.length 0) r := by
  obtain ⟨i, z, h1, h2, h3, h4, rfl⟩ := zeroT_some h
  obtain ⟨c1, c2, c3⟩ := vrt_cells (trOf_sound (pm := g.pm) (w := w) h3)
  have hcells : VRs P g w H ((trOf z).cells.map zAV) z.cells := by
    refine ⟨by simpa using c1, fun j a v ha hv => ?_⟩
    rw [List.getElem?_map] at ha
    obtain ⟨c, hc, rfl⟩ := Option.map_eq_some_iff.1 ha
    have hcv := c3 j c v hc hv
    unfold zAV
    split
    · -- a nil
      obtain ⟨e1, e2⟩ := trOf_cell h3 hc hv
      unfold trOf1 at e1
      split at e1
      · exact .nils
      · cases e1
    · exact .t hcv
  have hone : ∀ c ∈ (trOf z).cells.map zAV, c.one = true := by
    intro c hc
    obtain ⟨d, hd, rfl⟩ := List.mem_map.1 hc
    unfold zAV
    split
    · rfl
    · exact c2 d hd
  have T := stp_box S t z.cells _ hcells hone
  refine ⟨.pointer (some ⟨w.heap.size, 0, none⟩), _, _, ?_, T, .ptr ((trOf z).cells.map zAV) w.heap.size (by simp) (g.put_same ..)⟩
  simp [Instr.alloc, zeroValue, typeInfo, h1, h2, newVar, newRow]

theorem box_sound (S : SR P g w H) (t : TypeId) {a : AV} {v : Value} (hok : a.ok = true) (hv : VR P g w H a v) :
    ∃ r w' g', (Instr.box t v).run P w = .ok r w' ∧ Stp P g w H g' w' (H ++ [.box a.cells]) ∧ VR P g' w' (H ++ [.box a.cells]) (.ptr H.length 0) r := by
  obtain ⟨h1, h2⟩ := vr_cells hok hv
  have T := stp_box S t v.cells a.cells h1 h2
  exact ⟨.pointer (some ⟨w.heap.size, 0, none⟩), _, _, by simp [Instr.box, newVar, newRow], T, .ptr a.cells w.heap.size (by simp) (g.put_same ..)⟩

theorem nil_sound (S : SR P g w H) {e : Nat} (h : (zeroE P e).isSome = true) :
    ∃ g', Stp P g w H g' w (H ++ [.arr e 0 [] 0 0]) ∧ VR P g' w (H ++ [.arr e 0 [] 0 0]) (.win H.length 0 0) (.slice none 0 0) := by
  obtain ⟨x, hx⟩ := Option.isSome_iff_exists.1 h
  obtain ⟨i, z, a1, a2, a3, a4, a5, _⟩ := zeroE_some hx
  refine ⟨_, stp_newArr S a1 a2 a4 a5, ?_⟩
  exact .win ⟨none, 0, rfl, by omega⟩ e 0 [] 0 0 (by simp) (Nat.le_refl _) fun _ => ⟨Nat.le_refl _, fun _ => .inl ⟨rfl, (g.put_same ..).symm⟩⟩

/-! ### stores -/
theorem run_storeVar_box {t : TypeId} {i : TypeInfo} (hi : P.info? t = some i) {b off : Nat} {vs : Array Value} {e : TypeId} {v : Value} (hh : w.heap[b]? = some (.cells vs e (0, 0))) (hsz : v.cells.size = i.size) (hoff : off + v.cells.size ≤ vs.size)
    (h1 : ∀ u ∈ v.cells.toList, u.oneCell' = true) : (storeVar t ⟨b, off, none⟩ v).run P w = .ok () (w.setRow b (valSet vs off v.cells.toList)) := by
  have hst := run_storeCells_at P b off e v.cells.toList 0 vs w hh (by simpa using hoff) h1
  rw [Nat.add_zero] at hst
  rw [valSet_seg vs off v.cells.toList (by simpa using hoff)]
  simp [storeVar, run_sizeOf' hi, hsz, hst]

theorem store_box (S : SR P g w H) {t : TypeId} {n r off : Nat} (hn : sizeA P t = some n) {p a : AV} (hp : p = .ptr r off) {u v : Value} (hu : VR P g w H p u) (hv : VR P g w H a v) {H' : List AO} (h : storeA H n p a = some H') :
    ∃ w' g', (Instr.storeAt t u v).run P w = .ok () w' ∧ Stp P g w H g' w' H' := by
  subst hp
  obtain ⟨i, hi, hin⟩ := sizeA_some hn
  simp only [storeA] at h
  split at h
  case isFalse => cases h
  rename_i hc
  obtain ⟨hok, hlen⟩ := hc
  obtain ⟨hcs, hone⟩ := vr_cells hok hv
  split at h
  case h_2 => cases h
  rename_i cs hr
  split at h
  case isFalse => cases h
  rename_i hoff
  injection h with h
  subst h
  obtain ⟨b, vs, e, h1, h2, h3, h4, h5, h6⟩ := S.ok r _ hr
  have hub : u = .pointer (some ⟨b, off, none⟩) := by
    cases hu with
    | ptr cs' b' hH hl => rw [h1] at hl; injection hl with hl; injection hl with hl; injection hl with hl; rw [hl]
    | it s pos b' hH hl => rw [hr] at hH; cases hH
  subst hub
  have hvs : v.cells.size = n := by rw [hcs.1]; exact hlen
  refine ⟨_, g, ?_, stp_setBox S hr h1 h2 (setC_sound (P := P) (g := g) (w := w) (H := H) ⟨h3, h5⟩ off a.cells v.cells.toList (by simpa using hcs.1) fun i a u ha hu => hcs.2 i a u ha (by simpa using hu)) (setC_one h4 off _ hone)⟩
  simp only [Instr.storeAt, Instr.sureAddr, Sem.run_bind, Sem.run_pure, Result.andThen_ok]
  exact run_storeVar_box hi h2 (by rw [hvs, hin]) (by rw [hvs, h3]; exact hoff) (hcs.one hone)
end
end Go.Proofs.YtgehpjjpeddomaaGreatDoor
/- The evaluator is true to the model: the operations, fifth part: an element written; cuts; iterators; texts and bytes. -/
namespace Go.Proofs.YtgehpjjpeddomaaGreatDoor
open Go Go.Lib

section
variable {P : Program} {g : Gh} {w : World} {H : List AO}

theorem valSet_get (z : Array Value) (off : Nat) (vs : List Value) (hl : off + vs.length ≤ z.size) (i : Nat) : (valSet z off vs)[i]? = if off ≤ i ∧ i < off + vs.length then vs[i - off]? else z[i]? := by
  rw [valSet_seg z off vs hl]
  simp only [List.getElem?_toArray, List.append_assoc]
  have h1 : (z.toList.take off).length = off := by simp; omega
  by_cases h : i < off
  · rw [List.getElem?_append_left (by omega), List.getElem?_take, if_pos h, if_neg (by omega)]; simp
  · rw [List.getElem?_append_right (by omega), h1]
    by_cases h2 : i < off + vs.length
    · rw [List.getElem?_append_left (by omega), if_pos ⟨by omega, h2⟩]
    · rw [List.getElem?_append_right (by omega), if_neg (by omega), List.getElem?_drop]
      simp only [Array.getElem?_toList]
      congr 1
      omega

theorem setT_get : ∀ (cs : List Tr) (l : List Tr) (off : Nat), off + cs.length ≤ l.length → ∀ i, (setT l off cs)[i]? = if off ≤ i ∧ i < off + cs.length then cs[i - off]? else l[i]?
  | [], l, off, _, i => by rw [if_neg (by simp)]; rfl
  | c :: cs, l, off, hl, i => by
    have hl' : off + (cs.length + 1) ≤ l.length := hl
    rw [setT, setT_get cs (l.set off c) (off + 1) (by simp; omega) i]
    simp only [List.length_cons]
    by_cases h : i = off
    · subst h
      rw [if_neg (by omega), if_pos ⟨by omega, by omega⟩, List.getElem?_set_self (by omega)]
      simp
    · by_cases h2 : off + 1 ≤ i ∧ i < off + 1 + cs.length
      · rw [if_pos h2, if_pos ⟨by omega, by omega⟩]
        have : i - off = (i - (off + 1)) + 1 := by omega
        rw [this]; simp
      · rw [if_neg h2, if_neg (by omega), List.getElem?_set_ne (by omega)]

theorem setT_length (cs : List Tr) (l : List Tr) (off : Nat) : (setT l off cs).length = l.length := by
  induction cs generalizing l off with
  | nil => rfl
  | cons c cs ih => rw [setT, ih]; simp

theorem setT_one {l : List Tr} (h : ∀ c ∈ l, c.one = true) (off : Nat) : ∀ (cs : List Tr), (∀ c ∈ cs, c.one = true) → ∀ c ∈ setT l off cs, c.one = true := by
  intro cs
  induction cs generalizing l off with
  | nil => intro _; exact h
  | cons c cs ih =>
    intro hc
    refine ih (fun d hd => ?_) (off + 1) fun d hd => hc d (by simp [hd])
    rcases List.mem_or_eq_of_mem_set hd with hd | rfl
    · exact h d hd
    · exact hc _ (by simp)

theorem setElem_cells {y y' : Tr} {off : Nat} {cs : List Tr} (h : setElem y off cs = some y') (ho : ∀ c ∈ cs, c.one = true) : y'.cells = setT y.cells off cs ∧ off + cs.length ≤ y.cells.length := by
  unfold setElem at h
  split at h
  case isFalse => cases h
  rename_i hl
  refine ⟨?_, hl⟩
  split at h
  · injection h with h; subst h; rfl
  · rename_i hy
    have hy1 : y.one = true := by cases y <;> first | rfl | exact absurd rfl (hy _)
    have hyc := tr_cells_one hy1
    rw [hyc] at hl ⊢
    split at h
    · rename_i c
      injection h with h
      subst h
      have : off = 0 := by simp at hl; omega
      subst this
      rw [tr_cells_one (ho c (by simp))]
      rfl
    · rename_i hcs
      injection h with h
      subst h
      have : cs = [] := by
        cases cs with
        | nil => rfl
        | cons c r =>
          cases r with
          | nil => exact absurd rfl (hcs c)
          | cons => simp at hl; omega
      subst this
      rw [hyc]; rfl

/-- An element of a growing array is written. -/
theorem store_ep (S : SR P g w H) {t : TypeId} {n r ver wd j off : Nat} (hn : sizeA P t = some n) {p a : AV} (hp : p = .ep r ver wd j off) {u v : Value} (hu : VR P g w H p u) (hv : VR P g w H a v) {H' : List AO} (h : storeA H n p a = some H') :
    ∃ w' g', (Instr.storeAt t u v).run P w = .ok () w' ∧ Stp P g w H g' w' H' := by
  subst hp
  obtain ⟨i, hi, hin⟩ := sizeA_some hn
  simp only [storeA] at h
  obtain ⟨⟨x, H1⟩, hz, h2⟩ := bind_some_iff.1 h
  dsimp only at h2
  obtain ⟨g1, T1, hx⟩ := fz_sound S hv hz
  have hu1 := hu.ext T1.ext
  split at h2
  case isFalse => cases h2
  rename_i hlen
  split at h2
  case h_2 => cases h2
  rename_i e v0 xs m d hr
  by_cases hc : ver = v0 ∧ wd = xs.length ∧ m ≤ j
  case neg => rw [if_neg hc] at h2; cases h2
  rw [if_pos hc] at h2
  obtain ⟨rfl, rfl, hmj⟩ := hc
  obtain ⟨y, hy, h3⟩ := bind_some_iff.1 h2
  obtain ⟨y', hy', h4⟩ := Option.map_eq_some_iff.1 h3
  subst h4
  obtain ⟨c1, c2, c3⟩ := vrt_cells hx
  obtain ⟨hyc, hyl⟩ := setElem_cells hy' c2
  obtain ⟨i', z, cells, a1, a2, a3, a4, a5, a6, a7, a8, a9, a10, a11⟩ := arr_open T1.sr hr
  have hrl := lt_of_get hr
  have hj := lt_of_get hy
  have hysz : y.cells.length = i'.size := a6 y (List.mem_of_getElem? hy)
  -- where it lies
  have hub : ∃ b cap, g1.loc r = .slice (some ⟨b, 0, none⟩) xs.length cap ∧ u = .pointer (some ⟨b, j * i'.size + off, none⟩) := by
    cases hu1 with
    | ep q1 e' v' xs' m' d' hH hle hh =>
      rw [hr] at hH
      injection hH with hH
      injection hH with b1 b2 b3 b4 b5
      subst b1; subst b2; subst b3; subst b4; subst b5
      obtain ⟨b, cap, k1, k2⟩ := (hh rfl).2 rfl
      exact ⟨b, cap, k1, by rw [k2, cellsOf_eq a1]⟩
  obtain ⟨b, cap, hl, rfl⟩ := hub
  have hblk : blk (g1.loc r) = some b := by rw [hl]; rfl
  rcases a5.2 with ⟨e3, _⟩ | ⟨b', cap', cur, e3, _, k2, k3, k4, k5, k6⟩
  · rw [hl] at e3; cases e3
  rw [hl] at e3
  injection e3 with e3 _ e5
  injection e3 with e3
  injection e3 with e3
  subst e3; subst e5
  have hvs : v.cells.size = x.cells.length := c1
  have hin1 : j * i'.size + i'.size ≤ xs.length * i'.size := by rw [← Nat.succ_mul]; exact Nat.mul_le_mul_right _ hj
  have hin2 : xs.length * i'.size ≤ cur.size := by rw [k5]; exact Nat.mul_le_mul_right _ k3
  have hfit : j * i'.size + off + v.cells.toList.length ≤ cur.size := by simp; omega
  have hone : ∀ u ∈ v.cells.toList, u.oneCell' = true := by
    intro u hu
    obtain ⟨q, hq, rfl⟩ := List.getElem_of_mem hu
    have hq' : q < x.cells.length := by rw [← c1]; simpa using hq
    have := c3 q x.cells[q] v.cells[q] (List.getElem?_eq_getElem hq') (Array.getElem?_eq_getElem _)
    simpa using this.oneCell (c2 _ (List.getElem_mem hq'))
  have hrun := run_storeVar_box (P := P) (w := w) hi k2 (by rw [hvs, hlen, hin]) (by simpa using hfit) hone
  have hvl : v.cells.toList.length = x.cells.length := by simpa using hvs
  have hoffl : off + v.cells.toList.length ≤ i'.size := by omega
  have hcl : cells.length = xs.length * i'.size := a5.1
  have hcur : ∀ q, q < xs.length * i'.size → cells[q]? = cur[q]? := by
    intro q hq
    rw [← k6, List.getElem?_take, if_pos hq]; simp
  have hfitc : j * i'.size + off + v.cells.toList.length ≤ cells.toArray.size := by simp [hcl]; omega
  have hheap : ∀ b', b' ≠ b → (w.setRow b (valSet cur (j * i'.size + off) v.cells.toList)).heap[b']? = w.heap[b']? := fun b' hne => setRow_other w b b' _ hne
  have hcell : ∀ b' o, o < g1.pm b' → (w.setRow b (valSet cur (j * i'.size + off) v.cells.toList)).cell? ⟨b', o, none⟩ = w.cell? ⟨b', o, none⟩ := by
    intro b' o ho
    by_cases hb : b' = b
    · subst hb
      have h1 := a11 b' hblk
      have h2 : m * i'.size ≤ j * i'.size := Nat.mul_le_mul_right _ hmj
      rw [cell_setRow_same w b' o cur _ e _ k2, cell_of_row w b' o cur e _ k2, valSet_get cur _ _ hfit, if_neg (by omega)]
    · exact cell_of_heap (hheap b' hb) o
  have E : Ext P g1 w H1 g1 (w.setRow b (valSet cur (j * i'.size + off) v.cells.toList)) (H1.set r (.arr e ver (xs.set j y') m xs.length)) := by
    refine ext_arr hr (fun _ => Nat.le_refl _) hcell (fun _ _ => rfl) (Nat.le_refl _) fun _ => ⟨by simp, a10, fun _ => rfl, fun q u hd hq hw => ?_⟩
    rcases hw with ⟨e1, e2⟩ | ⟨h1, _⟩
    · exact .inl ⟨by simpa using e1, e2⟩
    · omega
  refine ⟨_, g1, ?_, T1.trans (stp_set T1.sr hr E rfl rfl rfl (by simp) (fun _ _ => rfl) (fun b' _ hne => ⟨hheap b' fun he => hne (by rw [hblk, he]), rfl⟩) (fun b' hb' => ⟨.inl hb', by simpa using T1.sr.lt r b' hrl hb'⟩) (fun b' hb' => T1.sr.new b' (by simpa using hb')) ?_)⟩
  · simp only [Instr.storeAt, Instr.sureAddr, Sem.run_bind, Sem.run_pure, Result.andThen_ok]
    exact hrun
  · refine ⟨i', z, (valSet cells.toArray (j * i'.size + off) v.cells.toList).toList, a1, a2, a3, a4, ⟨?_, .inr ⟨b, cap, _, by rw [hl, List.length_set], Nat.zero_le _, setRow_heap w b cur _ e _ k2, by simpa using k3, k4, ?_, ?_⟩⟩, fun x' hx' => ?_, fun x' hx' => ?_, fun j' x' k' c' hx' hc' => ?_, by simpa using a9, by simp, a11⟩
    · simp [valSet_size, hcl]
    · rw [valSet_size]; exact k5
    · apply List.ext_getElem?
      intro q
      rw [List.getElem?_take, List.length_set]
      simp only [Array.getElem?_toList]
      rw [valSet_get cells.toArray _ _ hfitc]
      split
      · rename_i hq
        rw [valSet_get cur _ _ hfit]
        split
        · rfl
        · rw [← hcur q hq]; simp
      · rename_i hq
        rw [if_neg (by omega)]
        simp
        omega
    · rcases List.mem_or_eq_of_mem_set hx' with h1 | rfl
      · exact a6 x' h1
      · rw [hyc, setT_length]; exact hysz
    · rcases List.mem_or_eq_of_mem_set hx' with h1 | rfl
      · exact a7 x' h1
      · rw [hyc]; exact setT_one (a7 y (List.mem_of_getElem? hy)) off _ c2
    · simp only [Array.getElem?_toList]
      rw [valSet_get cells.toArray _ _ hfitc]
      have hk' : k' < i'.size := by
        have h1 := lt_of_get hc'
        have h2 : x'.cells.length = i'.size := by
          rcases List.mem_or_eq_of_mem_set (List.mem_of_getElem? hx') with h3 | rfl
          · exact a6 x' h3
          · rw [hyc, setT_length]; exact hysz
        omega
      by_cases hjj : j' = j
      · subst hjj
        rw [List.getElem?_set_self hj] at hx'
        injection hx' with hx'
        subst hx'
        rw [hyc, setT_get x.cells y.cells off hyl] at hc'
        split at hc'
        · rename_i hkk
          rw [if_pos ⟨by omega, by omega⟩]
          have hq : j' * i'.size + k' - (j' * i'.size + off) = k' - off := by omega
          rw [hq]
          have hlt := lt_of_get hc'
          have hu : v.cells.toList[k' - off]? = some (v.cells[k' - off]'(by omega)) := by simp
          exact ⟨_, hu, (c3 _ c' _ hc' (Array.getElem?_eq_getElem _)).mono (fun _ => Nat.le_refl _) hcell⟩
        · rename_i hkk
          rw [if_neg (by omega)]
          obtain ⟨u, hu, hv⟩ := a8 j' y k' c' hy hc'
          exact ⟨u, by simpa using hu, hv.mono (fun _ => Nat.le_refl _) hcell⟩
      · rw [List.getElem?_set_ne (Ne.symm hjj)] at hx'
        obtain ⟨u, hu, hv⟩ := a8 j' x' k' c' hx' hc'
        refine ⟨u, ?_, hv.mono (fun _ => Nat.le_refl _) hcell⟩
        rw [if_neg ?_]
        · simpa using hu
        · have hoff2 : off + v.cells.toList.length ≤ i'.size := by simp; omega
          rcases Nat.lt_or_ge j' j with h1 | h1
          · have := cells_index hk' j h1
            omega
          · have h2 : (j + 1) * i'.size ≤ j' * i'.size := Nat.mul_le_mul_right _ (by omega)
            rw [Nat.succ_mul] at h2
            omega

theorem store_sound (S : SR P g w H) {t : TypeId} {n : Nat} (hn : sizeA P t = some n) {p a : AV} {u v : Value} (hu : VR P g w H p u) (hv : VR P g w H a v) {H' : List AO} (h : storeA H n p a = some H') :
    ∃ w' g', (Instr.storeAt t u v).run P w = .ok () w' ∧ Stp P g w H g' w' H' := by
  cases p with
  | ptr => exact store_box S hn rfl hu hv h
  | ep => exact store_ep S hn rfl hu hv h
  | _ => cases h

/-- A window is cut at its end. -/
theorem cut_sound (S : SR P g w H) {r ver n k : Nat} {v : Value} (hv : VR P g w H (.win r ver n) v) {a : AV} {H' : List AO} (h : cutW H r ver n k = some (a, H')) :
    ∃ A cap g', v = .slice A n cap ∧ n ≤ cap ∧ k ≤ n ∧ Stp P g w H g' w H' ∧ VR P g' w H' a (.slice A k cap) := by
  unfold cutW at h
  split at h
  case h_2 => cases h
  rename_i e v0 xs m d hr
  by_cases hc : ver = v0 ∧ n = xs.length ∧ k ≤ n ∧ m ≤ k ∧ d ≤ k
  case neg => rw [if_neg hc] at h; cases h
  rw [if_pos hc] at h
  injection h with h
  injection h with h1 h2
  subst h1; subst h2
  obtain ⟨rfl, rfl, hk, hm, hd⟩ := hc
  have hvl := win_front S hv hr
  obtain ⟨i, z, cells, a1, a2, a3, a4, a5, a6, a7, a8, a9, a10, a11⟩ := arr_open S hr
  have hrl := lt_of_get hr
  have hform : ∃ A cap, v = .slice A xs.length cap ∧ xs.length ≤ cap ∧ w.ownsRow 0 e i.size (.slice A k cap) k (cells.take (k * i.size)) ∧ blk (.slice A k cap) = blk v := by
    have hkl : (cells.take (k * i.size)).length = k * i.size := by
      rw [List.length_take, a5.1]
      have : k * i.size ≤ xs.length * i.size := Nat.mul_le_mul_right _ hk
      omega
    rcases a5.2 with ⟨e1, e2⟩ | ⟨b, cap, cur, e1, b1, b2, b3, b4, b5, b6⟩
    · have hk0 : k = 0 := by omega
      subst hk0
      exact ⟨none, 0, by rw [hvl, e1, e2], by omega, ⟨hkl, .inl ⟨rfl, rfl⟩⟩, by rw [hvl, e1]⟩
    · refine ⟨_, cap, by rw [hvl, e1], b3, ⟨hkl, .inr ⟨b, cap, cur, rfl, b1, b2, by omega, b4, b5, ?_⟩⟩, by rw [hvl, e1]; rfl⟩
      rw [← b6, List.take_take]
      congr 1
      have : k * i.size ≤ xs.length * i.size := Nat.mul_le_mul_right _ hk
      omega
  obtain ⟨A, cap, e1, hcap, hown, hbl⟩ := hform
  have E : Ext P g w H (g.put r (.slice A k cap)) w (H.set r (.arr e (ver + 1) (xs.take k) m d)) :=
    ext_arr hr (fun _ => Nat.le_refl _) (fun _ _ _ => rfl) (fun i hi => g.put_other _ hi) (by omega) fun he => by omega
  have hlen : (xs.take k).length = k := by simp; omega
  have hbl' : blk (.slice A k cap) = blk (g.loc r) := by rw [hbl, hvl]
  refine ⟨A, cap, g.put r (.slice A k cap), e1, hcap, hk, stp_set S hr E rfl rfl rfl (Nat.le_refl _) (fun i hi => g.put_other _ hi) (fun b _ _ => ⟨rfl, rfl⟩) (fun b hb => ?_) S.new
    ⟨i, z, cells.take (k * i.size), a1, a2, a3, a4, by rw [g.put_same, hlen]; exact hown, fun x hx => a6 x (mem_take hx), fun x hx => a7 x (mem_take hx), fun j x q c hx hc => ?_, by omega, by omega, fun b hb => ?_⟩, ?_⟩
  · rw [g.put_same, hbl'] at hb
    exact ⟨.inl hb, S.lt r b hrl hb⟩
  · rw [List.getElem?_take] at hx
    split at hx
    · rename_i hj
      obtain ⟨u, hu, hv⟩ := a8 j x q c hx hc
      have hq : q < i.size := by have := lt_of_get hc; rw [a6 x (List.mem_of_getElem? hx)] at this; exact this
      exact ⟨u, by rw [List.getElem?_take, if_pos (cells_index hq k hj)]; exact hu, hv⟩
    · cases hx
  · rw [g.put_same, hbl'] at hb
    exact a11 b hb
  · exact .win (ownsRow_isSl hown) e (ver + 1) (xs.take k) m d (List.getElem?_set_self hrl) (Nat.le_refl _) fun _ => ⟨by omega, fun _ => .inl ⟨hlen.symm, (g.put_same ..).symm⟩⟩

/-- A string's next sign. -/
theorem next_sound (S : SR P g w H) {t : TypeId} {p a : AV} {u : Value} (hu : VR P g w H p u) {H' : List AO} {r : Nat} (hp : p = .ptr r 0)
    (h : (match H[r]? with
      | some (.iter s pos) =>
        if pos < s.size then some (AV.tup [.t (.v (.bool true)), .t (.v (.int .i64 (pos : Int))), .t (.v (.int .i32 ((Utf8.decode s pos).1 : Int)))], H.set r (.iter s (pos + (Utf8.decode s pos).2)))
        else some (.tup [.t (.v (.bool false))], H)
      | _ => none) = some (a, H')) :
    ∃ v w' g', (Instr.next u true t).run P w = .ok v w' ∧ Stp P g w H g' w' H' ∧ VR P g' w' H' a v := by
  subst hp
  split at h
  case h_2 => cases h
  rename_i s pos hr
  obtain ⟨b, h1, h2, h3⟩ := S.ok r _ hr
  have hub : u = .pointer (some ⟨b, 0, none⟩) := by
    cases hu with
    | ptr cs b' hH hl => rw [hr] at hH; cases hH
    | it s' pos' b' hH hl => rw [h1] at hl; injection hl with hl; injection hl with hl; injection hl with hl; rw [hl]
  subst hub
  have hblk : blk (g.loc r) = some b := by rw [h1]; rfl
  have hrl := lt_of_get hr
  have hbl := S.lt r b hrl hblk
  have hget : (getObj b).run P w = .ok (.stringIter s pos) w := by simp [getObj, Sem.run, h2]
  split at h
  · rename_i hlt
    injection h with h
    injection h with e1 e2
    subst e1; subst e2
    have hset : (setObj b (.stringIter s (pos + (Utf8.decode s pos).2))).run P w = .ok () { w with heap := w.heap.setIfInBounds b (.stringIter s (pos + (Utf8.decode s pos).2)) } := by simp [setObj, Sem.run, h2]
    have hheap : ∀ b', b' ≠ b → ({ w with heap := w.heap.setIfInBounds b (.stringIter s (pos + (Utf8.decode s pos).2)) } : World).heap[b']? = w.heap[b']? := by
      intro b' hne
      simp [Ne.symm hne]
    have E : Ext P g w H g { w with heap := w.heap.setIfInBounds b (.stringIter s (pos + (Utf8.decode s pos).2)) } (H.set r (.iter s (pos + (Utf8.decode s pos).2))) :=
      ext_set S hr hblk h3 (fun b' _ hne => hheap b' hne) (fun _ h => by cases h) (fun s' p' h => by injection h with h4 h5; subst h4; exact ⟨pos + (Utf8.decode s pos).2, rfl⟩) (fun _ _ _ _ _ h => by cases h)
    refine ⟨.tuple #[.bool true, goInt pos, .int .i32 (Utf8.decode s pos).1], _, g, ?_, stp_set S hr E rfl rfl rfl (by simp) (fun _ _ => rfl) (fun b' _ hne => ⟨hheap b' fun he => hne (by rw [hblk, he]), rfl⟩) (fun b' hb' => ⟨.inl hb', by simpa using S.lt r b' hrl hb'⟩) (fun b' hb' => S.new b' (by simpa using hb'))
      ⟨b, h1, by simp [hbl], h3⟩, ?_⟩
    · simp only [Instr.next, Sem.run_bind, hget, Result.andThen_ok, hlt, if_true, hset, Sem.run_pure]
    · refine .tup _ rfl fun i c x hc hx => ?_
      match i with
      | 0 => simp at hc hx; subst hc; subst hx; exact .t (.v _ rfl)
      | 1 => simp at hc hx; subst hc; subst hx; exact .t (.v _ rfl)
      | 2 => simp at hc hx; subst hc; subst hx; exact .t (.v _ rfl)
      | i + 3 => simp at hc
  · rename_i hge
    injection h with h
    injection h with e1 e2
    subst e1; subst e2
    refine ⟨.tuple #[.bool false], w, g, ?_, .refl S, ?_⟩
    · simp only [Instr.next, Sem.run_bind, hget, Result.andThen_ok, hge, if_false, Sem.run_pure]
    · refine .tup _ rfl fun i c x hc hx => ?_
      match i with
      | 0 => simp at hc hx; subst hc; subst hx; exact .t (.v _ rfl)
      | i + 1 => simp at hc
end
end Go.Proofs.YtgehpjjpeddomaaGreatDoor
/- The evaluator is true to the model: the operations, all together. -/
namespace Go.Proofs.YtgehpjjpeddomaaGreatDoor
open Go Go.Lib

section
variable {P : Program} {g : Gh} {w : World} {H : List AO}

def aggD : TypeDesc → Bool
  | .struct _ => true
  | .array _ _ => true
  | _ => false

theorem aggK_info {t : TypeId} {k : Option Nat} (h : aggK P t = some k) : ∃ d i, P.underlying t = some d ∧ P.info? t = some i ∧
    (k = some i.size ∧ aggD d = true ∨ k = none ∧ i.size = 1 ∧ aggD d = false) := by
  unfold aggK at h
  split at h
  · rename_i fs i hu hi
    injection h with h
    exact ⟨_, i, hu, hi, .inl ⟨h.symm, rfl⟩⟩
  · rename_i n e i hu hi
    injection h with h
    exact ⟨_, i, hu, hi, .inl ⟨h.symm, rfl⟩⟩
  · rename_i d i hn1 hn2 hu hi
    split at h
    case isFalse => cases h
    rename_i h1
    injection h with h
    refine ⟨d, i, hu, hi, .inr ⟨h.symm, h1, ?_⟩⟩
    cases d <;> first | rfl | exact absurd rfl (hn1 _) | exact absurd rfl (hn2 _ _)
  · cases h

theorem run_isAgg {t : TypeId} {d : TypeDesc} (hu : P.underlying t = some d) (w : World) : (isAgg t).run P w = .ok (aggD d) w := by
  unfold isAgg
  rw [Sem.run_bind, run_underlying hu w, Result.andThen_ok]
  cases d <;> rfl

theorem run_part_agg {t : TypeId} {d : TypeDesc} {i : TypeInfo} (hu : P.underlying t = some d) (hi : P.info? t = some i) (hd : aggD d = true) (vs : Array Value) (off : Nat) (w : World) :
    (part t vs off).run P w = .ok (.agg (vs.extract off (off + i.size))) w := by
  unfold part
  rw [Sem.run_bind, run_isAgg hu, Result.andThen_ok, hd]
  simp [run_sizeOf' hi]

theorem run_part_one {t : TypeId} {d : TypeDesc} (hu : P.underlying t = some d) (hd : aggD d = false) (vs : Array Value) (off : Nat) {x : Value} (hx : vs[off]? = some x) (w : World) :
    (part t vs off).run P w = .ok x w := by
  unfold part
  rw [Sem.run_bind, run_isAgg hu, Result.andThen_ok, hd]
  simp [hx]

/-- A part of a struct's value. -/
theorem part_sound {t : TypeId} {k : Option Nat} (hk : aggK P t = some k) {cs : List Tr} {vs : Array Value} (hv : VRt g.pm w (.agg cs) (.agg vs)) {off : Nat} {a : AV} (h : takeT cs off k = some a) :
    ∃ v, (part t vs off).run P w = .ok v w ∧ VR P g w H a v := by
  obtain ⟨d, i, hu, hi, hc⟩ := aggK_info hk
  cases hv with
  | agg _ _ hl ho hv =>
  rcases hc with ⟨rfl, hd⟩ | ⟨rfl, _, hd⟩
  · simp only [takeT] at h
    split at h
    case isFalse => cases h
    rename_i hle
    injection h with h
    subst h
    refine ⟨.agg (vs.extract off (off + i.size)), ?_, .t (.agg _ _ (by simp; omega) (fun c hc => ho c (List.mem_of_mem_drop (List.mem_of_mem_take hc))) fun j c v hc hx => ?_)⟩
    · exact run_part_agg hu hi hd _ _ _
    · rw [List.getElem?_take] at hc
      split at hc
      · rw [List.getElem?_drop] at hc
        have hlt := lt_of_get hc
        rw [Array.getElem?_extract] at hx
        split at hx
        · exact hv _ c v hc hx
        · cases hx
      · cases hc
  · simp only [takeT] at h
    obtain ⟨c, hc, rfl⟩ := Option.map_eq_some_iff.1 h
    have hlt := lt_of_get hc
    have hx : vs[off]? = some vs[off] := Array.getElem?_eq_getElem (by omega)
    exact ⟨vs[off], run_part_one hu hd _ _ hx _, .t (hv off c _ hc hx)⟩

/-- A slice's bounds. -/
theorem run_bounds (isSlice : Bool) (len cap : Nat) (lo hi : Option Value) {a b : Nat} (hb : match hi with | none => b = len | some v => ∃ k, v = .int k b) (ha : match lo with | none => a = 0 | some v => ∃ k, v = .int k a)
    (hbc : b ≤ cap) (hab : a ≤ b) (w : World) : (Instr.sliceBounds isSlice len cap lo hi none).run P w = .ok (a, b, cap) w := by
  cases hi with
  | none =>
    subst hb
    cases lo with
    | none => subst ha; simp [Instr.sliceBounds]
    | some v => obtain ⟨k, rfl⟩ := ha; simp [Instr.sliceBounds, Instr.sliceBound, asIntOf, hab]
  | some u =>
    obtain ⟨k', rfl⟩ := hb
    cases lo with
    | none => subst ha; simp [Instr.sliceBounds, Instr.sliceBound, asIntOf, hbc]
    | some v => obtain ⟨k, rfl⟩ := ha; simp [Instr.sliceBounds, Instr.sliceBound, asIntOf, hbc, hab]

/-- A slice of a slice, as a tree. -/
theorem vrt_slice {xs : List Tr} {A : Option Addr} {cap a b : Nat} (h : VRt g.pm w (.sl xs) (.slice A xs.length cap)) (hab : a ≤ b) (hb : b ≤ xs.length) {size : Nat} (hs : ∀ x ∈ xs, x.cells.length = size) :
    VRt g.pm w (.sl ((xs.take b).drop a)) (.slice (if cap = a then A else A.map (·.add (a * size))) (b - a) (cap - a)) := by
  cases h with
  | sl _ _ n _ sz u hn hc hsz ho ha hv =>
    have hl : ((xs.take b).drop a).length = b - a := by simp; omega
    have hget : ∀ (j : Nat) (x : Tr), ((xs.take b).drop a)[j]? = some x → xs[a + j]? = some x := by
      intro j x h
      rw [List.getElem?_drop, List.getElem?_take] at h
      split at h
      · exact h
      · cases h
    have hmem : ∀ x ∈ (xs.take b).drop a, x ∈ xs := fun x hx => mem_take (List.mem_of_mem_drop hx)
    refine .sl _ _ _ _ sz (fun j i => u (a + j) i) hl.symm (by omega) (fun x hx => hsz x (hmem x hx)) (fun x hx => ho x (hmem x hx)) (fun hne => ?_) (fun j x i c hx hc => hv _ x i c (hget j x hx) hc)
    have hpos : 0 < b - a := by rw [← hl]; exact List.length_pos_iff.2 hne
    have hxne : xs ≠ [] := by rintro rfl; simp at hb; omega
    obtain ⟨bb, o, e, hcell⟩ := ha hxne
    have hszs : sz = size := by
      obtain ⟨y, r, rfl⟩ := List.exists_cons_of_ne_nil hxne
      rw [← hsz y (by simp), hs y (by simp)]
    subst hszs
    rw [if_neg (by omega), e]
    refine ⟨bb, o + a * sz, by simp [add_none], fun j i hj hi => ?_⟩
    rw [hl] at hj
    have := hcell (a + j) i (by omega) hi
    have e1 : o + a * sz + (j * sz + i) = o + ((a + j) * sz + i) := by rw [Nat.add_mul]; omega
    rw [e1]
    exact this

theorem vrt_sl_len {xs : List Tr} {v : Value} (h : VRt g.pm w (.sl xs) v) : ∃ A cap, v = .slice A xs.length cap ∧ xs.length ≤ cap := by
  cases h with
  | sl _ a n cap sz u hn hc => subst hn; exact ⟨a, cap, rfl, hc⟩

theorem vrt_sl_size {xs : List Tr} {v : Value} (h : VRt g.pm w (.sl xs) v) : ∃ sz, ∀ x ∈ xs, x.cells.length = sz := by
  cases h with
  | sl _ a n cap sz u hn hc hsz => exact ⟨sz, hsz⟩

/-! ### texts and bytes -/
theorem ofBs_sound : ∀ (xs : List Tr) (l : List UInt8), ofBs xs = some l → ∀ (vs : List Value), vs.length = xs.length → (∀ (i : Nat) (x : Tr) (v : Value), xs[i]? = some x → vs[i]? = some v → VRt g.pm w x v) →
    ∃ ns : List Int, vs = ns.map (Value.int .u8) ∧ l = ns.map fun n => UInt8.ofNat n.toNat
  | [], l, h, vs, hl, _ => by injection h with h; subst h; rw [List.eq_nil_of_length_eq_zero hl]; exact ⟨[], rfl, rfl⟩
  | x :: xs, l, h, [], hl, _ => by simp at hl
  | x :: xs, l, h, v :: vs, hl, hv => by
    unfold ofBs at h
    split at h
    · rename_i heq; cases heq
    · rename_i n r' heq
      injection heq with h1 h2
      subst h1; subst h2
      obtain ⟨l', h3, h4⟩ := Option.map_eq_some_iff.1 h
      subst h4
      obtain ⟨ns, e1, e2⟩ := ofBs_sound _ l' h3 vs (by simpa using hl) fun i x v hx hw => hv (i + 1) x v (by simpa using hx) (by simpa using hw)
      have e3 : v = .int .u8 n := by
        have := hv 0 _ v rfl rfl
        cases this; rfl
      exact ⟨n :: ns, by rw [e1, e3]; rfl, by rw [e2]; rfl⟩
    · cases h

theorem b2s_sound (S : SR P g w H) {s d e : TypeId} (hs : P.underlying s = some (.slice e)) (he : P.underlying e = some (.int .u8)) (hd : P.underlying d = some .string) {a : AV} {v : Value} (hv : VR P g w H a v) {xs : List Tr} (hx : lookS H a = some xs) {l : List UInt8} (hl : ofBs xs = some l) :
    (convert s d v).run P w = .ok (.string ⟨l.toArray⟩) w := by
  have hsrc := src_sound S hv hx
  have hsz : ∀ x ∈ xs, x.cells.length = 1 := by
    have : ∀ (xs : List Tr) (l : List UInt8), ofBs xs = some l → ∀ x ∈ xs, x.cells.length = 1 := by
      intro xs
      induction xs with
      | nil => simp
      | cons y ys ih =>
        intro l h x hx
        unfold ofBs at h
        split at h
        · rename_i heq; cases heq
        · rename_i n r heq
          injection heq with h1 h2
          subst h1; subst h2
          obtain ⟨l', h3, _⟩ := Option.map_eq_some_iff.1 h
          rcases List.mem_cons.1 hx with rfl | hx
          · rfl
          · exact ih l' h3 x hx
        · cases h
    exact this xs l hl
  obtain ⟨A, c, news, rfl, hc, h1, h2, h3, h4⟩ := src_news hsrc (by omega : 0 < 1) hsz
  have hrel : ∀ (i : Nat) (x : Tr) (v : Value), xs[i]? = some x → news[i]? = some v → VRt g.pm w x v := by
    intro i x v hx hn
    have hx1 : x.one = true ∧ x.cells = [x] := by
      have h5 := hsz x (List.mem_of_getElem? hx)
      obtain ⟨_, _, _, _, _, _, _, ho, _⟩ := hsrc
      cases x with
      | v => exact ⟨rfl, rfl⟩
      | sl => exact ⟨rfl, rfl⟩
      | agg cs =>
        exfalso
        have : ∀ (xs : List Tr) (l : List UInt8), ofBs xs = some l → Tr.agg cs ∉ xs := by
          intro xs
          induction xs with
          | nil => simp
          | cons y ys ih =>
            intro l h hm
            unfold ofBs at h
            split at h
            · rename_i heq; cases heq
            · rename_i n r heq
              injection heq with h1 h2
              subst h1; subst h2
              obtain ⟨l', h3, _⟩ := Option.map_eq_some_iff.1 h
              rcases List.mem_cons.1 hm with hm | hm
              · cases hm
              · exact ih l' h3 hm
            · cases h
        exact this xs l hl (List.mem_of_getElem? hx)
    obtain ⟨u, hu, hv⟩ := h4 i x 0 x hx (by rw [hx1.2]; rfl)
    simp at hu
    rw [hn] at hu
    injection hu with hu
    rw [hu]
    exact hv
  obtain ⟨ns, e1, e2⟩ := ofBs_sound xs l hl news (by simpa using h1) hrel
  have hns : xs.length = ns.length := by
    have := h1
    rw [e1] at this
    simpa using this.symm
  cases A with
  | none =>
    have h0 : xs.length = 0 := by
      rcases Nat.eq_zero_or_pos xs.length with h | h
      · exact h
      · obtain ⟨ad, e, _⟩ := h2 h; cases e
    have : ns = [] := List.eq_nil_of_length_eq_zero (by omega)
    subst this
    subst e2
    rw [run_convert_bytes_nil w s e hs he _ _ d hd]
    rfl
  | some ad =>
    have hlc : (loadCells ad xs.length).run P w = .ok (ns.map (Value.int .u8)).toArray w := by
      have := run_loadCells_list (P := P) w ad news fun j v hj => by
        have hpos : 0 < xs.length := by have := lt_of_get hj; simp at h1; omega
        obtain ⟨ad', e, h⟩ := h2 hpos
        injection e with e
        subst e
        exact h j v hj
      rw [show news.length = xs.length by simpa using h1, e1] at this
      exact this
    rw [run_convert_bytes_string w s d e _ _ c hs he hd, run_bytesToString w ad _ c ns hlc, foldl_push_bytes]
    subst e2
    have he0 : ByteArray.empty.data = #[] := rfl
    rw [he0]
    simp
end
end Go.Proofs.YtgehpjjpeddomaaGreatDoor
/- The evaluator is true to the model: the operations, seventh part: places in structs and arrays, lengths, cuts, texts. -/
namespace Go.Proofs.YtgehpjjpeddomaaGreatDoor
open Go Go.Lib

/-- A computation's answer is the abstract one, in a world that holds the new heap. -/
def VOk (P : Program) (g : Gh) (w : World) (H : List AO) (s : Sem Value) (b : AV) (H' : List AO) : Prop :=
  ∃ r w' g', s.run P w = .ok r w' ∧ Stp P g w H g' w' H' ∧ VR P g' w' H' b r

section
variable {P : Program} {g : Gh} {w : World} {H H' : List AO}

theorem VOk.same (S : SR P g w H) {s : Sem Value} {r : Value} {b : AV} (h : s.run P w = .ok r w) (hv : VR P g w H b r) : VOk P g w H s b H := ⟨r, w, g, h, .refl S, hv⟩

theorem VOk.of_run {s s' : Sem Value} {b : AV} {H' : List AO} (h : VOk P g w H s b H') (hr : s'.run P w = s.run P w) : VOk P g w H s' b H' := by
  obtain ⟨r, w', g', h1, h2⟩ := h
  exact ⟨r, w', g', hr.trans h1, h2⟩

theorem vr_int (k : IntKind) (n : Int) : VR P g w H (.t (.v (.int k n))) (.int k n) := .t (.v _ rfl)
theorem vr_bool (q : Bool) : VR P g w H (.t (.v (.bool q))) (.bool q) := .t (.v _ rfl)
theorem vr_string (s : ByteArray) : VR P g w H (.t (.v (.string s))) (.string s) := .t (.v _ rfl)

theorem vr_v {x v : Value} (h : VR P g w H (.t (.v x)) v) : v = x := by
  cases h with | t h => cases h; rfl

theorem run_eq_nil {t e : TypeId} (hu : P.underlying t = some (.slice e)) (A : Option Addr) (n c : Nat) (w : World) : (Op.equal t (.slice A n c) (.slice none 0 0)).run P w = .ok A.isNone w := by
  unfold Op.equal
  obtain ⟨d, hd⟩ : ∃ d, Op.maxDepth = d + 1 := ⟨_, rfl⟩
  rw [hd, Op.equalIn]
  cases A <;> simp [run_underlying hu]

theorem run_bin_nil {t e : TypeId} (hu : P.underlying t = some (.slice e)) (no : Bool) (x y : Operand) (A : Option Addr) (n c : Nat) (w : World) :
    (do eqGuard (if no then .neq else .eql) t x y (.slice A n c) (.slice none 0 0); binOp (if no then .neq else .eql) t (.slice A n c) (.slice none 0 0) : Sem Value).run P w = .ok (.bool (if no then !A.isNone else A.isNone)) w := by
  have hg : (eqGuard (if no then .neq else .eql) t x y (.slice A n c) (.slice none 0 0)).run P w = .ok () w := by
    cases no <;> simp [eqGuard]
  rw [Sem.run_bind, hg, Result.andThen_ok]
  cases no
  · show (do pure (.bool (← Op.equal t (.slice A n c) (.slice none 0 0))) : Sem Value).run P w = _
    rw [Sem.run_bind, run_eq_nil hu, Result.andThen_ok]
    rfl
  · show (do pure (.bool (!(← Op.equal t (.slice A n c) (.slice none 0 0)))) : Sem Value).run P w = _
    rw [Sem.run_bind, run_eq_nil hu, Result.andThen_ok]
    rfl

/-- A slice against nil. -/
theorem isnil_ok (S : SR P g w H) {t e : TypeId} (hu : P.underlying t = some (.slice e)) (no : Bool) {a b : AV} {v : Value} (hv : VR P g w H a v)
    (h : (match (generalizing := false) a with
      | .nils => some (AV.t (.v (.bool (!no))), H)
      | .emp nl => some (AV.t (.v (.bool (nl != no))), H)
      | a => match (generalizing := false) lenS a with
        | some (_ + 1) => some (AV.t (.v (.bool no)), H)
        | _ => none) = some (b, H')) {op : BinOp} (hop : op = if no then .neq else .eql) (x y : Operand) :
    VOk P g w H (do eqGuard op t x y v (.slice none 0 0); binOp op t v (.slice none 0 0)) b H' := by
  have key : ∀ A n c, v = .slice A n c → (A = none → b = .t (.v (.bool (!no))) ∧ H' = H) → (A ≠ none → b = .t (.v (.bool no)) ∧ H' = H) → VOk P g w H (do eqGuard op t x y v (.slice none 0 0); binOp op t v (.slice none 0 0)) b H' := by
    intro A n c hvs h1 h2
    subst hvs
    subst hop
    have hr := run_bin_nil (P := P) hu no x y A n c w
    cases A with
    | none =>
      obtain ⟨rfl, rfl⟩ := h1 rfl
      refine .same S hr ?_
      cases no <;> exact vr_bool _
    | some A =>
      obtain ⟨rfl, rfl⟩ := h2 (by simp)
      refine .same S hr ?_
      cases no <;> exact vr_bool _
  have other : (match (generalizing := false) lenS a with
      | some (_ + 1) => some (AV.t (.v (.bool no)), H)
      | _ => none) = some (b, H') → VOk P g w H (do eqGuard op t x y v (.slice none 0 0); binOp op t v (.slice none 0 0)) b H' := by
    intro h
    split at h
    · rename_i n hl
      injection h with h
      injection h with h1 h2
      obtain ⟨A, c, rfl, hA⟩ := lenS_slice hl hv
      exact key A _ c rfl (fun h => absurd h (hA (by omega))) (fun _ => ⟨h1.symm, h2.symm⟩)
    · cases h
  cases a with
  | nils =>
    injection h with h
    injection h with h1 h2
    cases hv
    exact key none 0 0 rfl (fun _ => ⟨h1.symm, h2.symm⟩) (fun h => absurd rfl h)
  | emp =>
    injection h with h
    injection h with h1 h2
    cases hv with
    | emp nl A c hA =>
      refine key A 0 c rfl (fun h => ?_) (fun h => ?_)
      · subst h; subst hA; exact ⟨by rw [← h1]; cases no <;> rfl, h2.symm⟩
      · cases A with
        | none => exact absurd rfl h
        | some A => subst hA; exact ⟨by rw [← h1]; cases no <;> rfl, h2.symm⟩
  | _ => exact other h

/-- A field's address. -/
theorem fadr_ok (S : SR P g w H) {s : TypeId} {fs : Array Field} {f : Nat} {fd : Field} {n : Nat} (hs : P.underlying s = some (.struct fs)) (hf : fs[f]? = some fd) (hn : sizeA P fd.type = some n) (h0 : n ≠ 0)
    {a b : AV} {v : Value} (hv : VR P g w H a v) (h : (match (generalizing := false) a with
    | .ptr r o => some (AV.ptr r (o + fd.offset), H)
    | .ep r v n k o => some (.ep r v n k (o + fd.offset), H)
    | .ip cs => some (.ip (cs.drop fd.offset), H)
    | _ => none) = some (b, H')) : VOk P g w H (Instr.fieldAt s v f) b H' := by
  obtain ⟨i, hi, rfl⟩ := sizeA_some hn
  have run : ∀ b o, (Instr.fieldAt s (.pointer (some ⟨b, o, none⟩)) f).run P w = .ok (.pointer (some ⟨b, o + fd.offset, none⟩)) w := by
    intro b o
    simp [Instr.fieldAt, run_underlying hs, hf, Instr.sureAddr, fieldPlace, run_sizeOf' hi, h0, add_none]
  cases a with
  | ptr r o =>
    injection h with h
    injection h with h1 h2
    subst h1; subst h2
    cases hv with
    | ptr cs b hH hl => exact .same S (run b _) (.ptr cs b hH hl)
    | it s pos b hH hl => exact .same S (run b _) (.it s pos b hH hl)
  | ep r v n k o =>
    injection h with h
    injection h with h1 h2
    subst h1; subst h2
    cases hv with
    | ep h1 e v0 xs m d hH hv h =>
      obtain ⟨b, o, rfl⟩ := h1
      refine .same S (run b o) (.ep ⟨b, _, rfl⟩ e v0 xs m d hH hv fun he => ⟨(h he).1, fun hn => ?_⟩)
      obtain ⟨b', cap, h1, h2⟩ := (h he).2 hn
      injection h2 with h2
      injection h2 with h2
      injection h2 with h2 h3
      subst h2; subst h3
      exact ⟨b, cap, h1, by rw [Nat.add_assoc]⟩
  | ip cs =>
    injection h with h
    injection h with h1 h2
    subst h1; subst h2
    cases hv with
    | ip b o u hc ho hv =>
      refine .same S (run b o) (.ip b _ (fun i => u (fd.offset + i)) (fun i hi => ?_) (fun c hc => ho c (List.mem_of_mem_drop hc)) fun i c hi => ?_)
      · rw [Nat.add_assoc]; exact hc _ (by simp at hi; omega)
      · rw [List.getElem?_drop] at hi; exact hv _ c hi
  | _ => cases h

/-- An element's address, in an array. -/
theorem iarr_ok (S : SR P g w H) {t e : TypeId} {n sz j : Nat} (ht : P.underlying t = some (.array n e)) (hn : sizeA P e = some sz) {a i b : AV} {v u : Value} (hv : VR P g w H a v) (hu : VR P g w H i u) (hj : asNat? i = some j)
    (h : (if j < n then match (generalizing := false) a with
      | .ptr r o => some (AV.ptr r (o + j * sz), H)
      | .ip cs => some (.ip (cs.drop (j * sz)), H)
      | _ => none
    else none) = some (b, H')) : VOk P g w H (Instr.indexAt t v u) b H' := by
  obtain ⟨i, hi, rfl⟩ := sizeA_some hn
  obtain ⟨k, rfl⟩ := asNat_sound hj hu
  split at h
  case isFalse => cases h
  rename_i hlt
  have run : ∀ b o, (Instr.indexAt t (.pointer (some ⟨b, o, none⟩)) (.int k j)).run P w = .ok (.pointer (some ⟨b, o + j * i.size, none⟩)) w := by
    intro b o
    simp [Instr.indexAt, asIntOf, run_underlying ht, Instr.sureAddr, run_sizeOf' hi, hlt, add_none]
  cases a with
  | ptr r o =>
    injection h with h
    injection h with h1 h2
    subst h1; subst h2
    cases hv with
    | ptr cs b hH hl => exact .same S (run b _) (.ptr cs b hH hl)
    | it s pos b hH hl => exact .same S (run b _) (.it s pos b hH hl)
  | ip cs =>
    injection h with h
    injection h with h1 h2
    subst h1; subst h2
    cases hv with
    | ip b o u hc ho hv =>
      refine .same S (run b o) (.ip b _ (fun q => u (j * i.size + q)) (fun q hq => ?_) (fun c hc => ho c (List.mem_of_mem_drop hc)) fun q c hi => ?_)
      · rw [Nat.add_assoc]; exact hc _ (by simp at hq; omega)
      · rw [List.getElem?_drop] at hi; exact hv _ c hi
  | _ => cases h

/-- An element's address, in a slice. -/
theorem iadr_ok (S : SR P g w H) {t e : TypeId} {sz j : Nat} (ht : P.underlying t = some (.slice e)) (hn : sizeA P e = some sz) {a i b : AV} {v u : Value} (hv : VR P g w H a v) (hu : VR P g w H i u) (hj : asNat? i = some j)
    (h : (match (generalizing := false) a with
    | .t (.sl xs) => (xs[j]?).bind fun y => if y.cells.length = sz then some (AV.ip y.cells, H) else none
    | .win r v n => match (generalizing := false) H[r]? with
      | some (.arr e' v' xs _ _) => if v = v' ∧ e = e' ∧ j < n then
          if n = xs.length then some (.ep r v n j 0, H)
          else none
        else none
      | _ => none
    | _ => none) = some (b, H')) : VOk P g w H (Instr.indexAt t v u) b H' := by
  obtain ⟨i, hi, rfl⟩ := sizeA_some hn
  obtain ⟨k, rfl⟩ := asNat_sound hj hu
  have run : ∀ b o n cap, j < n → (Instr.indexAt t (.slice (some ⟨b, o, none⟩) n cap) (.int k j)).run P w = .ok (.pointer (some ⟨b, o + j * i.size, none⟩)) w := by
    intro b o n cap hlt
    simp [Instr.indexAt, asIntOf, run_underlying ht, run_sizeOf' hi, hlt, add_none]
  cases a with
  | t T =>
    cases T with
    | v => cases h
    | agg => cases h
    | sl xs =>
    obtain ⟨y, hy, h⟩ := bind_some_iff.1 h
    split at h
    case isFalse => cases h
    rename_i hys
    injection h with h
    injection h with h1 h2
    subst h1; subst h2
    cases hv with
    | t hv => cases hv with
      | sl _ A n cap sz u hn hc hsz ho ha hvv =>
        have hne : xs ≠ [] := by rintro rfl; simp at hy
        obtain ⟨bb, o, rfl, hcell⟩ := ha hne
        have hszi : sz = i.size := by rw [← hys]; exact (hsz y (List.mem_of_getElem? hy)).symm
        subst hszi
        subst hn
        refine .same S (run bb o _ cap (lt_of_get hy)) (.ip bb _ (u j) (fun q hq => ?_) (fun c hc => ho y (List.mem_of_getElem? hy) c hc) fun q c hq => hvv j y q c hy hq)
        have := hcell j q (lt_of_get hy) (by omega)
        rw [Nat.add_assoc]
        exact this
  | win r ver n =>
    dsimp only at h
    split at h
    case h_2 => cases h
    rename_i e' v' xs m d hr
    split at h
    case isFalse => cases h
    rename_i hc
    obtain ⟨rfl, rfl, hjn⟩ := hc
    split at h
    case isFalse => cases h
    rename_i hnx
    subst hnx
    injection h with h
    injection h with h1 h2
    subst h1; subst h2
    have hvl := win_front S hv hr
    obtain ⟨i', z, cells, a1, a2, a3, a4, a5, a6, a7, a8, a9, a10, a11⟩ := arr_open S hr
    have hii : i' = i := by rw [hi] at a1; injection a1 with a1; exact a1.symm
    subst hii
    rcases a5.2 with ⟨e1, e2⟩ | ⟨bb, cap, cur, e1, b1, b2, b3, b4, b5, b6⟩
    · omega
    · rw [hvl, e1]
      refine .same S (run bb 0 _ cap hjn) (.ep ⟨bb, _, rfl⟩ e ver xs m d hr (Nat.le_refl _) fun _ => ⟨Nat.le_refl _, fun _ => ⟨bb, cap, e1, ?_⟩⟩)
      rw [cellsOf_eq hi]
      simp
  | _ => cases h

end
end Go.Proofs.YtgehpjjpeddomaaGreatDoor
/- The evaluator is true to the model: the operations, eighth part: parts of structs, cuts, texts to bytes, rows that are built. -/
namespace Go.Proofs.YtgehpjjpeddomaaGreatDoor
open Go Go.Lib

section
variable {P : Program} {g : Gh} {w : World} {H H' : List AO}

theorem fzL_sound : ∀ (cs : List AV) (vs : List Value) (l : List Tr), fzL cs = some l → (∀ (i : Nat) (c : AV) (x : Value), cs[i]? = some c → vs[i]? = some x → VR P g w H c x) →
    l.length = cs.length ∧ (∀ c ∈ l, c.one = true) ∧ ∀ (i : Nat) (c : Tr) (x : Value), l[i]? = some c → vs[i]? = some x → VRt g.pm w c x := by
  intro cs
  induction cs with
  | nil => intro vs l h _; injection h with h; subst h; exact ⟨rfl, by simp, fun i c x h => by simp at h⟩
  | cons c cs ih =>
    intro vs l h hv
    have step : ∀ y : Tr, y.one = true → (∀ x : Value, vs[0]? = some x → VRt g.pm w y x) → (fzL cs).map (y :: ·) = some l → l.length = (c :: cs).length ∧ (∀ c ∈ l, c.one = true) ∧ ∀ (i : Nat) (c : Tr) (x : Value), l[i]? = some c → vs[i]? = some x → VRt g.pm w c x := by
      intro y hy1 hy2 hq
      obtain ⟨l', h1, h2⟩ := Option.map_eq_some_iff.1 hq
      subst h2
      obtain ⟨e1, e2, e3⟩ := ih vs.tail l' h1 fun i c x hc hx => hv (i + 1) c x (by simpa using hc) (by rw [List.getElem?_tail] at hx; exact hx)
      refine ⟨by simp [e1], fun d hd => ?_, fun i d x hd hx => ?_⟩
      · rcases List.mem_cons.1 hd with rfl | hd
        · exact hy1
        · exact e2 d hd
      · cases i with
        | zero => simp at hd; subst hd; exact hy2 x hx
        | succ i => exact e3 i d x (by simpa using hd) (by rw [List.getElem?_tail]; exact hx)
    cases c with
    | t y =>
      cases y with
      | v y => exact step _ rfl (fun x hx => by have := hv 0 _ x rfl hx; cases this with | t h => exact h) h
      | sl y => exact step _ rfl (fun x hx => by have := hv 0 _ x rfl hx; cases this with | t h => exact h) h
      | agg => cases h
    | nils => exact step (.sl []) rfl (fun x hx => by
        have := hv 0 _ x rfl hx
        cases this
        exact .sl [] none 0 0 0 (fun _ _ => .nilFunc) rfl (Nat.le_refl _) (by simp) (by simp) (by simp) (by simp)) h
    | emp => cases h
    | win => cases h
    | ptr => cases h
    | ep => cases h
    | ip => cases h
    | clo => cases h
    | mix => cases h
    | tup => cases h
    | junk => cases h

theorem ofCells_sound {cs : List AV} {vs : Array Value} (h : VRs P g w H cs vs) (h1 : ∀ c ∈ cs, c.one = true) : VR P g w H (ofCells cs) (.agg vs) := by
  unfold ofCells
  split
  · rename_i l hl
    obtain ⟨e1, e2, e3⟩ := fzL_sound cs vs.toList l hl fun i c x hc hx => h.2 i c x hc (by simpa using hx)
    exact .t (.agg l _ (by rw [h.1, e1]) e2 fun i c x hc hx => e3 i c x hc (by simpa using hx))
  · exact .mix _ h.1 h1 h.2

theorem part_mix {t : TypeId} {k : Option Nat} (hk : aggK P t = some k) {cs : List AV} {vs : Array Value} (hv : VR P g w H (.mix cs) (.agg vs)) {off : Nat} {a : AV} (h : takeC cs off k = some a) :
    ∃ v, (part t vs off).run P w = .ok v w ∧ VR P g w H a v := by
  obtain ⟨d, i, hu, hi, hc⟩ := aggK_info hk
  cases hv with
  | mix _ hl ho hv =>
  rcases hc with ⟨rfl, hd⟩ | ⟨rfl, _, hd⟩
  · simp only [takeC] at h
    split at h
    case isFalse => cases h
    rename_i hle
    injection h with h
    subst h
    refine ⟨.agg (vs.extract off (off + i.size)), run_part_agg hu hi hd _ _ _, ofCells_sound ⟨by simp; omega, fun j c v hc hx => ?_⟩ fun c hc => ho c (List.mem_of_mem_drop (List.mem_of_mem_take hc))⟩
    rw [List.getElem?_take] at hc
    split at hc
    · rw [List.getElem?_drop] at hc
      have hlt := lt_of_get hc
      rw [Array.getElem?_extract] at hx
      split at hx
      · exact hv _ c v hc hx
      · cases hx
    · cases hc
  · simp only [takeC] at h
    have hlt := lt_of_get h
    have hx : vs[off]? = some vs[off] := Array.getElem?_eq_getElem (by omega)
    exact ⟨vs[off], run_part_one hu hd _ _ hx _, hv off a _ h hx⟩

theorem fld_ok (S : SR P g w H) {s : TypeId} {fs : Array Field} {f : Nat} {fd : Field} {k : Option Nat} (hs : P.underlying s = some (.struct fs)) (hf : fs[f]? = some fd) (hk : aggK P fd.type = some k)
    {a b : AV} {v : Value} (hv : VR P g w H a v) (h : (match (generalizing := false) a with
    | .t (.agg cs) => (takeT cs fd.offset k).map (·, H)
    | .mix cs => (takeC cs fd.offset k).map (·, H)
    | _ => none) = some (b, H')) : VOk P g w H (Instr.field s v f) b H' := by
  have run : ∀ vs r, (part fd.type vs fd.offset).run P w = .ok r w → (Instr.field s (.agg vs) f).run P w = .ok r w := by
    intro vs r hr
    simp [Instr.field, run_underlying hs, hf, asAgg, hr]
  cases a with
  | t T =>
    cases T with
    | v => cases h
    | sl => cases h
    | agg cs =>
      obtain ⟨c, h1, h2⟩ := Option.map_eq_some_iff.1 h
      injection h2 with h2 h3
      subst h2; subst h3
      cases hv with
      | t hv =>
        cases hv with
        | agg _ vs hl ho hvv =>
          obtain ⟨r, hr, hrv⟩ := part_sound (P := P) (H := H) hk (VRt.agg cs vs hl ho hvv) h1
          exact .same S (run vs r hr) hrv
  | mix cs =>
    obtain ⟨c, h1, h2⟩ := Option.map_eq_some_iff.1 h
    injection h2 with h2 h3
    subst h2; subst h3
    cases hv with
    | mix vs hl ho hvv =>
      obtain ⟨r, hr, hrv⟩ := part_mix hk (VR.mix vs hl ho hvv) h1
      exact .same S (run vs r hr) hrv
  | _ => cases h

theorem idx_ok (S : SR P g w H) {t e : TypeId} {n sz j : Nat} {k : Option Nat} (ht : P.underlying t = some (.array n e)) (hn : sizeA P e = some sz) (hk : aggK P e = some k) {a i b : AV} {v u : Value} (hv : VR P g w H a v) (hu : VR P g w H i u) (hj : asNat? i = some j)
    (h : (if j < n then match (generalizing := false) a with
      | .t (.agg cs) => (takeT cs (j * sz) k).map (·, H)
      | _ => none
    else none) = some (b, H')) : VOk P g w H (Instr.index t v u) b H' := by
  obtain ⟨i, hi, rfl⟩ := sizeA_some hn
  obtain ⟨kk, rfl⟩ := asNat_sound hj hu
  split at h
  case isFalse => cases h
  rename_i hlt
  cases a with
  | t T =>
    cases T with
    | v => cases h
    | sl => cases h
    | agg cs =>
      obtain ⟨c, h1, h2⟩ := Option.map_eq_some_iff.1 h
      injection h2 with h2 h3
      subst h2; subst h3
      cases hv with
      | t hv =>
        cases hv with
        | agg _ vs hl ho hvv =>
          obtain ⟨r, hr, hrv⟩ := part_sound (P := P) (H := H) hk (VRt.agg cs vs hl ho hvv) h1
          refine .same S (r := r) ?_ hrv
          simp [Instr.index, asIntOf, run_underlying ht, run_sizeOf' hi, hlt, hr]
  | _ => cases h

theorem idxs_ok (S : SR P g w H) {t : TypeId} {j : Nat} (ht : P.underlying t = some .string) {a i b : AV} {v u : Value} (hv : VR P g w H a v) (hu : VR P g w H i u) (hj : asNat? i = some j)
    (h : (match (generalizing := false) a with
    | .t (.v (.string s)) => (s.data.toList[j]?).map fun b => (AV.t (.v (.int .u8 (b.toNat : Int))), H)
    | _ => none) = some (b, H')) : VOk P g w H (Instr.index t v u) b H' := by
  obtain ⟨kk, rfl⟩ := asNat_sound hj hu
  cases a with
  | t T =>
    cases T with
    | sl => cases h
    | agg => cases h
    | v y =>
      cases y with
      | string s =>
          obtain ⟨c, h1, h2⟩ := Option.map_eq_some_iff.1 h
          injection h2 with h2 h3
          subst h2; subst h3
          have := vr_v hv
          subst this
          refine .same S (r := .int .u8 (c.toNat : Int)) ?_ (vr_int _ _)
          have hlt : j < s.size := by have h := lt_of_get h1; rw [Array.length_toList] at h; exact h
          have hs : s[j]? = some c := by
            rw [getElem?_pos s j hlt]
            have h4 : s.data[j]? = some c := by simpa using h1
            rw [Array.getElem?_eq_getElem hlt] at h4
            exact h4
          simp [Instr.index, asIntOf, run_underlying ht, hs]
      | _ => cases h
  | _ => cases h

theorem extr_ok (S : SR P g w H) {i : Nat} {a b : AV} {v : Value} (hv : VR P g w H a v) (h : (match (generalizing := false) a with
    | .tup xs => (xs[i]?).map (·, H)
    | _ => none) = some (b, H')) : VOk P g w H (Instr.extract v i) b H' := by
  cases a with
  | tup xs =>
    obtain ⟨c, h1, h2⟩ := Option.map_eq_some_iff.1 h
    injection h2 with h2 h3
    subst h2; subst h3
    cases hv with
    | tup vs hl hvv =>
      have hlt : i < vs.size := by have := lt_of_get h1; omega
      have hx : vs[i]? = some vs[i] := Array.getElem?_eq_getElem hlt
      exact .same S (r := vs[i]) (by simp [Instr.extract, hx]) (hvv i c _ h1 hx)
  | _ => cases h

theorem len_ok (S : SR P g w H) {t ty e : TypeId} {n : Nat} (ht : P.underlying t = some (.slice e)) {a : AV} {v : Value} (hv : VR P g w H a v) (hl : lenS a = some n) : VOk P g w H (Builtin.len_ #[t] ty #[v]) (.t (.v (.int .i64 (n : Int)))) H := by
  obtain ⟨A, c, rfl, _⟩ := lenS_slice hl hv
  exact .same S (r := goInt n) (by simp [Builtin.len_, run_underlying ht]) (vr_int _ _)

theorem lens_ok (S : SR P g w H) {t ty : TypeId} {s : ByteArray} (ht : P.underlying t = some .string) {v : Value} (hv : VR P g w H (.t (.v (.string s))) v) : VOk P g w H (Builtin.len_ #[t] ty #[v]) (.t (.v (.int .i64 (s.size : Int)))) H := by
  have := vr_v hv
  subst this
  exact .same S (r := goInt s.size) (by simp [Builtin.len_, run_underlying ht]) (vr_int _ _)

theorem lenc_ok (S : SR P g w H) {t ty e : TypeId} {n : Nat} (ht : P.underlying t = some (.array n e)) (v : Value) : VOk P g w H (Builtin.len_ #[t] ty #[v]) (.t (.v (.int .i64 (n : Int)))) H :=
  .same S (r := goInt n) (by simp [Builtin.len_, run_underlying ht]) (vr_int _ _)

theorem ssl_ok (S : SR P g w H) {t : TypeId} (ht : P.underlying t = some .string) {s : ByteArray} {v : Value} (hv : VR P g w H (.t (.v (.string s))) v) {vlo vhi : Option Value} {a b : Nat}
    (hb : match vhi with | none => b = s.size | some v => ∃ k, v = .int k b) (ha : match vlo with | none => a = 0 | some v => ∃ k, v = .int k a) (hab : a ≤ b) (hbs : b ≤ s.size) :
    VOk P g w H (Instr.sliceAt t v vlo vhi none) (.t (.v (.string (s.extract a b)))) H := by
  have := vr_v hv
  subst this
  refine .same S (r := .string (s.extract a b)) ?_ (vr_string _)
  have := run_bounds (P := P) false s.size s.size vlo vhi hb ha hbs hab w
  simp [Instr.sliceAt, Instr.slice, run_underlying ht, this]

theorem sl_ok (S : SR P g w H) {t e : TypeId} {sz n : Nat} (ht : P.underlying t = some (.slice e)) (hn : sizeA P e = some sz) {a0 : AV} {v : Value} (hv : VR P g w H a0 v) (hl : lenS a0 = some n) {vlo vhi : Option Value} {a b : Nat}
    (hb : match vhi with | none => b = n | some v => ∃ k, v = .int k b) (ha : match vlo with | none => a = 0 | some v => ∃ k, v = .int k a) (hab : a ≤ b) (hbn : b ≤ n)
    {xs : List Tr} {H1 : List AO} (hz : fz a0 H = some (.sl xs, H1)) (hall : vlo = none ∨ xs.all (fun y => y.cells.length = sz) = true) :
    VOk P g w H (Instr.sliceAt t v vlo vhi none) (.t (.sl ((xs.take b).drop a))) H1 := by
  obtain ⟨i, hi, rfl⟩ := sizeA_some hn
  obtain ⟨g', T, hx⟩ := fz_sound S hv hz
  obtain ⟨A, c, rfl, _⟩ := lenS_slice hl hv
  obtain ⟨A', c', e1, hcap⟩ := vrt_sl_len hx
  injection e1 with e1 e2 e3
  subst e1; subst e2; subst e3
  have hbd := run_bounds (P := P) true xs.length c vlo vhi hb ha (by omega) hab w
  have hrun : (Instr.sliceAt t (.slice A xs.length c) vlo vhi none).run P w = .ok (.slice (if c = a then A else A.map (·.add (a * i.size))) (b - a) (c - a)) w := by
    simp [Instr.sliceAt, Instr.slice, run_underlying ht, hbd, run_sizeOf' hi]
  refine ⟨_, w, g', hrun, T, .t ?_⟩
  rcases hall with rfl | hall
  · subst ha
    obtain ⟨sz, hs⟩ := vrt_sl_size hx
    have := vrt_slice (w := w) hx hab hbn hs
    simpa using this
  · exact vrt_slice (w := w) hx hab hbn fun x hx => by simpa using List.all_eq_true.1 hall x hx

theorem slcut_ok (S : SR P g w H) {t e : TypeId} {sz n r ver : Nat} (ht : P.underlying t = some (.slice e)) (hn : sizeA P e = some sz) {v : Value} (hv : VR P g w H (.win r ver n) v) {vhi : Option Value} {k : Nat}
    (hb : match vhi with | none => k = n | some v => ∃ q, v = .int q k) {a : AV} (h : cutW H r ver n k = some (a, H')) :
    VOk P g w H (Instr.sliceAt t v none vhi none) a H' := by
  obtain ⟨i, hi, rfl⟩ := sizeA_some hn
  obtain ⟨A, c, g', rfl, hc, hk, T, hx⟩ := cut_sound S hv h
  have hbd := run_bounds (P := P) true n c none vhi (a := 0) hb rfl (by omega) (Nat.zero_le _) w
  refine ⟨.slice A k c, w, g', ?_, T, hx⟩
  have e1 : (if c = 0 then A else A.map fun x => x.add (0 * i.size)) = A := by
    split
    · rfl
    · rw [Nat.zero_mul]
      cases A with
      | none => rfl
      | some x => simp [Addr.add]
  simp [Instr.sliceAt, Instr.slice, run_underlying ht, hbd, run_sizeOf' hi]
  try simpa using e1

/-! ### texts to bytes -/
theorem s2b_ok (S : SR P g w H) {s d e : TypeId} (hs : P.underlying s = some .string) (hd : P.underlying d = some (.slice e)) (he : P.underlying e = some (.int .u8)) {x : ByteArray} {v : Value} (hv : VR P g w H (.t (.v (.string x))) v) :
    VOk P g w H (convert s d v) (.t (.sl (bsT x.data.toList))) H := by
  have := vr_v hv
  subst this
  have hrun := run_bytes_of_string (P := P) w s d e x hs hd he
  refine ⟨_, _, ⟨g.loc, fun b => if b = w.heap.size then x.size else g.pm b⟩, hrun, ?_, .t ?_⟩
  · have hold : ∀ b, b < w.heap.size → (w.drew.alloc (.cells (bytesRow x (grownCap w x.size 0 e)) e ((bytesRow x (grownCap w x.size 0 e)).size, (bytesRow x (grownCap w x.size 0 e)).size + 1))).heap[b]? = w.heap[b]? := fun b hb => heap_alloc_old w.drew _ b hb
    have hpm : ∀ b o, o < g.pm b → b < w.heap.size := fun b o h => by
      rcases Nat.lt_or_ge b w.heap.size with h1 | h1
      · exact h1
      · rw [S.new b h1] at h; omega
    have hp : ∀ b, g.pm b ≤ (if b = w.heap.size then x.size else g.pm b) := fun b => by
      split
      · rename_i h; rw [h, S.new _ (Nat.le_refl _)]; omega
      · exact Nat.le_refl _
    have hc : ∀ b o, o < g.pm b → (w.drew.alloc (.cells (bytesRow x (grownCap w x.size 0 e)) e ((bytesRow x (grownCap w x.size 0 e)).size, (bytesRow x (grownCap w x.size 0 e)).size + 1))).cell? ⟨b, o, none⟩ = w.cell? ⟨b, o, none⟩ := fun b o h => cell_of_heap (hold b (hpm b o h)) o
    have E : Ext P g w H ⟨g.loc, fun b => if b = w.heap.size then x.size else g.pm b⟩ (w.drew.alloc (.cells (bytesRow x (grownCap w x.size 0 e)) e ((bytesRow x (grownCap w x.size 0 e)).size, (bytesRow x (grownCap w x.size 0 e)).size + 1))) H :=
      ⟨hp, hc, Nat.le_refl _, fun _ cs h => ⟨⟨cs, h⟩, rfl⟩, fun _ _ p h => ⟨⟨p, h⟩, rfl⟩,
        fun _ _ ver xs m d h => ⟨ver, xs, m, d, h, Nat.le_refl _, fun _ => ⟨Nat.le_refl _, Nat.le_refl _, fun _ => rfl, fun _ _ _ _ hw => hw.mono hp hc⟩⟩⟩
    refine ⟨S.step E (fun r y hy => .inl ⟨hy, rfl, fun b hb => ?_⟩) S.disj (fun r b hr hb => ?_) (fun b hb => ?_), E, rfl, rfl, rfl, by simp, fun b hb _ => ⟨hold b hb, ?_⟩, fun r b hr hb => .inr ⟨r, hr, hb⟩⟩
    · have := S.lt r b (lt_of_get hy) hb
      exact ⟨hold b this, if_neg (by omega)⟩
    · have := S.lt r b hr hb
      simp; omega
    · simp at hb
      show (if b = w.heap.size then x.size else g.pm b) = 0
      rw [if_neg (by omega)]
      exact S.new b (by omega)
    · show (if b = w.heap.size then x.size else g.pm b) = g.pm b
      rw [if_neg (by omega)]
  · have hlen : (bsT x.data.toList).length = x.size := by rw [bsT, List.length_map, Array.length_toList]; rfl
    have hone : ∀ y ∈ bsT x.data.toList, y.cells = [y] ∧ y.one = true := by
      intro y hy
      obtain ⟨c, _, rfl⟩ := List.mem_map.1 hy
      exact ⟨rfl, rfl⟩
    refine .sl _ _ _ _ 1 (fun j _ => .int .u8 ((x.data.toList.getD j 0).toNat : Int)) hlen.symm ?_ (fun y hy => by rw [(hone y hy).1]; rfl) (fun y hy c hc => ?_) (fun _ => ⟨w.heap.size, 0, rfl, fun j i hj hi => ⟨?_, ?_⟩⟩) (fun j y i c hy hc => ?_)
    · exact grownCap_ge w x.size 0 e
    · rw [(hone y hy).1] at hc
      rw [List.mem_singleton.1 hc]
      exact (hone y hy).2
    · have hj' : j < x.data.size := by rw [hlen] at hj; exact hj
      have : 0 + (j * 1 + i) = j := by omega
      rw [this, show w.heap.size = w.drew.heap.size from rfl, World.cell?_alloc_mark w.drew, bytesRow_at x _ j hj']
      simp [List.getD, List.getElem?_eq_getElem (show j < x.data.toList.length by rw [Array.length_toList]; exact hj')]
    · simp only [if_true]
      omega
    · have hj := lt_of_get hy
      rw [hlen] at hj
      have hj' : j < x.data.size := hj
      rw [(hone y (List.mem_of_getElem? hy)).1] at hc
      have hi : i = 0 := by have := lt_of_get hc; simpa using this
      subst hi
      injection hc with hc
      subst hc
      have : y = .v (.int .u8 ((x.data.toList.getD j 0).toNat : Int)) := by
        simp only [bsT, List.getElem?_map] at hy
        obtain ⟨q, h1, h2⟩ := Option.map_eq_some_iff.1 hy
        rw [← h2]
        simp [List.getD, h1]
      rw [this]
      exact .v _ rfl
end
end Go.Proofs.YtgehpjjpeddomaaGreatDoor
/- The evaluator is true to the model: the operations, ninth part: rows and structs that are built, appends. -/
namespace Go.Proofs.YtgehpjjpeddomaaGreatDoor
open Go Go.Lib

section
variable {P : Program} {g : Gh} {w : World} {H H' : List AO}

theorem fill_one (place : Nat → Option (Nat × Nat)) {off sz i : Nat} {v : Value} {zs : Array Value} {r : List (Nat × Value)} (hp : place i = some (off, sz)) (hs : v.cells.size = sz) (ho : off + sz ≤ zs.size) :
    Instr.fill place zs ((i, v) :: r) = Instr.fill place (valSet zs off v.cells.toList) r := by
  simp only [Instr.fill, hp]
  have hb : (decide (v.cells.size ≠ sz) || decide (off + v.cells.size > zs.size)) = false := by simp [hs]; omega
  rw [if_neg (by simpa using hb)]
  have hf := valSet_fold zs off 0 v.cells.toList
  rw [Nat.add_zero] at hf
  rw [← hf]
  congr 1
  rw [← Array.foldl_toList]
  simp [Array.toList_zipIdx]

/-- A row is filled in order. -/
theorem fill_row (size : Nat) : ∀ (l : List (Nat × Value)) (i0 : Nat) (zs : Array Value), l.map (·.1) = List.range' i0 l.length → (∀ p ∈ l, p.2.cells.size = size) → (i0 + l.length) * size ≤ zs.size →
    ∃ cells, Instr.fill (fun i => some (i * size, size)) zs l = some cells ∧ cells.size = zs.size ∧
      (∀ (j : Nat) (p : Nat × Value) (k : Nat) (u : Value), l[j]? = some p → p.2.cells[k]? = some u → cells[(i0 + j) * size + k]? = some u) ∧ ∀ q, q < i0 * size → cells[q]? = zs[q]?
  | [], i0, zs, _, _, _ => ⟨zs, rfl, rfl, fun j p k u h => by simp at h, fun _ _ => rfl⟩
  | (i, v) :: r, i0, zs, h1, h2, h3 => by
    rw [List.length_cons, List.range'_succ, List.map_cons] at h1
    injection h1 with hi hr
    simp only at hi
    subst hi
    have hs : v.cells.size = size := h2 (i, v) (by simp)
    have hle : i * size + size ≤ zs.size := by
      have : (i + 1) * size ≤ (i + (r.length + 1)) * size := Nat.mul_le_mul_right _ (by omega)
      rw [Nat.add_mul, Nat.one_mul] at this
      simp only [List.length_cons] at h3
      omega
    obtain ⟨cells, e1, e2, e3, e4⟩ := fill_row size r (i + 1) (valSet zs (i * size) v.cells.toList) hr (fun p hp => h2 p (by simp [hp])) (by
      rw [valSet_size]
      simp only [List.length_cons] at h3
      have : i + 1 + r.length = i + (r.length + 1) := by omega
      rw [this]; exact h3)
    have hget := valSet_get zs (i * size) v.cells.toList (by simpa [hs] using hle)
    refine ⟨cells, ?_, by rw [e2, valSet_size], fun j p k u hj hk => ?_, fun q hq => ?_⟩
    · rw [fill_one _ rfl hs hle]; exact e1
    · cases j with
      | zero =>
        simp at hj
        subst hj
        have hk' : k < size := by rw [← hs]; exact (Array.getElem?_eq_some_iff.1 hk).1
        rw [Nat.add_zero, e4 _ (by rw [Nat.add_mul, Nat.one_mul]; omega), hget, if_pos (by simp [hs]; omega)]
        simpa using hk
      | succ j =>
        have := e3 j p k u (by simpa using hj) hk
        rw [← this]
        congr 2
        rw [show i + (j + 1) = i + 1 + j by omega]
    · rw [e4 q (by rw [Nat.add_mul, Nat.one_mul]; omega), hget, if_neg (by omega)]

theorem bslice_ok (S : SR P g w H) {t e : TypeId} (ht : P.underlying t = some (.slice e)) {z : Tr} (hz : zeroE P e = some z) {n : Nat} (hb : n * z.cells.length ≤ 16777216) {as : List AV} {l : List (Nat × Value)}
    (hl : l.map (·.1) = List.range n) (hla : l.length = as.length) (hv : ∀ (i : Nat) (a : AV) (p : Nat × Value), as[i]? = some a → l[i]? = some p → VR P g w H a p.2)
    {xs : List Tr} {H1 : List AO} (hf : fzs as H = some (xs, H1)) (hall : xs.all (fun x => x.cells.length = z.cells.length) = true) :
    VOk P g w H (Instr.buildSlice t n l.toArray) (.win H1.length 0 n) (H1 ++ [.arr e 0 xs 0 0]) := by
  obtain ⟨i, zv, a1, a2, a3, a4, a5, a6, a7⟩ := zeroE_some hz
  rw [a7] at hb hall
  have hall' : ∀ x ∈ xs, x.cells.length = i.size := fun x hx => by simpa using List.all_eq_true.1 hall x hx
  obtain ⟨g1, T, hxl, hvt⟩ := fzs_sound as g H S (l.map (·.2)) (by simpa using hla) (fun j a v ha hv' => by
    rw [List.getElem?_map] at hv'
    obtain ⟨p, h1, h2⟩ := Option.map_eq_some_iff.1 hv'
    rw [← h2]
    exact hv j a p ha h1) xs H1 hf
  have hln : l.length = n := by have := congrArg List.length hl; simpa using this
  have hxn : xs.length = n := by omega
  have hcell : ∀ (j : Nat) (x : Tr) (p : Nat × Value), xs[j]? = some x → l[j]? = some p → VRt g1.pm w x p.2 := fun j x p hx hp => hvt j x p.2 hx (by simp [hp])
  have hsz : ∀ p ∈ l, p.2.cells.size = i.size := by
    intro p hp
    obtain ⟨j, hj⟩ := List.getElem?_of_mem hp
    have hjx : j < xs.length := by have := lt_of_get hj; omega
    have hx := List.getElem?_eq_getElem hjx
    rw [(vrt_cells (hcell j _ p hx hj)).1]
    exact hall' _ (List.mem_of_getElem? hx)
  obtain ⟨cells, f1, f2, f3, _⟩ := fill_row i.size l 0 ((Array.range (n * i.size)).map ((if n * i.size = 0 then #[] else zv.cells)[· % (if n * i.size = 0 then #[] else zv.cells).size]!)) (by rw [hl, hln, List.range_eq_range']) hsz (by simp [hln])
  have f2' : cells.size = n * i.size := by rw [f2]; simp
  have hrun : (Instr.buildSlice t n l.toArray).run P w = .ok (.slice (some ⟨w.heap.size, 0, none⟩) n n) (w.alloc (.cells cells e)) := by
    unfold Instr.buildSlice
    simp only [Sem.run_bind, run_underlying ht, Result.andThen_ok, run_sizeOf' a1]
    rw [if_neg (by omega)]
    by_cases h0 : n * i.size = 0
    · rw [if_pos h0]
      simp only [if_pos h0] at f1
      simp only [Sem.run_bind, Sem.run_pure, Result.andThen_ok]
      rw [f1]
      simp [newRow]
    · rw [if_neg h0]
      simp only [if_neg h0] at f1
      have hzr : (zeroValue e).run P w = .ok zv w := by simp [zeroValue, typeInfo, a1, a2]
      simp only [Sem.run_bind, Sem.run_pure, hzr, Result.andThen_ok]
      rw [f1]
      simp [newRow]
  have hcl : ∀ (j : Nat) (x : Tr) (k : Nat) (c : Tr), xs[j]? = some x → x.cells[k]? = some c → ∃ u, cells[j * i.size + k]? = some u ∧ VRt g1.pm w c u := by
    intro j x k c hx hc
    have hjl : j < l.length := by have := lt_of_get hx; omega
    have hp := List.getElem?_eq_getElem hjl
    obtain ⟨c1, c2, c3⟩ := vrt_cells (hcell j x _ hx hp)
    have hkl : k < l[j].2.cells.size := by rw [c1]; exact lt_of_get hc
    have hu := Array.getElem?_eq_getElem hkl
    refine ⟨_, ?_, c3 k c _ hc hu⟩
    have := f3 j _ k _ hp hu
    rwa [Nat.zero_add] at this
  have hone : ∀ x ∈ xs, ∀ c ∈ x.cells, c.one = true := by
    intro x hx
    obtain ⟨j, hj⟩ := List.getElem?_of_mem hx
    have hjl : j < l.length := by have := lt_of_get hj; omega
    exact (vrt_cells (hcell j x _ hj (List.getElem?_eq_getElem hjl))).2.1
  have E := ext_alloc T.sr (.cells cells e) (.arr e 0 xs 0 0) (.slice (some ⟨w.heap.size, 0, none⟩) n n)
  have hnl : n ≤ maxLen := by
    have : n * 1 ≤ n * i.size := Nat.mul_le_mul_left _ a5
    have h2 : n * i.size ≤ 16777216 := hb
    simp only [maxLen]; omega
  have hown : (w.alloc (.cells cells e)).ownsRow 0 e i.size (.slice (some ⟨w.heap.size, 0, none⟩) n n) n (cells.toList.take (n * i.size)) :=
    ⟨by rw [List.length_take, Array.length_toList, f2']; omega, .inr ⟨w.heap.size, n, cells, rfl, Nat.zero_le _, heap_alloc_new w _, Nat.le_refl _, hnl, f2', rfl⟩⟩
  have T2 := stp_alloc T.sr (.cells cells e) (.arr e 0 xs 0 0) (.slice (some ⟨w.heap.size, 0, none⟩) n n) (fun b hb => by simpa [blk] using hb.symm)
    ⟨i, zv, cells.toList.take (n * i.size), a1, a2, a4, a5, by rw [Gh.put_same, hxn]; exact hown, hall', hone, fun j x k c hx hc => by
      obtain ⟨u, hu, hvu⟩ := hcl j x k c hx hc
      refine ⟨u, ?_, hvu.mono E.pm E.cell⟩
      have hk : k < i.size := by rw [← hall' x (List.mem_of_getElem? hx)]; exact lt_of_get hc
      have := cells_index hk n (by have := lt_of_get hx; omega : j < n)
      rw [List.getElem?_take, if_pos this]
      simpa using hu, by omega, by omega, fun b hb => by
      rw [Gh.put_same] at hb
      have hbb : b = w.heap.size := by simpa [blk] using hb.symm
      show g1.pm b ≤ _
      rw [hbb, T.sr.new _ (Nat.le_refl _)]; omega⟩
  refine ⟨_, _, _, hrun, T.trans T2, ?_⟩
  have := winAt_front (P := P) (w := w.alloc (.cells cells e)) (g := g1.put H1.length (.slice (some ⟨w.heap.size, 0, none⟩) n n)) (H := H1 ++ [.arr e 0 xs 0 0]) (r := H1.length) (ver := 0) (e := e) (m := 0) (d := 0) (xs := xs) (by simp) (g1.put_same ..).symm
    (by rw [hxn]; exact ownsRow_isSl hown)
  rwa [hxn] at this

theorem mksl_ok (S : SR P g w H) {t e : TypeId} (ht : P.underlying t = some (.slice e)) {z : Tr} (hz : zeroE P e = some z) {i : TypeInfo} (hi : P.info? e = some i) {a : AV} {u : Value} (hu : VR P g w H a u) {k : Nat} (hk : asNat? a = some k)
    (hb : i.bytes * k ≤ 281474976710656) (hm : k ≤ maxLenB) : VOk P g w H (Instr.makeSlice t u u) (.win H.length 0 k) (H ++ [.arr e 0 (List.replicate k z) 0 0]) := by
  obtain ⟨i', zv, a1, a2, a3, a4, a5, a6, a7⟩ := zeroE_some hz
  have hii : i' = i := by rw [hi] at a1; injection a1 with a1; exact a1.symm
  subst hii
  obtain ⟨kd, rfl⟩ := asNat_sound hk hu
  have h63 : (k : Int) ≤ 9223372036854775807 := by simp only [maxLenB] at hm; omega
  have hb' : (i'.bytes : Int) * (k : Int) ≤ 281474976710656 := by
    have h : ((i'.bytes * k : Nat) : Int) ≤ 281474976710656 := by omega
    rwa [Int.natCast_mul] at h
  have hrun := run_make (P := P) w t e i' zv ht a1 a2 kd kd k k (by omega) (Int.le_refl _) hb' h63
  simp only [Int.toNat_natCast] at hrun
  obtain ⟨c1, c2, c3⟩ := vrt_cells (trOf_sound (pm := g.pm) (w := w) a3)
  rw [← a6] at c1 c2 c3
  have hsize := size_madeCells zv.cells (k * i'.size)
  have E := ext_alloc S (.cells (madeCells zv.cells (k * i'.size)) e) (.arr e 0 (List.replicate k z) 0 0) (.slice (some ⟨w.heap.size, 0, none⟩) k k)
  have hkl : k ≤ maxLen := by simp only [maxLenB] at hm; simp only [maxLen]; omega
  have hown : (w.alloc (.cells (madeCells zv.cells (k * i'.size)) e)).ownsRow 0 e i'.size (.slice (some ⟨w.heap.size, 0, none⟩) k k) k ((madeCells zv.cells (k * i'.size)).toList.take (k * i'.size)) :=
    ⟨by rw [List.length_take, Array.length_toList, hsize]; omega, .inr ⟨w.heap.size, k, _, rfl, Nat.zero_le _, heap_alloc_new w _, Nat.le_refl _, hkl, hsize, rfl⟩⟩
  have T := stp_alloc S (.cells (madeCells zv.cells (k * i'.size)) e) (.arr e 0 (List.replicate k z) 0 0) (.slice (some ⟨w.heap.size, 0, none⟩) k k) (fun b hb => by simpa [blk] using hb.symm)
    ⟨i', zv, (madeCells zv.cells (k * i'.size)).toList.take (k * i'.size), a1, a2, a4, a5, by rw [Gh.put_same, List.length_replicate]; exact hown, fun x hx => by rw [(List.mem_replicate.1 hx).2, a7], fun x hx c hc => by rw [(List.mem_replicate.1 hx).2] at hc; exact c2 c hc, fun j x q c hx hc => by
      have hxz := (List.mem_replicate.1 (List.mem_of_getElem? hx)).2
      subst hxz
      have hq : q < i'.size := by rw [← a7]; exact lt_of_get hc
      have hj : j < k := by have := lt_of_get hx; simpa using this
      have hlt := cells_index hq k hj
      have hqz : q < zv.cells.size := by rw [a4]; exact hq
      refine ⟨zv.cells[q], ?_, (c3 q c _ hc (Array.getElem?_eq_getElem hqz)).mono E.pm E.cell⟩
      rw [List.getElem?_take, if_pos hlt]
      have hmod : (j * i'.size + q) % zv.cells.size = q := by rw [a4, Nat.mul_comm, Nat.mul_add_mod]; exact Nat.mod_eq_of_lt hq
      simp [madeCells, hlt, hmod, hqz], by omega, by omega, fun b hb => by
      rw [Gh.put_same] at hb
      have hbb : b = w.heap.size := by simpa [blk] using hb.symm
      show g.pm b ≤ _
      rw [hbb, S.new _ (Nat.le_refl _)]; omega⟩
  refine ⟨_, _, _, hrun, T, ?_⟩
  have := winAt_front (P := P) (w := w.alloc (.cells (madeCells zv.cells (k * i'.size)) e)) (g := g.put H.length (.slice (some ⟨w.heap.size, 0, none⟩) k k)) (H := H ++ [.arr e 0 (List.replicate k z) 0 0]) (r := H.length) (ver := 0) (e := e) (m := 0) (d := 0) (xs := List.replicate k z) (by simp) (g.put_same ..).symm
    (by rw [List.length_replicate]; exact ownsRow_isSl hown)
  rwa [List.length_replicate] at this

/-! ### structs and arrays -/
theorem run_mapM_list {α β : Type} (f : α → Sem β) (h : α → Option β) (hf : ∀ a b, h a = some b → (f a).run P w = .ok b w) : ∀ (l : List α) (r : List β), (∀ (i : Nat) (a : α), l[i]? = some a → ∃ b, r[i]? = some b ∧ h a = some b) → l.length = r.length →
    (l.mapM f).run P w = .ok r w
  | [], r, _, hl => by rw [List.eq_nil_of_length_eq_zero hl.symm]; rfl
  | a :: l, [], _, hl => by simp at hl
  | a :: l, b :: r, hr, hl => by
    obtain ⟨b', e1, e2⟩ := hr 0 a rfl
    injection e1 with e1
    subst e1
    rw [List.mapM_cons, Sem.run_bind, hf a b e2, Result.andThen_ok, Sem.run_bind, run_mapM_list f h hf l r (fun i a ha => hr (i + 1) a ha) (by simpa using hl)]
    rfl

theorem placesOf_get : ∀ (fs : List Field) (l : List (Nat × Nat)), placesOf P fs = some l → l.length = fs.length ∧ ∀ (i : Nat) (f : Field), fs[i]? = some f → ∃ s, sizeA P f.type = some s ∧ l[i]? = some (f.offset, s)
  | [], l, h => by injection h with h; subst h; exact ⟨rfl, fun i f h => by simp at h⟩
  | f :: r, l, h => by
    obtain ⟨s, h1, h2⟩ := bind_some_iff.1 h
    obtain ⟨l', h3, h4⟩ := Option.map_eq_some_iff.1 h2
    subst h4
    obtain ⟨e1, e2⟩ := placesOf_get r l' h3
    refine ⟨by simp [e1], fun i f' hf => ?_⟩
    cases i with
    | zero => simp at hf; subst hf; exact ⟨s, h1, rfl⟩
    | succ i => exact e2 i f' (by simpa using hf)

theorem run_places {fs : Array Field} {l : List (Nat × Nat)} (h : placesOf P fs.toList = some l) (w : World) : (fs.mapM fun f => do pure (f.offset, ← sizeOf f.type) : Sem (Array (Nat × Nat))).run P w = .ok l.toArray w := by
  obtain ⟨h1, h2⟩ := placesOf_get fs.toList l h
  rw [Array.mapM_eq_mapM_toList, Sem.run_map, run_mapM_list (fun f : Field => (do pure (f.offset, ← sizeOf f.type) : Sem (Nat × Nat))) (fun f => (sizeA P f.type).map fun s => (f.offset, s)) (fun f b hb => by
    obtain ⟨s, h3, rfl⟩ := Option.map_eq_some_iff.1 hb
    obtain ⟨i, hi, rfl⟩ := sizeA_some h3
    simp [run_sizeOf' hi]) fs.toList l (fun i f hf => by
    obtain ⟨s, h3, h4⟩ := h2 i f hf
    exact ⟨_, h4, by rw [h3]; rfl⟩) h1.symm]
  rfl

/-- The parts are laid; read as a tree where that can be. -/
theorem build_end (S : SR P g w H) {cs : List AV} {cells : Array Value} (hcs : VRs P g w H cs cells) (h1 : ∀ c ∈ cs, c.one = true) {b : AV} (h : (match (generalizing := false) fzC cs H with
      | some q => some (AV.t (.agg q.1), q.2)
      | none => some (.mix cs, H)) = some (b, H')) : ∃ g', Stp P g w H g' w H' ∧ VR P g' w H' b (.agg cells) := by
  split at h
  · rename_i q hq
    injection h with h
    injection h with e1 e2
    subst e1; subst e2
    obtain ⟨g', T, f1, f2, f3⟩ := fzC_sound cs g H S cells.toList (by simpa using hcs.1) (fun i a v ha hv => hcs.2 i a v ha (by simpa using hv)) q.1 q.2 hq
    exact ⟨g', T, .t (.agg _ _ (by rw [hcs.1, f1]) f2 fun i c v hc hv => f3 i c v hc (by simpa using hv))⟩
  · injection h with h
    injection h with e1 e2
    subst e1; subst e2
    exact ⟨g, .refl S, .mix _ hcs.1 h1 hcs.2⟩

theorem build_ok (S : SR P g w H) {t : TypeId} {z : Tr} (hz : zeroT P t = some z) (place : Nat → Option (Nat × Nat)) {ps : List (Nat × Nat × AV)} {vps : List (Nat × Value)} (hl : vps.length = ps.length)
    (hp : ∀ (i : Nat) (p : Nat × Nat × AV) (q : Nat × Value), ps[i]? = some p → vps[i]? = some q → place q.1 = some (p.1, p.2.1) ∧ VR P g w H p.2.2 q.2)
    {cs : List AV} (hc : fillC (z.cells.map .t) ps = some cs) {b : AV} (h : (match (generalizing := false) fzC cs H with
      | some q => some (AV.t (.agg q.1), q.2)
      | none => some (.mix cs, H)) = some (b, H')) {s : Sem Value}
    (hs : ∀ zv cells, (zeroValue t).run P w = .ok zv w → Instr.fill place zv.cells vps = some cells → s.run P w = .ok (.agg cells) w) : VOk P g w H s b H' := by
  obtain ⟨i, zv, a1, a2, a3, a4, rfl⟩ := zeroT_some hz
  obtain ⟨c1, c2, c3⟩ := vrt_cells (trOf_sound (pm := g.pm) (w := w) a3)
  have hzs : VRs P g w H ((trOf zv).cells.map .t) zv.cells := ⟨by simpa using c1, fun j a v ha hv => by
    rw [List.getElem?_map] at ha
    obtain ⟨c, e1, e2⟩ := Option.map_eq_some_iff.1 ha
    subst e2
    exact .t (c3 j c v e1 hv)⟩
  obtain ⟨cells, f1, f2, f3⟩ := fill_sound place ps vps _ _ hzs (fun c hc => by
    obtain ⟨x, hx, rfl⟩ := List.mem_map.1 hc
    exact c2 x hx) hl hp cs hc
  obtain ⟨g', T, hv⟩ := build_end S f2 f3 h
  exact ⟨_, w, g', hs zv cells (by simp [zeroValue, typeInfo, a1, a2]) f1, T, hv⟩

/-! ### appends -/
theorem app_ok (S : SR P g w H) {t ty e : TypeId} {i : TypeInfo} {z : Tr} (ht : P.underlying t = some (.slice e)) (hz : zeroE P e = some z) (hi : P.info? e = some i) {a y b : AV} {v u : Value} (hv : VR P g w H a v) (hu : VR P g w H y u)
    {ys : List Tr} (hy : lookS H y = some ys) (h : appW H e i.size i.bytes a ys = some (b, H')) : VOk P g w H (Builtin.append_ #[t, t] ty #[v, u]) b H' := by
  obtain ⟨i', zv, a1, a2, a3, a4, a5, a6, a7⟩ := zeroE_some hz
  have hii : i' = i := by rw [hi] at a1; injection a1 with a1; exact a1.symm
  subst hii
  have hsrc := src_sound S hu hy
  have hone : ∀ x ∈ ys, ∀ c ∈ x.cells, c.one = true := by obtain ⟨_, _, _, _, _, _, _, h, _⟩ := hsrc; exact h
  have := app_sound S hv h a1 a2 a4 a5 rfl rfl (r := fun _ _ => True) (run := fun v w => (Builtin.append_ #[t, t] ty #[v, u]).run P w) (fun v n cells hown hb1 hb2 hys => by
    obtain ⟨A, c, news, rfl, hc, h1, h2, h3, h4⟩ := src_news hsrc a5 hys
    obtain ⟨v', w', hr, hg⟩ := grew_slice t ty e i' zv ht a1 a2 a4 a5 v n cells hown A ys.length c news h1 h2 h3 hb1 (by omega)
    exact ⟨v', w', news, hr, hg, hone, h4⟩)
  obtain ⟨v', w', g', h1, h2⟩ := this
  exact ⟨v', w', g', h1, h2⟩

theorem apps_ok (S : SR P g w H) {t t2 ty e : TypeId} {i : TypeInfo} {z : Tr} (ht : P.underlying t = some (.slice e)) (ht2 : P.underlying t2 = some .string) (hz : zeroE P e = some z) (hi : P.info? e = some i) (h1 : i.size = 1) (h2 : i.bytes = 1) {a b : AV} {v u : Value} (hv : VR P g w H a v)
    {s : ByteArray} (hu : VR P g w H (.t (.v (.string s))) u) (h : appW H e 1 1 a (bsT s.data.toList) = some (b, H')) : VOk P g w H (Builtin.append_ #[t, t2] ty #[v, u]) b H' := by
  obtain ⟨i', zv, a1, a2, a3, a4, a5, a6, a7⟩ := zeroE_some hz
  have hii : i' = i := by rw [hi] at a1; injection a1 with a1; exact a1.symm
  subst hii
  have := vr_v hu
  subst this
  have hlen : (bsT s.data.toList).length = s.size := by rw [bsT, List.length_map, Array.length_toList]; rfl
  have := app_sound S hv h a1 a2 a4 a5 h1.symm h2.symm (r := fun _ _ => True) (run := fun v w => (Builtin.append_ #[t, t2] ty #[v, .string s]).run P w) (fun v n cells hown hb1 hb2 hys => by
    obtain ⟨v', w', hr, hg⟩ := grew_string t t2 ty e i' zv ht ht2 a1 a2 a4 h1 h2 v n cells hown s (by rw [← hlen]; exact hb2)
    refine ⟨v', w', _, hr, by rw [hlen]; exact hg, fun x hx c hc => ?_, fun j x k c hx hc => ?_⟩
    · obtain ⟨q, _, rfl⟩ := List.mem_map.1 hx
      rw [List.mem_singleton.1 (show c ∈ [Tr.v (.int .u8 (q.toNat : Int))] from hc)]; rfl
    · simp only [bsT, List.getElem?_map] at hx
      obtain ⟨q, e1, e2⟩ := Option.map_eq_some_iff.1 hx
      subst e2
      have hk : k = 0 := by have := lt_of_get hc; simpa [Tr.cells] using this
      subst hk
      injection hc with hc
      subst hc
      exact ⟨_, by rw [h1]; simp [strCells, e1], .v _ rfl⟩)
  obtain ⟨v', w', g', h1, h2⟩ := this
  exact ⟨v', w', g', h1, h2⟩

theorem two_ok (S : SR P g w H) {f : Value → Value → Sem Value} {a b c : AV} {u v : Value} (hu : VR P g w H a u) (hv : VR P g w H b v) (h : flat2 P f a b = some c) {s : Sem Value} (hs : s.run P w = (f u v).run P w) : VOk P g w H s c H := by
  obtain ⟨r, h1, h2⟩ := flat2_sound h hu hv
  exact .same S (hs.trans (runP_sound h1 w)) h2
end
end Go.Proofs.YtgehpjjpeddomaaGreatDoor
/- The evaluator is true to the model: every operation that is no call of a function. -/
namespace Go.Proofs.YtgehpjjpeddomaaGreatDoor
open Go Go.Lib

def AOp.plain : AOp → Bool
  | .sl _ _ _ _ _ => false
  | .mv _ => false
  | _ => true

theorem strip_eq {ao X : AOp} (h : X = stripOp ao) (h1 : X.plain = true) : ao = X := by
  cases ao <;> first | exact h.symm | (rw [h] at h1; cases h1)

theorem strip_sl {ao : AOp} {s : Nat} {x : Opd} {lo hi : Option Opd} (h : AOp.sl s false x lo hi = stripOp ao) : ∃ c, ao = .sl s c x lo hi := by
  cases ao <;> first | (cases h; exact ⟨_, rfl⟩) | cases h

theorem strip_mv {ao : AOp} {x : Opd} (h : AOp.mv x = stripOp ao) : ao = .mv x ∨ ∃ e, ao = .nil e ∧ x = .z := by
  cases ao <;> first | (cases h; exact .inl rfl) | (cases h; exact .inr ⟨_, rfl, rfl⟩) | cases h

section
variable {L : Lay} {g : Gh} {w : World} {H H' : List AO} {ts : List AV} {a : Act} {o : Oper} {ao : AOp} {b : AV}

theorem OpOk.of_v {s : Sem Value} (h : execOp a.eval o = (do pure (.value (← s)))) (hs : VOk L.P g w H s b H') : OpOk L.P g w H ((execOp a.eval o).run L.P w) b H' := opOk_v h hs

theorem bound_sound (hts : VRs L.P g w H ts a.tmps) (hG : GOk L g w H) {x : Option Operand} {lo : Option Opd} (hc : compO x = some lo) {d k : Nat} (hb : (match (generalizing := false) lo with
    | some o => asNat? (o.ev L ts)
    | none => some d) = some k) : match x.map a.eval with | none => k = d | some v => ∃ q, v = .int q k := by
  cases x with
  | none =>
    injection hc with hc
    subst hc
    injection hb with hb
    exact hb.symm
  | some x =>
    obtain ⟨y, h1, h2⟩ := Option.map_eq_some_iff.1 hc
    subst h2
    exact asNat_sound hb (opd_sound hts hG h1)

theorem run_mv (S : SR L.P g w H) (hts : VRs L.P g w H ts a.tmps) (hG : GOk L g w H) {x : Operand} (hex : execOp a.eval o = pure (.value (a.eval x))) (hc : (compOpd x).map AOp.mv = some (stripOp ao)) (hn : ao.nilOk L.P = true) (hr : ao.run L ts H = some (b, H')) :
    OpOk L.P g w H ((execOp a.eval o).run L.P w) b H' := by
  obtain ⟨y, h1, h2⟩ := Option.map_eq_some_iff.1 hc
  have hv := opd_sound hts hG h1
  rcases strip_mv h2 with rfl | ⟨e, rfl, rfl⟩
  · injection hr with hr
    injection hr with e1 e2
    subst e1; subst e2
    exact .same S (by rw [hex]; rfl) hv
  · injection hr with hr
    injection hr with e1 e2
    subst e1; subst e2
    obtain ⟨g', T, hx⟩ := nil_sound S (e := e) hn
    have : a.eval x = .slice none 0 0 := by
      have hv : VR L.P g w H .nils (a.eval x) := hv
      generalize a.eval x = v at hv ⊢
      cases hv
      rfl
    exact ⟨_, a.eval x, w, g', by rw [hex]; rfl, .inl rfl, T, by rw [this]; exact hx⟩

theorem compPairs_get : ∀ (ps : List (Nat × Operand)) (qs : List (Nat × Opd)), compPairs ps = some qs → qs.length = ps.length ∧ ∀ (i : Nat) (p : Nat × Operand), ps[i]? = some p → ∃ x, qs[i]? = some (p.1, x) ∧ compOpd p.2 = some x
  | [], qs, h => by injection h with h; subst h; exact ⟨rfl, fun i p h => by simp at h⟩
  | (i, x) :: r, qs, h => by
    obtain ⟨y, h1, h2⟩ := bind_some_iff.1 h
    obtain ⟨r', h3, h4⟩ := Option.map_eq_some_iff.1 h2
    subst h4
    obtain ⟨e1, e2⟩ := compPairs_get r r' h3
    refine ⟨by simp [e1], fun j p hp => ?_⟩
    cases j with
    | zero => simp at hp; subst hp; exact ⟨y, rfl, h1⟩
    | succ j => exact e2 j p (by simpa using hp)

theorem compParts_get (place : Nat → Option (Nat × Nat)) : ∀ (ps : List (Nat × Operand)) (qs : List (Nat × Nat × Opd)), compParts place ps = some qs → qs.length = ps.length ∧
    ∀ (i : Nat) (p : Nat × Operand) (q : Nat × Nat × Opd), ps[i]? = some p → qs[i]? = some q → place p.1 = some (q.1, q.2.1) ∧ compOpd p.2 = some q.2.2
  | [], qs, h => by injection h with h; subst h; exact ⟨rfl, fun i p q h => by simp at h⟩
  | (i, x) :: r, qs, h => by
    obtain ⟨pl, h0, h⟩ := bind_some_iff.1 h
    obtain ⟨y, h1, h2⟩ := bind_some_iff.1 h
    obtain ⟨r', h3, h4⟩ := Option.map_eq_some_iff.1 h2
    subst h4
    obtain ⟨e1, e2⟩ := compParts_get place r r' h3
    refine ⟨by simp [e1], fun j p q hp hq => ?_⟩
    cases j with
    | zero => simp at hp hq; subst hp; subst hq; exact ⟨h0, h1⟩
    | succ j => exact e2 j p q (by simpa using hp) (by simpa using hq)

theorem run_build (S : SR L.P g w H) (hts : VRs L.P g w H ts a.tmps) (hG : GOk L g w H) {t : TypeId} {ps : Array (Nat × Operand)} (hex : execOp a.eval o = (do pure (.value (← Instr.build t (ps.map fun (i, x) => (i, a.eval x))))))
    (hc : compOp L.P (.build t ps) = some (stripOp ao)) (hr : ao.run L ts H = some (b, H')) : OpOk L.P g w H ((execOp a.eval o).run L.P w) b H' := by
  have common : ∀ (place : Nat → Option (Nat × Nat)) (z : Tr) (qs : List (Nat × Nat × Opd)), zeroT L.P t = some z → compParts place ps.toList = some qs → AOp.build z.cells qs = stripOp ao →
      (∀ zv cells, (zeroValue t).run L.P w = .ok zv w → Instr.fill place zv.cells (ps.toList.map fun (i, x) => (i, a.eval x)) = some cells → (Instr.build t (ps.map fun (i, x) => (i, a.eval x))).run L.P w = .ok (.agg cells) w) →
      OpOk L.P g w H ((execOp a.eval o).run L.P w) b H' := by
    intro place z qs hz hq hX hs
    have := strip_eq hX rfl
    subst this
    obtain ⟨cs, h1, h2⟩ := bind_some_iff.1 hr
    obtain ⟨e1, e2⟩ := compParts_get place ps.toList qs hq
    refine .of_v hex (build_ok S hz place (vps := ps.toList.map fun (i, x) => (i, a.eval x)) (by simp [e1]) (fun i p q hp hq => ?_) h1 h2 hs)
    rw [List.getElem?_map] at hp hq
    obtain ⟨p', f1, f2⟩ := Option.map_eq_some_iff.1 hp
    obtain ⟨q', f3, f4⟩ := Option.map_eq_some_iff.1 hq
    subst f2; subst f4
    obtain ⟨k1, k2⟩ := e2 i q' p' f3 f1
    exact ⟨k1, opd_sound hts hG k2⟩
  simp only [compOp] at hc
  split at hc
  · rename_i fs hu
    obtain ⟨z, h1, hc⟩ := bind_some_iff.1 hc
    obtain ⟨l, h2, hc⟩ := bind_some_iff.1 hc
    obtain ⟨qs, h3, hc⟩ := Option.map_eq_some_iff.1 hc
    refine common (fun i => l[i]?) z qs h1 h3 hc fun zv cells hz hf => ?_
    unfold Instr.build
    simp only [Sem.run_bind, hz, Result.andThen_ok, run_underlying hu]
    rw [run_places h2]
    simp only [Result.andThen_ok, List.getElem?_toArray, Array.toList_map]
    rw [hf]
    rfl
  · rename_i n e hu
    obtain ⟨z, h1, hc⟩ := bind_some_iff.1 hc
    obtain ⟨s, h2, hc⟩ := bind_some_iff.1 hc
    obtain ⟨qs, h3, hX⟩ := Option.map_eq_some_iff.1 hc
    obtain ⟨i, hi, rfl⟩ := sizeA_some h2
    refine common (fun j => some (j * i.size, i.size)) z qs h1 h3 hX fun zv cells hz hf => ?_
    unfold Instr.build
    simp only [Sem.run_bind, hz, Result.andThen_ok, run_underlying hu, run_sizeOf' hi, Array.toList_map]
    rw [hf]
    rfl
  · cases hc

theorem run_bslice (S : SR L.P g w H) (hts : VRs L.P g w H ts a.tmps) (hG : GOk L g w H) {t : TypeId} {n : Nat} {ps : Array (Nat × Operand)} (hex : execOp a.eval o = (do pure (.value (← Instr.buildSlice t n (ps.map fun (i, x) => (i, a.eval x))))))
    (hc : compOp L.P (.buildSlice t n ps) = some (stripOp ao)) (hr : ao.run L ts H = some (b, H')) : OpOk L.P g w H ((execOp a.eval o).run L.P w) b H' := by
  simp only [compOp] at hc
  split at hc
  case h_2 => cases hc
  rename_i e hu
  obtain ⟨z, h1, hc⟩ := bind_some_iff.1 hc
  split at hc
  case isFalse => cases hc
  rename_i hb
  obtain ⟨qs, h3, hc⟩ := Option.map_eq_some_iff.1 hc
  have := strip_eq hc rfl
  subst this
  obtain ⟨q, h4, hr⟩ := bind_some_iff.1 hr
  split at hr
  case isFalse => cases hr
  rename_i hq
  injection hr with hr
  injection hr with f1 f2
  subst f1; subst f2
  obtain ⟨e1, e2⟩ := compPairs_get ps.toList qs h3
  have hmap : (ps.map fun (i, x) => (i, a.eval x)) = (ps.toList.map fun (i, x) => (i, a.eval x)).toArray := by cases ps; simp
  rw [hmap] at hex
  refine .of_v hex (bslice_ok S hu h1 hb (as := qs.map fun p => p.2.ev L ts) ?_ (by simp [e1]) (fun i x p hx hp => ?_) h4 hq.2)
  · rw [← hq.1]
    apply List.ext_getElem?
    intro i
    rw [List.getElem?_map, List.getElem?_map, List.getElem?_map]
    cases hi : ps.toList[i]? with
    | none =>
      have : qs[i]? = none := List.getElem?_eq_none (by rw [e1]; exact List.getElem?_eq_none_iff.1 hi)
      rw [this]; rfl
    | some p =>
      obtain ⟨x, hx, _⟩ := e2 i p hi
      rw [hx]; rfl
  · rw [List.getElem?_map] at hx hp
    obtain ⟨p', f1, f2⟩ := Option.map_eq_some_iff.1 hx
    obtain ⟨q', f3, f4⟩ := Option.map_eq_some_iff.1 hp
    subst f2; subst f4
    obtain ⟨x, k1, k2⟩ := e2 i q' f3
    rw [f1] at k1
    injection k1 with k1
    subst k1
    exact opd_sound hts hG k2

theorem run_load (S : SR L.P g w H) (hts : VRs L.P g w H ts a.tmps) (hG : GOk L g w H) {t : TypeId} {x : Operand} (hex : execOp a.eval o = (do pure (.value (← Instr.loadAt t (a.eval x)))))
    (hc : compOp L.P (.load t x) = some (stripOp ao)) (hr : ao.run L ts H = some (b, H')) : OpOk L.P g w H ((execOp a.eval o).run L.P w) b H' := by
  obtain ⟨k, h1, hc⟩ := bind_some_iff.1 hc
  obtain ⟨y, h2, hc⟩ := Option.map_eq_some_iff.1 hc
  have := strip_eq hc rfl
  subst this
  obtain ⟨c, h3, hr⟩ := Option.map_eq_some_iff.1 hr
  injection hr with f1 f2
  subst f1; subst f2
  obtain ⟨bb, oo, e1, e2⟩ := loadA_cells S h3 (opd_sound hts hG h2)
  have key : ∃ v, (loadVar t ⟨bb, oo, none⟩).run L.P w = .ok v w ∧ VR L.P g w H c v := by
    cases k with
    | none => exact run_loadVar h1 e2
    | some n => exact run_loadVar h1 e2
  obtain ⟨v, e3, e4⟩ := key
  refine .of_v hex (.same S (r := v) ?_ e4)
  rw [e1]
  simp [Instr.loadAt, Instr.sureAddr, e3]

theorem run_store (S : SR L.P g w H) (hts : VRs L.P g w H ts a.tmps) (hG : GOk L g w H) {t : TypeId} {x y : Operand} (hex : execOp a.eval o = (do Instr.storeAt t (a.eval x) (a.eval y); pure .skip))
    (hc : compOp L.P (.store t x y) = some (stripOp ao)) (hr : ao.run L ts H = some (b, H')) : OpOk L.P g w H ((execOp a.eval o).run L.P w) b H' := by
  obtain ⟨n, h1, hc⟩ := bind_some_iff.1 hc
  obtain ⟨x', h2, hc⟩ := bind_some_iff.1 hc
  obtain ⟨y', h3, hc⟩ := Option.map_eq_some_iff.1 hc
  have := strip_eq hc rfl
  subst this
  obtain ⟨c, h4, hr⟩ := Option.map_eq_some_iff.1 hr
  injection hr with f1 f2
  subst f1; subst f2
  obtain ⟨w', g', e1, T⟩ := store_sound S h1 (opd_sound hts hG h2) (opd_sound hts hG h3) h4
  refine ⟨.skip, undef, w', g', ?_, .inr ⟨rfl, rfl⟩, T, .junk _⟩
  rw [hex, Sem.run_bind, e1]
  rfl

theorem run_nilck (S : SR L.P g w H) (hts : VRs L.P g w H ts a.tmps) (hG : GOk L g w H) {x : Operand} (hop : o.op = .nilCheck x)
    (hc : compOp L.P (.nilCheck x) = some (stripOp ao)) (hr : ao.run L ts H = some (b, H')) : OpOk L.P g w H ((execOp a.eval o).run L.P w) b H' := by
  obtain ⟨y, h2, hc⟩ := Option.map_eq_some_iff.1 hc
  have := strip_eq hc rfl
  subst this
  have hv := opd_sound hts hG h2
  have hrun : ∀ ad, a.eval x = .pointer (some ad) → (execOp a.eval o).run L.P w = .ok (.value (.pointer (some ad))) w := by
    intro ad h
    simp [execOp, hop, h]
  simp only [AOp.run] at hr
  generalize y.ev L ts = c at hr hv
  cases c with
  | ptr r off =>
    injection hr with hr; injection hr with f1 f2; subst f1; subst f2
    generalize he : a.eval x = v at hv
    cases hv with
    | ptr cs bb hH hl => exact .same S (hrun _ he) (.ptr cs bb hH hl)
    | it s pos bb hH hl => exact .same S (hrun _ he) (.it s pos bb hH hl)
  | ep r v n k off =>
    injection hr with hr; injection hr with f1 f2; subst f1; subst f2
    generalize he : a.eval x = v at hv
    cases hv with
    | ep h1 e v0 xs m d hH hv h =>
      obtain ⟨bb, oo, rfl⟩ := h1
      exact .same S (hrun _ he) (.ep ⟨bb, oo, rfl⟩ e v0 xs m d hH hv h)
  | ip cs =>
    injection hr with hr; injection hr with f1 f2; subst f1; subst f2
    generalize he : a.eval x = v at hv
    cases hv with
    | ip bb oo u hc ho hv => exact .same S (hrun _ he) (.ip bb oo u hc ho hv)
  | clo f as bs =>
    injection hr with hr; injection hr with f1 f2; subst f1; subst f2
    generalize he : a.eval x = v at hv
    cases hv with
    | clo vs us q1 q2 q3 q4 =>
      refine .same S ?_ (.clo vs us q1 q2 q3 q4)
      simp [execOp, hop, he]
  | _ => cases hr

theorem run_bin (S : SR L.P g w H) (hts : VRs L.P g w H ts a.tmps) (hG : GOk L g w H) {op : BinOp} {t yt : TypeId} {x y : Operand} (hex : execOp a.eval o = (do pure (.value (← (do eqGuard op t x y (a.eval x) (a.eval y); binOp op t (a.eval x) (a.eval y))))))
    (hc : compOp L.P (.binOp op t x y yt) = some (stripOp ao)) (hr : ao.run L ts H = some (b, H')) : OpOk L.P g w H ((execOp a.eval o).run L.P w) b H' := by
  simp only [compOp] at hc
  split at hc
  · rename_i e hu
    split at hc
    case isFalse => cases hc
    rename_i hnil
    have hy : a.eval y = .slice none 0 0 := by
      unfold isNilC at hnil
      split at hnil
      · rfl
      · cases hnil
    have main : ∀ (no : Bool) (x' : Opd), op = (if no then .neq else .eql) → compOpd x = some x' → AOp.isnil no x' = stripOp ao → OpOk L.P g w H ((execOp a.eval o).run L.P w) b H' := by
      intro no x' hop h2 hX
      have := strip_eq hX rfl
      subst this
      rw [hy] at hex
      exact .of_v hex (isnil_ok S hu no (opd_sound hts hG h2) hr hop x y)
    split at hc
    · obtain ⟨x', h2, hc⟩ := Option.map_eq_some_iff.1 hc
      exact main false x' rfl h2 hc
    · obtain ⟨x', h2, hc⟩ := Option.map_eq_some_iff.1 hc
      exact main true x' rfl h2 hc
    · cases hc
  · obtain ⟨x', h2, hc⟩ := bind_some_iff.1 hc
    obtain ⟨y', h3, hc⟩ := Option.map_eq_some_iff.1 hc
    have := strip_eq hc rfl
    subst this
    obtain ⟨c, h4, hr⟩ := Option.map_eq_some_iff.1 hr
    injection hr with f1 f2
    subst f1; subst f2
    obtain ⟨r, e1, e2⟩ := bin_sound h4 (opd_sound hts hG h2) (opd_sound hts hG h3) x y
    exact .of_v hex (.same S e1 e2)

theorem run_conv (S : SR L.P g w H) (hts : VRs L.P g w H ts a.tmps) (hG : GOk L g w H) {s d : TypeId} {x : Operand} (hex : execOp a.eval o = (do pure (.value (← convert s d (a.eval x)))))
    (hc : compOp L.P (.convert s d x) = some (stripOp ao)) (hr : ao.run L ts H = some (b, H')) : OpOk L.P g w H ((execOp a.eval o).run L.P w) b H' := by
  simp only [compOp] at hc
  split at hc
  · rename_i e hs hd
    split at hc
    · rename_i he
      obtain ⟨y, h2, hc⟩ := Option.map_eq_some_iff.1 hc
      have := strip_eq hc rfl
      subst this
      obtain ⟨xs, h3, hr⟩ := bind_some_iff.1 hr
      obtain ⟨l, h4, hr⟩ := Option.map_eq_some_iff.1 hr
      injection hr with f1 f2
      subst f1; subst f2
      exact .of_v hex (.same S (b2s_sound S hs he hd (opd_sound hts hG h2) h3 h4) (vr_string _))
    · cases hc
  · rename_i e hs hd
    split at hc
    · rename_i he
      obtain ⟨y, h2, hc⟩ := Option.map_eq_some_iff.1 hc
      have := strip_eq hc rfl
      subst this
      have hv := opd_sound hts hG h2
      simp only [AOp.run] at hr
      split at hr
      · rename_i st hst
        rw [hst] at hv
        injection hr with hr
        injection hr with f1 f2
        subst f1; subst f2
        exact .of_v hex (s2b_ok S hs hd he hv)
      · cases hr
    · cases hc
  · obtain ⟨y, h2, hc⟩ := Option.map_eq_some_iff.1 hc
    have := strip_eq hc rfl
    subst this
    obtain ⟨c, h4, hr⟩ := Option.map_eq_some_iff.1 hr
    injection hr with f1 f2
    subst f1; subst f2
    obtain ⟨r, e1, e2⟩ := flat1_sound h4 (opd_sound hts hG h2)
    exact .of_v hex (.same S e1 e2)
  · cases hc

theorem run_slice (S : SR L.P g w H) (hts : VRs L.P g w H ts a.tmps) (hG : GOk L g w H) {t : TypeId} {x : Operand} {lo hi : Option Operand} (hex : execOp a.eval o = (do pure (.value (← Instr.sliceAt t (a.eval x) (lo.map a.eval) (hi.map a.eval) none))))
    (hc : compOp L.P (.slice t x lo hi none) = some (stripOp ao)) (hr : ao.run L ts H = some (b, H')) : OpOk L.P g w H ((execOp a.eval o).run L.P w) b H' := by
  obtain ⟨y, h1, hc⟩ := bind_some_iff.1 hc
  obtain ⟨l, h2, hc⟩ := bind_some_iff.1 hc
  obtain ⟨h, h3, hc⟩ := bind_some_iff.1 hc
  have hv := opd_sound hts hG h1
  split at hc
  · rename_i hu
    injection hc with hc
    have := strip_eq hc rfl
    subst this
    simp only [AOp.run] at hr
    split at hr
    case h_2 => cases hr
    rename_i st hst
    rw [hst] at hv
    obtain ⟨kb, hb, hr⟩ := bind_some_iff.1 hr
    obtain ⟨ka, ha, hr⟩ := bind_some_iff.1 hr
    split at hr
    case isFalse => cases hr
    rename_i hab
    injection hr with hr
    injection hr with f1 f2
    subst f1; subst f2
    exact .of_v hex (ssl_ok S hu hv (bound_sound hts hG h3 hb) (bound_sound hts hG h2 ha) hab.1 hab.2)
  · rename_i e hu
    obtain ⟨s, h4, hc⟩ := Option.map_eq_some_iff.1 hc
    obtain ⟨cut, rfl⟩ := strip_sl hc
    obtain ⟨n, h5, hr1⟩ := bind_some_iff.1 hr
    obtain ⟨kb, hb, hr2⟩ := bind_some_iff.1 hr1
    obtain ⟨ka, ha, hr3⟩ := bind_some_iff.1 hr2
    clear hr hr1 hr2
    rename _ => hr
    have hb' := bound_sound hts hG h3 hb
    have ha' := bound_sound hts hG h2 ha
    split at hr
    case isFalse => cases hr
    rename_i hab
    cases cut with
    | true =>
      simp only [if_true] at hr
      generalize y.ev L ts = c at hr hv h5
      cases c with
      | win r ver k =>
        injection h5 with h5
        subst h5
        cases l with
        | some q => cases hr
        | none =>
          have : lo = none := by cases lo with
            | none => rfl
            | some q => obtain ⟨_, _, h⟩ := Option.map_eq_some_iff.1 h2; cases h
          subst this
          exact .of_v hex (slcut_ok S hu h4 hv hb' hr)
      | _ => cases hr
    | false =>
      obtain ⟨⟨x0, H1⟩, h6, hr⟩ := bind_some_iff.1 (show ((fz (y.ev L ts) H).bind fun q => match (generalizing := false) q.1 with
          | .sl xs => if l.isNone = true ∨ xs.all (fun y => y.cells.length = s) = true then some (AV.t (.sl ((xs.take kb).drop ka)), q.2) else none
          | _ => none) = some (b, H') from hr)
      dsimp only at hr
      split at hr
      case h_2 => cases hr
      rename_i xs
      split at hr
      case isFalse => cases hr
      rename_i hall
      injection hr with hr
      injection hr with f1 f2
      subst f1; subst f2
      refine .of_v hex (sl_ok S hu h4 hv h5 hb' ha' hab.1 hab.2 h6 (hall.imp (fun h => ?_) id))
      cases lo with
      | none => rfl
      | some q =>
        obtain ⟨_, _, h'⟩ := Option.map_eq_some_iff.1 h2
        subst h'
        cases h
  · cases hc
end
end Go.Proofs.YtgehpjjpeddomaaGreatDoor
/- The evaluator is true to the model: every operation that is no call of a function, joined. -/
namespace Go.Proofs.YtgehpjjpeddomaaGreatDoor
open Go Go.Lib

section
variable {L : Lay} {g : Gh} {w : World} {H H' : List AO} {ts : List AV} {a : Act} {o : Oper} {ao : AOp} {b : AV}

theorem toArray_of {α : Type} {xs : Array α} {l : List α} (h : xs.toList = l) : xs = l.toArray := by rw [← h]

theorem exec_builtin {c : Call} {bi : Builtin} (hop : o.op = .call c) (hcal : c.callee = .builtin bi) (w : World) :
    ∃ k, (execOp a.eval o).run L.P w = (builtin bi c.argTypes o.type k (c.args.map a.eval)).run L.P w :=
  ⟨_, by simp only [execOp, hop, resolve, hcal, Sem.run_bind, Sem.run_pure, Result.andThen_ok, invoke]; rfl⟩

theorem run_builtin (S : SR L.P g w H) (hts : VRs L.P g w H ts a.tmps) (hG : GOk L g w H) {c : Call} (hop : o.op = .call c)
    (hc : compCall L.P c = some (stripOp ao)) (hr : ao.run L ts H = some (b, H')) : OpOk L.P g w H ((execOp a.eval o).run L.P w) b H' := by
  have fin : ∀ {bi : Builtin} {s : Sem Value}, c.callee = .builtin bi → (∀ k, builtin bi c.argTypes o.type k (c.args.map a.eval) = (do pure (.value (← s)))) → VOk L.P g w H s b H' → OpOk L.P g w H ((execOp a.eval o).run L.P w) b H' := by
    intro bi s h1 h2 h3
    obtain ⟨r, w', g', e1, e2, e3⟩ := h3
    refine ⟨.value r, r, w', g', ?_, .inl rfl, e2, e3⟩
    obtain ⟨k, hk⟩ := exec_builtin (L := L) (a := a) hop h1 w
    rw [hk, h2, Sem.run_bind, e1]
    rfl
  unfold compCall at hc
  split at hc
  · obtain ⟨as, h1, hc⟩ := Option.map_eq_some_iff.1 hc
    have := strip_eq hc rfl
    subst this
    cases hr
  · obtain ⟨x, h1, hc⟩ := bind_some_iff.1 hc
    obtain ⟨as, h2, hc⟩ := Option.map_eq_some_iff.1 hc
    have := strip_eq hc rfl
    subst this
    cases hr
  · rename_i x t hcal hargs hty
    obtain ⟨y, h1, hc⟩ := bind_some_iff.1 hc
    have hv := opd_sound hts hG h1
    have ea := toArray_of hargs
    have et := toArray_of hty
    have em : c.args.map a.eval = #[a.eval x] := by rw [ea]; simp
    have hb : ∀ k, builtin .len c.argTypes o.type k (c.args.map a.eval) = (do pure (.value (← Builtin.len_ #[t] o.type #[a.eval x]))) := fun k => by rw [em, et]; rfl
    split at hc
    · rename_i hu
      injection hc with hc
      have := strip_eq hc rfl
      subst this
      simp only [AOp.run] at hr
      split at hr
      · rename_i st hst
        rw [hst] at hv
        injection hr with hr
        injection hr with f1 f2
        subst f1; subst f2
        exact fin hcal hb (lens_ok S hu hv)
      · cases hr
    · rename_i e hu
      injection hc with hc
      have := strip_eq hc rfl
      subst this
      obtain ⟨n, h2, hr⟩ := Option.map_eq_some_iff.1 hr
      injection hr with f1 f2
      subst f1; subst f2
      exact fin hcal hb (len_ok S hu hv h2)
    · rename_i n e hu
      injection hc with hc
      have := strip_eq hc rfl
      subst this
      injection hr with hr
      injection hr with f1 f2
      subst f1; subst f2
      exact fin hcal hb (lenc_ok S hu _)
    · cases hc
  · rename_i x y t u hcal hargs hty
    obtain ⟨x', h1, hc⟩ := bind_some_iff.1 hc
    obtain ⟨y', h2, hc⟩ := bind_some_iff.1 hc
    have hv := opd_sound hts hG h1
    have hu := opd_sound hts hG h2
    have ea := toArray_of hargs
    have et := toArray_of hty
    have em : c.args.map a.eval = #[a.eval x, a.eval y] := by rw [ea]; simp
    have hb : ∀ k, builtin .append c.argTypes o.type k (c.args.map a.eval) = (do pure (.value (← Builtin.append_ #[t, u] o.type #[a.eval x, a.eval y]))) := fun k => by rw [em, et]; rfl
    split at hc
    · rename_i e e' ht1 ht2
      obtain ⟨z, h3, hc⟩ := bind_some_iff.1 hc
      obtain ⟨i, h4, hc4⟩ := bind_some_iff.1 hc
      split at hc4
      case isFalse => cases hc4
      rename_i hte
      obtain ⟨rfl, rfl⟩ := hte
      injection hc4 with hc4
      have := strip_eq hc4 rfl
      subst this
      obtain ⟨ys, h5, hr⟩ := bind_some_iff.1 hr
      exact fin hcal hb (app_ok S ht1 h3 h4 hv hu h5 hr)
    · rename_i e ht1 ht2
      split at hc
      · rename_i i he hi
        split at hc
        case isFalse => cases hc
        rename_i hh
        obtain ⟨q1, q2, q3⟩ := hh
        injection hc with hc
        have := strip_eq hc rfl
        subst this
        obtain ⟨z, hz⟩ := Option.isSome_iff_exists.1 q3
        simp only [AOp.run] at hr
        split at hr
        · rename_i st hst
          rw [hst] at hu
          exact fin hcal hb (apps_ok S ht1 ht2 hz hi q1 q2 hv hu hr)
        · cases hr
      · cases hc
    · cases hc
  · rename_i x y hcal hargs
    obtain ⟨os, h1, hc⟩ := Option.map_eq_some_iff.1 hc
    have := strip_eq hc rfl
    subst this
    obtain ⟨x', h2, h1⟩ := bind_some_iff.1 h1
    obtain ⟨l', h3, h1⟩ := Option.map_eq_some_iff.1 h1
    obtain ⟨y', h4, h3⟩ := bind_some_iff.1 h3
    obtain ⟨l'', h5, h3⟩ := Option.map_eq_some_iff.1 h3
    injection h5 with h5
    subst h5; subst h3; subst h1
    obtain ⟨r, h6, hr⟩ := Option.map_eq_some_iff.1 hr
    injection hr with f1 f2
    subst f1; subst f2
    have ea := toArray_of hargs
    have em : c.args.map a.eval = #[a.eval x, a.eval y] := by rw [ea]; simp
    have hb : ∀ k, builtin .max c.argTypes o.type k (c.args.map a.eval) = (do pure (.value (← Builtin.max_ c.argTypes o.type #[a.eval x, a.eval y]))) := fun k => by rw [em]; rfl
    exact fin hcal hb (two_ok S (opd_sound hts hG h2) (opd_sound hts hG h4) h6 (by simp [Builtin.max_]))
  · rename_i x y hcal hargs
    obtain ⟨os, h1, hc⟩ := Option.map_eq_some_iff.1 hc
    have := strip_eq hc rfl
    subst this
    obtain ⟨x', h2, h1⟩ := bind_some_iff.1 h1
    obtain ⟨l', h3, h1⟩ := Option.map_eq_some_iff.1 h1
    obtain ⟨y', h4, h3⟩ := bind_some_iff.1 h3
    obtain ⟨l'', h5, h3⟩ := Option.map_eq_some_iff.1 h3
    injection h5 with h5
    subst h5; subst h3; subst h1
    obtain ⟨r, h6, hr⟩ := Option.map_eq_some_iff.1 hr
    injection hr with f1 f2
    subst f1; subst f2
    have ea := toArray_of hargs
    have em : c.args.map a.eval = #[a.eval x, a.eval y] := by rw [ea]; simp
    have hb : ∀ k, builtin .min c.argTypes o.type k (c.args.map a.eval) = (do pure (.value (← Builtin.min_ c.argTypes o.type #[a.eval x, a.eval y]))) := fun k => by rw [em]; rfl
    exact fin hcal hb (two_ok S (opd_sound hts hG h2) (opd_sound hts hG h4) h6 (by simp [Builtin.min_]))
  · cases hc

/-- Every operation that is no call of a function. -/
theorem run_sound (S : SR L.P g w H) (hts : VRs L.P g w H ts a.tmps) (hG : GOk L g w H) (hc : compOp L.P o.op = some (stripOp ao)) (hn : ao.nilOk L.P = true) (hr : ao.run L ts H = some (b, H')) :
    OpOk L.P g w H ((execOp a.eval o).run L.P w) b H' := by
  cases hop : o.op with
  | move x => rw [hop] at hc; exact run_mv S hts hG (by simp only [execOp, hop]) hc hn hr
  | assign x => rw [hop] at hc; exact run_mv S hts hG (by simp only [execOp, hop]) hc hn hr
  | pick c x y =>
    rw [hop] at hc
    obtain ⟨c', h1, hc⟩ := bind_some_iff.1 hc
    obtain ⟨x', h2, hc⟩ := bind_some_iff.1 hc
    obtain ⟨y', h3, hc⟩ := Option.map_eq_some_iff.1 hc
    have := strip_eq hc rfl
    subst this
    obtain ⟨q, h4, hr⟩ := Option.map_eq_some_iff.1 hr
    injection hr with f1 f2
    subst f1; subst f2
    have hq := isB_sound h4 (opd_sound hts hG h1)
    exact .same S (v := if q then a.eval x else a.eval y) (by simp [execOp, hop, hq, asBool]) (sel_sound (opd_sound hts hG h2) (opd_sound hts hG h3))
  | alloc e =>
    rw [hop] at hc
    obtain ⟨z, h1, hc⟩ := Option.map_eq_some_iff.1 hc
    have := strip_eq hc rfl
    subst this
    injection hr with hr
    injection hr with f1 f2
    subst f1; subst f2
    exact .of_v (s := Instr.alloc e true (.tuple #[])) (by simp only [execOp, hop]) (alloc_sound S h1)
  | box e x =>
    rw [hop] at hc
    obtain ⟨x', h1, hc⟩ := Option.map_eq_some_iff.1 hc
    have := strip_eq hc rfl
    subst this
    simp only [AOp.run] at hr
    split at hr
    case isFalse => cases hr
    rename_i hok
    injection hr with hr
    injection hr with f1 f2
    subst f1; subst f2
    exact .of_v (s := Instr.box e (a.eval x)) (by simp only [execOp, hop]) (box_sound S e hok (opd_sound hts hG h1))
  | build t ps => rw [hop] at hc; exact run_build S hts hG (by simp only [execOp, hop]) hc hr
  | buildSlice t n ps => rw [hop] at hc; exact run_bslice S hts hG (by simp only [execOp, hop]) hc hr
  | makeSlice t x y =>
    rw [hop] at hc
    cases x with
    | tmp x =>
      cases y with
      | tmp y =>
        simp only [compOp] at hc
        split at hc
        case h_2 => cases hc
        rename_i e hu
        obtain ⟨z, h1, hc⟩ := bind_some_iff.1 hc
        obtain ⟨i, h2, hc4⟩ := bind_some_iff.1 hc
        split at hc4
        case isFalse => cases hc4
        rename_i hxy
        subst hxy
        injection hc4 with hc4
        have := strip_eq hc4 rfl
        subst this
        obtain ⟨k, h3, hr⟩ := bind_some_iff.1 hr
        split at hr
        case isFalse => cases hr
        rename_i hk
        injection hr with hr
        injection hr with f1 f2
        subst f1; subst f2
        exact .of_v (s := Instr.makeSlice t (a.eval (.tmp x)) (a.eval (.tmp x))) (by simp only [execOp, hop]) (mksl_ok S hu h1 h2 (opd_sound hts hG (x := .tmp x) rfl) h3 hk.1 hk.2)
      | _ => cases hc
    | _ => cases hc
  | load t x => rw [hop] at hc; exact run_load S hts hG (by simp only [execOp, hop]) hc hr
  | store t x y => rw [hop] at hc; exact run_store S hts hG (by simp only [execOp, hop]) hc hr
  | nilCheck x => rw [hop] at hc; exact run_nilck S hts hG hop hc hr
  | binOp op t x y yt => rw [hop] at hc; exact run_bin S hts hG (by simp only [execOp, hop]) hc hr
  | unOp op t x =>
    rw [hop] at hc
    obtain ⟨x', h1, hc⟩ := Option.map_eq_some_iff.1 hc
    have := strip_eq hc rfl
    subst this
    obtain ⟨c, h2, hr⟩ := Option.map_eq_some_iff.1 hr
    injection hr with f1 f2
    subst f1; subst f2
    obtain ⟨r, e1, e2⟩ := flat1_sound h2 (opd_sound hts hG h1)
    exact .of_v (s := Op.unary op (a.eval x)) (by simp only [execOp, hop]) (.same S e1 e2)
  | convert s d x => rw [hop] at hc; exact run_conv S hts hG (by simp only [execOp, hop]) hc hr
  | makeFunc fn first cap =>
    rw [hop] at hc
    cases fn with
    | func f =>
      obtain ⟨as, h1, hc⟩ := bind_some_iff.1 hc
      obtain ⟨bs, h2, hc⟩ := Option.map_eq_some_iff.1 hc
      have := strip_eq hc rfl
      subst this
      injection hr with hr
      injection hr with f1 f2
      subst f1; subst f2
      have e1 := opds_sound hts hG h1
      have e2 := opds_sound hts hG h2
      refine .of_v (s := Instr.makeFunc (.func f) (first.map a.eval) (cap.map a.eval)) (by simp only [execOp, hop]) (.same S (r := .func (.func f) (first.map a.eval) (cap.map a.eval)) rfl ?_)
      have m1 : first.map a.eval = (first.toList.map a.eval).toArray := by cases first; simp
      have m2 : cap.map a.eval = (cap.toList.map a.eval).toArray := by cases cap; simp
      rw [m1, m2]
      exact .clo _ _ e1.1 e2.1 e1.2 e2.2
    | _ => cases hc
  | slice t x lo hi mx =>
    rw [hop] at hc
    cases mx with
    | none => exact run_slice S hts hG (by simp only [execOp, hop, Option.map_none]) hc hr
    | some m => cases hc
  | fieldAddr s x f =>
    rw [hop] at hc
    simp only [compOp] at hc
    split at hc
    case h_2 => cases hc
    rename_i fs hu
    obtain ⟨fd, h1, hc⟩ := bind_some_iff.1 hc
    obtain ⟨n, h2, hc⟩ := bind_some_iff.1 hc
    split at hc
    case isTrue => cases hc
    rename_i hn0
    obtain ⟨x', h3, hc⟩ := Option.map_eq_some_iff.1 hc
    have := strip_eq hc rfl
    subst this
    exact .of_v (s := Instr.fieldAt s (a.eval x) f) (by simp only [execOp, hop]) (fadr_ok S hu h1 h2 hn0 (opd_sound hts hG h3) hr)
  | field s x f =>
    rw [hop] at hc
    simp only [compOp] at hc
    split at hc
    case h_2 => cases hc
    rename_i fs hu
    obtain ⟨fd, h1, hc⟩ := bind_some_iff.1 hc
    obtain ⟨k, h2, hc⟩ := bind_some_iff.1 hc
    obtain ⟨x', h3, hc⟩ := Option.map_eq_some_iff.1 hc
    have := strip_eq hc rfl
    subst this
    exact .of_v (s := Instr.field s (a.eval x) f) (by simp only [execOp, hop]) (fld_ok S hu h1 h2 (opd_sound hts hG h3) hr)
  | indexAddr t x i =>
    rw [hop] at hc
    obtain ⟨x', h1, hc⟩ := bind_some_iff.1 hc
    obtain ⟨i', h2, hc⟩ := bind_some_iff.1 hc
    split at hc
    · rename_i e hu
      obtain ⟨s, h3, hc⟩ := Option.map_eq_some_iff.1 hc
      have := strip_eq hc rfl
      subst this
      obtain ⟨j, h4, hr⟩ := bind_some_iff.1 hr
      exact .of_v (s := Instr.indexAt t (a.eval x) (a.eval i)) (by simp only [execOp, hop]) (iadr_ok S hu h3 (opd_sound hts hG h1) (opd_sound hts hG h2) h4 hr)
    · rename_i n e hu
      obtain ⟨s, h3, hc⟩ := Option.map_eq_some_iff.1 hc
      have := strip_eq hc rfl
      subst this
      obtain ⟨j, h4, hr⟩ := bind_some_iff.1 hr
      exact .of_v (s := Instr.indexAt t (a.eval x) (a.eval i)) (by simp only [execOp, hop]) (iarr_ok S hu h3 (opd_sound hts hG h1) (opd_sound hts hG h2) h4 hr)
    · cases hc
  | index t x i =>
    rw [hop] at hc
    obtain ⟨x', h1, hc⟩ := bind_some_iff.1 hc
    obtain ⟨i', h2, hc⟩ := bind_some_iff.1 hc
    split at hc
    · rename_i hu
      injection hc with hc
      have := strip_eq hc rfl
      subst this
      obtain ⟨j, h4, hr⟩ := bind_some_iff.1 hr
      exact .of_v (s := Instr.index t (a.eval x) (a.eval i)) (by simp only [execOp, hop]) (idxs_ok S hu (opd_sound hts hG h1) (opd_sound hts hG h2) h4 hr)
    · rename_i n e hu
      obtain ⟨s, h3, hc⟩ := bind_some_iff.1 hc
      obtain ⟨k, h5, hc⟩ := Option.map_eq_some_iff.1 hc
      have := strip_eq hc rfl
      subst this
      obtain ⟨j, h4, hr⟩ := bind_some_iff.1 hr
      exact .of_v (s := Instr.index t (a.eval x) (a.eval i)) (by simp only [execOp, hop]) (idx_ok S hu h3 h5 (opd_sound hts hG h1) (opd_sound hts hG h2) h4 hr)
    · cases hc
  | extract x i =>
    rw [hop] at hc
    obtain ⟨x', h1, hc⟩ := Option.map_eq_some_iff.1 hc
    have := strip_eq hc rfl
    subst this
    exact .of_v (s := Instr.extract (a.eval x) i) (by simp only [execOp, hop]) (extr_ok S (opd_sound hts hG h1) hr)
  | range t x =>
    rw [hop] at hc
    simp only [compOp] at hc
    split at hc
    case h_2 => cases hc
    rename_i hu
    obtain ⟨x', h1, hc⟩ := Option.map_eq_some_iff.1 hc
    have := strip_eq hc rfl
    subst this
    have hv := opd_sound hts hG h1
    simp only [AOp.run] at hr
    split at hr
    case h_2 => cases hr
    rename_i st hst
    rw [hst] at hv
    injection hr with hr
    injection hr with f1 f2
    subst f1; subst f2
    have hx := vr_v hv
    refine .of_v (s := Instr.range t (a.eval x)) (by simp only [execOp, hop]) ⟨_, _, _, ?_, stp_iter S st, .it (H := H ++ [.iter st 0]) st 0 w.heap.size (by simp) (g.put_same ..)⟩
    rw [hx]
    simp [Instr.range, run_underlying hu]
  | next x q =>
    rw [hop] at hc
    cases q with
    | false => cases hc
    | true =>
      obtain ⟨x', h1, hc⟩ := Option.map_eq_some_iff.1 hc
      have := strip_eq hc rfl
      subst this
      have hv := opd_sound hts hG h1
      simp only [AOp.run] at hr
      generalize x'.ev L ts = c at hr hv
      cases c with
      | ptr r off =>
        cases off with
        | zero => exact .of_v (s := Instr.next (a.eval x) true o.type) (by simp only [execOp, hop]) (next_sound S hv rfl hr)
        | succ n => cases hr
      | _ => cases hr
  | call c => rw [hop] at hc; exact run_builtin S hts hG hop hc hr
  | _ => rw [hop] at hc; cases hc
end
end Go.Proofs.YtgehpjjpeddomaaGreatDoor
/- The evaluator is true to the model: the local heap is renamed, cut to what a call sees, and put back. -/
namespace Go.Proofs.YtgehpjjpeddomaaGreatDoor
open Go Go.Lib

theorem renL_get (ρ : Nat → Nat) : ∀ (l : List AV) (i : Nat), (ren.renL ρ l)[i]? = (l[i]?).map (ren ρ)
  | [], i => by simp [ren.renL]
  | x :: r, 0 => by simp [ren.renL]
  | x :: r, i + 1 => by simp [ren.renL, renL_get ρ r i]

theorem renL_length (ρ : Nat → Nat) : ∀ (l : List AV), (ren.renL ρ l).length = l.length
  | [] => rfl
  | x :: r => by simp [ren.renL, renL_length ρ r]

theorem refsL_mem : ∀ {l : List AV} {x : AV} {r : Nat}, x ∈ l → r ∈ refs x → r ∈ refs.refsL l
  | y :: l, x, r, hx, hr => by
    simp only [refs.refsL, List.mem_append]
    rcases List.mem_cons.1 hx with rfl | hx
    · exact .inl hr
    · exact .inr (refsL_mem hx hr)

theorem mem_refsL : ∀ {l : List AV} {r : Nat}, r ∈ refs.refsL l → ∃ x ∈ l, r ∈ refs x
  | y :: l, r, h => by
    simp only [refs.refsL, List.mem_append] at h
    rcases h with h | h
    · exact ⟨y, by simp, h⟩
    · obtain ⟨x, hx, hr⟩ := mem_refsL h
      exact ⟨x, by simp [hx], hr⟩

mutual
theorem ren_eq (ρ : Nat → Nat) : ∀ (a : AV), (∀ r ∈ refs a, ρ r = r) → ren ρ a = a
  | .win r v n, h => by rw [ren, h r (by simp [refs])]
  | .ptr r o, h => by rw [ren, h r (by simp [refs])]
  | .ep r v n k o, h => by rw [ren, h r (by simp [refs])]
  | .clo f a b, h => by
    rw [ren, renL_eq ρ a fun r hr => h r (by simp [refs, hr]), renL_eq ρ b fun r hr => h r (by simp [refs, hr])]
  | .mix cs, h => by rw [ren, renL_eq ρ cs fun r hr => h r (by simpa [refs] using hr)]
  | .tup xs, h => by rw [ren, renL_eq ρ xs fun r hr => h r (by simpa [refs] using hr)]
  | .t x, h => rfl
  | .ip cs, h => rfl
  | .nils, h => rfl
  | .emp _, h => rfl
  | .junk, h => rfl
theorem renL_eq (ρ : Nat → Nat) : ∀ (l : List AV), (∀ r ∈ refs.refsL l, ρ r = r) → ren.renL ρ l = l
  | [], _ => rfl
  | x :: l, h => by
    rw [ren.renL, ren_eq ρ x fun r hr => h r (by simp [refs.refsL, hr]), renL_eq ρ l fun r hr => h r (by simp [refs.refsL, hr])]
end

theorem AO.ren_eq (ρ : Nat → Nat) (x : AO) (h : ∀ r ∈ x.refs, ρ r = r) : x.ren ρ = x := by
  cases x with
  | box cs => rw [AO.ren, renL_eq ρ cs h]
  | _ => rfl

theorem ren_one (ρ : Nat → Nat) (a : AV) : (ren ρ a).one = a.one := by cases a <;> rfl

/-- A heap, or what of it matters, lies in another one, under other names. -/
structure Emb (ρ : Nat → Nat) (A : Nat → Prop) (g : Gh) (H : List AO) (g2 : Gh) (H2 : List AO) : Prop where
  pm : g2.pm = g.pm
  get : ∀ r x, A r → H[r]? = some x → H2[ρ r]? = some (x.ren ρ)
  loc : ∀ r, A r → r < H.length → g2.loc (ρ r) = g.loc r

section
variable {P : Program} {g g2 : Gh} {w : World} {H H2 : List AO} {ρ : Nat → Nat} {A : Nat → Prop}

theorem VR.emb (E : Emb ρ A g H g2 H2) {a : AV} {v : Value} (h : VR P g w H a v) (ha : ∀ r ∈ refs a, A r) : VR P g2 w H2 (ren ρ a) v := by
  induction h with
  | t h => exact .t (by rw [E.pm]; exact h)
  | @win r ver n v h1 e v0 xs m d hH hv h =>
    have hA := ha r (by simp [refs])
    refine .win h1 e v0 xs m d (E.get _ _ hA hH) hv fun he => ?_
    obtain ⟨h2, h3⟩ := h he
    rw [E.loc _ hA (lt_of_get hH), E.pm]
    exact ⟨h2, h3⟩
  | @ptr r off cs b hH hl =>
    have hA := ha r (by simp [refs])
    exact .ptr _ b (E.get _ _ hA hH) ((E.loc _ hA (lt_of_get hH)).trans hl)
  | @it r off s pos b hH hl =>
    have hA := ha r (by simp [refs])
    exact .it s pos b (E.get _ _ hA hH) ((E.loc _ hA (lt_of_get hH)).trans hl)
  | @ep r ver n k off v h1 e v0 xs m d hH hv h =>
    have hA := ha r (by simp [refs])
    refine .ep h1 e v0 xs m d (E.get _ _ hA hH) hv fun he => ?_
    obtain ⟨h2, h3⟩ := h he
    rw [E.loc _ hA (lt_of_get hH)]
    exact ⟨h2, h3⟩
  | ip b o u hc ho hv => exact .ip b o u (by rw [E.pm]; exact hc) ho (by rw [E.pm]; exact hv)
  | clo vs us h1 h2 _ _ ih1 ih2 =>
    refine .clo vs us (by rw [renL_length]; exact h1) (by rw [renL_length]; exact h2) (fun i a v hi hx => ?_) (fun i a v hi hx => ?_)
    · rw [renL_get] at hi
      obtain ⟨x, e1, rfl⟩ := Option.map_eq_some_iff.1 hi
      exact ih1 i x v e1 hx fun r hr => ha r (by simp [refs, refsL_mem (List.mem_of_getElem? e1) hr])
    · rw [renL_get] at hi
      obtain ⟨x, e1, rfl⟩ := Option.map_eq_some_iff.1 hi
      exact ih2 i x v e1 hx fun r hr => ha r (by simp [refs, refsL_mem (List.mem_of_getElem? e1) hr])
  | mix vs h1 ho _ ih =>
    refine .mix vs (by rw [renL_length]; exact h1) (fun c hc => ?_) (fun i a v hi hx => ?_)
    · obtain ⟨i, hi⟩ := List.getElem?_of_mem hc
      rw [renL_get] at hi
      obtain ⟨x, e1, rfl⟩ := Option.map_eq_some_iff.1 hi
      rw [ren_one]
      exact ho x (List.mem_of_getElem? e1)
    · rw [renL_get] at hi
      obtain ⟨x, e1, rfl⟩ := Option.map_eq_some_iff.1 hi
      exact ih i x v e1 hx fun r hr => ha r (by simp [refs, refsL_mem (List.mem_of_getElem? e1) hr])
  | tup vs h1 _ ih =>
    refine .tup vs (by rw [renL_length]; exact h1) (fun i a v hi hx => ?_)
    rw [renL_get] at hi
    obtain ⟨x, e1, rfl⟩ := Option.map_eq_some_iff.1 hi
    exact ih i x v e1 hx fun r hr => ha r (by simp [refs, refsL_mem (List.mem_of_getElem? e1) hr])
  | nils => exact .nils
  | emp nl A c h => exact .emp nl A c h
  | junk v => exact .junk v

theorem VRs.emb (E : Emb ρ A g H g2 H2) {l : List AV} {vs : Array Value} (h : VRs P g w H l vs) (ha : ∀ r ∈ refs.refsL l, A r) : VRs P g2 w H2 (ren.renL ρ l) vs := by
  refine ⟨by rw [renL_length]; exact h.1, fun i a v hi hx => ?_⟩
  rw [renL_get] at hi
  obtain ⟨x, e1, rfl⟩ := Option.map_eq_some_iff.1 hi
  exact (h.2 i x v e1 hx).emb E fun r hr => ha r (refsL_mem (List.mem_of_getElem? e1) hr)

theorem Ok1.emb (E : Emb ρ A g H g2 H2) {r : Nat} {x : AO} (hA : A r) (hr : H[r]? = some x) (h : Ok1 P g w H r x) (hx : ∀ q ∈ x.refs, A q) : Ok1 P g2 w H2 (ρ r) (x.ren ρ) := by
  have hl := E.loc r hA (lt_of_get hr)
  cases x with
  | box cs =>
    obtain ⟨b, vs, e, h1, h2, h3, h4, h5, h6⟩ := h
    refine ⟨b, vs, e, hl.trans h1, h2, by rw [renL_length]; exact h3, fun c hc => ?_, fun i a v ha hv => ?_, by rw [E.pm]; exact h6⟩
    · obtain ⟨i, hi⟩ := List.getElem?_of_mem hc
      rw [renL_get] at hi
      obtain ⟨x, e1, rfl⟩ := Option.map_eq_some_iff.1 hi
      rw [ren_one]
      exact h4 x (List.mem_of_getElem? e1)
    · rw [renL_get] at ha
      obtain ⟨x, e1, rfl⟩ := Option.map_eq_some_iff.1 ha
      exact (h5 i x v e1 hv).emb E fun q hq => hx q (refsL_mem (List.mem_of_getElem? e1) hq)
  | arr e ver xs m d =>
    simp only [AO.ren, Ok1]
    rw [hl, E.pm]
    exact h
  | iter s pos =>
    simp only [AO.ren, Ok1]
    rw [hl, E.pm]
    exact h
  | dead => exact h

/-! ### a heap cut at its end -/
theorem emb_take {k : Nat} (hlow : ∀ r x, r < k → H[r]? = some x → ∀ q ∈ x.refs, q < k) : Emb id (· < k) g H g (H.take k) where
  pm := rfl
  get r x hr hx := by
    rw [AO.ren_eq id x fun _ _ => rfl]
    show (H.take k)[r]? = _
    rw [List.getElem?_take, if_pos hr]
    exact hx
  loc _ _ _ := rfl

theorem ren_id (a : AV) : ren id a = a := ren_eq id a fun _ _ => rfl

theorem VR.take {k : Nat} (hlow : ∀ r x, r < k → H[r]? = some x → ∀ q ∈ x.refs, q < k) {a : AV} {v : Value} (h : VR P g w H a v) (ha : ∀ r ∈ refs a, r < k) : VR P g w (H.take k) a v := by
  have := h.emb (emb_take (g := g) hlow) ha
  rwa [ren_id] at this

theorem sr_take (S : SR P g w H) {k : Nat} (hlow : ∀ r x, r < k → H[r]? = some x → ∀ q ∈ x.refs, q < k) : SR P g w (H.take k) where
  ok r x hx := by
    rw [List.getElem?_take] at hx
    split at hx
    · rename_i hr
      have := (S.ok r x hx).emb (emb_take (g := g) hlow) hr hx (hlow r x hr hx)
      rwa [AO.ren_eq id x fun _ _ => rfl] at this
    · cases hx
  disj r r' b hr hr' := by
    rw [List.length_take] at hr hr'
    exact S.disj r r' b (by omega) (by omega)
  lt r b hr := by
    rw [List.length_take] at hr
    exact S.lt r b (by omega)
  new := S.new

variable {g0 : Gh} {w0 : World} {H0 : List AO}

theorem stp_take (T : Stp P g0 w0 H0 g w H) {k : Nat} (hk : H0.length ≤ k) (hlow : ∀ r x, r < k → H[r]? = some x → ∀ q ∈ x.refs, q < k) : Stp P g0 w0 H0 g w (H.take k) := by
  have hg : ∀ r, r < H0.length → (H.take k)[r]? = H[r]? := fun r hr => by rw [List.getElem?_take, if_pos (by omega)]
  refine ⟨sr_take T.sr hlow, ⟨T.ext.pm, T.ext.cell, ?_, fun r cs h => ?_, fun r s p h => ?_, fun r e ver xs m d h => ?_⟩, T.fr.os, T.fr.tape, T.fr.output, T.fr.size, T.fr.heap, fun r b hr hb => T.fr.own r b (by simp at hr; omega) hb⟩
  · have := T.ext.len
    simp; omega
  · rw [hg r (lt_of_get h)]; exact T.ext.box r cs h
  · rw [hg r (lt_of_get h)]; exact T.ext.iter r s p h
  · rw [hg r (lt_of_get h)]; exact T.ext.arr r e ver xs m d h

theorem mem_heapRefs {h : List AO} {q : Nat} : q ∈ h.flatMap AO.refs ↔ ∃ (r : Nat) (x : AO), h[r]? = some x ∧ q ∈ x.refs := by
  rw [List.mem_flatMap]
  constructor
  · rintro ⟨x, hx, hq⟩
    obtain ⟨r, hr⟩ := List.getElem?_of_mem hx
    exact ⟨r, x, hr, hq⟩
  · rintro ⟨r, x, hr, hq⟩
    exact ⟨x, List.mem_of_getElem? hr, hq⟩

theorem trimGo_sound {kb : Nat} (hkb : kb = H0.length) {ts : List AV} {vs : Array Value} : ∀ (k : Nat) (H : List AO), k = H.length → Stp P g0 w0 H0 g w H → VRs P g w H ts vs → (∀ r ∈ refs.refsL ts, r < H.length) →
    (∀ (r : Nat) (x : AO), H[r]? = some x → ∀ q ∈ x.refs, q < H.length) →
    Stp P g0 w0 H0 g w (trimGo kb (refs.refsL ts) k H) ∧ VRs P g w (trimGo kb (refs.refsL ts) k H) ts vs
  | 0, H, _, T, hv, _, _ => ⟨T, hv⟩
  | k + 1, H, hk, T, hv, hr, hc => by
    unfold trimGo
    split
    · exact ⟨T, hv⟩
    · rename_i hn
      simp only [Bool.or_eq_true, decide_eq_true_eq, List.contains_iff_mem, not_or] at hn
      obtain ⟨n1, n2, n3⟩ := hn
      have hc' : ∀ (r : Nat) (x : AO), H[r]? = some x → ∀ q ∈ x.refs, q < k := fun r x hx q hq => by
        have h1 := hc r x hx q hq
        have h2 : q ≠ k := fun e => n3 (by rw [← e]; exact mem_heapRefs.2 ⟨r, x, hx, hq⟩)
        omega
      have hr' : ∀ r ∈ refs.refsL ts, r < k := fun r hh => by
        have h1 := hr r hh
        have h2 : r ≠ k := fun e => n2 (by rw [← e]; exact hh)
        omega
      refine trimGo_sound hkb k (H.take k) (by simp; omega) (stp_take T (by omega) fun r x _ hx => hc' r x hx) ⟨hv.1, fun i a v ha hx => (hv.2 i a v ha hx).take (fun r x _ hx => hc' r x hx) fun r hh => hr' r (refsL_mem (List.mem_of_getElem? ha) hh)⟩ (fun r hh => ?_) (fun r x hx q hq => ?_)
      · have := hr' r hh; simp; omega
      · rw [List.getElem?_take] at hx
        split at hx
        · have := hc' r x hx q hq; simp; omega
        · cases hx

/-- What a value refers to is there. -/
theorem VR.refs_lt {a : AV} {v : Value} (h : VR P g w H a v) : ∀ r ∈ refs a, r < H.length := by
  induction h with
  | t => simp [refs]
  | win h1 e v0 xs m d hH => intro r hr; simp [refs] at hr; subst hr; exact lt_of_get hH
  | ptr cs b hH => intro r hr; simp [refs] at hr; subst hr; exact lt_of_get hH
  | it s pos b hH => intro r hr; simp [refs] at hr; subst hr; exact lt_of_get hH
  | ep h1 e v0 xs m d hH => intro r hr; simp [refs] at hr; subst hr; exact lt_of_get hH
  | ip => simp [refs]
  | @clo f as bs vs us h1 h2 _ _ ih1 ih2 =>
    intro r hr
    simp only [refs, List.mem_append] at hr
    rcases hr with hr | hr
    · obtain ⟨x, hx, hr⟩ := mem_refsL hr
      obtain ⟨i, hi⟩ := List.getElem?_of_mem hx
      exact ih1 i x _ hi (Array.getElem?_eq_getElem (by have := lt_of_get hi; omega)) r hr
    · obtain ⟨x, hx, hr⟩ := mem_refsL hr
      obtain ⟨i, hi⟩ := List.getElem?_of_mem hx
      exact ih2 i x _ hi (Array.getElem?_eq_getElem (by have := lt_of_get hi; omega)) r hr
  | mix vs h1 ho _ ih =>
    intro r hr
    obtain ⟨x, hx, hr⟩ := mem_refsL (by simpa [refs] using hr)
    obtain ⟨i, hi⟩ := List.getElem?_of_mem hx
    exact ih i x _ hi (Array.getElem?_eq_getElem (by have := lt_of_get hi; omega)) r hr
  | tup vs h1 _ ih =>
    intro r hr
    obtain ⟨x, hx, hr⟩ := mem_refsL (by simpa [refs] using hr)
    obtain ⟨i, hi⟩ := List.getElem?_of_mem hx
    exact ih i x _ hi (Array.getElem?_eq_getElem (by have := lt_of_get hi; omega)) r hr
  | nils => simp [refs]
  | emp => simp [refs]
  | junk => simp [refs]

theorem VRs.refs_lt {l : List AV} {vs : Array Value} (h : VRs P g w H l vs) : ∀ r ∈ refs.refsL l, r < H.length := by
  intro r hr
  obtain ⟨x, hx, hr⟩ := mem_refsL hr
  obtain ⟨i, hi⟩ := List.getElem?_of_mem hx
  exact (h.2 i x _ hi (Array.getElem?_eq_getElem (by have := h.1; have := lt_of_get hi; omega))).refs_lt r hr

theorem SR.refs_lt (S : SR P g w H) {r : Nat} {x : AO} (hx : H[r]? = some x) : ∀ q ∈ x.refs, q < H.length := by
  intro q hq
  cases x with
  | box cs =>
    obtain ⟨b, vs, e, h1, h2, h3, h4, h5, h6⟩ := S.ok r _ hx
    exact VRs.refs_lt ⟨h3, h5⟩ q hq
  | _ => simp [AO.refs] at hq

theorem trim_sound (T : Stp P g0 w0 H0 g w H) {ts : List AV} {vs : Array Value} (hv : VRs P g w H ts vs) : Stp P g0 w0 H0 g w (trim H0.length ts H) ∧ VRs P g w (trim H0.length ts H) ts vs :=
  trimGo_sound rfl H.length H rfl T hv hv.refs_lt fun _ _ hx => T.sr.refs_lt hx
end
end Go.Proofs.YtgehpjjpeddomaaGreatDoor
/- The evaluator is true to the model: what a call sees of the heap, and what it leaves. -/
namespace Go.Proofs.YtgehpjjpeddomaaGreatDoor
open Go Go.Lib

/-- What is reached: each once, all there, and closed. -/
theorem reach_spec (h : List AO) : ∀ (k : Nat) (todo seen ids : List Nat), reach h k todo seen = some ids → seen.Nodup → (∀ r ∈ seen, r < h.length) →
    (∀ r ∈ seen, ∀ x, h[r]? = some x → ∀ q ∈ x.refs, q ∈ seen ∨ q ∈ todo) →
    ids.Nodup ∧ (∀ r ∈ ids, r < h.length) ∧ (∀ r ∈ ids, ∀ x, h[r]? = some x → ∀ q ∈ x.refs, q ∈ ids) ∧ (∀ r ∈ todo, r ∈ ids) ∧ ∀ r ∈ seen, r ∈ ids
  | _, [], seen, ids, hr, h1, h2, h3 => by
    unfold reach at hr
    injection hr with hr
    subst hr
    exact ⟨h1, h2, fun r hr x hx q hq => (h3 r hr x hx q hq).resolve_right (by simp), by simp, fun r hr => hr⟩
  | 0, r :: todo, seen, ids, hr, _, _, _ => by cases hr
  | k + 1, r :: todo, seen, ids, hr, h1, h2, h3 => by
    unfold reach at hr
    split at hr
    · rename_i hc
      have hc' : r ∈ seen := by simpa using hc
      obtain ⟨e1, e2, e3, e4, e5⟩ := reach_spec h k todo seen ids hr h1 h2 (fun q hq x hx p hp => by
        rcases h3 q hq x hx p hp with h | h
        · exact .inl h
        · rcases List.mem_cons.1 h with rfl | h
          · exact .inl hc'
          · exact .inr h)
      refine ⟨e1, e2, e3, fun q hq => ?_, e5⟩
      rcases List.mem_cons.1 hq with rfl | hq
      · exact e5 _ hc'
      · exact e4 q hq
    · rename_i hc
      have hc' : r ∉ seen := by simpa using hc
      split at hr
      · rename_i o ho
        obtain ⟨e1, e2, e3, e4, e5⟩ := reach_spec h k (o.refs ++ todo) (seen ++ [r]) ids hr (by
            rw [List.nodup_append]
            exact ⟨h1, by simp, fun a ha b hb => by rw [List.mem_singleton.1 hb]; rintro rfl; exact hc' ha⟩)
          (fun q hq => by
            rcases List.mem_append.1 hq with hq | hq
            · exact h2 q hq
            · rw [List.mem_singleton.1 hq]; exact lt_of_get ho)
          (fun q hq x hx p hp => by
            rcases List.mem_append.1 hq with hq | hq
            · rcases h3 q hq x hx p hp with h | h
              · exact .inl (by simp [h])
              · rcases List.mem_cons.1 h with rfl | h
                · exact .inl (by simp)
                · exact .inr (by simp [h])
            · rw [List.mem_singleton.1 hq] at hx
              rw [ho] at hx
              injection hx with hx
              subst hx
              exact .inr (by simp [hp]))
        refine ⟨e1, e2, e3, fun q hq => ?_, fun q hq => e5 q (by simp [hq])⟩
        rcases List.mem_cons.1 hq with rfl | hq
        · exact e5 _ (by simp)
        · exact e4 q (by simp [hq])
      · cases hr

theorem idxOf_get {ids : List Nat} (hn : ids.Nodup) {j : Nat} (hj : j < ids.length) : ids.idxOf ids[j] = j := hn.idxOf_getElem j hj

theorem get_idxOf {ids : List Nat} {r : Nat} (h : r ∈ ids) : ∃ hj : ids.idxOf r < ids.length, ids[ids.idxOf r] = r :=
  ⟨List.idxOf_lt_length_of_mem h, List.getElem_idxOf (List.idxOf_lt_length_of_mem h)⟩

section
variable {P : Program} {g : Gh} {w : World} {H : List AO}

def locG (g : Gh) (ids : List Nat) : Gh := ⟨fun i => g.loc (ids.getD i 0), g.pm⟩
def locH (H : List AO) (ids : List Nat) : List AO := (pick H ids).map (AO.ren fun r => ids.idxOf r)

theorem locH_length (H : List AO) (ids : List Nat) : (locH H ids).length = ids.length := by simp [locH, pick]

theorem locH_get (H : List AO) {ids : List Nat} (hlt : ∀ r ∈ ids, r < H.length) {j : Nat} {x : AO} (h : (locH H ids)[j]? = some x) :
    ∃ (hj : j < ids.length) (y : AO), H[ids[j]]? = some y ∧ x = y.ren fun r => ids.idxOf r := by
  have hj : j < ids.length := by have := lt_of_get h; rwa [locH_length] at this
  simp only [locH, pick, List.map_map, List.getElem?_map, List.getElem?_eq_getElem hj, Option.map_some] at h
  injection h with h
  have hl := hlt _ (List.getElem_mem hj)
  refine ⟨hj, H[ids[j]], List.getElem?_eq_getElem hl, ?_⟩
  rw [← h]
  simp [List.getD, List.getElem?_eq_getElem hl]

theorem emb_loc (g : Gh) (H : List AO) {ids : List Nat} : Emb (fun r => ids.idxOf r) (· ∈ ids) g H (locG g ids) (locH H ids) where
  pm := rfl
  get r x hr hx := by
    obtain ⟨hj, he⟩ := get_idxOf hr
    simp only [locH, pick, List.map_map, List.getElem?_map, List.getElem?_eq_getElem hj, Option.map_some, he]
    simp [List.getD, hx]
  loc r hr _ := by
    obtain ⟨hj, he⟩ := get_idxOf hr
    simp only [locG]
    rw [List.getD_eq_getElem?_getD, List.getElem?_eq_getElem hj, he]
    rfl

theorem sr_loc (S : SR P g w H) {ids : List Nat} (hn : ids.Nodup) (hlt : ∀ r ∈ ids, r < H.length) (hcl : ∀ r ∈ ids, ∀ x, H[r]? = some x → ∀ q ∈ x.refs, q ∈ ids) : SR P (locG g ids) w (locH H ids) where
  ok j x hx := by
    obtain ⟨hj, y, hy, rfl⟩ := locH_get H hlt hx
    have := (S.ok _ y hy).emb (emb_loc g H (ids := ids)) (List.getElem_mem hj) hy (hcl _ (List.getElem_mem hj) y hy)
    rwa [idxOf_get hn hj] at this
  disj j j' b hj hj' hb hb' := by
    rw [locH_length] at hj hj'
    simp only [locG, List.getD_eq_getElem?_getD, List.getElem?_eq_getElem hj, List.getElem?_eq_getElem hj', Option.getD_some] at hb hb'
    have := S.disj _ _ b (hlt _ (List.getElem_mem hj)) (hlt _ (List.getElem_mem hj')) hb hb'
    have h1 := idxOf_get hn hj
    rw [this, idxOf_get hn hj'] at h1
    exact h1.symm
  lt j b hj hb := by
    rw [locH_length] at hj
    simp only [locG, List.getD_eq_getElem?_getD, List.getElem?_eq_getElem hj, Option.getD_some] at hb
    exact S.lt _ b (hlt _ (List.getElem_mem hj)) hb
  new := S.new

/-- What is put back: where each thing lies. -/
theorem back_spec : ∀ (ids : List Nat) (h l : List AO), ids.Nodup → (∀ r ∈ ids, r < h.length) → ids.length ≤ l.length →
    (back h ids l).length = h.length + (l.length - ids.length) ∧ (∀ j (hj : j < ids.length), (back h ids l)[ids[j]]? = l[j]?) ∧ (∀ i, i < h.length → i ∉ ids → (back h ids l)[i]? = h[i]?) ∧
    ∀ j, (back h ids l)[h.length + j]? = l[ids.length + j]?
  | [], h, l, _, _, _ => by
    unfold back
    refine ⟨by simp, fun j hj => by simp at hj, fun i hi _ => List.getElem?_append_left hi, fun j => ?_⟩
    rw [List.getElem?_append_right (by omega)]
    simp
  | i :: r, h, [], _, _, hl => by simp at hl
  | i :: r, h, o :: l, hn, hlt, hl => by
    obtain ⟨e1, e2, e3, e4⟩ := back_spec r (h.set i o) l (List.nodup_cons.1 hn).2 (fun q hq => by simpa using hlt q (by simp [hq])) (by simpa using hl)
    have hi : i < h.length := hlt i (by simp)
    have hni := (List.nodup_cons.1 hn).1
    unfold back
    refine ⟨by rw [e1]; simp, fun j hj => ?_, fun q hq hnq => ?_, fun j => ?_⟩
    · cases j with
      | zero =>
        simp only [List.getElem_cons_zero]
        rw [e3 i (by simpa using hi) hni]
        simp [hi]
      | succ j =>
        simp only [List.getElem_cons_succ]
        rw [e2 j (by simpa using hj)]
        simp
    · rw [e3 q (by simpa using hq) (fun h => hnq (by simp [h]))]
      exact List.getElem?_set_ne (fun h => hnq (by simp [h]))
    · have := e4 j
      rw [List.length_set] at this
      rw [this]
      simp [Nat.add_right_comm]

variable {g3 : Gh} {w3 : World} {H3 : List AO}

def backG (g g3 : Gh) (H : List AO) (ids : List Nat) : Gh := ⟨fun r => if r ∈ ids then g3.loc (ids.idxOf r) else if r < H.length then g.loc r else g3.loc (ids.length + (r - H.length)), g3.pm⟩
def backH (H H3 : List AO) (ids : List Nat) : List AO := back H ids (H3.map (AO.ren (backρ ids H.length)))

theorem backρ_lt {ids : List Nat} (base : Nat) {j : Nat} (hj : j < ids.length) : backρ ids base j = ids[j] := by
  simp [backρ, hj, List.getD_eq_getElem?_getD]

theorem backρ_ge {ids : List Nat} (base : Nat) {j : Nat} (hj : ids.length ≤ j) : backρ ids base j = base + (j - ids.length) := by
  simp [backρ]; omega

theorem backG_loc {ids : List Nat} (hn : ids.Nodup) (hlt : ∀ r ∈ ids, r < H.length) (j : Nat) : (backG g g3 H ids).loc (backρ ids H.length j) = g3.loc j := by
  rcases Nat.lt_or_ge j ids.length with hj | hj
  · rw [backρ_lt _ hj]
    simp only [backG, List.getElem_mem hj, if_true, idxOf_get hn hj]
  · rw [backρ_ge _ hj]
    simp only [backG]
    rw [if_neg (fun h => by have := hlt _ h; omega), if_neg (by omega)]
    congr 1
    omega

theorem backH_get {ids : List Nat} (hn : ids.Nodup) (hlt : ∀ r ∈ ids, r < H.length) (hl : ids.length ≤ H3.length) (j : Nat) : (backH H H3 ids)[backρ ids H.length j]? = (H3[j]?).map (AO.ren (backρ ids H.length)) := by
  obtain ⟨e1, e2, e3, e4⟩ := back_spec ids H (H3.map (AO.ren (backρ ids H.length))) hn hlt (by simpa using hl)
  rw [← List.getElem?_map]
  rcases Nat.lt_or_ge j ids.length with hj | hj
  · rw [backρ_lt _ hj]
    exact e2 j hj
  · rw [backρ_ge _ hj]
    have := e4 (j - ids.length)
    rw [show ids.length + (j - ids.length) = j by omega] at this
    exact this

theorem emb_back {ids : List Nat} (hn : ids.Nodup) (hlt : ∀ r ∈ ids, r < H.length) (hl : ids.length ≤ H3.length) : Emb (backρ ids H.length) (fun _ => True) g3 H3 (backG g g3 H ids) (backH H H3 ids) where
  pm := rfl
  get r x _ hx := by rw [backH_get hn hlt hl, hx]; rfl
  loc r _ _ := backG_loc hn hlt r

theorem backH_cases {ids : List Nat} (hn : ids.Nodup) (hlt : ∀ r ∈ ids, r < H.length) (hl : ids.length ≤ H3.length) {r : Nat} (hr : r < (backH H H3 ids).length) :
    (∃ j, j < H3.length ∧ r = backρ ids H.length j) ∨ (r < H.length ∧ r ∉ ids) := by
  obtain ⟨e1, e2, e3, e4⟩ := back_spec ids H (H3.map (AO.ren (backρ ids H.length))) hn hlt (by simpa using hl)
  have hlen : (backH H H3 ids).length = H.length + (H3.length - ids.length) := by rw [backH, e1, List.length_map]
  rw [hlen] at hr
  by_cases h : r ∈ ids
  · obtain ⟨hj, he⟩ := get_idxOf h
    exact .inl ⟨ids.idxOf r, by omega, by rw [backρ_lt _ hj, he]⟩
  · rcases Nat.lt_or_ge r H.length with h1 | h1
    · exact .inr ⟨h1, h⟩
    · exact .inl ⟨ids.length + (r - H.length), by omega, by rw [backρ_ge _ (by omega)]; omega⟩

theorem backH_other {ids : List Nat} (hn : ids.Nodup) (hlt : ∀ r ∈ ids, r < H.length) (hl : ids.length ≤ H3.length) {r : Nat} (hr : r < H.length) (h : r ∉ ids) : (backH H H3 ids)[r]? = H[r]? :=
  (back_spec ids H (H3.map (AO.ren (backρ ids H.length))) hn hlt (by simpa using hl)).2.2.1 r hr h

theorem backG_other {ids : List Nat} {r : Nat} (hr : r < H.length) (h : r ∉ ids) : (backG g g3 H ids).loc r = g.loc r := by
  simp only [backG]
  rw [if_neg h, if_pos hr]

theorem stp_back (S : SR P g w H) {ids : List Nat} (hn : ids.Nodup) (hlt : ∀ r ∈ ids, r < H.length) (hcl : ∀ r ∈ ids, ∀ x, H[r]? = some x → ∀ q ∈ x.refs, q ∈ ids)
    (T : Stp P (locG g ids) w (locH H ids) g3 w3 H3) : Stp P g w H (backG g g3 H ids) w3 (backH H H3 ids) := by
  have hl : ids.length ≤ H3.length := by have := T.ext.len; rwa [locH_length] at this
  have hB := emb_back (g := g) (g3 := g3) hn hlt hl
  -- what is not handed stays
  have hstay : ∀ r b, r < H.length → r ∉ ids → blk (g.loc r) = some b → w3.heap[b]? = w.heap[b]? ∧ g3.pm b = g.pm b := by
    intro r b hr hni hb
    refine T.fr.heap b (S.lt r b hr hb) fun j hj hjb => ?_
    rw [locH_length] at hj
    simp only [locG, List.getD_eq_getElem?_getD, List.getElem?_eq_getElem hj, Option.getD_some] at hjb
    have := S.disj _ _ b hr (hlt _ (List.getElem_mem hj)) hb hjb
    exact hni (by rw [this]; exact List.getElem_mem hj)
  have hloc : ∀ r (hr : r ∈ ids), (locG g ids).loc (ids.idxOf r) = g.loc r := fun r hr => (emb_loc g H).loc r hr (hlt r hr)
  have hgl : ∀ r ∈ ids, (backG g g3 H ids).loc r = g3.loc (ids.idxOf r) := fun r hr => by simp only [backG, hr, if_true]
  have hgh : ∀ r ∈ ids, (backH H H3 ids)[r]? = (H3[ids.idxOf r]?).map (AO.ren (backρ ids H.length)) := fun r hr => by
    obtain ⟨hj, he⟩ := get_idxOf hr
    have := backH_get hn hlt hl (ids.idxOf r)
    rwa [backρ_lt _ hj, he] at this
  have hin : ∀ r x, r ∈ ids → H[r]? = some x → (locH H ids)[ids.idxOf r]? = some (x.ren fun r => ids.idxOf r) := fun r x hr hx => (emb_loc g H).get r x hr hx
  have hlen : H.length ≤ (backH H H3 ids).length := by
    rw [backH, (back_spec ids H (H3.map (AO.ren (backρ ids H.length))) hn hlt (by simpa using hl)).1]; omega
  have E : Ext P g w H (backG g g3 H ids) w3 (backH H H3 ids) := by
    refine ⟨T.ext.pm, T.ext.cell, hlen, fun r cs h => ?_, fun r s p h => ?_, fun r e ver xs m d h => ?_⟩
    · by_cases hr : r ∈ ids
      · obtain ⟨⟨cs', h1⟩, h2⟩ := T.ext.box _ _ (hin r _ hr h)
        refine ⟨⟨_, by rw [hgh r hr, h1]; rfl⟩, ?_⟩
        rw [hgl r hr, h2, hloc r hr]
      · exact ⟨⟨cs, by rw [backH_other hn hlt hl (lt_of_get h) hr]; exact h⟩, backG_other (lt_of_get h) hr⟩
    · by_cases hr : r ∈ ids
      · obtain ⟨⟨p', h1⟩, h2⟩ := T.ext.iter _ _ _ (hin r _ hr h)
        refine ⟨⟨p', by rw [hgh r hr, h1]; rfl⟩, ?_⟩
        rw [hgl r hr, h2, hloc r hr]
      · exact ⟨⟨p, by rw [backH_other hn hlt hl (lt_of_get h) hr]; exact h⟩, backG_other (lt_of_get h) hr⟩
    · by_cases hr : r ∈ ids
      · obtain ⟨ver', xs', m', d', h1, h2, h3⟩ := T.ext.arr _ _ _ _ _ _ (hin r _ hr h)
        refine ⟨ver', xs', m', d', by rw [hgh r hr, h1]; rfl, h2, fun he => ?_⟩
        obtain ⟨a1, a2, a3, a4⟩ := h3 he
        rw [hloc r hr] at a3 a4
        rw [hgl r hr]
        exact ⟨a1, a2, a3, a4⟩
      · refine ⟨ver, xs, m, d, by rw [backH_other hn hlt hl (lt_of_get h) hr]; exact h, Nat.le_refl _, fun _ => ⟨Nat.le_refl _, Nat.le_refl _, fun _ => backG_other (lt_of_get h) hr, fun n v _ _ hw => ?_⟩⟩
        rw [backG_other (lt_of_get h) hr]
        exact hw.mono T.ext.pm T.ext.cell
  have hfr : Fr g w H (backG g g3 H ids) w3 (backH H H3 ids) := by
    refine ⟨T.fr.os, T.fr.tape, T.fr.output, T.fr.size, fun b hb hno => T.fr.heap b hb fun j hj hjb => ?_, fun r b hr hb => ?_⟩
    · rw [locH_length] at hj
      simp only [locG, List.getD_eq_getElem?_getD, List.getElem?_eq_getElem hj, Option.getD_some] at hjb
      exact hno _ (hlt _ (List.getElem_mem hj)) hjb
    · rcases backH_cases hn hlt hl hr with ⟨j, hj, rfl⟩ | ⟨h1, h2⟩
      · rw [backG_loc hn hlt] at hb
        rcases T.fr.own j b hj hb with h | ⟨j0, h1, h2⟩
        · exact .inl h
        · rw [locH_length] at h1
          simp only [locG, List.getD_eq_getElem?_getD, List.getElem?_eq_getElem h1, Option.getD_some] at h2
          exact .inr ⟨_, hlt _ (List.getElem_mem h1), h2⟩
      · rw [backG_other h1 h2] at hb
        exact .inr ⟨r, h1, hb⟩
  -- a block is not both the callee's and another's
  have hapart : ∀ j r b, j < H3.length → blk (g3.loc j) = some b → r < H.length → r ∉ ids → blk (g.loc r) = some b → False := by
    intro j r b hj hb hr hni hb'
    rcases T.fr.own j b hj hb with h | ⟨j0, h1, h2⟩
    · have := S.lt r b hr hb'; omega
    · rw [locH_length] at h1
      simp only [locG, List.getD_eq_getElem?_getD, List.getElem?_eq_getElem h1, Option.getD_some] at h2
      have := S.disj _ _ b hr (hlt _ (List.getElem_mem h1)) hb' h2
      exact hni (by rw [this]; exact List.getElem_mem h1)
  refine ⟨⟨fun r x hx => ?_, fun r r' b hr hr' hb hb' => ?_, fun r b hr hb => ?_, T.sr.new⟩, E, hfr⟩
  · rcases backH_cases hn hlt hl (lt_of_get hx) with ⟨j, hj, rfl⟩ | ⟨h1, h2⟩
    · rw [backH_get hn hlt hl] at hx
      obtain ⟨y, hy, rfl⟩ := Option.map_eq_some_iff.1 hx
      exact (T.sr.ok j y hy).emb hB trivial hy fun _ _ => trivial
    · rw [backH_other hn hlt hl h1 h2] at hx
      exact (S.ok r x hx).move E (backG_other h1 h2) fun b hb => hstay r b h1 h2 hb
  · rcases backH_cases hn hlt hl hr with ⟨j, hj, rfl⟩ | ⟨h1, h2⟩ <;> rcases backH_cases hn hlt hl hr' with ⟨j', hj', rfl⟩ | ⟨h1', h2'⟩
    · rw [backG_loc hn hlt] at hb hb'
      rw [T.sr.disj j j' b hj hj' hb hb']
    · rw [backG_loc hn hlt] at hb
      rw [backG_other h1' h2'] at hb'
      exact (hapart j r' b hj hb h1' h2' hb').elim
    · rw [backG_loc hn hlt] at hb'
      rw [backG_other h1 h2] at hb
      exact (hapart j' r b hj' hb' h1 h2 hb).elim
    · rw [backG_other h1 h2] at hb
      rw [backG_other h1' h2'] at hb'
      exact S.disj r r' b h1 h1' hb hb'
  · rcases backH_cases hn hlt hl hr with ⟨j, hj, rfl⟩ | ⟨h1, h2⟩
    · rw [backG_loc hn hlt] at hb
      exact T.sr.lt j b hj hb
    · rw [backG_other h1 h2] at hb
      have h3 := S.lt r b h1 hb
      have h4 := T.fr.size
      omega
end
end Go.Proofs.YtgehpjjpeddomaaGreatDoor
/- The evaluator is true to the model: arguments as they are taken, results as they are left. -/
namespace Go.Proofs.YtgehpjjpeddomaaGreatDoor
open Go Go.Lib

section
variable {P : Program} {g : Gh} {w : World} {H : List AO}

def Rel (P : Program) (g : Gh) (w : World) (H : List AO) (as : List AV) (vs : List Value) : Prop :=
  vs.length = as.length ∧ ∀ (i : Nat) (a : AV) (v : Value), as[i]? = some a → vs[i]? = some v → VR P g w H a v

theorem Rel.cons {a : AV} {as : List AV} {v : Value} {vs : List Value} (h : VR P g w H a v) (hr : Rel P g w H as vs) : Rel P g w H (a :: as) (v :: vs) := by
  refine ⟨by simp [hr.1], fun i b u hb hu => ?_⟩
  cases i with
  | zero => simp at hb hu; subst hb; subst hu; exact h
  | succ i => exact hr.2 i b u (by simpa using hb) (by simpa using hu)

theorem Rel.head {a : AV} {as : List AV} {v : Value} {vs : List Value} (h : Rel P g w H (a :: as) (v :: vs)) : VR P g w H a v := h.2 0 a v rfl rfl
theorem Rel.tail {a : AV} {as : List AV} {v : Value} {vs : List Value} (h : Rel P g w H (a :: as) (v :: vs)) : Rel P g w H as vs :=
  ⟨by have := h.1; simpa using this, fun i b u hb hu => h.2 (i + 1) b u (by simpa using hb) (by simpa using hu)⟩
theorem Rel.ext {g' : Gh} {w' : World} {H' : List AO} {as : List AV} {vs : List Value} (E : Ext P g w H g' w' H') (h : Rel P g w H as vs) : Rel P g' w' H' as vs := ⟨h.1, fun i a v ha hv => (h.2 i a v ha hv).ext E⟩
theorem Rel.toVRs {as : List AV} {vs : List Value} (h : Rel P g w H as vs) : VRs P g w H as vs.toArray := ⟨by simpa using h.1, fun i a v ha hv => h.2 i a v ha (by simpa using hv)⟩
theorem VRs.toRel {as : List AV} {vs : Array Value} (h : VRs P g w H as vs) : Rel P g w H as vs.toList := ⟨by simpa using h.1, fun i a v ha hv => h.2 i a v ha (by simpa using hv)⟩

theorem frz_step (S : SR P g w H) {a : AV} {v : Value} {as : List AV} {vs : List Value} (hv : VR P g w H a v) (hr : Rel P g w H as vs)
    {F : List AO → List AV × List AO} (ih : ∀ g' : Gh, SR P g' w (frz a H).2 → Rel P g' w (frz a H).2 as vs → ∃ g2, Stp P g' w (frz a H).2 g2 w (F (frz a H).2).2 ∧ Rel P g2 w (F (frz a H).2).2 (F (frz a H).2).1 vs) :
    ∃ g', Stp P g w H g' w (F (frz a H).2).2 ∧ Rel P g' w (F (frz a H).2).2 ((frz a H).1 :: (F (frz a H).2).1) (v :: vs) := by
  obtain ⟨g1, T1, h1⟩ := frz_sound S hv
  obtain ⟨g2, T2, h2⟩ := ih g1 T1.sr (hr.ext T1.ext)
  exact ⟨g2, T1.trans T2, .cons (h1.ext T2.ext) h2⟩

theorem coerce_sound : ∀ (as : List AV) (vs : List Value) (win : List (Option Nat)) (g : Gh) (H : List AO), SR P g w H → Rel P g w H as vs → (∀ o ∈ win, ∀ e, o = some e → (zeroE P e).isSome = true) →
    ∃ g', Stp P g w H g' w (coerce as win H).2 ∧ Rel P g' w (coerce as win H).2 (coerce as win H).1 vs
  | [], vs, win, g, H, S, h, _ => by
    cases win <;> exact ⟨g, .refl S, h⟩
  | a :: as, [], win, g, H, S, h, _ => by have := h.1; simp at this
  | a :: as, v :: vs, [], g, H, S, h, hw => by
    unfold coerce
    exact frz_step S h.head h.tail (F := coerce as []) fun g' S' hr => coerce_sound as vs [] g' _ S' hr hw
  | a :: as, v :: vs, none :: m, g, H, S, h, hw => by
    unfold coerce
    exact frz_step S h.head h.tail (F := coerce as m) fun g' S' hr => coerce_sound as vs m g' _ S' hr fun o ho => hw o (by simp [ho])
  | a :: as, v :: vs, some e :: m, g, H, S, h, hw => by
    unfold coerce
    have h1 : ∃ g1, Stp P g w H g1 w (coerce1 a e H).2 ∧ VR P g1 w (coerce1 a e H).2 (coerce1 a e H).1 v := by
      have other : coerce1 a e H = (a, H) → ∃ g1, Stp P g w H g1 w (coerce1 a e H).2 ∧ VR P g1 w (coerce1 a e H).2 (coerce1 a e H).1 v := fun h' => by
        rw [h']; exact ⟨g, .refl S, h.head⟩
      have hh := h.head
      cases a with
      | nils =>
        obtain ⟨g1, T, hx⟩ := nil_sound S (hw (some e) (by simp) e rfl)
        have : v = .slice none 0 0 := by cases hh; rfl
        subst this
        exact ⟨g1, T, hx⟩
      | _ => exact other rfl
    obtain ⟨g1, T1, h1⟩ := h1
    obtain ⟨g2, T2, h2⟩ := coerce_sound as vs m g1 _ T1.sr (h.tail.ext T1.ext) fun o ho => hw o (by simp [ho])
    exact ⟨g2, T1.trans T2, .cons (h1.ext T2.ext) h2⟩

theorem frzAll_sound : ∀ (as : List AV) (vs : List Value) (g : Gh) (H : List AO), SR P g w H → Rel P g w H as vs → ∃ g', Stp P g w H g' w (frzAll as H).2 ∧ Rel P g' w (frzAll as H).2 (frzAll as H).1 vs
  | [], vs, g, H, S, h => ⟨g, .refl S, h⟩
  | a :: as, [], g, H, S, h => by have := h.1; simp at this
  | a :: as, v :: vs, g, H, S, h => by
    unfold frzAll
    exact frz_step S h.head h.tail (F := frzAll as) fun g' S' hr => frzAll_sound as vs g' _ S' hr

theorem resOne_tmp {s : St} {tmps : Array Value} (hts : VRs P g w H s.t tmps) (t : Nat) : VR P g w H (nth s.t t) (tmps.getD t undef) := nth_sound hts t

def resF (tmps : Array Value) : ResultVar → Sem Value
  | .tmp t => pure (tmps.getD t undef)
  | .cell a t => do loadVar t (← asAddr (tmps.getD a undef))

theorem res_sound (S : SR P g w H) {ts : List AV} {tmps : Array Value} (hts : VRs P g w H ts tmps) : ∀ (rs : List ResultVar) (rv : List RV) (l : List AV), compRes P rs = some rv → resAll ⟨ts, H⟩ rv = some l →
    ∃ vs : List Value, (rs.mapM (resF tmps)).run P w = .ok vs w ∧ Rel P g w H l vs
  | [], rv, l, hc, hr => by
    injection hc with hc
    subst hc
    injection hr with hr
    subst hr
    exact ⟨[], rfl, rfl, fun i a v ha => by simp at ha⟩
  | .tmp t :: rs, rv, l, hc, hr => by
    obtain ⟨rv', h1, h2⟩ := Option.map_eq_some_iff.1 hc
    subst h2
    obtain ⟨a, h3, hr⟩ := bind_some_iff.1 hr
    obtain ⟨l', h4, h5⟩ := Option.map_eq_some_iff.1 hr
    subst h5
    obtain ⟨vs, e1, e2⟩ := res_sound S hts rs rv' l' h1 h4
    injection h3 with h3
    subst h3
    refine ⟨tmps.getD t undef :: vs, ?_, .cons (nth_sound hts t) e2⟩
    have h0 : (resF tmps (.tmp t)).run P w = .ok (tmps.getD t undef) w := rfl
    rw [List.mapM_cons, Sem.run_bind, h0, Result.andThen_ok, Sem.run_bind, e1]
    rfl
  | .cell t ty :: rs, rv, l, hc, hr => by
    obtain ⟨k, h0, hc⟩ := bind_some_iff.1 hc
    obtain ⟨rv', h1, h2⟩ := Option.map_eq_some_iff.1 hc
    subst h2
    obtain ⟨a, h3, hr⟩ := bind_some_iff.1 hr
    obtain ⟨l', h4, h5⟩ := Option.map_eq_some_iff.1 hr
    subst h5
    obtain ⟨vs, e1, e2⟩ := res_sound S hts rs rv' l' h1 h4
    obtain ⟨bb, oo, f1, f2⟩ := loadA_cells S h3 (nth_sound hts t)
    have key : ∃ v, (loadVar ty ⟨bb, oo, none⟩).run P w = .ok v w ∧ VR P g w H a v := by
      cases k with
      | none => exact run_loadVar h0 f2
      | some n => exact run_loadVar h0 f2
    obtain ⟨v, f3, f4⟩ := key
    refine ⟨v :: vs, ?_, .cons f4 e2⟩
    have h0 : (resF tmps (.cell t ty)).run P w = .ok v w := by
      simp [resF, f1, asAddr, f3]
    rw [List.mapM_cons, Sem.run_bind, h0, Result.andThen_ok, Sem.run_bind, e1]
    rfl

theorem results_sound (S : SR P g w H) {ts : List AV} {tmps : Array Value} (hts : VRs P g w H ts tmps) {fn : Func} {rv : List RV} {l : List AV} (hc : compRes P fn.results.toList = some rv) (hr : resAll ⟨ts, H⟩ rv = some l) :
    ∃ vs : List Value, (results fn tmps).run P w = .ok (if h : vs.toArray.size = 1 then vs.toArray[0] else .tuple vs.toArray) w ∧ Rel P g w H l vs := by
  obtain ⟨vs, e1, e2⟩ := res_sound S hts fn.results.toList rv l hc hr
  refine ⟨vs, ?_, e2⟩
  have hF : results fn tmps = (do let vs ← fn.results.mapM (resF tmps); pure (if h : vs.size = 1 then vs[0] else .tuple vs)) := by
    unfold results
    congr 2
  rw [hF, Sem.run_bind, Array.mapM_eq_mapM_toList, Sem.run_map, e1]
  rfl

def oneL : List AV → AV
  | [a] => a
  | l => .tup l

theorem one_sound {l : List AV} {vs : List Value} (h : Rel P g w H l vs) : VR P g w H (oneL l) (if h : vs.toArray.size = 1 then vs.toArray[0] else .tuple vs.toArray) := by
  match l, vs, h with
  | [a], [v], h => exact h.head
  | [], [], h => exact VR.tup #[] h.toVRs.1 h.toVRs.2
  | a :: b :: l, v :: u :: vs, h =>
    have h2 : ¬ (v :: u :: vs).toArray.size = 1 := by simp
    rw [dif_neg h2]
    exact .tup _ h.toVRs.1 h.toVRs.2
  | [a], [], h => have := h.1; simp at this
  | [a], v :: u :: vs, h => have := h.1; simp at this
  | [], v :: vs, h => have := h.1; simp at this
  | a :: b :: l, [], h => have := h.1; simp at this
  | a :: b :: l, [v], h => have := h.1; simp at this

variable {g0 : Gh} {w0 : World} {H0 : List AO}

theorem gc_sound (T : Stp P g0 w0 H0 g w H) {a : AV} {v : Value} (hv : VR P g w H a v) : ∃ g', Stp P g0 w0 H0 g' w (gc H0.length a H).2 ∧ VR P g' w (gc H0.length a H).2 (gc H0.length a H).1 v := by
  have hle := T.ext.len
  have hlow : ((H.take H0.length).flatMap AO.refs).all (· < H0.length) = true → ∀ (r : Nat) (x : AO), r < H0.length → H[r]? = some x → ∀ q ∈ x.refs, q < H0.length := by
    intro h r x hr hx q hq
    have := List.all_eq_true.1 h q (mem_heapRefs.2 ⟨r, x, by rw [List.getElem?_take, if_pos hr]; exact hx, hq⟩)
    simpa using this
  have same : gc H0.length a H = (a, H) → ∃ g', Stp P g0 w0 H0 g' w (gc H0.length a H).2 ∧ VR P g' w (gc H0.length a H).2 (gc H0.length a H).1 v := fun h => by rw [h]; exact ⟨g, T, hv⟩
  by_cases hl : ((H.take H0.length).flatMap AO.refs).all (· < H0.length) = true
  · by_cases hr : (refs a).all (· < H0.length) = true
    · have e : gc H0.length a H = (a, H.take H0.length) := by simp only [gc, hl, hr, Bool.and_self, if_true]
      rw [e]
      exact ⟨g, stp_take T (Nat.le_refl _) (hlow hl), hv.take (hlow hl) fun r h => by simpa using List.all_eq_true.1 hr r h⟩
    · have hn : (((H.take H0.length).flatMap AO.refs).all (· < H0.length) && (refs a).all (· < H0.length)) = false := by rw [hl]; simpa using hr
      cases a with
      | win r ver n =>
        have hrk : H0.length ≤ r := by
          rcases Nat.lt_or_ge r H0.length with h | h
          · exfalso; apply hr; simp [refs, h]
          · exact h
        have e : gc H0.length (.win r ver n) H = (.win H0.length ver n, H.take H0.length ++ [H.getD r .dead]) := by
          simp only [gc, hl, Bool.true_and, if_true]
          rw [if_neg hr]
        rw [e]
        have hrH := hv.refs_lt r (by simp [refs])
        have harr : ∃ e v0 xs m d, H[r]? = some (.arr e v0 xs m d) := by cases hv with | win h1 e v0 xs m d hH => exact ⟨_, _, _, _, _, hH⟩
        obtain ⟨ee, v0, xs, m, d, hH⟩ := harr
        have hgd : H.getD r .dead = .arr ee v0 xs m d := by simp [List.getD_eq_getElem?_getD, hH]
        rw [hgd]
        have htl : (H.take H0.length).length = H0.length := by simp; omega
        have hget1 : ∀ i, i < H0.length → (H.take H0.length ++ [AO.arr ee v0 xs m d])[i]? = H[i]? := fun i hi => by rw [List.getElem?_append_left (by omega), List.getElem?_take, if_pos hi]
        have hget2 : (H.take H0.length ++ [AO.arr ee v0 xs m d])[H0.length]? = some (.arr ee v0 xs m d) := by
          rw [List.getElem?_append_right (by omega), htl]; simp
        have hE : Emb (fun x => if x = r then H0.length else x) (fun x => x < H0.length ∨ x = r) g H ⟨fun i => if i = H0.length then g.loc r else g.loc i, g.pm⟩ (H.take H0.length ++ [AO.arr ee v0 xs m d]) := by
          refine ⟨rfl, fun x y hx hy => ?_, fun x hx _ => ?_⟩
          · split
            · rename_i h
              subst h
              rw [hH] at hy
              injection hy with hy
              subst hy
              exact hget2
            · rename_i h
              have hx' := hx.resolve_right h
              rw [hget1 x hx', hy, AO.ren_eq _ y fun q hq => ?_]
              have := hlow hl x y hx' hy q hq
              rw [if_neg (by omega)]
          · split
            · rename_i h; simp [h]
            · rename_i h
              have hx' := hx.resolve_right h
              exact if_neg (by omega)
        have hidx : ∀ i, i < (H.take H0.length ++ [AO.arr ee v0 xs m d]).length → ∃ j, j < H.length ∧ (j < H0.length ∨ j = r) ∧ (if j = r then H0.length else j) = i := by
          intro i hi
          rw [List.length_append, htl] at hi
          simp only [List.length_cons, List.length_nil] at hi
          rcases Nat.lt_or_ge i H0.length with h | h
          · exact ⟨i, by omega, .inl h, if_neg (by omega)⟩
          · exact ⟨r, hrH, .inr rfl, by rw [if_pos rfl]; omega⟩
        refine ⟨⟨fun i => if i = H0.length then g.loc r else g.loc i, g.pm⟩, ⟨⟨fun i x hx => ?_, fun i i' b hi hi' hb hb' => ?_, fun i b hi hb => ?_, T.sr.new⟩, ⟨T.ext.pm, T.ext.cell, by rw [List.length_append, htl]; omega, fun q cs h => ?_, fun q s p h => ?_, fun q e ver xs m d h => ?_⟩, T.fr.os, T.fr.tape, T.fr.output, T.fr.size, T.fr.heap, fun i b hi hb => ?_⟩, ?_⟩
        · obtain ⟨j, hj, hA, rfl⟩ := hidx i (lt_of_get hx)
          have hj' := List.getElem?_eq_getElem hj
          have h1 := hE.get j _ hA hj'
          rw [h1] at hx
          injection hx with hx
          rw [← hx]
          refine (T.sr.ok j _ hj').emb hE hA hj' fun q hq => ?_
          rcases hA with h | h
          · exact .inl (hlow hl j _ h hj' q hq)
          · subst h
            rw [hH] at hj'
            injection hj' with hj'
            rw [← hj'] at hq
            simp [AO.refs] at hq
        · obtain ⟨j, hj, hA, rfl⟩ := hidx i hi
          obtain ⟨j', hj', hA', rfl⟩ := hidx i' hi'
          rw [hE.loc j hA hj] at hb
          rw [hE.loc j' hA' hj'] at hb'
          rw [T.sr.disj j j' b hj hj' hb hb']
        · obtain ⟨j, hj, hA, rfl⟩ := hidx i hi
          rw [hE.loc j hA hj] at hb
          exact T.sr.lt j b hj hb
        · rw [hget1 q (lt_of_get h)]
          dsimp only
          rw [if_neg (by have := lt_of_get h; omega)]
          exact T.ext.box q cs h
        · rw [hget1 q (lt_of_get h)]
          dsimp only
          rw [if_neg (by have := lt_of_get h; omega)]
          exact T.ext.iter q s p h
        · rw [hget1 q (lt_of_get h)]
          dsimp only
          rw [if_neg (by have := lt_of_get h; omega)]
          exact T.ext.arr q e ver xs m d h
        · obtain ⟨j, hj, hA, rfl⟩ := hidx i hi
          rw [hE.loc j hA hj] at hb
          exact T.fr.own j b hj hb
        · have := hv.emb hE (fun q hq => .inr (by simpa [refs] using hq))
          simpa [ren] using this
      | _ => exact same (by simp only [gc, hn, Bool.false_eq_true, if_false])
  · have hl' : ((H.take H0.length).flatMap AO.refs).all (· < H0.length) = false := by simpa using hl
    cases a <;> exact same (by simp only [gc, hl', Bool.false_and, Bool.false_eq_true, if_false])

theorem finish_sound (T : Stp P g0 w0 H0 g w H) {ts : List AV} {tmps : Array Value} (hts : VRs P g w H ts tmps) {fn : Func} {af : AFun} (hc : compRes P fn.results.toList = some af.res) {b : AV} {H' : List AO} (hf : finish af H0.length ⟨ts, H⟩ = some (b, H')) :
    ∃ v g', (results fn tmps).run P w = .ok v w ∧ Stp P g0 w0 H0 g' w H' ∧ VR P g' w H' b v := by
  obtain ⟨l, h1, h2⟩ := Option.map_eq_some_iff.1 hf
  obtain ⟨vs, e1, e2⟩ := results_sound T.sr hts hc h1
  have key : ∃ g1, Stp P g0 w0 H0 g1 w (if af.pur = true then frzAll l H else (l, H)).2 ∧ Rel P g1 w (if af.pur = true then frzAll l H else (l, H)).2 (if af.pur = true then frzAll l H else (l, H)).1 vs := by
    split
    · obtain ⟨g1, T1, h⟩ := frzAll_sound l vs g H T.sr e2
      exact ⟨g1, T.trans T1, h⟩
    · exact ⟨g, T, e2⟩
  obtain ⟨g1, T1, hrel⟩ := key
  obtain ⟨g2, T2, hv⟩ := gc_sound T1 (one_sound hrel)
  have h2 : gc H0.length (oneL (if af.pur = true then frzAll l H else (l, H)).1) (if af.pur = true then frzAll l H else (l, H)).2 = (b, H') := h2
  refine ⟨_, g2, e1, ?_, ?_⟩
  · rw [h2] at T2; exact T2
  · rw [h2] at hv; exact hv
end
end Go.Proofs.YtgehpjjpeddomaaGreatDoor
