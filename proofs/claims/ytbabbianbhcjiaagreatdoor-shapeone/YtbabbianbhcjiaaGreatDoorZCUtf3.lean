/- Parts, one behind the other; the last: Both mean the same: what is UTF-8. -/
import Derived.Test.YtbabbianbhcjiaaGreatDoorZCUtf
import Derived.Test.YtbabbianbhcjiaaGreatDoorZCOps4
set_option linter.all false
/- bodkinref01.Valid. -/
namespace Go.Proofs.YtbabbianbhcjiaaGreatDoor
open Go
set_option maxRecDepth 100000

abbrev u8 (l : List UInt8) (k : Nat) (h : k < l.length) : Int := (l[k].toNat : Int)
theorem u8_lt (l : List UInt8) (k : Nat) (h : k < l.length) : u8 l k h < 256 := by
  have := l[k].toNat_lt; simp only [u8]; omega
theorem wrap_b (b : UInt8) : IntKind.i64.wrap (b.toNat : Int) = (b.toNat : Int) := by
  have := b.toNat_lt; exact wrap_i64 (by omega) (by omega)
theorem innerStep (l : List UInt8) (hl : lenOk l) (p n k : Nat) (c least : Int) (hk : k < n) (hpk : p + k < l.length) (hn : n ≤ 4) (hc : 0 ≤ c ∧ c < 100000000) (b : UInt8) (hb : l[p + k] = b) :
    K_bodkinref01_Valid_1 LG 0 (execL LG 0 (.loop L_bodkinref01_Valid_1) (S_bodkinref01_Valid_1 (.t (str l)) (.t (.v (.int .i64 p))) (.t (.v (.int .i64 c))) (.t (.v (.int .i64 n))) (.t (.v (.int .i64 least))) (.t (.v (.int .i64 k))) [])) =
      if decide ((b.toNat : Int) < 128) || decide (191 < (b.toNat : Int)) then some (.t (.v (.bool false)), []) else
      K_bodkinref01_Valid_1 LG 0 (execL LG 0 (.loop L_bodkinref01_Valid_1) (S_bodkinref01_Valid_1 (.t (str l)) (.t (.v (.int .i64 p))) (.t (.v (.int .i64 (c * 64 + b.toNat - 128)))) (.t (.v (.int .i64 n))) (.t (.v (.int .i64 least))) (.t (.v (.int .i64 (k + 1)))) [])) := by
  have hbl := b.toNat_lt
  have w0 := wrap_b b
  have w1 : IntKind.i64.wrap ((p : Int) + k) = (p : Int) + k := wrap_i64 (by omega) (by omega)
  have w2 : IntKind.i64.wrap ((k : Int) + 1) = (k : Int) + 1 := wrap_i64 (by omega) (by omega)
  have w3 : IntKind.i64.wrap (c * 64) = c * 64 := wrap_i64 (by omega) (by omega)
  have w4 : IntKind.i64.wrap (c * 64 + b.toNat) = c * 64 + b.toNat := wrap_i64 (by omega) (by omega)
  have w5 : IntKind.i64.wrap (c * 64 + b.toNat - 128) = c * 64 + b.toNat - 128 := wrap_i64 (by omega) (by omega)
  have h0 : (0 : Int) ≤ (p : Int) + k := by omega
  have h1 : ((p : Int) + k).toNat = p + k := by omega
  rw [execL_loop_eq]
  cases e1 : decide ((b.toNat : Int) < 128) <;> cases e2 : decide (191 < (b.toNat : Int))
  all_goals simp [K_bodkinref01_Valid_1, hk, hpk, hb, w0, w1, w2, w3, w4, w5, h0, h1, e1, e2]
theorem innerEnd (l : List UInt8) (hl : lenOk l) (p n : Nat) (c least : Int) (hpk : p + n ≤ l.length) :
    K_bodkinref01_Valid_1 LG 0 (execL LG 0 (.loop L_bodkinref01_Valid_1) (S_bodkinref01_Valid_1 (.t (str l)) (.t (.v (.int .i64 p))) (.t (.v (.int .i64 c))) (.t (.v (.int .i64 n))) (.t (.v (.int .i64 least))) (.t (.v (.int .i64 n))) [])) =
      if decide (c < least) || (decide (1114111 < c) || (decide (55295 < c) && decide (c < 57344))) then some (.t (.v (.bool false)), []) else
      K_bodkinref01_Valid_0 LG 0 (execL LG 0 (.loop L_bodkinref01_Valid_0) (S_bodkinref01_Valid_0 (.t (str l)) (.t (.v (.int .i64 ((p + n : Nat) : Int)))) [])) := by
  have w1 : IntKind.i64.wrap ((p : Int) + n) = (p : Int) + n := wrap_i64 (by omega) (by omega)
  rw [execL_loop_eq]
  cases e1 : decide (c < least) <;> cases e2 : decide (1114111 < c) <;> cases e3 : decide (55295 < c) <;> cases e4 : decide (c < 57344)
  all_goals simp [K_bodkinref01_Valid_1, K_bodkinref01_Valid_0, w1, e1, e2, e3, e4]
def chk : List UInt8 → Int → Option Int
  | [], c => some c
  | d :: r, c => if decide ((d.toNat : Int) < 128) || decide (191 < (d.toNat : Int)) then none else chk r (c * 64 + d.toNat - 128)
def out (c least : Int) : Bool := decide (c < least) || (decide (1114111 < c) || (decide (55295 < c) && decide (c < 57344)))
theorem innerAll (l : List UInt8) (hl : lenOk l) (p n : Nat) (least : Int) (hpk : p + n ≤ l.length) (hn : n ≤ 4) : ∀ (m k : Nat) (c : Int), n = k + m → 0 ≤ c → (c + 1) * 64 ^ m ≤ 100000000 →
    K_bodkinref01_Valid_1 LG 0 (execL LG 0 (.loop L_bodkinref01_Valid_1) (S_bodkinref01_Valid_1 (.t (str l)) (.t (.v (.int .i64 p))) (.t (.v (.int .i64 c))) (.t (.v (.int .i64 n))) (.t (.v (.int .i64 least))) (.t (.v (.int .i64 k))) [])) =
      match chk ((l.drop (p + k)).take m) c with
      | none => some (.t (.v (.bool false)), [])
      | some c' => if out c' least then some (.t (.v (.bool false)), []) else
        K_bodkinref01_Valid_0 LG 0 (execL LG 0 (.loop L_bodkinref01_Valid_0) (S_bodkinref01_Valid_0 (.t (str l)) (.t (.v (.int .i64 ((p + n : Nat) : Int)))) []))
  | 0, k, c, hk, h0, h1 => by
    have e : n = k := hk
    subst e
    rw [innerEnd l hl p n c least hpk, List.take_zero]
    rfl
  | m + 1, k, c, hk, h0, h1 => by
    have hpow : (1 : Int) ≤ 64 ^ m := Int.pow_pos (by omega) |> fun h => h
    have e64 : (64 : Int) ^ (m + 1) = 64 ^ m * 64 := Int.pow_succ 64 m
    have hb : p + k < l.length := by omega
    have ed : l.drop (p + k) = l[p + k] :: l.drop (p + (k + 1)) := by rw [List.drop_eq_getElem_cons hb, Nat.add_assoc]
    have hc : c < 100000000 := by
      have : (c + 1) * 1 ≤ (c + 1) * 64 ^ (m + 1) := Int.mul_le_mul_of_nonneg_left (by rw [e64]; omega) (by omega)
      omega
    rw [innerStep l hl p n k c least (by omega) hb hn ⟨h0, hc⟩ _ rfl, ed, List.take_succ_cons, chk]
    split
    · rfl
    · rename_i hd
      simp only [Bool.or_eq_true, decide_eq_true_eq, not_or] at hd
      have ih := innerAll l hl p n least hpk hn m (k + 1) (c * 64 + l[p + k].toNat - 128) (by omega) (by omega) (by
        refine Int.le_trans ?_ h1
        rw [e64, Int.mul_comm (64 ^ m) 64, ← Int.mul_assoc]
        exact Int.mul_le_mul_of_nonneg_right (by omega) (by omega))
      rw [← ih]
      simp only [Int.natCast_add, Int.natCast_one]
/-- How long the letter at a place is, if it is one. -/
def letter (l : List UInt8) (p n : Nat) (least c : Int) : Option Nat :=
  if p + n ≤ l.length then (chk ((l.drop (p + 1)).take (n - 1)) c).bind fun c' => if out c' least then none else some n else none
def refW (l : List UInt8) (p : Nat) (b : Int) : Option Nat :=
  if 240 ≤ b ∧ b < 248 then letter l p 4 65536 (b - 240) else if 224 ≤ b ∧ b < 240 then letter l p 3 2048 (b - 224) else if 192 ≤ b ∧ b < 224 then letter l p 2 128 (b - 192) else if 128 ≤ b then none else letter l p 1 0 b
def refU (l : List UInt8) : Nat → Nat → Bool
  | 0, _ => true
  | f + 1, p => if h : p < l.length then match refW l p (l[p].toNat : Int) with | none => false | some n => refU l f (p + n) else true

noncomputable abbrev R0 (l : List UInt8) (p : Nat) : Option (AV × List AO) := K_bodkinref01_Valid_0 LG 0 (execL LG 0 (.loop L_bodkinref01_Valid_0) (S_bodkinref01_Valid_0 (.t (str l)) (.t (.v (.int .i64 p))) []))
noncomputable def R1 (l : List UInt8) (p n : Nat) (least c : Int) : Option (AV × List AO) := K_bodkinref01_Valid_1 LG 0 (execL LG 0 (.loop L_bodkinref01_Valid_1) (S_bodkinref01_Valid_1 (.t (str l)) (.t (.v (.int .i64 p))) (.t (.v (.int .i64 c))) (.t (.v (.int .i64 n))) (.t (.v (.int .i64 least))) (.t (.v (.int .i64 1))) []))
theorem R1_eq (l : List UInt8) (hl : lenOk l) (p n : Nat) (least c : Int) (hn : 1 ≤ n) (hn4 : n ≤ 4) (h0 : 0 ≤ c) (h1 : (c + 1) * 64 ^ (n - 1) ≤ 100000000) (hp : p + n ≤ l.length) :
    R1 l p n least c = match letter l p n least c with | none => some (.t (.v (.bool false)), []) | some k => R0 l (p + k) := by
  have h := innerAll l hl p n least hp hn4 (n - 1) 1 c (by omega) h0 h1
  unfold R1
  refine Eq.trans h ?_
  unfold letter
  rw [if_pos hp]
  cases chk ((l.drop (p + 1)).take (n - 1)) c with
  | none => rfl
  | some c' =>
    simp only [Option.bind_some]
    cases out c' least <;> rfl
theorem outer (l : List UInt8) (hl : l.length ≤ 1000000) (p : Nat) (h : p < l.length) (b : UInt8) (hb : l[p] = b) : R0 l p = match refW l p (b.toNat : Int) with | none => some (.t (.v (.bool false)), []) | some n => R0 l (p + n) := by
  have hbl := b.toNat_lt
  have w0 := wrap_b b
  unfold refW
  have step : ∀ (n : Nat) (least c : Int), n ≤ 4 → 1 ≤ n → 0 ≤ c → (c + 1) * 64 ^ (n - 1) ≤ 100000000 → R0 l p = (if p + n ≤ l.length then R1 l p n least c else some (.t (.v (.bool false)), [])) →
      R0 l p = match letter l p n least c with | none => some (.t (.v (.bool false)), []) | some k => R0 l (p + k) := by
    intro n least c h4 h1 hc hc2 e
    rw [e]
    by_cases hp : p + n ≤ l.length
    · rw [if_pos hp, R1_eq l (by omega) p n least c h1 h4 hc hc2 hp]
    · rw [if_neg hp]; unfold letter; rw [if_neg hp]
  by_cases hc0 : 240 ≤ (b.toNat : Int) ∧ (b.toNat : Int) < 248
  · rw [if_pos hc0]
    refine step 4 65536 ((b.toNat : Int) - 240) (by omega) (by omega) (by omega) (by rw [show (64 : Int) ^ (4 - 1) = 262144 from by decide]; omega) ?_
    have w1 : IntKind.i64.wrap ((b.toNat : Int) - 240) = (b.toNat : Int) - 240 := wrap_i64 (by omega) (by omega)
    have w2 : IntKind.i64.wrap ((p : Int) + 4) = (p : Int) + 4 := wrap_i64 (by omega) (by omega)
    have hp : ((l.length : Int) < (p : Int) + 4) = ¬ (p + 4 ≤ l.length) := by apply propext; omega
    have f1 : 240 ≤ (b.toNat : Int) := by omega
    have f2 : (b.toNat : Int) < 248 := by omega
    rw [R0, execL_loop_eq]
    by_cases hq : p + 4 ≤ l.length
    · simp [K_bodkinref01_Valid_0, R1, K_bodkinref01_Valid_1, h, hb, w0, w1, w2, f1, f2, hp, hq]
    · simp [K_bodkinref01_Valid_0, R1, K_bodkinref01_Valid_1, h, hb, w0, w1, w2, f1, f2, hp, hq]
  rw [if_neg hc0]
  by_cases hc1 : 224 ≤ (b.toNat : Int) ∧ (b.toNat : Int) < 240
  · rw [if_pos hc1]
    refine step 3 2048 ((b.toNat : Int) - 224) (by omega) (by omega) (by omega) (by rw [show (64 : Int) ^ (3 - 1) = 4096 from by decide]; omega) ?_
    have w1 : IntKind.i64.wrap ((b.toNat : Int) - 224) = (b.toNat : Int) - 224 := wrap_i64 (by omega) (by omega)
    have w2 : IntKind.i64.wrap ((p : Int) + 3) = (p : Int) + 3 := wrap_i64 (by omega) (by omega)
    have hp : ((l.length : Int) < (p : Int) + 3) = ¬ (p + 3 ≤ l.length) := by apply propext; omega
    have f1 : ¬ 240 ≤ (b.toNat : Int) := by omega
    have f3 : 224 ≤ (b.toNat : Int) := by omega
    have f4 : (b.toNat : Int) < 240 := by omega
    rw [R0, execL_loop_eq]
    by_cases hq : p + 3 ≤ l.length
    · simp [K_bodkinref01_Valid_0, R1, K_bodkinref01_Valid_1, h, hb, w0, w1, w2, f1, f3, f4, hp, hq]
    · simp [K_bodkinref01_Valid_0, R1, K_bodkinref01_Valid_1, h, hb, w0, w1, w2, f1, f3, f4, hp, hq]
  rw [if_neg hc1]
  by_cases hc2 : 192 ≤ (b.toNat : Int) ∧ (b.toNat : Int) < 224
  · rw [if_pos hc2]
    refine step 2 128 ((b.toNat : Int) - 192) (by omega) (by omega) (by omega) (by rw [show (64 : Int) ^ (2 - 1) = 64 from by decide]; omega) ?_
    have w1 : IntKind.i64.wrap ((b.toNat : Int) - 192) = (b.toNat : Int) - 192 := wrap_i64 (by omega) (by omega)
    have w2 : IntKind.i64.wrap ((p : Int) + 2) = (p : Int) + 2 := wrap_i64 (by omega) (by omega)
    have hp : ((l.length : Int) < (p : Int) + 2) = ¬ (p + 2 ≤ l.length) := by apply propext; omega
    have f1 : ¬ 240 ≤ (b.toNat : Int) := by omega
    have f3 : ¬ 224 ≤ (b.toNat : Int) := by omega
    have f5 : 192 ≤ (b.toNat : Int) := by omega
    have f6 : (b.toNat : Int) < 224 := by omega
    rw [R0, execL_loop_eq]
    by_cases hq : p + 2 ≤ l.length
    · simp [K_bodkinref01_Valid_0, R1, K_bodkinref01_Valid_1, h, hb, w0, w1, w2, f1, f3, f5, f6, hp, hq]
    · simp [K_bodkinref01_Valid_0, R1, K_bodkinref01_Valid_1, h, hb, w0, w1, w2, f1, f3, f5, f6, hp, hq]
  rw [if_neg hc2]
  by_cases hc3 : 128 ≤ (b.toNat : Int)
  · rw [if_pos hc3, R0, execL_loop_eq]
    have f7 : (128 : Int) ≤ (b.toNat : Int) := by omega
    cases g1 : decide ((240 : Int) ≤ b.toNat) <;> cases g2 : decide ((b.toNat : Int) < 248) <;> cases g3 : decide ((224 : Int) ≤ b.toNat) <;> cases g4 : decide ((b.toNat : Int) < 240) <;> cases g5 : decide ((192 : Int) ≤ b.toNat) <;> cases g6 : decide ((b.toNat : Int) < 224)
    all_goals first
      | (exfalso; simp only [decide_eq_true_eq, decide_eq_false_iff_not] at g1 g2 g3 g4 g5 g6; omega)
      | simp [K_bodkinref01_Valid_0, h, hb, w0, g1, g2, g3, g4, g5, g6, f7]
  · rw [if_neg hc3]
    refine step 1 0 (b.toNat : Int) (by omega) (by omega) (by omega) (by rw [show (64 : Int) ^ (1 - 1) = 1 from by decide]; omega) ?_
    have w2 : IntKind.i64.wrap ((p : Int) + 1) = (p : Int) + 1 := wrap_i64 (by omega) (by omega)
    have hp : ((l.length : Int) < (p : Int) + 1) = ¬ (p + 1 ≤ l.length) := by apply propext; omega
    have f1 : ¬ 240 ≤ (b.toNat : Int) := by omega
    have f3 : ¬ 224 ≤ (b.toNat : Int) := by omega
    have f5 : ¬ 192 ≤ (b.toNat : Int) := by omega
    have f7 : ¬ 128 ≤ (b.toNat : Int) := by omega
    rw [R0, execL_loop_eq]
    by_cases hq : p + 1 ≤ l.length
    · simp [K_bodkinref01_Valid_0, R1, K_bodkinref01_Valid_1, h, hb, w0, w2, f1, f3, f5, f7, hp, hq]
    · simp [K_bodkinref01_Valid_0, R1, K_bodkinref01_Valid_1, h, hb, w0, w2, f1, f3, f5, f7, hp, hq]
theorem outerAll (l : List UInt8) (hl : l.length ≤ 1000000) : ∀ f p, l.length - p ≤ f → R0 l p = some (.t (.v (.bool (refU l f p))), [])
  | 0, p, hf => by
    have h1 : ¬ p < l.length := by omega
    rw [R0, execL_loop_eq]
    simp [K_bodkinref01_Valid_0, h1, refU]
  | f + 1, p, hf => by
    by_cases h : p < l.length
    · rw [outer l hl p h _ rfl, refU, dif_pos h]
      cases hr : refW l p (l[p].toNat : Int) with
      | none => rfl
      | some n =>
        have hn : 1 ≤ n := by
          unfold refW letter at hr
          revert hr
          repeat' split
          all_goals intro hr
          all_goals first
            | cases hr
            | (obtain ⟨c', _, hr⟩ := Option.bind_eq_some_iff.1 hr
               split at hr
               · cases hr
               · cases hr; omega)
        exact outerAll l hl f (p + n) (by omega)
    · rw [R0, execL_loop_eq]
      simp [K_bodkinref01_Valid_0, h, refU]
theorem r_valid (l : List UInt8) (hl : l.length ≤ 1000000) (H : List AO) : doC fn_bodkinref01_Valid [.t (str l)] H = some (.t (.v (.bool (refU l l.length 0))), H) := by
  refine pureC rfl rfl rfl rfl ?_ H
  rw [callE LG rfl rfl rfl]
  have h := outerAll l hl l.length 0 (by omega)
  simp only [R0, K_bodkinref01_Valid_0] at h
  simp
  exact h
end Go.Proofs.YtbabbianbhcjiaaGreatDoor
/- Both mean the same: what is UTF-8. -/
namespace Go.Proofs.YtbabbianbhcjiaaGreatDoor
open Go
set_option maxRecDepth 100000

def decN (m g0 g1 g2 g3 : Nat) : Nat × Nat :=
  if g0 < 0x80 then (g0, 1)
  else if g0 / 32 == 6 && (decide (1 < m) && g1 / 64 == 2) then
    if (g0 % 32) * 64 + g1 % 64 ≥ 0x80 then ((g0 % 32) * 64 + g1 % 64, 2) else (65533, 1)
  else if g0 / 16 == 14 && (decide (1 < m) && g1 / 64 == 2) && (decide (2 < m) && g2 / 64 == 2) then
    if (g0 % 16) * 4096 + (g1 % 64) * 64 + g2 % 64 ≥ 0x800 && Utf8.valid (((g0 % 16) * 4096 + (g1 % 64) * 64 + g2 % 64 : Nat) : Int) then ((g0 % 16) * 4096 + (g1 % 64) * 64 + g2 % 64, 3) else (65533, 1)
  else if g0 / 8 == 30 && (decide (1 < m) && g1 / 64 == 2) && (decide (2 < m) && g2 / 64 == 2) && (decide (3 < m) && g3 / 64 == 2) then
    if (g0 % 8) * 262144 + (g1 % 64) * 4096 + (g2 % 64) * 64 + g3 % 64 ≥ 0x10000 && Utf8.valid (((g0 % 8) * 262144 + (g1 % 64) * 4096 + (g2 % 64) * 64 + g3 % 64 : Nat) : Int) then ((g0 % 8) * 262144 + (g1 % 64) * 4096 + (g2 % 64) * 64 + g3 % 64, 4) else (65533, 1)
  else (65533, 1)
def cN (g : Nat) : Bool := decide ((g : Int) < 128) || decide (191 < (g : Int))
def refN (m g0 g1 g2 g3 : Nat) : Option Nat :=
  if 240 ≤ g0 ∧ g0 < 248 then if 4 ≤ m then if cN g1 || cN g2 || cN g3 then none else if out (((((g0 : Int) - 240) * 64 + g1 - 128) * 64 + g2 - 128) * 64 + g3 - 128) 65536 then none else some 4 else none
  else if 224 ≤ g0 ∧ g0 < 240 then if 3 ≤ m then if cN g1 || cN g2 then none else if out ((((g0 : Int) - 224) * 64 + g1 - 128) * 64 + g2 - 128) 2048 then none else some 3 else none
  else if 192 ≤ g0 ∧ g0 < 224 then if 2 ≤ m then if cN g1 then none else if out (((g0 : Int) - 192) * 64 + g1 - 128) 128 then none else some 2 else none
  else if 128 ≤ g0 then none else some 1
def badN (m g0 g1 g2 g3 : Nat) : Bool := decide ((decN m g0 g1 g2 g3).1 = 65533) && (decide (m < 3) || !(g0 == 239 && g1 == 191 && g2 == 189))
theorem cN_f {g : Nat} (h : g / 64 = 2) : cN g = false := by unfold cN; simp; omega
theorem cN_t {g : Nat} (h0 : g < 256) (h : ¬ g / 64 = 2) : cN g = true := by unfold cN; simp; omega
theorem arith4 (m g0 g1 g2 g3 : Nat) (h0 : g0 < 256) (h1 : g1 < 256) (h2 : g2 < 256) (h3 : g3 < 256) (hr : 240 ≤ g0 ∧ g0 < 248) : refN m g0 g1 g2 g3 = if badN m g0 g1 g2 g3 then none else some (decN m g0 g1 g2 g3).2 := by
  unfold refN
  rw [if_pos hr]
  have e1 : ¬ g0 < 128 := by omega
  have e2 : (g0 / 32 == 6) = false := by simp; omega
  have e3 : (g0 / 16 == 14) = false := by simp; omega
  have e4 : (g0 / 8 == 30) = true := by simp; omega
  have e5 : (g0 == 239) = false := by simp; omega
  unfold badN decN
  simp only [e1, e2, e3, e4, e5, Bool.false_and, Bool.true_and, if_false, Bool.false_eq_true, Bool.not_false, Bool.or_true, Bool.and_true]
  by_cases hm : 4 ≤ m
  · have m1 : 1 < m := by omega
    have m2 : 2 < m := by omega
    have m3 : 3 < m := by omega
    by_cases k1 : g1 / 64 = 2
    · by_cases k2 : g2 / 64 = 2
      · by_cases k3 : g3 / 64 = 2
        · generalize hc : (g0 % 8) * 262144 + (g1 % 64) * 4096 + (g2 % 64) * 64 + g3 % 64 = c
          have hi : ((((g0 : Int) - 240) * 64 + g1 - 128) * 64 + g2 - 128) * 64 + g3 - 128 = (c : Int) := by omega
          rw [hi]
          by_cases hv : 65536 ≤ c ∧ c ≤ 1114111
          · have ho : out (c : Int) 65536 = false := by unfold out; simp; omega
            have hv2 : Utf8.valid (c : Int) = true := by unfold Utf8.valid; simp; omega
            have hne : ¬ c = 65533 := by omega
            simp [hm, m1, m2, m3, k1, k2, k3, cN_f, ho, hv.1, hv2, hne]
          · have ho : out (c : Int) 65536 = true := by unfold out; simp; omega
            have hv2 : (decide (c ≥ 65536) && Utf8.valid (c : Int)) = false := by unfold Utf8.valid; simp; omega
            simp only [hm, m1, m2, m3, k1, k2, k3, cN_f, ho, hv2]
            simp
        · simp [hm, k1, k2, k3, cN_t h3 k3]
      · simp [hm, k1, k2, cN_t h2 k2]
    · simp [hm, k1, cN_t h1 k1]
  · have m3 : ¬ 3 < m := by omega
    simp [hm, m3]
theorem arith3 (m g0 g1 g2 g3 : Nat) (h0 : g0 < 256) (h1 : g1 < 256) (h2 : g2 < 256) (hr : 224 ≤ g0 ∧ g0 < 240) : refN m g0 g1 g2 g3 = if badN m g0 g1 g2 g3 then none else some (decN m g0 g1 g2 g3).2 := by
  unfold refN
  rw [if_neg (by omega), if_pos hr]
  have e1 : ¬ g0 < 128 := by omega
  have e2 : (g0 / 32 == 6) = false := by simp; omega
  have e3 : (g0 / 16 == 14) = true := by simp; omega
  have e4 : (g0 / 8 == 30) = false := by simp; omega
  unfold badN decN
  simp only [e1, e2, e3, e4, Bool.false_and, Bool.true_and, if_false, Bool.false_eq_true]
  by_cases hm : 3 ≤ m
  · have m1 : 1 < m := by omega
    have m2 : 2 < m := by omega
    have m3 : ¬ m < 3 := by omega
    by_cases k1 : g1 / 64 = 2
    · by_cases k2 : g2 / 64 = 2
      · generalize hc : (g0 % 16) * 4096 + (g1 % 64) * 64 + g2 % 64 = c
        have hi : (((g0 : Int) - 224) * 64 + g1 - 128) * 64 + g2 - 128 = (c : Int) := by omega
        rw [hi]
        by_cases hv : 2048 ≤ c ∧ (c < 55296 ∨ 57344 ≤ c)
        · have ho : out (c : Int) 2048 = false := by unfold out; simp; omega
          have hv2 : Utf8.valid (c : Int) = true := by unfold Utf8.valid; simp; omega
          by_cases hs : c = 65533
          · have a0 : g0 = 239 := by omega
            have a1 : g1 = 191 := by omega
            have a2 : g2 = 189 := by omega
            simp [hm, m1, m2, m3, k1, k2, cN_f, ho, hv.1, hv2, hs, a0, a1, a2]
            exact ⟨by decide, rfl⟩
          · simp [hm, m1, m2, k1, k2, cN_f, ho, hv.1, hv2, hs]
        · have ho : out (c : Int) 2048 = true := by unfold out; simp; omega
          have hv2 : (decide (c ≥ 2048) && Utf8.valid (c : Int)) = false := by unfold Utf8.valid; simp; omega
          have a : (g0 == 239 && g1 == 191 && g2 == 189) = false := by simp; omega
          simp only [hm, m1, m2, k1, k2, cN_f, ho, hv2, a]
          simp
      · have a : (g2 == 189) = false := by simp; omega
        simp [hm, k1, k2, cN_t h2 k2, a]
    · have a : (g1 == 191) = false := by simp; omega
      simp [hm, k1, cN_t h1 k1, a]
  · have m2 : ¬ 2 < m := by omega
    have m3 : m < 3 := by omega
    simp [hm, m2, m3]
theorem arith2 (m g0 g1 g2 g3 : Nat) (h0 : g0 < 256) (h1 : g1 < 256) (hr : 192 ≤ g0 ∧ g0 < 224) : refN m g0 g1 g2 g3 = if badN m g0 g1 g2 g3 then none else some (decN m g0 g1 g2 g3).2 := by
  unfold refN
  rw [if_neg (by omega), if_neg (by omega), if_pos hr]
  have e1 : ¬ g0 < 128 := by omega
  have e2 : (g0 / 32 == 6) = true := by simp; omega
  have e3 : (g0 / 16 == 14) = false := by simp; omega
  have e4 : (g0 / 8 == 30) = false := by simp; omega
  have e5 : (g0 == 239) = false := by simp; omega
  unfold badN decN
  simp only [e1, e2, e3, e4, e5, Bool.false_and, Bool.true_and, if_false, Bool.false_eq_true, Bool.not_false, Bool.or_true, Bool.and_true]
  by_cases hm : 2 ≤ m
  · have m1 : 1 < m := by omega
    by_cases k1 : g1 / 64 = 2
    · generalize hc : (g0 % 32) * 64 + g1 % 64 = c
      have hi : ((g0 : Int) - 192) * 64 + g1 - 128 = (c : Int) := by omega
      rw [hi]
      have hne : ¬ c = 65533 := by omega
      by_cases hv : 128 ≤ c
      · have ho : out (c : Int) 128 = false := by unfold out; simp; omega
        simp [hm, m1, k1, cN_f, ho, hv, hne]
      · have ho : out (c : Int) 128 = true := by unfold out; simp; omega
        simp [hm, m1, k1, cN_f, ho, hv]
    · simp [hm, k1, cN_t h1 k1]
  · have m1 : ¬ 1 < m := by omega
    simp [hm, m1]
theorem arith (m g0 g1 g2 g3 : Nat) (h0 : g0 < 256) (h1 : g1 < 256) (h2 : g2 < 256) (h3 : g3 < 256) : refN m g0 g1 g2 g3 = if badN m g0 g1 g2 g3 then none else some (decN m g0 g1 g2 g3).2 := by
  by_cases r4 : 240 ≤ g0 ∧ g0 < 248
  · exact arith4 m g0 g1 g2 g3 h0 h1 h2 h3 r4
  by_cases r3 : 224 ≤ g0 ∧ g0 < 240
  · exact arith3 m g0 g1 g2 g3 h0 h1 h2 r3
  by_cases r2 : 192 ≤ g0 ∧ g0 < 224
  · exact arith2 m g0 g1 g2 g3 h0 h1 r2
  unfold refN
  rw [if_neg r4, if_neg r3, if_neg r2]
  by_cases r1 : 128 ≤ g0
  · have e1 : ¬ g0 < 128 := by omega
    have e2 : (g0 / 32 == 6) = false := by simp; omega
    have e3 : (g0 / 16 == 14) = false := by simp; omega
    have e4 : (g0 / 8 == 30) = false := by simp; omega
    have e5 : (g0 == 239) = false := by simp; omega
    unfold badN decN
    simp [r1, e1, e2, e3, e4, e5]
  · have e1 : g0 < 128 := by omega
    have e2 : ¬ g0 = 65533 := by omega
    unfold badN decN
    simp [r1, e1, e2]

def gt (t : List UInt8) (k : Nat) : Nat := (t[k]?.getD 0).toNat
theorem gt_lt (t : List UInt8) (k : Nat) : gt t k < 256 := (t[k]?.getD 0).toNat_lt
theorem get_at (l : List UInt8) (p k : Nat) : ((ByteArray.mk l.toArray).get! (p + k)).toNat = gt (l.drop p) k := by
  show (l.toArray[p + k]!).toNat = _
  unfold gt
  rw [List.getElem?_drop]
  by_cases h : p + k < l.length
  · simp [h]
  · simp [h]; rfl
theorem dcd_eq (l : List UInt8) (p : Nat) : dcd l p = decN (l.length - p) (gt (l.drop p) 0) (gt (l.drop p) 1) (gt (l.drop p) 2) (gt (l.drop p) 3) := by
  have hsz : (ByteArray.mk l.toArray).size = l.length := by show l.toArray.size = _; simp
  have hk : ∀ k, decide (p + k < l.length) = decide (k < l.length - p) := fun k => by
    by_cases h : p + k < l.length
    · rw [decide_eq_true h, decide_eq_true (by omega)]
    · rw [decide_eq_false h, decide_eq_false (by omega)]
  unfold dcd Utf8.decode decN
  simp only [hsz, get_at, hk]
  rfl
theorem chkL1 (t : List UInt8) (h : 2 ≤ t.length) (c : Int) : chk ((t.drop 1).take (2 - 1)) c = if cN (gt t 1) then none else some (c * 64 + gt t 1 - 128) := by
  match t, h with
  | b0 :: b1 :: r, _ => rfl
theorem chkL2 (t : List UInt8) (h : 3 ≤ t.length) (c : Int) : chk ((t.drop 1).take (3 - 1)) c = if cN (gt t 1) || cN (gt t 2) then none else some ((c * 64 + gt t 1 - 128) * 64 + gt t 2 - 128) := by
  match t, h with
  | b0 :: b1 :: b2 :: r, _ =>
    show (if cN b1.toNat then none else if cN b2.toNat then none else _) = if cN b1.toNat || cN b2.toNat then none else _
    cases cN b1.toNat <;> cases cN b2.toNat <;> rfl
theorem chkL3 (t : List UInt8) (h : 4 ≤ t.length) (c : Int) : chk ((t.drop 1).take (4 - 1)) c = if cN (gt t 1) || cN (gt t 2) || cN (gt t 3) then none else some (((c * 64 + gt t 1 - 128) * 64 + gt t 2 - 128) * 64 + gt t 3 - 128) := by
  match t, h with
  | b0 :: b1 :: b2 :: b3 :: r, _ =>
    show (if cN b1.toNat then none else if cN b2.toNat then none else if cN b3.toNat then none else _) = if cN b1.toNat || cN b2.toNat || cN b3.toNat then none else _
    cases cN b1.toNat <;> cases cN b2.toNat <;> cases cN b3.toNat <;> rfl
theorem refW_eq (l : List UInt8) (p : Nat) (h : p < l.length) : refW l p (l[p].toNat : Int) = refN (l.length - p) (gt (l.drop p) 0) (gt (l.drop p) 1) (gt (l.drop p) 2) (gt (l.drop p) 3) := by
  have hg : l[p].toNat = gt (l.drop p) 0 := by
    unfold gt; rw [List.getElem?_drop]; simp [h]
  have hd1 : l.drop (p + 1) = (l.drop p).drop 1 := by simp
  have hlen : (l.drop p).length = l.length - p := by simp
  rw [hg]
  unfold refW refN letter
  rw [hd1]
  rw [← hlen]
  have hle : ∀ n, (p + n ≤ l.length) = (n ≤ (l.drop p).length) := fun n => by rw [hlen]; apply propext; omega
  simp only [hle]
  have hpos : 0 < (l.drop p).length := by omega
  clear hg hlen hle hd1 h
  generalize l.drop p = t at *
  have hI : ∀ a b : Nat, ((a : Int) ≤ (b : Int)) = (a ≤ b) := fun a b => by apply propext; omega
  have hJ : ∀ a b : Nat, ((a : Int) < (b : Int)) = (a < b) := fun a b => by apply propext; omega
  have c1 : ((240 : Int) ≤ (gt t 0 : Int)) = (240 ≤ gt t 0) := hI 240 _
  have c2 : ((gt t 0 : Int) < 248) = (gt t 0 < 248) := hJ _ 248
  have c3 : ((224 : Int) ≤ (gt t 0 : Int)) = (224 ≤ gt t 0) := hI 224 _
  have c4 : ((gt t 0 : Int) < 240) = (gt t 0 < 240) := hJ _ 240
  have c5 : ((192 : Int) ≤ (gt t 0 : Int)) = (192 ≤ gt t 0) := hI 192 _
  have c6 : ((gt t 0 : Int) < 224) = (gt t 0 < 224) := hJ _ 224
  have c7 : ((128 : Int) ≤ (gt t 0 : Int)) = (128 ≤ gt t 0) := hI 128 _
  simp only [c1, c2, c3, c4, c5, c6, c7]
  have bd : ∀ (b : Bool) (o : Bool) (c : Int) (n : Nat) (least : Int), ((if b then none else some c : Option Int).bind fun c' => if out c' least then none else some n) = if b then none else if out c least then none else some n := fun b o c n least => by cases b <;> rfl
  split
  · by_cases h4 : 4 ≤ t.length
    · rw [if_pos h4, if_pos h4, chkL3 t h4, bd _ true]
    · rw [if_neg h4, if_neg h4]
  split
  · by_cases h4 : 3 ≤ t.length
    · rw [if_pos h4, if_pos h4, chkL2 t h4, bd _ true]
    · rw [if_neg h4, if_neg h4]
  split
  · by_cases h4 : 2 ≤ t.length
    · rw [if_pos h4, if_pos h4, chkL1 t h4, bd _ true]
    · rw [if_neg h4, if_neg h4]
  split
  · rfl
  · rename_i h1
    have ho : out (gt t 0 : Int) 0 = false := by
      have := gt_lt t 0
      unfold out; simp; omega
    rw [if_pos (show 1 ≤ t.length from hpos)]
    show (if out (gt t 0 : Int) 0 then none else some 1) = some 1
    rw [ho]; rfl
theorem take3 (t : List UInt8) : (decide ((t.length : Int) < 3) || !(t.take 3 == [239, 191, 189])) = (decide (t.length < 3) || !(gt t 0 == 239 && gt t 1 == 191 && gt t 2 == 189)) := by
  match t with
  | [] => simp
  | [_] => simp
  | [_, _] => simp
  | b0 :: b1 :: b2 :: r =>
    have e : ∀ (b c : UInt8), (b == c) = (b.toNat == c.toNat) := fun b c => by
      rw [Bool.eq_iff_iff]; simp only [beq_iff_eq]; exact ⟨fun h => by rw [h], fun h => UInt8.toNat_inj.1 h⟩
    have h1 : ¬ (b0 :: b1 :: b2 :: r).length < 3 := by simp
    have h2 : ¬ (((b0 :: b1 :: b2 :: r).length : Nat) : Int) < 3 := by omega
    rw [decide_eq_false h1, decide_eq_false h2]
    show (false || !((b0 == 239) && ((b1 == 191) && ((b2 == 189) && true)))) = (false || !((b0.toNat == 239) && (b1.toNat == 191) && (b2.toNat == 189)))
    rw [e b0, e b1, e b2]
    simp only [Bool.and_true, Bool.and_assoc]
    rfl
theorem bad_eq (l : List UInt8) (p : Nat) (h : p < l.length) : bad l p = badN (l.length - p) (gt (l.drop p) 0) (gt (l.drop p) 1) (gt (l.drop p) 2) (gt (l.drop p) 3) := by
  have hlen : (l.drop p).length = l.length - p := by simp
  have e : (l.length : Int) - p = ((l.drop p).length : Int) := by rw [hlen]; omega
  unfold bad badN
  rw [dcd_eq l p, e, take3, hlen]
  generalize (decN (l.length - p) (gt (l.drop p) 0) (gt (l.drop p) 1) (gt (l.drop p) 2) (gt (l.drop p) 3)).1 = z
  have hz : decide ((z : Int) = 65533) = decide (z = 65533) := by
    by_cases q : z = 65533
    · rw [decide_eq_true q, decide_eq_true (by omega)]
    · rw [decide_eq_false q, decide_eq_false (by omega)]
  rw [hz]
theorem place_eq (l : List UInt8) (p : Nat) (h : p < l.length) : refW l p (l[p].toNat : Int) = if bad l p then none else some (dcd l p).2 := by
  rw [refW_eq l p h, bad_eq l p h, dcd_eq l p]
  exact arith _ _ _ _ _ (gt_lt _ _) (gt_lt _ _) (gt_lt _ _) (gt_lt _ _)
theorem utf_eq (l : List UInt8) : ∀ f p, refU l f p = utfF l f p
  | 0, p => rfl
  | f + 1, p => by
    rw [refU, utfF]
    by_cases h : p < l.length
    · rw [dif_pos h, if_pos h, place_eq l p h]
      cases bad l p with
      | true => rfl
      | false => exact utf_eq l f _
    · rw [dif_neg h, if_neg h]
end Go.Proofs.YtbabbianbhcjiaaGreatDoor
