/- leb.Valid and bodkinref01.Valid. -/
import Derived.Test.YtgehpjjpeddomaaGreatDoorZCEqs
import Derived.Test.YtgehpjjpeddomaaGreatDoorZCAll
set_option linter.all false
namespace Go.Proofs.YtgehpjjpeddomaaGreatDoor
open Go
set_option maxRecDepth 100000

section
variable {L : Lay} {C : Mean} {ts : List AV} {h : List AO}
def rngA (a : AV) (h : List AO) : Option (AV × List AO) := match a with
  | .t (.v (.string s)) => some (.ptr h.length 0, h ++ [.iter s 0])
  | _ => none
@[simp] theorem opC_rng (x : Opd) : opC L C ts h (.rng x) = rngA (x.ev L ts) h := of_eq_true (eq_true rfl)
@[simp] theorem rngA_s (s : ByteArray) : rngA (.t (.v (.string s))) h = some (.ptr h.length 0, h ++ [.iter s 0]) := of_eq_true (eq_true rfl)
def nxtB (s : ByteArray) (pos r : Nat) (h : List AO) : Option (AV × List AO) :=
  if pos < s.size then some (.tup [.t (.v (.bool true)), .t (.v (.int .i64 (pos : Int))), .t (.v (.int .i32 ((Utf8.decode s pos).1 : Int)))], h.set r (.iter s (pos + (Utf8.decode s pos).2)))
  else some (.tup [.t (.v (.bool false))], h)
def nxtA (a : AV) (h : List AO) : Option (AV × List AO) := match a with
  | .ptr r 0 => match h[r]? with
    | some (.iter s pos) => nxtB s pos r h
    | _ => none
  | _ => none
@[simp] theorem opC_nxt (x : Opd) : opC L C ts h (.nxt x) = nxtA (x.ev L ts) h := of_eq_true (eq_true rfl)
@[simp] theorem nxtA_1 (s : ByteArray) (pos : Nat) : nxtA (.ptr 0 0) [.iter s pos] = nxtB s pos 0 [.iter s pos] := of_eq_true (eq_true rfl)
end

abbrev dcd (l : List UInt8) (p : Nat) : Nat × Nat := Utf8.decode ⟨l.toArray⟩ p
def bad (l : List UInt8) (p : Nat) : Bool := decide (((dcd l p).1 : Int) = 65533) && (decide ((l.length : Int) - p < 3) || !((l.drop p).take 3 == [239, 191, 189]))
def utfF (l : List UInt8) : Nat → Nat → Bool
  | 0, _ => true
  | f + 1, p => if p < l.length then !bad l p && utfF l f (p + (dcd l p).2) else true

theorem dec_pos (s : ByteArray) (p : Nat) : 1 ≤ (Utf8.decode s p).2 := by
  unfold Utf8.decode
  simp only
  repeat' split <;> try simp
abbrev lebS (l : List UInt8) (p : Nat) (x : AV) : St := ⟨ofE 28 [(0, .t (str l)), (6, .ptr 0 0), (27, x)], [.iter ⟨l.toArray⟩ p]⟩
theorem nxtB_l (l : List UInt8) (pos : Nat) (h : List AO) : nxtB ⟨l.toArray⟩ pos 0 h =
    if pos < l.length then some (.tup [.t (.v (.bool true)), .t (.v (.int .i64 (pos : Int))), .t (.v (.int .i32 ((dcd l pos).1 : Int)))], h.set 0 (.iter ⟨l.toArray⟩ (pos + (dcd l pos).2)))
    else some (.tup [.t (.v (.bool false))], h) := by
  unfold nxtB
  rw [show (ByteArray.mk l.toArray).size = l.length from by show l.toArray.size = _; simp]
theorem lebLoop (l : List UInt8) (hs : lenOk l) : ∀ f p x, l.length - p ≤ f →
    K_leb_Valid_0 LG 0 (execL LG 0 (.loop L_leb_Valid_0) (lebS l p x)) = some (.t (.v (.bool (utfF l f p))), [])
  | 0, p, x, hf => by
    have h1 : ¬ p < l.length := by omega
    rw [execL_loop_eq]
    simp [K_leb_Valid_0, nxtB_l, h1, utfF]
  | f + 1, p, x, hf => by
    rw [execL_loop_eq]
    by_cases h1 : p < l.length
    · have hd := dec_pos ⟨l.toArray⟩ p
      have ih := fun x => lebLoop l hs f (p + (dcd l p).2) x (by simp only [dcd]; omega)
      simp only [K_leb_Valid_0] at ih ⊢
      have hw1 : IntKind.i64.wrap ((l.length : Int) - (p : Int)) = (l.length : Int) - p := wrap_i64 (by omega) (by omega)
      by_cases e1 : ((dcd l p).1 : Int) = 65533
      · by_cases e2 : (l.length : Int) - p < 3
        · simp [nxtB_l, h1, e1, e2, hw1, utfF, bad]
        · have hw2 : IntKind.i64.wrap ((p : Int) + 3) = (p : Int) + 3 := wrap_i64 (by omega) (by omega)
          have h3 : p + 3 ≤ l.length := by omega
          have h4 : (0 : Int) ≤ (p : Int) + 3 := by omega
          have h5 : ((p : Int) + 3).toNat = p + 3 := by omega
          cases e6 : ((l.drop p).take 3) == [239, 191, 189] with
          | true =>
            simp [nxtB_l, h1, e1, e2, hw1, hw2, h3, h4, h5, e6, utfF, bad]
            simpa using ih _
          | false => simp [nxtB_l, h1, e1, e2, hw1, hw2, h3, h4, h5, e6, utfF, bad]
      · simp [nxtB_l, h1, e1, utfF, bad]
        simpa using ih _
    · simp [K_leb_Valid_0, nxtB_l, h1, utfF]
theorem c_valid (l : List UInt8) (hl : lenOk l) (H : List AO) : doC fn_leb_Valid [.t (str l)] H = some (.t (.v (.bool (utfF l l.length 0))), H) := by
  refine pureC rfl rfl rfl rfl ?_ H
  rw [callE LG rfl rfl rfl]
  have h := lebLoop l hl l.length 0 .junk (by omega)
  simp only [K_leb_Valid_0] at h
  simp
  exact h
end Go.Proofs.YtgehpjjpeddomaaGreatDoor
