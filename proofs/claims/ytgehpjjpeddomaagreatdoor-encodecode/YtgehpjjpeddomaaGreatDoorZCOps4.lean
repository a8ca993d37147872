/- Parts, one behind the other; the last: Contracts: the reference's row of an instruction. -/
import Derived.Test.YtgehpjjpeddomaaGreatDoorZCWin
set_option linter.all false
/- Contracts: texts, the words of a text, the table's rows. -/
namespace Go.Proofs.YtgehpjjpeddomaaGreatDoor
open Go
set_option maxRecDepth 100000

@[simp] theorem conv_u8_int (n : Int) : convA Tryz.prog ty_uint8 ty_int (.t (.v (.int .u8 n))) = some (.t (.v (.int .i64 (IntKind.i64.wrap n)))) := conv_int und_uint8 und_int

/-- The words of a text. -/
def wordsGo : List UInt8 → List UInt8 → List (List UInt8)
  | cur, [] => if cur = [] then [] else [cur]
  | cur, c :: r => if c = 32 then (if cur = [] then wordsGo [] r else cur :: wordsGo [] r) else wordsGo (cur ++ [c]) r

def okc (c : UInt8) : Bool := decide (c = 32) || (decide (32 < c.toNat) && decide (c.toNat < 127))

def spaceT : List Tr := (toTr (Hd := Unit) Rows.laid_strings_asciiSpace).cells
theorem ev_space (ts : List AV) : (Opd.g g_strings_asciiSpace).ev LG ts = .ip spaceT := rfl

theorem space_all : ((List.range 127).all fun c => match spaceT[c]? with
    | some (.v (.int .u8 n)) => n == (if c = 32 ∨ (9 ≤ c ∧ c ≤ 13) then 1 else 0)
    | _ => false) = true := by kernel_rfl
theorem space_get {c : UInt8} (h : okc c = true) : spaceT[c.toNat]? = some (.v (.int .u8 (if c = 32 then 1 else 0))) := by
  have hc : c.toNat < 127 := by
    simp only [okc, Bool.or_eq_true, decide_eq_true_eq, Bool.and_eq_true] at h
    rcases h with rfl | h
    · decide
    · exact h.2
  have := List.all_eq_true.1 space_all c.toNat (List.mem_range.2 hc)
  split at this
  · rename_i n hn
    rw [hn]
    have hn := eq_of_beq this
    subst hn
    have : (c.toNat = 32 ∨ 9 ≤ c.toNat ∧ c.toNat ≤ 13) ↔ c = 32 := by
      simp only [okc, Bool.or_eq_true, decide_eq_true_eq, Bool.and_eq_true] at h
      constructor
      · rintro (h1 | h1)
        · exact UInt8.toNat_inj.1 h1
        · rcases h with h | h
          · exact h
          · omega
      · rintro rfl
        exact .inl rfl
    simp only [this]
  · cases this

theorem space_ex : ∃ T : List Tr, (∀ ts, (Opd.g g_strings_asciiSpace).ev LG ts = .ip T) ∧ ∀ c : UInt8, okc c = true → T[c.toNat]? = some (.v (.int .u8 (if c = 32 then 1 else 0))) := ⟨spaceT, ev_space, fun _ h => space_get h⟩

def cntW : Bool → List UInt8 → Nat
  | _, [] => 0
  | was, c :: r => (was && !decide (c = 32)).toNat + cntW (decide (c = 32)) r
def lastW : Bool → List UInt8 → Bool
  | was, [] => was
  | _, c :: r => lastW (decide (c = 32)) r
def orAll : Int → List UInt8 → Int
  | b, [] => b
  | b, c :: r => orAll (bitI .or .u8 b c.toNat) r

theorem bit_and0 : ∀ a b : Bool, bitI .and .i64 (if a then 1 else 0) (if b then -1 else -2) = if a && b then 1 else 0 := by decide
@[simp] theorem un_xor_i64 {P : Program} (n : Int) : unA P .xor (.t (.v (.int .i64 n))) = some (.t (.v (.int .i64 (bitI .xor .i64 (-1) n)))) := of_eq_true (eq_true rfl)
theorem or_lt {b : Int} {c : UInt8} (h0 : 0 ≤ b) (h1 : b < 128) (hc : c.toNat < 128) : 0 ≤ bitI .or .u8 b c.toNat ∧ bitI .or .u8 b c.toNat < 128 := by
  have e : bitI .or .u8 b c.toNat = ((b.toNat ||| c.toNat : Nat) : Int) := by
    unfold bitI
    have h1 : (BitVec.ofInt 8 b).toNat = b.toNat := by
      rw [BitVec.toNat_ofInt]
      omega
    have h2 : (BitVec.ofInt 8 (c.toNat : Int)).toNat = c.toNat := by
      rw [BitVec.toNat_ofInt]
      omega
    have h3 : b.toNat ||| c.toNat < 2 ^ 7 := Nat.or_lt_two_pow (by omega) (by omega)
    show IntKind.u8.wrap ((BitVec.ofInt 8 b ||| BitVec.ofInt 8 (c.toNat : Int)).toNat : Int) = _
    rw [BitVec.toNat_or, h1, h2, wrap_u8 (by omega) (by omega)]
  rw [e]
  have h3 : b.toNat ||| c.toNat < 2 ^ 7 := Nat.or_lt_two_pow (by omega) (by omega)
  omega

theorem fields3 (s : List UInt8) (hs : ∀ c ∈ s, okc c = true) (hl : s.length ≤ 1000) (h : List AO) (kb : Nat) : ∀ (n : Nat) (was : Bool) (b : Int), n ≤ 1000 →
    execL LG kb (.loop L_strings_Fields_3) (S_strings_Fields_3 (.t (str s)) (.t (.v (.int .i64 n))) (.t (.v (.int .i64 (if was then 1 else 0)))) (.t (.v (.int .u8 b))) (.t (.v (.int .i64 0))) h) =
    execL LG kb (.loop L_strings_Fields_3) (S_strings_Fields_3 (.t (str s)) (.t (.v (.int .i64 (n + cntW was s : Nat)))) (.t (.v (.int .i64 (if lastW was s then 1 else 0)))) (.t (.v (.int .u8 (orAll b s)))) (.t (.v (.int .i64 s.length))) h) := by
  obtain ⟨T, hT, hget⟩ := space_ex
  have key := for_ind s (by unfold lenOk; omega) (fun k r => ∀ (n : Nat) (was : Bool) (b : Int), n ≤ 1000 + k →
    execL LG kb (.loop L_strings_Fields_3) (S_strings_Fields_3 (.t (str s)) (.t (.v (.int .i64 n))) (.t (.v (.int .i64 (if was then 1 else 0)))) (.t (.v (.int .u8 b))) (.t (.v (.int .i64 k))) h) =
    execL LG kb (.loop L_strings_Fields_3) (S_strings_Fields_3 (.t (str s)) (.t (.v (.int .i64 (n + cntW was r : Nat)))) (.t (.v (.int .i64 (if lastW was r then 1 else 0)))) (.t (.v (.int .u8 (orAll b r)))) (.t (.v (.int .i64 s.length))) h))
    (fun n was b _ => by simp only [cntW, lastW, orAll, Nat.add_zero]; rfl) (fun k x r hk hx hm hw ih n was b hn => by
      have ho := hs x hm
      have hlt : x.toNat < 256 := x.toNat_lt
      have hsp := hget x ho
      have w1 : IntKind.i64.wrap (if x = 32 then 1 else 0) = if x = 32 then 1 else 0 := by split <;> decide
      have w2 : IntKind.i64.wrap (n + bitI .and .i64 (if was then 1 else 0) (bitI .xor .i64 (-1) (if x = 32 then 1 else 0))) = ((n + ((was && !decide (x = 32)).toNat) : Nat) : Int) := by
        have e1 : bitI .and .i64 (if was then 1 else 0) (bitI .xor .i64 (-1) (if x = 32 then 1 else 0)) = (was && !decide (x = 32)).toNat := by
          by_cases h : x = 32 <;> cases was <;> simp [h] <;> decide
        have := Bool.toNat_le (was && !decide (x = 32))
        rw [e1, wrap_i64 (by omega) (by omega)]
        omega
      have e := ih (n + ((was && !decide (x = 32)).toNat)) (decide (x = 32)) (bitI .or .u8 b x.toNat) (by have := Bool.toNat_le (was && !decide (x = 32)); omega)
      rw [execL_loop_eq]
      simp at hw
      simp [hx, hk, hw, hlt, hsp, hT]
      rw [w1, w2]
      simp only [cntW, lastW, orAll]
      simp [Int.add_assoc] at e ⊢
      exact e)
  intro n was b hn
  simpa using key n was b (by omega)

def single : Bool → List UInt8 → Bool
  | _, [] => true
  | p, c :: r => if c = 32 then !p && single true r else single false r

theorem wordsGo_len (cur : List UInt8) (r : List UInt8) (h : cur ≠ []) : 0 < (wordsGo cur r).length := by
  induction r generalizing cur with
  | nil => simp [wordsGo, h]
  | cons c r ih =>
    unfold wordsGo
    split
    · simp [h]
    · exact ih _ (by simp)

theorem drop_cons {α : Type} {s : List α} {k : Nat} {c : α} {r : List α} (h : s.drop k = c :: r) : ∃ hk : k < s.length, s[k] = c ∧ s.drop (k + 1) = r := by
  have hk : k < s.length := by
    rcases Nat.lt_or_ge k s.length with h1 | h1
    · exact h1
    · rw [List.drop_eq_nil_iff.2 h1] at h; cases h
  rw [List.drop_eq_getElem_cons hk] at h
  injection h with h1 h2
  exact ⟨hk, h1, h2⟩

theorem fields0 (s : List UInt8) (hs : ∀ c ∈ s, okc c = true) (hl : s.length ≤ 1000) (n : Nat) (hn : n ≤ 1000) : ∀ (rest : List UInt8) (fs k : Nat) (cur : List UInt8) (ws : List (List UInt8)) (d : Nat), s.drop k = rest → k ≤ s.length → fs ≤ k → (s.drop fs).take (k - fs) = cur →
    single (decide (cur = [])) rest = true → ws.length + (wordsGo cur rest).length = n → d ≤ n →
    K_strings_Fields_0 LG 0 (execL LG 0 (.loop L_strings_Fields_0) (S_strings_Fields_0 (.t (str s)) (.win 0 0 n) (.t (.v (.int .i64 ws.length))) (.t (.v (.int .i64 fs))) (.t (.v (.int .i64 k)))
      [.arr ty_string 0 (ws.map str ++ List.replicate (n - ws.length) (.v (.string ⟨#[]⟩))) 0 d])) = some (.t (.sl ((ws ++ wordsGo cur rest).map str)), []) := by
  obtain ⟨T, hT, hget⟩ := space_ex
  intro rest
  induction rest with
  | nil =>
    intro fs k cur ws d hr hk hf hcur hsi hw hd
    have hlen : k = s.length := by have := List.drop_eq_nil_iff.1 hr; omega
    subst hlen
    have hcl : cur.length = s.length - fs := by rw [← hcur]; simp
    rw [execL_loop_eq]
    by_cases hc : cur = []
    · subst hc
      simp [wordsGo] at hw
      have e0 : (ws.map str).take n = ws.map str := List.take_of_length_le (by simp; omega)
      have e1 : ¬ fs < s.length := by simp at hcl; omega
      simp [K_strings_Fields_0, wordsGo, hw, hd, e0, e1]
    · have hc' : fs < s.length := by have := List.length_pos_iff.2 hc; omega
      simp [wordsGo, hc] at hw
      subst hw
      have e0 : (ws.map str ++ [str cur]).take (ws.length + 1) = ws.map str ++ [str cur] := List.take_of_length_le (by simp)
      have e3 : s.drop fs = cur := by rw [← hcur]; rw [List.take_of_length_le (by simp)]
      simp [K_strings_Fields_0, wordsGo, hc, hc', hf, e0, e3]
  | cons c r ih =>
    intro fs k cur ws d hr hk0 hf hcur hsi hw hd
    obtain ⟨hk, hx, hr'⟩ := drop_cons hr
    have hm : c ∈ s := by rw [← hx]; exact List.getElem_mem hk
    have hlt : c.toNat < 256 := c.toNat_lt
    have hspc := hget c (hs c hm)
    have hw1 : IntKind.i64.wrap ((k : Int) + 1) = (k : Int) + 1 := by rw [wrap_i64 (by omega) (by omega)]
    have hcl : cur.length = k - fs := by rw [← hcur]; simp; omega
    rw [execL_loop_eq]
    by_cases h32 : c = 32
    · subst h32
      have hcn : cur ≠ [] := by
        rintro rfl
        simp [single] at hsi
      have hsr : single true r = true := by
        simp only [single, if_true, Bool.and_eq_true] at hsi
        exact hsi.2
      simp only [wordsGo, hcn, if_true, if_false, List.length_cons] at hw
      have e2 : ws.length < n := by omega
      have e5 : ws.length ≤ n := by omega
      have hw2 : IntKind.i64.wrap ((ws.length : Int) + 1) = ws.length + 1 := by rw [wrap_i64 (by omega) (by omega)]
      have e6 : List.replicate (n - ws.length) (Tr.v (.string ⟨#[]⟩)) = .v (.string ⟨#[]⟩) :: List.replicate (n - (ws.length + 1)) (.v (.string ⟨#[]⟩)) := by
        rw [show n - ws.length = (n - (ws.length + 1)) + 1 by omega, List.replicate_succ]
      have e7 : n = ws.length + (n - (ws.length + 1) + 1) := by omega
      have ih' := ih (k + 1) (k + 1) [] (ws ++ [cur]) n hr' hk (Nat.le_refl _) (by simp) (by simpa using hsr) (by simp; omega) (Nat.le_refl _)
      simp at ih'
      simp at hspc
      have in1 : ∀ ts h, execL LG 0 (.loop L_strings_Fields_1) ⟨ts, h⟩ = seqK LG 0 (execL LG 0 L_strings_Fields_1 ⟨ts, h⟩) (.loop L_strings_Fields_1) := fun _ _ => execL_loop_eq ..
      have hk2 : k ≤ s.length := by omega
      have ih2 := ih'
      simp only [K_strings_Fields_0] at ih2
      cases r with
      | nil =>
        have hkl : k + 1 = s.length := by have := List.drop_eq_nil_iff.1 hr'; omega
        have hkl' : ¬ ((k : Int) + 1 < s.length) := by omega
        simp [K_strings_Fields_0, hx, hk, hk2, hf, hcur, hspc, hT, e2, hw1, hw2, e6, ← e7, wordsGo, hcn, in1, hkl', ih2]
      | cons c' r' =>
        obtain ⟨hk', hx', _⟩ := drop_cons hr'
        have h32' : ¬ c' = 32 := by
          intro h
          simp [single, h] at hsr
        have hm' : c' ∈ s := by rw [← hx']; exact List.getElem_mem hk'
        have hlt' : c'.toNat < 256 := c'.toNat_lt
        have hspc' := hget c' (hs c' hm')
        have hkl' : (k : Int) + 1 < s.length := by omega
        have h01 : (0 : Int) ≤ k + 1 := by omega
        have h02 : ((k : Int) + 1).toNat = k + 1 := by omega
        have hwg : wordsGo cur (32 :: c' :: r') = cur :: wordsGo [] (c' :: r') := by rw [wordsGo, if_pos rfl, if_neg hcn]
        simp [K_strings_Fields_0, hx, hk, hk2, hf, hcur, hspc, hT, e2, hw1, hw2, e6, ← e7, hwg, in1, hkl', hk', hx', h32', hlt', hspc', h01, h02]
        exact ih2
    · have ih' := ih fs (k + 1) (cur ++ [c]) ws d hr' hk (by omega) (by
        rw [show k + 1 - fs = (k - fs) + 1 by omega, List.take_add_one, hcur, List.getElem?_drop, show fs + (k - fs) = k by omega, List.getElem?_eq_getElem hk, hx]; rfl) (by simpa [single, h32] using hsi) (by simpa [wordsGo, h32] using hw) hd
      simp at ih'
      simp [K_strings_Fields_0, hx, hk, hlt, hspc, hT, h32, hw1, wordsGo, ih']

theorem wordsGo_cnt : ∀ (r cur : List UInt8), (wordsGo cur r).length = (if cur = [] then 0 else 1) + cntW (decide (cur = [])) r
  | [], cur => by by_cases h : cur = [] <;> simp [wordsGo, cntW, h]
  | c :: r, cur => by
    by_cases h32 : c = 32
    · by_cases h : cur = []
      · simp [wordsGo, cntW, h32, h, wordsGo_cnt r []]
      · simp [wordsGo, cntW, h32, h, wordsGo_cnt r []]; omega
    · by_cases h : cur = []
      · simp [wordsGo, cntW, h32, h, wordsGo_cnt r [c]]
      · simp [wordsGo, cntW, h32, h, wordsGo_cnt r (cur ++ [c])]

theorem cntW_le : ∀ (r : List UInt8) (w : Bool), cntW w r ≤ r.length
  | [], _ => Nat.le_refl _
  | c :: r, w => by
    have := cntW_le r (decide (c = 32))
    have h2 := Bool.toNat_le (w && !decide (c = 32))
    simp only [cntW, List.length_cons]
    omega

theorem orAll_lt : ∀ (s : List UInt8) (b : Int), (∀ c ∈ s, okc c = true) → 0 ≤ b → b < 128 → 0 ≤ orAll b s ∧ orAll b s < 128
  | [], b, _, h0, h1 => ⟨h0, h1⟩
  | c :: r, b, hs, h0, h1 => by
    have hc : c.toNat < 128 := by
      have h := hs c (by simp)
      simp only [okc, Bool.or_eq_true, decide_eq_true_eq, Bool.and_eq_true] at h
      rcases h with rfl | h
      · decide
      · omega
    obtain ⟨h2, h3⟩ := or_lt h0 h1 hc
    exact orAll_lt r _ (fun x hx => hs x (by simp [hx])) h2 h3

/-- The words of a text of plain signs, no two spaces beside each other. -/
theorem c_Fields (s : List UInt8) (hs : ∀ c ∈ s, okc c = true) (hl : s.length ≤ 1000) (hsi : single true s = true) (H : List AO) :
    doC fn_strings_Fields [.t (str s)] H = some (.t (.sl ((wordsGo [] s).map str)), H) := by
  refine pureC rfl rfl rfl rfl ?_ H
  rw [callE LG rfl rfl rfl]
  obtain ⟨T, hT, hget⟩ := space_ex
  have h3 := fields3 s hs hl [] 0 0 true 0 (by omega)
  have hn : cntW true s = (wordsGo [] s).length := by simp [wordsGo_cnt]
  have hle : (wordsGo [] s).length ≤ 1000 := by have := cntW_le s true; omega
  have hb := (orAll_lt s 0 hs (by omega) (by omega)).2
  have h0 := fields0 s hs hl (wordsGo [] s).length hle s 0 0 [] [] 0 rfl (Nat.zero_le _) (Nat.le_refl _) rfl (by simpa using hsi) (by simp) (Nat.zero_le _)
  simp [hn] at h3 h0
  have in3 : ∀ ts h, execL LG 0 (.loop L_strings_Fields_3) ⟨ts, h⟩ = seqK LG 0 (execL LG 0 L_strings_Fields_3 ⟨ts, h⟩) (.loop L_strings_Fields_3) := fun _ _ => execL_loop_eq ..
  have in2 : ∀ ts h, execL LG 0 (.loop L_strings_Fields_2) ⟨ts, h⟩ = seqK LG 0 (execL LG 0 L_strings_Fields_2 ⟨ts, h⟩) (.loop L_strings_Fields_2) := fun _ _ => execL_loop_eq ..
  simp
  rw [h3]
  rw [in3]
  have hb' : ¬ (128 : Int) ≤ orAll 0 s := by omega
  have hm : 16 * (wordsGo [] s).length ≤ 281474976710656 ∧ (wordsGo [] s).length ≤ maxLenB := ⟨by omega, by unfold maxLenB; omega⟩
  simp [hb', hm]
  rw [in2]
  simp only [K_strings_Fields_0] at h0
  cases s with
  | nil =>
    simp
    exact h0
  | cons c r =>
    have h32 : ¬ c = 32 := by
      intro h
      simp [single, h] at hsi
    have hlt : c.toNat < 256 := c.toNat_lt
    have hsp := hget c (hs c (by simp))
    have h1 : (0 : Int) < (r.length : Int) + 1 := by omega
    simp [h32, hlt, hsp, hT, h1]
    exact h0
end Go.Proofs.YtgehpjjpeddomaaGreatDoor
/- Contracts: the table of instructions, in both packages. -/
namespace Go.Proofs.YtgehpjjpeddomaaGreatDoor
open Go
set_option maxRecDepth 100000

def bodyOf (f : Nat) : AC := match tblF.getD f none with
  | some a => a.body
  | none => .skip
def seqL : AC → AC
  | .seq a _ => a
  | c => c
def seqR : AC → AC
  | .seq _ b => b
  | c => c
def tabOps : List AOr → List (List UInt8)
  | [] => []
  | ⟨_, _, .build _ ps⟩ :: _ => ps.map fun p => match p.2.2 with
    | .c (.v (.string s)) => s.data.toList
    | _ => []
  | _ :: r => tabOps r
def tabOf (f : Nat) : List (List UInt8) := match seqL (seqR (bodyOf f)) with
  | .reg _ ops _ => tabOps ops
  | _ => []

def rows1 : List (List UInt8) := tabOf fn_bodkinref05_one
def rows2 : List (List UInt8) := tabOf fn_bodkinref05_two
def rows3 : List (List UInt8) := tabOf fn_bodkinref05_three
theorem rows1_len : rows1.length = 211 := by kernel_rfl
theorem rows2_len : rows2.length = 18 := by kernel_rfl
theorem rows3_len : rows3.length = 256 := by kernel_rfl

theorem c_plain (H : List AO) : doC fn_ops_plain [] H = some (.t (.agg (rows1.map str)), H) :=
  pureC rfl rfl rfl rfl (callL_of LG (n := 3) (show callN LG 3 fn_ops_plain [] [] = some (.t (.agg (rows1.map str)), []) by kernel_rfl)) H
theorem c_lanes (H : List AO) : doC fn_ops_lanes [] H = some (.t (.agg (rows3.map str)), H) :=
  pureC rfl rfl rfl rfl (callL_of LG (n := 3) (show callN LG 3 fn_ops_lanes [] [] = some (.t (.agg (rows3.map str)), []) by kernel_rfl)) H
theorem glb_more : glb g_ops_more = some (rows2.map str) := by kernel_rfl
theorem ev_more (ts : List AV) : (Opd.g g_ops_more).ev LG ts = .ip (rows2.map str) := by
  show (match glb g_ops_more with | some cs => AV.ip cs | none => .junk) = _
  rw [glb_more]

/-- A function that is a table. -/
theorem tab_fn {f n : Nat} {rows : List (List UInt8)} {body : AC} (hn : rows.length = n) (hf : LG.F f = some ⟨1, 8, body, [.tmp 2], [], true, false⟩)
    (h0 : body = .seq (seqL body) (.seq (seqL (seqR body)) (seqR (seqR body))))
    (h1 : ∀ op : Int, execL LG 0 (.seq (seqL body) (seqL (seqR body))) ⟨[.t (.v (.int .i64 op)), .junk, .junk, .junk, .junk, .junk, .junk, .junk], []⟩ = some (.norm, ⟨[.t (.v (.int .i64 op)), .junk, .junk, .ptr 0 0, .junk, .junk, .junk, .junk], [.box (rows.map fun r => .t (str r))]⟩))
    (h2 : seqR (seqR body) = .seq (.reg [] [⟨some 5, none, .mv (.t 0)⟩, ⟨some 6, none, .iarr n 1 (.t 3) (.t 5)⟩, ⟨some 7, none, .load none (.t 6)⟩, ⟨some 2, none, .mv (.t 7)⟩] [2]) .ret)
    (op : Int) (ho : 0 ≤ op) (hlt : op.toNat < n) (H : List AO) : doC f [.t (.v (.int .i64 op))] H = some (.t (str (rows.getD op.toNat [])), H) := by
  refine pureC hf rfl rfl rfl ?_ H
  rw [callL_body LG hf rfl, h0]
  have e : ∀ s, execL LG 0 (.seq (seqL body) (.seq (seqL (seqR body)) (seqR (seqR body)))) s = seqK LG 0 (execL LG 0 (.seq (seqL body) (seqL (seqR body))) s) (seqR (seqR body)) := by
    intro s
    simp only [execL_seq]
    cases execL LG 0 (seqL body) s with
    | none => rfl
    | some p =>
      obtain ⟨e, s'⟩ := p
      cases e <;> rfl
  show retK _ _ 0 (execL LG 0 _ ⟨[.t (.v (.int .i64 op))] ++ List.replicate 7 .junk, []⟩) = _
  rw [e]
  rw [show [AV.t (.v (.int .i64 op))] ++ List.replicate 7 .junk = [.t (.v (.int .i64 op)), .junk, .junk, .junk, .junk, .junk, .junk, .junk] from rfl, h1, h2]
  have hg : rows[op.toNat]? = some (rows.getD op.toNat []) := by rw [List.getD_eq_getElem?_getD, List.getElem?_eq_getElem (by omega)]; rfl
  clear h0 h1 h2 hf e
  generalize rows.getD op.toNat [] = r at hg ⊢
  simp (maxSteps := 3000) [ho, hlt, hg, kills, killsGo]

theorem c_one (op : Int) (ho : 0 ≤ op) (hlt : op.toNat < 211) (H : List AO) : doC fn_bodkinref05_one [.t (.v (.int .i64 op))] H = some (.t (str (rows1.getD op.toNat [])), H) :=
  tab_fn (body := bodyOf fn_bodkinref05_one) rows1_len (by kernel_rfl) (by kernel_rfl) (fun op => by kernel_rfl) (by kernel_rfl) op ho hlt H
theorem c_two (op : Int) (ho : 0 ≤ op) (hlt : op.toNat < 18) (H : List AO) : doC fn_bodkinref05_two [.t (.v (.int .i64 op))] H = some (.t (str (rows2.getD op.toNat [])), H) :=
  tab_fn (body := bodyOf fn_bodkinref05_two) rows2_len (by kernel_rfl) (by kernel_rfl) (fun op => by kernel_rfl) (by kernel_rfl) op ho hlt H
theorem c_three (op : Int) (ho : 0 ≤ op) (hlt : op.toNat < 256) (H : List AO) : doC fn_bodkinref05_three [.t (.v (.int .i64 op))] H = some (.t (str (rows3.getD op.toNat [])), H) :=
  tab_fn (body := bodyOf fn_bodkinref05_three) rows3_len (by kernel_rfl) (by kernel_rfl) (fun op => by kernel_rfl) (by kernel_rfl) op ho hlt H
end Go.Proofs.YtgehpjjpeddomaaGreatDoor
/- Contracts: what stands behind an instruction, in both packages. -/
namespace Go.Proofs.YtgehpjjpeddomaaGreatDoor
open Go
set_option maxRecDepth 100000

def rowS (op : Int) : List UInt8 :=
  if 0 ≤ op ∧ op < 211 then rows1.getD op.toNat []
  else if 64512 ≤ op ∧ op < 64530 then rows2.getD (op - 64512).toNat []
  else if 64768 ≤ op ∧ op < 65024 then rows3.getD (op - 64768).toNat []
  else []

def okRow (r : List UInt8) : Bool := r.all okc && single true r && decide (r.length ≤ 100) && (decide (r = []) || decide ((wordsGo [] r).length = 3))
theorem rows_ok : ((rows1 ++ rows2 ++ rows3).all okRow) = true := by kernel_rfl
theorem rowS_mem (op : Int) : rowS op = [] ∨ rowS op ∈ rows1 ++ rows2 ++ rows3 := by
  have get : ∀ (l : List (List UInt8)) (i : Nat), l.getD i [] = [] ∨ l.getD i [] ∈ l := by
    intro l i
    rw [List.getD_eq_getElem?_getD]
    rcases Nat.lt_or_ge i l.length with h | h
    · right; rw [List.getElem?_eq_getElem h]; exact List.getElem_mem h
    · left; rw [List.getElem?_eq_none h]; rfl
  unfold rowS
  split
  · rcases get rows1 op.toNat with h | h
    · exact .inl h
    · exact .inr (List.mem_append_left _ (List.mem_append_left _ h))
  · split
    · rcases get rows2 (op - 64512).toNat with h | h
      · exact .inl h
      · exact .inr (List.mem_append_left _ (List.mem_append_right _ h))
    · split
      · rcases get rows3 (op - 64768).toNat with h | h
        · exact .inl h
        · exact .inr (List.mem_append_right _ h)
      · exact .inl rfl
theorem rowS_ok (op : Int) : (∀ c ∈ rowS op, okc c = true) ∧ single true (rowS op) = true ∧ (rowS op).length ≤ 100 ∧ (rowS op = [] ∨ (wordsGo [] (rowS op)).length = 3) := by
  rcases rowS_mem op with h | h
  · rw [h]; exact ⟨by simp, rfl, by simp, .inl rfl⟩
  · have := List.all_eq_true.1 rows_ok _ h
    simp only [okRow, Bool.and_eq_true, Bool.or_eq_true, decide_eq_true_eq, List.all_eq_true] at this
    exact ⟨this.1.1.1, this.1.1.2, this.1.2, this.2⟩

theorem c_row (op : Int) (H : List AO) : doC fn_ops_row [.t (.v (.int .i64 op))] H = some (.t (str (rowS op)), H) := by
  refine pureC rfl rfl rfl rfl ?_ H
  rw [callE LG rfl rfl rfl]
  have hc1 := c_plain
  have hc2 := c_lanes
  have hm := ev_more
  have get : ∀ (l : List (List UInt8)) (i : Nat), i < l.length → (l.map str)[i]? = some (str (l.getD i [])) := by
    intro l i h
    rw [List.getElem?_map, List.getD_eq_getElem?_getD, List.getElem?_eq_getElem h]; rfl
  by_cases h1 : 0 ≤ op ∧ op < 211
  · have e : rowS op = rows1.getD op.toNat [] := by rw [rowS, if_pos h1]
    have g := get rows1 op.toNat (by rw [rows1_len]; omega)
    have h3 : op.toNat < 211 := by omega
    rw [e]
    generalize rows1.getD op.toNat [] = r at g
    generalize rows1.map str = R at g hc1
    simp [h1, hc1, h3, g]
  · have h1' : ¬ 0 ≤ op ∨ ¬ op < 211 := by omega
    by_cases h2 : 64512 ≤ op ∧ op < 64530
    · have e : rowS op = rows2.getD (op - 64512).toNat [] := by rw [rowS, if_neg h1, if_pos h2]
      have g := get rows2 (op - 64512).toNat (by rw [rows2_len]; omega)
      have h3 : (op - 64512).toNat < 18 := by omega
      have h4 : (0 : Int) ≤ op - 64512 := by omega
      have h5 : IntKind.i64.wrap (op - 64512) = op - 64512 := wrap_i64 (by omega) (by omega)
      have h6 : 0 ≤ op := by omega
      have h7 : ¬ op < 211 := by omega
      rw [e]
      generalize rows2.getD (op - 64512).toNat [] = r at g
      generalize rows2.map str = R at g hm
      simp [h2, h6, h7, hm, h3, h4, h5, g]
    · by_cases h3 : 64768 ≤ op ∧ op < 65024
      · have e : rowS op = rows3.getD (op - 64768).toNat [] := by rw [rowS, if_neg h1, if_neg h2, if_pos h3]
        have g := get rows3 (op - 64768).toNat (by rw [rows3_len]; omega)
        have h4 : (op - 64768).toNat < 256 := by omega
        have h5 : (0 : Int) ≤ op - 64768 := by omega
        have h6 : IntKind.i64.wrap (op - 64768) = op - 64768 := wrap_i64 (by omega) (by omega)
        have h7 : 0 ≤ op := by omega
        have h8 : ¬ op < 211 := by omega
        have h9 : 64512 ≤ op := by omega
        have h10 : ¬ op < 64530 := by omega
        rw [e]
        generalize rows3.getD (op - 64768).toNat [] = r at g
        generalize rows3.map str = R at g hc2
        simp [h3, h4, h5, h6, h7, h8, h9, h10, hc2, g]
      · have e : rowS op = [] := by rw [rowS, if_neg h1, if_neg h2, if_neg h3]
        rw [e]
        have q1 : (decide (0 ≤ op) && decide (op < 211)) = false := by simp; omega
        have q2 : (decide (64512 ≤ op) && decide (op < 64530)) = false := by simp; omega
        have q3 : (decide (64768 ≤ op) && decide (op < 65024)) = false := by simp; omega
        simp [q1, q2, q3]

def partS (op : Int) (i : Nat) : List UInt8 := (wordsGo [] (rowS op)).getD i []
theorem c_part (op : Int) (i : Nat) (H : List AO) : doC fn_ops_part [.t (.v (.int .i64 op)), .t (.v (.int .i64 i))] H = some (.t (str (partS op i)), H) := by
  refine pureC rfl rfl rfl rfl ?_ H
  rw [callE LG rfl rfl rfl]
  have hr := c_row op
  obtain ⟨o1, o2, o3, o4⟩ := rowS_ok op
  have hf := c_Fields (rowS op) o1 (by omega) o2
  unfold partS
  generalize wordsGo [] (rowS op) = w at hf ⊢
  by_cases h : i < w.length
  · have g : w[i]? = some (w.getD i []) := by rw [List.getD_eq_getElem?_getD, List.getElem?_eq_getElem h]; rfl
    simp [hr, hf, h, g]
  · have g : w.getD i [] = [] := by rw [List.getD_eq_getElem?_getD, List.getElem?_eq_none (by omega)]; rfl
    simp [hr, hf, h, g]

def knownS (op : Int) : Bool := !decide (rowS op = [])
theorem c_Known (op : Int) (H : List AO) : doC fn_ops_Known [.t (.v (.int .i64 op))] H = some (.t (.v (.bool (knownS op))), H) := by
  refine pureC rfl rfl rfl rfl ?_ H
  rw [callE LG rfl rfl rfl]
  have hr := c_row op
  simp [hr, knownS]
  cases rowS op <;> rfl

def digS : Int → List UInt8 → Int
  | n, [] => n
  | n, c :: r => digS (10 * n + (c.toNat - 48)) r
def immS (op : Int) : Int := digS 0 (partS op 1)

def dig (c : UInt8) : Bool := decide (48 ≤ c.toNat) && decide (c.toNat ≤ 57)
theorem imm_ok : ((rows1 ++ rows2 ++ rows3).all fun r => ((wordsGo [] r).getD 1 []).all dig && decide (((wordsGo [] r).getD 1 []).length ≤ 2)) = true := by kernel_rfl
theorem part1_ok (op : Int) : (∀ c ∈ partS op 1, dig c = true) ∧ (partS op 1).length ≤ 2 := by
  unfold partS
  rcases rowS_mem op with h | h
  · rw [h]; exact ⟨by simp [wordsGo], by simp [wordsGo]⟩
  · have := List.all_eq_true.1 imm_ok _ h
    simp only [Bool.and_eq_true, decide_eq_true_eq, List.all_eq_true] at this
    exact this

theorem c_Imm (op : Int) (H : List AO) : doC fn_ops_Imm [.t (.v (.int .i64 op))] H = some (.t (.v (.int .i64 (immS op))), H) := by
  refine pureC rfl rfl rfl rfl ?_ H
  rw [callE LG rfl rfl rfl]
  have hp := c_part op 1
  obtain ⟨o1, o2⟩ := part1_ok op
  unfold immS
  generalize partS op 1 = p at hp o1 o2
  have key := for_ind p (by unfold lenOk; omega) (fun k r => ∀ n : Int, 0 ≤ n → n < 10 ^ k → k ≤ 2 → K_ops_Imm_0 LG 0 (execL LG 0 (.loop L_ops_Imm_0) (S_ops_Imm_0 (.t (.v (.int .i64 n))) (.t (.sl (bsT p))) (.t (.v (.int .i64 p.length))) (.t (.v (.int .i64 k))) [])) = some (.t (.v (.int .i64 (digS n r))), []))
    (fun n _ _ _ => by rw [execL_loop_eq]; simp [K_ops_Imm_0, digS]) (fun k x r hk hx hm hw ih n h0 h1 h2 => by
      have hd := o1 x hm
      simp only [dig, Bool.and_eq_true, decide_eq_true_eq] at hd
      have h3 : (10 : Int) ^ k ≤ 10 ^ 2 := by
        rcases k with _ | _ | _ | k
        · decide
        · decide
        · decide
        · omega
      have hx0 : (x.toNat : Int) - 48 ≥ 0 := by omega
      have w1 : IntKind.i64.wrap (10 * n) = 10 * n := wrap_i64 (by omega) (by omega)
      have w2 : IntKind.u8.wrap ((x.toNat : Int) - 48) = x.toNat - 48 := wrap_u8 (by omega) (by omega)
      have w3 : IntKind.i64.wrap ((x.toNat : Int) - 48) = x.toNat - 48 := wrap_i64 (by omega) (by omega)
      have w4 : IntKind.i64.wrap (10 * n + ((x.toNat : Int) - 48)) = 10 * n + (x.toNat - 48) := wrap_i64 (by omega) (by omega)
      have e := ih (10 * n + (x.toNat - 48)) (by omega) (by rw [Int.pow_succ]; omega) (by omega)
      rw [execL_loop_eq]
      simp at e hw
      simp [K_ops_Imm_0, bsT, hx, hk, hw, w1, w2, w3, w4, digS]
      simpa [bsT, K_ops_Imm_0] using e)
  have := key 0 (by omega) (by decide) (by omega)
  simp at hp
  simp [hp]
  simpa [K_ops_Imm_0] using this

/-! ### the reference's table -/
theorem c_digits (p : List UInt8) (o1 : ∀ c ∈ p, dig c = true) (o2 : p.length ≤ 2) (H : List AO) : doC fn_bodkinref05_digits [.t (str p)] H = some (.t (.v (.int .i64 (digS 0 p))), H) := by
  refine pureC rfl rfl rfl rfl ?_ H
  rw [callE LG rfl rfl rfl]
  have key := for_ind p (by unfold lenOk; omega) (fun k r => ∀ n : Int, 0 ≤ n → n < 10 ^ k → k ≤ 2 → K_bodkinref05_digits_0 LG 0 (execL LG 0 (.loop L_bodkinref05_digits_0) (S_bodkinref05_digits_0 (.t (str p)) (.t (.v (.int .i64 n))) (.t (.v (.int .i64 k))) [])) = some (.t (.v (.int .i64 (digS n r))), []))
    (fun n _ _ _ => by rw [execL_loop_eq]; simp [K_bodkinref05_digits_0, digS]) (fun k x r hk hx hm hw ih n h0 h1 h2 => by
      have hd := o1 x hm
      simp only [dig, Bool.and_eq_true, decide_eq_true_eq] at hd
      have h3 : (10 : Int) ^ k ≤ 10 ^ 2 := by
        rcases k with _ | _ | _ | k
        · decide
        · decide
        · decide
        · omega
      have w1 : IntKind.i64.wrap (n * 10) = 10 * n := by rw [Int.mul_comm]; exact wrap_i64 (by omega) (by omega)
      have w3 : IntKind.i64.wrap (x.toNat : Int) = x.toNat := wrap_i64 (by omega) (by omega)
      have w4 : IntKind.i64.wrap (10 * n + (x.toNat : Int)) = 10 * n + x.toNat := wrap_i64 (by omega) (by omega)
      have w5 : IntKind.i64.wrap (10 * n + (x.toNat : Int) - 48) = 10 * n + (x.toNat - 48) := by rw [wrap_i64 (by omega) (by omega)]; omega
      have e := ih (10 * n + (x.toNat - 48)) (by omega) (by rw [Int.pow_succ]; omega) (by omega)
      rw [execL_loop_eq]
      simp at e hw
      simp [K_bodkinref05_digits_0, hx, hk, hw, w1, w3, w4, w5, digS]
      simpa [K_bodkinref05_digits_0] using e)
  have := key 0 (by omega) (by decide) (by omega)
  simpa [K_bodkinref05_digits_0] using this

theorem add_str (s t : List UInt8) (h : s.length + t.length ≤ 1000000) : binA Tryz.prog .add ty_string (.t (str s)) (.t (str t)) = some (.t (str (s ++ t))) := by
  rw [bin_sadd (by simp; omega), ba_append]

theorem c_words (s : List UInt8) (hl : s.length ≤ 1000) (H : List AO) : doC fn_bodkinref05_words [.t (str s)] H = some (.t (.sl ((wordsGo [] s).map str)), H) := by
  refine pureC rfl rfl rfl rfl ?_ H
  rw [callE LG rfl rfl rfl]
  have key : ∀ (rest : List UInt8) (k : Nat) (cur : List UInt8) (ws : List (List UInt8)), s.drop k = rest → k ≤ s.length → cur.length ≤ k → ws.length ≤ k →
      K_bodkinref05_words_0 LG 0 (execL LG 0 (.loop L_bodkinref05_words_0) (S_bodkinref05_words_0 (.t (str s)) (.win 0 0 ws.length) (.t (str cur)) (.t (.v (.int .i64 k))) [.arr ty_string 0 (ws.map str) 0 0])) = some (.t (.sl ((ws ++ wordsGo cur rest).map str)), []) := by
    intro rest
    induction rest with
    | nil =>
      intro k cur ws hr hk hcl hwl
      have hlen : k = s.length := by have := List.drop_eq_nil_iff.1 hr; omega
      subst hlen
      have hw1 : IntKind.i64.wrap ((s.length : Int) + 1) = s.length + 1 := wrap_i64 (by omega) (by omega)
      have hnot : ¬ ((s.length : Int) + 1 ≤ s.length) := by omega
      have fin : ∀ ws : List (List UInt8), K_bodkinref05_words_0 LG 0 (execL LG 0 (.loop L_bodkinref05_words_0) (S_bodkinref05_words_0 (.t (str s)) (.win 0 0 ws.length) (.t (.v (.string ⟨#[]⟩))) (.t (.v (.int .i64 (s.length + 1)))) [.arr ty_string 0 (ws.map str) 0 0])) = some (.t (.sl (ws.map str)), []) := by
        intro ws
        have e0 : (ws.map str).take ws.length = ws.map str := List.take_of_length_le (by simp)
        rw [execL_loop_eq]
        simp [K_bodkinref05_words_0, hnot, e0]
      rw [execL_loop_eq]
      by_cases hc : cur = []
      · subst hc
        have f := fin ws
        simp only [K_bodkinref05_words_0] at f
        simp [K_bodkinref05_words_0, wordsGo, hw1, trimE_eq]
        exact f
      · have hce : cur.isEmpty = false := by simp [hc]
        have f := fin (ws ++ [cur])
        simp only [K_bodkinref05_words_0] at f
        have hfit : appFits ws.length 1 16 1 [str cur] = true := by simp [appFits, maxLenB]; omega
        simp [K_bodkinref05_words_0, wordsGo, hc, hce, hw1, trimE_eq, hfit]
        simpa using f
    | cons c r ih =>
      intro k cur ws hr hk0 hcl hwl
      obtain ⟨hk, hx, hr'⟩ := drop_cons hr
      have hw1 : IntKind.i64.wrap ((k : Int) + 1) = k + 1 := wrap_i64 (by omega) (by omega)
      have hle : (k : Int) ≤ s.length := by omega
      have hne : ¬ ((k : Int) = s.length) := by omega
      have hne' : ¬ (k = s.length) := by omega
      rw [execL_loop_eq]
      by_cases h32 : c = 32
      · subst h32
        by_cases hc : cur = []
        · subst hc
          have e := ih (k + 1) [] ws hr' hk (by simp) (by omega)
          simp only [K_bodkinref05_words_0] at e
          simp at e
          simp [K_bodkinref05_words_0, wordsGo, hx, hk, hk0, hle, hne, hne', hw1, trimE_eq]
          exact e
        · have hce : cur.isEmpty = false := by simp [hc]
          have e := ih (k + 1) [] (ws ++ [cur]) hr' hk (by simp) (by simp; omega)
          simp only [K_bodkinref05_words_0] at e
          simp at e
          have hfit : appFits ws.length 1 16 1 [str cur] = true := by simp [appFits, maxLenB]; omega
          simp [K_bodkinref05_words_0, wordsGo, hc, hce, hx, hk, hk0, hle, hne, hne', hw1, trimE_eq, hfit]
          exact e
      · have e := ih (k + 1) (cur ++ [c]) ws hr' hk (by simp; omega) (by omega)
        simp only [K_bodkinref05_words_0] at e
        simp at e
        have h32' : ¬ ((c.toNat : Int) = 32) := by
          intro h
          exact h32 (UInt8.toNat_inj.1 (by have : (32 : UInt8).toNat = 32 := rfl; omega))
        have hs1 : (s.drop k).take 1 = [c] := by rw [hr]; rfl
        have hk1 : k + 1 ≤ s.length := by omega
        have hk2 : k ≤ k + 1 := by omega
        have ha := add_str cur [c] (by simp; omega)
        simp [K_bodkinref05_words_0, wordsGo, hx, hk, hk0, hk1, hle, hne, hne', hw1, trimE_eq, h32, h32', hs1, ha]
        exact e
  have := key s 0 [] [] rfl (by omega) (by simp) (by simp)
  simpa [K_bodkinref05_words_0] using this
end Go.Proofs.YtgehpjjpeddomaaGreatDoor
/- Contracts: the reference's row of an instruction. -/
namespace Go.Proofs.YtgehpjjpeddomaaGreatDoor
open Go
set_option maxRecDepth 100000

theorem c_none5 (H : List AO) : doC fn_bodkinref05_none [] H = some (.t (.agg [.v (.int .i64 (-1)), .v (.string ⟨#[]⟩), .v (.int .i64 0), .v (.string ⟨#[]⟩), .v (.string ⟨#[]⟩), .v (.bool false)]), H) :=
  pureC rfl rfl rfl rfl (callL_of LG (n := 3) (show callN LG 3 fn_bodkinref05_none [] [] = some (.t (.agg [.v (.int .i64 (-1)), .v (.string ⟨#[]⟩), .v (.int .i64 0), .v (.string ⟨#[]⟩), .v (.string ⟨#[]⟩), .v (.bool false)]), []) by kernel_rfl)) H

abbrev rowR (op : Int) (name : List UInt8) (imm : Int) (tk lv : List UInt8) (fx : Bool) : List Tr := [.v (.int .i64 op), str name, .v (.int .i64 imm), str tk, str lv, .v (.bool fx)]

theorem of_loop (w0 w1 w2 : List UInt8) (h2 : w2.length ≤ 1000) (op imm : Int) (name : List UInt8) : ∀ (rest : List UInt8) (k : Nat) (behind : Bool) (tk lv : List UInt8), w2.drop k = rest → k ≤ w2.length → tk.length + lv.length ≤ k →
    ∃ tk' lv', K_bodkinref05_Of_0 LG 0 (execL LG 0 (.loop L_bodkinref05_Of_0) (S_bodkinref05_Of_0 (.ptr 0 0) (.t (.sl [str w0, str w1, str w2])) (.ptr 1 0) (.t (.v (.bool behind))) (.t (.v (.int .i64 k)))
      [.box [.t (.v (.int .i64 0)), .t (.v (.string ⟨#[]⟩)), .t (.v (.int .i64 0)), .t (.v (.string ⟨#[]⟩)), .t (.v (.string ⟨#[]⟩)), .t (.v (.bool false))], .box ((rowR op name imm tk lv true).map .t)])) = some (.t (.agg (rowR op name imm tk' lv' true)), []) := by
  intro rest
  induction rest with
  | nil =>
    intro k behind tk lv hr hk hb
    have hlen : k = w2.length := by have := List.drop_eq_nil_iff.1 hr; omega
    subst hlen
    refine ⟨tk, lv, ?_⟩
    rw [execL_loop_eq]
    simp [K_bodkinref05_Of_0]
  | cons c r ih =>
    intro k behind tk lv hr hk0 hb
    obtain ⟨hk, hx, hr'⟩ := drop_cons hr
    have hw1 : IntKind.i64.wrap ((k : Int) + 1) = k + 1 := wrap_i64 (by omega) (by omega)
    have hk1 : k + 1 ≤ w2.length := by omega
    have hs1 : (w2.drop k).take 1 = [c] := by rw [hr]; rfl
    by_cases hc : (c.toNat : Int) = 62
    · obtain ⟨tk', lv', e⟩ := ih (k + 1) true tk lv hr' hk (by omega)
      refine ⟨tk', lv', ?_⟩
      rw [execL_loop_eq]
      simp only [K_bodkinref05_Of_0] at e
      simp at e
      simp [K_bodkinref05_Of_0, hx, hk, hw1, hc]
      exact e
    · cases behind with
      | false =>
        obtain ⟨tk', lv', e⟩ := ih (k + 1) false (tk ++ [c]) lv hr' hk (by simp; omega)
        refine ⟨tk', lv', ?_⟩
        have ha := add_str tk [c] (by simp; omega)
        rw [execL_loop_eq]
        simp only [K_bodkinref05_Of_0] at e
        simp at e
        simp [K_bodkinref05_Of_0, hx, hk, hk1, hw1, hc, hs1, ha]
        exact e
      | true =>
        obtain ⟨tk', lv', e⟩ := ih (k + 1) true tk (lv ++ [c]) hr' hk (by simp; omega)
        refine ⟨tk', lv', ?_⟩
        have ha := add_str lv [c] (by simp; omega)
        rw [execL_loop_eq]
        simp only [K_bodkinref05_Of_0] at e
        simp at e
        simp [K_bodkinref05_Of_0, hx, hk, hk1, hw1, hc, hs1, ha]
        exact e

theorem wordsGo_mem : ∀ (r cur w : List UInt8), w ∈ wordsGo cur r → w.length ≤ cur.length + r.length
  | [], cur, w, h => by
    unfold wordsGo at h
    split at h
    · simp at h
    · simp at h; subst h; simp
  | c :: r, cur, w, h => by
    unfold wordsGo at h
    split at h
    · split at h
      · have := wordsGo_mem r [] w h; simp at this ⊢; omega
      · rcases List.mem_cons.1 h with rfl | h
        · simp
        · have := wordsGo_mem r [] w h; simp at this ⊢; omega
    · have := wordsGo_mem r _ w h; simp at this ⊢; omega

theorem sel_idx (op : Int) : (0 ≤ op ∧ op < 211) ∨ (¬ (0 ≤ op ∧ op < 211) ∧ 64512 ≤ op ∧ op < 64530) ∨ (¬ (0 ≤ op ∧ op < 211) ∧ ¬ (64512 ≤ op ∧ op < 64530) ∧ 64768 ≤ op ∧ op < 65024) ∨ (¬ (0 ≤ op ∧ op < 211) ∧ ¬ (64512 ≤ op ∧ op < 64530) ∧ ¬ (64768 ≤ op ∧ op < 65024)) := by omega

/-- The row of an instruction, but for what it takes and leaves. -/
theorem of_ex (op : Int) : ∃ tk lv fx, ∀ H, doC fn_bodkinref05_Of [.t (.v (.int .i64 op))] H = some (.t (.agg (if knownS op then rowR op (partS op 0) (immS op) tk lv fx else rowR (-1) [] 0 [] [] false)), H) := by
  suffices h : ∃ tk lv fx, callL LG fn_bodkinref05_Of [.t (.v (.int .i64 op))] [] = some (.t (.agg (if knownS op then rowR op (partS op 0) (immS op) tk lv fx else rowR (-1) [] 0 [] [] false)), []) by
    obtain ⟨tk, lv, fx, h⟩ := h
    exact ⟨tk, lv, fx, pureC rfl rfl rfl rfl h⟩
  rw [callE LG rfl rfl rfl]
  obtain ⟨_, _, o3, o4⟩ := rowS_ok op
  have hw := c_words (rowS op) (by omega)
  have hn := c_none5
  obtain ⟨i1, i2⟩ := part1_ok op
  have hd := c_digits (partS op 1) i1 i2
  unfold knownS
  have sel : (op : Int) → ((0 ≤ op ∧ op < 211) ∧ ∀ H, doC fn_bodkinref05_one [.t (.v (.int .i64 op))] H = some (.t (str (rowS op)), H)) ∨ (¬ (0 ≤ op ∧ op < 211) ∧ (64512 ≤ op ∧ op < 64530) ∧ ∀ H, doC fn_bodkinref05_two [.t (.v (.int .i64 (op - 64512)))] H = some (.t (str (rowS op)), H)) ∨
      (¬ (0 ≤ op ∧ op < 211) ∧ ¬ (64512 ≤ op ∧ op < 64530) ∧ (64768 ≤ op ∧ op < 65024) ∧ ∀ H, doC fn_bodkinref05_three [.t (.v (.int .i64 (op - 64768)))] H = some (.t (str (rowS op)), H)) ∨ (¬ (0 ≤ op ∧ op < 211) ∧ ¬ (64512 ≤ op ∧ op < 64530) ∧ ¬ (64768 ≤ op ∧ op < 65024) ∧ rowS op = []) := by
    intro op
    rcases sel_idx op with h | h | h | h
    · exact .inl ⟨h, fun H => by rw [rowS, if_pos h]; exact c_one op h.1 (by omega) H⟩
    · exact .inr (.inl ⟨h.1, h.2, fun H => by rw [rowS, if_neg h.1, if_pos h.2]; exact c_two _ (by omega) (by omega) H⟩)
    · exact .inr (.inr (.inl ⟨h.1, h.2.1, h.2.2, fun H => by rw [rowS, if_neg h.1, if_neg h.2.1, if_pos h.2.2]; exact c_three _ (by omega) (by omega) H⟩))
    · exact .inr (.inr (.inr ⟨h.1, h.2.1, h.2.2, by rw [rowS, if_neg h.1, if_neg h.2.1, if_neg h.2.2]⟩))
  have hsel := sel op
  clear sel
  unfold partS at hd ⊢
  unfold immS partS
  generalize rowS op = s at *
  have three : ∀ s : List UInt8, (wordsGo [] s).length = 3 → s.length ≤ 100 → ∃ w0 w1 w2, wordsGo [] s = [w0, w1, w2] ∧ w2.length ≤ 1000 := by
    intro s h3 hl
    have hm : ∀ w ∈ wordsGo [] s, w.length ≤ 1000 := fun w hw => by
      have := wordsGo_mem s [] w hw
      simp at this
      omega
    generalize wordsGo [] s = l at h3 hm
    rcases l with _ | ⟨w0, _ | ⟨w1, _ | ⟨w2, _ | ⟨w3, r⟩⟩⟩⟩ <;> simp at h3
    exact ⟨w0, w1, w2, rfl, hm w2 (by simp)⟩
  rcases hsel with ⟨h, hs⟩ | ⟨h, h', hs⟩ | ⟨h, h', h'', hs⟩ | ⟨h, h', h'', hs⟩
  · skip
    rcases o4 with h0 | h3
    · subst h0
      refine ⟨[], [], false, ?_⟩
      simp [wordsGo] at hw
      simp [h.1, h.2, hs, hw, hn]
    · obtain ⟨w0, w1, w2, hw3, hl2⟩ := three s h3 o3
      have hsn : s ≠ [] := by rintro rfl; simp [wordsGo] at h3
      rw [hw3] at hw hd
      simp at hd hw
      obtain ⟨tk, lv, e⟩ := of_loop w0 w1 w2 hl2 op (digS 0 w1) w0 w2 0 false [] [] rfl (Nat.zero_le _) (Nat.zero_le _)
      by_cases hq : w2 = [63]
      · refine ⟨[], [], false, ?_⟩
        simp [h.1, h.2, hs, hw, hn, hd, hw3, hsn, hq]
      · refine ⟨tk, lv, true, ?_⟩
        have hq' : (w2 == [63]) = false := by simpa using hq
        simp [h.1, h.2, hs, hw, hn, hd, hw3, hsn, hq']
        simp only [K_bodkinref05_Of_0] at e
        simpa using e
  · have f1 : 0 ≤ op := by omega
    have f2 : ¬ op < 211 := by omega
    have f3 : IntKind.i64.wrap (op - 64512) = op - 64512 := wrap_i64 (by omega) (by omega)
    rcases o4 with h0 | h3
    · subst h0
      refine ⟨[], [], false, ?_⟩
      simp [wordsGo] at hw
      simp [f1, f2, f3, h'.1, h'.2, hs, hw, hn]
    · obtain ⟨w0, w1, w2, hw3, hl2⟩ := three s h3 o3
      have hsn : s ≠ [] := by rintro rfl; simp [wordsGo] at h3
      rw [hw3] at hw hd
      simp at hd hw
      obtain ⟨tk, lv, e⟩ := of_loop w0 w1 w2 hl2 op (digS 0 w1) w0 w2 0 false [] [] rfl (Nat.zero_le _) (Nat.zero_le _)
      by_cases hq : w2 = [63]
      · refine ⟨[], [], false, ?_⟩
        simp [f1, f2, f3, h'.1, h'.2, hs, hw, hn, hd, hw3, hsn, hq]
      · refine ⟨tk, lv, true, ?_⟩
        have hq' : (w2 == [63]) = false := by simpa using hq
        simp [f1, f2, f3, h'.1, h'.2, hs, hw, hn, hd, hw3, hsn, hq']
        simp only [K_bodkinref05_Of_0] at e
        simpa using e
  · have f1 : 0 ≤ op := by omega
    have f2 : ¬ op < 211 := by omega
    have f3 : IntKind.i64.wrap (op - 64768) = op - 64768 := wrap_i64 (by omega) (by omega)
    have f4 : 64512 ≤ op := by omega
    have f5 : ¬ op < 64530 := by omega
    rcases o4 with h0 | h3
    · subst h0
      refine ⟨[], [], false, ?_⟩
      simp [wordsGo] at hw
      simp [f1, f2, f3, f4, f5, h''.1, h''.2, hs, hw, hn]
    · obtain ⟨w0, w1, w2, hw3, hl2⟩ := three s h3 o3
      have hsn : s ≠ [] := by rintro rfl; simp [wordsGo] at h3
      rw [hw3] at hw hd
      simp at hd hw
      obtain ⟨tk, lv, e⟩ := of_loop w0 w1 w2 hl2 op (digS 0 w1) w0 w2 0 false [] [] rfl (Nat.zero_le _) (Nat.zero_le _)
      by_cases hq : w2 = [63]
      · refine ⟨[], [], false, ?_⟩
        simp [f1, f2, f3, f4, f5, h''.1, h''.2, hs, hw, hn, hd, hw3, hsn, hq]
      · refine ⟨tk, lv, true, ?_⟩
        have hq' : (w2 == [63]) = false := by simpa using hq
        simp [f1, f2, f3, f4, f5, h''.1, h''.2, hs, hw, hn, hd, hw3, hsn, hq']
        simp only [K_bodkinref05_Of_0] at e
        simpa using e
  · subst hs
    refine ⟨[], [], false, ?_⟩
    simp [wordsGo] at hw
    have q1 : (decide (0 ≤ op) && decide (op < 211)) = false := by simp; omega
    have q2 : (decide (64512 ≤ op) && decide (op < 64530)) = false := by simp; omega
    have q3 : (decide (64768 ≤ op) && decide (op < 65024)) = false := by simp; omega
    simp [q1, q2, q3, hw, hn]

noncomputable def takesS (op : Int) : List UInt8 := Classical.choose (of_ex op)
noncomputable def leavesS (op : Int) : List UInt8 := Classical.choose (Classical.choose_spec (of_ex op))
noncomputable def fixedS (op : Int) : Bool := Classical.choose (Classical.choose_spec (Classical.choose_spec (of_ex op)))
noncomputable def ofS (op : Int) : List Tr := if knownS op then rowR op (partS op 0) (immS op) (takesS op) (leavesS op) (fixedS op) else rowR (-1) [] 0 [] [] false
theorem c_Of (op : Int) (H : List AO) : doC fn_bodkinref05_Of [.t (.v (.int .i64 op))] H = some (.t (.agg (ofS op)), H) := Classical.choose_spec (Classical.choose_spec (Classical.choose_spec (of_ex op))) H
end Go.Proofs.YtgehpjjpeddomaaGreatDoor
