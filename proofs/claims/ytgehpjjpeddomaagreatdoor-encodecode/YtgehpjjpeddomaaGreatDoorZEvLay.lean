/- Parts, one behind the other; the last: From the checks by the kernel to the laid functions. -/
import Derived.Test.YtgehpjjpeddomaaGreatDoorZEvGc
set_option linter.all false
/- The evaluator is true to the model: calls, regions, code, functions. -/
namespace Go.Proofs.YtgehpjjpeddomaaGreatDoor
open Go Go.Lib

/-- The laid functions are the translation's. -/
structure FOk (L : Lay) (f : Nat) (af : AFun) (fn : Func) (c : Code) : Prop where
  get : L.P.funcs[f]? = some fn
  name : (fn.name == "runtime.NumGoroutine") = false
  body : fn.body = some c
  comp : comp L.P c = some (strip af.body)
  nil : af.body.nilOk L.P = true
  win : ∀ o ∈ af.win, ∀ e, o = some e → (zeroE L.P e).isSome = true
  res : compRes L.P fn.results.toList = some af.res
  np : fn.params.size + fn.nfree = af.np
  nt : fn.ntmps = af.nt

def LOk (L : Lay) : Prop := ∀ f af, L.F f = some af → ∃ fn c, FOk L f af fn c

/-- A meaning is true to the model. -/
def CallsOk (L : Lay) (C : Mean) : Prop := ∀ f as H b H', C f as H = some (b, H') → ∀ g w vs, SR L.P g w H → VRs L.P g w H as vs → GOk L g w H →
  Calls L.P f vs w fun
    | .returned v, w' => ∃ g', Stp L.P g w H g' w' H' ∧ VR L.P g' w' H' b v
    | _, _ => False

def AOp.isCall : AOp → Bool
  | .call _ _ => true
  | .callv _ _ => true
  | .callq _ _ => true
  | .buildq _ _ => true
  | _ => false

def isBq : AOp → Bool
  | .buildq _ _ => true
  | _ => false

def NC (x : Option AOp) : Prop := ∀ X, x = some X → X.isCall = false
theorem NC.none : NC none := fun _ h => by cases h
theorem NC.some {X : AOp} (h : X.isCall = false) : NC (some X) := fun Y h' => by injection h' with h'; rw [← h']; exact h
theorem NC.map {β : Type} {x : Option β} {F : β → AOp} (h : ∀ y, (F y).isCall = false) : NC (x.map F) := fun X hX => by
  obtain ⟨y, _, rfl⟩ := Option.map_eq_some_iff.1 hX
  exact h y
theorem NC.bind {β : Type} {x : Option β} {F : β → Option AOp} (h : ∀ y, NC (F y)) : NC (x.bind F) := fun X hX => by
  obtain ⟨y, _, h2⟩ := bind_some_iff.1 hX
  exact h y X h2

theorem unq_isCall {ao : AOp} (h : isBq ao = false) : (stripOp ao).unq.isCall = ao.isCall := by cases ao <;> first | rfl | cases h
theorem unq_plain {ao : AOp} (h : ao.isCall = false) : (stripOp ao).unq = stripOp ao := by cases ao <;> first | rfl | cases h
theorem unq_call {f : Nat} {as : List Opd} {ao : AOp} (h : AOp.call f as = (stripOp ao).unq) : ao = .call f as ∨ ao = .callq f as := by
  cases ao with
  | call f' as' => injection h with h1 h2; subst h1; subst h2; exact .inl rfl
  | callq f' as' => injection h with h1 h2; subst h1; subst h2; exact .inr rfl
  | _ => cases h
theorem unq_callv {x : Opd} {as : List Opd} {ao : AOp} (h : AOp.callv x as = (stripOp ao).unq) : ao = .callv x as := by
  cases ao with
  | callv f' as' => injection h with h1 h2; subst h1; subst h2; rfl
  | _ => cases h
theorem eqvH_sound {a b : List AO} (h : eqvH a b = true) : a = b := by
  unfold eqvH at h
  rw [Bool.or_eq_true] at h
  rcases h with h | h
  · exact heapFast_sound _ _ h
  · exact @of_decide_eq_true _ (Classical.propDecidable _) h
theorem quiet_sound {h : List AO} {x : Option (AV × List AO)} {p : AV × List AO} (hq : quiet h x = some p) : x = some p ∧ p.2 = h := by
  obtain ⟨q, h1, h2⟩ := bind_some_iff.1 hq
  split at h2
  · rename_i he
    injection h2 with h2
    have := eqvH_sound he
    subst h2
    rw [h1]
    exact ⟨by rw [← this], rfl⟩
  · cases h2

theorem strip_isCall (ao : AOp) : (stripOp ao).isCall = ao.isCall := by cases ao <;> rfl

section
variable {L : Lay} {C : Mean} {H : List AO} {ts : List AV}
theorem opC_plain {ao : AOp} (h : ao.isCall = false) : opC L C ts H ao = ao.run L ts H := by
  cases ao <;> first | rfl | cases h

theorem nc_op (P : Program) (op : Op) (h : ∀ cl, op ≠ .call cl) : NC (compOp P op) := by
  cases op with
  | call cl => exact absurd rfl (h cl)
  | makeFunc fn first cap => cases fn <;> (simp only [compOp]; repeat' first | exact NC.none | exact NC.some rfl | (refine NC.map fun _ => ?_; rfl) | refine NC.bind fun _ => ?_)
  | slice t x lo hi mx => cases mx <;> (simp only [compOp]; repeat' first | exact NC.none | exact NC.some rfl | (refine NC.map fun _ => ?_; rfl) | refine NC.bind fun _ => ?_ | split)
  | makeSlice t x y => cases x <;> cases y <;> (simp only [compOp]; repeat' first | exact NC.none | exact NC.some rfl | (refine NC.map fun _ => ?_; rfl) | refine NC.bind fun _ => ?_ | split)
  | next x q => cases q <;> (simp only [compOp]; repeat' first | exact NC.none | exact NC.some rfl | (refine NC.map fun _ => ?_; rfl))
  | _ => simp only [compOp]; repeat' first | exact NC.none | exact NC.some rfl | (refine NC.map fun _ => ?_; rfl) | refine NC.bind fun _ => ?_ | split

theorem nc_builtin (P : Program) (c : Call) {bi : Builtin} (h : c.callee = .builtin bi) : NC (compCall P c) := by
  unfold compCall
  rw [h]
  split
  case h_1 h => cases h
  case h_2 h => cases h
  all_goals repeat' first | exact NC.none | exact NC.some rfl | (refine NC.map fun _ => ?_; rfl) | refine NC.bind fun _ => ?_ | split
end

/-- The translation's operations hold no quiet calls. -/
theorem comp_unq {P : Program} {op : Op} {X : AOp} (h : compOp P op = some X) : X.unq = X := by
  by_cases hc : ∃ cl, op = .call cl
  · obtain ⟨cl, rfl⟩ := hc
    have h : compCall P cl = some X := h
    have h0 := h
    unfold compCall at h
    split at h
    · obtain ⟨as, _, rfl⟩ := Option.map_eq_some_iff.1 h; rfl
    · obtain ⟨x', _, h⟩ := bind_some_iff.1 h
      obtain ⟨as, _, rfl⟩ := Option.map_eq_some_iff.1 h; rfl
    all_goals
      have hnc : X.isCall = false := by
        first
          | exact nc_builtin _ _ (by assumption) _ h0
          | (cases h)
      cases X <;> first | rfl | cases hnc
  · have hnc := nc_op P op (fun cl e => hc ⟨cl, e⟩) X h
    cases X <;> first | rfl | cases hnc
theorem toq_unq {X : AOp} (h : X.unq = X) : X.toq.unq = X := by cases X <;> first | rfl | exact h

section
variable {L : Lay} {g g0 : Gh} {w w0 : World} {H H0 H' : List AO} {C : Mean}

theorem doCall_sound (hL : LOk L) (hC : CallsOk L C) {f : Nat} {as : List AV} {b : AV} (h : doCall L C f as H = some (b, H')) {vs : Array Value} (S : SR L.P g w H) (hv : VRs L.P g w H as vs) (hG : GOk L g w H) :
    (∃ fn, L.P.funcs[f]? = some fn ∧ (fn.name == "runtime.NumGoroutine") = false ∧ fn.body.isNone = false) ∧
    Calls L.P f vs w fun
      | .returned v, w' => ∃ g', Stp L.P g w H g' w' H' ∧ VR L.P g' w' H' b v
      | _, _ => False := by
  unfold doCall at h
  split at h
  case h_1 => cases h
  rename_i af hf
  obtain ⟨fn, c, F⟩ := hL f af hf
  refine ⟨⟨fn, F.get, F.name, by rw [F.body]; rfl⟩, ?_⟩
  obtain ⟨ids, h1, h⟩ := bind_some_iff.1 h
  obtain ⟨p, h2, h⟩ := bind_some_iff.1 h
  split at h
  case isFalse => cases h
  rename_i hlen
  injection h with h
  injection h with f1 f2
  obtain ⟨g1, T1, hr⟩ := coerce_sound as vs.toList af.win g H S hv.toRel F.win
  have hv1 := hr.toVRs
  simp only [Array.toArray_toList] at hv1
  obtain ⟨hn, hlt, hcl, hin, _⟩ := reach_spec _ _ _ _ _ h1 List.nodup_nil (by simp) (by simp)
  have hloc := hv1.emb (emb_loc g1 (coerce as af.win H).2 (ids := ids)) hin
  have hGl : GOk L (locG g1 ids) w (locH (coerce as af.win H).2 ids) := fun n cs hn => by
    have := ((hG n cs hn).ext T1.ext).emb (emb_loc g1 (coerce as af.win H).2 (ids := ids)) (by simp [refs])
    simpa [ren] using this
  have hc := hC f _ _ p.1 p.2 h2 (locG g1 ids) w vs (sr_loc T1.sr hn hlt hcl) hloc hGl
  refine hc.mono fun e w' he => ?_
  cases e with
  | returned v =>
    obtain ⟨g3, T3, hx⟩ := he
    have T := stp_back T1.sr hn hlt hcl T3
    have hx' := hx.emb (emb_back (g := g1) (g3 := g3) hn hlt hlen) fun _ _ => trivial
    rw [← f1, ← f2]
    exact ⟨_, T1.trans T, hx'⟩
  | panicked => exact he
  | outgrown => exact he

theorem VRs.append {as bs : List AV} {vs us : Array Value} (h : VRs L.P g w H as vs) (h' : VRs L.P g w H bs us) : VRs L.P g w H (as ++ bs) (vs ++ us) := by
  refine ⟨by simp [h.1, h'.1], fun i a v ha hv => ?_⟩
  rcases Nat.lt_or_ge i as.length with hi | hi
  · rw [List.getElem?_append_left hi] at ha
    rw [Array.getElem?_append_left (by rw [h.1]; exact hi)] at hv
    exact h.2 i a v ha hv
  · rw [List.getElem?_append_right hi] at ha
    rw [Array.getElem?_append_right (by rw [h.1]; exact hi), h.1] at hv
    exact h'.2 _ a v ha hv

theorem run_callFunc {f : Nat} {fn : Func} (hf : L.P.funcs[f]? = some fn) (hn : (fn.name == "runtime.NumGoroutine") = false) (hb : fn.body.isNone = false) (args : Array Value) (w : World) :
    (callFunc f args).run L.P w = .ok (.enter f args) w := by
  simp only [callFunc, Sem.run_bind, run_program, Result.andThen_ok, hf, hn, hb]
  rfl

theorem map_list {α β : Type} (f : α → β) (xs : Array α) : xs.map f = (xs.toList.map f).toArray := by cases xs; simp

/-- One operation, calls too. -/
theorem opC_sound0 (hL : LOk L) (hC : CallsOk L C) (S : SR L.P g w H) {ts : List AV} {a : Act} (hts : VRs L.P g w H ts a.tmps) (hG : GOk L g w H) {o : Oper} {ao : AOp} {b : AV} (hc : compOp L.P o.op = some (stripOp ao).unq) (hn : ao.nilOk L.P = true) (hbq : isBq ao = false)
    (hr : opC L C ts H ao = some (b, H')) {next : Act → World → Prop} {Q : Exit → Act → World → Prop} (hnext : ∀ v w' g', Stp L.P g w H g' w' H' → VR L.P g' w' H' b v → next (a.put o.dst v) w') : o.wp L.P a w next Q := by
  have plain : ao.isCall = false → ao.run L ts H = some (b, H') → o.wp L.P a w next Q := by
    intro hic h
    rw [unq_plain hic] at hc
    obtain ⟨nx, v, w', g', h1, h2, h3, h4⟩ := run_sound S hts hG hc hn h
    unfold Oper.wp
    rw [h1]
    rcases h2 with rfl | ⟨rfl, rfl⟩
    · exact hnext v w' g' h3 h4
    · exact hnext undef w' g' h3 h4
  have called : ∀ (f : Nat) (as : List AV) (vs : Array Value) (cl : Call), o.op = .call cl → VRs L.P g w H as vs → doCall L C f as H = some (b, H') →
      (∀ fn, L.P.funcs[f]? = some fn → (fn.name == "runtime.NumGoroutine") = false → fn.body.isNone = false → (execOp a.eval o).run L.P w = .ok (.enter f vs) w) → o.wp L.P a w next Q := by
    intro f as vs cl hop hv hd hrun
    obtain ⟨⟨fn, f1, f2, f3⟩, hcall⟩ := doCall_sound hL hC hd S hv hG
    unfold Oper.wp
    rw [hrun fn f1 f2 f3, Oper.upon_enter]
    refine hcall.mono fun e w' he => ?_
    cases e with
    | returned v =>
      obtain ⟨g', T, hx⟩ := he
      exact hnext v w' g' T hx
    | panicked => exact he.elim
    | outgrown => exact he.elim
  cases hop : o.op with
  | call cl =>
    rw [hop] at hc
    have hc : compCall L.P cl = some (stripOp ao).unq := hc
    have hc0 := hc
    have hex : execOp a.eval o = (do let d ← resolve a.eval cl o.type; invoke d.target d.args) := by simp only [execOp, hop]
    unfold compCall at hc
    split at hc
    · rename_i f hcal
      obtain ⟨as, h1, hX⟩ := Option.map_eq_some_iff.1 hc
      have hr : doCall L C f (as.map (·.ev L ts)) H = some (b, H') := by
        rcases unq_call hX with rfl | rfl
        · exact hr
        · exact (quiet_sound hr).1
      have hv := opds_sound hts hG h1
      have em : cl.args.map a.eval = (cl.args.toList.map a.eval).toArray := map_list _ _
      refine called f _ _ cl hop hv hr fun fn q1 q2 q3 => ?_
      rw [hex]
      simp only [resolve, hcal, Sem.run_bind, Act.eval, Deferred.ofValue, Sem.run_pure, Result.andThen_ok, invoke, em, List.append_toArray, List.nil_append, List.append_nil]
      have := run_callFunc q1 q2 q3 (cl.args.toList.map a.eval).toArray w
      exact this
    · rename_i x hx hcal
      obtain ⟨x', h0, hc⟩ := bind_some_iff.1 hc
      obtain ⟨as, h1, hX⟩ := Option.map_eq_some_iff.1 hc
      have := unq_callv hX
      subst this
      have hv := opds_sound hts hG h1
      have em : cl.args.map a.eval = (cl.args.toList.map a.eval).toArray := map_list _ _
      have hclo := opd_sound hts hG h0
      simp only [opC] at hr
      generalize x'.ev L ts = y at hr hclo
      cases y with
      | clo f first cap =>
        generalize he : a.eval x = v at hclo
        cases hclo with
        | clo vs us k1 k2 k3 k4 =>
          refine called f _ (vs ++ (cl.args.toList.map a.eval).toArray ++ us) cl hop ((VRs.append ⟨k1, k3⟩ hv).append ⟨k2, k4⟩) hr fun fn q1 q2 q3 => ?_
          rw [hex]
          simp only [resolve, hcal, he, Sem.run_bind, Deferred.ofValue, Sem.run_pure, Result.andThen_ok, invoke, em]
          exact run_callFunc q1 q2 q3 _ w
      | _ => cases hr
    all_goals
      have hnc : NC (some (stripOp ao).unq) := by
        rw [← hc0]
        first
          | exact nc_builtin _ _ (by assumption)
          | (cases hc)
      have hic : ao.isCall = false := by rw [← unq_isCall hbq]; exact hnc _ rfl
      exact plain hic ((opC_plain hic).symm.trans hr)
  | _ =>
    rw [hop] at hc
    have hnc := nc_op L.P _ (by rw [← hop]; simp [hop]) _ hc
    have hic : ao.isCall = false := by rw [← unq_isCall hbq]; exact hnc
    exact plain hic ((opC_plain hic).symm.trans hr)

theorem fzL_fzC : ∀ {cs : List AV} {l : List Tr} (h : List AO), fzL cs = some l → fzC cs h = some (l, h)
  | [], l, h, hl => by injection hl with hl; subst hl; rfl
  | c :: r, l, h, hl => by
    cases c with
    | t x =>
      cases x with
      | v x =>
        obtain ⟨l', h1, rfl⟩ := Option.map_eq_some_iff.1 hl
        simp only [fzC, fzL_fzC h h1, Option.map_some]
      | sl x =>
        obtain ⟨l', h1, rfl⟩ := Option.map_eq_some_iff.1 hl
        simp only [fzC, fzL_fzC h h1, Option.map_some]
      | agg x => cases hl
    | nils =>
      obtain ⟨l', h1, rfl⟩ := Option.map_eq_some_iff.1 hl
      simp only [fzC, fzL_fzC h h1, Option.map_some]
    | _ => cases hl

theorem opC_sound (hL : LOk L) (hC : CallsOk L C) (S : SR L.P g w H) {ts : List AV} {a : Act} (hts : VRs L.P g w H ts a.tmps) (hG : GOk L g w H) {o : Oper} {ao : AOp} {b : AV} (hc : compOp L.P o.op = some (stripOp ao).unq) (hn : ao.nilOk L.P = true)
    (hr : opC L C ts H ao = some (b, H')) {next : Act → World → Prop} {Q : Exit → Act → World → Prop} (hnext : ∀ v w' g', Stp L.P g w H g' w' H' → VR L.P g' w' H' b v → next (a.put o.dst v) w') : o.wp L.P a w next Q := by
  cases hb : isBq ao with
  | false => exact opC_sound0 hL hC S hts hG hc hn hb hr hnext
  | true =>
    cases ao with
    | buildq z ps =>
      refine opC_sound0 hL hC S hts hG (ao := .build z ps) hc rfl rfl ?_ hnext
      simp only [opC, AOp.run] at hr ⊢
      obtain ⟨cs, h1, h2⟩ := bind_some_iff.1 hr
      obtain ⟨l, h3, h4⟩ := Option.map_eq_some_iff.1 h2
      rw [h1, Option.bind_some, fzL_fzC H h3]
      exact congrArg some h4
    | _ => cases hb
end
end Go.Proofs.YtgehpjjpeddomaaGreatDoor
/- The evaluator is true to the model: regions whose order is drawn, first part: what an operation looks at. -/
namespace Go.Proofs.YtgehpjjpeddomaaGreatDoor
open Go Go.Lib

theorem eqv_sound {a b : AV} (h : eqv a b = true) : a = b := by
  unfold eqv at h
  simp only [Bool.or_eq_true] at h
  rcases h with h | h
  · exact avFast_sound h
  · exact @of_decide_eq_true _ (Classical.propDecidable _) h

section
variable {L : Lay} {C : Mean} {T T' : List AV} {H : List AO}

theorem ssl_flat (A B : Option Nat) (s : ByteArray) (h : List AO) : (A.bind fun b => B.bind fun a => if a ≤ b ∧ b ≤ s.size then some (AV.t (.v (.string (s.extract a b))), h) else none) =
    (A.bind fun b => B.bind fun a => if a ≤ b ∧ b ≤ s.size then some (AV.t (.v (.string (s.extract a b))), ([] : List AO)) else none).map fun p => (p.1, h) := by
  cases A with
  | none => rfl
  | some b => cases B with
    | none => rfl
    | some a =>
      simp only [Option.bind_some]
      split <;> rfl

theorem run_flat {o : AOp} (hk : o.kind = 0) (h : List AO) : o.run L T h = (o.run L T []).map fun p => (p.1, h) := by
  cases o with
  | mv => rfl
  | pick c a b => simp only [AOp.run]; cases isB (c.ev L T) <;> rfl
  | bin op t x y => simp only [AOp.run]; cases binA L.P op t (x.ev L T) (y.ev L T) <;> rfl
  | isnil no x => simp only [AOp.run]; split <;> first | rfl | (split <;> rfl)
  | un op x => simp only [AOp.run]; cases flat1 L.P (Op.unary op) (x.ev L T) <;> rfl
  | conv s d x => simp only [AOp.run]; cases flat1 L.P (convert s d) (x.ev L T) <;> rfl
  | s2b e x => simp only [AOp.run]; split <;> rfl
  | buildq z ps =>
    simp only [AOp.run]
    cases fillC (z.map .t) (ps.map fun p => (p.1, p.2.1, p.2.2.ev L T)) with
    | none => rfl
    | some cs =>
      simp only [Option.bind_some]
      cases fzL cs <;> rfl
  | nilck x => simp only [AOp.run]; split <;> rfl
  | mkf => rfl
  | ssl x lo hi =>
    simp only [AOp.run]
    split
    · exact ssl_flat _ _ _ _
    · rfl
  | fadr off x => simp only [AOp.run]; split <;> rfl
  | fld off k x => simp only [AOp.run]; split <;> first | rfl | (cases takeT _ off k <;> rfl) | (cases takeC _ off k <;> rfl)
  | iarr n sz x i =>
    simp only [AOp.run]
    cases asNat? (i.ev L T) with
    | none => rfl
    | some j =>
      simp only [Option.bind_some]
      split
      · split <;> rfl
      · rfl
  | idx n sz k x i =>
    simp only [AOp.run]
    cases asNat? (i.ev L T) with
    | none => rfl
    | some j =>
      simp only [Option.bind_some]
      split
      · split
        · cases takeT _ (j * sz) k <;> rfl
        · rfl
      · rfl
  | idxs x i =>
    simp only [AOp.run]
    cases asNat? (i.ev L T) with
    | none => rfl
    | some j =>
      simp only [Option.bind_some]
      split
      · rename_i s _
        cases s.data.toList[j]? <;> rfl
      · rfl
  | extr x i =>
    simp only [AOp.run]
    split
    · rename_i xs _
      cases xs[i]? <;> rfl
    · rfl
  | len x => simp only [AOp.run]; cases lenS (x.ev L T) <;> rfl
  | lens x => simp only [AOp.run]; split <;> rfl
  | lenc => rfl
  | mx xs =>
    simp only [AOp.run]
    split
    · rename_i x y
      cases flat2 L.P Builtin.max2 (x.ev L T) (y.ev L T) <;> rfl
    · rfl
  | mn xs =>
    simp only [AOp.run]
    split
    · rename_i x y
      cases flat2 L.P Builtin.min2 (x.ev L T) (y.ev L T) <;> rfl
    · rfl
  | _ => cases hk

theorem kind_flat {o : AOp} (hk : o.kind = 0) : opC L C T H o = o.run L T H := by
  cases o <;> first | rfl | cases hk

theorem run_still {o : AOp} (hk : o.kind ≠ 2) {h : List AO} {p : AV × List AO} (hr : opC L C T h o = some p) : p.2 = h := by
  by_cases h0 : o.kind = 0
  · rw [kind_flat h0, run_flat h0] at hr
    obtain ⟨q, _, rfl⟩ := Option.map_eq_some_iff.1 hr
    rfl
  · cases o with
    | load k x =>
      obtain ⟨c, _, rfl⟩ := Option.map_eq_some_iff.1 hr
      rfl
    | b2s x =>
      obtain ⟨c, _, hr⟩ := bind_some_iff.1 hr
      obtain ⟨c, _, rfl⟩ := Option.map_eq_some_iff.1 hr
      rfl
    | callq f args => exact (quiet_sound hr).2
    | iadr e sz x i =>
      simp only [opC, AOp.run] at hr
      obtain ⟨j, _, hr⟩ := bind_some_iff.1 hr
      split at hr
      · obtain ⟨y, _, hr⟩ := bind_some_iff.1 hr
        split at hr
        · injection hr with hr; rw [← hr]
        · cases hr
      · split at hr
        · split at hr
          · split at hr
            · injection hr with hr; rw [← hr]
            · cases hr
          · cases hr
        · cases hr
      · cases hr
    | _ => first | exact absurd rfl h0 | exact absurd rfl hk

theorem ev_congr {x : Opd} (h : ∀ t ∈ x.temps, nth T t = nth T' t) : x.ev L T = x.ev L T' := by
  cases x with
  | t n => exact h n (by simp [Opd.temps])
  | _ => rfl

theorem evs_congr (xs : List Opd) (h : ∀ t ∈ xs.flatMap Opd.temps, nth T t = nth T' t) : (xs.map (·.ev L T)) = xs.map (·.ev L T') :=
  List.map_congr_left fun x hx => ev_congr fun t ht => h t (List.mem_flatMap.2 ⟨x, hx, ht⟩)

theorem opt_congr {lo : Option Opd} (h : ∀ t ∈ optTemps lo, nth T t = nth T' t) : ∀ x, lo = some x → x.ev L T = x.ev L T' := by
  rintro x rfl
  exact ev_congr (L := L) h

/-- The value of an operation is known by its operands. -/
theorem opC_congr {o : AOp} (h : ∀ t ∈ o.temps, nth T t = nth T' t) : opC L C T H o = opC L C T' H o := by
  cases o with
  | mv x => simp only [opC, AOp.run, ev_congr (L := L) h]
  | un op x => simp only [opC, AOp.run, ev_congr (L := L) h]
  | isnil no x => simp only [opC, AOp.run, ev_congr (L := L) h]
  | conv s d x => simp only [opC, AOp.run, ev_congr (L := L) h]
  | b2s x => simp only [opC, AOp.run, ev_congr (L := L) h]
  | s2b e x => simp only [opC, AOp.run, ev_congr (L := L) h]
  | box x => simp only [opC, AOp.run, ev_congr (L := L) h]
  | mksl e z b x => simp only [opC, AOp.run, ev_congr (L := L) h]
  | load k x => simp only [opC, AOp.run, ev_congr (L := L) h]
  | nilck x => simp only [opC, AOp.run, ev_congr (L := L) h]
  | fadr off x => simp only [opC, AOp.run, ev_congr (L := L) h]
  | fld off k x => simp only [opC, AOp.run, ev_congr (L := L) h]
  | extr x i => simp only [opC, AOp.run, ev_congr (L := L) h]
  | len x => simp only [opC, AOp.run, ev_congr (L := L) h]
  | lens x => simp only [opC, AOp.run, ev_congr (L := L) h]
  | rng x => simp only [opC, AOp.run, ev_congr (L := L) h]
  | nxt x => simp only [opC, AOp.run, ev_congr (L := L) h]
  | bin op t x y =>
    have hx := ev_congr (L := L) fun t ht => h t (List.mem_append_left _ ht)
    have hy := ev_congr (L := L) fun t ht => h t (List.mem_append_right _ ht)
    simp only [opC, AOp.run, hx, hy]
  | store n x y =>
    have hx := ev_congr (L := L) fun t ht => h t (List.mem_append_left _ ht)
    have hy := ev_congr (L := L) fun t ht => h t (List.mem_append_right _ ht)
    simp only [opC, AOp.run, hx, hy]
  | iadr e sz x y =>
    have hx := ev_congr (L := L) fun t ht => h t (List.mem_append_left _ ht)
    have hy := ev_congr (L := L) fun t ht => h t (List.mem_append_right _ ht)
    simp only [opC, AOp.run, hx, hy]
  | iarr n sz x y =>
    have hx := ev_congr (L := L) fun t ht => h t (List.mem_append_left _ ht)
    have hy := ev_congr (L := L) fun t ht => h t (List.mem_append_right _ ht)
    simp only [opC, AOp.run, hx, hy]
  | idx n sz k x y =>
    have hx := ev_congr (L := L) fun t ht => h t (List.mem_append_left _ ht)
    have hy := ev_congr (L := L) fun t ht => h t (List.mem_append_right _ ht)
    simp only [opC, AOp.run, hx, hy]
  | idxs x y =>
    have hx := ev_congr (L := L) fun t ht => h t (List.mem_append_left _ ht)
    have hy := ev_congr (L := L) fun t ht => h t (List.mem_append_right _ ht)
    simp only [opC, AOp.run, hx, hy]
  | app e sz b x y =>
    have hx := ev_congr (L := L) fun t ht => h t (List.mem_append_left _ ht)
    have hy := ev_congr (L := L) fun t ht => h t (List.mem_append_right _ ht)
    simp only [opC, AOp.run, hx, hy]
  | apps e x y =>
    have hx := ev_congr (L := L) fun t ht => h t (List.mem_append_left _ ht)
    have hy := ev_congr (L := L) fun t ht => h t (List.mem_append_right _ ht)
    simp only [opC, AOp.run, hx, hy]
  | nil e => rfl
  | alloc z => rfl
  | lenc n => rfl
  | pick c x y =>
    have hc := ev_congr (L := L) fun t ht => h t (List.mem_append_left _ (List.mem_append_left _ ht))
    have hx := ev_congr (L := L) fun t ht => h t (List.mem_append_left _ (List.mem_append_right _ ht))
    have hy := ev_congr (L := L) fun t ht => h t (List.mem_append_right _ ht)
    simp only [opC, AOp.run, hc, hx, hy]
  | mx xs =>
    simp only [opC, AOp.run]
    match xs, h with
    | [], h => rfl
    | [x], h => rfl
    | [x, y], h =>
      have hx : x.ev L T = x.ev L T' := ev_congr fun t ht => h t (by simp [AOp.temps, ht])
      have hy : y.ev L T = y.ev L T' := ev_congr fun t ht => h t (by simp [AOp.temps, ht])
      simp only [hx, hy]
    | x :: y :: z :: r, h => rfl
  | mn xs =>
    simp only [opC, AOp.run]
    match xs, h with
    | [], h => rfl
    | [x], h => rfl
    | [x, y], h =>
      have hx : x.ev L T = x.ev L T' := ev_congr fun t ht => h t (by simp [AOp.temps, ht])
      have hy : y.ev L T = y.ev L T' := ev_congr fun t ht => h t (by simp [AOp.temps, ht])
      simp only [hx, hy]
    | x :: y :: z :: r, h => rfl
  | mkf f a b =>
    have ha := evs_congr (L := L) a fun t ht => h t (List.mem_append_left _ ht)
    have hb := evs_congr (L := L) b fun t ht => h t (List.mem_append_right _ ht)
    simp only [opC, AOp.run, ha, hb]
  | call f args =>
    simp only [opC, evs_congr (L := L) args h]
  | callq f args =>
    simp only [opC, evs_congr (L := L) args h]
  | callv x args =>
    have hx := ev_congr (L := L) fun t ht => h t (List.mem_append_left _ ht)
    have ha := evs_congr (L := L) args fun t ht => h t (List.mem_append_right _ ht)
    simp only [opC, hx, ha]
  | build z ps =>
    have : (ps.map fun p => (p.1, p.2.1, p.2.2.ev L T)) = ps.map fun p => (p.1, p.2.1, p.2.2.ev L T') :=
      List.map_congr_left fun p hp => by rw [ev_congr (L := L) fun t ht => h t (List.mem_flatMap.2 ⟨p, hp, ht⟩)]
    simp only [opC, AOp.run, this]
  | buildq z ps =>
    have : (ps.map fun p => (p.1, p.2.1, p.2.2.ev L T)) = ps.map fun p => (p.1, p.2.1, p.2.2.ev L T') :=
      List.map_congr_left fun p hp => by rw [ev_congr (L := L) fun t ht => h t (List.mem_flatMap.2 ⟨p, hp, ht⟩)]
    simp only [opC, AOp.run, this]
  | bslice e z cnt ps =>
    have : (ps.map fun p => p.2.ev L T) = ps.map fun p => p.2.ev L T' :=
      List.map_congr_left fun p hp => ev_congr (L := L) fun t ht => h t (List.mem_flatMap.2 ⟨p, hp, ht⟩)
    simp only [opC, AOp.run, this]
  | ssl x lo hi =>
    have hx := ev_congr (L := L) fun t ht => h t (List.mem_append_left _ (List.mem_append_left _ ht))
    have hl := opt_congr (L := L) (lo := lo) fun t ht => h t (List.mem_append_left _ (List.mem_append_right _ ht))
    have hh := opt_congr (L := L) (lo := hi) fun t ht => h t (List.mem_append_right _ ht)
    clear h
    match lo, hi, hl, hh with
    | none, none, _, _ => simp only [opC, AOp.run, hx]
    | some l, none, hl, _ => simp only [opC, AOp.run, hx, hl l rfl]
    | none, some r, _, hh => simp only [opC, AOp.run, hx, hh r rfl]
    | some l, some r, hl, hh => simp only [opC, AOp.run, hx, hl l rfl, hh r rfl]
  | sl s c x lo hi =>
    have hx := ev_congr (L := L) fun t ht => h t (List.mem_append_left _ (List.mem_append_left _ ht))
    have hl := opt_congr (L := L) (lo := lo) fun t ht => h t (List.mem_append_left _ (List.mem_append_right _ ht))
    have hh := opt_congr (L := L) (lo := hi) fun t ht => h t (List.mem_append_right _ ht)
    clear h
    match lo, hi, hl, hh with
    | none, none, _, _ => simp only [opC, AOp.run, hx]
    | some l, none, hl, _ => simp only [opC, AOp.run, hx, hl l rfl]
    | none, some r, _, hh => simp only [opC, AOp.run, hx, hh r rfl]
    | some l, some r, hl, hh => simp only [opC, AOp.run, hx, hl l rfl, hh r rfl]

theorem guard_congr {o : AOr} (h : ∀ t ∈ o.temps, nth T t = nth T' t) : guardOf T o.grd = guardOf T' o.grd := by
  cases hg : o.grd with
  | none => rfl
  | some p =>
    obtain ⟨t, q⟩ := p
    simp only [guardOf]
    rw [h t (by simp [AOr.temps, hg])]
end
end Go.Proofs.YtgehpjjpeddomaaGreatDoor
/- The evaluator is true to the model: regions whose order is drawn, second part: every order comes to the same. -/
namespace Go.Proofs.YtgehpjjpeddomaaGreatDoor
open Go Go.Lib

theorem mask_fold (acc : List Nat) : ∀ (es : List Edge) (s i : Nat), (es.foldl (fun s e => match Region.binds .any e with
  | true => s ||| 2 ^ e.on ||| acc.getD e.on 0
  | false => s) s).testBit i = true → s.testBit i = true ∨ ∃ e ∈ es, Region.binds .any e = true ∧ (e.on = i ∨ (acc.getD e.on 0).testBit i = true)
  | [], s, i, h => .inl h
  | e :: es, s, i, h => by
    rw [List.foldl_cons] at h
    rcases mask_fold acc es _ i h with h | ⟨e', he, hb, h⟩
    · split at h
      · rename_i hb
        rw [Nat.testBit_or, Nat.testBit_or, Bool.or_eq_true, Bool.or_eq_true] at h
        rcases h with (h | h) | h
        · exact .inl h
        · rw [Nat.testBit_two_pow] at h
          exact .inr ⟨e, by simp, hb, .inl (by simpa using h)⟩
        · exact .inr ⟨e, by simp, hb, .inr h⟩
      · exact .inl h
    · exact .inr ⟨e', by simp [he], hb, h⟩

/-- What the bits of a mask say: it lies in every set that is closed under the edges. -/
theorem masks_spec (E : Nat → Prop) : ∀ (r : List Oper) (acc : List Nat), (∀ j, j < acc.length → E j → ∀ i, (acc.getD j 0).testBit i = true → E i) →
    (∀ m o, r[m]? = some o → E (acc.length + m) → ∀ e ∈ o.after, Region.binds .any e = true → E e.on) → ∀ j, E j → j < acc.length + r.length → ∀ i, ((masksGo r acc).getD j 0).testBit i = true → E i
  | [], acc, h1, _, j, hj, hlt, i, hi => h1 j (by simpa using hlt) hj i hi
  | o :: r, acc, h1, h2, j, hj, hlt, i, hi => by
    unfold masksGo at hi
    refine masks_spec E r (acc ++ [maskOf acc o]) (fun q hq hE p hp => ?_) (fun m o' hm hE => ?_) j hj (by simp at hlt ⊢; omega) i hi
    · rcases Nat.lt_or_ge q acc.length with h | h
      · rw [List.getD_eq_getElem?_getD, List.getElem?_append_left h, ← List.getD_eq_getElem?_getD] at hp
        exact h1 q h hE p hp
      · have hq' : q = acc.length := by simp at hq; omega
        subst hq'
        rw [List.getD_eq_getElem?_getD, List.getElem?_append_right (Nat.le_refl _)] at hp
        simp only [Nat.sub_self, List.getElem?_cons_zero, Option.getD_some] at hp
        have hE0 := h2 0 o rfl hE
        rcases mask_fold acc o.after.toList 0 p hp with h | ⟨e, he, hb, h⟩
        · simp at h
        · have hEe := hE0 e (by simpa using he) hb
          rcases h with rfl | h
          · exact hEe
          · rcases Nat.lt_or_ge e.on acc.length with h' | h'
            · exact h1 e.on h' hEe p h
            · rw [List.getD_eq_getElem?_getD, List.getElem?_eq_none h'] at h
              simp at h
    · exact h2 (m + 1) o' (by simpa using hm) (by simpa [Nat.add_assoc, Nat.add_comm 1 m] using hE)

theorem countP_upd {p p' : Nat → Bool} {i : Nat} (h1 : p i = false) (h2 : p' i = true) (h3 : ∀ j, j ≠ i → p' j = p j) : ∀ (l : List Nat), l.Nodup → i ∈ l → l.countP p' = l.countP p + 1
  | [], _, hi => by simp at hi
  | j :: l, hn, hi => by
    rw [List.countP_cons, List.countP_cons]
    rcases List.mem_cons.1 hi with rfl | hi
    · rw [h1, h2]
      have : l.countP p' = l.countP p := List.countP_congr fun q hq => by
        have : q ≠ i := fun e => (List.nodup_cons.1 hn).1 (by rw [← e]; exact hq)
        rw [h3 q this]
      simp [this]
    · have hne : j ≠ i := fun e => (List.nodup_cons.1 hn).1 (by rw [e]; exact hi)
      rw [h3 j hne, countP_upd h1 h2 h3 l (List.nodup_cons.1 hn).2 hi]
      omega

theorem curOf_cons (o : AOr) (l : List AOr) (i : Nat) : curOf (o :: l) (i + 1) = (if o.op.kind = 2 then 1 else 0) + curOf l i := by
  unfold curOf
  rw [List.range_succ_eq_map, List.countP_cons, List.countP_map, Nat.add_comm]
  congr 1
  · simp [isCh]
  
theorem curOf_succ (l : List AOr) (i : Nat) : curOf l (i + 1) = curOf l i + (if isCh l i = true then 1 else 0) := by
  unfold curOf
  rw [List.range_succ, List.countP_append]
  simp [List.countP_cons]

section
variable {L : Lay} {C : Mean}

theorem altC_get {ts : List AV} {o : AOp} {v : AV} : ∀ {hs : List (List AO)}, altC L C ts o v hs = true → ∀ h ∈ hs, ∃ p, opC L C ts h o = some p ∧ p.1 = v
  | [], _, h, hh => by simp at hh
  | x :: r, ha, h, hh => by
    simp only [altC, Bool.and_eq_true] at ha
    rcases List.mem_cons.1 hh with rfl | hh
    · have h1 := ha.1
      split at h1
      · rename_i p hp
        exact ⟨p, hp, eqv_sound h1⟩
      · cases h1
    · exact altC_get ha.2 h hh

/-- The course of a region in its own order. -/
theorem opsD_spec : ∀ (l : List AOr) (dr : List (Nat × Nat)) (past : List (List AO)) (s : St) (r : St × List (List AO)), opsD L C dr l past s = some r →
    ∃ (st : Nat → St) (v : Nat → AV) (g : Nat → Bool), st 0 = s ∧ st l.length = r.1 ∧ (∀ i, i ≤ l.length → (past.reverse ++ s.h :: r.2)[past.length + curOf l i]? = some (st i).h) ∧
      ∀ i o, l[i]? = some o → guardOf (st i).t o.grd = some (g i) ∧ sel (g i) (opC L C (st i).t (st i).h o.op) (some (.tup [], (st i).h)) = some (v i, (st (i + 1)).h) ∧ (st (i + 1)).t = putO (st i).t o.dst (v i) ∧
        (g i = true → o.op.kind = 1 → ∀ k h, (past.reverse ++ s.h :: r.2)[k]? = some h → past.length + curOf l i ≤ k + (dr.getD i (0, 0)).1 → k ≤ past.length + curOf l i + (dr.getD i (0, 0)).2 → k ≠ past.length + curOf l i →
          ∃ p, opC L C (st i).t h o.op = some p ∧ p.1 = v i)
  | [], dr, past, s, r, h => by
    have : r = (s, []) := by
      cases dr <;> (injection h with h; exact h.symm)
    subst this
    refine ⟨fun _ => s, fun _ => .junk, fun _ => true, rfl, rfl, fun i hi => ?_, fun i o ho => by simp at ho⟩
    have : i = 0 := by simpa using hi
    subst this
    rw [List.getElem?_append_right (by simp)]
    simp [curOf]
  | o :: l, dr, past, s, r, h => by
    have e : opsD L C dr (o :: l) past s = ((guardOf s.t o.grd).bind fun g =>
      (sel g (opC L C s.t s.h o.op) (some (.tup [], s.h))).bind fun p =>
        (opsD L C dr.tail l (if o.op.kind = 2 then s.h :: past else past) ⟨putO s.t o.dst p.1, p.2⟩).bind fun q =>
          if sel g (altC L C s.t o.op p.1 (past.take (dr.headD (0, 0)).1 ++ q.2.take (dr.headD (0, 0)).2)) true = true then
            some (q.1, if o.op.kind = 2 then p.2 :: q.2 else q.2)
          else none) := by cases dr <;> rfl
    rw [e] at h
    obtain ⟨g0, h1, h⟩ := bind_some_iff.1 h
    obtain ⟨p, h2, h⟩ := bind_some_iff.1 h
    obtain ⟨q, h3, h⟩ := bind_some_iff.1 h
    split at h
    case isFalse => cases h
    rename_i halt
    injection h with h
    subst h
    obtain ⟨st, v, g, k1, k2, k3, k4⟩ := opsD_spec l dr.tail _ _ q h3
    have hstill : o.op.kind ≠ 2 → p.2 = s.h := by
      intro hk
      cases g0 with
      | false => injection h2 with h2; rw [← h2]
      | true =>
        have h2 : opC L C s.t s.h o.op = some p := h2
        exact run_still hk h2
    -- the row of heaps is the same
    have hall : ((if o.op.kind = 2 then s.h :: past else past).reverse ++ p.2 :: q.2) = past.reverse ++ s.h :: (if o.op.kind = 2 then p.2 :: q.2 else q.2) := by
      split
      · simp
      · rename_i hk; rw [hstill hk]
    have hlen : (if o.op.kind = 2 then s.h :: past else past).length = past.length + (if o.op.kind = 2 then 1 else 0) := by split <;> simp
    rw [hall, hlen] at k3 k4
    refine ⟨fun i => match i with | 0 => s | i + 1 => st i, fun i => match i with | 0 => p.1 | i + 1 => v i, fun i => match i with | 0 => g0 | i + 1 => g i, rfl, k2, fun i hi => ?_, fun i o' ho => ?_⟩
    · cases i with
      | zero => rw [List.getElem?_append_right (by simp)]; simp [curOf]
      | succ i =>
        rw [curOf_cons, ← Nat.add_assoc]
        exact k3 i (by simpa using hi)
    · cases i with
      | zero =>
        have : o = o' := by simpa using ho
        subst this
        refine ⟨h1, by rw [h2]; simp [k1], by simp [k1], fun hg hk k hp hkh hlo hhi hne => ?_⟩
        have hg : g0 = true := hg
        subst hg
        have hk2 : ¬ o.op.kind = 2 := by omega
        rw [if_neg hk2] at hkh
        refine altC_get halt hp ?_
        have hc0 : curOf (o :: l) 0 = 0 := rfl
        rw [hc0] at hlo hhi hne
        have hd : dr.getD 0 (0, 0) = dr.headD (0, 0) := by cases dr <;> rfl
        rw [hd] at hlo hhi
        rw [List.mem_append]
        rcases Nat.lt_or_ge k past.length with hlt | hge
        · left
          rw [List.getElem?_append_left (by simpa using hlt), List.getElem?_reverse hlt] at hkh
          refine List.mem_of_getElem? (i := past.length - 1 - k) ?_
          rw [List.getElem?_take, if_pos (by omega)]
          exact hkh
        · right
          rw [List.getElem?_append_right (by simpa using hge), List.length_reverse] at hkh
          obtain ⟨m, rfl⟩ : ∃ m, k = past.length + (m + 1) := ⟨k - past.length - 1, by omega⟩
          rw [show past.length + (m + 1) - past.length = m + 1 by omega, List.getElem?_cons_succ] at hkh
          refine List.mem_of_getElem? (i := m) ?_
          rw [List.getElem?_take, if_pos (by omega)]
          exact hkh
      | succ i =>
        obtain ⟨m1, m2, m3, m4⟩ := k4 i o' (by simpa using ho)
        refine ⟨m1, m2, m3, fun hg hk k h hkh hlo hhi hne => ?_⟩
        rw [curOf_cons, ← Nat.add_assoc] at hlo hhi hne
        have hd : dr.getD (i + 1) (0, 0) = dr.tail.getD i (0, 0) := by cases dr <;> simp
        rw [hd] at hlo hhi
        exact m4 hg hk k h hkh hlo hhi hne
end
end Go.Proofs.YtgehpjjpeddomaaGreatDoor
/- The evaluator is true to the model: regions whose order is drawn, third part: every order comes to the same. -/
namespace Go.Proofs.YtgehpjjpeddomaaGreatDoor
open Go Go.Lib

theorem drawInfo_some {mx : Bool} {ops : List Oper} {l : List AOr} {dr : List (Nat × Nat)} (h : drawInfo mx ops l = some dr) :
    l ≠ [] ∧ (∀ i o, ops[i]? = some o → ∀ e ∈ o.after, (Region.binds .any e = true → e.on < i) ∧ (Region.binds .any e = false → mx = true)) ∧ clashOk (masksGo ops []) l = true ∧
    dr = (List.range l.length).map fun i => if (l.getD i default).op.kind = 1 then (curOf l i - loOf (masksGo ops []) l i, hiOf (masksGo ops []) l i - curOf l i) else (0, 0) := by
  unfold drawInfo at h
  dsimp only at h
  split at h
  case isFalse => cases h
  rename_i hc
  injection h with h
  refine ⟨by rintro rfl; simp at hc, fun i o ho e he => ?_, hc.2.2, h.symm⟩
  have h1 := List.all_eq_true.1 hc.2.1 (o, i) (List.mem_of_getElem? (i := i) (by rw [List.getElem?_zipIdx, ho]; simp))
  have h2 := List.all_eq_true.1 h1 e (by simpa using he)
  constructor
  · intro hb; rw [hb] at h2; simpa using h2
  · intro hb; rw [hb] at h2; exact h2

section
variable {L : Lay} {g g0 : Gh} {w w0 : World} {H H0 H' : List AO} {C : Mean} {Q : Exit → Act → World → Prop}

theorem compOps_get {P : Program} {ops : Array Oper} : ∀ {ol : List Oper} {X : List AOr}, compOps P ops ol = some X → X.length = ol.length ∧ ∀ (i : Nat) (o : Oper), ol[i]? = some o → ∃ grd ao, X[i]? = some ⟨o.dst, grd, ao⟩ ∧ compGrd ops o.guard = some grd ∧ compOp P o.op = some ao
  | [], X, h => by injection h with h; subst h; exact ⟨rfl, fun i o h => by simp at h⟩
  | o :: r, X, h => by
    obtain ⟨grd, h1, h⟩ := bind_some_iff.1 h
    obtain ⟨ao, h2, h⟩ := bind_some_iff.1 h
    obtain ⟨Y, h3, h⟩ := Option.map_eq_some_iff.1 h
    subst h
    obtain ⟨e1, e2⟩ := compOps_get h3
    refine ⟨by simp [e1], fun i o' ho => ?_⟩
    cases i with
    | zero => simp at ho; subst ho; exact ⟨grd, ao, rfl, h1, h2⟩
    | succ i => exact e2 i o' (by simpa using ho)

theorem stp_drawn (T : Stp L.P g0 w0 H0 g w H) : Stp L.P g0 w0 H0 g { w with drawn := w.drawn + 1 } H := by
  have E : Ext L.P g w H g { w with drawn := w.drawn + 1 } H := ⟨fun _ => Nat.le_refl _, fun _ _ _ => rfl, Nat.le_refl _, fun _ cs h => ⟨⟨cs, h⟩, rfl⟩, fun _ _ p h => ⟨⟨p, h⟩, rfl⟩,
    fun _ _ ver xs m d h => ⟨ver, xs, m, d, h, Nat.le_refl _, fun _ => ⟨Nat.le_refl _, Nat.le_refl _, fun _ => rfl, fun _ _ _ _ hw => WinAt.mono (w := w) (w' := { w with drawn := w.drawn + 1 }) (fun _ => Nat.le_refl _) (fun _ _ _ => rfl) hw⟩⟩⟩
  refine T.trans ⟨T.sr.step E (fun r x hx => .inl ⟨hx, rfl, fun b _ => ⟨rfl, rfl⟩⟩) T.sr.disj T.sr.lt T.sr.new, E, rfl, rfl, rfl, Nat.le_refl _, fun b _ _ => ⟨rfl, rfl⟩, fun r b hr hb => .inr ⟨r, hr, hb⟩⟩

theorem nth_put (ts : List AV) (n m : Nat) (v : AV) : nth (put ts n v) m = if n = m ∧ m < ts.length then v else nth ts m := by
  rw [nth_get, nth_get, put_eq_set, List.getElem?_set]
  by_cases h : n = m
  · subst h
    by_cases h2 : n < ts.length
    · simp [h2]
    · simp [h2]
  · simp [h]

theorem putO_length (ts : List AV) (d : Option Nat) (v : AV) : (putO ts d v).length = ts.length := by
  cases d with
  | none => rfl
  | some n => simp [putO, put_eq_set]

theorem nth_ext {a b : List AV} (hl : a.length = b.length) (h : ∀ t, nth a t = nth b t) : a = b := by
  apply List.ext_getElem? 
  intro i
  have := h i
  rw [nth_get, nth_get] at this
  rcases Nat.lt_or_ge i a.length with hi | hi
  · rw [List.getElem?_eq_getElem hi, List.getElem?_eq_getElem (by omega)] at this ⊢
    simpa using this
  · rw [List.getElem?_eq_none hi, List.getElem?_eq_none (by omega)]

theorem exists_least0 {p : Nat → Prop} (h : ∃ n, p n) : ∃ n, p n ∧ ∀ m, p m → n ≤ m := by
  obtain ⟨n, hn⟩ := h
  induction n using Nat.strongRecOn with
  | _ n ih =>
    by_cases hm : ∃ m, m < n ∧ p m
    · obtain ⟨m, h1, h2⟩ := hm
      exact ih m h1 h2
    · refine ⟨n, hn, fun m h => ?_⟩
      rcases Nat.lt_or_ge m n with h' | h'
      · exact absurd ⟨m, h', h⟩ hm
      · exact h'

theorem strip_temps (o : AOp) : (stripOp o).temps = o.temps := by cases o <;> rfl

def stripR (o : AOr) : AOr := ⟨o.dst, o.grd, stripOp o.op⟩
def AOr.unq (o : AOr) : AOr := ⟨o.dst, o.grd, o.op.unq⟩

theorem getD_stripR (l : List AOr) {i : Nat} {o : AOr} (h : l[i]? = some o) : (l.map stripR).getD i default = stripR o := by
  rw [List.getD_eq_getElem?_getD, List.getElem?_map, h]; rfl

theorem clash_of {ms : List Nat} {l : List AOr} (h : clashOk ms l = true) {i j : Nat} (hij : i < j) (hj : j < l.length) (hc : (l.getD i default).clash (l.getD j default) = true) : (ms.getD j 0).testBit i = true := by
  have h1 := List.all_eq_true.1 h j (List.mem_range.2 hj)
  have h2 := List.all_eq_true.1 h1 i (List.mem_range.2 hij)
  rw [hc] at h2
  simpa using h2

theorem put_junk {ts : List AV} {tmps : Array Value} (h : VRs L.P g w H ts tmps) (n : Nat) : VRs L.P g w H (put ts n .junk) tmps := by
  rw [put_eq_set]
  refine ⟨by rw [List.length_set]; exact h.1, fun i a v ha hv => ?_⟩
  rw [List.getElem?_set] at ha
  split at ha
  · split at ha
    · injection ha with ha
      subst ha
      exact .junk v
    · cases ha
  · exact h.2 i a v ha hv

theorem killsGo_get (live : List Nat) : ∀ (ts : List AV) (k i : Nat), (killsGo live k ts)[i]? = (ts[i]?).map fun x => sel (live.contains (k + i)) x .junk
  | [], k, i => rfl
  | x :: xs, k, 0 => rfl
  | x :: xs, k, i + 1 => by
    show (killsGo live (k + 1) xs)[i]? = _
    rw [killsGo_get live xs (k + 1) i, show k + 1 + i = k + (i + 1) by omega]
    rfl
theorem killsGo_length (live : List Nat) : ∀ (ts : List AV) (k : Nat), (killsGo live k ts).length = ts.length
  | [], _ => rfl
  | x :: xs, k => by simp [killsGo, killsGo_length live xs (k + 1)]
theorem kills_sound (l : List Nat) {ts : List AV} {tmps : Array Value} (h : VRs L.P g w H ts tmps) : VRs L.P g w H (kills ts l) tmps := by
  refine ⟨by rw [kills, killsGo_length]; exact h.1, fun i a v ha hv => ?_⟩
  rw [kills, killsGo_get] at ha
  obtain ⟨x, h1, rfl⟩ := Option.map_eq_some_iff.1 ha
  cases l.contains (0 + i) with
  | true => exact h.2 i x v h1 hv
  | false => exact .junk v

theorem putO_sound {ts : List AV} {a : Act} (h : VRs L.P g w H ts a.tmps) (d : Option Nat) {b : AV} {v : Value} (hv : VR L.P g w H b v) : VRs L.P g w H (putO ts d b) (a.put d v).tmps := by
  cases d with
  | none => exact h
  | some n => exact h.put n hv

theorem put_defers' (a : Act) (d : Option Nat) (v : Value) : (a.put d v).defers = a.defers := by cases d <;> rfl

theorem vr_undef {P : Program} : VR P g w H (.tup []) undef := .tup #[] rfl fun i a v h => by simp at h

theorem guard_sound {ops : Array Oper} {o : Oper} {grd : Option (Nat × Bool)} {ts : List AV} {a : Act} (hts : VRs L.P g w H ts a.tmps) (hc : compGrd ops o.guard = some grd) {q : Bool} (hg : guardOf ts grd = some q) :
    Region.wanted o (yielded ops a.tmps) = q := by
  unfold compGrd at hc
  split at hc
  · rename_i h
    injection hc with hc
    subst hc
    injection hg with hg
    subst hg
    simp [Region.wanted, h]
  · rename_i j want h
    split at hc
    · rename_i t ht
      injection hc with hc
      subst hc
      have hb0 := nth_sound hts t
      have hg : guardB (nth ts t) want = some q := hg
      unfold guardB at hg
      split at hg
      · rename_i ha
        injection hg with hg
        subst hg
        rw [ha] at hb0
        have hv : a.tmps.getD t undef = .tuple #[] := by
          generalize a.tmps.getD t undef = u at hb0
          cases hb0 with
          | tup vs h1 h2 =>
            have : vs = #[] := Array.eq_empty_of_size_eq_zero (by simpa using h1)
            rw [this]
        rw [Array.getD_eq_getD_getElem?] at hv
        simp only [Region.wanted, h, yielded, ht, Option.bind_some]
        cases hx : a.tmps[t]? with
        | none => rfl
        | some v => rw [hx] at hv; simp at hv; subst hv; rfl
      obtain ⟨b, h1, h2⟩ := Option.map_eq_some_iff.1 hg
      have hb := isB_sound h1 (nth_sound hts t)
      have hget : a.tmps[t]? = some (.bool b) := by
        rw [Array.getD_eq_getD_getElem?] at hb
        cases hx : a.tmps[t]? with
        | none => rw [hx] at hb; cases hb
        | some v => rw [hx] at hb; simp at hb; rw [hb]
      simp only [Region.wanted, h, yielded, ht, Option.bind_some, hget]
      rw [← h2]
      cases b <;> cases want <;> rfl
    · cases hc

theorem countP_below (q : Nat → Bool) : ∀ {n i : Nat}, i ≤ n → (List.range n).countP (fun c => q c && decide (c < i)) = (List.range i).countP q
  | 0, i, h => by
    have : i = 0 := by omega
    subst this; rfl
  | n + 1, i, h => by
    rw [List.range_succ, List.countP_append]
    rcases Nat.lt_or_ge n i with h1 | h1
    · have : i = n + 1 := by omega
      subst this
      rw [List.range_succ, List.countP_append]
      congr 1
      · exact List.countP_congr fun c hc => by have := List.mem_range.1 hc; simp; intro _; omega
      · simp [List.countP_cons]
    · rw [countP_below q h1]
      have : ¬ n < i := by omega
      simp [List.countP_cons, this]

theorem draw_any (hL : LOk L) (hC : CallsOk L C) (hG : GOk L g0 w0 H0) (ops : Array Oper) {l : List AOr} {dr : List (Nat × Nat)}
    (hc : compOps L.P ops ops.toList = some (l.map fun o => (stripR o).unq)) {mx : Bool} (hdi : drawInfo mx ops.toList (l.map stripR) = some dr)
    (hkd : ∀ o ∈ l, o.op.kind = (stripOp o.op).kind) (hn : (l.all fun o => o.op.nilOk L.P) = true) {s : St} {r : St × List (List AO)} (hr : opsD L C dr l [] s = some r)
    (hq : ∀ a' w' g', a'.defers = [] → Stp L.P g0 w0 H0 g' w' r.1.h → VRs L.P g' w' r.1.h r.1.t a'.tmps → Q .normal a' w') {g : Gh} {w : World} {a : Act} (T : Stp L.P g0 w0 H0 g w s.h) (hts : VRs L.P g w s.h s.t a.tmps) (hdf : a.defers = []) :
    wpAny L.P .any ops Q ops.size (Array.replicate ops.size false) a w := by
  obtain ⟨st, v, gd, k1, k2, k3, k4⟩ := opsD_spec l dr [] s r hr
  obtain ⟨d1, d2, d3, d4⟩ := drawInfo_some hdi
  obtain ⟨c1, c2⟩ := compOps_get hc
  have hln : l.length = ops.size := by rw [List.length_map, Array.length_toList] at c1; exact c1
  have hls : (l.map stripR).length = ops.size := by rw [List.length_map]; exact hln
  have hgl : ∀ i, i < ops.size → ∃ ao o, l[i]? = some ao ∧ ops[i]? = some o ∧ ops.toList[i]? = some o := fun i hi => ⟨l[i], ops[i], List.getElem?_eq_getElem (by omega), Array.getElem?_eq_getElem hi, by simp⟩
  have hch : ∀ i, isCh (l.map stripR) i = isCh l i := fun i => by
    unfold isCh
    rcases Nat.lt_or_ge i ops.size with hi | hi
    · obtain ⟨ao, o, h1, _⟩ := hgl i hi
      rw [getD_stripR l h1, List.getD_eq_getElem?_getD, h1]
      simp only [stripR, Option.getD_some]
      rw [← hkd ao (List.mem_of_getElem? h1)]
    · rw [List.getD_eq_getElem?_getD, List.getD_eq_getElem?_getD, List.getElem?_eq_none (by omega), List.getElem?_eq_none (by omega)]
  have hcur : ∀ i, curOf (l.map stripR) i = curOf l i := fun i => by
    unfold curOf
    exact List.countP_congr fun c _ => by rw [hch]
  simp only [List.reverse_nil, List.nil_append, List.length_nil, Nat.zero_add] at k3 k4
  -- what the masks say
  have hmask : ∀ (E : Nat → Prop), (∀ j o, ops[j]? = some o → E j → ∀ e ∈ o.after, Region.binds .any e = true → E e.on) → ∀ j, E j → j < ops.size → ∀ i, ((masksGo ops.toList []).getD j 0).testBit i = true → E i := by
    intro E hE j hj hlt i hi
    exact masks_spec E ops.toList [] (fun j hj => by simp at hj) (fun m o hm h => hE m o (by simpa using hm) (by simpa using h)) j hj (by simpa using hlt) i hi
  have hst : ∀ i, i ≤ ops.size → (st i).t.length = s.t.length := by
    intro i
    induction i with
    | zero => intro _; rw [k1]
    | succ i ih =>
      intro hi
      obtain ⟨ao, o, h1, _⟩ := hgl i (by omega)
      rw [(k4 i ao h1).2.2.1, putO_length]
      exact ih (by omega)
  -- a temp keeps what it holds where nothing writes it
  have hstab : ∀ t k i, k ≤ i → i ≤ ops.size → (∀ j, k ≤ j → j < i → (l.getD j default).dst ≠ some t) → nth (st i).t t = nth (st k).t t := by
    intro t k i hki
    induction hki with
    | refl => intro _ _; rfl
    | @step m hm ih =>
      intro hi hno
      obtain ⟨ao, o, h1, _⟩ := hgl m (by omega)
      rw [(k4 m ao h1).2.2.1, ← ih (by omega) fun j h2 h3 => hno j h2 (by omega)]
      have hd := hno m hm (by omega)
      rw [List.getD_eq_getElem?_getD, h1, Option.getD_some] at hd
      cases hdst : ao.dst with
      | none => rfl
      | some d =>
        simp only [putO]
        rw [nth_put, if_neg]
        rintro ⟨rfl, _⟩
        exact hd hdst
  -- clashes
  have hget : ∀ i, i < ops.size → (l.map stripR).getD i default = stripR (l.getD i default) := fun i hi => by
    obtain ⟨ao, o, h1, _⟩ := hgl i hi
    rw [getD_stripR l h1, List.getD_eq_getElem?_getD, h1]; rfl
  have htmp : ∀ x : AOr, (stripR x).temps = x.temps := fun x => by simp only [AOr.temps, stripR, strip_temps]
  have hbit : ∀ i j, i < j → j < ops.size → (stripR (l.getD i default)).clash (stripR (l.getD j default)) = true → ((masksGo ops.toList []).getD j 0).testBit i = true := fun i j hij hj h =>
    clash_of d3 hij (by rw [hls]; exact hj) (by rw [hget i (by omega), hget j hj]; exact h)
  have hcl1 : ∀ i j t, i < j → j < ops.size → (l.getD i default).dst = some t → t ∈ (l.getD j default).temps → ((masksGo ops.toList []).getD j 0).testBit i = true := fun i j t hij hj h1 h2 => hbit i j hij hj (by
    simp only [AOr.clash, htmp]
    simp only [stripR, h1, writesIn, Bool.or_eq_true]
    exact .inl (.inl (.inl (by simpa using h2))))
  have hcl2 : ∀ i j t, i < j → j < ops.size → (l.getD j default).dst = some t → t ∈ (l.getD i default).temps → ((masksGo ops.toList []).getD j 0).testBit i = true := fun i j t hij hj h1 h2 => hbit i j hij hj (by
    simp only [AOr.clash, htmp]
    simp only [stripR, h1, writesIn, Bool.or_eq_true]
    exact .inl (.inl (.inr (by simpa using h2))))
  have hcl3 : ∀ i j t, i < j → j < ops.size → (l.getD i default).dst = some t → (l.getD j default).dst = some t → ((masksGo ops.toList []).getD j 0).testBit i = true := fun i j t hij hj h1 h2 => hbit i j hij hj (by
    simp only [AOr.clash, htmp]
    simp only [stripR, h1, h2, writesIn, Bool.or_eq_true]
    exact .inl (.inr (by simp)))
  have hcl4 : ∀ i j, i < j → j < ops.size → isCh l i = true → isCh l j = true → ((masksGo ops.toList []).getD j 0).testBit i = true := fun i j hij hj h1 h2 => hbit i j hij hj (by
    have e1 := hch i
    have e2 := hch j
    unfold isCh at e1 e2 h1 h2
    rw [hget i (by omega), h1] at e1
    rw [hget j hj, h2] at e2
    simp only [AOr.clash, e1, e2, Bool.and_self, Bool.or_true])
  have main : ∀ (fuel : Nat) (listed : Array Bool) (T : List AV) (H : List AO) (g : Gh) (w : World) (a : Act), (List.range ops.size).countP (fun j => !listed.getD j true) = fuel → listed.size = ops.size →
      (∀ j o, ops[j]? = some o → listed.getD j true = true → ∀ e ∈ o.after, Region.binds .any e = true → listed.getD e.on true = true) →
      (∀ t i, i ≤ ops.size → (∀ j, j < ops.size → (l.getD j default).dst = some t → (listed.getD j true = true ↔ j < i)) → nth T t = nth (st i).t t) → T.length = s.t.length →
      (s.h :: r.2)[(List.range ops.size).countP fun c => isCh l c && listed.getD c true]? = some H → Stp L.P g0 w0 H0 g w H → VRs L.P g w H T a.tmps → a.defers = [] →
      wpAny L.P .any ops Q fuel listed a w := by
    intro fuel
    induction fuel with
    | zero =>
      intro listed T H g w a hf hsz hdown hit hlen hheap hT hv hd
      have hall : ∀ j, j < ops.size → listed.getD j true = true := fun j hj => by
        have := List.countP_eq_zero.1 hf j (List.mem_range.2 hj)
        simpa using this
      have hready : Region.ready .any ops listed = [] := by
        rw [List.eq_nil_iff_forall_not_mem]
        intro j hj
        obtain ⟨h1, o, h2, _⟩ := mem_ready.1 hj
        rw [hall j (Array.getElem?_eq_some_iff.1 h2).1] at h1
        cases h1
      have hTt : T = r.1.t := by
        rw [← k2, hln]
        refine nth_ext ?_ fun t => hit t ops.size (Nat.le_refl _) fun j hj _ => ⟨fun _ => hj, fun _ => hall j hj⟩
        rw [hst _ (Nat.le_refl _), hlen]
      have hHt : H = r.1.h := by
        have hcnt : ((List.range ops.size).countP fun c => isCh l c && listed.getD c true) = curOf l ops.size :=
          List.countP_congr fun c hcm => by rw [hall c (List.mem_range.1 hcm), Bool.and_true]
        rw [hcnt, k3 _ (by omega)] at hheap
        injection hheap with hheap
        rw [← hheap, ← k2, hln]
      subst hTt; subst hHt
      exact ⟨hready, hq a w g hd hT hv⟩
    | succ fuel ih =>
      intro listed T H g w a hf hsz hdown hit hlen hheap hT hv hd
      refine ⟨fun hno => ?_, fun i hi => ?_⟩
      · -- something is ready
        exfalso
        have hex : ∃ j, j < ops.size ∧ listed.getD j true = false := by
          have hpos : 0 < (List.range ops.size).countP (fun j => !listed.getD j true) := by omega
          obtain ⟨j, hj, h⟩ := List.countP_pos_iff.1 hpos
          exact ⟨j, List.mem_range.1 hj, by simpa using h⟩
        obtain ⟨j, ⟨hj, hjl⟩, hmin⟩ := exists_least0 hex
        obtain ⟨ao, o, h1, h2, h3⟩ := hgl j hj
        have : j ∈ Region.ready .any ops listed := mem_ready.2 ⟨hjl, o, h2, fun e he hb => by
          have hlt := (d2 j o h3 e he).1 hb
          rcases hb : listed.getD e.on true with _ | _
          · have := hmin e.on ⟨by omega, hb⟩; omega
          · rw [Array.getD_eq_getD_getElem?, Array.getElem?_eq_getElem (by omega)] at hb ⊢
            exact hb⟩
        rw [hno] at this
        cases this
      · obtain ⟨hil, o, ho, hpre⟩ := mem_ready.1 hi
        have hin : i < ops.size := (Array.getElem?_eq_some_iff.1 ho).1
        obtain ⟨ao, o', h1, h2, h3⟩ := hgl i hin
        have : o' = o := by rw [ho] at h2; injection h2 with h2; exact h2.symm
        subst this
        have hgi : l.getD i default = ao := by rw [List.getD_eq_getElem?_getD, h1]; rfl
        obtain ⟨grd, aop, x1, x2, x3⟩ := c2 i o' h3
        rw [List.getElem?_map, h1] at x1
        injection x1 with x1
        have y1 : ao.dst = o'.dst := congrArg AOr.dst x1
        have y2 : ao.grd = grd := congrArg AOr.grd x1
        have y3 : (stripOp ao.op).unq = aop := congrArg AOr.op x1
        have hpre' : ∀ e ∈ o'.after, Region.binds .any e = true → listed.getD e.on true = true := fun e he hbd => by
          have h5 := hpre e he hbd
          have h6 := (d2 i o' h3 e he).1 hbd
          rw [Array.getD_eq_getD_getElem?, Array.getElem?_eq_getElem (by omega)] at h5 ⊢
          exact h5
        have hb1 : ∀ j, ((masksGo ops.toList []).getD i 0).testBit j = true → j ≠ i → listed.getD j true = true := fun j hj hne => by
          have := hmask (fun q => listed.getD q true = true ∨ q = i) (fun q oq hq hE e he hbd => by
            rcases hE with hE | rfl
            · exact .inl (hdown q oq hq hE e he hbd)
            · rw [ho] at hq; injection hq with hq; subst hq
              exact .inl (hpre' e he hbd)) i (.inr rfl) hin j hj
          exact this.resolve_right hne
        have hb2 : ∀ j, j < ops.size → listed.getD j true = true → ((masksGo ops.toList []).getD j 0).testBit i = true → False := fun j hj hjl hbt => by
          have := hmask (fun q => listed.getD q true = true) hdown j hjl hj i hbt
          rw [hil] at this; cases this
        have hreads : ∀ t ∈ ao.temps, nth T t = nth (st i).t t := fun t ht => hit t i (by omega) fun j hj hd => by
          constructor
          · intro hjl
            rcases Nat.lt_trichotomy j i with h | h | h
            · exact h
            · subst h; rw [hil] at hjl; cases hjl
            · exact (hb2 j hj hjl (hcl2 i j t h hj hd (by rw [hgi]; exact ht))).elim
          · intro hji
            exact hb1 j (hcl1 j i t hji hin hd (by rw [hgi]; exact ht)) (by omega)
        obtain ⟨m1, m2, m3, m4⟩ := k4 i ao h1
        have hgrd : guardOf T ao.grd = some (gd i) := (guard_congr hreads).trans m1
        have hcg : ∀ H, opC L C T H ao.op = opC L C (st i).t H ao.op := fun H => opC_congr fun t ht => hreads t (by simp [AOr.temps, ht])
        have hchi : isCh l i = decide (ao.op.kind = 2) := by
          unfold isCh
          rw [hgi]
          by_cases hk : ao.op.kind = 2 <;> simp [hk]
        have hcuri := k3 i (by omega)
        -- the step, at this heap
        have hstep : ∃ Hn, sel (gd i) (opC L C T H ao.op) (some (.tup [], H)) = some (v i, Hn) ∧ (s.h :: r.2)[((List.range ops.size).countP fun c => isCh l c && listed.getD c true) + (if isCh l i = true then 1 else 0)]? = some Hn := by
          by_cases hk : ao.op.kind = 2
          · have hci : isCh l i = true := by rw [hchi]; simpa using hk
            have hcnt : ((List.range ops.size).countP fun c => isCh l c && listed.getD c true) = curOf l i := by
              rw [show curOf l i = (List.range i).countP (isCh l) from rfl, ← countP_below (isCh l) (show i ≤ ops.size by omega)]
              refine List.countP_congr fun c hc => ?_
              have hc := List.mem_range.1 hc
              simp only [Bool.and_eq_true, decide_eq_true_eq]
              constructor
              · rintro ⟨q1, q2⟩
                refine ⟨q1, ?_⟩
                rcases Nat.lt_trichotomy c i with h | h | h
                · exact h
                · subst h; rw [hil] at q2; cases q2
                · exact (hb2 c hc q2 (hcl4 i c h hc hci q1)).elim
              · rintro ⟨q1, q2⟩
                exact ⟨q1, hb1 c (hcl4 c i q2 hin q1 hci) (by omega)⟩
            rw [hcnt] at hheap ⊢
            rw [hcuri] at hheap
            injection hheap with hheap
            subst hheap
            refine ⟨(st (i + 1)).h, ?_, ?_⟩
            · rw [hcg]; exact m2
            · have := k3 (i + 1) (by omega)
              rw [curOf_succ] at this
              exact this
          · have hci : isCh l i = false := by rw [hchi]; simpa using hk
            refine ⟨H, ?_, by rw [hci]; exact hheap⟩
            cases hg : gd i with
            | false =>
              rw [hg] at m2
              injection m2 with m2
              injection m2 with m2 _
              rw [← m2]; rfl
            | true =>
              rw [hg] at m2
              have m2 : opC L C (st i).t (st i).h ao.op = some (v i, (st (i + 1)).h) := m2
              show opC L C T H ao.op = some (v i, H)
              rw [hcg]
              by_cases heq : ((List.range ops.size).countP fun c => isCh l c && listed.getD c true) = curOf l i
              · rw [heq, hcuri] at hheap
                injection hheap with hheap
                subst hheap
                rw [m2]
                have := run_still hk m2
                dsimp only at this
                rw [this]
              · by_cases hk0 : ao.op.kind = 0
                · rw [kind_flat hk0, run_flat hk0] at m2 ⊢
                  obtain ⟨q, q1, q2⟩ := Option.map_eq_some_iff.1 m2
                  injection q2 with q2 _
                  rw [q1, ← q2]; rfl
                · have hk1 : ao.op.kind = 1 := by
                    have : ∀ o : AOp, o.kind = 0 ∨ o.kind = 1 ∨ o.kind = 2 := fun o => by cases o <;> simp [AOp.kind]
                    rcases this ao.op with h | h | h
                    · exact absurd h hk0
                    · exact h
                    · exact absurd h hk
                  have hdr : dr.getD i (0, 0) = (curOf l i - loOf (masksGo ops.toList []) (l.map stripR) i, hiOf (masksGo ops.toList []) (l.map stripR) i - curOf l i) := by
                    rw [d4, List.getD_eq_getElem?_getD, List.getElem?_map, List.getElem?_range (by rw [hls]; exact hin)]
                    simp only [Option.map_some, Option.getD_some]
                    rw [hget i hin, hgi, if_pos (by simp only [stripR]; rw [← hkd ao (List.mem_of_getElem? h1)]; exact hk1), hcur]
                  have hlo : loOf (masksGo ops.toList []) (l.map stripR) i ≤ (List.range ops.size).countP fun c => isCh l c && listed.getD c true := by
                    unfold loOf
                    rw [hls]
                    refine List.countP_mono_left fun c hc h => ?_
                    rw [hch, Bool.and_eq_true] at h
                    rw [Bool.and_eq_true]
                    refine ⟨h.1, hb1 c h.2 ?_⟩
                    rintro rfl
                    rw [hci] at h; cases h.1
                  have hhi : ((List.range ops.size).countP fun c => isCh l c && listed.getD c true) ≤ hiOf (masksGo ops.toList []) (l.map stripR) i := by
                    unfold hiOf
                    rw [hls]
                    refine List.countP_mono_left fun c hc h => ?_
                    rw [Bool.and_eq_true] at h
                    rw [hch, Bool.and_eq_true]
                    refine ⟨h.1, ?_⟩
                    rcases hbt : ((masksGo ops.toList []).getD c 0).testBit i with _ | _
                    · rfl
                    · exact (hb2 c (List.mem_range.1 hc) h.2 hbt).elim
                  obtain ⟨p, p1, p2⟩ := m4 hg hk1 _ H hheap (by rw [hdr]; dsimp only; omega) (by rw [hdr]; dsimp only; omega) heq
                  rw [p1]
                  have p3 := run_still hk p1
                  obtain ⟨pa, pb⟩ := p
                  dsimp only at p2 p3
                  rw [p2, p3]
        obtain ⟨Hn, hs1, hs2⟩ := hstep
        -- what is so behind it
        have hset : ∀ j, (listed.setIfInBounds i true).getD j true = (if j = i then true else listed.getD j true) := fun j => by
          split
          · rename_i h; subst h
            rw [Array.getD_eq_getD_getElem?, Array.getElem?_setIfInBounds_self_of_lt (by omega)]; rfl
          · rename_i h; exact getD_set_ne true (fun e => h e.symm)
        have next : ∀ (g' : Gh) (w' : World) (a' : Act), Stp L.P g0 w0 H0 g' w' Hn → VRs L.P g' w' Hn (putO T ao.dst (v i)) a'.tmps → a'.defers = [] → wpAny L.P .any ops Q fuel (listed.setIfInBounds i true) a' w' := by
          intro g' w' a' hT' hv' hd'
          refine ih _ (putO T ao.dst (v i)) Hn g' w' a' ?_ (by rw [Array.size_setIfInBounds]; exact hsz) (fun j oj hj hE e he hbd => ?_) (fun t q hqn hw => ?_) (by rw [putO_length]; exact hlen) ?_ hT' hv' hd'
          · have := countP_upd (p := fun j => !(listed.setIfInBounds i true).getD j true) (p' := fun j => !listed.getD j true) (i := i) (by rw [hset]; simp) (by rw [hil]; rfl) (fun j hj => by rw [hset, if_neg hj]) (List.range ops.size) List.nodup_range (List.mem_range.2 hin)
            omega
          · rw [hset]
            split
            · rfl
            · rw [hset] at hE
              split at hE
              · rename_i h; subst h
                rw [ho] at hj; injection hj with hj; subst hj
                exact hpre' e he hbd
              · exact hdown j oj hj hE e he hbd
          · by_cases ht : ao.dst = some t
            · have hiq : i < q := (hw i hin (by rw [hgi]; exact ht)).1 (by rw [hset, if_pos rfl])
              rw [hstab t (i + 1) q hiq hqn fun j hj1 hj2 hd => ?_]
              · rw [m3, ht]
                simp only [putO]
                rw [nth_put, nth_put, hlen, hst i (by omega)]
                by_cases hlt : t < s.t.length
                · rw [if_pos ⟨rfl, hlt⟩, if_pos ⟨rfl, hlt⟩]
                · rw [if_neg (by omega), if_neg (by omega), nth_get, nth_get, List.getElem?_eq_none (by omega), List.getElem?_eq_none (by rw [hst i (by omega)]; omega)]
              · have hjl := (hw j (by omega) hd).2 hj2
                rw [hset, if_neg (by omega)] at hjl
                exact hb2 j (by omega) hjl (hcl3 i j t (by omega) (by omega) (by rw [hgi]; exact ht) hd)
            · have hsame : nth (putO T ao.dst (v i)) t = nth T t := by
                cases hdst : ao.dst with
                | none => rfl
                | some d =>
                  simp only [putO]
                  rw [nth_put, if_neg]
                  rintro ⟨rfl, _⟩
                  exact ht hdst
              rw [hsame]
              refine hit t q hqn fun j hj hd => ?_
              have hji : j ≠ i := by rintro rfl; rw [hgi] at hd; exact ht hd
              have := hw j hj hd
              rw [hset, if_neg hji] at this
              exact this
          · have hcnt : ((List.range ops.size).countP fun c => isCh l c && (listed.setIfInBounds i true).getD c true) = ((List.range ops.size).countP fun c => isCh l c && listed.getD c true) + (if isCh l i = true then 1 else 0) := by
              cases hci : isCh l i with
              | true =>
                rw [if_pos rfl]
                exact countP_upd (i := i) (by rw [hil]; simp) (by rw [hset, hci]; simp) (fun j hj => by rw [hset, if_neg hj]) (List.range ops.size) List.nodup_range (List.mem_range.2 hin)
              | false =>
                rw [if_neg (by simp), Nat.add_zero]
                refine List.countP_congr fun c _ => ?_
                rw [hset]
                split
                · rename_i h; subst h; rw [hci]; simp
                · rfl
            rw [hcnt]
            exact hs2
        unfold wpOp
        rw [ho]
        dsimp only
        have hwant := guard_sound (ops := ops) hv x2 (by rw [← y2]; exact hgrd)
        cases hg : gd i with
        | true =>
          rw [hwant, hg, if_pos rfl]
          rw [hg] at hs1
          have hs1 : opC L C T H ao.op = some (v i, Hn) := hs1
          refine .inl (opC_sound hL hC hT.sr hv (hG.ext hT.ext) (by rw [y3]; exact x3) (List.all_eq_true.1 hn ao (List.mem_of_getElem? h1)) hs1 fun v' w' g' T' hx => ?_)
          refine next g' w' _ (hT.trans T') ?_ (by rw [put_defers']; exact hd)
          rw [y1]
          exact putO_sound ⟨hv.1, fun q a v ha hvv => (hv.2 q a v ha hvv).ext T'.ext⟩ _ hx
        | false =>
          rw [hwant, hg]
          simp only [Bool.false_eq_true, if_false]
          rw [hg] at hs1
          injection hs1 with hs1
          injection hs1 with e1 e2
          subst e2
          refine next g w _ hT ?_ (by rw [put_defers']; exact hd)
          rw [y1, ← e1]
          exact putO_sound hv _ vr_undef
  refine main ops.size _ s.t s.h g w a ?_ (by simp) (fun j o ho hE e he hbd => ?_) (fun t i hi hw => ?_) rfl ?_ T hts hdf
  · have : ∀ j ∈ List.range ops.size, (!(Array.replicate ops.size false).getD j true) = true := fun j hj => by
      have := List.mem_range.1 hj
      simp [Array.getD_eq_getD_getElem?, this]
    have := List.countP_eq_length.2 this
    rw [this, List.length_range]
  · have hj := (Array.getElem?_eq_some_iff.1 ho).1
    simp [Array.getD_eq_getD_getElem?, hj] at hE
  · rw [hstab t 0 i (Nat.zero_le _) hi fun j _ hji hd => ?_, k1]
    have := (hw j (by omega) hd).2 hji
    have hj : j < ops.size := by omega
    simp [Array.getD_eq_getD_getElem?, hj] at this
  · have : ((List.range ops.size).countP fun c => isCh l c && (Array.replicate ops.size false).getD c true) = 0 := List.countP_eq_zero.2 fun c hc => by
      have := List.mem_range.1 hc
      simp [Array.getD_eq_getD_getElem?, this]
    rw [this]
    rfl
end
end Go.Proofs.YtgehpjjpeddomaaGreatDoor
/- The evaluator is true to the model: regions, code, functions. -/
namespace Go.Proofs.YtgehpjjpeddomaaGreatDoor
open Go Go.Lib

section
variable {L : Lay} {g g0 : Gh} {w w0 : World} {H H0 H' : List AO} {C : Mean} {Q : Exit → Act → World → Prop}

theorem ops_sound (hL : LOk L) (hC : CallsOk L C) (hG : GOk L g0 w0 H0) (ops : Array Oper) {s' : St} : ∀ (l : List Oper) (k : Nat) (as : List AOr), ops.toList.drop k = l → compOps L.P ops l = some (as.map fun o => ⟨o.dst, o.grd, stripOp o.op⟩) →
    (as.all fun o => o.op.nilOk L.P) = true → ∀ (s : St) (g : Gh) (w : World) (a : Act), opsC L C as s = some s' → Stp L.P g0 w0 H0 g w s.h → VRs L.P g w s.h s.t a.tmps → a.defers = [] →
    (∀ a' w' g', a'.defers = [] → Stp L.P g0 w0 H0 g' w' s'.h → VRs L.P g' w' s'.h s'.t a'.tmps → Q .normal a' w') → wpOps L.P ops Q (List.range' k l.length) a w
  | [], k, as, hd, hc, hn, s, g, w, a, hr, T, hts, hdf, hq => by
    injection hc with hc
    have : as = [] := by cases as with | nil => rfl | cons x y => cases hc
    subst this
    injection hr with hr
    subst hr
    exact hq a w g hdf T hts
  | o :: l, k, as, hd, hc, hn, s, g, w, a, hr, T, hts, hdf, hq => by
    have hk : ops[k]? = some o := by
      have := congrArg (fun x => x[0]?) hd
      simpa using this
    obtain ⟨grd, h1, hc⟩ := bind_some_iff.1 hc
    obtain ⟨X, h2, hc⟩ := bind_some_iff.1 hc
    obtain ⟨r, h3, hc⟩ := Option.map_eq_some_iff.1 hc
    cases as with
    | nil => cases hc
    | cons ao as =>
      obtain ⟨adst, agrd, aop⟩ := ao
      rw [List.map_cons] at hc
      injection hc with hc1 hc2
      injection hc1 with e1 e2 e3
      simp only at e1 e2 e3
      subst e1; subst e2; subst e3; subst hc2
      simp only [List.all_cons, Bool.and_eq_true] at hn
      obtain ⟨q, h4, hr1⟩ := bind_some_iff.1 hr
      obtain ⟨p, h5, hr2⟩ := bind_some_iff.1 hr1
      clear hr hr1
      rename _ => hr
      have hw := guard_sound hts h1 h4
      have ih := fun s g w a => ops_sound hL hC hG ops (s' := s') l (k + 1) as (by rw [← List.drop_drop, hd]; rfl) h3 hn.2 s g w a
      rw [List.length_cons, List.range'_succ]
      unfold wpOps
      rw [hk]
      dsimp only
      cases q with
      | false =>
        rw [hw]
        injection h5 with h5
        subst h5
        simp only [Bool.false_eq_true, if_false]
        exact ih _ g w _ hr T (putO_sound hts _ vr_undef) (by rw [put_defers']; exact hdf) hq
      | true =>
        rw [hw, if_pos rfl]
        refine .inl (opC_sound hL hC T.sr hts (hG.ext T.ext) (by rw [comp_unq h2]; exact h2) hn.1 h5 fun v w' g' T' hv => ?_)
        exact ih _ g' w' _ hr (T.trans T') (putO_sound ⟨hts.1, fun i a v ha hv => (hts.2 i a v ha hv).ext T'.ext⟩ _ hv) (by rw [put_defers']; exact hdf) hq

theorem compOps_unq {P : Program} {ops : Array Oper} {l : List Oper} {X : List AOr} (h : compOps P ops l = some X) : X.map AOr.unq = X := by
  obtain ⟨h1, h2⟩ := compOps_get h
  refine List.ext_getElem? fun i => ?_
  rw [List.getElem?_map]
  rcases Nat.lt_or_ge i l.length with hi | hi
  · obtain ⟨grd, ao, q1, _, q3⟩ := h2 i l[i] (List.getElem?_eq_getElem hi)
    rw [q1]
    simp only [Option.map_some, AOr.unq, comp_unq q3]
  · rw [List.getElem?_eq_none (by omega)]; rfl

theorem compOps_toq {P : Program} {ops : Array Oper} {l : List Oper} {X : List AOr} (h : compOps P ops l = some X) : (X.map AOr.toq).map AOr.unq = X := by
  obtain ⟨h1, h2⟩ := compOps_get h
  refine List.ext_getElem? fun i => ?_
  rw [List.getElem?_map, List.getElem?_map]
  rcases Nat.lt_or_ge i l.length with hi | hi
  · obtain ⟨grd, ao, q1, _, q3⟩ := h2 i l[i] (List.getElem?_eq_getElem hi)
    rw [q1]
    simp only [Option.map_some, AOr.unq, AOr.toq, toq_unq (comp_unq q3)]
  · rw [List.getElem?_eq_none (by omega)]; rfl

/-! ### loops -/
theorem exists_least {p : Nat → Prop} (h : ∃ n, p n) : ∃ n, p n ∧ ∀ m, p m → n ≤ m := by
  obtain ⟨n, hn⟩ := h
  induction n using Nat.strongRecOn with
  | _ n ih =>
    by_cases hm : ∃ m, m < n ∧ p m
    · obtain ⟨m, h1, h2⟩ := hm
      exact ih m h1 h2
    · refine ⟨n, hn, fun m h => ?_⟩
      rcases Nat.lt_or_ge m n with h' | h'
      · exact absurd ⟨m, h', h⟩ hm
      · exact h'

open Classical in
noncomputable def leastOf (p : Nat → Prop) : Nat := if h : ∃ n, p n then Classical.choose (exists_least h) else 0

theorem leastOf_spec {p : Nat → Prop} (h : ∃ n, p n) : p (leastOf p) ∧ ∀ m, p m → leastOf p ≤ m := by
  unfold leastOf
  rw [dif_pos h]
  exact Classical.choose_spec (exists_least h)

theorem wp_loop_fuel {P : Program} {c : Code} (R : Nat → Act → World → Prop) (hR : ∀ j a w, R j a w → c.wp P (Exit.then (fun a' w' => ∃ j', j' < j ∧ R j' a' w') Q) a w) {j : Nat} {a : Act} (h : R j a w) : (Code.loop c).wp P Q a w := by
  refine wp_loop (fun a w => ∃ j, R j a w) (fun a w => leastOf fun j => R j a w) ⟨j, h⟩ fun a w hI => ?_
  obtain ⟨h1, h2⟩ := leastOf_spec hI
  refine wp_mono (hR _ a w h1) fun e a' w' he => ?_
  cases e with
  | normal =>
    obtain ⟨j', h3, h4⟩ := he
    have := leastOf_spec (p := fun j => R j a' w') ⟨j', h4⟩
    exact ⟨⟨j', h4⟩, Nat.lt_of_le_of_lt (this.2 j' h4) h3⟩
  | _ => exact he

def ExOk : Ex → Exit → Prop
  | .norm, .normal => True
  | .exit i, .exit j => i = j
  | .ret, .ret => True
  | _, _ => False

/-- What is so behind a piece of code. -/
def Post (L : Lay) (g0 : Gh) (w0 : World) (H0 : List AO) (e : Ex) (s' : St) (e' : Exit) (a' : Act) (w' : World) : Prop :=
  ExOk e e' ∧ a'.defers = [] ∧ ∃ g', Stp L.P g0 w0 H0 g' w' s'.h ∧ VRs L.P g' w' s'.h s'.t a'.tmps

theorem post_norm {e : Ex} {s' : St} {a' : Act} {w' : World} (h : Post L g0 w0 H0 e s' .normal a' w') : e = .norm := by
  cases e with
  | norm => rfl
  | _ => exact h.1.elim

def AC.tag : AC → Nat
  | .skip => 0
  | .reg _ _ _ => 1
  | .seq _ _ => 2
  | .cond _ _ _ => 3
  | .block _ _ => 4
  | .loop _ => 5
  | .exit _ => 6
  | .ret => 7
  | .gc => 8

def codeTag : Code → Nat
  | .skip => 0
  | .region _ _ _ => 1
  | .seq _ _ => 2
  | .cond _ _ _ => 3
  | .block _ _ => 4
  | .loop _ => 5
  | .exit _ => 6
  | .ret => 7
  | _ => 9

theorem comp_tag {P : Program} {c : Code} {X : AC} (h : comp P c = some X) : X.tag = codeTag c := by
  cases c with
  | skip => injection h with h; subst h; rfl
  | exit => injection h with h; subst h; rfl
  | ret => injection h with h; subst h; rfl
  | region id ops d =>
    obtain ⟨_, _, h⟩ := bind_some_iff.1 h
    cases d with
    | true =>
      have h : drawn _ _ _ = some X := h
      unfold drawn at h
      split at h
      · injection h with h; subst h; rfl
      · obtain ⟨_, _, rfl⟩ := Option.map_eq_some_iff.1 h; rfl
    | false => injection h with h; subst h; rfl
  | seq a b => obtain ⟨_, _, h⟩ := bind_some_iff.1 h; obtain ⟨_, _, rfl⟩ := Option.map_eq_some_iff.1 h; rfl
  | cond c a b => obtain ⟨_, _, h⟩ := bind_some_iff.1 h; obtain ⟨_, _, h⟩ := bind_some_iff.1 h; obtain ⟨_, _, rfl⟩ := Option.map_eq_some_iff.1 h; rfl
  | block id a => obtain ⟨_, _, rfl⟩ := Option.map_eq_some_iff.1 h; rfl
  | loop a => obtain ⟨_, _, rfl⟩ := Option.map_eq_some_iff.1 h; rfl
  | _ => cases h

theorem strip_seq {a b : AC} (h : b ≠ .gc) : strip (.seq a b) = .seq (strip a) (strip b) := by
  cases b <;> first | rfl | exact absurd rfl h

theorem exec_sound (hL : LOk L) (hC : CallsOk L C) (hG : GOk L g0 w0 H0) (n : Nat) : ∀ (c : AC) (code : Code), comp L.P code = some (strip c) → c.nilOk L.P = true → ∀ (s : St) (e : Ex) (s' : St) (g : Gh) (w : World) (a : Act),
    execC L C n H0.length c s = some (e, s') → Stp L.P g0 w0 H0 g w s.h → VRs L.P g w s.h s.t a.tmps → a.defers = [] → code.wp L.P (Post L g0 w0 H0 e s') a w := by
  intro c
  induction c with
  | skip =>
    intro code hc hn s e s' g w a hr T hts hdf
    injection hr with hr
    injection hr with f1 f2
    subst f1; subst f2
    cases code with
    | skip => exact wp_skip ⟨trivial, hdf, g, T, hts⟩
    | _ => exact absurd (comp_tag hc) (by simp [strip, AC.tag, codeTag])
  | exit id =>
    intro code hc hn s e s' g w a hr T hts hdf
    injection hr with hr
    injection hr with f1 f2
    subst f1; subst f2
    cases code with
    | exit j =>
      injection hc with hc
      injection hc with hc
      subst hc
      exact wp_exit ⟨rfl, hdf, g, T, hts⟩
    | _ => exact absurd (comp_tag hc) (by simp [strip, AC.tag, codeTag])
  | ret =>
    intro code hc hn s e s' g w a hr T hts hdf
    injection hr with hr
    injection hr with f1 f2
    subst f1; subst f2
    cases code with
    | ret => exact wp_ret ⟨trivial, hdf, g, T, hts⟩
    | _ => exact absurd (comp_tag hc) (by simp [strip, AC.tag, codeTag])
  | gc =>
    intro code hc
    have := comp_tag hc
    cases code <;> simp [strip, AC.tag, codeTag] at this
  | reg d ops kl =>
    intro code hc hn s e s' g w a hr T hts hdf
    obtain ⟨s1, h1, h2⟩ := Option.map_eq_some_iff.1 hr
    injection h2 with f1 f2
    subst f1; subst f2
    cases code with
    | region id rops d' =>
      obtain ⟨l, h3, h4⟩ := bind_some_iff.1 hc
      simp only [AC.nilOk, Bool.and_eq_true] at hn
      cases d' with
      | false =>
        injection h4 with h4
        injection h4 with e1 e2
        subst e1
        refine wp_region ?_
        have := ops_sound (Q := Post L g0 w0 H0 .norm ⟨kills s1.t kl, s1.h⟩) hL hC hG rops rops.toList 0 ops rfl (by rw [h3, e2]) hn.2 s g w a h1 T hts hdf fun a' w' g' q1 q2 q3 => ⟨trivial, q1, g', q2, kills_sound kl q3⟩
        rwa [← List.range_eq_range', Array.length_toList] at this
      | true =>
        obtain ⟨h5, hl⟩ : drawInfo (L.P.follows .mixedOrders) rops.toList (ops.map stripR) = some d ∧ l = ops.map fun o => (stripR o).unq := by
          have h4 : drawn (L.P.follows .mixedOrders) rops.toList l = some (.reg d (ops.map stripR) []) := h4
          unfold drawn at h4
          split at h4
          · rename_i dr h5
            injection h4 with h4
            injection h4 with e1 e2
            subst e1
            refine ⟨by rw [← e2]; exact h5, ?_⟩
            have := compOps_unq h3
            rw [← this, e2, List.map_map]
            rfl
          · obtain ⟨dr, h5, h6⟩ := Option.map_eq_some_iff.1 h4
            injection h6 with e1 e2
            subst e1
            refine ⟨by rw [← e2]; exact h5, ?_⟩
            have := compOps_toq h3
            rw [← this, e2, List.map_map]
            rfl
        obtain ⟨d1, d2, d3, d4⟩ := drawInfo_some h5
        have hdr : d ≠ [] := by
          rw [d4]
          intro h
          rw [List.map_eq_nil_iff, List.range_eq_nil, List.length_eq_zero_iff] at h
          exact d1 h
        obtain ⟨d0, dr', rfl⟩ := List.exists_cons_of_ne_nil hdr
        obtain ⟨r, h7, h8⟩ := Option.map_eq_some_iff.1 (show (opsD L C (d0 :: dr') ops [] s).map (·.1) = some s1 from h1)
        subst h8
        have hkd : ∀ o ∈ ops, o.op.kind = (stripOp o.op).kind := fun o ho => by
          have := hn.1
          simp only [List.isEmpty_cons, Bool.false_or] at this
          simpa using List.all_eq_true.1 this o ho
        refine wp_region_draw fun t => ?_
        have hsch : Region.schedule (L.P.follows .mixedOrders) rops t = Region.linearise .any rops t := by
          unfold Region.schedule
          cases hmx : L.P.follows .mixedOrders with
          | true => simp
          | false =>
            have hdep : Region.departs rops = false := by
              unfold Region.departs
              rw [Array.any_eq_false']
              intro o ho
              rw [Bool.not_eq_true, Array.any_eq_false']
              intro e he
              obtain ⟨i, hi⟩ := List.getElem?_of_mem (show o ∈ rops.toList by simpa using ho)
              have h9 := (d2 i o hi e he).2
              rw [hmx] at h9
              cases hb : Region.binds .any e with
              | true => simp
              | false => exact absurd (h9 hb) (by simp)
            rw [hdep]
            simp
        rw [hsch]
        refine wpAny_sound rops.size t _ a _ ?_
        exact draw_any hL hC hG rops (by rw [h3, hl]) h5 hkd hn.2 h7 (fun a' w' g' q1 q2 q3 => ⟨trivial, q1, g', q2, kills_sound kl q3⟩) (stp_drawn T) (hts.ext (stp_drawn (Stp.refl T.sr)).ext) hdf
    | _ => exact absurd (comp_tag hc) (by simp [strip, AC.tag, codeTag])
  | cond q x y ihx ihy =>
    intro code hc hn s e s' g w a hr T hts hdf
    simp only [AC.nilOk, Bool.and_eq_true] at hn
    obtain ⟨b, h1, h2⟩ := bind_some_iff.1 hr
    cases code with
    | cond cc cx cy =>
      obtain ⟨q', h3, hc⟩ := bind_some_iff.1 hc
      obtain ⟨x', h4, hc⟩ := bind_some_iff.1 hc
      obtain ⟨y', h5, hc⟩ := Option.map_eq_some_iff.1 hc
      injection hc with e1 e2 e3
      subst e1; subst e2; subst e3
      have hb := isB_sound h1 (opd_sound hts (hG.ext T.ext) h3)
      refine wp_cond hb ?_
      cases b with
      | true => exact ihx cx h4 hn.1 s e s' g w a h2 T hts hdf
      | false => exact ihy cy h5 hn.2 s e s' g w a h2 T hts hdf
    | _ => exact absurd (comp_tag hc) (by simp [strip, AC.tag, codeTag])
  | block id x ih =>
    intro code hc hn s e s' g w a hr T hts hdf
    obtain ⟨p, h1, h2⟩ := Option.map_eq_some_iff.1 hr
    cases code with
    | block j cx =>
      obtain ⟨x', h4, hc⟩ := Option.map_eq_some_iff.1 hc
      injection hc with e1 e2
      subst e1; subst e2
      refine wp_block (wp_mono (ih cx h4 hn s p.1 p.2 g w a h1 T hts hdf) fun e' a' w' he => ?_)
      obtain ⟨q1, q2, q3⟩ := he
      obtain ⟨pe, ps⟩ := p
      cases pe with
      | norm =>
        injection h2 with f1 f2
        subst f1; subst f2
        cases e' with
        | normal => exact ⟨q1, q2, q3⟩
        | _ => exact q1.elim
      | ret =>
        injection h2 with f1 f2
        subst f1; subst f2
        cases e' with
        | ret => exact ⟨q1, q2, q3⟩
        | _ => exact q1.elim
      | exit i =>
        injection h2 with f1 f2
        subst f1; subst f2
        cases e' with
        | exit i' =>
          have q1' : i = i' := q1
          subst q1'
          simp only [Exit.inBlock]
          split
          · exact ⟨trivial, q2, q3⟩
          · exact ⟨rfl, q2, q3⟩
        | _ => exact q1.elim
    | _ => exact absurd (comp_tag hc) (by simp [strip, AC.tag, codeTag])
  | loop x ih =>
    intro code hc hn s e s' g w a hr T hts hdf
    cases code with
    | loop cx =>
      obtain ⟨x', h4, hc⟩ := Option.map_eq_some_iff.1 hc
      injection hc with e2
      subst e2
      refine wp_loop_fuel (fun j a w => ∃ g s, loopN (execC L C n H0.length x) j s = some (e, s') ∧ Stp L.P g0 w0 H0 g w s.h ∧ VRs L.P g w s.h s.t a.tmps ∧ a.defers = []) (fun j a w hR => ?_) (j := n) ⟨g, s, hr, T, hts, hdf⟩
      obtain ⟨g, s, h1, T, hts, hdf⟩ := hR
      cases j with
      | zero => cases h1
      | succ j =>
        obtain ⟨p, h2, h3⟩ := bind_some_iff.1 h1
        refine wp_mono (ih cx h4 hn s p.1 p.2 g w a h2 T hts hdf) fun e' a' w' he => ?_
        obtain ⟨q1, q2, g', q3, q4⟩ := he
        obtain ⟨pe, ps⟩ := p
        cases pe with
        | norm =>
          cases e' with
          | normal => exact ⟨j, Nat.lt_succ_self j, g', ps, h3, q3, q4, q2⟩
          | _ => exact q1.elim
        | ret =>
          injection h3 with h3
          injection h3 with f1 f2
          subst f1; subst f2
          cases e' with
          | ret => exact ⟨q1, q2, g', q3, q4⟩
          | _ => exact q1.elim
        | exit i =>
          injection h3 with h3
          injection h3 with f1 f2
          subst f1; subst f2
          cases e' with
          | exit i' => exact ⟨q1, q2, g', q3, q4⟩
          | _ => exact q1.elim
    | _ => exact absurd (comp_tag hc) (by simp [strip, AC.tag, codeTag])
  | seq x y ihx ihy =>
    intro code hc hn s e s' g w a hr T hts hdf
    simp only [AC.nilOk, Bool.and_eq_true] at hn
    obtain ⟨p, h1, h2⟩ := bind_some_iff.1 hr
    by_cases hy : y = .gc
    · subst hy
      refine wp_mono (ihx code hc hn.1 s p.1 p.2 g w a h1 T hts hdf) fun e' a' w' he => ?_
      obtain ⟨q1, q2, g', q3, q4⟩ := he
      obtain ⟨pe, ps⟩ := p
      cases pe with
      | norm =>
        injection h2 with h2
        injection h2 with f1 f2
        subst f1; subst f2
        obtain ⟨q5, q6⟩ := trim_sound q3 q4
        exact ⟨q1, q2, g', q5, q6⟩
      | ret =>
        injection h2 with h2
        injection h2 with f1 f2
        subst f1; subst f2
        exact ⟨q1, q2, g', q3, q4⟩
      | exit i =>
        injection h2 with h2
        injection h2 with f1 f2
        subst f1; subst f2
        exact ⟨q1, q2, g', q3, q4⟩
    · rw [strip_seq hy] at hc
      cases code with
      | seq cx cy =>
        obtain ⟨x', h4, hc⟩ := bind_some_iff.1 hc
        obtain ⟨y', h5, hc⟩ := Option.map_eq_some_iff.1 hc
        injection hc with e1 e2
        subst e1; subst e2
        refine wp_seq (wp_mono (ihx cx h4 hn.1 s p.1 p.2 g w a h1 T hts hdf) fun e' a' w' he => ?_)
        obtain ⟨q1, q2, g', q3, q4⟩ := he
        obtain ⟨pe, ps⟩ := p
        cases pe with
        | norm =>
          cases e' with
          | normal => exact ihy cy h5 hn.2 ps e s' g' w' a' h2 q3 q4 q2
          | _ => exact q1.elim
        | ret =>
          injection h2 with h2
          injection h2 with f1 f2
          subst f1; subst f2
          cases e' with
          | ret => exact ⟨q1, q2, g', q3, q4⟩
          | _ => exact q1.elim
        | exit i =>
          injection h2 with h2
          injection h2 with f1 f2
          subst f1; subst f2
          cases e' with
          | exit i' => exact ⟨q1, q2, g', q3, q4⟩
          | _ => exact q1.elim
      | _ => exact absurd (comp_tag hc) (by simp [AC.tag, codeTag])

theorem bodyC_sound (hL : LOk L) {n : Nat} (hC : CallsOk L (callN L n)) {f : Nat} {af : AFun} {fn : Func} {c : Code} (F : FOk L f af fn c) {as : List AV} {H : List AO} {b : AV} {H' : List AO} (h : bodyC L (callN L n) n af as H = some (b, H'))
    {g : Gh} {w : World} {vs : Array Value} (S : SR L.P g w H) (hv : VRs L.P g w H as vs) (hG : GOk L g w H) : Calls L.P f vs w fun
      | .returned v, w' => ∃ g', Stp L.P g w H g' w' H' ∧ VR L.P g' w' H' b v
      | _, _ => False := by
  unfold bodyC at h
  split at h
  case isFalse => cases h
  rename_i hlen
  obtain ⟨p, h1, h2⟩ := bind_some_iff.1 h
  refine calls_of_wp F.get F.body ?_
  have hsz : vs.size = af.np := by rw [hv.1]; exact hlen
  have hts : VRs L.P g w H (as ++ List.replicate (af.nt - af.np) .junk) (vs ++ Array.replicate (fn.ntmps - vs.size) undef) := by
    refine VRs.append hv ⟨by simp [F.nt, hsz], fun i a v ha _ => ?_⟩
    have := List.mem_of_getElem? ha
    rw [List.mem_replicate] at this
    rw [this.2]
    exact .junk v
  refine wp_mono (exec_sound hL hC hG n af.body c F.comp F.nil _ p.1 p.2 g w _ h1 (.refl S) hts rfl) fun e' a' w' he => ?_
  obtain ⟨q1, q2, g', q3, q4⟩ := he
  obtain ⟨pe, ts', H2⟩ := p
  cases pe with
  | exit i => cases h2
  | norm =>
    obtain ⟨v, g2, r1, r2, r3⟩ := finish_sound q3 q4 F.res h2
    cases e' with
    | normal => exact ⟨q2, v, r1, g2, r2, r3⟩
    | _ => exact q1.elim
  | ret =>
    obtain ⟨v, g2, r1, r2, r3⟩ := finish_sound q3 q4 F.res h2
    cases e' with
    | ret => exact ⟨q2, v, r1, g2, r2, r3⟩
    | _ => exact q1.elim

theorem vrs_head' {P : Program} {a b : AV} {r : List AV} {vs : Array Value} (h : VRs P g w H (a :: r) vs) (hb : ∀ v, vs[0]? = some v → VR P g w H b v) : VRs P g w H (b :: r) vs := by
  refine ⟨h.1, fun i x v hx hv => ?_⟩
  cases i with
  | zero => simp at hx; subst hx; exact hb v hv
  | succ i => exact h.2 (i + 1) x v hx hv

theorem runF_sound (hL : LOk L) {n : Nat} (hC : CallsOk L (callN L n)) {f : Nat} {af : AFun} {fn : Func} {c : Code} (F : FOk L f af fn c) {as : List AV} {H : List AO} {b : AV} {H' : List AO} (h : runF L (callN L n) n af as H = some (b, H'))
    {g : Gh} {w : World} {vs : Array Value} (S : SR L.P g w H) (hv : VRs L.P g w H as vs) (hG : GOk L g w H) : Calls L.P f vs w fun
      | .returned v, w' => ∃ g', Stp L.P g w H g' w' H' ∧ VR L.P g' w' H' b v
      | _, _ => False := by
  unfold runF at h
  split at h
  · unfold twin at h
    split at h
    · rename_i r
      obtain ⟨h1, h2⟩ := both_some.1 h
      have key : ∀ (x : Value), vs[0]? = some x → ∃ nl, VR L.P g w H (.emp nl) x := by
        intro x hx
        have h0 := hv.2 0 _ x rfl hx
        cases h0 with
        | t h0 =>
          cases h0 with
          | sl _ a m cap sz u hm hc hsz ho ha =>
            have : m = 0 := hm
            subst this
            exact ⟨_, .emp _ a cap rfl⟩
      have hlt : 0 < vs.size := by rw [hv.1]; simp
      obtain ⟨nl, hx⟩ := key _ (Array.getElem?_eq_getElem hlt)
      have hv' : VRs L.P g w H (.emp nl :: r) vs := vrs_head' hv fun v hvv => by
        rw [Array.getElem?_eq_getElem hlt] at hvv
        injection hvv with hvv
        rw [← hvv]
        exact hx
      cases nl with
      | true => exact bodyC_sound hL hC F h1 S hv' hG
      | false => exact bodyC_sound hL hC F h2 S hv' hG
    · exact bodyC_sound hL hC F h S hv hG
  · exact bodyC_sound hL hC F h S hv hG

theorem callN_sound (hL : LOk L) : ∀ n, CallsOk L (callN L n)
  | 0 => fun f as H b H' h => by cases h
  | n + 1 => fun f as H b H' h g w vs S hv hG => by
    unfold callN at h
    split at h
    case h_1 => cases h
    rename_i af hf
    obtain ⟨fn, c, F⟩ := hL f af hf
    exact runF_sound hL (callN_sound hL n) F h S hv hG

/-- What the evaluator says is what a call comes to. -/
theorem callL_sound (hL : LOk L) : CallsOk L (callL L) := fun f as H b H' h g w vs S hv hG => by
  obtain ⟨n, hn⟩ := lim_some h
  exact callN_sound hL n f as H b H' hn g w vs S hv hG
end
end Go.Proofs.YtgehpjjpeddomaaGreatDoor
/- From the checks by the kernel to the laid functions. -/
namespace Go.Proofs.YtgehpjjpeddomaaGreatDoor
open Go Go.Lib

theorem fok {L : Lay} {k : Nat} {a : AFun} {fn : Func} (h1 : L.P.funcs[k]? = some fn) (h2 : (fn.name == "runtime.NumGoroutine") = false) (h3 : a.form L.P = formOf L.P fn) : ∃ fn c, FOk L k a fn c := by
  unfold AFun.form at h3
  obtain ⟨c, e1, h4⟩ := bind_some_iff.1 (show (fn.body.bind fun c => (comp L.P c).bind fun x => (compRes L.P fn.results.toList).map fun r => (true, fn.params.size + fn.nfree, fn.ntmps, x, r)) = some _ from h3.symm)
  obtain ⟨x, e2, h5⟩ := bind_some_iff.1 h4
  obtain ⟨r, e3, h6⟩ := Option.map_eq_some_iff.1 h5
  injection h6 with i1 h7
  injection h7 with i2 h8
  injection h8 with i3 h9
  injection h9 with i4 i5
  have hw : winOk L.P a = true := i1.symm
  unfold winOk at hw
  rw [Bool.and_eq_true] at hw
  exact ⟨fn, c, h1, h2, e1, by rw [e2, i4], hw.2, fun o ho e he => by
    have := List.all_eq_true.1 hw.1 o ho
    rw [he] at this
    exact this, by rw [e3, i5], i2, i3⟩

def AllF (L : Lay) : Nat → List (Option AFun) → Prop
  | _, [] => True
  | k, none :: r => AllF L (k + 1) r
  | k, some a :: r => (∃ fn c, FOk L k a fn c) ∧ AllF L (k + 1) r

theorem allF_get {L : Lay} : ∀ (l : List (Option AFun)) (k : Nat), AllF L k l → ∀ n a, l.getD n none = some a → ∃ fn c, FOk L (k + n) a fn c
  | [], k, _, n, a, h => by simp at h
  | none :: r, k, hh, 0, a, h => by simp at h
  | some b :: r, k, hh, 0, a, h => by
    have : b = a := by simpa using h
    subst this
    exact hh.1
  | none :: r, k, hh, n + 1, a, h => by
    have := allF_get r (k + 1) hh n a (by simpa using h)
    rwa [show k + 1 + n = k + (n + 1) by omega] at this
  | some b :: r, k, hh, n + 1, a, h => by
    have := allF_get r (k + 1) hh.2 n a (by simpa using h)
    rwa [show k + 1 + n = k + (n + 1) by omega] at this

theorem lok_of {P : Program} {t : List (Option AFun)} {G : Nat → Option (List Tr)} (h : AllF ⟨P, fun n => t.getD n none, G⟩ 0 t) : LOk ⟨P, fun n => t.getD n none, G⟩ := fun f af hf => by
  have := allF_get t 0 h f af hf
  rwa [Nat.zero_add] at this
end Go.Proofs.YtgehpjjpeddomaaGreatDoor
