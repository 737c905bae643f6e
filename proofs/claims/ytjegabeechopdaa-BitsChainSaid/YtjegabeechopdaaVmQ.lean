/- A step of a region: what each operation may do, whatever else has been done; the orders that a region may draw. -/
import Derived.Test.YtjegabeechopdaaVmP
set_option linter.unusedSimpArgs false
set_option linter.unusedVariables false
namespace Go.Vm
open Go Go.RowKit

/-- An operation of a region, types looked up. bef: the operations that surely come before it, as bits. -/
structure ROper where
  dst : Option Nat
  op : RI
  guard : Option (Nat × Bool)
  bef : Nat
  deriving Inhabited

def Env.put (env : Env) (dst : Option Nat) (r : Option PV) : Env :=
  match dst with
  | none => env
  | some d => fun t => if t = d then r else env t

/-- The operation is sound, changing nothing that is there: H as it sees the heap, H' behind it; G: what the world holds. -/
def NStep (P : Program) (gl : Nat → Option PV) (o : Oper) (reads : List Nat) (env : Env) (H : Hp) (r : Option PV) (H' : Hp) : Prop :=
  H.le H' ∧ ∀ (A : Nat → Prop) (w0 : World) (F : Nat → Prop) (m : Nat → Slot) (w : World) (G : Hp) (a : Act) (next : Act → World → Prop) (Q : Exit → Act → World → Prop), Sim gl A w0 F m w G → H'.le G → (∀ b, H.n ≤ b → b < H'.n → m b = .unborn) → ERel F m w a env reads →
    (∀ v w' F' m', Sim gl A w0 F' m' w' G → Ev F m w F' m' w' → ORel F' m' w' v r → (∀ b, ¬ (H.n ≤ b ∧ b < H'.n) → m b = .unborn → m' b = .unborn) → next (a.put o.dst v) w') → o.wp P a w next Q

/-- The operation is sound and looks at no heap. -/
def IStep (P : Program) (gl : Nat → Option PV) (o : Oper) (reads : List Nat) (env : Env) (r : Option PV) : Prop :=
  ∀ (A : Nat → Prop) (w0 : World) (F : Nat → Prop) (m : Nat → Slot) (w : World) (G : Hp) (a : Act) (next : Act → World → Prop) (Q : Exit → Act → World → Prop), Sim gl A w0 F m w G → ERel F m w a env reads →
    (∀ v w' F' m', Sim gl A w0 F' m' w' G → Ev F m w F' m' w' → ORel F' m' w' v r → (∀ b, m b = .unborn → m' b = .unborn) → next (a.put o.dst v) w') → o.wp P a w next Q

/-- The operation is sound where the world holds just H. -/
def EStep (P : Program) (gl : Nat → Option PV) (o : Oper) (reads : List Nat) (env : Env) (H : Hp) (r : Option PV) (H' : Hp) : Prop :=
  H.n ≤ H'.n ∧ ∀ (A : Nat → Prop) (w0 : World) (F : Nat → Prop) (m : Nat → Slot) (w : World) (a : Act) (next : Act → World → Prop) (Q : Exit → Act → World → Prop), Sim gl A w0 F m w H → (∀ b, H.n ≤ b → m b = .unborn) → ERel F m w a env reads →
    (∀ v w' F' m', Sim gl A w0 F' m' w' H' → Ev F m w F' m' w' → ORel F' m' w' v r → (∀ b, H'.n ≤ b → m' b = .unborn) → next (a.put o.dst v) w') → o.wp P a w next Q

section
variable {P : Program} {gl : Nat → Option PV} {A : Nat → Prop} {w0 : World} {F : Nat → Prop} {m : Nat → Slot} {w : World} {G H : Hp} {a : Act} {env : Env} {o : Oper} {p : PV} {own : Bool}

theorem ext_le {H : Hp} {l : List Blk} {G : Hp} (h : (H.add l).le G) : ∀ k (hk : k < l.length), G.f (H.n + k) = some l[k] := by
  intro k hk
  rw [h.2 (H.n + k) (by simp [Hp.add]; omega)]
  unfold Hp.add
  simp only
  rw [if_neg (by omega), Nat.add_sub_cancel_left, List.getElem?_eq_getElem hk]

theorem nstep_of {ri : RI} {r : PV} {ext : List Blk} (hres : resolveRI P own o = some ri) (hp : stepN (RO.ev gl env) H ri = some (r, ext)) : NStep P gl o ri.reads env H (some r) (H.add ext) := by
  refine ⟨Hp.le_add _ _, fun A w0 F m w G a next Q sim hG hU he hk => ?_⟩
  obtain ⟨v, w', F', m', hr, s, e, hv, hm⟩ := stepN_sound hres sim (fun b k hk => Hp.le_some (Hp.le_trans (Hp.le_add H ext) hG) hk) (ext_le hG) (fun k hk => hU _ (by omega) (by simp [Hp.add]; omega)) he hp
  unfold Oper.wp
  rw [hr]
  refine hk v w' F' m' s e (fun p hp => by injection hp with hp; subst hp; exact hv) (fun b hb hu => ?_)
  rw [hm b (fun k hk e => hb ⟨by omega, by simp [Hp.add]; omega⟩)]
  exact hu

theorem estep_of {ri : RI} {r : Option PV} {H' : Hp} (hn : H.n ≤ H'.n) (hres : resolveRI P own o = some ri) (hp : stepE (RO.ev gl env) H ri = some (r, H')) : EStep P gl o ri.reads env H r H' := by
  refine ⟨hn, fun A w0 F m w a next Q sim hU he hk => ?_⟩
  obtain ⟨v, w', F', m', hr, s, e, hv, hm⟩ := stepE_sound hres sim hU he hp
  unfold Oper.wp
  rcases hr with hr | ⟨hr, rfl⟩
  · rw [hr]; exact hk v w' F' m' s e hv hm
  · rw [hr]; exact hk _ w' F' m' s e hv hm

theorem EStep.ofN {reads : List Nat} {r : Option PV} {H' : Hp} (h : NStep P gl o reads env H r H') : EStep P gl o reads env H r H' := by
  obtain ⟨hle, h⟩ := h
  refine ⟨hle.1, fun A w0 F m w a next Q sim hU he hk => ?_⟩
  have sim' : Sim gl A w0 F m w H' := ⟨sim.below, sim.live, sim.inj, sim.frz, sim.frzlt, fun b k hk hnu => by
    by_cases hb : b < H.n
    · rw [hle.2 b hb] at hk; exact sim.blk b k hk hnu
    · exact absurd (hU b (by omega)) hnu, sim.glob⟩
  exact h A w0 F m w H' a next Q sim' (Hp.le_refl _) (fun b hb _ => hU b hb) he (fun v w' F' m' s e hv hm => hk v w' F' m' s e hv (fun b hb => hm b (by omega) (hU b (by have := hle.1; omega))))

/-- The world holds more of the heap: what is not yet born doesn't count. -/
theorem Sim.ext {K : Hp} (sim : Sim gl A w0 F m w G) (h : ∀ b, m b ≠ .unborn → K.f b = G.f b) : Sim gl A w0 F m w K :=
  ⟨sim.below, sim.live, sim.inj, sim.frz, sim.frzlt, fun b k hk hnu => sim.blk b k (by rw [← h b hnu]; exact hk) hnu, sim.glob⟩

/-! ### Calls -/
theorem exec_call {f : FuncId} {args : Array Operand} {c : Call} (hok : callOk P f = true) (ho : o.op = .call c) {cap : Array Value} (hc : ∃ x first, c.callee = .value x ∧ a.eval x = .func (.func f) first cap ∧ first = #[]) (hargs : c.args = args) :
    (execOp a.eval o).run P w = .ok (.enter f (args.map a.eval ++ cap)) w := by
  obtain ⟨x, first, hx, hv, rfl⟩ := hc
  unfold callOk at hok
  split at hok
  · rename_i fn hfn
    simp only [Bool.and_eq_true, bne_iff_ne, ne_eq] at hok
    have h1 : (fn.name == "runtime.NumGoroutine") = false := by simpa using hok.2
    have h2 : fn.body.isNone = false := by
      cases hb : fn.body with
      | none => rw [hb] at hok; simp at hok
      | some b => rfl
    subst hargs
    simp only [execOp, ho, resolve, hx, hv, Deferred.ofValue, Sem.run_bind, Sem.run_pure, Result.andThen_ok, invoke, callFunc, run_program, hfn, h1, h2, Bool.false_eq_true, if_false, Array.empty_append]
  · cases hok

/-- The callee and the arguments that it gets, out of a call's instruction. -/
def callArgs (ev : RO → Option PV) : RI → Option (FuncId × List PV)
  | .call f args => do
    let l ← evs ev args
    some (f, l)
  | .callv x args => do
    match ← ev x with
    | .fn f caps => do
      let l ← evs ev args
      some (f, l ++ caps)
    | _ => none
  | _ => none

theorem CsRel.append {xs ys : Array Value} {l k : List PV} (h1 : CsRel F m w xs l) (h2 : CsRel F m w ys k) : CsRel F m w (xs ++ ys) (l ++ k) := by
  refine .of_get (by simp [h1.1, h2.1]) (fun i q hq => ?_)
  by_cases h : i < l.length
  · rw [List.getElem?_append_left h] at hq
    rw [Array.getElem?_append_left (by have := h1.1; omega)]
    exact h1.get hq
  · rw [List.getElem?_append_right (by omega)] at hq
    rw [Array.getElem?_append_right (by have := h1.1; omega), h1.1]
    exact h2.get hq

theorem call_args {ri : RI} {f : FuncId} {as : List PV} (hres : resolveRI P own o = some ri) (sim : Sim gl A w0 F m w G) (he : ERel F m w a env ri.reads) (hok : callOk P f = true) (hc : callArgs (RO.ev gl env) ri = some (f, as)) :
    ∃ vs, (execOp a.eval o).run P w = .ok (.enter f vs) w ∧ CsRel F m w vs as := by
  unfold callArgs at hc
  split at hc
  · rename_i f' rs
    simp only [Option.bind_eq_bind, Option.bind_eq_some_iff, Option.some.injEq, Prod.mk.injEq] at hc
    obtain ⟨l, hl, rfl, rfl⟩ := hc
    have : ∃ c, o.op = .call c ∧ c.callee = .value (.func f') ∧ rosOf c.args.toList = some rs := by
      unfold resolveRI at hres
      cases hop : o.op
      case call c =>
        refine ⟨c, rfl, ?_⟩
        simp only [hop] at hres
        split at hres
        · rename_i x hx
          split at hres
          · split at hres
            · simp only [Option.bind_eq_bind, Option.bind_eq_some_iff, Option.some.injEq, RI.call.injEq] at hres
              obtain ⟨rs', hrs, rfl, rfl⟩ := hres
              exact ⟨hx, hrs⟩
            · cases hres
          · simp [Option.bind_eq_some_iff] at hres
          · cases hres
        all_goals (revert hres; (repeat' split) <;> simp [Option.bind_eq_some_iff])
      all_goals (simp only [hop] at hres; revert hres; (repeat' split) <;> simp [Option.bind_eq_some_iff])
    obtain ⟨c, hop, hcal, hrs⟩ := this
    obtain ⟨e1, e2⟩ := evs_rel sim hrs he hl
    refine ⟨_, exec_call (cap := #[]) hok hop ⟨_, #[], hcal, rfl, rfl⟩ rfl, ?_⟩
    refine ⟨by simpa using e1, fun i h1 h2 => ?_⟩
    simp at h1
    have := e2 i (by simpa using h1) h2
    rw [Array.getElem_toList] at this
    simpa using this
  · rename_i x rs
    simp only [Option.bind_eq_bind, Option.bind_eq_some_iff] at hc
    obtain ⟨q, hq, hc⟩ := hc
    split at hc
    · rename_i f' caps
      simp only [Option.bind_eq_some_iff, Option.some.injEq, Prod.mk.injEq] at hc
      obtain ⟨l, hl, rfl, rfl⟩ := hc
      have : ∃ c t, o.op = .call c ∧ c.callee = .value (.tmp t) ∧ x = .t t ∧ rosOf c.args.toList = some rs := by
        unfold resolveRI at hres
        cases hop : o.op
        case call c =>
          refine ⟨c, ?_⟩
          simp only [hop] at hres
          split at hres
          · rename_i x' hx
            split at hres
            · split at hres
              · simp [Option.bind_eq_some_iff] at hres
              · cases hres
            · rename_i t
              simp only [Option.bind_eq_bind, Option.bind_eq_some_iff, Option.some.injEq, RI.callv.injEq] at hres
              obtain ⟨rs', hrs, rfl, rfl⟩ := hres
              exact ⟨t, rfl, hx, rfl, hrs⟩
            · cases hres
          all_goals (revert hres; (repeat' split) <;> simp [Option.bind_eq_some_iff])
        all_goals (simp only [hop] at hres; revert hres; (repeat' split) <;> simp [Option.bind_eq_some_iff])
      obtain ⟨c, t, hop, hcal, rfl, hrs⟩ := this
      simp only [RI.reads] at he
      obtain ⟨he1, he2⟩ := he.app
      obtain ⟨e1, e2⟩ := evs_rel sim hrs he2 hl
      have hv := RO.rel (x := .tmp t) sim rfl he1 hq
      generalize hev : a.eval (.tmp t) = va at hv
      cases hv with
      | fn _ first captured _ h0 hs h =>
        refine ⟨_, exec_call (cap := captured) hok hop ⟨_, first, hcal, hev, h0⟩ rfl, .append ⟨by simpa using e1, fun i h1 h2 => ?_⟩ ⟨hs, h⟩⟩
        simp at h1
        have := e2 i (by simpa using h1) h2
        rw [Array.getElem_toList] at this
        simpa using this
    · cases hc
  · cases hc

/-- A call has been: all that there was is as it was. -/
theorem Sim.called (sim : Sim gl A w0 F m w G) {w' : World} (hb : Below w.heap.size w w') :
    Sim gl A w0 (fun β => F β ∨ (w.heap.size ≤ β ∧ β < w'.heap.size)) m w' G ∧ Ev F m w (fun β => F β ∨ (w.heap.size ≤ β ∧ β < w'.heap.size)) m w' := by
  have ev : Ev F m w (fun β => F β ∨ (w.heap.size ≤ β ∧ β < w'.heap.size)) m w' :=
    ⟨hb.size, fun _ h => .inl h, sim.fnl, fun β h _ => hb.block β h, fun _ h => .inl h, fun β h => by unfold rowSize; rw [hb.block β h], fun _ => slot_refl _, sim.liv⟩
  refine ⟨⟨sim.below.trans ⟨hb.os, hb.tape, hb.output, hb.size, fun k hk => hb.block k (Nat.lt_of_lt_of_le hk sim.below.size)⟩, ?_, sim.inj, ?_, ?_, ?_, fun g p hp => (sim.glob g p hp).monoNo ev⟩, ev⟩
  · intro b β sz g h
    obtain ⟨a1, a2, a3⟩ := sim.live b β sz g h
    exact ⟨a1, Nat.lt_of_lt_of_le a2 hb.size, fun h => h.elim a3 (fun h => by omega)⟩
  · intro β h
    rcases h with h | h
    · exact sim.frz β h
    · exact .inr (Nat.le_trans sim.below.size h.1)
  · intro β h
    rcases h with h | h
    · exact Nat.lt_of_lt_of_le (sim.frzlt β h) hb.size
    · exact h.2
  · intro b k hk hnu
    rcases sim.blk b k hk hnu with ⟨β, hm, hok⟩ | hv
    case inr => exact .inr hv
    exact .inl ⟨β, hm, hok.mono ev (hb.block β (sim.live _ _ _ _ hm).2.1)⟩

/-- A call with values that lead into no local heap: own rows as they are now, if what comes back leads to no memory. -/
theorem nstep_pure {ri : RI} {f : FuncId} {as as' : List PV} {r : PV} {bor : Bool} (hres : resolveRI P own o = some ri) (hc : callArgs (RO.ev gl env) ri = some (f, as)) (hs : softs H bor as = some as') (hP : Pure P gl f as' r) (hb : bor = true → scal r = true) :
    NStep P gl o ri.reads env H (some r) H := by
  refine ⟨Hp.le_refl _, fun A w0 F m w G a next Q sim hG _ he hk => ?_⟩
  obtain ⟨vs, hr, hvs⟩ := call_args hres sim he hP.1 hc
  have hF' : ∃ F' : Nat → Prop, (∀ β, F β → F' β) ∧ (bor = true → ∀ β, β < w.heap.size → F' β) ∧ (∀ β, F' β → β < w.heap.size) ∧ (bor = false → F' = F) := by
    cases bor with
    | true => exact ⟨fun β => β < w.heap.size, fun β h => sim.frzlt β h, fun _ β h => h, fun β h => h, fun h => by cases h⟩
    | false => exact ⟨F, fun β h => h, fun h => by simp at h, sim.frzlt, fun _ => rfl⟩
  obtain ⟨F', h1, h2, h3, h4⟩ := hF'
  obtain ⟨e, hrel⟩ := softs_rel (F' := F') sim (fun b k hk => Hp.le_some hG hk) h1 (fun h β _ => h2 h β) (vs := vs.toList) hs (by simpa using hvs.1) (fun i q1 q2 => by have := hvs.2 i (by simpa using q1) q2; rwa [Array.getElem_toList])
  have hcs : CsRel F' noM w vs as' := ⟨by simpa using e, fun i q1 q2 => by have := hrel i (by simpa using q1) q2; rwa [Array.getElem_toList] at this⟩
  have hcall := hP.2 F' w vs h3 (fun g p hp => (sim.glob g p hp).monoV ⟨h1, fun _ _ => rfl, fun _ _ => rfl, fun _ => trivial, fun _ _ _ _ h => by simp [noM] at h⟩) hcs
  unfold Oper.wp
  rw [hr, Oper.upon_enter]
  refine hcall.mono ?_
  rintro e w' ⟨v, rfl, hbel, hv⟩
  obtain ⟨s, ev⟩ := sim.called hbel
  refine hk v w' _ m s ev (fun p hp => ?_) (fun b _ h => h)
  injection hp with hp
  subst hp
  cases bor with
  | true => exact scal_rel hv (hb rfl)
  | false =>
    rw [h4 rfl] at hv
    exact hv.weak m

/-! ### What a callee hands back that is its own -/
def shift1 (n : Nat) (v : PV) : Option PV :=
  if pure1 v then some v else
  match v with
  | .ref b g off len => some (.ref (b + n) g off len)
  | .ptr b g i off => some (.ptr (b + n) g i off)
  | _ => none

def shiftL (n : Nat) : List PV → Option (List PV)
  | [] => some []
  | v :: r => do
    let x ← shift1 n v
    let l ← shiftL n r
    some (x :: l)

def shift0 (n : Nat) (v : PV) : Option PV :=
  match v with
  | .agg l => (shiftL n l).map .agg
  | v => shift1 n v

def shiftT (n : Nat) : List PV → Option (List PV)
  | [] => some []
  | v :: r => do
    let x ← shift0 n v
    let l ← shiftT n r
    some (x :: l)

def shiftP (n : Nat) (v : PV) : Option PV :=
  match v with
  | .tup l => (shiftT n l).map .tup
  | v => shift0 n v

def shiftPs (n : Nat) : List PV → Option (List PV)
  | [] => some []
  | v :: r => do
    let x ← shiftP n v
    let l ← shiftPs n r
    some (x :: l)

def shiftB (n : Nat) (k : Blk) : Option Blk := (shiftPs n k.xs).map fun xs => ⟨k.g, k.sz, xs⟩

/-- A callee's blocks behind one's own. -/
def Hp.addH (H K : Hp) : Hp := ⟨H.n + K.n, fun c => if c < H.n then H.f c else (K.f (c - H.n)).bind (shiftB H.n), fun c hc => by
  rw [if_neg (by omega), K.wf (c - H.n) (by omega)]
  rfl⟩

theorem Hp.le_addH (H K : Hp) : H.le (H.addH K) := ⟨by simp [Hp.addH], fun b hb => by simp [Hp.addH, hb]⟩

theorem shift1_rel {n : Nat} {m2 : Nat → Slot} (h2 : ∀ b, m b ≠ .unborn → m2 (b + n) = m b) {v : Value} {p q : PV} (h : VRel F w m v p) (hs : shift1 n p = some q) : VRel F w m2 v q := by
  unfold shift1 at hs
  split at hs
  · rename_i hp
    injection hs with hs
    subst hs
    exact (pure1_rel (fun _ h => h) h hp).weak m2
  · split at hs
    · rename_i b g off len _
      injection hs with hs
      subst hs
      cases h with
      | ref A c _ _ _ _ h =>
        refine .ref _ _ _ _ _ _ ?_
        rw [h2 b (fun e => by rw [e] at h; exact h)]
        exact h
    · rename_i b g i off _
      injection hs with hs
      subst hs
      cases h with
      | ptr ad _ _ _ _ h =>
        refine .ptr _ _ _ _ _ ?_
        rw [h2 b (fun e => by rw [e] at h; exact h)]
        exact h
    · cases hs

theorem shiftL_rel {n : Nat} {m2 : Nat → Slot} (h2 : ∀ b, m b ≠ .unborn → m2 (b + n) = m b) : ∀ {l q : List PV}, shiftL n l = some q → l.length = q.length ∧ ∀ i (h1 : i < l.length) (h3 : i < q.length) (v : Value), VRel F w m v l[i] → VRel F w m2 v q[i]
  | [], q, h => by
    simp [shiftL] at h
    subst h
    exact ⟨rfl, fun i h1 => absurd h1 (by simp)⟩
  | p :: l, q, h => by
    simp only [shiftL, Option.bind_eq_bind, Option.bind_eq_some_iff, Option.some.injEq] at h
    obtain ⟨x, hx, q', hq, rfl⟩ := h
    obtain ⟨e, ih⟩ := shiftL_rel h2 hq
    refine ⟨by simp [e], fun i h1 h3 v hv => ?_⟩
    cases i with
    | zero => exact shift1_rel h2 hv hx
    | succ i => exact ih i (by simpa using h1) (by simpa using h3) v hv

theorem shift1_cells {n : Nat} {p q : PV} (h : shift1 n p = some q) : p.cells = [p] ∧ q.cells = [q] := by
  unfold shift1 at h
  split at h
  · rename_i hp
    injection h with h
    subst h
    cases p <;> first | exact ⟨rfl, rfl⟩ | (simp [pure1] at hp)
  · split at h <;> first | (injection h with h; subst h; exact ⟨rfl, rfl⟩) | cases h

theorem shiftP_cells {n : Nat} {p q : PV} (h : shiftP n p = some q) : (∃ t, p = .tup t) ∨ shiftL n p.cells = some q.cells := by
  unfold shiftP at h
  split at h
  · exact .inl ⟨_, rfl⟩
  · unfold shift0 at h
    split at h
    · rw [Option.map_eq_some_iff] at h
      obtain ⟨q', hq, rfl⟩ := h
      exact .inr hq
    · obtain ⟨e1, e2⟩ := shift1_cells h
      rw [e1, e2]
      exact .inr (by simp [shiftL, h])

theorem shift0_rel {n : Nat} {m2 : Nat → Slot} (h2 : ∀ b, m b ≠ .unborn → m2 (b + n) = m b) {v : Value} {p q : PV} (h : VRel F w m v p) (hs : shift0 n p = some q) : VRel F w m2 v q := by
  unfold shift0 at hs
  split at hs
  · rw [Option.map_eq_some_iff] at hs
    obtain ⟨q', hq, rfl⟩ := hs
    obtain ⟨e, ih⟩ := shiftL_rel (F := F) (w := w) h2 hq
    cases h with
    | agg xs _ hl h => exact .agg _ _ (by omega) (fun i h1 h3 => ih i (by omega) h3 _ (h i h1 (by omega)))
  · exact shift1_rel h2 h hs

theorem shiftT_rel {n : Nat} {m2 : Nat → Slot} (h2 : ∀ b, m b ≠ .unborn → m2 (b + n) = m b) : ∀ {l q : List PV}, shiftT n l = some q → l.length = q.length ∧ ∀ i (h1 : i < l.length) (h3 : i < q.length) (v : Value), VRel F w m v l[i] → VRel F w m2 v q[i]
  | [], q, h => by
    simp [shiftT] at h
    subst h
    exact ⟨rfl, fun i h1 => absurd h1 (by simp)⟩
  | p :: l, q, h => by
    simp only [shiftT, Option.bind_eq_bind, Option.bind_eq_some_iff, Option.some.injEq] at h
    obtain ⟨x, hx, q', hq, rfl⟩ := h
    obtain ⟨e, ih⟩ := shiftT_rel h2 hq
    refine ⟨by simp [e], fun i h1 h3 v hv => ?_⟩
    cases i with
    | zero => exact shift0_rel h2 hv hx
    | succ i => exact ih i (by simpa using h1) (by simpa using h3) v hv

theorem shiftP_rel {n : Nat} {m2 : Nat → Slot} (h2 : ∀ b, m b ≠ .unborn → m2 (b + n) = m b) {v : Value} {p q : PV} (h : VRel F w m v p) (hs : shiftP n p = some q) : VRel F w m2 v q := by
  unfold shiftP at hs
  split at hs
  · rw [Option.map_eq_some_iff] at hs
    obtain ⟨q', hq, rfl⟩ := hs
    obtain ⟨e, ih⟩ := shiftT_rel (F := F) (w := w) h2 hq
    cases h with
    | tup xs _ hl h => exact .tup _ _ (by omega) (fun i h1 h3 => ih i (by omega) h3 _ (h i h1 (by omega)))
  · exact shift0_rel h2 h hs

theorem shiftPs_get {n : Nat} : ∀ {l q : List PV}, shiftPs n l = some q → l.length = q.length ∧ ∀ i (h1 : i < l.length) (h3 : i < q.length), shiftP n l[i] = some q[i]
  | [], q, h => by
    simp [shiftPs] at h
    subst h
    exact ⟨rfl, fun i h1 => absurd h1 (by simp)⟩
  | p :: l, q, h => by
    simp only [shiftPs, Option.bind_eq_bind, Option.bind_eq_some_iff, Option.some.injEq] at h
    obtain ⟨x, hx, q', hq, rfl⟩ := h
    obtain ⟨e, ih⟩ := shiftPs_get hq
    refine ⟨by simp [e], fun i h1 h3 => ?_⟩
    cases i with
    | zero => exact hx
    | succ i => exact ih i (by simpa using h1) (by simpa using h3)

theorem shiftB_ok {n : Nat} {m2 : Nat → Slot} (h2 : ∀ b, m b ≠ .unborn → m2 (b + n) = m b) {β : Nat} {k k' : Blk} (h : BlkOk F m w β k) (hs : shiftB n k = some k') : BlkOk F m2 w β k' ∧ k'.sz = k.sz ∧ k'.g = k.g := by
  unfold shiftB at hs
  rw [Option.map_eq_some_iff] at hs
  obtain ⟨xs, hxs, rfl⟩ := hs
  obtain ⟨cs, T, h1, h3, h4, h5⟩ := h
  obtain ⟨e, ih⟩ := shiftPs_get hxs
  have cell : ∀ i (h1 : i < k.xs.length) (h3 : i < xs.length), (k.xs[i]).cells.length = (xs[i]).cells.length ∧ ∀ j (q1 : j < (k.xs[i]).cells.length) (q2 : j < (xs[i]).cells.length) (v : Value), VRel F w m v (k.xs[i]).cells[j] → VRel F w m2 v (xs[i]).cells[j] := by
    intro i q1 q3
    have hsh := ih i q1 q3
    rcases shiftP_cells hsh with ⟨t, ht⟩ | hc
    · -- a tuple is one cell
      rw [ht] at hsh
      unfold shiftP at hsh
      simp only at hsh
      rw [Option.map_eq_some_iff] at hsh
      obtain ⟨q', hq', hx⟩ := hsh
      refine ⟨by rw [ht, ← hx]; rfl, fun j j1 j2 v hv => ?_⟩
      have hj : j = 0 := by rw [ht] at j1; simpa [PV.cells] using j1
      subst hj
      have e1 : (k.xs[i]).cells = [.tup t] := by rw [ht]; rfl
      have e2 : (xs[i]).cells = [.tup q'] := by rw [← hx]; rfl
      simp only [e1, e2, List.getElem_cons_zero] at hv ⊢
      exact shiftP_rel h2 hv (by simp [shiftP, hq'])
    · obtain ⟨el, hl⟩ := shiftL_rel (F := F) (w := w) h2 hc
      exact ⟨el, fun j j1 j2 v hv => hl j j1 j2 v hv⟩
  refine ⟨⟨cs, T, h1, by simp only; rw [← e]; exact h3, fun x hx => ?_, fun i hi j hj => ?_⟩, rfl, rfl⟩
  · obtain ⟨i, hi, rfl⟩ := List.mem_iff_getElem.1 hx
    rw [← (cell i (by simp only at hi; omega) hi).1]
    exact h4 _ (List.getElem_mem _)
  · simp only at hi hj
    obtain ⟨c1, c2⟩ := cell i (by omega) hi
    obtain ⟨v, hv, hr⟩ := h5 i (by omega) j (by omega)
    exact ⟨v, hv, c2 j _ hj v hr⟩

/-- A call that makes blocks, handed back as one's own. -/
theorem nstep_fresh {ri : RI} {f : FuncId} {as as' : List PV} {r r' : PV} {K : Hp} (hres : resolveRI P own o = some ri) (hc : callArgs (RO.ev gl env) ri = some (f, as)) (hs : softs H false as = some as') (hP : Fresh P gl f as' r K)
    (hr : shiftP H.n r = some r') : NStep P gl o ri.reads env H (some r') (H.addH K) := by
  refine ⟨Hp.le_addH H K, fun A w0 F m w G a next Q sim hG hU he hk => ?_⟩
  obtain ⟨vs, hex, hvs⟩ := call_args hres sim he hP.1 hc
  obtain ⟨e, hrel⟩ := softs_rel (F' := F) sim (fun b k hk => Hp.le_some (Hp.le_trans (Hp.le_addH H K) hG) hk) (fun _ h => h) (fun h => by simp at h) (vs := vs.toList) hs (by simpa using hvs.1) (fun i q1 q2 => by have := hvs.2 i (by simpa using q1) q2; rwa [Array.getElem_toList])
  have hcs : CsRel F noM w vs as' := ⟨by simpa using e, fun i q1 q2 => by have := hrel i (by simpa using q1) q2; rwa [Array.getElem_toList] at this⟩
  have hcall := hP.2 F w vs sim.frzlt sim.glob hcs
  unfold Oper.wp
  rw [hex, Oper.upon_enter]
  refine hcall.mono ?_
  rintro e' w' ⟨v, F', m', rfl, s, hu, hfz, hv⟩
  let m2 : Nat → Slot := fun c => if c < H.n then m c else if c < H.n + K.n then m' (c - H.n) else m c
  have hm2 : ∀ b, m' b ≠ .unborn → m2 (b + H.n) = m' b := by
    intro b hb
    have hbn : b < K.n := Nat.lt_of_not_le fun h => hb (hu b h)
    show (if b + H.n < H.n then m (b + H.n) else if b + H.n < H.n + K.n then m' (b + H.n - H.n) else m (b + H.n)) = m' b
    rw [if_neg (by omega), if_pos (by omega), Nat.add_sub_cancel]
  have m2lo : ∀ c, ¬ (H.n ≤ c ∧ c < H.n + K.n) → m2 c = m c := by
    intro c hc
    show (if c < H.n then m c else if c < H.n + K.n then m' (c - H.n) else m c) = m c
    by_cases h : c < H.n
    · rw [if_pos h]
    · rw [if_neg h, if_neg (by omega)]
  have m2hi : ∀ c, H.n ≤ c → c < H.n + K.n → m2 c = m' (c - H.n) := by
    intro c h1 h2
    show (if c < H.n then m c else if c < H.n + K.n then m' (c - H.n) else m c) = m' (c - H.n)
    rw [if_neg (by omega), if_pos h2]
  have live2 : ∀ {c β sz g}, m2 c = .live β sz g → (m c = .live β sz g ∧ ¬ (H.n ≤ c ∧ c < H.n + K.n)) ∨ (m' (c - H.n) = .live β sz g ∧ H.n ≤ c ∧ c < H.n + K.n) := by
    intro c β sz g h
    by_cases hc' : H.n ≤ c ∧ c < H.n + K.n
    · rw [m2hi c hc'.1 hc'.2] at h; exact .inr ⟨h, hc'⟩
    · rw [m2lo c hc'] at h; exact .inl ⟨h, hc'⟩
  have ev2 : Ev F m w F' m2 w' := by
    refine ⟨s.below.size, hfz, sim.fnl, fun β hb _ => s.below.block β hb, fun β ⟨c, sz, g, h⟩ => ?_, fun β hb => by unfold rowSize; rw [s.below.block β hb], fun c => ?_, sim.liv⟩
    · rcases live2 h with ⟨h, _⟩ | ⟨h, _⟩
      · exact .inl ⟨c, sz, g, h⟩
      · exact .inr (s.live _ _ _ _ h).1
    · by_cases hc' : H.n ≤ c ∧ c < H.n + K.n
      · rw [hU c hc'.1 hc'.2]; trivial
      · rw [m2lo c hc']; exact slot_refl _
  have sim2 : Sim gl A w0 F' m2 w' G := by
    refine ⟨sim.below.trans ⟨s.below.os, s.below.tape, s.below.output, s.below.size, fun k hk => s.below.block k (Nat.lt_of_lt_of_le hk sim.below.size)⟩, ?_, ?_, ?_, s.frzlt, ?_, fun g p hp => (sim.glob g p hp).monoNo ev2⟩
    · intro c β sz g h
      rcases live2 h with ⟨h, _⟩ | ⟨h, _⟩
      · obtain ⟨a1, a2, a3⟩ := sim.live c β sz g h
        refine ⟨a1, Nat.lt_of_lt_of_le a2 s.below.size, fun hf => ?_⟩
        rcases s.frz β hf with h' | h'
        · exact a3 h'
        · omega
      · obtain ⟨a1, a2, a3⟩ := s.live _ β sz g h
        exact ⟨Nat.le_trans sim.below.size a1, a2, a3⟩
    · intro c c' β sz g sz' g' h h'
      rcases live2 h with ⟨h, _⟩ | ⟨h, hc1⟩ <;> rcases live2 h' with ⟨h', _⟩ | ⟨h', hc2⟩
      · exact sim.inj c c' β sz g sz' g' h h'
      · have := (sim.live _ _ _ _ h).2.1; have := (s.live _ _ _ _ h').1; omega
      · have := (sim.live _ _ _ _ h').2.1; have := (s.live _ _ _ _ h).1; omega
      · have := s.inj _ _ β sz g sz' g' h h'; omega
    · intro β hf
      rcases s.frz β hf with h | h
      · exact sim.frz β h
      · exact .inr (Nat.le_trans sim.below.size h)
    · intro c k hk' hnu
      by_cases hc' : H.n ≤ c ∧ c < H.n + K.n
      · rw [m2hi c hc'.1 hc'.2] at hnu ⊢
        have hgc : G.f c = (K.f (c - H.n)).bind (shiftB H.n) := by
          rw [hG.2 c (by simp [Hp.addH]; omega)]
          simp only [Hp.addH]
          rw [if_neg (by omega)]
        rw [hgc, Option.bind_eq_some_iff] at hk'
        obtain ⟨k0, hk0, hsh⟩ := hk'
        rcases s.blk _ k0 hk0 hnu with ⟨β, hm, hok⟩ | ⟨hvi, hxs⟩
        case inr =>
          unfold shiftB at hsh
          rw [hxs] at hsh
          simp only [shiftPs, Option.map_some, Option.some.injEq] at hsh
          subst hsh
          exact .inr ⟨hvi, rfl⟩
        obtain ⟨q1, q2, q3⟩ := shiftB_ok hm2 hok hsh
        exact .inl ⟨β, by rw [q2, q3]; exact hm, q1⟩
      · rw [m2lo c hc'] at hnu ⊢
        rcases sim.blk c k hk' hnu with ⟨β, hm, hok⟩ | hv
        case inr => exact .inr hv
        exact .inl ⟨β, hm, hok.mono ev2 (s.below.block β (sim.live _ _ _ _ hm).2.1)⟩
  refine hk v w' F' m2 sim2 ev2 (fun p hp => ?_) (fun b hb h => by rw [m2lo b (by simpa [Hp.addH] using hb)]; exact h)
  injection hp with hp
  subst hp
  exact shiftP_rel hm2 hv hr
end
end Go.Vm
