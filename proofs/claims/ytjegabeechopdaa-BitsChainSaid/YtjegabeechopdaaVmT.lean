/- Code: what is resolved, the weakest precondition over the VM's states, and that it is sound. -/
import Derived.Test.YtjegabeechopdaaVmS
set_option linter.unusedSimpArgs false
set_option linter.unusedVariables false
namespace Go.Vm
open Go Go.RowKit

inductive RCode where
  | skip
  | region (l : List ROper) (draw : Bool)
  | seq (a b : RCode)
  | cond (c : RO) (a b : RCode)
  | block (id : Nat) (c : RCode)
  | loop (c : RCode)
  | exit (id : Nat)
  | ret
  deriving Inhabited

def RI.isCall : RI → Bool
  | .call .. | .callv .. => true
  | _ => false

def eOf (hc : Bool) (o : ROper) : Bool := o.op.eff || (hc && o.op.isCall)

def guardOf (ops : Array Oper) (o : Oper) : Option (Option (Nat × Bool)) :=
  match o.guard with
  | none => some none
  | some (j, b) => ((ops[j]?).bind (·.dst)).map fun s => some (s, b)

def resolveOp (P : Program) (ow : Nat → Bool) (N : Nat) (ops : Array Oper) (bs : Array Nat) (i : Nat) (o : Oper) : Option ROper := do
  let ri ← resolveRI P (ow i) o
  let g ← guardOf ops o
  if o.dst.all (fun d => decide (d < N)) then some ⟨o.dst, ri, g, bs.getD i 0⟩ else none

def resolveFrom (P : Program) (ow : Nat → Bool) (N : Nat) (ops : Array Oper) (bs : Array Nat) : Nat → List Oper → Option (List ROper)
  | _, [] => some []
  | i, o :: r => do
    let q ← resolveOp P ow N ops bs i o
    let l ← resolveFrom P ow N ops bs (i + 1) r
    some (q :: l)

def resolveCode (P : Program) (ow : Nat → Nat → Bool) (N : Nat) : Code → Option RCode
  | .skip => some .skip
  | .region id ops draw => do
    let l ← resolveFrom P (ow id) N ops (if draw then Region.before ops else #[]) 0 ops.toList
    if draw then (if befOk ops l then some (.region l true) else none) else some (.region l false)
  | .seq a b => do
    let x ← resolveCode P ow N a
    let y ← resolveCode P ow N b
    some (.seq x y)
  | .cond c a b => do
    let r ← roOf c
    let x ← resolveCode P ow N a
    let y ← resolveCode P ow N b
    some (.cond r x y)
  | .block id c => (resolveCode P ow N c).map (.block id)
  | .loop c => (resolveCode P ow N c).map .loop
  | .exit id => some (.exit id)
  | .ret => some .ret
  | _ => none

inductive Ex where
  | normal | exit (id : Nat) | ret

def Hp.app (H : Hp) (l : List Blk) : Hp :=
  match l with
  | [] => H
  | l => H.add l

theorem Hp.ext {H G : Hp} (h1 : H.n = G.n) (h2 : H.f = G.f) : H = G := by
  cases H; cases G; simp at h1 h2; subst h1; subst h2; rfl

theorem Hp.app_eq (H : Hp) (l : List Blk) : H.app l = H.add l := by
  cases l with
  | nil =>
    refine Hp.ext rfl ?_
    funext c
    show H.f c = if c < H.n then H.f c else ([] : List Blk)[c - H.n]?
    by_cases h : c < H.n
    · rw [if_pos h]
    · rw [if_neg h, H.wf c (by omega)]; rfl
  | cons k l => rfl

/-- A call: what is said of the callee. e: does the region keep the text's order? -/
def WpCall (P : Program) (gl : Nat → Option PV) (e : Bool) (f : FuncId) (as : List PV) (H : Hp) (K : Option PV → Hp → Prop) : Prop :=
  (∃ bor as' r, softs H bor as = some as' ∧ Pure P gl f as' r ∧ (bor = true → scal r = true) ∧ K (some r) H) ∨
  (∃ as' r r' G, softs H false as = some as' ∧ Fresh P gl f as' r G ∧ shiftP H.n r = some r' ∧ K (some r') (H.addH G)) ∨
  (e = true ∧ ∃ r H', HSpec P gl f as H (fun r0 G => r0 = r ∧ G = H') ∧ H.n ≤ H'.n ∧ K (some r) H')

def WpOp (P : Program) (gl : Nat → Option PV) (e : Bool) (op : RI) (s : Env) (H : Hp) (K : Option PV → Hp → Prop) : Prop :=
  match op with
  | .call f args => ∃ as, evs (RO.ev gl s) args = some as ∧ WpCall P gl e f as H K
  | .callv x args => ∃ f caps as, x.ev gl s = some (.fn f caps) ∧ evs (RO.ev gl s) args = some as ∧ WpCall P gl e f (as ++ caps) H K
  | .store n x v => ∃ r H', stepE (RO.ev gl s) H (.store n x v) = some (r, H') ∧ K r H'
  | .append sz z a b => ∃ r H', stepE (RO.ev gl s) H (.append sz z a b) = some (r, H') ∧ K r H'
  | .copy sz a b => ∃ r H', stepE (RO.ev gl s) H (.copy sz a b) = some (r, H') ∧ K r H'
  | op => ∃ r ext, stepN (RO.ev gl s) H op = some (r, ext) ∧ K (some r) (H.app ext)

def WpOps (P : Program) (gl : Nat → Option PV) (e : Bool) : List ROper → Env → Hp → (Env → Hp → Prop) → Prop
  | [], s, H, Q => Q s H
  | o :: l, s, H, Q =>
    match o.guard with
    | none => WpOp P gl e o.op s H fun r H' => WpOps P gl e l (s.put o.dst r) H' Q
    | some (t, b) => ∃ p, s t = some p ∧ (p.goes b = true → WpOp P gl e o.op s H fun r H' => WpOps P gl e l (s.put o.dst r) H' Q) ∧ (p.goes b = false → ∃ j, (o.op.inert = true → j = 0) ∧ WpOps P gl e l (s.put o.dst (some (.tup []))) (H.res j) Q)

def Wp (P : Program) (gl : Nat → Option PV) : RCode → Env → Hp → (Ex → Env → Hp → Prop) → Prop
  | .skip, s, H, Q => Q .normal s H
  | .region l draw, s, H, Q => ∃ e : Bool, (draw = true → regOk (eOf e) l = true) ∧ WpOps P gl e l s H (Q .normal)
  | .seq a b, s, H, Q => Wp P gl a s H fun e s' H' => match e with | .normal => Wp P gl b s' H' Q | e => Q e s' H'
  | .cond c a b, s, H, Q => ∃ t, c.ev gl s = some (.bool t) ∧ (t = true → Wp P gl a s H Q) ∧ (t = false → Wp P gl b s H Q)
  | .block id c, s, H, Q => Wp P gl c s H fun e s' H' => match e with | .exit j => if j = id then Q .normal s' H' else Q (.exit j) s' H' | e => Q e s' H'
  | .loop c, s, H, Q => ∃ I : Nat → Env → Hp → Prop, (∃ n, I n s H) ∧ ∀ n s H, I n s H → Wp P gl c s H fun e s' H' => match e with | .normal => ∃ n', n' < n ∧ I n' s' H' | e => Q e s' H'
  | .exit id, s, H, Q => Q (.exit id) s H
  | .ret, s, H, Q => Q .ret s H

theorem stepE_n {ev : RO → Option PV} {H H' : Hp} {ri : RI} {r : Option PV} (h : stepE ev H ri = some (r, H')) : H.n ≤ H'.n := by
  unfold stepE at h
  split at h <;> simp only [Option.bind_eq_bind, Option.bind_eq_some_iff, reduceCtorEq] at h
  · obtain ⟨_, _, _, _, h⟩ := h
    split at h
    · simp only [Option.bind_eq_some_iff] at h
      obtain ⟨_, _, h⟩ := h
      split at h
      · simp only [Option.bind_eq_some_iff, Option.pure_def, Option.some.injEq, Prod.mk.injEq] at h
        obtain ⟨_, _, _, rfl⟩ := h
        exact Nat.le_refl _
      · cases h
    · cases h
  · obtain ⟨_, _, _, _, _, _, h⟩ := h
    split at h
    · split at h
      · split at h
        · simp only [Option.some.injEq, Prod.mk.injEq] at h
          rw [← h.2]
          exact (Hp.le_add _ _).1
        · cases h
      · simp only [Option.bind_eq_some_iff] at h
        obtain ⟨_, _, h⟩ := h
        split at h
        · simp only [Option.some.injEq, Prod.mk.injEq] at h
          rw [← h.2]
          exact Nat.le_refl _
        · cases h
      · cases h
    · cases h
  · obtain ⟨_, _, h⟩ := h
    split at h
    · simp only [Option.bind_eq_some_iff] at h
      obtain ⟨_, _, _, _, _, _, h⟩ := h
      split at h
      · simp only [Option.some.injEq, Prod.mk.injEq] at h
        rw [← h.2]
        exact Nat.le_refl _
      · cases h
    · cases h

theorem inert_not_eff {op : RI} (h : op.inert = true) (hc : Bool) : (op.eff || (hc && op.isCall)) = false := by
  cases op <;> simp [RI.inert] at h <;> simp [RI.eff, RI.isCall]

theorem eOf_inert (hc : Bool) (q : ROper) (h : eOf hc q = true) : q.op.inert = false := by
  cases hi : q.op.inert with
  | false => rfl
  | true => have := inert_not_eff hi hc; unfold eOf at h; rw [this] at h; cases h

section
variable {P : Program} {gl : Nat → Option PV} {own : Bool}

/-- An instruction that looks at no heap: nothing but its operands counts. -/
theorem istep_of {o : Oper} {ri : RI} {env : Env} {H : Hp} {r : PV} {ext : List Blk} (hi : ri.inert = true) (hres : resolveRI P own o = some ri) (hp : stepN (RO.ev gl env) H ri = some (r, ext)) : IStep P gl o ri.reads env (some r) ∧ ext = [] := by
  have hext : ext = [] := stepN_noext (by cases ri <;> simp [RI.inert] at hi <;> rfl) hp
  refine ⟨?_, hext⟩
  subst hext
  -- the same of any heap
  have any : ∀ G : Hp, stepN (RO.ev gl env) G ri = some (r, []) := by
    intro G
    rw [← hp]
    cases ri <;> simp [RI.inert] at hi <;> rfl
  intro A w0 F m w G a next Q sim he hk
  obtain ⟨v, w', F', m', hr, s, e, hv, hm⟩ := stepN_sound (H := Hp.none) hres sim (fun b k hk => by simp [Hp.none] at hk) (fun k hk => by simp at hk) (fun k hk => by simp at hk) he (any Hp.none)
  unfold Oper.wp
  rw [hr]
  refine hk v w' F' m' s e (fun p hp => by injection hp with hp; subst hp; exact hv) (fun b hb => ?_)
  rw [hm b (fun k hk => by simp at hk)]
  exact hb

theorem resolve_call {o : Oper} {ri : RI} (hres : resolveRI P own o = some ri) : True := trivial

theorem estep_spec {o : Oper} {q : ROper} {s : Env} {H H' : Hp} {f : FuncId} {as : List PV} {r : PV} (hres : resolveRI P own o = some q.op) (hc : callArgs (RO.ev gl s) q.op = some (f, as)) (hP : HSpec P gl f as H (fun r0 G => r0 = r ∧ G = H')) (hle : H.n ≤ H'.n) : EStep P gl o q.op.reads s H (some r) H' := by
  refine ⟨hle, fun A w0 F m w a next Q sim hU he hk => ?_⟩
  obtain ⟨vs, hr, hvs⟩ := call_args hres sim he hP.1 hc
  have hcall := hP.2 A w0 F m w vs sim hU hvs
  unfold Oper.wp
  rw [hr, Oper.upon_enter]
  refine hcall.mono ?_
  rintro e w' ⟨v, F', m', r, H', rfl, ⟨rfl, rfl⟩, s', hu, ev, hv⟩
  exact hk v w' F' m' s' ev (fun p hp => by injection hp with hp; subst hp; exact hv) hu

/-- What WpOp says is a step. -/
theorem wpOp_step {o : Oper} {q : ROper} {hc : Bool} {s : Env} {H : Hp} {K : Option PV → Hp → Prop} (hres : resolveRI P own o = some q.op) (h : WpOp P gl hc q.op s H K) :
    ∃ r H', ((q.op.inert = true ∧ IStep P gl o q.op.reads s r ∧ H' = H) ∨ (q.op.inert = false ∧ eOf hc q = false ∧ NStep P gl o q.op.reads s H r H') ∨ (eOf hc q = true ∧ EStep P gl o q.op.reads s H r H')) ∧ K r H' := by
  -- a step that changes nothing, under either flag
  have ofN : ∀ {r H'}, q.op.inert = false → NStep P gl o q.op.reads s H r H' → K r H' → ∃ r H', ((q.op.inert = true ∧ IStep P gl o q.op.reads s r ∧ H' = H) ∨ (q.op.inert = false ∧ eOf hc q = false ∧ NStep P gl o q.op.reads s H r H') ∨ (eOf hc q = true ∧ EStep P gl o q.op.reads s H r H')) ∧ K r H' := by
    intro r H' hi hN hK
    cases he : eOf hc q with
    | false => exact ⟨r, H', .inr (.inl ⟨hi, rfl, hN⟩), hK⟩
    | true => exact ⟨r, H', .inr (.inr ⟨rfl, .ofN hN⟩), hK⟩
  have call : ∀ {f as}, q.op.inert = false → q.op.isCall = true → callArgs (RO.ev gl s) q.op = some (f, as) → WpCall P gl hc f as H K → ∃ r H', ((q.op.inert = true ∧ IStep P gl o q.op.reads s r ∧ H' = H) ∨ (q.op.inert = false ∧ eOf hc q = false ∧ NStep P gl o q.op.reads s H r H') ∨ (eOf hc q = true ∧ EStep P gl o q.op.reads s H r H')) ∧ K r H' := by
    intro f as hi hic hca hw
    rcases hw with ⟨bor, as', r, h1, h2, h3, hK⟩ | ⟨as', r, r', G, h1, h2, h3, hK⟩ | ⟨rfl, r, H', hS, hle, hK⟩
    · exact ofN hi (nstep_pure hres hca h1 h2 h3) hK
    · exact ofN hi (nstep_fresh hres hca h1 h2 h3) hK
    · exact ⟨some r, H', .inr (.inr ⟨by unfold eOf; rw [hic]; simp, estep_spec hres hca hS hle⟩), hK⟩
  have plain : q.op.eff = false → q.op.isCall = false → (∃ r ext, stepN (RO.ev gl s) H q.op = some (r, ext) ∧ K (some r) (H.app ext)) → ∃ r H', ((q.op.inert = true ∧ IStep P gl o q.op.reads s r ∧ H' = H) ∨ (q.op.inert = false ∧ eOf hc q = false ∧ NStep P gl o q.op.reads s H r H') ∨ (eOf hc q = true ∧ EStep P gl o q.op.reads s H r H')) ∧ K r H' := by
    rintro h1 h2 ⟨r, ext, hp, hK⟩
    cases hi : q.op.inert with
    | true =>
      obtain ⟨hI, rfl⟩ := istep_of hi hres hp
      exact ⟨_, _, .inl ⟨rfl, hI, rfl⟩, hK⟩
    | false =>
      rw [Hp.app_eq] at hK
      have := ofN hi (nstep_of hres hp) hK
      rwa [hi] at this
  have effE : ∀ {r H'}, q.op.eff = true → stepE (RO.ev gl s) H q.op = some (r, H') → K r H' → ∃ r H', ((q.op.inert = true ∧ IStep P gl o q.op.reads s r ∧ H' = H) ∨ (q.op.inert = false ∧ eOf hc q = false ∧ NStep P gl o q.op.reads s H r H') ∨ (eOf hc q = true ∧ EStep P gl o q.op.reads s H r H')) ∧ K r H' := by
    intro r H' he hp hK
    exact ⟨r, H', .inr (.inr ⟨by unfold eOf; rw [he]; rfl, estep_of (stepE_n hp) hres hp⟩), hK⟩
  unfold WpOp at h
  split at h
  · rename_i f args hop
    obtain ⟨as, h1, h2⟩ := h
    exact call (by rw [hop]; rfl) (by rw [hop]; rfl) (by rw [hop]; simp [callArgs, h1]) h2
  · rename_i x args hop
    obtain ⟨f, caps, as, h1, h2, h3⟩ := h
    exact call (by rw [hop]; rfl) (by rw [hop]; rfl) (by rw [hop]; simp [callArgs, h1, h2]) h3
  · rename_i hop
    obtain ⟨r, H', h1, h2⟩ := h
    exact effE (by rw [hop]; rfl) (by rw [hop]; exact h1) h2
  · rename_i hop
    obtain ⟨r, H', h1, h2⟩ := h
    exact effE (by rw [hop]; rfl) (by rw [hop]; exact h1) h2
  · rename_i hop
    obtain ⟨r, H', h1, h2⟩ := h
    exact effE (by rw [hop]; rfl) (by rw [hop]; exact h1) h2
  · rename_i h1 h2 h3 h4 h5
    refine plain ?_ ?_ h
    · cases hop : q.op <;> first | rfl | exact absurd hop (h3 _ _ _) | exact absurd hop (h4 _ _ _ _) | exact absurd hop (h5 _ _ _)
    · cases hop : q.op <;> first | rfl | exact absurd hop (h1 _ _) | exact absurd hop (h2 _ _)

/-- The steps of a region, in the text's order. -/
theorem trace_of {hc : Bool} : ∀ (l : List ROper) (opsf : Nat → Option Oper) (s : Env) (H : Hp) (Q : Env → Hp → Prop), (∀ (i : Nat) (q : ROper), l[i]? = some q → ∃ o own, opsf i = some o ∧ resolveRI P own o = some q.op) → WpOps P gl hc l s H Q →
    ∃ (env : Nat → Env) (hp : Nat → Hp), env 0 = s ∧ hp 0 = H ∧ Q (env l.length) (hp l.length) ∧ ∀ (i : Nat) (o : Oper) (q : ROper), opsf i = some o → l[i]? = some q → StepK P gl o q (eOf hc q) (env i) (hp i) (env (i + 1)) (hp (i + 1))
  | [], opsf, s, H, Q, _, h => ⟨fun _ => s, fun _ => H, rfl, rfl, h, fun i o q _ hq => by simp at hq⟩
  | q :: l, opsf, s, H, Q, hr, h => by
    obtain ⟨o, own, ho, hres⟩ := hr 0 q rfl
    have hr' : ∀ (i : Nat) (q : ROper), l[i]? = some q → ∃ o own, opsf (i + 1) = some o ∧ resolveRI P own o = some q.op := fun i q hq => hr (i + 1) q (by simpa using hq)
    have go : ∀ (s' : Env) (H' : Hp), StepK P gl o q (eOf hc q) s H s' H' → WpOps P gl hc l s' H' Q → ∃ (env : Nat → Env) (hp : Nat → Hp), env 0 = s ∧ hp 0 = H ∧ Q (env (q :: l).length) (hp (q :: l).length) ∧
        ∀ (i : Nat) (o : Oper) (q' : ROper), opsf i = some o → (q :: l)[i]? = some q' → StepK P gl o q' (eOf hc q') (env i) (hp i) (env (i + 1)) (hp (i + 1)) := by
      intro s' H' hs hw
      obtain ⟨env, hp, e1, e2, hQ, hst⟩ := trace_of l (fun i => opsf (i + 1)) s' H' Q hr' hw
      refine ⟨fun i => match i with | 0 => s | i + 1 => env i, fun i => match i with | 0 => H | i + 1 => hp i, rfl, rfl, hQ, fun i o' q' ho' hq' => ?_⟩
      cases i with
      | zero =>
        simp only [List.getElem?_cons_zero, Option.some.injEq] at hq'
        subst hq'
        rw [ho] at ho'
        injection ho' with ho'
        subst ho'
        simp only [e1, e2]
        exact hs
      | succ i => exact hst i o' q' ho' (by simpa using hq')
    unfold WpOps at h
    split at h
    · rename_i hg
      obtain ⟨r, H', hst, hK⟩ := wpOp_step hres h
      exact go _ _ (.run (.inl hg) r rfl hst) hK
    · rename_i t b hg
      obtain ⟨p, hs, h1, h2⟩ := h
      cases hb : p.goes b with
      | true =>
        obtain ⟨r, H', hst, hK⟩ := wpOp_step hres (h1 hb)
        exact go _ _ (.run (.inr ⟨t, b, p, hg, hs, hb⟩) r rfl hst) hK
      | false =>
        obtain ⟨j, hj, h2⟩ := h2 hb
        exact go _ _ (.skip t b p j hg hs hb rfl rfl hj) h2

theorem resolveFrom_get {ow : Nat → Bool} {N : Nat} {ops : Array Oper} {bs : Array Nat} : ∀ {os : List Oper} {j : Nat} {l : List ROper}, resolveFrom P ow N ops bs j os = some l → os.length = l.length ∧
    ∀ (i : Nat) (o : Oper) (q : ROper), os[i]? = some o → l[i]? = some q → resolveOp P ow N ops bs (j + i) o = some q
  | [], j, l, h => by
    simp [resolveFrom] at h
    subst h
    exact ⟨rfl, fun i o q h => by simp at h⟩
  | o :: os, j, l, h => by
    simp only [resolveFrom, Option.bind_eq_bind, Option.bind_eq_some_iff, Option.some.injEq] at h
    obtain ⟨q, hq, l', hl, rfl⟩ := h
    obtain ⟨e, ih⟩ := resolveFrom_get hl
    refine ⟨by simp [e], fun i o' q' h1 h2 => ?_⟩
    cases i with
    | zero =>
      simp only [List.getElem?_cons_zero, Option.some.injEq] at h1 h2
      subst h1
      subst h2
      exact hq
    | succ i =>
      have := ih i o' q' (by simpa using h1) (by simpa using h2)
      rwa [show j + (i + 1) = j + 1 + i by omega]

theorem resolveOp_spec {ow : Nat → Bool} {N : Nat} {ops : Array Oper} {bs : Array Nat} {i : Nat} {o : Oper} {q : ROper} (h : resolveOp P ow N ops bs i o = some q) :
    resolveRI P (ow i) o = some q.op ∧ guardOf ops o = some q.guard ∧ q.dst = o.dst ∧ (∀ d, q.dst = some d → d < N) := by
  simp only [resolveOp, Option.bind_eq_bind, Option.bind_eq_some_iff] at h
  obtain ⟨ri, h1, g, h2, h⟩ := h
  split at h
  · rename_i h3
    injection h with h
    subst h
    refine ⟨h1, h2, rfl, fun d hd => ?_⟩
    simp only at hd
    rw [hd] at h3
    simpa using h3
  · cases h

theorem match_of {ow : Nat → Bool} {N : Nat} {ops : Array Oper} {bs : Array Nat} {l : List ROper} (h : resolveFrom P ow N ops bs 0 ops.toList = some l) : OpsMatch ops l ∧ (∀ (i : Nat) (q : ROper), l[i]? = some q → ∃ o own, ops[i]? = some o ∧ resolveRI P own o = some q.op) ∧ (∀ q ∈ l, ∀ d, q.dst = some d → d < N) := by
  obtain ⟨e, hg⟩ := resolveFrom_get h
  have hlen : ops.size = l.length := by simpa using e
  have at_ : ∀ (i : Nat) (q : ROper), l[i]? = some q → ∃ o, ops[i]? = some o ∧ resolveOp P ow N ops bs i o = some q := by
    intro i q hq
    have hi : i < l.length := (List.getElem?_eq_some_iff.1 hq).1
    have ho : ops[i]? = some (ops[i]'(by omega)) := Array.getElem?_eq_getElem _
    refine ⟨_, ho, ?_⟩
    have := hg i (ops[i]'(by omega)) q (by rw [Array.getElem?_toList]; exact ho) hq
    simpa using this
  refine ⟨⟨hlen, fun i o q ho hq => ?_⟩, fun i q hq => ?_, fun q hq d hd => ?_⟩
  · obtain ⟨o', ho', hr⟩ := at_ i q hq
    rw [ho] at ho'
    injection ho' with ho'
    subst ho'
    obtain ⟨h1, h2, h3, h4⟩ := resolveOp_spec hr
    refine ⟨h3, ?_⟩
    unfold guardOf at h2
    split at h2
    · rename_i hgd
      injection h2 with h2
      rw [hgd]
      exact h2.symm
    · rename_i j b hgd
      rw [Option.map_eq_some_iff] at h2
      obtain ⟨s, hs, h2⟩ := h2
      rw [hgd]
      exact ⟨s, h2.symm, hs⟩
  · obtain ⟨o, ho, hr⟩ := at_ i q hq
    exact ⟨o, _, ho, (resolveOp_spec hr).1⟩
  · obtain ⟨i, hi, rfl⟩ := List.mem_iff_getElem.1 hq
    obtain ⟨o, ho, hr⟩ := at_ i _ (List.getElem?_eq_getElem hi)
    exact (resolveOp_spec hr).2.2.2 d hd

/-- The state of the VM and the frame's. -/
def SRel (gl : Nat → Option PV) (A : Nat → Prop) (w0 : World) (F0 : Nat → Prop) (m0 : Nat → Slot) (w00 : World) (N : Nat) (ds : List Deferred) (a : Act) (w : World) (s : Env) (H : Hp) : Prop :=
  ∃ F m, Sim gl A w0 F m w H ∧ Ev F0 m0 w00 F m w ∧ (∀ t p, s t = some p → VRel F w m (a.tmps.getD t undef) p) ∧ (∀ b, H.n ≤ b → m b = .unborn) ∧ N ≤ a.tmps.size ∧ a.defers = ds

variable {A : Nat → Prop} {w0 : World} {F0 : Nat → Prop} {m0 : Nat → Slot} {w00 : World} {N : Nat} {ds : List Deferred}

theorem Sim.drew' {F m w H} (sim : Sim gl A w0 F m w H) : Sim gl A w0 F m { w with drawn := w.drawn + 1 } H ∧ Ev F m w F m { w with drawn := w.drawn + 1 } := sim.drew

/-- One operation where the world holds just the heap. -/
theorem wpOp_here {o : Oper} {q : ROper} {e : Bool} {s : Env} {H : Hp} {K : Option PV → Hp → Prop} (hres : resolveRI P own o = some q.op) (h : WpOp P gl e q.op s H K)
    {F : Nat → Prop} {m : Nat → Slot} {w : World} {a : Act} {next : Act → World → Prop} {Q : Exit → Act → World → Prop} (sim : Sim gl A w0 F m w H) (hU : ∀ b, H.n ≤ b → m b = .unborn) (he : ERel F m w a s q.op.reads)
    (hk : ∀ r H' v w' F' m', K r H' → Sim gl A w0 F' m' w' H' → Ev F m w F' m' w' → ORel F' m' w' v r → (∀ b, H'.n ≤ b → m' b = .unborn) → next (a.put o.dst v) w') : o.wp P a w next Q := by
  obtain ⟨r, H', hst, hK⟩ := wpOp_step (hc := e) hres h
  rcases hst with ⟨_, hI, rfl⟩ | ⟨_, _, hN⟩ | ⟨_, hE⟩
  · exact hI A w0 F m w H' a _ _ sim he (fun v w' F' m' s' ev hv hmu => hk r H' v w' F' m' hK s' ev hv (fun b hb => hmu b (hU b hb)))
  · exact (EStep.ofN hN).2 A w0 F m w a _ _ sim hU he (fun v w' F' m' s' ev hv hmu => hk r H' v w' F' m' hK s' ev hv hmu)
  · exact hE.2 A w0 F m w a _ _ sim hU he (fun v w' F' m' s' ev hv hmu => hk r H' v w' F' m' hK s' ev hv hmu)

/-- A region in the text's order. -/
theorem in_order {ops : Array Oper} {L : List ROper} {e : Bool} {Q0 : Env → Hp → Prop} {Q : Exit → Act → World → Prop} (hm : OpsMatch ops L) (hres : ∀ (i : Nat) (q : ROper), L[i]? = some q → ∃ o own, ops[i]? = some o ∧ resolveRI P own o = some q.op) (hd : ∀ q ∈ L, ∀ d, q.dst = some d → d < N)
    (fin : ∀ a w s H, Q0 s H → SRel gl A w0 F0 m0 w00 N ds a w s H → Q .normal a w) : ∀ (l : List ROper) (i : Nat) (s : Env) (H : Hp) (a : Act) (w : World), i + l.length = L.length → (∀ j, l[j]? = L[i + j]?) → WpOps P gl e l s H Q0 → SRel gl A w0 F0 m0 w00 N ds a w s H → wpOps P ops Q (List.range' i l.length) a w
  | [], i, s, H, a, w, hi, hl, h, hs => fin a w s H h hs
  | q :: l, i, s, H, a, w, hi, hl, h, hs => by
    simp only [List.length_cons] at hi ⊢
    rw [List.range'_succ, wpOps_cons]
    have hq : L[i]? = some q := by have := hl 0; simpa using this.symm
    obtain ⟨o, own, ho, hro⟩ := hres i q hq
    have hmi := hm.2 i o q ho hq
    have hqm : q ∈ L := List.mem_of_getElem? hq
    obtain ⟨F, m, sim, ev, ht, hu, hN, hds⟩ := hs
    have hER : ERel F m w a s q.op.reads := fun t _ p hp => ht t p hp
    have next : ∀ (r : Option PV) (H' : Hp) (v : Value) (w' : World) (F' : Nat → Prop) (m' : Nat → Slot), WpOps P gl e l (s.put q.dst r) H' Q0 → Sim gl A w0 F' m' w' H' → Ev F m w F' m' w' → ORel F' m' w' v r → (∀ b, H'.n ≤ b → m' b = .unborn) →
        wpOps P ops Q (List.range' (i + 1) l.length) (a.put o.dst v) w' := by
      intro r H' v w' F' m' h1 h2 h3 h4 h5
      refine in_order hm hres hd fin l (i + 1) _ H' _ _ (by omega) (fun j => by have := hl (j + 1); rw [show i + (j + 1) = i + 1 + j by omega] at this; simpa using this) h1 ⟨F', m', h2, ev.trans h3, fun t p hp => ?_, h5, by rw [put_size]; exact hN, by rw [put_defers']; exact hds⟩
      rw [← hmi.1]
      cases hqd : q.dst with
      | none =>
        rw [hqd] at hp
        exact (ht t p hp).mono h3
      | some d =>
        rw [hqd] at hp
        rw [put_get]
        by_cases htd : t = d
        · subst htd
          rw [if_pos ⟨rfl, by have := hd q hqm t hqd; omega⟩]
          exact h4 p (by simpa [Env.put] using hp)
        · rw [if_neg (fun e => htd e.1)]
          exact (ht t p (by simpa [Env.put, htd] using hp)).mono h3
    have doit : Region.wanted o (yielded ops a.tmps) = true → (WpOp P gl e q.op s H fun r H' => WpOps P gl e l (s.put q.dst r) H' Q0) → wpOp P ops Q i (wpOps P ops Q (List.range' (i + 1) l.length)) a w := by
      intro hw hop
      unfold wpOp
      simp only [ho, hw, if_true]
      exact .inl (wpOp_here hro hop sim hu hER next)
    unfold WpOps at h
    split at h
    · rename_i hg
      exact doit (wanted_none hmi hg) h
    · rename_i t b hg
      obtain ⟨p, hs, h1, h2⟩ := h
      have hwp := wanted_of (ops := ops) (a := a) hmi hg (ht t p hs)
      cases hb : p.goes b with
      | true => exact doit (by rw [hwp, hb]) (h1 hb)
      | false =>
        have hw : Region.wanted o (yielded ops a.tmps) = false := by rw [hwp, hb]
        unfold wpOp
        simp only [ho, hw, Bool.false_eq_true, if_false]
        obtain ⟨j, hj, h2⟩ := h2 hb
        refine next _ _ undef w F m h2 (sim.ext (fun _ _ => rfl)) (Ev.refl sim.fnl sim.liv) (fun p hp => ?_) (fun b hb => hu b (by simp [Hp.res] at hb; omega))
        injection hp with hp
        subst hp
        exact .tup #[] [] rfl (fun i h1 => absurd h1 (by simp))

/-- How a piece of code ends, in the VM and in the machine. -/
def exOf : Exit → Option Ex
  | .normal => some .normal
  | .exit id => some (.exit id)
  | .ret => some .ret
  | _ => none

/-- WHAT THE VM'S CALCULUS TELLS OF CODE IS SO. -/
theorem wp_sound (hmix : P.follows .mixedOrders = true) {ow : Nat → Nat → Bool} : ∀ (c : Code) (rc : RCode), resolveCode P ow N c = some rc → ∀ (s : Env) (H : Hp) (Q : Ex → Env → Hp → Prop) (a : Act) (w : World), Wp P gl rc s H Q → SRel gl A w0 F0 m0 w00 N ds a w s H →
    c.wp P (fun e a' w' => ∃ x s' H', exOf e = some x ∧ Q x s' H' ∧ SRel gl A w0 F0 m0 w00 N ds a' w' s' H') a w := by
  intro c
  induction c with
  | skip =>
    intro rc hr s H Q a w h hs
    simp only [resolveCode, Option.some.injEq] at hr
    subst hr
    exact wp_skip ⟨.normal, s, H, rfl, h, hs⟩
  | exit id =>
    intro rc hr s H Q a w h hs
    simp only [resolveCode, Option.some.injEq] at hr
    subst hr
    exact wp_exit ⟨.exit id, s, H, rfl, h, hs⟩
  | ret =>
    intro rc hr s H Q a w h hs
    simp only [resolveCode, Option.some.injEq] at hr
    subst hr
    exact wp_ret ⟨.ret, s, H, rfl, h, hs⟩
  | seq x y ihx ihy =>
    intro rc hr s H Q a w h hs
    simp only [resolveCode, Option.bind_eq_bind, Option.bind_eq_some_iff, Option.some.injEq] at hr
    obtain ⟨rx, hx, ry, hy, rfl⟩ := hr
    refine wp_seq (wp_mono (ihx rx hx s H _ a w h hs) ?_)
    rintro e a' w' ⟨x, s', H', he, hq, hs'⟩
    cases e <;> simp only [exOf, Option.some.injEq, reduceCtorEq] at he
    · subst he
      exact ihy ry hy s' H' Q a' w' hq hs'
    · subst he
      exact ⟨_, s', H', rfl, hq, hs'⟩
    · subst he
      exact ⟨_, s', H', rfl, hq, hs'⟩
  | cond c x y ihx ihy =>
    intro rc hr s H Q a w h hs
    simp only [resolveCode, Option.bind_eq_bind, Option.bind_eq_some_iff, Option.some.injEq] at hr
    obtain ⟨r, hc, rx, hx, ry, hy, rfl⟩ := hr
    obtain ⟨t, ht, h1, h2⟩ := h
    obtain ⟨F, m, sim, ev, htm, hrest⟩ := id hs
    have hv := RO.rel sim hc (fun t _ p hp => htm t p hp) ht
    generalize hev : a.eval c = v at hv
    cases hv
    cases t with
    | true => exact wp_cond_true hev (ihx rx hx s H Q a w (h1 rfl) hs)
    | false => exact wp_cond_false hev (ihy ry hy s H Q a w (h2 rfl) hs)
  | block id c ih =>
    intro rc hr s H Q a w h hs
    simp only [resolveCode, Option.map_eq_some_iff] at hr
    obtain ⟨rx, hx, rfl⟩ := hr
    refine wp_block (wp_mono (ih rx hx s H _ a w h hs) ?_)
    rintro e a' w' ⟨x, s', H', he, hq, hs'⟩
    cases e <;> simp only [exOf, Option.some.injEq, reduceCtorEq] at he
    · subst he
      exact ⟨_, s', H', rfl, hq, hs'⟩
    · subst he
      simp only at hq
      unfold Exit.inBlock
      simp only
      split at hq
      · rename_i hid
        rw [if_pos hid]
        exact ⟨_, s', H', rfl, hq, hs'⟩
      · rename_i hid
        rw [if_neg hid]
        exact ⟨_, s', H', rfl, hq, hs'⟩
    · subst he
      exact ⟨_, s', H', rfl, hq, hs'⟩
  | loop c ih =>
    intro rc hr s H Q a w h hs
    simp only [resolveCode, Option.map_eq_some_iff] at hr
    obtain ⟨rx, hx, rfl⟩ := hr
    obtain ⟨I, ⟨n, hI⟩, hround⟩ := h
    refine Go.wp_loop_ghost (fun n a w => ∃ s H, I n s H ∧ SRel gl A w0 F0 m0 w00 N ds a w s H) n ⟨s, H, hI, hs⟩ ?_
    rintro n a' w' ⟨s', H', hI', hs'⟩
    refine wp_mono (ih rx hx s' H' _ a' w' (hround n s' H' hI') hs') ?_
    rintro e a2 w2 ⟨x, s2, H2, he, hq, hs2⟩
    cases e <;> simp only [exOf, Option.some.injEq, reduceCtorEq] at he
    · subst he
      obtain ⟨n', hn', hI2⟩ := hq
      exact ⟨n', hn', s2, H2, hI2, hs2⟩
    · subst he
      exact ⟨_, s2, H2, rfl, hq, hs2⟩
    · subst he
      exact ⟨_, s2, H2, rfl, hq, hs2⟩
  | region id ops draw =>
    intro rc hr s H Q a w h hs
    simp only [resolveCode, Option.bind_eq_bind, Option.bind_eq_some_iff] at hr
    obtain ⟨l, hl, hr⟩ := hr
    obtain ⟨hm, hres, hd⟩ := match_of hl
    cases draw with
    | false =>
      simp only [Bool.false_eq_true, if_false, Option.some.injEq] at hr
      subst hr
      obtain ⟨e, _, h⟩ := h
      refine wp_region ?_
      rw [List.range_eq_range', hm.1]
      exact in_order hm hres hd (fun a w s H hQ hs => ⟨.normal, _, _, rfl, hQ, hs⟩) l 0 s H a w (by omega) (fun j => by simp) h hs
    | true =>
      simp only [if_true] at hr
      split at hr
      · rename_i hb
        simp only [Option.some.injEq] at hr
        subst hr
        obtain ⟨e, hreg, h⟩ := h
        have hreg := hreg rfl
        obtain ⟨env, hp, e1, e2, hQ, hst⟩ := trace_of (hc := e) l (fun i => ops[i]?) s H _ hres h
        refine wp_region_any hmix ?_
        obtain ⟨F, m, sim, ev, ht, hu, hN, hds⟩ := hs
        obtain ⟨simd, evd⟩ := sim.drew'
        have R : Region1 P gl ops l (eOf e) a.tmps.size env hp := ⟨hm, hreg, hb, fun q _ h => eOf_inert e q h, hst, fun q hq d hd' => Nat.lt_of_lt_of_le (hd q hq d hd') hN⟩
        rw [hm.1]
        -- where the first that may change what is there stands
        obtain ⟨k, hk, hkmin⟩ := exists_least (p := fun k => k = l.length ∨ Eof (eOf e) l k) ⟨l.length, .inl rfl⟩
        have hkl : k ≤ l.length := hkmin _ (.inl rfl)
        have hle : (hp 0).le (hp k) := by
          refine le_span (by omega) (fun j hj1 hj2 => ?_)
          have hq' : l[j]? = some (l[j]'(by omega)) := List.getElem?_eq_getElem _
          refine (hst j _ _ (Array.getElem?_eq_getElem (by have := hm.1; omega)) hq').le ?_
          cases h : eOf e l[j] with
          | false => rfl
          | true => exact absurd (hkmin j (.inr ⟨_, hq', h⟩)) (by omega)
        have hlof : ∀ j, Lof (Array.replicate l.length false) j = false := by
          intro j
          unfold Lof
          simp only [Array.getD_eq_getD_getElem?, Array.getElem?_replicate]
          split <;> rfl
        have hnm := fun {b : Nat} => n_span (hp := hp) (n := l.length) (a := 0) (b := b) (fun j hj => (hst j _ _ (Array.getElem?_eq_getElem (by have := hm.1; omega)) (List.getElem?_eq_getElem hj)).n)
        refine any_order (A := A) (w0 := w0) (F0 := F0) (m0 := m0) (w00 := w00) (ds := ds) R ?_ l.length _ _ _ ⟨by simp, ?_, ⟨F, m, k, hkl, fun h => ⟨hk.resolve_left (by omega), hlof k⟩, fun j hj hE => absurd (hkmin j (.inr hE)) (by omega), ?_, ev.trans evd, ?_, ?_, ?_⟩, rfl, hds⟩ ?_
        · intro a' w' F' m' s' ev' ht' hu' hN' hds'
          exact ⟨.normal, _, _, rfl, hQ, F', m', s', ev', ht', hu', by rw [hN']; exact hN, hds'⟩
        · intro j o ho hL
          rw [hlof] at hL
          cases hL
        · refine simd.ext fun b hb => ?_
          have hbn : b < H.n := Nat.lt_of_not_le fun h => hb (hu b h)
          rw [← e2] at hbn ⊢
          exact hle.2 b hbn
        · intro t p hp'
          rw [envL_skip (Nat.zero_le _) (fun k _ _ h => by rw [hlof] at h; cases h.1)] at hp'
          have : env 0 t = some p := hp'
          rw [e1] at this
          exact (ht t p this).mono evd
        · intro j hj _ b hb1 _
          refine hu b ?_
          rw [← e2]
          exact Nat.le_trans (hnm (Nat.zero_le _) (by omega)) hb1
        · intro b hb
          refine hu b ?_
          rw [← e2]
          exact Nat.le_trans (hnm (Nat.zero_le _) (Nat.le_refl _)) hb
        · have : (List.range l.length).countP (Lof (Array.replicate l.length false)) = 0 := by
            rw [List.countP_eq_zero]
            intro j _
            rw [hlof]
            simp
          rw [this]
          omega
      · cases hr
  | _ =>
    intro rc hr
    simp [resolveCode] at hr
end
end Go.Vm
