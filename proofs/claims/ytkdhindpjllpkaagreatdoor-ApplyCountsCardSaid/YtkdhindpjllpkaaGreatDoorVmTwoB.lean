/- Laid. -/
import Derived.Test.YtkdhindpjllpkaaGreatDoorVmTwo
import Derived.Test.YtkdhindpjllpkaaGreatDoorVmOne
import Derived.OpenShut
import Derived.ChangeShapes
import Derived.ChangeOld
set_option linter.unusedSimpArgs false
set_option linter.unusedVariables false
set_option maxRecDepth 100000
namespace Go.Vm
open Go Go.RowKit
inductive RCode where
  | skip
  | region (l : List ROper) (draw : Bool)
  | seq (a b : RCode)
  | cond (c : RO) (a b : RCode)
  | block (id : Nat) (c : RCode)
  | loop (c : RCode)
  | exit (id : Nat)
  | ret
  | range (x : RO) (ps : List Nat) (a b : RCode)
  | nope
  deriving Inhabited
def RI.isCall : RI → Bool
  | .call .. | .callv .. => true
  | _ => false
def eOf (hc : Bool) (o : ROper) : Bool := o.op.eff || (hc && o.op.isCall)
def guardOf (ops : Array Oper) (o : Oper) : Option (Option (Nat × Bool)) :=
  match o.guard with
  | none => some none
  | some (j, b) => ((ops[j]?).bind (·.dst)).map fun s => some (s, b)
def resolveOp (P : Program) (ow : Nat → Bool) (N : Nat) (ops : Array Oper) (bs : Array Nat) (i : Nat) (o : Oper) : Option ROper := do
  let ri ← resolveRI P (ow i) o
  let g ← guardOf ops o
  if o.dst.all (fun d => decide (d < N)) then some ⟨o.dst, ri, g, bs.getD i 0⟩ else none
def resolveFrom (P : Program) (ow : Nat → Bool) (N : Nat) (ops : Array Oper) (bs : Array Nat) : Nat → List Oper → Option (List ROper)
  | _, [] => some []
  | i, o :: r => do
    let q ← resolveOp P ow N ops bs i o
    let l ← resolveFrom P ow N ops bs (i + 1) r
    some (q :: l)
def whenB (b : Bool) (x : Option RCode) : Option RCode := if b then x else none
def resolveCode (P : Program) (ow : Nat → Nat → Bool) (N : Nat) : Code → Option RCode
  | .skip => some .skip
  | .region id ops draw => do
    let l ← resolveFrom P (ow id) N ops (if draw then Region.before ops else #[]) 0 ops.toList
    if draw then (if befOk ops l then some (.region l true) else none) else some (.region l false)
  | .seq a b => do
    let x ← resolveCode P ow N a
    let y ← resolveCode P ow N b
    some (.seq x y)
  | .cond c a b => do
    let r ← roOf c
    let x ← resolveCode P ow N a
    let y ← resolveCode P ow N b
    some (.cond r x y)
  | .block id c => (resolveCode P ow N c).map (.block id)
  | .loop c => (resolveCode P ow N c).map .loop
  | .exit id => some (.exit id)
  | .ret => some .ret
  | .rangeFunc x ps a b => do
    let r ← roOf x
    let p ← resolveCode P ow N a
    let q ← whenB (ps.toList.all fun t => decide (t < N)) (resolveCode P ow N b)
    some (.range r ps.toList p q)
  | _ => some .nope
inductive Ex where
  | normal | exit (id : Nat) | ret
def Hp.app (H : Hp) (l : List Blk) : Hp :=
  match l with
  | [] => H
  | l => H.add l
theorem Hp.ext {H G : Hp} (h1 : H.n = G.n) (h2 : H.f = G.f) : H = G := by
  cases H; cases G; simp at h1 h2; subst h1; subst h2; rfl
theorem Hp.app_eq (H : Hp) (l : List Blk) : H.app l = H.add l := by
  cases l with
  | nil =>
    refine Hp.ext rfl ?_
    funext c
    show H.f c = if c < H.n then H.f c else ([] : List Blk)[c - H.n]?
    by_cases h : c < H.n
    · rw [if_pos h]
    · rw [if_neg h, H.wf c (by omega)]; rfl
  | cons k l => rfl
def WpCall (P : Program) (gl : Nat → Option PV) (e : Bool) (f : FuncId) (as : List PV) (H : Hp) (K : Option PV → Hp → Prop) : Prop :=
  (∃ bor as' r, softs H bor as = some as' ∧ Pure P gl f as' r ∧ (bor = true → scal r = true) ∧ K (some r) H) ∨
  (∃ as' r r' G, softs H false as = some as' ∧ Fresh P gl f as' r G ∧ shiftP H.n r = some r' ∧ K (some r') (H.addH G)) ∨
  (e = true ∧ ∃ r H', HSpec P gl f as H (fun r0 G => r0 = r ∧ G = H') ∧ H.n ≤ H'.n ∧ K (some r) H')
def WpOp (P : Program) (gl : Nat → Option PV) (e : Bool) (op : RI) (s : Env) (H : Hp) (K : Option PV → Hp → Prop) : Prop :=
  match op with
  | .call f args => ∃ as, evs (RO.ev gl s) args = some as ∧ WpCall P gl e f as H K
  | .callP f args => ∃ as as' r, evs (RO.ev gl s) args = some as ∧ softs H false as = some as' ∧ Pure P gl f as' r ∧ K (some r) H
  | .callv x args => (∃ f caps as, x.ev gl s = some (.fn f caps) ∧ evs (RO.ev gl s) args = some as ∧ WpCall P gl e f (as ++ caps) H K) ∨
      (e = true ∧ ∃ b as r H', x.ev gl s = some (.yld b) ∧ evs (RO.ev gl s) args = some as ∧ YSpec P gl b as H (fun r0 G => r0 = r ∧ G = H') ∧ H.n ≤ H'.n ∧ K (some r) H')
  | .store n x v => ∃ r H', stepE (RO.ev gl s) H (.store n x v) = some (r, H') ∧ K r H'
  | .append sz z a b => ∃ r H', stepE (RO.ev gl s) H (.append sz z a b) = some (r, H') ∧ K r H'
  | .copy sz a b => ∃ r H', stepE (RO.ev gl s) H (.copy sz a b) = some (r, H') ∧ K r H'
  | .eprim t l => ∃ r H', stepE (RO.ev gl s) H (.eprim t l) = some (r, H') ∧ K r H'
  | op => ∃ r ext, stepN (RO.ev gl s) H op = some (r, ext) ∧ K (some r) (H.app ext)
def WpOps (P : Program) (gl : Nat → Option PV) (e : Bool) : List ROper → Env → Hp → (Env → Hp → Prop) → Prop
  | [], s, H, Q => Q s H
  | o :: l, s, H, Q =>
    match o.guard with
    | none => WpOp P gl e o.op s H fun r H' => WpOps P gl e l (s.put o.dst r) H' Q
    | some (t, b) => ∃ p, s t = some p ∧ (p.goes b = true → WpOp P gl e o.op s H fun r H' => WpOps P gl e l (s.put o.dst r) H' Q) ∧ (p.goes b = false → ∃ j, (o.op.inert = true → j = 0) ∧ WpOps P gl e l (s.put o.dst (some (.tup []))) (H.res j) Q)
def Wp (P : Program) (gl : Nat → Option PV) : RCode → Env → Hp → (Ex → Env → Hp → Prop) → Prop
  | .skip, s, H, Q => Q .normal s H
  | .region l draw, s, H, Q => ∃ e : Bool, (draw = true → regOk (eOf e) l = true) ∧ WpOps P gl e l s H (Q .normal)
  | .seq a b, s, H, Q => Wp P gl a s H fun e s' H' => match e with | .normal => Wp P gl b s' H' Q | e => Q e s' H'
  | .cond c a b, s, H, Q => ∃ t, c.ev gl s = some (.bool t) ∧ (t = true → Wp P gl a s H Q) ∧ (t = false → Wp P gl b s H Q)
  | .block id c, s, H, Q => Wp P gl c s H fun e s' H' => match e with | .exit j => if j = id then Q .normal s' H' else Q (.exit j) s' H' | e => Q e s' H'
  | .loop c, s, H, Q => ∃ I : Nat → Env → Hp → Prop, (∃ n, I n s H) ∧ ∀ n s H, I n s H → Wp P gl c s H fun e s' H' => match e with | .normal => ∃ n', n' < n ∧ I n' s' H' | e => Q e s' H'
  | .exit id, s, H, Q => Q (.exit id) s H
  | .ret, s, H, Q => Q .ret s H
  | .range .., _, _, _ => False
  | .nope, _, _, _ => False
theorem stepE_n {ev : RO → Option PV} {H H' : Hp} {ri : RI} {r : Option PV} (h : stepE ev H ri = some (r, H')) : H.n ≤ H'.n := by
  unfold stepE at h
  split at h <;> simp only [Option.bind_eq_bind, Option.bind_eq_some_iff, reduceCtorEq] at h
  · obtain ⟨_, _, _, _, h⟩ := h
    split at h
    · simp only [Option.bind_eq_some_iff] at h
      obtain ⟨_, _, h⟩ := h
      split at h
      · simp only [Option.bind_eq_some_iff, Option.pure_def, Option.some.injEq, Prod.mk.injEq] at h
        obtain ⟨_, _, _, rfl⟩ := h
        exact Nat.le_refl _
      · cases h
    · cases h
  · obtain ⟨_, _, _, _, _, _, h⟩ := h
    split at h
    · split at h
      · split at h
        · simp only [Option.some.injEq, Prod.mk.injEq] at h
          rw [← h.2]
          exact (Hp.le_add _ _).1
        · split at h
          · simp only [Option.some.injEq, Prod.mk.injEq] at h
            rw [← h.2]
            exact Nat.le_refl _
          · cases h
      · simp only [Option.bind_eq_some_iff] at h
        obtain ⟨_, _, h⟩ := h
        split at h
        · simp only [Option.some.injEq, Prod.mk.injEq] at h
          rw [← h.2]
          exact Nat.le_refl _
        · cases h
      · cases h
    · cases h
  · obtain ⟨_, _, h⟩ := h
    split at h
    · simp only [Option.bind_eq_some_iff] at h
      obtain ⟨_, _, _, _, _, _, h⟩ := h
      split at h
      · simp only [Option.some.injEq, Prod.mk.injEq] at h
        rw [← h.2]
        exact Nat.le_refl _
      · cases h
    · cases h
  · obtain ⟨_, _, h1⟩ := h
    unfold eprimF at h1
    split at h1 <;> try contradiction
    · simp only [Option.some.injEq, Prod.mk.injEq] at h1
      rw [← h1.2]
      exact (Hp.le_add _ _).1
    · rw [Option.bind_eq_some_iff] at h1
      obtain ⟨_, _, h1⟩ := h1
      split at h1 <;> try contradiction
      simp only [Option.some.injEq, Prod.mk.injEq] at h1
      rw [← h1.2]
      exact Nat.le_refl _
    · split at h1 <;> try contradiction
      split at h1 <;> try contradiction
      · simp only [Option.some.injEq, Prod.mk.injEq] at h1
        rw [← h1.2]
        exact Nat.le_refl _
      · simp only [Option.bind_eq_bind, Option.bind_eq_some_iff] at h1
        obtain ⟨_, _, _, _, h1⟩ := h1
        split at h1 <;> try contradiction
        simp only [Option.some.injEq, Prod.mk.injEq] at h1
        rw [← h1.2]
        exact Nat.le_refl _
      · simp only [Option.bind_eq_bind, Option.bind_eq_some_iff] at h1
        obtain ⟨_, _, h1⟩ := h1
        split at h1 <;> try contradiction
        simp only [Option.some.injEq, Prod.mk.injEq] at h1
        rw [← h1.2]
        exact Nat.le_refl _
theorem inert_not_eff {op : RI} (h : op.inert = true) (hc : Bool) : (op.eff || (hc && op.isCall)) = false := by
  cases op <;> simp [RI.inert] at h <;> simp [RI.eff, RI.isCall]
theorem eOf_inert (hc : Bool) (q : ROper) (h : eOf hc q = true) : q.op.inert = false := by
  cases hi : q.op.inert with
  | false => rfl
  | true => have := inert_not_eff hi hc; unfold eOf at h; rw [this] at h; cases h
section
variable {P : Program} {gl : Nat → Option PV} {own : Bool}
theorem inert_prim {t : Prim} {args : List RO} (hi : (RI.prim t args).inert = true) (H G : Hp) (q : List PV) : primF G t q = primF H t q := by
  cases t with
  | sliceSl sz lo h mx =>
    cases lo <;> cases mx <;> simp [RI.inert] at hi
    cases q with
    | nil => rfl
    | cons x bs =>
      simp only [primF]
      cases x <;> simp [hi]
  | _ => simp [RI.inert] at hi
theorem istep_of {o : Oper} {ri : RI} {env : Env} {H : Hp} {r : PV} {ext : List Blk} (hi : ri.inert = true) (hres : resolveRI P own o = some ri) (hp : stepN (RO.ev gl env) H ri = some (r, ext)) : IStep P gl o ri.reads env (some r) ∧ ext = [] := by
  have hext : ext = [] := stepN_noext (by cases ri <;> simp [RI.inert] at hi <;> rfl) hp
  refine ⟨?_, hext⟩
  subst hext
  -- the same of any heap
  have any : ∀ G : Hp, stepN (RO.ev gl env) G ri = some (r, []) := by
    intro G
    rw [← hp]
    cases ri with
    | prim t args => simp only [stepN, inert_prim hi H G]
    | _ => first | rfl | (simp [RI.inert] at hi; done)
  intro ro A w0 F m w G a next Q sim he hk
  obtain ⟨v, w', F', m', hr, s, e, hv, hm⟩ := stepN_sound (H := Hp.none) hres sim (fun b k hk => by simp [Hp.none] at hk) (fun k hk => by simp at hk) (fun k hk => by simp at hk) he (any Hp.none)
  refine ow_of hres (fun e => by rw [e] at hi; cases hi) ?_
  rw [hr]
  refine hk v w' F' m' s e (fun p hp => by injection hp with hp; subst hp; exact hv) (fun b hb => ?_)
  rw [hm b (fun k hk => by simp at hk)]
  exact hb
theorem estep_spec {o : Oper} {q : ROper} {s : Env} {H H' : Hp} {f : FuncId} {as : List PV} {r : PV} (hres : resolveRI P own o = some q.op) (hc : callArgs (RO.ev gl s) q.op = some (f, as)) (hP : HSpec P gl f as H (fun r0 G => r0 = r ∧ G = H')) (hle : H.n ≤ H'.n) : EStep P gl o q.op.reads s H (some r) H' := by
  refine ⟨hle, fun ro A w0 F m w a next Q sim hU he hk => ?_⟩
  obtain ⟨vs, hr, hvs⟩ := call_args hres sim he hP.1 hc
  have hcall := hP.2 A w0 F m w vs sim hU hvs
  refine ow_of hres (fun e => by rw [e] at hc; cases hc) ?_
  rw [hr, Oper.uponIn_enter]
  refine ⟨fun h => (by cases h), callsIn_RF (hcall.mono ?_)⟩
  rintro e w' ⟨v, F', m', r, H', rfl, ⟨rfl, rfl⟩, s', hu, ev, hv⟩
  exact hk v w' F' m' s' ev (fun p hp => by injection hp with hp; subst hp; exact hv) hu
theorem estep_yield {o : Oper} {x : RO} {rs : List RO} {s : Env} {H H' : Hp} {b : Nat} {as : List PV} {r : PV} (hres : resolveRI P own o = some (.callv x rs)) (hx : x.ev gl s = some (.yld b)) (has : evs (RO.ev gl s) rs = some as) (hY : YSpec P gl b as H (fun r0 G => r0 = r ∧ G = H')) (hle : H.n ≤ H'.n) : EStep P gl o (RI.callv x rs).reads s H (some r) H' := by
  refine ⟨hle, fun ro A w0 F m w a next Q sim hU he hk => ?_⟩
  obtain ⟨vs, β, hr, hm, hvs⟩ := yield_args hres sim he hx has
  obtain ⟨f, tmps, assign, body, hy, hround⟩ := hY A w0 F m w vs β sim hU hm hvs
  refine ow_of hres (by simp) ?_
  rw [hr, hy, Oper.uponIn_round]
  refine ⟨fun h => (by cases h), RoundIn.mono (F := Fence.wide) hround ?_⟩
  rintro e w' ⟨v, F', m', r, H', rfl, ⟨rfl, rfl⟩, s', hu, ev, hv⟩
  exact hk v w' F' m' s' ev (fun p hp => by injection hp with hp; subst hp; exact hv) hu
theorem wpOp_step {o : Oper} {q : ROper} {hc : Bool} {s : Env} {H : Hp} {K : Option PV → Hp → Prop} (hres : resolveRI P own o = some q.op) (h : WpOp P gl hc q.op s H K) :
    ∃ r H', ((q.op.inert = true ∧ IStep P gl o q.op.reads s r ∧ H' = H) ∨ (q.op.inert = false ∧ eOf hc q = false ∧ NStep P gl o q.op.reads s H r H') ∨ (eOf hc q = true ∧ EStep P gl o q.op.reads s H r H')) ∧ K r H' := by
  -- a step that changes nothing, under either flag
  have ofN : ∀ {r H'}, q.op.inert = false → NStep P gl o q.op.reads s H r H' → K r H' → ∃ r H', ((q.op.inert = true ∧ IStep P gl o q.op.reads s r ∧ H' = H) ∨ (q.op.inert = false ∧ eOf hc q = false ∧ NStep P gl o q.op.reads s H r H') ∨ (eOf hc q = true ∧ EStep P gl o q.op.reads s H r H')) ∧ K r H' := by
    intro r H' hi hN hK
    cases he : eOf hc q with
    | false => exact ⟨r, H', .inr (.inl ⟨hi, rfl, hN⟩), hK⟩
    | true => exact ⟨r, H', .inr (.inr ⟨rfl, .ofN hN⟩), hK⟩
  have call : ∀ {f as}, q.op.inert = false → q.op.isCall = true → callArgs (RO.ev gl s) q.op = some (f, as) → WpCall P gl hc f as H K → ∃ r H', ((q.op.inert = true ∧ IStep P gl o q.op.reads s r ∧ H' = H) ∨ (q.op.inert = false ∧ eOf hc q = false ∧ NStep P gl o q.op.reads s H r H') ∨ (eOf hc q = true ∧ EStep P gl o q.op.reads s H r H')) ∧ K r H' := by
    intro f as hi hic hca hw
    rcases hw with ⟨bor, as', r, h1, h2, h3, hK⟩ | ⟨as', r, r', G, h1, h2, h3, hK⟩ | ⟨rfl, r, H', hS, hle, hK⟩
    · exact ofN hi (nstep_pure hres hca h1 h2 h3) hK
    · exact ofN hi (nstep_fresh hres hca h1 h2 h3) hK
    · exact ⟨some r, H', .inr (.inr ⟨by unfold eOf; rw [hic]; simp, estep_spec hres hca hS hle⟩), hK⟩
  have plain : q.op.eff = false → q.op.isCall = false → (∃ r ext, stepN (RO.ev gl s) H q.op = some (r, ext) ∧ K (some r) (H.app ext)) → ∃ r H', ((q.op.inert = true ∧ IStep P gl o q.op.reads s r ∧ H' = H) ∨ (q.op.inert = false ∧ eOf hc q = false ∧ NStep P gl o q.op.reads s H r H') ∨ (eOf hc q = true ∧ EStep P gl o q.op.reads s H r H')) ∧ K r H' := by
    rintro h1 h2 ⟨r, ext, hp, hK⟩
    cases hi : q.op.inert with
    | true =>
      obtain ⟨hI, rfl⟩ := istep_of hi hres hp
      exact ⟨_, _, .inl ⟨rfl, hI, rfl⟩, hK⟩
    | false =>
      rw [Hp.app_eq] at hK
      have := ofN hi (nstep_of hres hp) hK
      rwa [hi] at this
  have effE : ∀ {r H'}, q.op.eff = true → stepE (RO.ev gl s) H q.op = some (r, H') → K r H' → ∃ r H', ((q.op.inert = true ∧ IStep P gl o q.op.reads s r ∧ H' = H) ∨ (q.op.inert = false ∧ eOf hc q = false ∧ NStep P gl o q.op.reads s H r H') ∨ (eOf hc q = true ∧ EStep P gl o q.op.reads s H r H')) ∧ K r H' := by
    intro r H' he hp hK
    exact ⟨r, H', .inr (.inr ⟨by unfold eOf; rw [he]; rfl, estep_of (stepE_n hp) hres hp⟩), hK⟩
  unfold WpOp at h
  split at h
  · rename_i f args hop
    obtain ⟨as, h1, h2⟩ := h
    exact call (by rw [hop]; rfl) (by rw [hop]; rfl) (by rw [hop]; simp [callArgs, h1]) h2
  · rename_i f args hop
    obtain ⟨as, as', r, h1, h2, h3, h4⟩ := h
    have hca : callArgs (RO.ev gl s) q.op = some (f, as) := by rw [hop]; simp [callArgs, h1]
    exact ofN (by rw [hop]; rfl) (nstep_pure hres hca h2 h3 (by simp)) h4
  · rename_i x args hop
    rcases h with ⟨f, caps, as, h1, h2, h3⟩ | ⟨rfl, b, as, r, H', h1, h2, h3, h4, h5⟩
    · exact call (by rw [hop]; rfl) (by rw [hop]; rfl) (by rw [hop]; simp [callArgs, h1, h2]) h3
    · refine ⟨some r, H', .inr (.inr ⟨by unfold eOf; rw [hop]; rfl, ?_⟩), h5⟩
      rw [hop] at hres ⊢
      exact estep_yield hres h1 h2 h3 h4
  · rename_i hop
    obtain ⟨r, H', h1, h2⟩ := h
    exact effE (by rw [hop]; rfl) (by rw [hop]; exact h1) h2
  · rename_i hop
    obtain ⟨r, H', h1, h2⟩ := h
    exact effE (by rw [hop]; rfl) (by rw [hop]; exact h1) h2
  · rename_i hop
    obtain ⟨r, H', h1, h2⟩ := h
    exact effE (by rw [hop]; rfl) (by rw [hop]; exact h1) h2
  · rename_i hop
    obtain ⟨r, H', h1, h2⟩ := h
    exact effE (by rw [hop]; rfl) (by rw [hop]; exact h1) h2
  · rename_i h1 hP h2 h3 h4 h5 h6
    refine plain ?_ ?_ h
    · cases hop : q.op <;> first | rfl | exact absurd hop (h3 _ _ _) | exact absurd hop (h4 _ _ _ _) | exact absurd hop (h5 _ _ _) | exact absurd hop (h6 _ _)
    · cases hop : q.op <;> first | rfl | exact absurd hop (h1 _ _) | exact absurd hop (h2 _ _)
theorem trace_of {hc : Bool} : ∀ (l : List ROper) (opsf : Nat → Option Oper) (s : Env) (H : Hp) (Q : Env → Hp → Prop), (∀ (i : Nat) (q : ROper), l[i]? = some q → ∃ o own, opsf i = some o ∧ resolveRI P own o = some q.op) → WpOps P gl hc l s H Q →
    ∃ (env : Nat → Env) (hp : Nat → Hp), env 0 = s ∧ hp 0 = H ∧ Q (env l.length) (hp l.length) ∧ ∀ (i : Nat) (o : Oper) (q : ROper), opsf i = some o → l[i]? = some q → StepK P gl o q (eOf hc q) (env i) (hp i) (env (i + 1)) (hp (i + 1))
  | [], opsf, s, H, Q, _, h => ⟨fun _ => s, fun _ => H, rfl, rfl, h, fun i o q _ hq => by simp at hq⟩
  | q :: l, opsf, s, H, Q, hr, h => by
    obtain ⟨o, own, ho, hres⟩ := hr 0 q rfl
    have hr' : ∀ (i : Nat) (q : ROper), l[i]? = some q → ∃ o own, opsf (i + 1) = some o ∧ resolveRI P own o = some q.op := fun i q hq => hr (i + 1) q (by simpa using hq)
    have go : ∀ (s' : Env) (H' : Hp), StepK P gl o q (eOf hc q) s H s' H' → WpOps P gl hc l s' H' Q → ∃ (env : Nat → Env) (hp : Nat → Hp), env 0 = s ∧ hp 0 = H ∧ Q (env (q :: l).length) (hp (q :: l).length) ∧
        ∀ (i : Nat) (o : Oper) (q' : ROper), opsf i = some o → (q :: l)[i]? = some q' → StepK P gl o q' (eOf hc q') (env i) (hp i) (env (i + 1)) (hp (i + 1)) := by
      intro s' H' hs hw
      obtain ⟨env, hp, e1, e2, hQ, hst⟩ := trace_of l (fun i => opsf (i + 1)) s' H' Q hr' hw
      refine ⟨fun i => match i with | 0 => s | i + 1 => env i, fun i => match i with | 0 => H | i + 1 => hp i, rfl, rfl, hQ, fun i o' q' ho' hq' => ?_⟩
      cases i with
      | zero =>
        simp only [List.getElem?_cons_zero, Option.some.injEq] at hq'
        subst hq'
        rw [ho] at ho'
        injection ho' with ho'
        subst ho'
        simp only [e1, e2]
        exact hs
      | succ i => exact hst i o' q' ho' (by simpa using hq')
    unfold WpOps at h
    split at h
    · rename_i hg
      obtain ⟨r, H', hst, hK⟩ := wpOp_step hres h
      exact go _ _ (.run (.inl hg) r rfl hst) hK
    · rename_i t b hg
      obtain ⟨p, hs, h1, h2⟩ := h
      cases hb : p.goes b with
      | true =>
        obtain ⟨r, H', hst, hK⟩ := wpOp_step hres (h1 hb)
        exact go _ _ (.run (.inr ⟨t, b, p, hg, hs, hb⟩) r rfl hst) hK
      | false =>
        obtain ⟨j, hj, h2⟩ := h2 hb
        exact go _ _ (.skip t b p j hg hs hb rfl rfl hj) h2
theorem resolveFrom_get {ow : Nat → Bool} {N : Nat} {ops : Array Oper} {bs : Array Nat} : ∀ {os : List Oper} {j : Nat} {l : List ROper}, resolveFrom P ow N ops bs j os = some l → os.length = l.length ∧
    ∀ (i : Nat) (o : Oper) (q : ROper), os[i]? = some o → l[i]? = some q → resolveOp P ow N ops bs (j + i) o = some q
  | [], j, l, h => by
    simp [resolveFrom] at h
    subst h
    exact ⟨rfl, fun i o q h => by simp at h⟩
  | o :: os, j, l, h => by
    simp only [resolveFrom, Option.bind_eq_bind, Option.bind_eq_some_iff, Option.some.injEq] at h
    obtain ⟨q, hq, l', hl, rfl⟩ := h
    obtain ⟨e, ih⟩ := resolveFrom_get hl
    refine ⟨by simp [e], fun i o' q' h1 h2 => ?_⟩
    cases i with
    | zero =>
      simp only [List.getElem?_cons_zero, Option.some.injEq] at h1 h2
      subst h1
      subst h2
      exact hq
    | succ i =>
      have := ih i o' q' (by simpa using h1) (by simpa using h2)
      rwa [show j + (i + 1) = j + 1 + i by omega]
theorem resolveOp_spec {ow : Nat → Bool} {N : Nat} {ops : Array Oper} {bs : Array Nat} {i : Nat} {o : Oper} {q : ROper} (h : resolveOp P ow N ops bs i o = some q) :
    resolveRI P (ow i) o = some q.op ∧ guardOf ops o = some q.guard ∧ q.dst = o.dst ∧ (∀ d, q.dst = some d → d < N) := by
  simp only [resolveOp, Option.bind_eq_bind, Option.bind_eq_some_iff] at h
  obtain ⟨ri, h1, g, h2, h⟩ := h
  split at h
  · rename_i h3
    injection h with h
    subst h
    refine ⟨h1, h2, rfl, fun d hd => ?_⟩
    simp only at hd
    rw [hd] at h3
    simpa using h3
  · cases h
theorem match_of {ow : Nat → Bool} {N : Nat} {ops : Array Oper} {bs : Array Nat} {l : List ROper} (h : resolveFrom P ow N ops bs 0 ops.toList = some l) : OpsMatch ops l ∧ (∀ (i : Nat) (q : ROper), l[i]? = some q → ∃ o own, ops[i]? = some o ∧ resolveRI P own o = some q.op) ∧ (∀ q ∈ l, ∀ d, q.dst = some d → d < N) := by
  obtain ⟨e, hg⟩ := resolveFrom_get h
  have hlen : ops.size = l.length := by simpa using e
  have at_ : ∀ (i : Nat) (q : ROper), l[i]? = some q → ∃ o, ops[i]? = some o ∧ resolveOp P ow N ops bs i o = some q := by
    intro i q hq
    have hi : i < l.length := (List.getElem?_eq_some_iff.1 hq).1
    have ho : ops[i]? = some (ops[i]'(by omega)) := Array.getElem?_eq_getElem _
    refine ⟨_, ho, ?_⟩
    have := hg i (ops[i]'(by omega)) q (by rw [Array.getElem?_toList]; exact ho) hq
    simpa using this
  refine ⟨⟨hlen, fun i o q ho hq => ?_⟩, fun i q hq => ?_, fun q hq d hd => ?_⟩
  · obtain ⟨o', ho', hr⟩ := at_ i q hq
    rw [ho] at ho'
    injection ho' with ho'
    subst ho'
    obtain ⟨h1, h2, h3, h4⟩ := resolveOp_spec hr
    refine ⟨h3, ?_⟩
    unfold guardOf at h2
    split at h2
    · rename_i hgd
      injection h2 with h2
      rw [hgd]
      exact h2.symm
    · rename_i j b hgd
      rw [Option.map_eq_some_iff] at h2
      obtain ⟨s, hs, h2⟩ := h2
      rw [hgd]
      exact ⟨s, h2.symm, hs⟩
  · obtain ⟨o, ho, hr⟩ := at_ i q hq
    exact ⟨o, _, ho, (resolveOp_spec hr).1⟩
  · obtain ⟨i, hi, rfl⟩ := List.mem_iff_getElem.1 hq
    obtain ⟨o, ho, hr⟩ := at_ i _ (List.getElem?_eq_getElem hi)
    exact (resolveOp_spec hr).2.2.2 d hd
def SRel (gl : Nat → Option PV) (A : Nat → Prop) (w0 : World) (F0 : Nat → Prop) (m0 : Nat → Slot) (w00 : World) (N : Nat) (ds : List Deferred) (a : Act) (w : World) (s : Env) (H : Hp) : Prop :=
  ∃ F m, Sim gl A w0 F m w H ∧ Ev F0 m0 w00 F m w ∧ (∀ t p, s t = some p → VRel F w m (a.tmps.getD t undef) p) ∧ (∀ b, H.n ≤ b → m b = .unborn) ∧ N ≤ a.tmps.size ∧ DsOk ds w00 F m a w
variable {A : Nat → Prop} {w0 : World} {F0 : Nat → Prop} {m0 : Nat → Slot} {w00 : World} {N : Nat} {ds : List Deferred}
theorem Sim.drew' {F m w H} (sim : Sim gl A w0 F m w H) : Sim gl A w0 F m { w with drawn := w.drawn + 1 } H ∧ Ev F m w F m { w with drawn := w.drawn + 1 } := sim.drew
theorem wpOp_here {ro : Option Nat} {o : Oper} {q : ROper} {e : Bool} {s : Env} {H : Hp} {K : Option PV → Hp → Prop} (hres : resolveRI P own o = some q.op) (h : WpOp P gl e q.op s H K)
    {F : Nat → Prop} {m : Nat → Slot} {w : World} {a : Act} {next : Act → World → Prop} {Q : Exit → Act → World → Prop} (sim : Sim gl A w0 F m w H) (hU : ∀ b, H.n ≤ b → m b = .unborn) (he : ERel F m w a s q.op.reads)
    (hk : ∀ r H' v w' F' m', K r H' → Sim gl A w0 F' m' w' H' → Ev F m w F' m' w' → ORel F' m' w' v r → (∀ b, H'.n ≤ b → m' b = .unborn) → next (a.put o.dst v) w') : o.wpIn (RF ro) 0 P a w next Q := by
  obtain ⟨r, H', hst, hK⟩ := wpOp_step (hc := e) hres h
  rcases hst with ⟨_, hI, rfl⟩ | ⟨_, _, hN⟩ | ⟨_, hE⟩
  · exact hI ro A w0 F m w H' a _ _ sim he (fun v w' F' m' s' ev hv hmu => hk r H' v w' F' m' hK s' ev hv (fun b hb => hmu b (hU b hb)))
  · exact (EStep.ofN hN).2 ro A w0 F m w a _ _ sim hU he (fun v w' F' m' s' ev hv hmu => hk r H' v w' F' m' hK s' ev hv hmu)
  · exact hE.2 ro A w0 F m w a _ _ sim hU he (fun v w' F' m' s' ev hv hmu => hk r H' v w' F' m' hK s' ev hv hmu)
theorem in_order {ro : Option Nat} {ops : Array Oper} {L : List ROper} {e : Bool} {Q0 : Env → Hp → Prop} {Q : Exit → Act → World → Prop} (hm : OpsMatch ops L) (hres : ∀ (i : Nat) (q : ROper), L[i]? = some q → ∃ o own, ops[i]? = some o ∧ resolveRI P own o = some q.op) (hd : ∀ q ∈ L, ∀ d, q.dst = some d → d < N)
    (fin : ∀ a w s H, Q0 s H → SRel gl A w0 F0 m0 w00 N ds a w s H → Q .normal a w) : ∀ (l : List ROper) (i : Nat) (s : Env) (H : Hp) (a : Act) (w : World), i + l.length = L.length → (∀ j, l[j]? = L[i + j]?) → WpOps P gl e l s H Q0 → SRel gl A w0 F0 m0 w00 N ds a w s H → wpOpsIn (RF ro) 0 P ops Q (List.range' i l.length) a w
  | [], i, s, H, a, w, hi, hl, h, hs => fin a w s H h hs
  | q :: l, i, s, H, a, w, hi, hl, h, hs => by
    simp only [List.length_cons] at hi ⊢
    rw [List.range'_succ, wpOpsIn_cons]
    have hq : L[i]? = some q := by have := hl 0; simpa using this.symm
    obtain ⟨o, own, ho, hro⟩ := hres i q hq
    have hmi := hm.2 i o q ho hq
    have hqm : q ∈ L := List.mem_of_getElem? hq
    obtain ⟨F, m, sim, ev, ht, hu, hN, hds⟩ := hs
    have hER : ERel F m w a s q.op.reads := fun t _ p hp => ht t p hp
    have next : ∀ (r : Option PV) (H' : Hp) (v : Value) (w' : World) (F' : Nat → Prop) (m' : Nat → Slot), WpOps P gl e l (s.put q.dst r) H' Q0 → Sim gl A w0 F' m' w' H' → Ev F m w F' m' w' → ORel F' m' w' v r → (∀ b, H'.n ≤ b → m' b = .unborn) →
        wpOpsIn (RF ro) 0 P ops Q (List.range' (i + 1) l.length) (a.put o.dst v) w' := by
      intro r H' v w' F' m' h1 h2 h3 h4 h5
      refine in_order hm hres hd fin l (i + 1) _ H' _ _ (by omega) (fun j => by have := hl (j + 1); rw [show i + (j + 1) = i + 1 + j by omega] at this; simpa using this) h1 ⟨F', m', h2, ev.trans h3, fun t p hp => ?_, h5, by rw [put_size]; exact hN, hds.mono h3 put_defers'⟩
      rw [← hmi.1]
      cases hqd : q.dst with
      | none =>
        rw [hqd] at hp
        exact (ht t p hp).mono h3
      | some d =>
        rw [hqd] at hp
        rw [put_get]
        by_cases htd : t = d
        · subst htd
          rw [if_pos ⟨rfl, by have := hd q hqm t hqd; omega⟩]
          exact h4 p (by simpa [Env.put] using hp)
        · rw [if_neg (fun e => htd e.1)]
          exact (ht t p (by simpa [Env.put, htd] using hp)).mono h3
    have doit : Region.wanted o (yielded ops a.tmps) = true → (WpOp P gl e q.op s H fun r H' => WpOps P gl e l (s.put q.dst r) H' Q0) → wpOpIn (RF ro) 0 P ops Q i (wpOpsIn (RF ro) 0 P ops Q (List.range' (i + 1) l.length)) a w := by
      intro hw hop
      unfold wpOpIn
      simp only [ho, hw, if_true]
      exact wpOp_here hro hop sim hu hER next
    unfold WpOps at h
    split at h
    · rename_i hg
      exact doit (wanted_none hmi hg) h
    · rename_i t b hg
      obtain ⟨p, hs, h1, h2⟩ := h
      have hwp := wanted_of (ops := ops) (a := a) hmi hg (ht t p hs)
      cases hb : p.goes b with
      | true => exact doit (by rw [hwp, hb]) (h1 hb)
      | false =>
        have hw : Region.wanted o (yielded ops a.tmps) = false := by rw [hwp, hb]
        unfold wpOpIn
        simp only [ho, hw, Bool.false_eq_true, if_false]
        obtain ⟨j, hj, h2⟩ := h2 hb
        refine ⟨fun _ _ => trivial, ?_⟩
        refine next _ _ undef w F m h2 (sim.ext (fun _ _ => rfl)) (Ev.refl sim.fnl sim.liv) (fun p hp => ?_) (fun b hb => hu b (by simp [Hp.res] at hb; omega))
        injection hp with hp
        subst hp
        exact .tup #[] [] rfl (fun i h1 => absurd h1 (by simp))
def exOf : Exit → Option Ex
  | .normal => some .normal
  | .exit id => some (.exit id)
  | .ret => some .ret
  | _ => none
theorem wp_sound (hmix : P.follows .mixedOrders = true) {ow : Nat → Nat → Bool} {ro : Option Nat} : ∀ (c : Code) (rc : RCode), resolveCode P ow N c = some rc → ∀ (s : Env) (H : Hp) (Q : Ex → Env → Hp → Prop) (a : Act) (w : World), Wp P gl rc s H Q → SRel gl A w0 F0 m0 w00 N ds a w s H →
    c.wpIn (RF ro) 0 P (fun e a' w' => ∃ x s' H', exOf e = some x ∧ Q x s' H' ∧ SRel gl A w0 F0 m0 w00 N ds a' w' s' H') a w := by
  intro c
  induction c with
  | skip =>
    intro rc hr s H Q a w h hs
    simp only [resolveCode, Option.some.injEq] at hr
    subst hr
    exact wpIn_skip ⟨.normal, s, H, rfl, h, hs⟩
  | exit id =>
    intro rc hr s H Q a w h hs
    simp only [resolveCode, Option.some.injEq] at hr
    subst hr
    exact wpIn_exit ⟨.exit id, s, H, rfl, h, hs⟩
  | ret =>
    intro rc hr s H Q a w h hs
    simp only [resolveCode, Option.some.injEq] at hr
    subst hr
    exact wpIn_ret ⟨.ret, s, H, rfl, h, hs⟩
  | seq x y ihx ihy =>
    intro rc hr s H Q a w h hs
    simp only [resolveCode, Option.bind_eq_bind, Option.bind_eq_some_iff, Option.some.injEq] at hr
    obtain ⟨rx, hx, ry, hy, rfl⟩ := hr
    refine wpIn_seq (wpIn_mono (ihx rx hx s H _ a w h hs) ?_)
    rintro e a' w' ⟨x, s', H', he, hq, hs'⟩
    cases e <;> simp only [exOf, Option.some.injEq, reduceCtorEq] at he
    · subst he
      exact ihy ry hy s' H' Q a' w' hq hs'
    · subst he
      exact ⟨_, s', H', rfl, hq, hs'⟩
    · subst he
      exact ⟨_, s', H', rfl, hq, hs'⟩
  | cond c x y ihx ihy =>
    intro rc hr s H Q a w h hs
    simp only [resolveCode, Option.bind_eq_bind, Option.bind_eq_some_iff, Option.some.injEq] at hr
    obtain ⟨r, hc, rx, hx, ry, hy, rfl⟩ := hr
    obtain ⟨t, ht, h1, h2⟩ := h
    obtain ⟨F, m, sim, ev, htm, hrest⟩ := id hs
    have hv := RO.rel sim hc (fun t _ p hp => htm t p hp) ht
    generalize hev : a.eval c = v at hv
    cases hv
    cases t with
    | true => exact wpIn_cond_true hev (ihx rx hx s H Q a w (h1 rfl) hs)
    | false => exact wpIn_cond_false hev (ihy ry hy s H Q a w (h2 rfl) hs)
  | block id c ih =>
    intro rc hr s H Q a w h hs
    simp only [resolveCode, Option.map_eq_some_iff] at hr
    obtain ⟨rx, hx, rfl⟩ := hr
    refine wpIn_block (wpIn_mono (ih rx hx s H _ a w h hs) ?_)
    rintro e a' w' ⟨x, s', H', he, hq, hs'⟩
    cases e <;> simp only [exOf, Option.some.injEq, reduceCtorEq] at he
    · subst he
      exact ⟨_, s', H', rfl, hq, hs'⟩
    · subst he
      simp only at hq
      unfold Exit.inBlock
      simp only
      split at hq
      · rename_i hid
        rw [if_pos hid]
        exact ⟨_, s', H', rfl, hq, hs'⟩
      · rename_i hid
        rw [if_neg hid]
        exact ⟨_, s', H', rfl, hq, hs'⟩
    · subst he
      exact ⟨_, s', H', rfl, hq, hs'⟩
  | loop c ih =>
    intro rc hr s H Q a w h hs
    simp only [resolveCode, Option.map_eq_some_iff] at hr
    obtain ⟨rx, hx, rfl⟩ := hr
    obtain ⟨I, ⟨n, hI⟩, hround⟩ := h
    refine Go.wpIn_loop_ghost (fun n a w => ∃ s H, I n s H ∧ SRel gl A w0 F0 m0 w00 N ds a w s H) n ⟨s, H, hI, hs⟩ ?_
    rintro n a' w' ⟨s', H', hI', hs'⟩
    refine wpIn_mono (ih rx hx s' H' _ a' w' (hround n s' H' hI') hs') ?_
    rintro e a2 w2 ⟨x, s2, H2, he, hq, hs2⟩
    cases e <;> simp only [exOf, Option.some.injEq, reduceCtorEq] at he
    · subst he
      obtain ⟨n', hn', hI2⟩ := hq
      exact ⟨n', hn', s2, H2, hI2, hs2⟩
    · subst he
      exact ⟨_, s2, H2, rfl, hq, hs2⟩
    · subst he
      exact ⟨_, s2, H2, rfl, hq, hs2⟩
  | region id ops draw =>
    intro rc hr s H Q a w h hs
    simp only [resolveCode, Option.bind_eq_bind, Option.bind_eq_some_iff] at hr
    obtain ⟨l, hl, hr⟩ := hr
    obtain ⟨hm, hres, hd⟩ := match_of hl
    cases draw with
    | false =>
      simp only [Bool.false_eq_true, if_false, Option.some.injEq] at hr
      subst hr
      obtain ⟨e, _, h⟩ := h
      refine wpIn_region ?_
      rw [List.range_eq_range', hm.1]
      exact in_order hm hres hd (fun a w s H hQ hs => ⟨.normal, _, _, rfl, hQ, hs⟩) l 0 s H a w (by omega) (fun j => by simp) h hs
    | true =>
      simp only [if_true] at hr
      split at hr
      · rename_i hb
        simp only [Option.some.injEq] at hr
        subst hr
        obtain ⟨e, hreg, h⟩ := h
        have hreg := hreg rfl
        obtain ⟨env, hp, e1, e2, hQ, hst⟩ := trace_of (hc := e) l (fun i => ops[i]?) s H _ hres h
        refine wpIn_region_any hmix ?_
        obtain ⟨F, m, sim, ev, ht, hu, hN, hds⟩ := hs
        obtain ⟨simd, evd⟩ := sim.drew'
        have R : Region1 P gl ops l (eOf e) a.tmps.size env hp := ⟨hm, hreg, hb, fun q _ h => eOf_inert e q h, hst, fun q hq d hd' => Nat.lt_of_lt_of_le (hd q hq d hd') hN⟩
        rw [hm.1]
        -- where the first that may change what is there stands
        obtain ⟨k, hk, hkmin⟩ := exists_least (p := fun k => k = l.length ∨ Eof (eOf e) l k) ⟨l.length, .inl rfl⟩
        have hkl : k ≤ l.length := hkmin _ (.inl rfl)
        have hle : (hp 0).le (hp k) := by
          refine le_span (by omega) (fun j hj1 hj2 => ?_)
          have hq' : l[j]? = some (l[j]'(by omega)) := List.getElem?_eq_getElem _
          refine (hst j _ _ (Array.getElem?_eq_getElem (by have := hm.1; omega)) hq').le ?_
          cases h : eOf e l[j] with
          | false => rfl
          | true => exact absurd (hkmin j (.inr ⟨_, hq', h⟩)) (by omega)
        have hlof : ∀ j, Lof (Array.replicate l.length false) j = false := by
          intro j
          unfold Lof
          simp only [Array.getD_eq_getD_getElem?, Array.getElem?_replicate]
          split <;> rfl
        have hnm := fun {b : Nat} => n_span (hp := hp) (n := l.length) (a := 0) (b := b) (fun j hj => (hst j _ _ (Array.getElem?_eq_getElem (by have := hm.1; omega)) (List.getElem?_eq_getElem hj)).n)
        refine any_order (A := A) (w0 := w0) (F0 := F0) (m0 := m0) (w00 := w00) (ds := ds) R ?_ l.length _ _ _ ⟨by simp, ?_, ⟨F, m, k, hkl, fun h => ⟨hk.resolve_left (by omega), hlof k⟩, fun j hj hE => absurd (hkmin j (.inr hE)) (by omega), ?_, ev.trans evd, ?_, ?_, ?_, hds.mono evd rfl⟩, rfl⟩ ?_
        · intro a' w' F' m' s' ev' ht' hu' hN' hds'
          exact ⟨.normal, _, _, rfl, hQ, F', m', s', ev', ht', hu', by rw [hN']; exact hN, hds'⟩
        · intro j o ho hL
          rw [hlof] at hL
          cases hL
        · refine simd.ext fun b hb => ?_
          have hbn : b < H.n := Nat.lt_of_not_le fun h => hb (hu b h)
          rw [← e2] at hbn ⊢
          exact hle.2 b hbn
        · intro t p hp'
          rw [envL_skip (Nat.zero_le _) (fun k _ _ h => by rw [hlof] at h; cases h.1)] at hp'
          have : env 0 t = some p := hp'
          rw [e1] at this
          exact (ht t p this).mono evd
        · intro j hj _ b hb1 _
          refine hu b ?_
          rw [← e2]
          exact Nat.le_trans (hnm (Nat.zero_le _) (by omega)) hb1
        · intro b hb
          refine hu b ?_
          rw [← e2]
          exact Nat.le_trans (hnm (Nat.zero_le _) (Nat.le_refl _)) hb
        · have : (List.range l.length).countP (Lof (Array.replicate l.length false)) = 0 := by
            rw [List.countP_eq_zero]
            intro j _
            rw [hlof]
            simp
          rw [this]
          omega
      · cases hr
  | rangeFunc x ps a b =>
    intro rc hr s H Q a w h hs
    simp only [resolveCode, Option.bind_eq_bind, Option.bind_eq_some_iff, Option.some.injEq] at hr
    obtain ⟨_, _, _, _, _, _, rfl⟩ := hr
    exact h.elim
  | _ =>
    intro rc hr s H Q a w h hs
    simp only [resolveCode, Option.some.injEq] at hr
    subst hr
    exact h.elim
end
end Go.Vm
namespace Go.Vm
open Go Go.RowKit
inductive RRes where
  | tmp (t : Nat)
  | cell (es : Shape) (t : Nat)
  deriving Inhabited
def resOf (P : Program) : List ResultVar → Option (List RRes)
  | [] => some []
  | .tmp t :: r => do
    let l ← resOf P r
    some (.tmp t :: l)
  | .cell a ty :: r => do
    let es ← shp P ty
    let l ← resOf P r
    some (.cell es a :: l)
def RRes.ev (H : Hp) (s : Env) : RRes → Option PV
  | .tmp t => s t
  | .cell es t => do
    match ← s t with
    | .ptr b g i off => do
      let k ← H.blk b g
      let e ← k.xs[i]?
      subv es (e.cells.drop off)
    | _ => none
def ressEv (H : Hp) (s : Env) : List RRes → Option (List PV)
  | [] => some []
  | x :: r => do
    let v ← x.ev H s
    let l ← ressEv H s r
    some (v :: l)
def retOf (rs : List RRes) (H : Hp) (s : Env) : Option PV := do
  match ← ressEv H s rs with
  | [v] => some v
  | l => some (.tup l)
structure RFn where
  code : RCode
  res : List RRes
  deriving Inhabited
def fnOf (P : Program) (ow : Nat → Nat → Bool) (f : FuncId) : Option RFn := do
  let fn ← P.funcs[f]?
  let c ← fn.body
  let rc ← resolveCode P ow fn.ntmps c
  let rs ← resOf P fn.results.toList
  if callOk P f then some ⟨rc, rs⟩ else none
def envOf (args : List PV) : Env := fun t => args[t]?
def WpFn (P : Program) (gl : Nat → Option PV) (F : RFn) (s : Env) (H : Hp) (R : PV → Hp → Prop) : Prop :=
  Wp P gl F.code s H fun e s' H' => match e with
    | .exit _ => False
    | _ => ∃ r, retOf F.res H' s' = some r ∧ R r H'
section
variable {P : Program} {gl : Nat → Option PV} {A : Nat → Prop} {w0 : World} {F : Nat → Prop} {m : Nat → Slot} {w : World} {G H : Hp} {p : PV}
theorem load_at (sim : Sim gl A w0 F m w H) {t : TypeId} {es : Shape} (ht : shp P t = some es) {v : Value} {b g i off : Nat} (hv : VRel F w m v (.ptr b g i off)) {k : Blk} (hk : H.blk b g = some k) {e : PV} (hxs : k.xs[i]? = some e) (hsub : subv es (e.cells.drop off) = some p) :
    ∃ v', (do loadVar t (← asAddr v) : Sem Value).run P w = .ok v' w ∧ VRel F w m v' p := by
  obtain ⟨hf, hg⟩ := Hp.blk_some hk
  obtain ⟨β, hm, ⟨cs, T, h1, h2, h3, h4⟩, hev⟩ := ptr_at sim hv hf hg
  obtain ⟨hi, rfl⟩ := List.getElem?_eq_some_iff.1 hxs
  obtain ⟨v', hr, hrel⟩ := run_loadVar' (P := P) (F := F) (m := m) (w := w) (l := (k.xs[i]).cells.drop off) (⟨β, i * k.sz + off, none⟩ : Addr) (fun j => cs.getD (i * k.sz + off + j) undef) ht hsub
    (fun j hj => by
      simp at hj
      obtain ⟨v, hv, _⟩ := h4 i hi (off + j) (by omega)
      rw [add_plain', cell_row h1, Nat.add_assoc, hv, Array.getD_eq_getD_getElem?, hv]
      rfl)
    (fun j hj => by
      simp at hj
      obtain ⟨v, hv, hr⟩ := h4 i hi (off + j) (by omega)
      rw [Nat.add_assoc, Array.getD_eq_getD_getElem?, hv]
      simpa using hr)
  exact ⟨v', by simp only [hev, asAddr, Sem.run_bind, Sem.run_pure, Result.andThen_ok, hr], hrel⟩
theorem ress_run (sim : Sim gl A w0 F m w H) {tmps : Array Value} {s : Env} (he : ∀ t p, s t = some p → VRel F w m (tmps.getD t undef) p) (f : ResultVar → Sem Value) (hf : ∀ u, f (.tmp u) = pure (tmps.getD u undef)) (hc : ∀ a t, f (.cell a t) = (do loadVar t (← asAddr (tmps.getD a undef)))) :
    ∀ {rs : List ResultVar} {qs : List RRes} {ps : List PV}, resOf P rs = some qs → ressEv H s qs = some ps → ∃ vs, (rs.mapM f).run P w = .ok vs w ∧ vs.length = ps.length ∧ ∀ i (h1 : i < vs.length) (h2 : i < ps.length), VRel F w m vs[i] ps[i]
  | [], qs, ps, h1, h2 => by
    simp only [resOf, Option.some.injEq] at h1
    subst h1
    simp only [ressEv, Option.some.injEq] at h2
    subst h2
    exact ⟨[], by simp, rfl, fun i h => absurd h (by simp)⟩
  | r :: rs, qs, ps, h1, h2 => by
    have key : ∀ q l, resOf P rs = some l → qs = q :: l → (∀ p, q.ev H s = some p → ∃ v, (f r).run P w = .ok v w ∧ VRel F w m v p) → ∃ vs, ((r :: rs).mapM f).run P w = .ok vs w ∧ vs.length = ps.length ∧ ∀ i (h1 : i < vs.length) (h2 : i < ps.length), VRel F w m vs[i] ps[i] := by
      intro q l hl hq hr
      subst hq
      simp only [ressEv, Option.bind_eq_bind, Option.bind_eq_some_iff, Option.some.injEq] at h2
      obtain ⟨p, hp, ps', hps, rfl⟩ := h2
      obtain ⟨v, hv, hvr⟩ := hr p hp
      obtain ⟨vs, hvs, hlen, hrel⟩ := ress_run sim he f hf hc hl hps
      refine ⟨v :: vs, by rw [List.mapM_cons]; simp [hv, hvs], by simp [hlen], fun i q1 q2 => ?_⟩
      cases i with
      | zero => exact hvr
      | succ i => exact hrel i (by simpa using q1) (by simpa using q2)
    cases r with
    | tmp t =>
      simp only [resOf, Option.bind_eq_bind, Option.bind_eq_some_iff, Option.some.injEq] at h1
      obtain ⟨l, hl, rfl⟩ := h1
      exact key _ l hl rfl (fun p hp => ⟨_, by rw [hf]; simp, he t p hp⟩)
    | cell a ty =>
      simp only [resOf, Option.bind_eq_bind, Option.bind_eq_some_iff, Option.some.injEq] at h1
      obtain ⟨es, hes, l, hl, rfl⟩ := h1
      refine key _ l hl rfl (fun p hp => ?_)
      simp only [RRes.ev, Option.bind_eq_bind, Option.bind_eq_some_iff] at hp
      obtain ⟨q, hq, hp⟩ := hp
      split at hp
      · simp only [Option.bind_eq_some_iff] at hp
        obtain ⟨k, hk, e, hxs, hsub⟩ := hp
        rw [hc]
        exact load_at sim hes (he _ _ hq) hk hxs hsub
      · cases hp
theorem ret_run_by (sim : Sim gl A w0 F m w H) {tmps : Array Value} {s : Env} (he : ∀ t p, s t = some p → VRel F w m (tmps.getD t undef) p) (f : ResultVar → Sem Value) (hf : ∀ u, f (.tmp u) = pure (tmps.getD u undef)) (hc : ∀ a t, f (.cell a t) = (do loadVar t (← asAddr (tmps.getD a undef))))
    {rs : List ResultVar} {qs : List RRes} (hq : resOf P rs = some qs) (hp : retOf qs H s = some p) :
    ∃ v, (((Sem.run P (List.mapM f rs) w).andThen fun a w' => Result.ok a.toArray w').andThen fun a w' => Sem.run P (pure (if h : a.size = 1 then a[0] else Value.tuple a)) w') = .ok v w ∧ VRel F w m v p := by
  simp only [retOf, Option.bind_eq_bind, Option.bind_eq_some_iff] at hp
  obtain ⟨l, hl, hp⟩ := hp
  obtain ⟨vs, hvs, hlen, hrel⟩ := ress_run sim he f hf hc hq hl
  rw [hvs]
  simp only [Result.andThen_ok]
  split at hp
  · injection hp with hp
    subst hp
    obtain ⟨v, rfl⟩ : ∃ v, vs = [v] := by
      match vs, hlen with
      | [v], _ => exact ⟨v, rfl⟩
    exact ⟨v, by simp, hrel 0 (by simp) (by simp)⟩
  · rename_i hne
    injection hp with hp
    subst hp
    have : vs.length ≠ 1 := by
      intro h
      rw [hlen] at h
      match l, h, hne with
      | [v], _, hne => exact hne v rfl
    exact ⟨.tuple vs.toArray, by simp [this], .tup _ _ (by simpa using hlen) (fun i q1 q2 => by simpa using hrel i (by simpa using q1) q2)⟩
theorem ret_run (sim : Sim gl A w0 F m w H) {fn : Func} {tmps : Array Value} {s : Env} (he : ∀ t p, s t = some p → VRel F w m (tmps.getD t undef) p) {qs : List RRes} (hq : resOf P fn.results.toList = some qs) (hp : retOf qs H s = some p) :
    ∃ v, (results fn tmps).run P w = .ok v w ∧ VRel F w m v p := by
  unfold results
  rw [show fn.results = fn.results.toList.toArray by simp, List.mapM_toArray]
  simp only [Sem.run_bind, Sem.run_map]
  exact ret_run_by sim he _ (fun u => rfl) (fun a t => rfl) hq hp
theorem fnOf_spec {ow : Nat → Nat → Bool} {f : FuncId} {K : RFn} (h : fnOf P ow f = some K) : callOk P f = true ∧ ∃ fn c, P.funcs[f]? = some fn ∧ fn.body = some c ∧ resolveCode P ow fn.ntmps c = some K.code ∧ resOf P fn.results.toList = some K.res := by
  simp only [fnOf, Option.bind_eq_bind, Option.bind_eq_some_iff] at h
  obtain ⟨fn, hfn, c, hc, rc, hrc, rs, hrs, h⟩ := h
  split at h
  · rename_i hok
    injection h with h
    subst h
    exact ⟨hok, fn, c, hfn, hc, hrc, hrs⟩
  · cases h
/-! ### How a function leaves that has ranged over functions -/
theorem putObj_row {w : World} {D : Nat} {o : Obj} (h : rowSize (w.putObj D o) D = rowSize w D) (β : Nat) : rowSize (w.putObj D o) β = rowSize w β := by
  by_cases e : β = D
  · rw [e]; exact h
  · unfold rowSize
    rw [World.putObj_heap_other e]
theorem Sim.poke (sim : Sim gl A w0 F m w H) {D : Nat} {o : Obj} (hl : ¬ LiveIn m D) (hf : ¬ F D) (hD : w0.heap.size ≤ D) (hr : rowSize (w.putObj D o) D = rowSize w D) :
    Sim gl A w0 F m (w.putObj D o) H ∧ EvV F m w F m (w.putObj D o) := by
  have ev : ∀ m', (∀ b β, (m' b).at = some β → β < w.heap.size) → EvV F m' w F m' (w.putObj D o) := fun m' h =>
    ⟨fun _ h => h, fun β hb => World.putObj_heap_other (fun e => hf (e ▸ hb)), fun β _ => putObj_row hr β, fun _ => slot_refl _, h⟩
  have hsz : (w.putObj D o).heap.size = w.heap.size := World.putObj_size
  have other : ∀ {b β}, (m b).at = some β → (w.putObj D o).heap[β]? = w.heap[β]? := fun {b β} h => World.putObj_heap_other (fun e => hl ⟨b, e ▸ h⟩)
  refine ⟨⟨⟨sim.below.os, sim.below.tape, sim.below.output, by rw [hsz]; exact sim.below.size, fun i hi => (World.putObj_heap_other (by omega)).trans (sim.below.block i hi)⟩, fun b β h => by rw [hsz]; exact sim.live b β h, sim.inj, sim.frz, fun β h => by rw [hsz]; exact sim.frzlt β h, fun b k hk hnu => ?_, fun g p hp => (sim.glob g p hp).monoV (ev noM (fun _ _ h => by simp [noM, Slot.at] at h))⟩, ev m sim.liv⟩
  rcases sim.blk b k hk hnu with ⟨β, hm, cs, T, h1, h2, h3, h4⟩ | h | ⟨β, hm, es, c, h1, h2⟩ | ⟨β, hm, L, ts, ps, h1, h2, h3, h4⟩
  · refine .inl ⟨β, hm, cs, T, (other (at_live hm)).trans h1, h2, h3, fun i hi j hj => ?_⟩
    obtain ⟨v, hv, hrel⟩ := h4 i hi j hj
    exact ⟨v, hv, hrel.monoV (ev m sim.liv)⟩
  · exact .inr (.inl h)
  · exact .inr (.inr (.inl ⟨β, hm, es, c, (other (at_mp hm)).trans h1, h2⟩))
  · exact .inr (.inr (.inr ⟨β, hm, L, ts, ps, h1, (other (at_mp hm)).trans h2, h3, fun i q1 q2 => (h4 i q1 q2).monoV (ev m sim.liv)⟩))
theorem Ev.poke {F0 m0 w00} (ev : Ev F0 m0 w00 F m w) {D : Nat} {o : Obj} (hD : w00.heap.size ≤ D) : Ev F0 m0 w00 F m (w.putObj D o) :=
  ⟨by rw [World.putObj_size]; exact ev.grow, ev.frz, ev.fnl, fun β hb hl => (World.putObj_heap_other (by omega)).trans (ev.keep β hb hl), ev.fresh, fun β hb => by
    rw [← ev.size β hb]
    unfold rowSize
    rw [World.putObj_heap_other (show β ≠ D by omega)], ev.slot, ev.liv, ev.nfz⟩
theorem mark_row {D : Nat} (h : w.heap[D]? = some (.deferred (some []))) : rowSize (w.putObj D (.deferred none)) D = rowSize w D := by
  unfold rowSize
  rw [World.putObj_heap_same (Array.getElem?_eq_some_iff.1 h).1, h]
theorem leaves_marks {fn : Func} {tmps : Array Value} {R : Ending → World → Prop} {F0 : Nat → Prop} {m0 : Nat → Slot} {w00 : World} {s : Env} (hs : w0.heap.size ≤ w00.heap.size)
    (k : ∀ w, Sim gl A w0 F m w H → Ev F0 m0 w00 F m w → (∀ t p, s t = some p → VRel F w m (tmps.getD t undef) p) → ∃ v, (results fn tmps).run P w = .ok v w ∧ R (.returned v) w) :
    ∀ (Ds : List Nat) (w : World), Ds.Nodup → (∀ D ∈ Ds, w.heap[D]? = some (.deferred (some [])) ∧ ¬ LiveIn m D ∧ ¬ F D ∧ w00.heap.size ≤ D) → Sim gl A w0 F m w H → Ev F0 m0 w00 F m w → (∀ t p, s t = some p → VRel F w m (tmps.getD t undef) p) →
      LeavesInM Fence.wide 0 P fn tmps R (Ds.map fun D => { target := .collected D, args := #[] }) .returning w
  | [], w, _, _, sim, ev, ht => k w sim ev ht
  | D :: Ds, w, hn, hall, sim, ev, ht => by
    obtain ⟨h1, h2, h3, h4⟩ := hall D (by simp)
    obtain ⟨sim', evv⟩ := sim.poke (o := .deferred none) h2 h3 (by omega) (mark_row h1)
    rw [List.nodup_cons] at hn
    refine ⟨by simp, .inl ⟨D, _, rfl, run_takeDeferred h1, ?_⟩⟩
    refine leaves_marks hs k Ds _ hn.2 (fun D' hD' => ?_) sim' (ev.poke h4) (fun t p hp => (ht t p hp).monoV evv)
    obtain ⟨q1, q2, q3, q4⟩ := hall D' (by simp [hD'])
    exact ⟨(World.putObj_heap_other (show D' ≠ D from fun e => hn.1 (by rw [← e]; exact hD'))).trans q1, q2, q3, q4⟩
theorem calls_fin {f : FuncId} {fn : Func} {c : Code} {rs : List RRes} (hfn : P.funcs[f]? = some fn) (hc : fn.body = some c) (hrs : resOf P fn.results.toList = some rs) {R : PV → Hp → Prop} {vs : Array Value}
    (sim0 : Sim gl A w0 F m w H)
    (h : c.wpIn (RF none) 0 P (fun e a' w' => ∃ x s' H', exOf e = some x ∧ (match x with | .exit _ => False | _ => ∃ r, retOf rs H' s' = some r ∧ R r H') ∧ SRel gl A w0 F m w fn.ntmps [] a' w' s' H') { tmps := vs ++ Array.replicate (fn.ntmps - vs.size) undef, defers := [] } w) :
    Calls P f vs w fun e w' => ∃ v F' m' r H', e = .returned v ∧ R r H' ∧ Sim gl A w0 F' m' w' H' ∧ (∀ b, H'.n ≤ b → m' b = .unborn) ∧ Ev F m w F' m' w' ∧ VRel F' w' m' v r := by
  refine (callsIn_wide (n := 0)).1 (callsIn_of_wp_marks hfn hc trivial (wpIn_mono h ?_))
  rintro e a' w' ⟨x, s', H', he, hq, F', m', sim', ev, ht, hu, hN, Ds, hd1, hd2, hd3⟩
  have fin : (∃ r, retOf rs H' s' = some r ∧ R r H') → LeavesInM Fence.wide 0 P fn a'.tmps (fun e w' => ∃ v F' m' r H', e = .returned v ∧ R r H' ∧ Sim gl A w0 F' m' w' H' ∧ (∀ b, H'.n ≤ b → m' b = .unborn) ∧ Ev F m w F' m' w' ∧ VRel F' w' m' v r) a'.defers .returning w' := by
    rintro ⟨r, hr, hR⟩
    rw [hd1, List.append_nil]
    refine leaves_marks (s := s') sim0.below.size (fun w2 s2 e2 t2 => ?_) Ds w' hd2 hd3 sim' ev ht
    obtain ⟨v, hv, hrel⟩ := ret_run s2 t2 hrs hr
    exact ⟨v, hv, v, F', m', r, H', rfl, hR, s2, hu, e2, hrel⟩
  cases e <;> simp only [exOf, Option.some.injEq, reduceCtorEq] at he
  · subst he
    exact fin hq
  · subst he
    exact hq.elim
  · subst he
    exact fin hq
theorem env_args {fn : Func} {vs : Array Value} {args : List PV} (hvs : CsRel F m w vs args) : ∀ t p, envOf args t = some p → VRel F w m ((vs ++ Array.replicate (fn.ntmps - vs.size) undef).getD t undef) p := by
  intro t p hp
  simp only [envOf] at hp
  obtain ⟨ht, rfl⟩ := List.getElem?_eq_some_iff.1 hp
  have hs := hvs.1
  have : (vs ++ Array.replicate (fn.ntmps - vs.size) undef).getD t undef = vs[t]'(by omega) := by
    rw [Array.getD_eq_getD_getElem?, Array.getElem?_append_left (by omega), Array.getElem?_eq_getElem (by omega)]
    rfl
  rw [this]
  exact hvs.2 t _ ht
theorem calls_of {ow : Nat → Nat → Bool} {f : FuncId} {K : RFn} (hmix : P.follows .mixedOrders = true) (hf : fnOf P ow f = some K) {args : List PV} {R : PV → Hp → Prop} (h : WpFn P gl K (envOf args) H R)
    (sim : Sim gl A w0 F m w H) (hU : ∀ b, H.n ≤ b → m b = .unborn) {vs : Array Value} (hvs : CsRel F m w vs args) :
    Calls P f vs w fun e w' => ∃ v F' m' r H', e = .returned v ∧ R r H' ∧ Sim gl A w0 F' m' w' H' ∧ (∀ b, H'.n ≤ b → m' b = .unborn) ∧ Ev F m w F' m' w' ∧ VRel F' w' m' v r := by
  obtain ⟨_, fn, c, hfn, hc, hrc, hrs⟩ := fnOf_spec hf
  refine calls_fin hfn hc hrs sim (wpIn_mono (wp_sound (F0 := F) (m0 := m) (w00 := w) (ds := []) hmix c K.code hrc (envOf args) H _ _ w h ⟨F, m, sim, Ev.refl sim.fnl sim.liv, env_args hvs, hU, by simp; omega, .nil rfl⟩) ?_)
  rintro e a' w' ⟨x, s', H', he, hq, hs'⟩
  refine ⟨x, s', H', he, ?_, hs'⟩
  cases x <;> exact hq
theorem HSpec.of {ow : Nat → Nat → Bool} {f : FuncId} {K : RFn} (hmix : P.follows .mixedOrders = true) (hf : fnOf P ow f = some K) {args : List PV} {R : PV → Hp → Prop} (h : WpFn P gl K (envOf args) H R) : HSpec P gl f args H R :=
  ⟨(fnOf_spec hf).1, fun A w0 F m w vs sim hU hvs => calls_of hmix hf h sim hU hvs⟩
theorem Sim.none (hA : ∀ β, A β → β < w.heap.size) (hg : ∀ g p, gl g = some p → VRel A w noM (.pointer (some ⟨g, 0, none⟩)) p) : Sim gl A w A noM w Hp.none :=
  ⟨Below.refl _ _, fun b β h => by simp [noM, Slot.at] at h, fun b b' β h => by simp [noM, Slot.at] at h, fun β h => .inl h, hA, fun b k h => by simp [Hp.none] at h, hg⟩
theorem Pure.of {ow : Nat → Nat → Bool} {f : FuncId} {K : RFn} (hmix : P.follows .mixedOrders = true) (hf : fnOf P ow f = some K) {args : List PV} {r : PV} (h : WpFn P gl K (envOf args) Hp.none fun r0 H' => soft H' true r0 = some r) : Pure P gl f args r := by
  refine ⟨(fnOf_spec hf).1, fun A w vs hA hg hvs => ?_⟩
  refine (calls_of hmix hf h (Sim.none hA hg) (fun _ _ => rfl) hvs).mono ?_
  rintro e w' ⟨v, F', m', r0, H', rfl, hR, sim, hU, ev, hrel⟩
  refine ⟨v, rfl, sim.below, ?_⟩
  exact soft_rel sim (fun _ _ h => h) (fun β h => by
    rcases sim.frz β h with h' | h'
    · exact .inl h'
    · exact .inr ⟨h', sim.frzlt β h⟩) (fun _ β h1 h2 => .inr ⟨h1, h2⟩) hrel hR
theorem Fresh.of {ow : Nat → Nat → Bool} {f : FuncId} {K : RFn} (hmix : P.follows .mixedOrders = true) (hf : fnOf P ow f = some K) {args : List PV} {r : PV} {H' : Hp} (h : WpFn P gl K (envOf args) Hp.none fun r0 G => r0 = r ∧ G = H') : Fresh P gl f args r H' := by
  refine ⟨(fnOf_spec hf).1, fun A w vs hA hg hvs => ?_⟩
  refine (calls_of hmix hf h (Sim.none hA hg) (fun _ _ => rfl) hvs).mono ?_
  rintro e w' ⟨v, F', m', r0, H', rfl, ⟨rfl, rfl⟩, sim, hU, ev, hrel⟩
  exact ⟨v, F', m', rfl, sim, hU, ev.frz, hrel⟩
end
end Go.Vm
namespace Go.Vm
open Go Go.RowKit
def RCode.flat : RCode → Bool
  | .seq a b | .cond _ a b => a.flat && b.flat
  | .block _ a | .loop a => a.flat
  | .range .. => false
  | _ => true
def Tr (P : Program) (gl : Nat → Option PV) (n0 : Nat) (rc : RCode) (s : Env) (H : Hp) (Q : Ex → Env → Hp → Prop) : Prop :=
  P.follows .mixedOrders = true → ∀ (ow : Nat → Nat → Bool) (N : Nat) (c : Code), resolveCode P ow N c = some rc → ∀ (ro : Option Nat), (ro = none ∨ rc.flat = true) → ∀ (A : Nat → Prop) (w0 : World) (F0 : Nat → Prop) (m0 : Nat → Slot) (w00 : World) (ds : List Deferred) (a : Act) (w : World),
    (∀ b, n0 ≤ b → m0 b = .unborn) → SRel gl A w0 F0 m0 w00 N ds a w s H → c.wpIn (RF ro) 0 P (fun e a' w' => ∃ x s' H', exOf e = some x ∧ Q x s' H' ∧ SRel gl A w0 F0 m0 w00 N ds a' w' s' H') a w
def Gh (gl : Nat → Option PV) (n0 : Nat) (s : Env) (H : Hp) (s' : Env) (H' : Hp) : Prop :=
  ∀ (A : Nat → Prop) (w0 : World) (F0 : Nat → Prop) (m0 : Nat → Slot) (w00 : World) (N : Nat) (ds : List Deferred) (a : Act) (w : World), (∀ b, n0 ≤ b → m0 b = .unborn) →
    SRel gl A w0 F0 m0 w00 N ds a w s H → SRel gl A w0 F0 m0 w00 N ds a w s' H'
section
variable {P : Program} {gl : Nat → Option PV} {n0 : Nat} {s s' s'' : Env} {H H' H'' : Hp} {Q Q' : Ex → Env → Hp → Prop}
theorem wpi_mono {F : Fence} {n : Nat} {P : Program} {c : Code} {a : Act} {w : World} {Q Q' : Exit → Act → World → Prop} (hq : ∀ e a w, Q e a w → Q' e a w) (h : c.wpIn F n P Q a w) : c.wpIn F n P Q' a w := wpIn_mono h hq
theorem flat_l {ro : Option Nat} {a b : Bool} (h : ro = none ∨ (a && b) = true) : ro = none ∨ a = true := h.imp id fun h => (Bool.and_eq_true _ _ ▸ h).1
theorem flat_r {ro : Option Nat} {a b : Bool} (h : ro = none ∨ (a && b) = true) : ro = none ∨ b = true := h.imp id fun h => (Bool.and_eq_true _ _ ▸ h).2
theorem tr_wp {rc : RCode} (h : Wp P gl rc s H Q) : Tr P gl n0 rc s H Q :=
  fun hmix ow N c hr ro _ A w0 F0 m0 w00 ds a w _ hs => wp_sound hmix c rc hr s H Q a w h hs
theorem tr_ghost {rc : RCode} (g : Gh gl n0 s H s' H') (h : Tr P gl n0 rc s' H' Q) : Tr P gl n0 rc s H Q :=
  fun hmix ow N c hr ro hro A w0 F0 m0 w00 ds a w hm hs => h hmix ow N c hr ro hro A w0 F0 m0 w00 ds a w hm (g A w0 F0 m0 w00 N ds a w hm hs)
theorem tr_post {rc : RCode} (h : Tr P gl n0 rc s H Q) (hQ : ∀ e s H, Q e s H → ∃ s' H', Gh gl n0 s H s' H' ∧ Q' e s' H') : Tr P gl n0 rc s H Q' := by
  intro hmix ow N c hr ro hro A w0 F0 m0 w00 ds a w hm hs
  refine wpi_mono ?_ (h hmix ow N c hr ro hro A w0 F0 m0 w00 ds a w hm hs)
  rintro e a' w' ⟨x, s1, H1, he, hq, hs1⟩
  obtain ⟨s2, H2, hg, hq2⟩ := hQ _ _ _ hq
  exact ⟨x, s2, H2, he, hq2, hg A w0 F0 m0 w00 N ds a' w' hm hs1⟩
theorem gh_refl : Gh gl n0 s H s H := fun _ _ _ _ _ _ _ _ _ _ h => h
def Env.le (s s' : Env) : Prop := ∀ t p, s t = some p → s' t = some p
theorem Env.le_refl (s : Env) : s.le s := fun _ _ h => h
theorem Env.le_trans {s s' s'' : Env} (h : s.le s') (k : s'.le s'') : s.le s'' := fun t p hp => k t p (h t p hp)
theorem gh_le (h : s'.le s) : Gh gl n0 s H s' H := by
  rintro A w0 F0 m0 w00 N ds a w hm ⟨F, m, sim, ev, ht, hr⟩
  exact ⟨F, m, sim, ev, fun t p hp => ht t p (h t p hp), hr⟩
theorem tr_mono {rc : RCode} (h : Tr P gl n0 rc s H Q) (hQ : ∀ e s H, Q e s H → Q' e s H) : Tr P gl n0 rc s H Q' := tr_post h fun e s H hq => ⟨s, H, gh_refl, hQ e s H hq⟩
def SeqQ (P : Program) (gl : Nat → Option PV) (n0 : Nat) (b : RCode) (Q : Ex → Env → Hp → Prop) (e : Ex) (s : Env) (H : Hp) : Prop := match e with | .normal => Tr P gl n0 b s H Q | e => Q e s H
def BlkQ (id : Nat) (Q : Ex → Env → Hp → Prop) (e : Ex) (s : Env) (H : Hp) : Prop := match e with | .exit j => if j = id then Q .normal s H else Q (.exit j) s H | e => Q e s H
theorem tr_skip (h : Q .normal s H) : Tr P gl n0 .skip s H Q := tr_wp h
theorem tr_exit {id : Nat} (h : Q (.exit id) s H) : Tr P gl n0 (.exit id) s H Q := tr_wp h
theorem tr_ret (h : Q .ret s H) : Tr P gl n0 .ret s H Q := tr_wp h
theorem tr_seq {a b : RCode} (h : Tr P gl n0 a s H (SeqQ P gl n0 b Q)) : Tr P gl n0 (.seq a b) s H Q := by
  intro hmix ow N c hr ro hro A w0 F0 m0 w00 ds ac w hm hs
  cases c <;> simp only [resolveCode, Option.bind_eq_bind, Option.bind_eq_some_iff, Option.map_eq_some_iff, Option.some.injEq, reduceCtorEq, RCode.seq.injEq, and_false, exists_false] at hr
  case seq x y =>
    obtain ⟨rx, hx, ry, hy, rfl, rfl⟩ := hr
    refine wpIn_seq (wpi_mono ?_ (h hmix ow N x hx ro (flat_l hro) A w0 F0 m0 w00 ds ac w hm hs))
    rintro e a' w' ⟨x, s', H', he, hq, hs'⟩
    cases e <;> simp only [exOf, Option.some.injEq, reduceCtorEq] at he
    · subst he
      exact hq hmix ow N y hy ro (flat_r hro) A w0 F0 m0 w00 ds a' w' hm hs'
    · subst he
      exact ⟨_, s', H', rfl, hq, hs'⟩
    · subst he
      exact ⟨_, s', H', rfl, hq, hs'⟩
  case region id ops draw =>
    obtain ⟨l, _, hr⟩ := hr
    split at hr
    · split at hr <;> cases hr
    · cases hr
theorem tr_cond {c : RO} {a b : RCode} {t : Bool} (ht : c.ev gl s = some (.bool t)) (h1 : t = true → Tr P gl n0 a s H Q) (h2 : t = false → Tr P gl n0 b s H Q) : Tr P gl n0 (.cond c a b) s H Q := by
  intro hmix ow N cc hr ro hro A w0 F0 m0 w00 ds ac w hm hs
  cases cc <;> simp only [resolveCode, Option.bind_eq_bind, Option.bind_eq_some_iff, Option.map_eq_some_iff, Option.some.injEq, reduceCtorEq, RCode.cond.injEq, and_false, exists_false] at hr
  case cond co x y =>
    obtain ⟨r, hc, rx, hx, ry, hy, rfl, rfl, rfl⟩ := hr
    obtain ⟨F, m, sim, ev, htm, hrest⟩ := id hs
    have hv := RO.rel sim hc (fun t _ p hp => htm t p hp) ht
    generalize hev : ac.eval co = v at hv
    cases hv
    cases t with
    | true => exact wpIn_cond_true hev (h1 rfl hmix ow N x hx ro (flat_l hro) A w0 F0 m0 w00 ds ac w hm hs)
    | false => exact wpIn_cond_false hev (h2 rfl hmix ow N y hy ro (flat_r hro) A w0 F0 m0 w00 ds ac w hm hs)
  case region id ops draw =>
    obtain ⟨l, _, hr⟩ := hr
    split at hr
    · split at hr <;> cases hr
    · cases hr
theorem tr_block {id : Nat} {c : RCode} (h : Tr P gl n0 c s H (BlkQ id Q)) : Tr P gl n0 (.block id c) s H Q := by
  intro hmix ow N cc hr ro hro A w0 F0 m0 w00 ds ac w hm hs
  cases cc <;> simp only [resolveCode, Option.bind_eq_bind, Option.bind_eq_some_iff, Option.map_eq_some_iff, Option.some.injEq, reduceCtorEq, RCode.block.injEq, and_false, exists_false] at hr
  case block id' x =>
    obtain ⟨rx, hx, rfl, rfl⟩ := hr
    refine wpIn_block (wpi_mono ?_ (h hmix ow N x hx ro hro A w0 F0 m0 w00 ds ac w hm hs))
    rintro e a' w' ⟨x, s', H', he, hq, hs'⟩
    cases e <;> simp only [exOf, Option.some.injEq, reduceCtorEq] at he
    · subst he
      exact ⟨_, s', H', rfl, hq, hs'⟩
    · subst he
      simp only [BlkQ] at hq
      unfold Exit.inBlock
      simp only
      split at hq
      · rename_i hid
        rw [if_pos hid]
        exact ⟨_, s', H', rfl, hq, hs'⟩
      · rename_i hid
        rw [if_neg hid]
        exact ⟨_, s', H', rfl, hq, hs'⟩
    · subst he
      exact ⟨_, s', H', rfl, hq, hs'⟩
  case region id ops draw =>
    obtain ⟨l, _, hr⟩ := hr
    split at hr
    · split at hr <;> cases hr
    · cases hr
theorem tr_loop {c : RCode} (I : Nat → Env → Hp → Prop) {n : Nat} (h0 : I n s H) (h : ∀ n s H, I n s H → Tr P gl n0 c s H fun e s' H' => match e with | .normal => ∃ n', n' < n ∧ I n' s' H' | e => Q e s' H') : Tr P gl n0 (.loop c) s H Q := by
  intro hmix ow N cc hr ro hro A w0 F0 m0 w00 ds ac w hm hs
  cases cc <;> simp only [resolveCode, Option.bind_eq_bind, Option.bind_eq_some_iff, Option.map_eq_some_iff, Option.some.injEq, reduceCtorEq, RCode.loop.injEq, and_false, exists_false] at hr
  case loop x =>
    obtain ⟨rx, hx, rfl⟩ := hr
    refine Go.wpIn_loop_ghost (fun n a w => ∃ s H, I n s H ∧ SRel gl A w0 F0 m0 w00 N ds a w s H) n ⟨s, H, h0, hs⟩ ?_
    rintro n a' w' ⟨s', H', hI', hs'⟩
    refine wpi_mono ?_ (h n s' H' hI' hmix ow N x hx ro hro A w0 F0 m0 w00 ds a' w' hm hs')
    rintro e a2 w2 ⟨x, s2, H2, he, hq, hs2⟩
    cases e <;> simp only [exOf, Option.some.injEq, reduceCtorEq] at he
    · subst he
      obtain ⟨n', hn', hI2⟩ := hq
      exact ⟨n', hn', s2, H2, hI2, hs2⟩
    · subst he
      exact ⟨_, s2, H2, rfl, hq, hs2⟩
    · subst he
      exact ⟨_, s2, H2, rfl, hq, hs2⟩
  case region id ops draw =>
    obtain ⟨l, _, hr⟩ := hr
    split at hr
    · split at hr <;> cases hr
    · cases hr
/-! ### Functions -/
def FnQ (rs : List RRes) (R : PV → Hp → Prop) (e : Ex) (s : Env) (H : Hp) : Prop := match e with
    | .exit _ => False
    | _ => ∃ r, retOf rs H s = some r ∧ R r H
theorem calls_tr {ow : Nat → Nat → Bool} {f : FuncId} {K : RFn} (hmix : P.follows .mixedOrders = true) (hf : fnOf P ow f = some K) {args : List PV} {R : PV → Hp → Prop} (h : Tr P gl H.n K.code (envOf args) H (FnQ K.res R))
    {A : Nat → Prop} {w0 : World} {F : Nat → Prop} {m : Nat → Slot} {w : World} (sim : Sim gl A w0 F m w H) (hU : ∀ b, H.n ≤ b → m b = .unborn) {vs : Array Value} (hvs : CsRel F m w vs args) :
    Calls P f vs w fun e w' => ∃ v F' m' r H', e = .returned v ∧ R r H' ∧ Sim gl A w0 F' m' w' H' ∧ (∀ b, H'.n ≤ b → m' b = .unborn) ∧ Ev F m w F' m' w' ∧ VRel F' w' m' v r := by
  obtain ⟨_, fn, c, hfn, hc, hrc, hrs⟩ := fnOf_spec hf
  refine calls_fin hfn hc hrs sim (wpi_mono ?_ (h hmix ow fn.ntmps c hrc none (.inl rfl) A w0 F m w [] _ w hU ⟨F, m, sim, Ev.refl sim.fnl sim.liv, env_args hvs, hU, by simp; omega, .nil rfl⟩))
  rintro e a' w' ⟨x, s', H', he, hq, hs'⟩
  refine ⟨x, s', H', he, ?_, hs'⟩
  cases x <;> exact hq
theorem HSpec.tr {ow : Nat → Nat → Bool} {f : FuncId} {K : RFn} (hmix : P.follows .mixedOrders = true) (hf : fnOf P ow f = some K) {args : List PV} {R : PV → Hp → Prop} (h : Tr P gl H.n K.code (envOf args) H (FnQ K.res R)) : HSpec P gl f args H R :=
  ⟨(fnOf_spec hf).1, fun A w0 F m w vs sim hU hvs => calls_tr hmix hf h sim hU hvs⟩
theorem Pure.tr {ow : Nat → Nat → Bool} {f : FuncId} {K : RFn} (hmix : P.follows .mixedOrders = true) (hf : fnOf P ow f = some K) {args : List PV} {r : PV} (h : Tr P gl 0 K.code (envOf args) Hp.none (FnQ K.res fun r0 H' => soft H' true r0 = some r)) : Pure P gl f args r := by
  refine ⟨(fnOf_spec hf).1, fun A w vs hA hg hvs => ?_⟩
  refine (calls_tr (H := Hp.none) hmix hf h (Sim.none hA hg) (fun _ _ => rfl) hvs).mono ?_
  rintro e w' ⟨v, F', m', r0, H', rfl, hR, sim, hU, ev, hrel⟩
  refine ⟨v, rfl, sim.below, ?_⟩
  exact soft_rel sim (fun _ _ h => h) (fun β h => by
    rcases sim.frz β h with h' | h'
    · exact .inl h'
    · exact .inr ⟨h', sim.frzlt β h⟩) (fun _ β h1 h2 => .inr ⟨h1, h2⟩) hrel hR
theorem Fresh.tr {ow : Nat → Nat → Bool} {f : FuncId} {K : RFn} (hmix : P.follows .mixedOrders = true) (hf : fnOf P ow f = some K) {args : List PV} {r : PV} {H' : Hp} (h : Tr P gl 0 K.code (envOf args) Hp.none (FnQ K.res fun r0 G => r0 = r ∧ G = H')) : Fresh P gl f args r H' := by
  refine ⟨(fnOf_spec hf).1, fun A w vs hA hg hvs => ?_⟩
  refine (calls_tr (H := Hp.none) hmix hf h (Sim.none hA hg) (fun _ _ => rfl) hvs).mono ?_
  rintro e w' ⟨v, F', m', r0, H', rfl, ⟨rfl, rfl⟩, sim, hU, ev, hrel⟩
  exact ⟨v, F', m', rfl, sim, hU, ev.frz, hrel⟩
end
inductive Ty where
  | bool | int (k : IntKind) | str | sl (e : Ty) | nil | cons (a b : Ty) | arr (n : Nat) (e : Ty) | st (f : Ty)
def Ty.isAgg : Ty → Bool
  | .st _ | .arr .. => true
  | _ => false
def FitsN (p : List PV → Prop) : Nat → List PV → Prop
  | 0, cs => cs = []
  | n + 1, cs => ∃ x y, cs = x ++ y ∧ p x ∧ FitsN p n y
def Fits : Ty → List PV → Prop
  | .bool, cs => ∃ b, cs = [.bool b]
  | .int k, cs => ∃ n, cs = [.int k n] ∧ (Lit.int k n).wf = true
  | .str, cs => ∃ s : ByteArray, cs = [.str s] ∧ s.size ≤ maxLen
  | .sl e, cs => ∃ l, cs = [.sl l] ∧ l.length ≤ maxLen ∧ ∀ x ∈ l, (e.isAgg = true ∧ ∃ c, x = .agg c ∧ Fits e c) ∨ (e.isAgg = false ∧ Fits e [x])
  | .nil, cs => cs = []
  | .cons a b, cs => ∃ x y, cs = x ++ y ∧ Fits a x ∧ Fits b y
  | .arr n e, cs => FitsN (Fits e) n cs
  | .st f, cs => Fits f cs
def FitsV (e : Ty) (x : PV) : Prop := (e.isAgg = true ∧ ∃ c, x = .agg c ∧ Fits e c) ∨ (e.isAgg = false ∧ Fits e [x])
def fieldsOf (tf : TypeId → Option Ty) (P : Program) (total : Nat) : Nat → List Field → Option Ty
  | off, [] => if off = total then some .nil else none
  | off, f :: r => if f.offset = off then do
      let a ← tf f.type
      let b ← fieldsOf tf P total (off + P.cellsOf f.type) r
      some (.cons a b) else none
def tyOf (P : Program) : Nat → TypeId → Option Ty
  | 0, _ => none
  | d + 1, t => match P.underlying t with
    | some .bool => some .bool
    | some (.int k) => some (.int k)
    | some .string => some .str
    | some (.slice e) => if P.cellsOf e = 0 then none else (tyOf P d e).map .sl
    | some (.struct fs) => (fieldsOf (tyOf P d) P (P.cellsOf t) 0 fs.toList).map .st
    | some (.array n e) => if P.cellsOf t = n * P.cellsOf e then (tyOf P d e).map (.arr n) else none
    | _ => none
section
variable {H : Type} {enc : TypeId × Value → H} {P : Program} {w : World} {base : Nat} {spare : Nat → Bool} {held : Bool}
def Old (w : World) : Nat → Prop := fun β => β < w.heap.size
def CellsRel (w : World) (cs : List Value) (ps : List PV) : Prop := cs.length = ps.length ∧ ∀ i (h1 : i < cs.length) (h2 : i < ps.length), VRel (Old w) w noM cs[i] ps[i]
theorem CellsRel.append {a b : List Value} {p q : List PV} (h : CellsRel w a p) (k : CellsRel w b q) : CellsRel w (a ++ b) (p ++ q) := by
  refine ⟨by simp [h.1, k.1], fun i h1 h2 => ?_⟩
  have e := h.1
  by_cases hi : i < a.length
  · rw [List.getElem_append_left hi, List.getElem_append_left (by omega)]
    exact h.2 i hi (by omega)
  · have h1' := h1
    have h2' := h2
    simp only [List.length_append] at h1' h2'
    rw [List.getElem_append_right (by omega), List.getElem_append_right (by omega)]
    have := k.2 (i - a.length) (by omega) (by omega)
    simp only [e] at this ⊢
    exact this
theorem CellsRel.one {v : Value} {p : PV} (h : VRel (Old w) w noM v p) : CellsRel w [v] [p] := by
  refine ⟨rfl, fun i h1 h2 => ?_⟩
  simp at h1
  subst h1
  exact h
theorem fits_one {d : Nat} {t : TypeId} {T : Ty} {ps : List PV} (h : tyOf P d t = some T) (ha : T.isAgg = false) (hf : Fits T ps) : ∃ p, ps = [p] ∧ p.cells = [p] := by
  cases d with
  | zero => simp [tyOf] at h
  | succ d =>
    unfold tyOf at h
    split at h
    · injection h with h; subst h; obtain ⟨b, rfl⟩ := hf; exact ⟨_, rfl, rfl⟩
    · injection h with h; subst h; obtain ⟨n, rfl, _⟩ := hf; exact ⟨_, rfl, rfl⟩
    · injection h with h; subst h; obtain ⟨s, rfl, _⟩ := hf; exact ⟨_, rfl, rfl⟩
    · split at h
      · cases h
      · rw [Option.map_eq_some_iff] at h
        obtain ⟨e, _, rfl⟩ := h
        obtain ⟨l, rfl, _⟩ := hf
        exact ⟨_, rfl, rfl⟩
    · rw [Option.map_eq_some_iff] at h
      obtain ⟨e, _, rfl⟩ := h
      cases ha
    · split at h
      · rw [Option.map_eq_some_iff] at h
        obtain ⟨e, _, rfl⟩ := h
        cases ha
      · cases h
    · cases h
theorem cells_get {a : Addr} {n : Nat} {cs : List Value} (h : w.cells? base a n = some cs) : cs.length = n ∧ ∀ i, i < n → w.cell? (a.add i) = cs[i]? := by
  unfold World.cells? at h
  split at h
  · refine ⟨by have := mapM_some_length h; simpa using this, fun i hi => ?_⟩
    exact mapM_some_get h i i (by simp [hi])
  · cases h
theorem add_add' (a : Addr) (i j : Nat) : (a.add i).add j = a.add (i + j) := by
  by_cases hi : i = 0
  · subst hi
    simp [Addr.add]
  · by_cases hj : j = 0
    · subst hj
      simp [Addr.add]
    · simp [Addr.add, hi, hj, Nat.add_assoc]
theorem cell_block {a : Addr} {v : Value} (h : w.cell? a = some v) : a.block < w.heap.size := by
  unfold World.cell? at h
  split at h
  · rename_i h1
    exact (Array.getElem?_eq_some_iff.1 h1).1
  · cases h
theorem trod_fits : ∀ (d : Nat) (t : TypeId) (T : Ty) (fuel : Nat) (cs : List Value) (x : DataW H × List MemPlace), tyOf P d t = some T → DataW.trod enc P w base spare held fuel t cs = some x → ∃ ps, CellsRel w cs ps ∧ Fits T ps := by
  intro d
  induction d with
  | zero => intro t T fuel cs x h; simp [tyOf] at h
  | succ d ih =>
    intro t T fuel cs x hT h
    unfold tyOf at hT
    split at hT
    · rename_i hu
      injection hT with hT
      subst hT
      obtain ⟨b, rfl, _⟩ := DataW.trod_bool hu h
      exact ⟨[.bool b], .one (.bool b), b, rfl⟩
    · rename_i k hu
      injection hT with hT
      subst hT
      obtain ⟨n, rfl, _, hw⟩ := DataW.trod_int hu h
      exact ⟨[.int k n], .one (.int k n), n, rfl, hw⟩
    · rename_i hu
      injection hT with hT
      subst hT
      obtain ⟨s, rfl, _, hw⟩ := DataW.trod_string hu h
      exact ⟨[.str s], .one (.str s), s, rfl, hw⟩
    · rename_i e hu
      split at hT
      · cases hT
      rename_i hc
      rw [Option.map_eq_some_iff] at hT
      obtain ⟨E, hE, rfl⟩ := hT
      rcases DataW.trod_slice hu h with ⟨rfl, _⟩ | ⟨a, len, cap, elems, rest, n, _, rfl, rfl, hb, hl, hm, hlen, hel, _, _⟩
      · exact ⟨[.sl []], .one (.slnil none 0 (Nat.zero_le _)), [], rfl, Nat.zero_le _, fun x hx => by simp at hx⟩
      · have each : ∀ i, i < len → ∃ (csi : List Value) (psi : List PV), w.cells? base (a.add (i * P.cellsOf e)) (P.cellsOf e) = some csi ∧ CellsRel w csi psi ∧ Fits E psi := by
          intro i hi
          have h1 := hel i hi
          rw [List.getElem?_eq_getElem (by omega), Option.bind_eq_some_iff] at h1
          obtain ⟨csi, hcs, htr⟩ := h1
          obtain ⟨psi, h2, h3⟩ := ih e E n csi _ hE htr
          exact ⟨csi, psi, hcs, h2, h3⟩
        rcases Nat.eq_zero_or_pos len with h0 | hpos
        · subst h0
          exact ⟨[.sl []], .one (.slnil (some a) cap hm), [], rfl, Nat.zero_le _, fun x hx => by simp at hx⟩
        · let csF : Nat → List Value := fun i => if h : i < len then (each i h).choose else []
          let psF : Nat → List PV := fun i => if h : i < len then (each i h).choose_spec.choose else []
          have hF : ∀ i, i < len → w.cells? base (a.add (i * P.cellsOf e)) (P.cellsOf e) = some (csF i) ∧ CellsRel w (csF i) (psF i) ∧ Fits E (psF i) := by
            intro i hi
            simp only [csF, psF, hi, dif_pos]
            exact (each i hi).choose_spec.choose_spec
          let val : List PV → PV := fun c => if E.isAgg = true then .agg c else c.headD .nilp
          have hval : ∀ i, i < len → (val (psF i)).cells = psF i := by
            intro i hi
            simp only [val]
            split
            · rfl
            · rename_i hag
              obtain ⟨p, hp, hpc⟩ := fits_one hE (by simpa using hag) (hF i hi).2.2
              rw [hp]
              exact hpc
          have hlen2 : ∀ i, i < len → (psF i).length = P.cellsOf e := by
            intro i hi
            rw [← (hF i hi).2.1.1]
            exact (cells_get (hF i hi).1).1
          let l : List PV := (List.range len).map fun i => val (psF i)
          have hll : l.length = len := by simp [l]
          have hget : ∀ i (h : i < l.length), l[i] = val (psF i) := by intro i h; simp [l]
          refine ⟨[.sl l], .one ?_, l, rfl, by omega, fun x hx => ?_⟩
          · have hv : VRel (Old w) w noM (.slice (some a) l.length cap) (.sl l) := by
              refine .sl a cap (P.cellsOf e) l (fun i j => (csF i).getD j undef) ?_ (by omega) hm ?_ ?_ ?_
              · have h1 := (cells_get (hF 0 hpos).1).2 0 (by omega)
                rw [List.getElem?_eq_getElem (by rw [(cells_get (hF 0 hpos).1).1]; omega)] at h1
                have := cell_block h1
                rwa [add_block, add_block] at this
              · intro x hx
                obtain ⟨i, hi, rfl⟩ := List.getElem_of_mem hx
                rw [hget i hi, hval i (by omega), hlen2 i (by omega)]
              · intro i hi j hj
                have h1 := (cells_get (hF i (by omega)).1).2 j hj
                rw [add_add'] at h1
                rw [h1, List.getElem?_eq_getElem (by rw [(cells_get (hF i (by omega)).1).1]; omega)]
                simp [List.getD_eq_getElem?_getD, List.getElem?_eq_getElem (show j < (csF i).length by rw [(cells_get (hF i (by omega)).1).1]; omega)]
              · intro i hi j hj
                have e1 : (l[i]).cells = psF i := by rw [hget i hi]; exact hval i (by omega)
                have hj' : j < (psF i).length := by rw [← e1]; exact hj
                have hj2 : j < (csF i).length := by rw [(hF i (by omega)).2.1.1]; exact hj'
                simp only [List.getD_eq_getElem?_getD, List.getElem?_eq_getElem hj2, Option.getD_some]
                have := (hF i (by omega)).2.1.2 j hj2 hj'
                simpa only [e1] using this
            rwa [hll] at hv
          · obtain ⟨i, hi, rfl⟩ := List.getElem_of_mem hx
            rw [hget i hi]
            have hf := (hF i (by omega)).2.2
            simp only [val]
            split
            · rename_i hag
              exact .inl ⟨hag, _, rfl, hf⟩
            · rename_i hag
              obtain ⟨p, hp, hpc⟩ := fits_one hE (by simpa using hag) hf
              rw [hp] at hf ⊢
              exact .inr ⟨by simpa using hag, hf⟩
    · rename_i fs hu
      rw [Option.map_eq_some_iff] at hT
      obtain ⟨F, hF, rfl⟩ := hT
      obtain ⟨xs, n, _, _, hlen, hxs, hel⟩ := DataW.trod_struct hu h
      have all : ∀ f ∈ fs.toList, ∃ y, DataW.trod enc P w base spare held n f.type ((cs.drop f.offset).take (P.cellsOf f.type)) = some y := by
        intro f hf
        obtain ⟨i, hi, rfl⟩ := List.getElem_of_mem hf
        have := hel i (fs.toList[i]) (by simp at hi; simp [hi])
        rw [List.getElem?_eq_getElem (by simp at hi; omega)] at this
        exact ⟨_, this⟩
      have go : ∀ (l : List Field) (off : Nat) (F : Ty), fieldsOf (tyOf P d) P (P.cellsOf t) off l = some F → (∀ f ∈ l, ∃ y, DataW.trod enc P w base spare held n f.type ((cs.drop f.offset).take (P.cellsOf f.type)) = some y) → ∃ ps, CellsRel w (cs.drop off) ps ∧ Fits F ps := by
        intro l
        induction l with
        | nil =>
          intro off F hF _
          unfold fieldsOf at hF
          split at hF
          · rename_i ho
            injection hF with hF
            subst hF
            refine ⟨[], ?_, rfl⟩
            rw [List.drop_eq_nil_of_le (by omega)]
            exact ⟨rfl, fun i h => by simp at h⟩
          · cases hF
        | cons f r ihl =>
          intro off F hF hall
          unfold fieldsOf at hF
          split at hF
          · rename_i ho
            simp only [Option.bind_eq_bind, Option.bind_eq_some_iff, Option.some.injEq] at hF
            obtain ⟨A, hA, B, hB, rfl⟩ := hF
            obtain ⟨y, hy⟩ := hall f (by simp)
            obtain ⟨pa, ha, fa⟩ := ih f.type A n _ _ hA hy
            obtain ⟨pb, hb, fb⟩ := ihl _ B hB (fun g hg => hall g (by simp [hg]))
            refine ⟨pa ++ pb, ?_, pa, pb, rfl, fa, fb⟩
            rw [ho] at ha
            have := ha.append hb
            rwa [← List.drop_drop, List.take_append_drop] at this
          · cases hF
      obtain ⟨ps, h1, h2⟩ := go fs.toList 0 F hF all
      exact ⟨ps, by simpa using h1, h2⟩
    · rename_i m e hu
      split at hT
      · rename_i hsz
        rw [Option.map_eq_some_iff] at hT
        obtain ⟨E, hE, rfl⟩ := hT
        obtain ⟨xs, n, _, _, hlen, hxs, hel⟩ := DataW.trod_array hu h
        have go : ∀ (k : Nat), k ≤ m → ∃ ps, CellsRel w (cs.drop ((m - k) * P.cellsOf e)) ps ∧ FitsN (Fits E) k ps := by
          intro k
          induction k with
          | zero =>
            intro _
            refine ⟨[], ?_, rfl⟩
            rw [List.drop_eq_nil_of_le (by rw [hlen, hsz, Nat.sub_zero]; exact Nat.le_refl _)]
            exact ⟨rfl, fun i h => by simp at h⟩
          | succ k ihk =>
            intro hk
            obtain ⟨pb, hb, fb⟩ := ihk (by omega)
            have := hel (m - (k + 1)) (by omega)
            rw [List.getElem?_eq_getElem (by omega)] at this
            obtain ⟨pa, ha, fa⟩ := ih e E n _ _ hE this
            refine ⟨pa ++ pb, ?_, pa, pb, rfl, fa, fb⟩
            have h2 := ha.append hb
            rwa [show (m - k) * P.cellsOf e = (m - (k + 1)) * P.cellsOf e + P.cellsOf e by rw [← Nat.succ_mul]; congr 1; omega, ← List.drop_drop, List.take_append_drop] at h2
        obtain ⟨ps, h1, h2⟩ := go m (Nat.le_refl _)
        exact ⟨ps, by simpa using h1, h2⟩
      · cases hT
    · cases hT
theorem arg_open {d : Nat} {t : TypeId} {T : Ty} {v : Value} {r : Reach} {b0 : Nat} {dd : DataW H} {ps : List MemPlace} (hT : tyOf P d t = some T) (hval : Value.okWide P w r b0 t v) (hd : DataW.Trod enc P w base spare held t v dd ps) :
    ∃ pv, VRel (Old w) w noM v pv ∧ FitsV T pv := by
  obtain ⟨fuel, hf⟩ := hd
  obtain ⟨qs, hq, hfit⟩ := trod_fits d t T fuel _ _ hT hf
  cases d with
  | zero => simp [tyOf] at hT
  | succ d =>
    have hT' := hT
    have agg : T.isAgg = true → (∃ cs, v = .agg cs) → ∃ pv, VRel (Old w) w noM v pv ∧ FitsV T pv := by
      rintro ha ⟨cs, rfl⟩
      refine ⟨.agg qs, .agg cs qs (by simpa [Value.cells] using hq.1) (fun i h1 h2 => ?_), .inl ⟨ha, _, rfl, hfit⟩⟩
      have := hq.2 i (by simpa [Value.cells] using h1) h2
      simpa [Value.cells] using this
    have one : T.isAgg = false → v.cells = #[v] → ∃ pv, VRel (Old w) w noM v pv ∧ FitsV T pv := by
      intro ha hv
      obtain ⟨p, rfl, _⟩ := fits_one hT' ha hfit
      refine ⟨p, ?_, .inr ⟨ha, hfit⟩⟩
      have := hq.2 0 (by rw [hv]; simp) (by simp)
      simpa [hv] using this
    unfold tyOf at hT
    unfold Value.okWide at hval
    split at hT
    · rename_i hu
      injection hT with hT
      subst hT
      rw [hu] at hval
      exact one rfl (by cases v <;> first | rfl | (exfalso; simp only [Cell.okWide, Cell.ok, hu] at hval))
    · rename_i hu
      injection hT with hT
      subst hT
      rw [hu] at hval
      exact one rfl (by cases v <;> first | rfl | (exfalso; simp only [Cell.okWide, Cell.ok, hu] at hval))
    · rename_i hu
      injection hT with hT
      subst hT
      rw [hu] at hval
      exact one rfl (by cases v <;> first | rfl | (exfalso; simp only [Cell.okWide, Cell.ok, hu] at hval))
    · rename_i hu
      split at hT
      · cases hT
      rw [Option.map_eq_some_iff] at hT
      obtain ⟨e, _, rfl⟩ := hT
      rw [hu] at hval
      exact one rfl (by cases v <;> first | rfl | (exfalso; simp only [Cell.okWide, Cell.ok, hu] at hval))
    · rename_i hu
      rw [Option.map_eq_some_iff] at hT
      obtain ⟨e, _, rfl⟩ := hT
      rw [hu] at hval
      obtain ⟨cs, rfl, _⟩ := hval
      exact agg rfl ⟨cs, rfl⟩
    · rename_i hu
      split at hT
      · rw [Option.map_eq_some_iff] at hT
        obtain ⟨e, _, rfl⟩ := hT
        rw [hu] at hval
        obtain ⟨cs, rfl, _⟩ := hval
        exact agg rfl ⟨cs, rfl⟩
      · cases hT
    · cases hT
end
def RelL (w : World) : List Value → List PV → Prop
  | [], [] => True
  | v :: vs, p :: ps => VRel (Old w) w noM v p ∧ RelL w vs ps
  | _, _ => False
theorem RelL.get {w : World} : ∀ {vs : List Value} {ps : List PV}, RelL w vs ps → vs.length = ps.length ∧ ∀ j (h1 : j < vs.length) (h2 : j < ps.length), VRel (Old w) w noM vs[j] ps[j]
  | [], [], _ => ⟨rfl, fun j h => by simp at h⟩
  | v :: vs, p :: ps, h => by
    obtain ⟨e, ih⟩ := RelL.get h.2
    refine ⟨by simp [e], fun j h1 h2 => ?_⟩
    cases j with
    | zero => exact h.1
    | succ j => exact ih j (by simpa using h1) (by simpa using h2)
  | [], p :: ps, h => h.elim
  | v :: vs, [], h => h.elim
theorem CsRel_list {w : World} (vs : List Value) (ps : List PV) (h : RelL w vs ps) : CsRel (Old w) noM w vs.toArray ps := by
  obtain ⟨e, h⟩ := h.get
  exact ⟨by simpa using e, fun j h1 h2 => by simpa using h j (by simpa using h1) h2⟩
end Go.Vm
namespace Go.Vm
open Go Go.RowKit
section
variable {P : Program} {gl : Nat → Option PV} {n0 : Nat} {s s' s'' : Env} {H H' H'' : Hp} {Q Q' : Ex → Env → Hp → Prop} {A : Nat → Prop} {w0 : World} {F : Nat → Prop} {m : Nat → Slot} {w : World}
theorem Sim.virt (sim : Sim gl A w0 F m w H) (hu : ∀ b, H.n ≤ b → m b = .unborn) (sz : Nat) : Sim gl A w0 F (mput m H.n (.virt 0)) w (H.add [⟨0, sz, []⟩]) ∧ Ev F m w F (mput m H.n (.virt 0)) w := by
  have ev : Ev F m w F (mput m H.n (.virt 0)) w := by
    refine ⟨Nat.le_refl _, fun _ h => h, sim.fnl, fun _ _ _ => rfl, fun x ⟨c, hc⟩ => ?_, fun _ _ => rfl, fun c => ?_, sim.liv, fun _ h => .inl h⟩
    · by_cases e : c = H.n
      · rw [e, mput_eq] at hc; cases hc
      · rw [mput_ne _ _ e] at hc; exact .inl ⟨c, hc⟩
    · by_cases e : c = H.n
      · rw [e, hu _ (Nat.le_refl _)]; trivial
      · rw [mput_ne _ _ e]; exact slot_refl _
  have live' : ∀ {c β}, (mput m H.n (.virt 0) c).at = some β → (m c).at = some β := by
    intro c β h
    by_cases e : c = H.n
    · rw [e, mput_eq] at h; cases h
    · rw [mput_ne _ _ e] at h; exact h
  refine ⟨⟨sim.below, fun b β h => sim.live b β (live' h), fun b b' β h h' => sim.inj b b' β (live' h) (live' h'), sim.frz, sim.frzlt, fun b k hk hnu => ?_, fun g p hp => (sim.glob g p hp).monoNo ev⟩, ev⟩
  by_cases e : b = H.n
  · subst e
    have : k = ⟨0, sz, []⟩ := by simp [Hp.add] at hk; exact hk.symm
    subst this
    exact .inr (.inl ⟨mput_eq _ _ _, rfl⟩)
  · rw [mput_ne _ _ e] at hnu ⊢
    have hb : b < H.n := Nat.lt_of_not_le fun h => hnu (hu b h)
    have hk' : H.f b = some k := by simpa [Hp.add, hb] using hk
    rcases sim.blk b k hk' hnu with ⟨β, hm, hok⟩ | hv
    · exact .inl ⟨β, hm, hok.mono ev rfl⟩
    · exact .inr (hv.mono ev fun _ _ => rfl)
theorem lit_virt {v : Value} (h : VRel F w m v (.lit [])) {m' : Nat → Slot} {n : Nat} (hm : m' n = .virt 0) : VRel F w m' v (.ref n 0 0 0) := by
  cases h with
  | litnil => exact .ref _ _ _ _ _ _ (by rw [hm]; exact ⟨Nat.le_refl _, fun _ => ⟨rfl, rfl⟩⟩)
  | lit ad sz _ cs hF hmm hz hcell h => exact .ref _ _ _ _ _ _ (by rw [hm]; exact ⟨Nat.le_refl _, fun _ => ⟨rfl, rfl⟩⟩)
theorem gh_virt (t sz : Nat) (hn : n0 ≤ H.n) (h : s t = some (.lit [])) : Gh gl n0 s H (s.put (some t) (some (.ref H.n 0 0 0))) (H.add [⟨0, sz, []⟩]) := by
  rintro A w0 F0 m0 w00 N ds a w hm ⟨F, m, sim, ev, ht, hu, hrN, hr0⟩
  obtain ⟨sim', ev'⟩ := sim.virt hu sz
  have hr := And.intro hrN (hr0.mono (a' := a) ev' rfl)
  refine ⟨F, _, sim', ev.trans ev', fun u p hp => ?_, fun b hb => ?_, hr⟩
  · simp only [Env.put] at hp
    split at hp
    · rename_i e
      injection hp with hp
      subst hp
      subst e
      exact lit_virt (ht u _ h) (mput_eq _ _ _)
    · exact (ht u p hp).mono ev'
  · rw [mput_ne _ _ (by simp [Hp.add] at hb; omega)]
    exact hu b (by simp [Hp.add] at hb; omega)
/-! ### Rows that nobody writes any more -/
mutual
def PV.under (k : Nat) : PV → Bool
  | .agg l | .tup l | .lit l | .fptr l | .fn _ l => underL k l
  | .ref b _ _ _ | .ptr b _ _ _ | .cref b _ _ _ _ | .mp b | .yld b => decide (b < k)
  | .ifc _ p => p.under k
  | _ => true
def underL (k : Nat) : List PV → Bool
  | [] => true
  | x :: r => x.under k && underL k r
end
def fzN (H : Hp) (k : Nat) : Nat → PV → Option PV
  | 0, p => if p.under k then some p else none
  | j + 1, p =>
    if p.under k then some p else
    match p with
    | .ref b g off len => softN H (fun b => decide (k ≤ b)) (j + 1) (.ref b g off len)
    | .cref b g i off len => softN H (fun b => decide (k ≤ b)) (j + 1) (.cref b g i off len)
    | .ptr b g i off => softN H (fun b => decide (k ≤ b)) (j + 1) (.ptr b g i off)
    | .fn f caps => (mapO (fzN H k j) caps).map (.fn f)
    | .fptr l => (mapO (fzN H k j) l).map .fptr
    | .lit l => (mapO (cellO (fzN H k j)) l).map .lit
    | .ifc t q => (cellO (fzN H k j) q).map (.ifc t)
    | _ => none
def fz1 (H : Hp) (k : Nat) (p : PV) : Option PV :=
  match p with
  | .agg l => if underL k l then some (.agg l) else none
  | .tup l => if underL k l then some (.tup l) else none
  | p => fzN H k 5 p
theorem fz1_row {H : Hp} {k b g off len : Nat} {l : List PV} (hk : k ≤ b) (he : elems H (.ref b g off len) = some l) (hp : l.all pureE = true) : fz1 H k (.ref b g off len) = some (.sl l) := by
  unfold fz1 fzN softN
  simp only [PV.under, decide_eq_true_eq, if_neg (Nat.not_lt.2 hk), hk, decide_true, if_true, he, hp]
def fzL (H : Hp) (k : Nat) : List PV → Option (List PV)
  | [] => some []
  | x :: r => do
    let y ← fz1 H k x
    let l ← fzL H k r
    some (y :: l)
def fz0 (H : Hp) (k : Nat) (p : PV) : Option PV :=
  match p with
  | .agg l => (fzL H k l).map .agg
  | p => fz1 H k p
def fzT (H : Hp) (k : Nat) : List PV → Option (List PV)
  | [] => some []
  | x :: r => do
    let y ← fz0 H k x
    let l ← fzT H k r
    some (y :: l)
def fz (H : Hp) (k : Nat) (p : PV) : Option PV :=
  match p with
  | .tup l => (fzT H k l).map .tup
  | p => fz0 H k p
def fzP (H : Hp) (k : Nat) : List PV → Option (List PV)
  | [] => some []
  | x :: r => do
    let y ← fz H k x
    let l ← fzP H k r
    some (y :: l)
theorem underL_get {k : Nat} : ∀ {l : List PV}, underL k l = true → ∀ i (h : i < l.length), (l[i]).under k = true
  | [], _, i, h => absurd h (by simp)
  | x :: r, hb, i, h => by
    simp only [underL, Bool.and_eq_true] at hb
    cases i with
    | zero => exact hb.1
    | succ i => exact underL_get hb.2 i (by simpa using h)
theorem below_cells {k : Nat} {p : PV} (h : p.under k = true) : ∀ j (hj : j < p.cells.length), (p.cells[j]).under k = true := by
  intro j hj
  cases p with
  | agg l => exact underL_get h j hj
  | _ =>
    simp only [PV.cells, List.length_singleton] at hj
    obtain rfl : j = 0 := by omega
    exact h
theorem below_rel {F' : Nat → Prop} {m' : Nat → Slot} {k : Nat} (hF : ∀ β, F β → F' β) (hm : ∀ b, b < k → m' b = m b) {v : Value} {p : PV} (h : VRel F w m v p) : p.under k = true → VRel F' w m' v p := by
  induction h with
  | int => exact fun _ => .int _ _
  | bool => exact fun _ => .bool _
  | str => exact fun _ => .str _
  | nilp => exact fun _ => .nilp
  | nilf => exact fun _ => .nilf
  | nili => exact fun _ => .nili
  | nilm => exact fun _ => .nilm
  | agg a l hs _ ih => exact fun hb => .agg a l hs fun i h1 h2 => ih i h1 h2 hm (underL_get hb i h2)
  | tup a l hs _ ih => exact fun hb => .tup a l hs fun i h1 h2 => ih i h1 h2 hm (underL_get hb i h2)
  | slnil A c hc => exact fun _ => .slnil A c hc
  | litnil => exact fun _ => .litnil
  | sl ad c sz l cs hF' hc hmm hz hcell h ih => exact fun _ => .sl ad c sz l cs (hF _ hF') hc hmm hz hcell fun i h1 j h2 => (h i h1 j h2).monoV ⟨hF, fun _ _ => rfl, fun _ _ => rfl, fun _ => trivial, fun _ _ h => by simp [noM, Slot.at] at h⟩
  | lit ad sz l cs hF' hmm hz hcell _ ih => exact fun hb => .lit ad sz l cs (hF _ hF') hmm hz hcell fun i h1 j h2 => ih i h1 j h2 hm (below_cells (underL_get hb i h1) j h2)
  | ref A c b g off len h => exact fun hb => .ref A c b g off len (by rw [hm b (by simpa [PV.under] using hb)]; exact h)
  | ptr ad b g i off h => exact fun hb => .ptr ad b g i off (by rw [hm b (by simpa [PV.under] using hb)]; exact h)
  | cref A c b g i off len h => exact fun hb => .cref A c b g i off len (by rw [hm b (by simpa [PV.under] using hb)]; exact h)
  | fptr ad l cs hF' hcell _ ih => exact fun hb => .fptr ad l cs (hF _ hF') hcell fun j h1 => ih j h1 hm (underL_get hb j h1)
  | fn f first captured caps h0 hs _ ih => exact fun hb => .fn f first captured caps h0 hs fun i h1 h2 => ih i h1 h2 hm (underL_get hb i h2)
  | ifc t v p _ ih => exact fun hb => .ifc t v p (ih hm (by simpa [PV.under] using hb))
  | raw t v => exact fun _ => .raw t v
  | mp β b h => exact fun hb => .mp β b (by rw [hm b (by simpa [PV.under] using hb)]; exact h)
  | yld β b h => exact fun hb => .yld β b (by rw [hm b (by simpa [PV.under] using hb)]; exact h)
theorem fzN_cells {k : Nat} : ∀ j {x y : PV}, fzN H k j x = some y → (∀ l, x ≠ .agg l) → x.cells = [x] ∧ y.cells = [y]
  | 0, x, y, h, hx => by
    unfold fzN at h
    split at h
    · injection h with h
      subst h
      have : x.cells = [x] := by cases x <;> first | rfl | exact absurd rfl (hx _)
      exact ⟨this, this⟩
    · cases h
  | j + 1, x, y, h, hx => by
    unfold fzN at h
    split at h
    · injection h with h
      subst h
      have : x.cells = [x] := by cases x <;> first | rfl | exact absurd rfl (hx _)
      exact ⟨this, this⟩
    · split at h <;> first | exact softN_cells _ _ _ h | (cases h; done) | (rw [Option.map_eq_some_iff] at h; obtain ⟨l', _, rfl⟩ := h; exact ⟨rfl, rfl⟩)
theorem cellO_fz {k j : Nat} {p q : PV} (h : cellO (fzN H k j) p = some q) : p.cells.length = q.cells.length ∧ ∀ i (h1 : i < p.cells.length) (h2 : i < q.cells.length), fzN H k j p.cells[i] = some q.cells[i] := by
  unfold cellO at h
  split at h
  · rw [Option.map_eq_some_iff] at h
    obtain ⟨l', hl, rfl⟩ := h
    exact mapO_get hl
  · cases h
  · rename_i h1 _
    obtain ⟨e1, e2⟩ := fzN_cells j h (fun l e => h1 l e)
    refine ⟨by rw [e1, e2]; rfl, fun i q1 q2 => ?_⟩
    rw [get_single e1 i q1, get_single e2 i q2]
    exact h
theorem fzN_rel {F' : Nat → Prop} {m' : Nat → Slot} {k : Nat} (sim : Sim gl A w0 F m w H) (hF : ∀ β, F β → F' β) (hm : ∀ b, b < k → m' b = m b) (hl : ∀ b β sz g, k ≤ b → m b = .live β sz g → F' β) : ∀ (j : Nat) {v : Value} {p q : PV}, VRel F w m v p → fzN H k j p = some q → VRel F' w m' v q
  | 0, v, p, q, h, hq => by
    unfold fzN at hq
    split at hq
    · rename_i hb
      injection hq with hq
      subst hq
      exact below_rel hF hm h hb
    · cases hq
  | j + 1, v, p, q, h, hq => by
    have ih := fun v p q => fzN_rel sim hF hm hl j (v := v) (p := p) (q := q)
    have sf : ∀ {p : PV}, VRel F w m v p → softN H (fun b => decide (k ≤ b)) (j + 1) p = some q → VRel F' w m' v q := fun h hs =>
      (softN_rel sim (fun _ _ h => h) hF (fun b β sz g hok hb => hl b β sz g (by simpa using hok) hb) (j + 1) h hs).weak m'
    unfold fzN at hq
    split at hq
    · rename_i hb
      injection hq with hq
      subst hq
      exact below_rel hF hm h hb
    · split at hq
      · exact sf h hq
      · exact sf h hq
      · exact sf h hq
      · rw [Option.map_eq_some_iff] at hq
        obtain ⟨l', hl', rfl⟩ := hq
        obtain ⟨el, kk⟩ := mapO_get hl'
        cases h with
        | fn _ first captured _ h0 hsz h => exact .fn _ _ _ _ h0 (by omega) fun i h1 h3 => ih _ _ _ (h i h1 (by omega)) (kk i (by omega) h3)
      · rw [Option.map_eq_some_iff] at hq
        obtain ⟨l', hl', rfl⟩ := hq
        obtain ⟨el, kk⟩ := mapO_get hl'
        cases h with
        | fptr ad _ cs hF' hcell h => exact .fptr ad l' cs (hF _ hF') (fun j hj => hcell j (by omega)) fun j hj => ih _ _ _ (h j (by omega)) (kk j (by omega) hj)
      · rw [Option.map_eq_some_iff] at hq
        obtain ⟨l', hl', rfl⟩ := hq
        obtain ⟨el, kk⟩ := mapO_get hl'
        cases h with
        | litnil =>
          simp only [List.length_nil] at el
          obtain rfl := List.eq_nil_of_length_eq_zero el.symm
          exact .litnil
        | lit ad sz l cs hF' hmx hz hcell h =>
          rw [el]
          refine .lit ad sz l' cs (hF _ hF') (by omega) (fun e he => ?_) (fun i hi j hj => hcell i (by omega) j hj) (fun i h1 j h3 => ?_)
          · obtain ⟨i, hi, rfl⟩ := List.mem_iff_getElem.1 he
            rw [← (cellO_fz (kk i (by omega) hi)).1]
            exact hz _ (List.getElem_mem _)
          · obtain ⟨e, kc⟩ := cellO_fz (kk i (by omega) h1)
            exact ih _ _ _ (h i (by omega) j (by omega)) (kc j (by omega) h3)
      · rw [Option.map_eq_some_iff] at hq
        obtain ⟨q', hq', rfl⟩ := hq
        cases h with
        | ifc _ v' _ h =>
          refine .ifc _ _ _ ?_
          unfold cellO at hq'
          split at hq'
          · rw [Option.map_eq_some_iff] at hq'
            obtain ⟨l', hl', rfl⟩ := hq'
            obtain ⟨el, kk⟩ := mapO_get hl'
            cases h with
            | agg a _ hsz h => exact .agg _ _ (by omega) fun i h1 h3 => ih _ _ _ (h i h1 (by omega)) (kk i (by omega) h3)
          · cases hq'
          · exact ih _ _ _ h hq'
      · cases hq
theorem fz1_rel {F' : Nat → Prop} {m' : Nat → Slot} {k : Nat} (sim : Sim gl A w0 F m w H) (hF : ∀ β, F β → F' β) (hm : ∀ b, b < k → m' b = m b) (hl : ∀ b β sz g, k ≤ b → m b = .live β sz g → F' β) {v : Value} {p q : PV} (h : VRel F w m v p) (hq : fz1 H k p = some q) : VRel F' w m' v q := by
  unfold fz1 at hq
  split at hq
  · split at hq
    · rename_i hb
      injection hq with hq
      subst hq
      exact below_rel hF hm h hb
    · cases hq
  · split at hq
    · rename_i hb
      injection hq with hq
      subst hq
      exact below_rel hF hm h hb
    · cases hq
  · exact fzN_rel sim hF hm hl 5 h hq
theorem fzL_get {k : Nat} : ∀ {l q : List PV}, fzL H k l = some q → l.length = q.length ∧ ∀ i (h1 : i < l.length) (h2 : i < q.length), fz1 H k l[i] = some q[i]
  | [], q, h => by
    simp [fzL] at h
    subst h
    exact ⟨rfl, fun i h1 => absurd h1 (by simp)⟩
  | x :: r, q, h => by
    simp only [fzL, Option.bind_eq_bind, Option.bind_eq_some_iff, Option.some.injEq] at h
    obtain ⟨y, hy, l, hl, rfl⟩ := h
    obtain ⟨e, ih⟩ := fzL_get hl
    refine ⟨by simp [e], fun i h1 h2 => ?_⟩
    cases i with
    | zero => exact hy
    | succ i => exact ih i (by simpa using h1) (by simpa using h2)
theorem fzP_get {k : Nat} : ∀ {l q : List PV}, fzP H k l = some q → l.length = q.length ∧ ∀ i (h1 : i < l.length) (h2 : i < q.length), fz H k l[i] = some q[i]
  | [], q, h => by
    simp [fzP] at h
    subst h
    exact ⟨rfl, fun i h1 => absurd h1 (by simp)⟩
  | x :: r, q, h => by
    simp only [fzP, Option.bind_eq_bind, Option.bind_eq_some_iff, Option.some.injEq] at h
    obtain ⟨y, hy, l, hl, rfl⟩ := h
    obtain ⟨e, ih⟩ := fzP_get hl
    refine ⟨by simp [e], fun i h1 h2 => ?_⟩
    cases i with
    | zero => exact hy
    | succ i => exact ih i (by simpa using h1) (by simpa using h2)
theorem fz0_rel {F' : Nat → Prop} {m' : Nat → Slot} {k : Nat} (sim : Sim gl A w0 F m w H) (hF : ∀ β, F β → F' β) (hm : ∀ b, b < k → m' b = m b) (hl : ∀ b β sz g, k ≤ b → m b = .live β sz g → F' β) {v : Value} {p q : PV} (h : VRel F w m v p) (hq : fz0 H k p = some q) : VRel F' w m' v q := by
  unfold fz0 at hq
  split at hq
  · rename_i l
    rw [Option.map_eq_some_iff] at hq
    obtain ⟨q', hq, rfl⟩ := hq
    obtain ⟨e, g⟩ := fzL_get hq
    cases h with
    | agg xs _ hs h => exact .agg _ _ (hs.trans e) fun i h1 h2 => fz1_rel sim hF hm hl (h i h1 (by omega)) (g i (by omega) h2)
  · exact fz1_rel sim hF hm hl h hq
theorem fzT_get {k : Nat} : ∀ {l q : List PV}, fzT H k l = some q → l.length = q.length ∧ ∀ i (h1 : i < l.length) (h2 : i < q.length), fz0 H k l[i] = some q[i]
  | [], q, h => by
    simp [fzT] at h
    subst h
    exact ⟨rfl, fun i h1 => absurd h1 (by simp)⟩
  | x :: r, q, h => by
    simp only [fzT, Option.bind_eq_bind, Option.bind_eq_some_iff, Option.some.injEq] at h
    obtain ⟨y, hy, l, hl, rfl⟩ := h
    obtain ⟨e, ih⟩ := fzT_get hl
    refine ⟨by simp [e], fun i h1 h2 => ?_⟩
    cases i with
    | zero => exact hy
    | succ i => exact ih i (by simpa using h1) (by simpa using h2)
theorem fz_rel {F' : Nat → Prop} {m' : Nat → Slot} {k : Nat} (sim : Sim gl A w0 F m w H) (hF : ∀ β, F β → F' β) (hm : ∀ b, b < k → m' b = m b) (hl : ∀ b β sz g, k ≤ b → m b = .live β sz g → F' β) {v : Value} {p q : PV} (h : VRel F w m v p) (hq : fz H k p = some q) : VRel F' w m' v q := by
  unfold fz at hq
  split at hq
  · rename_i l
    rw [Option.map_eq_some_iff] at hq
    obtain ⟨q', hq, rfl⟩ := hq
    obtain ⟨e, g⟩ := fzT_get hq
    cases h with
    | tup xs _ hs h => exact .tup _ _ (hs.trans e) fun i h1 h2 => fz0_rel sim hF hm hl (h i h1 (by omega)) (g i (by omega) h2)
  · exact fz0_rel sim hF hm hl h hq
theorem fz1_below {k : Nat} {p : PV} (h : p.under k = true) : fz1 H k p = some p := by
  unfold fz1
  split
  · rw [if_pos (by simpa [PV.under] using h)]
  · rw [if_pos (by simpa [PV.under] using h)]
  · unfold fzN
    rw [if_pos h]
theorem fzL_below {k : Nat} : ∀ {l : List PV}, underL k l = true → fzL H k l = some l
  | [], _ => rfl
  | x :: r, h => by
    simp only [underL, Bool.and_eq_true] at h
    simp only [fzL, fz1_below h.1, fzL_below h.2, Option.bind_eq_bind, Option.bind_some]
theorem fz0_below {k : Nat} {p : PV} (h : p.under k = true) : fz0 H k p = some p := by
  unfold fz0
  split
  · rw [fzL_below h]; rfl
  · exact fz1_below h
theorem fzT_below {k : Nat} : ∀ {l : List PV}, underL k l = true → fzT H k l = some l
  | [], _ => rfl
  | x :: r, h => by
    simp only [underL, Bool.and_eq_true] at h
    simp only [fzT, fz0_below h.1, fzT_below h.2, Option.bind_eq_bind, Option.bind_some]
theorem fz_below {k : Nat} {p : PV} (h : p.under k = true) : fz H k p = some p := by
  unfold fz
  split
  · rw [fzT_below h]; rfl
  · exact fz0_below h
theorem fz_cells {k : Nat} {p q : PV} (h : fz H k p = some q) : p.cells.length = q.cells.length ∧ ∀ j (h1 : j < p.cells.length) (h2 : j < q.cells.length), fz H k p.cells[j] = some q.cells[j] := by
  have one : ∀ {p q : PV}, fz1 H k p = some q → p.cells = [p] → q.cells = [q] := by
    intro p q hq hp
    unfold fz1 at hq
    split at hq
    · cases hp
    · split at hq
      · injection hq with hq; subst hq; rfl
      · cases hq
    · exact (fzN_cells 5 hq (fun l e => by subst e; rename_i h1 _; exact h1 _ rfl)).2
  have lift : ∀ {p q : PV}, fz1 H k p = some q → fz H k p = some q ∨ (∃ l, p = .agg l) ∨ ∃ l, p = .tup l := by
    intro p q hq
    cases p <;> first | exact .inl hq | exact .inr (.inl ⟨_, rfl⟩) | exact .inr (.inr ⟨_, rfl⟩)
  cases p with
  | agg l =>
    simp only [fz, fz0, Option.map_eq_some_iff] at h
    obtain ⟨q', hq, rfl⟩ := h
    obtain ⟨e, g⟩ := fzL_get hq
    refine ⟨e, fun j h1 h2 => ?_⟩
    simp only [PV.cells] at h1 h2 ⊢
    have hg := g j h1 h2
    rcases lift hg with h | ⟨l', hl⟩ | ⟨l', hl⟩
    · exact h
    · rw [hl] at hg ⊢
      simp only [fz1] at hg
      split at hg
      · rename_i hb
        injection hg with hg
        rw [← hg]
        exact fz_below (by exact hb)
      · cases hg
    · rw [hl] at hg ⊢
      simp only [fz1] at hg
      split at hg
      · rename_i hb
        injection hg with hg
        rw [← hg]
        exact fz_below (by exact hb)
      · cases hg
  | tup l =>
    have h' := h
    simp only [fz, Option.map_eq_some_iff] at h
    obtain ⟨q', hq, rfl⟩ := h
    refine ⟨rfl, fun j h1 h2 => ?_⟩
    simp only [PV.cells, List.length_singleton] at h1 h2 ⊢
    obtain rfl : j = 0 := by omega
    exact h'
  | _ =>
    have h1 := h
    simp only [fz, fz0] at h1
    have hq := one h1 rfl
    refine ⟨by rw [hq]; rfl, fun j h1 h2 => ?_⟩
    simp only [PV.cells, List.length_singleton] at h1
    obtain rfl : j = 0 := by omega
    have hg : q.cells[0] = q := by simp only [hq, List.getElem_cons_zero]
    rw [hg]
    exact h
theorem fzP_map {k β : Nat} {xs q : List PV} (h : MapOk w β xs) (hq : fzP H k xs = some q) : MapOk w β q := by
  obtain ⟨es, c, h1, h2, h3⟩ := h
  obtain ⟨e, g⟩ := fzP_get hq
  refine ⟨es, c, h1, by omega, fun i q1 q2 => ?_⟩
  obtain ⟨n, b, a1, a2, a3⟩ := h3 i q1 (by omega)
  refine ⟨n, b, a1, a2, ?_⟩
  have := g i (by omega) q2
  rw [a3] at this
  exact (Option.some.inj this).symm
theorem fzP_lp {F' : Nat → Prop} {m' : Nat → Slot} {k β : Nat} {xs q : List PV} (rel : ∀ {v p q}, VRel F w m v p → fz H k p = some q → VRel F' w m' v q) (h : LpOk F m w β xs) (hq : fzP H k xs = some q) : LpOk F' m' w β q := by
  obtain ⟨L, ts, ps, rfl, h2, h3, h4⟩ := h
  simp only [fzP, Option.bind_eq_bind, Option.bind_eq_some_iff, Option.some.injEq] at hq
  obtain ⟨x, hx, ps', hps, rfl⟩ := hq
  have hx' : x = .lp L ts := by
    rw [fz_below (p := .lp L ts) rfl] at hx
    exact (Option.some.inj hx).symm
  obtain ⟨e, g⟩ := fzP_get hps
  exact ⟨L, ts, ps', by rw [hx'], h2, by omega, fun i q1 q2 => rel (h4 i q1 (by omega)) (g i (by omega) q2)⟩
def HpFz (H H' : Hp) : Prop := ∀ b k', b < H'.n → H'.f b = some k' → ∃ k0, H.f b = some k0 ∧ k'.g = k0.g ∧ k'.sz = k0.sz ∧ fzP H H'.n k0.xs = some k'.xs
theorem gh_freeze (hn : n0 ≤ H'.n) (hs : ∀ t q, s' t = some q → ∃ p, s t = some p ∧ fz H H'.n p = some q) (hH : HpFz H H') : Gh gl n0 s H s' H' := by
  rintro A w0 F0 m0 w00 N ds a w hm0 ⟨F, m, sim, ev, ht, hu, hrN, Ds, hr1, hr2, hr3⟩
  let m' : Nat → Slot := fun b => if b < H'.n then m b else .unborn
  let F' : Nat → Prop := fun β => F β ∨ ∃ b sz g, H'.n ≤ b ∧ m b = .live β sz g
  have m'lt : ∀ b, b < H'.n → m' b = m b := fun b hb => if_pos hb
  have m'ge : ∀ b, H'.n ≤ b → m' b = .unborn := fun b hb => if_neg (by omega)
  have live' : ∀ {b β}, (m' b).at = some β → b < H'.n ∧ (m b).at = some β := by
    intro b β h
    by_cases hb : b < H'.n
    · rw [m'lt b hb] at h; exact ⟨hb, h⟩
    · rw [m'ge b (by omega)] at h; cases h
  have hF : ∀ β, F β → F' β := fun β h => .inl h
  have hl : ∀ b β sz g, H'.n ≤ b → m b = .live β sz g → F' β := fun b β sz g h1 h2 => .inr ⟨b, sz, g, h1, h2⟩
  have rel : ∀ {v p q}, VRel F w m v p → fz H H'.n p = some q → VRel F' w m' v q := fun h hq => fz_rel sim hF m'lt hl h hq
  refine ⟨F', m', ⟨sim.below, fun b β h => ?_, fun b b' β h h' => sim.inj b b' β (live' h).2 (live' h').2, fun β h => ?_, fun β h => ?_, fun b k hk hnu => ?_, fun g p hp => (sim.glob g p hp).monoV ⟨hF, fun _ _ => rfl, fun _ _ => rfl, fun _ => trivial, fun _ _ h => by simp [noM, Slot.at] at h⟩⟩,
    ⟨ev.grow, fun β h => hF β (ev.frz β h), ev.fnl, ev.keep, fun β ⟨b, h⟩ => ev.fresh β ⟨b, (live' h).2⟩, ev.size, fun b => ?_, ev.liv, fun β h => h.elim (ev.nfz β) fun ⟨b, _, _, _, h⟩ => .inr (ev.fresh β ⟨b, at_live h⟩)⟩, fun t q hq => ?_, fun b hb => m'ge b hb, hrN, Ds, hr1, hr2, fun D hD => ?_⟩
  · obtain ⟨hb, h⟩ := live' h
    obtain ⟨a1, a2, a3⟩ := sim.live b β h
    refine ⟨a1, a2, fun hf => ?_⟩
    rcases hf with hf | ⟨b', sz', g', h1, h2⟩
    · exact a3 hf
    · have := sim.inj b b' β h (at_live h2)
      omega
  · rcases h with h | ⟨b, sz, g, _, h⟩
    · exact sim.frz β h
    · exact .inr (sim.live b β (at_live h)).1
  · rcases h with h | ⟨b, sz, g, _, h⟩
    · exact sim.frzlt β h
    · exact (sim.live b β (at_live h)).2.1
  · by_cases hb : b < H'.n
    · rw [m'lt b hb] at hnu ⊢
      obtain ⟨k0, hk0, e1, e2, e3⟩ := hH b k hb hk
      obtain ⟨el, eg⟩ := fzP_get e3
      rcases sim.blk b k0 hk0 hnu with ⟨β, hm, ⟨cs, T, h1, h2, h3, h4⟩⟩ | ⟨hv, hx⟩ | ⟨β, hm, hok⟩ | ⟨β, hm, hok⟩
      rotate_right
      · exact .inr (.inr (.inr ⟨β, hm, fzP_lp rel hok e3⟩))
      rotate_right
      · exact .inr (.inr (.inl ⟨β, hm, fzP_map hok e3⟩))
      · refine .inl ⟨β, by rw [e1, e2]; exact hm, cs, T, h1, by rw [e2, ← el]; exact h2, fun x hx => ?_, fun i hi j hj => ?_⟩
        · obtain ⟨i, hi, rfl⟩ := List.mem_iff_getElem.1 hx
          rw [e2, ← h3 _ (List.getElem_mem (show i < k0.xs.length by omega))]
          exact (fz_cells (eg i (by omega) hi)).1.symm
        · obtain ⟨c1, c2⟩ := fz_cells (eg i (by omega) hi)
          obtain ⟨v, hv, hrel⟩ := h4 i (by omega) j (by omega)
          rw [e2]
          exact ⟨v, hv, rel hrel (c2 j (by omega) hj)⟩
      · refine .inr (.inl ⟨by rw [e1]; exact hv, ?_⟩)
        rw [hx] at el
        exact List.eq_nil_of_length_eq_zero el.symm
    · exact absurd (m'ge b (by omega)) hnu
  · by_cases hb : b < H'.n
    · rw [m'lt b hb]; exact ev.slot b
    · have : m0 b = .unborn := hm0 b (by omega)
      rw [this]; trivial
  · obtain ⟨p, hp, hq'⟩ := hs t q hq
    exact rel (ht t p hp) hq'
  · obtain ⟨q1, q2, q3, q4⟩ := hr3 D hD
    exact ⟨q1, fun ⟨b, h⟩ => q2 ⟨b, (live' h).2⟩, fun h => h.elim q3 fun ⟨b, _, _, _, h⟩ => q2 ⟨b, at_live h⟩, q4⟩
theorem rel_below {v : Value} {p : PV} {k : Nat} (h : VRel F w m v p) : (∀ b, k ≤ b → m b = .unborn) → p.under k = true := by
  have lt : ∀ {m : Nat → Slot} {b}, (∀ b, k ≤ b → m b = .unborn) → m b ≠ .unborn → b < k := fun hm h => Nat.lt_of_not_le fun hb => h (hm _ hb)
  have all : ∀ {l : List PV}, (∀ i (h : i < l.length), (l[i]).under k = true) → underL k l = true := by
    intro l
    induction l with
    | nil => exact fun _ => rfl
    | cons x r ih =>
      intro h
      simp only [underL, Bool.and_eq_true]
      exact ⟨h 0 (by simp), ih fun i hi => h (i + 1) (by simpa using hi)⟩
  induction h with
  | agg a l hs _ ih => exact fun hm => all fun i hi => ih i (by omega) hi hm
  | tup a l hs _ ih => exact fun hm => all fun i hi => ih i (by omega) hi hm
  | litnil => exact fun _ => rfl
  | lit ad sz l cs hF' hmm hz hcell _ ih =>
    refine fun hm => all fun i hi => ?_
    have hc : ∀ j (hj : j < (l[i]).cells.length), ((l[i]).cells[j]).under k = true := fun j hj => ih i hi j hj hm
    revert hc
    generalize l[i] = p
    intro hc
    cases p with
    | agg l => exact all hc
    | _ => exact hc 0 (by simp [PV.cells])
  | ref A c b g off len h => exact fun hm => by simpa [PV.under] using lt hm (fun e => by rw [e] at h; exact h)
  | ptr ad b g i off h => exact fun hm => by simpa [PV.under] using lt hm (fun e => by rw [e] at h; exact h)
  | cref A c b g i off len h => exact fun hm => by simpa [PV.under] using lt hm (fun e => by rw [e] at h; exact h)
  | fptr ad l cs hF' hcell _ ih => exact fun hm => all fun i hi => ih i hi hm
  | fn f first captured caps h0 hs _ ih => exact fun hm => all fun i hi => ih i (by omega) hi hm
  | ifc t v p _ ih => exact fun hm => ih hm
  | mp β b h => exact fun hm => by simpa [PV.under] using lt hm (fun e => by rw [e] at h; simp at h)
  | yld β b h => exact fun hm => by simpa [PV.under] using lt hm (fun e => by rw [e] at h; simp at h)
  | _ => exact fun _ => rfl
theorem tr_wf {rc : RCode} (h : (∀ t p, s t = some p → p.under H.n = true) → Tr P gl n0 rc s H Q) : Tr P gl n0 rc s H Q := by
  intro hmix ow N c hr ro hro A w0 F0 m0 w00 ds a w hm hs
  refine h (fun t p hp => ?_) hmix ow N c hr ro hro A w0 F0 m0 w00 ds a w hm hs
  obtain ⟨F, m, sim, ev, ht, hu, _⟩ := hs
  exact rel_below (ht t p hp) hu
end
end Go.Vm
namespace Go.Vm
open Go Go.RowKit
inductive Nodes where
  | nil
  | op (d : Option Nat) (o : RI) (bf : Nat) (l : Nodes)
  | grd (t : Nat) (b : Bool) (sub l : Nodes)
  deriving Inhabited
def Nodes.flat : Option (Nat × Bool) → Nodes → List ROper
  | _, .nil => []
  | g, .op d o bf l => ⟨d, o, g, bf⟩ :: flat g l
  | g, .grd t b sub l => flat (some (t, b)) sub ++ flat g l
def Nodes.dsts : Nodes → List Nat
  | .nil => []
  | .op d _ _ l => d.toList ++ dsts l
  | .grd _ _ sub l => dsts sub ++ dsts l
def Env.undef : List Nat → Env → Env
  | [], s => s
  | d :: r, s => Env.undef r (s.put (some d) (some (.tup [])))
def skipOk (t : Nat) (b : Bool) : List Nat → List ROper → Bool
  | _, [] => true
  | u, o :: l => (match o.guard with
      | some (t', b') => (t' == t && b' == b) || u.contains t'
      | none => false) && o.dst != some t && skipOk t b (o.dst.toList ++ u) l
def Nodes.ok : Nodes → Bool
  | .nil => true
  | .op _ _ _ l => l.ok
  | .grd t b sub l => !sub.dsts.contains t && skipOk t b [] (sub.flat (some (t, b))) && sub.ok && l.ok
def dstsL : List ROper → List Nat
  | [] => []
  | o :: l => o.dst.toList ++ dstsL l
theorem dsts_flat : ∀ (N : Nodes) (g : Option (Nat × Bool)), dstsL (N.flat g) = N.dsts
  | .nil, g => rfl
  | .op d o bf l, g => by simp [Nodes.flat, dstsL, Nodes.dsts, dsts_flat l]
  | .grd t b sub l, g => by
    have app : ∀ a b : List ROper, dstsL (a ++ b) = dstsL a ++ dstsL b := by
      intro a
      induction a with
      | nil => intro b; rfl
      | cons x r ih => intro b; simp [dstsL, ih]
    simp [Nodes.flat, Nodes.dsts, app, dsts_flat sub, dsts_flat l]
section
variable {P : Program} {gl : Nat → Option PV} {e : Bool}
def WpN (P : Program) (gl : Nat → Option PV) (e : Bool) : Nodes → Env → Hp → (Env → Hp → Prop) → Prop
  | .nil, s, H, Q => Q s H
  | .op d o _ l, s, H, Q => WpOp P gl e o s H fun r H' => WpN P gl e l (s.put d r) H' Q
  | .grd t b sub l, s, H, Q => ∃ x, s t = some (.bool x) ∧ (x = b → WpN P gl e sub s H fun s1 H1 => WpN P gl e l s1 H1 Q) ∧ (x = !b → WpN P gl e l (s.undef sub.dsts) H Q)
theorem WpCall_mono {f : FuncId} {as : List PV} {H : Hp} {K K' : Option PV → Hp → Prop} (h : WpCall P gl e f as H K) (hK : ∀ r H, K r H → K' r H) : WpCall P gl e f as H K' := by
  rcases h with ⟨b, as', r, h1, h2, h3, h4⟩ | ⟨as', r, r', G, h1, h2, h3, h4⟩ | ⟨he, r, H', h1, h2, h3⟩
  · exact .inl ⟨b, as', r, h1, h2, h3, hK _ _ h4⟩
  · exact .inr (.inl ⟨as', r, r', G, h1, h2, h3, hK _ _ h4⟩)
  · exact .inr (.inr ⟨he, r, H', h1, h2, hK _ _ h3⟩)
theorem WpOp_mono {op : RI} {s : Env} {H : Hp} {K K' : Option PV → Hp → Prop} (h : WpOp P gl e op s H K) (hK : ∀ r H, K r H → K' r H) : WpOp P gl e op s H K' := by
  cases op
  case call =>
    obtain ⟨as, h1, h2⟩ := h
    exact ⟨as, h1, WpCall_mono h2 hK⟩
  case callP =>
    obtain ⟨as, as', r, h1, h2, h3, h4⟩ := h
    exact ⟨as, as', r, h1, h2, h3, hK _ _ h4⟩
  case callv =>
    rcases h with ⟨f, caps, as, h1, h2, h3⟩ | ⟨he, b, as, r, H', h1, h2, h3, h4, h5⟩
    · exact .inl ⟨f, caps, as, h1, h2, WpCall_mono h3 hK⟩
    · exact .inr ⟨he, b, as, r, H', h1, h2, h3, h4, hK _ _ h5⟩
  all_goals
    obtain ⟨r, x, h1, h2⟩ := h
    exact ⟨r, x, h1, hK _ _ h2⟩
theorem Env.put_other {s : Env} {d : Option Nat} {r : Option PV} {t : Nat} (h : t ∉ d.toList) : s.put d r t = s t := by
  cases d with
  | none => rfl
  | some d => simp only [Env.put]; rw [if_neg (by simpa using h)]
theorem undef_other : ∀ {ds : List Nat} {s : Env} {t : Nat}, t ∉ ds → s.undef ds t = s t
  | [], s, t, _ => rfl
  | d :: r, s, t, h => by
    simp only [List.mem_cons, not_or] at h
    unfold Env.undef
    rw [undef_other h.2, Env.put_other (by simpa using h.1)]
theorem wpN_frame : ∀ {N : Nodes} {s : Env} {H : Hp} {Q : Env → Hp → Prop}, WpN P gl e N s H Q → WpN P gl e N s H fun s1 H1 => Q s1 H1 ∧ ∀ t, t ∉ N.dsts → s1 t = s t
  | .nil, s, H, Q, h => ⟨h, fun _ _ => rfl⟩
  | .op d o bf l, s, H, Q, h => WpOp_mono h fun r H' hk => by
      have := wpN_frame hk
      refine wpN_post this fun s1 H1 ⟨h1, h2⟩ => ⟨h1, fun t ht => ?_⟩
      simp only [Nodes.dsts, List.mem_append, not_or] at ht
      rw [h2 t ht.2, Env.put_other ht.1]
  | .grd t b sub l, s, H, Q, ⟨x, hx, h1, h2⟩ => ⟨x, hx, fun hb => by
      refine wpN_post (wpN_frame (h1 hb)) fun s1 H1 ⟨h3, h4⟩ => ?_
      refine wpN_post (wpN_frame h3) fun s2 H2 ⟨h5, h6⟩ => ⟨h5, fun t ht => ?_⟩
      simp only [Nodes.dsts, List.mem_append, not_or] at ht
      rw [h6 t ht.2, h4 t ht.1], fun hb => by
      refine wpN_post (wpN_frame (h2 hb)) fun s1 H1 ⟨h3, h4⟩ => ⟨h3, fun t ht => ?_⟩
      simp only [Nodes.dsts, List.mem_append, not_or] at ht
      rw [h4 t ht.2, undef_other ht.1]⟩
where
  wpN_post : ∀ {N : Nodes} {s : Env} {H : Hp} {Q Q' : Env → Hp → Prop}, WpN P gl e N s H Q → (∀ s H, Q s H → Q' s H) → WpN P gl e N s H Q'
  | .nil, s, H, Q, Q', h, hQ => hQ _ _ h
  | .op d o bf l, s, H, Q, Q', h, hQ => WpOp_mono h fun r H' hk => wpN_post hk hQ
  | .grd t b sub l, s, H, Q, Q', ⟨x, hx, h1, h2⟩, hQ => ⟨x, hx, fun hb => wpN_post (h1 hb) fun s1 H1 h => wpN_post h hQ, fun hb => wpN_post (h2 hb) hQ⟩
theorem wpN_post {N : Nodes} {s : Env} {H : Hp} {Q Q' : Env → Hp → Prop} (h : WpN P gl e N s H Q) (hQ : ∀ s H, Q s H → Q' s H) : WpN P gl e N s H Q' := wpN_frame.wpN_post h hQ
theorem skip_ops {t : Nat} {b : Bool} {l : List ROper} {Q : Env → Hp → Prop} {H : Hp} : ∀ (fl : List ROper) (u : List Nat) (s : Env), skipOk t b u fl = true → s t = some (.bool (!b)) → (∀ t' ∈ u, s t' = some (.tup [])) → WpOps P gl e l (s.undef (dstsL fl)) H Q → WpOps P gl e (fl ++ l) s H Q
  | [], u, s, _, _, _, h => h
  | o :: fl, u, s, hk, ht, hu, h => by
    simp only [skipOk, Bool.and_eq_true, bne_iff_ne, ne_eq] at hk
    obtain ⟨⟨h1, h2⟩, h3⟩ := hk
    have hp : ∃ t' b' p, o.guard = some (t', b') ∧ s t' = some p ∧ p.goes b' = false := by
      split at h1
      · rename_i t' b' hg
        simp only [Bool.or_eq_true, Bool.and_eq_true, beq_iff_eq, List.contains_iff_mem] at h1
        rcases h1 with ⟨rfl, rfl⟩ | h1
        · exact ⟨_, _, _, hg, ht, by cases b' <;> rfl⟩
        · exact ⟨_, _, _, hg, hu _ h1, rfl⟩
      · cases h1
    obtain ⟨t', b', p, hg, hs, hp⟩ := hp
    rw [List.cons_append]
    unfold WpOps
    rw [hg]
    refine ⟨p, hs, fun hc => (by rw [hp] at hc; cases hc), fun _ => ⟨0, fun _ => rfl, ?_⟩⟩
    rw [Hp.res_zero]
    have ht' : t ∉ o.dst.toList := by
      intro hm
      exact h2 (Option.mem_toList.1 hm)
    refine skip_ops fl _ _ h3 (by rw [Env.put_other ht']; exact ht) (fun x hx => ?_) ?_
    · by_cases hxo : x ∈ o.dst.toList
      · have : o.dst = some x := Option.mem_toList.1 hxo
        rw [this]
        simp [Env.put]
      · rw [Env.put_other hxo]
        rcases List.mem_append.1 hx with h | h
        · exact absurd h hxo
        · exact hu x h
    · have : (s.put o.dst (some (.tup []))).undef (dstsL fl) = s.undef (dstsL (o :: fl)) := by
        show _ = s.undef (o.dst.toList ++ dstsL fl)
        cases o.dst with
        | none => rfl
        | some d => rfl
      rw [this]
      exact h
theorem wpN_run : ∀ (N : Nodes) (g : Option (Nat × Bool)) (s : Env) (H : Hp) (l : List ROper) (Q : Env → Hp → Prop), N.ok = true → (∀ t b, g = some (t, b) → s t = some (.bool b) ∧ t ∉ N.dsts) → WpN P gl e N s H (fun s1 H1 => WpOps P gl e l s1 H1 Q) → WpOps P gl e (N.flat g ++ l) s H Q
  | .nil, g, s, H, l, Q, _, _, h => h
  | .op d o bf r, g, s, H, l, Q, hok, hg, h => by
    simp only [Nodes.flat, List.cons_append]
    unfold WpOps
    have next : ∀ r' H', WpN P gl e r (s.put d r') H' (fun s1 H1 => WpOps P gl e l s1 H1 Q) → WpOps P gl e (r.flat g ++ l) (s.put d r') H' Q := fun r' H' hk =>
      wpN_run r g _ _ l Q hok (fun t b hgg => by
        obtain ⟨h1, h2⟩ := hg t b hgg
        simp only [Nodes.dsts, List.mem_append, not_or] at h2
        exact ⟨by rw [Env.put_other h2.1]; exact h1, h2.2⟩) hk
    cases g with
    | none => exact WpOp_mono h next
    | some tb =>
      obtain ⟨t, b⟩ := tb
      obtain ⟨h1, _⟩ := hg t b rfl
      refine ⟨.bool b, h1, fun _ => WpOp_mono h next, fun hc => ?_⟩
      simp [PV.goes] at hc
  | .grd t b sub r, g, s, H, l, Q, hok, hg, ⟨x, hx, h1, h2⟩ => by
    simp only [Nodes.ok, Bool.and_eq_true, Bool.not_eq_true', List.contains_eq_mem, decide_eq_false_iff_not] at hok
    obtain ⟨⟨⟨k1, k2⟩, k3⟩, k4⟩ := hok
    simp only [Nodes.flat, List.append_assoc]
    have hg' : ∀ s1 : Env, (∀ t, t ∉ sub.dsts → s1 t = s t) → ∀ t b, g = some (t, b) → s1 t = some (.bool b) ∧ t ∉ r.dsts := by
      intro s1 hs1 t b hgg
      obtain ⟨h1, h2⟩ := hg t b hgg
      simp only [Nodes.dsts, List.mem_append, not_or] at h2
      exact ⟨by rw [hs1 t h2.1]; exact h1, h2.2⟩
    by_cases hb : x = b
    · refine wpN_run sub (some (t, b)) s H _ Q k3 (fun t' b' he => ?_) ?_
      · injection he with he
        injection he with e1 e2
        subst e1
        subst e2
        exact ⟨by rw [hx, hb], k1⟩
      · refine wpN_post (wpN_frame (h1 hb)) fun s1 H1 ⟨h3, h4⟩ => ?_
        exact wpN_run r g s1 H1 l Q k4 (hg' s1 h4) h3
    · have hb' : x = !b := by cases x <;> cases b <;> simp at hb ⊢
      refine skip_ops (t := t) (b := b) _ [] s k2 (by rw [hx, hb']) (fun _ h => by cases h) ?_
      rw [dsts_flat]
      exact wpN_run r g _ H l Q k4 (hg' _ fun t ht => undef_other ht) (h2 hb')
def WN (P : Program) (gl : Nat → Option PV) (e : Bool) (N : Nodes) (s : Env) (H : Hp) (Q : Env → Hp → Prop) : Prop := WpN P gl e N s H fun s1 H1 => ∃ s', s'.le s1 ∧ Q s' H1
theorem tr_region_f {n0 : Nat} {N : Nodes} {s : Env} {H : Hp} {Q : Ex → Env → Hp → Prop} (hok : N.ok = true) (h : WN P gl true N s H (Q .normal)) : Tr P gl n0 (.region (N.flat none) false) s H Q := by
  refine tr_post (Q := fun e s1 H1 => match e with | .normal => ∃ s', s'.le s1 ∧ Q .normal s' H1 | _ => False) (tr_wp ⟨true, by simp, ?_⟩) ?_
  · have := wpN_run N none s H [] (fun s1 H1 => ∃ s' : Env, s'.le s1 ∧ Q .normal s' H1) hok (fun _ _ h => by cases h) h
    rw [List.append_nil] at this
    exact this
  · rintro e s1 H1 hq
    cases e with
    | normal => obtain ⟨s', hs, hq⟩ := hq; exact ⟨s', H1, gh_le hs, hq⟩
    | exit id => exact hq.elim
    | ret => exact hq.elim
theorem tr_region_e {n0 : Nat} {N : Nodes} {s : Env} {H : Hp} {Q : Ex → Env → Hp → Prop} {e : Bool} (hok : N.ok = true) (hr : regOk (eOf e) (N.flat none) = true) (h : WN P gl e N s H (Q .normal)) : Tr P gl n0 (.region (N.flat none) true) s H Q := by
  refine tr_post (Q := fun e s1 H1 => match e with | .normal => ∃ s', s'.le s1 ∧ Q .normal s' H1 | _ => False) (tr_wp ⟨e, fun _ => hr, ?_⟩) ?_
  · have := wpN_run N none s H [] (fun s1 H1 => ∃ s' : Env, s'.le s1 ∧ Q .normal s' H1) hok (fun _ _ h => by cases h) h
    rw [List.append_nil] at this
    exact this
  · rintro e s1 H1 hq
    cases e with
    | normal => obtain ⟨s', hs, hq⟩ := hq; exact ⟨s', H1, gh_le hs, hq⟩
    | exit id => exact hq.elim
    | ret => exact hq.elim
theorem tr_region_t {n0 : Nat} {N : Nodes} {s : Env} {H : Hp} {Q : Ex → Env → Hp → Prop} (hok : N.ok = true) (hr : regOk (eOf false) (N.flat none) = true) (h : WN P gl false N s H (Q .normal)) : Tr P gl n0 (.region (N.flat none) true) s H Q := tr_region_e hok hr h
theorem tr_region_b {n0 : Nat} {N : Nodes} {s : Env} {H : Hp} {Q : Ex → Env → Hp → Prop} (hok : N.ok = true) (hr : regOk (eOf true) (N.flat none) = true) (h : WN P gl true N s H (Q .normal)) : Tr P gl n0 (.region (N.flat none) true) s H Q := tr_region_e hok hr h
end
end Go.Vm
