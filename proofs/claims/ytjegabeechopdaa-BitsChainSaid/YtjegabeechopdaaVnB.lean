/- Closed calls, worked out: an interpreter over the VM's states, and that it is sound. -/
import Derived.Test.YtjegabeechopdaaVnA
set_option linter.unusedSimpArgs false
set_option linter.unusedVariables false
namespace Go.Vm
open Go Go.RowKit

abbrev Calc := FuncId → List PV → Option PV

/-- A frame, temporary by temporary. -/
abbrev Fr := List (Nat × Option PV)
def Fr.get (t : Nat) : Fr → Option PV
  | [] => none
  | (d, r) :: l => bif d == t then r else get t l
def Fr.ins (d : Nat) (r : Option PV) : Fr → Fr
  | [] => [(d, r)]
  | (t, q) :: l => bif t == d then (d, r) :: l else (t, q) :: ins d r l
def Fr.env (l : Fr) : Env := fun t => l.get t
def Fr.put (l : Fr) (d : Option Nat) (r : Option PV) : Fr := match d with | none => l | some d => l.ins d r

theorem Fr.get_ins {d : Nat} {r : Option PV} {t : Nat} : ∀ {l : Fr}, (l.ins d r).get t = if t = d then r else l.get t
  | [] => by
    simp only [ins, get, cond_eq_ite, beq_iff_eq]
    by_cases h : t = d
    · simp [h]
    · have h' : ¬ d = t := fun e => h e.symm
      simp [h, h']
  | (u, q) :: l => by
    have ih := Fr.get_ins (d := d) (r := r) (t := t) (l := l)
    simp only [ins, cond_eq_ite, beq_iff_eq]
    split
    · rename_i h
      subst h
      simp only [get, cond_eq_ite, beq_iff_eq]
      by_cases h : u = t
      · simp [h]
      · have h' : ¬ t = u := fun e => h e.symm
        simp [h, h']
    · rename_i h
      simp only [get, cond_eq_ite, beq_iff_eq]
      rw [ih]
      by_cases h1 : u = t
      · have : t ≠ d := fun e => h (h1.trans e)
        simp [h1, this]
      · simp [h1]
theorem Fr.env_put (l : Fr) (d : Option Nat) (r : Option PV) : (l.put d r).env = l.env.put d r := by
  cases d with
  | none => rfl
  | some d => funext t; exact Fr.get_ins

def runCall (C : Calc) (H : Hp) (f : FuncId) (as : List PV) : Option PV :=
  match softs H false as with
  | some as' => C f as'
  | none => do
    let as' ← softs H true as
    let r ← C f as'
    if scal r then some r else none

def runOp (C : Calc) (gl : Nat → Option PV) (op : RI) (s : Fr) (H : Hp) : Option (Option PV × Hp) :=
  match op with
  | .call f args => do
    let as ← evs (RO.ev gl s.env) args
    let r ← runCall C H f as
    some (some r, H)
  | .callv x args => do
    match ← x.ev gl s.env with
    | .fn f caps => do
      let as ← evs (RO.ev gl s.env) args
      let r ← runCall C H f (as ++ caps)
      some (some r, H)
    | _ => none
  | .store n x v => stepE (RO.ev gl s.env) H (.store n x v)
  | .append n z x v => stepE (RO.ev gl s.env) H (.append n z x v)
  | .copy n x v => stepE (RO.ev gl s.env) H (.copy n x v)
  | op => do
    let (r, ext) ← stepN (RO.ev gl s.env) H op
    some (some r, H.app ext)

def runOps (C : Calc) (gl : Nat → Option PV) : List ROper → Fr → Hp → Option (Fr × Hp)
  | [], s, H => some (s, H)
  | o :: l, s, H =>
    match o.guard with
    | none => do
      let (r, H') ← runOp C gl o.op s H
      runOps C gl l (s.put o.dst r) H'
    | some (t, b) => do
      let p ← s.get t
      if p.goes b then do
        let (r, H') ← runOp C gl o.op s H
        runOps C gl l (s.put o.dst r) H'
      else runOps C gl l (s.put o.dst (some (.tup []))) H

/-- Round by round, at most so often. -/
def runLoop (body : Fr → Hp → Option (Ex × Fr × Hp)) : Nat → Fr → Hp → Option (Ex × Fr × Hp)
  | 0, _, _ => none
  | k + 1, s, H =>
    match body s H with
    | some (.normal, s', H') => runLoop body k s' H'
    | r => r

def runC (C : Calc) (gl : Nat → Option PV) (k : Nat) : RCode → Fr → Hp → Option (Ex × Fr × Hp)
  | .skip, s, H => some (.normal, s, H)
  | .region l _, s, H => do
    let (s', H') ← runOps C gl l s H
    some (.normal, s', H')
  | .seq a b, s, H =>
    match runC C gl k a s H with
    | some (.normal, s', H') => runC C gl k b s' H'
    | r => r
  | .cond c a b, s, H =>
    match c.ev gl s.env with
    | some (.bool true) => runC C gl k a s H
    | some (.bool false) => runC C gl k b s H
    | _ => none
  | .block id c, s, H =>
    match runC C gl k c s H with
    | some (.exit j, s', H') => if j = id then some (.normal, s', H') else some (.exit j, s', H')
    | r => r
  | .loop c, s, H => runLoop (runC C gl k c) k s H
  | .exit id, s, H => some (.exit id, s, H)
  | .ret, s, H => some (.ret, s, H)

/-- Regions that draw an order may do so. -/
def regsOk : RCode → Bool
  | .region l d => !d || regOk (eOf false) l
  | .seq a b | .cond _ a b => regsOk a && regsOk b
  | .block _ c | .loop c => regsOk c
  | _ => true

section
variable {P : Program} {gl : Nat → Option PV} {C : Calc}

theorem runCall_sound (hC : ∀ f as r, C f as = some r → Pure P gl f as r) {e : Bool} {H : Hp} {f : FuncId} {as : List PV} {r : PV} (h : runCall C H f as = some r) {K : Option PV → Hp → Prop} (k : K (some r) H) : WpCall P gl e f as H K := by
  unfold runCall at h
  split at h
  · rename_i as' hs
    exact .inl ⟨false, as', r, hs, hC _ _ _ h, by simp, k⟩
  · simp only [Option.bind_eq_bind, Option.bind_eq_some_iff] at h
    obtain ⟨as', hs, r', hr, h⟩ := h
    split at h
    · rename_i hsc
      injection h with h
      subst h
      exact .inl ⟨true, as', r', hs, hC _ _ _ hr, fun _ => hsc, k⟩
    · cases h

theorem runOp_sound (hC : ∀ f as r, C f as = some r → Pure P gl f as r) {e : Bool} {op : RI} {s : Fr} {H : Hp} {r : Option PV} {H' : Hp} (h : runOp C gl op s H = some (r, H')) {K : Option PV → Hp → Prop} (k : K r H') : WpOp P gl e op s.env H K := by
  cases op
  case call f args =>
    simp only [runOp, Option.bind_eq_bind, Option.bind_eq_some_iff, Option.some.injEq, Prod.mk.injEq] at h
    obtain ⟨as, h1, r', h2, rfl, rfl⟩ := h
    exact ⟨as, h1, runCall_sound hC h2 k⟩
  case callv x args =>
    simp only [runOp, Option.bind_eq_bind, Option.bind_eq_some_iff] at h
    obtain ⟨q, hq, h⟩ := h
    split at h
    · simp only [Option.bind_eq_some_iff, Option.some.injEq, Prod.mk.injEq] at h
      obtain ⟨as, h1, r', h2, rfl, rfl⟩ := h
      exact ⟨_, _, as, hq, h1, runCall_sound hC h2 k⟩
    · cases h
  case store => exact ⟨r, H', h, k⟩
  case append => exact ⟨r, H', h, k⟩
  case copy => exact ⟨r, H', h, k⟩
  all_goals
    simp only [runOp, Option.bind_eq_bind, Option.bind_eq_some_iff, Option.some.injEq, Prod.mk.injEq] at h
    obtain ⟨⟨r', ext⟩, h1, rfl, rfl⟩ := h
    exact ⟨r', ext, h1, k⟩

theorem runOps_sound (hC : ∀ f as r, C f as = some r → Pure P gl f as r) {e : Bool} : ∀ {l : List ROper} {s s' : Fr} {H H' : Hp}, runOps C gl l s H = some (s', H') → ∀ {Q : Env → Hp → Prop}, Q s'.env H' → WpOps P gl e l s.env H Q
  | [], s, s', H, H', h, Q, k => by
    simp only [runOps, Option.some.injEq, Prod.mk.injEq] at h
    obtain ⟨rfl, rfl⟩ := h
    exact k
  | o :: l, s, s', H, H', h, Q, k => by
    unfold runOps at h
    have next : ∀ {r H1}, runOps C gl l (s.put o.dst r) H1 = some (s', H') → WpOps P gl e l (s.env.put o.dst r) H1 Q := by
      intro r H1 h1
      rw [← Fr.env_put]
      exact runOps_sound hC h1 k
    unfold WpOps
    rcases hg : o.guard with _ | ⟨t, b⟩
    · rw [hg] at h
      simp only [Option.bind_eq_bind, Option.bind_eq_some_iff] at h
      obtain ⟨⟨r, H1⟩, h1, h2⟩ := h
      exact runOp_sound hC (K := fun r H' => WpOps P gl e l (s.env.put o.dst r) H' Q) h1 (next h2)
    · rw [hg] at h
      simp only [Option.bind_eq_bind, Option.bind_eq_some_iff] at h
      obtain ⟨p, hp, h⟩ := h
      refine ⟨p, hp, fun hb => ?_, fun hb => ?_⟩
      · rw [if_pos hb] at h
        simp only [Option.bind_eq_some_iff] at h
        obtain ⟨⟨r, H1⟩, h1, h2⟩ := h
        exact runOp_sound hC (K := fun r H' => WpOps P gl e l (s.env.put o.dst r) H' Q) h1 (next h2)
      · rw [if_neg (by rw [hb]; simp)] at h
        exact ⟨0, fun _ => rfl, next h⟩

theorem WpOps_post {e : Bool} : ∀ (l : List ROper) (s : Env) (H : Hp) {Q Q' : Env → Hp → Prop}, WpOps P gl e l s H Q → (∀ s H, Q s H → Q' s H) → WpOps P gl e l s H Q'
  | [], s, H, Q, Q', h, hQ => hQ _ _ h
  | o :: l, s, H, Q, Q', h, hQ => by
    unfold WpOps at h ⊢
    rcases hg : o.guard with _ | ⟨t, b⟩
    · rw [hg] at h
      exact WpOp_mono h fun r H' hk => WpOps_post _ _ _ hk hQ
    · rw [hg] at h
      obtain ⟨p, hp, h1, h2⟩ := h
      exact ⟨p, hp, fun hb => WpOp_mono (h1 hb) fun r H' hk => WpOps_post _ _ _ hk hQ, fun hb => by
        obtain ⟨j, hj, h2⟩ := h2 hb
        exact ⟨j, hj, WpOps_post _ _ _ h2 hQ⟩⟩

theorem Wp_post' : ∀ (c : RCode) (s : Env) (H : Hp) (Q Q' : Ex → Env → Hp → Prop), Wp P gl c s H Q → (∀ e s H, Q e s H → Q' e s H) → Wp P gl c s H Q' := by
  intro c
  induction c with
  | skip => intro s H Q Q' h hQ; exact hQ _ _ _ h
  | exit id => intro s H Q Q' h hQ; exact hQ _ _ _ h
  | ret => intro s H Q Q' h hQ; exact hQ _ _ _ h
  | region l d => intro s H Q Q' h hQ; obtain ⟨e, h1, h2⟩ := h; exact ⟨e, h1, WpOps_post _ _ _ h2 fun s H => hQ _ s H⟩
  | seq a b iha ihb =>
    intro s H Q Q' h hQ
    refine iha _ _ _ _ h fun e s1 H1 hq => ?_
    cases e with
    | normal => exact ihb _ _ _ _ hq hQ
    | exit j => exact hQ _ _ _ hq
    | ret => exact hQ _ _ _ hq
  | cond c a b iha ihb =>
    intro s H Q Q' ⟨t, ht, h1, h2⟩ hQ
    exact ⟨t, ht, fun hb => iha _ _ _ _ (h1 hb) hQ, fun hb => ihb _ _ _ _ (h2 hb) hQ⟩
  | block id c ih =>
    intro s H Q Q' h hQ
    refine ih _ _ _ _ h fun e s1 H1 hq => ?_
    cases e with
    | normal => exact hQ _ _ _ hq
    | exit j =>
      simp only at hq ⊢
      split
      · rename_i hj; rw [if_pos hj] at hq; exact hQ _ _ _ hq
      · rename_i hj; rw [if_neg hj] at hq; exact hQ _ _ _ hq
    | ret => exact hQ _ _ _ hq
  | loop c ih =>
    intro s H Q Q' ⟨I, hI, h⟩ hQ
    refine ⟨I, hI, fun n s H hi => ih _ _ _ _ (h n s H hi) fun e s1 H1 hq => ?_⟩
    cases e with
    | normal => exact hq
    | exit j => exact hQ _ _ _ hq
    | ret => exact hQ _ _ _ hq
theorem Wp_post {c : RCode} {s : Env} {H : Hp} {Q Q' : Ex → Env → Hp → Prop} (h : Wp P gl c s H Q) (hQ : ∀ e s H, Q e s H → Q' e s H) : Wp P gl c s H Q' := Wp_post' c s H Q Q' h hQ

theorem runC_sound (hC : ∀ f as r, C f as = some r → Pure P gl f as r) {k : Nat} : ∀ (c : RCode) (s s' : Fr) (H H' : Hp) (e : Ex), regsOk c = true → runC C gl k c s H = some (e, s', H') → Wp P gl c s.env H fun e1 s1 H1 => e1 = e ∧ s1 = s'.env ∧ H1 = H' := by
  intro c
  induction c with
  | skip =>
    intro s s' H H' e _ h
    simp only [runC, Option.some.injEq, Prod.mk.injEq] at h
    obtain ⟨rfl, rfl, rfl⟩ := h
    exact ⟨rfl, rfl, rfl⟩
  | exit id =>
    intro s s' H H' e _ h
    simp only [runC, Option.some.injEq, Prod.mk.injEq] at h
    obtain ⟨rfl, rfl, rfl⟩ := h
    exact ⟨rfl, rfl, rfl⟩
  | ret =>
    intro s s' H H' e _ h
    simp only [runC, Option.some.injEq, Prod.mk.injEq] at h
    obtain ⟨rfl, rfl, rfl⟩ := h
    exact ⟨rfl, rfl, rfl⟩
  | region l d =>
    intro s s' H H' e hr h
    simp only [runC, Option.bind_eq_bind, Option.bind_eq_some_iff, Option.some.injEq, Prod.mk.injEq] at h
    obtain ⟨⟨s1, H1⟩, h1, rfl, rfl, rfl⟩ := h
    simp only [regsOk, Bool.or_eq_true, Bool.not_eq_true'] at hr
    refine ⟨false, fun hd => hr.resolve_left (by simp [hd]), ?_⟩
    exact runOps_sound hC h1 ⟨rfl, rfl, rfl⟩
  | seq a b iha ihb =>
    intro s s' H H' e hr h
    simp only [regsOk, Bool.and_eq_true] at hr
    unfold runC at h
    split at h
    · rename_i s1 H1 h1
      have := iha _ _ _ _ _ hr.1 h1
      unfold Wp
      refine Wp_post this fun e1 s2 H2 he => ?_
      obtain ⟨rfl, rfl, rfl⟩ := he
      exact ihb _ _ _ _ _ hr.2 h
    · rename_i hne
      unfold Wp
      refine Wp_post (iha _ _ _ _ _ hr.1 h) fun e1 s2 H2 he => ?_
      obtain ⟨rfl, rfl, rfl⟩ := he
      cases e1 with
      | normal => exact absurd h (hne _ _)
      | exit j => exact ⟨rfl, rfl, rfl⟩
      | ret => exact ⟨rfl, rfl, rfl⟩
  | cond c a b iha ihb =>
    intro s s' H H' e hr h
    simp only [regsOk, Bool.and_eq_true] at hr
    unfold runC at h
    split at h
    · rename_i hc
      exact ⟨true, hc, fun _ => iha _ _ _ _ _ hr.1 h, by simp⟩
    · rename_i hc
      exact ⟨false, hc, by simp, fun _ => ihb _ _ _ _ _ hr.2 h⟩
    · cases h
  | block id c ih =>
    intro s s' H H' e hr h
    unfold runC at h
    unfold Wp
    split at h
    · rename_i j s1 H1 h1
      refine Wp_post (ih _ _ _ _ _ hr h1) fun e1 s2 H2 he => ?_
      obtain ⟨rfl, rfl, rfl⟩ := he
      simp only
      split at h
      · rename_i hj
        simp only [Option.some.injEq, Prod.mk.injEq] at h
        rw [if_pos hj]
        obtain ⟨rfl, rfl, rfl⟩ := h
        exact ⟨rfl, rfl, rfl⟩
      · rename_i hj
        simp only [Option.some.injEq, Prod.mk.injEq] at h
        rw [if_neg hj]
        obtain ⟨rfl, rfl, rfl⟩ := h
        exact ⟨rfl, rfl, rfl⟩
    · rename_i hne
      refine Wp_post (ih _ _ _ _ _ hr h) fun e1 s2 H2 he => ?_
      obtain ⟨rfl, rfl, rfl⟩ := he
      cases e1 with
      | normal => exact ⟨rfl, rfl, rfl⟩
      | exit j => exact absurd h (hne _ _ _)
      | ret => exact ⟨rfl, rfl, rfl⟩
  | loop c ih =>
    intro s s' H H' e hr h
    unfold runC at h
    refine ⟨fun n s1 H1 => ∃ f : Fr, s1 = f.env ∧ runLoop (runC C gl k c) n f H1 = some (e, s', H'), ⟨k, s, rfl, h⟩, ?_⟩
    rintro n s1 H1 ⟨f, rfl, hn⟩
    cases n with
    | zero => cases hn
    | succ n =>
      unfold runLoop at hn
      split at hn
      · rename_i s2 H2 h2
        refine Wp_post (ih _ _ _ _ _ hr h2) fun e1 s3 H3 he => ?_
        obtain ⟨rfl, rfl, rfl⟩ := he
        exact ⟨n, Nat.lt_succ_self n, s2, rfl, hn⟩
      · rename_i hne
        refine Wp_post (ih _ _ _ _ _ hr hn) fun e1 s3 H3 he => ?_
        obtain ⟨rfl, rfl, rfl⟩ := he
        cases e1 with
        | normal => exact absurd hn (hne _ _)
        | exit j => exact ⟨rfl, rfl, rfl⟩
        | ret => exact ⟨rfl, rfl, rfl⟩
def frOf : Nat → List PV → Fr
  | _, [] => []
  | n, p :: l => (n, some p) :: frOf (n + 1) l

theorem frOf_get : ∀ {l : List PV} {n t : Nat}, (frOf n l).get t = if n ≤ t then l[t - n]? else none
  | [], n, t => by simp [frOf, Fr.get]
  | p :: l, n, t => by
    simp only [frOf, Fr.get, cond_eq_ite, beq_iff_eq]
    by_cases h : n = t
    · subst h; simp
    · rw [if_neg h, frOf_get]
      by_cases h2 : n ≤ t
      · rw [if_pos h2, if_pos (by omega), show t - n = (t - (n + 1)) + 1 by omega, List.getElem?_cons_succ]
      · rw [if_neg h2, if_neg (by omega)]
theorem frOf_env (l : List PV) : (frOf 0 l).env = envOf l := by
  funext t
  show (frOf 0 l).get t = l[t]?
  rw [frOf_get]
  simp

/-- Functions that are known, by their numbers. -/
abbrev Tab := List (FuncId × RFn)
def Tab.get (f : FuncId) : Tab → Option RFn
  | [] => none
  | (g, K) :: l => bif g == f then some K else get f l

def clc (T : Tab) (gl : Nat → Option PV) (k : Nat) : Nat → Calc
  | 0, _, _ => none
  | d + 1, f, as => do
    let K ← T.get f
    match runC (clc T gl k d) gl k K.code (frOf 0 as) Hp.none with
    | some (.exit _, _, _) => none
    | some (_, s, H) => do
      let r ← retOf K.res H s.env
      soft H true r
    | none => none

def TabOk (P : Program) : Tab → Prop
  | [] => True
  | (f, K) :: l => (∃ ow, fnOf P ow f = some K) ∧ regsOk K.code = true ∧ TabOk P l

theorem TabOk.get {T : Tab} : TabOk P T → ∀ {f : FuncId} {K : RFn}, T.get f = some K → (∃ ow, fnOf P ow f = some K) ∧ regsOk K.code = true := by
  induction T with
  | nil => intro _ f K h; cases h
  | cons x l ih =>
    obtain ⟨g, K'⟩ := x
    rintro ⟨h1, h2, h3⟩ f K h
    simp only [Tab.get, cond_eq_ite, beq_iff_eq] at h
    split at h
    · rename_i e
      injection h with h
      subst e h
      exact ⟨h1, h2⟩
    · exact ih h3 h

/-- WHAT IS WORKED OUT OF A CLOSED CALL IS SO. -/
theorem clc_sound (hmix : P.follows .mixedOrders = true) {T : Tab} (hT : TabOk P T) {k : Nat} : ∀ {d : Nat} {f : FuncId} {as : List PV} {r : PV}, clc T gl k d f as = some r → Pure P gl f as r
  | 0, f, as, r, h => by cases h
  | d + 1, f, as, r, h => by
    simp only [clc, Option.bind_eq_bind, Option.bind_eq_some_iff] at h
    obtain ⟨K, hK, h⟩ := h
    obtain ⟨⟨ow, hf⟩, hreg⟩ := hT.get hK
    split at h
    · cases h
    · rename_i e s H hne hrun
      simp only [Option.bind_eq_some_iff] at h
      obtain ⟨r0, hr0, hs⟩ := h
      have hw := runC_sound (P := P) (gl := gl) (fun f as r h => clc_sound hmix hT h) _ _ _ _ _ _ hreg hrun
      rw [frOf_env] at hw
      refine Pure.tr hmix hf (tr_mono (tr_wp hw) ?_)
      rintro e1 s1 H1 ⟨rfl, rfl, rfl⟩
      cases e1 with
      | normal => exact ⟨r0, hr0, hs⟩
      | exit j => exact (hne _ rfl).elim
      | ret => exact ⟨r0, hr0, hs⟩
    · cases h
end
end Go.Vm
