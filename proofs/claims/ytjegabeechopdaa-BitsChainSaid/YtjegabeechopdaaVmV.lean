/- Code, as the worlds have it: triples over the VM's states, and steps that the program does not take: to know less, to let rows be that nobody writes any more. -/
import Derived.Test.YtjegabeechopdaaVmU
set_option linter.unusedSimpArgs false
set_option linter.unusedVariables false
namespace Go.Vm
open Go Go.RowKit

/-- What code does from a state of the VM on. n0: blocks from there on are the call's own. -/
def Tr (P : Program) (gl : Nat → Option PV) (n0 : Nat) (rc : RCode) (s : Env) (H : Hp) (Q : Ex → Env → Hp → Prop) : Prop :=
  P.follows .mixedOrders = true → ∀ (ow : Nat → Nat → Bool) (N : Nat) (c : Code), resolveCode P ow N c = some rc → ∀ (A : Nat → Prop) (w0 : World) (F0 : Nat → Prop) (m0 : Nat → Slot) (w00 : World) (ds : List Deferred) (a : Act) (w : World),
    (∀ b, n0 ≤ b → m0 b = .unborn) → SRel gl A w0 F0 m0 w00 N ds a w s H → c.wp P (fun e a' w' => ∃ x s' H', exOf e = some x ∧ Q x s' H' ∧ SRel gl A w0 F0 m0 w00 N ds a' w' s' H') a w

/-- From one state of the VM to another one, the program standing still. -/
def Gh (gl : Nat → Option PV) (n0 : Nat) (s : Env) (H : Hp) (s' : Env) (H' : Hp) : Prop :=
  ∀ (A : Nat → Prop) (w0 : World) (F0 : Nat → Prop) (m0 : Nat → Slot) (w00 : World) (N : Nat) (ds : List Deferred) (a : Act) (w : World), (∀ b, n0 ≤ b → m0 b = .unborn) →
    SRel gl A w0 F0 m0 w00 N ds a w s H → SRel gl A w0 F0 m0 w00 N ds a w s' H'

section
variable {P : Program} {gl : Nat → Option PV} {n0 : Nat} {s s' s'' : Env} {H H' H'' : Hp} {Q Q' : Ex → Env → Hp → Prop}

theorem tr_wp {rc : RCode} (h : Wp P gl rc s H Q) : Tr P gl n0 rc s H Q :=
  fun hmix ow N c hr A w0 F0 m0 w00 ds a w _ hs => wp_sound hmix c rc hr s H Q a w h hs

theorem tr_ghost {rc : RCode} (g : Gh gl n0 s H s' H') (h : Tr P gl n0 rc s' H' Q) : Tr P gl n0 rc s H Q :=
  fun hmix ow N c hr A w0 F0 m0 w00 ds a w hm hs => h hmix ow N c hr A w0 F0 m0 w00 ds a w hm (g A w0 F0 m0 w00 N ds a w hm hs)

theorem tr_post {rc : RCode} (h : Tr P gl n0 rc s H Q) (hQ : ∀ e s H, Q e s H → ∃ s' H', Gh gl n0 s H s' H' ∧ Q' e s' H') : Tr P gl n0 rc s H Q' := by
  intro hmix ow N c hr A w0 F0 m0 w00 ds a w hm hs
  refine Code.wp_mono ?_ (h hmix ow N c hr A w0 F0 m0 w00 ds a w hm hs)
  rintro e a' w' ⟨x, s1, H1, he, hq, hs1⟩
  obtain ⟨s2, H2, hg, hq2⟩ := hQ _ _ _ hq
  exact ⟨x, s2, H2, he, hq2, hg A w0 F0 m0 w00 N ds a' w' hm hs1⟩

theorem gh_refl : Gh gl n0 s H s H := fun _ _ _ _ _ _ _ _ _ _ h => h
theorem gh_trans (h : Gh gl n0 s H s' H') (k : Gh gl n0 s' H' s'' H'') : Gh gl n0 s H s'' H'' := fun A w0 F0 m0 w00 N ds a w hm hs => k A w0 F0 m0 w00 N ds a w hm (h A w0 F0 m0 w00 N ds a w hm hs)

def Env.le (s s' : Env) : Prop := ∀ t p, s t = some p → s' t = some p
theorem Env.le_refl (s : Env) : s.le s := fun _ _ h => h
theorem Env.le_trans {s s' s'' : Env} (h : s.le s') (k : s'.le s'') : s.le s'' := fun t p hp => k t p (h t p hp)

theorem gh_le (h : s'.le s) : Gh gl n0 s H s' H := by
  rintro A w0 F0 m0 w00 N ds a w hm ⟨F, m, sim, ev, ht, hr⟩
  exact ⟨F, m, sim, ev, fun t p hp => ht t p (h t p hp), hr⟩

theorem tr_mono {rc : RCode} (h : Tr P gl n0 rc s H Q) (hQ : ∀ e s H, Q e s H → Q' e s H) : Tr P gl n0 rc s H Q' := tr_post h fun e s H hq => ⟨s, H, gh_refl, hQ e s H hq⟩
theorem tr_le {rc : RCode} (h : s'.le s) (k : Tr P gl n0 rc s' H Q) : Tr P gl n0 rc s H Q := tr_ghost (gh_le h) k

/-- What is left to show behind the first of two. -/
def SeqQ (P : Program) (gl : Nat → Option PV) (n0 : Nat) (b : RCode) (Q : Ex → Env → Hp → Prop) (e : Ex) (s : Env) (H : Hp) : Prop := match e with | .normal => Tr P gl n0 b s H Q | e => Q e s H
def BlkQ (id : Nat) (Q : Ex → Env → Hp → Prop) (e : Ex) (s : Env) (H : Hp) : Prop := match e with | .exit j => if j = id then Q .normal s H else Q (.exit j) s H | e => Q e s H

theorem tr_skip (h : Q .normal s H) : Tr P gl n0 .skip s H Q := tr_wp h
theorem tr_exit {id : Nat} (h : Q (.exit id) s H) : Tr P gl n0 (.exit id) s H Q := tr_wp h
theorem tr_ret (h : Q .ret s H) : Tr P gl n0 .ret s H Q := tr_wp h

theorem tr_seq {a b : RCode} (h : Tr P gl n0 a s H (SeqQ P gl n0 b Q)) : Tr P gl n0 (.seq a b) s H Q := by
  intro hmix ow N c hr A w0 F0 m0 w00 ds ac w hm hs
  cases c <;> simp only [resolveCode, Option.bind_eq_bind, Option.bind_eq_some_iff, Option.map_eq_some_iff, Option.some.injEq, reduceCtorEq, RCode.seq.injEq, and_false, exists_false] at hr
  case seq x y =>
    obtain ⟨rx, hx, ry, hy, rfl, rfl⟩ := hr
    refine wp_seq (Code.wp_mono ?_ (h hmix ow N x hx A w0 F0 m0 w00 ds ac w hm hs))
    rintro e a' w' ⟨x, s', H', he, hq, hs'⟩
    cases e <;> simp only [exOf, Option.some.injEq, reduceCtorEq] at he
    · subst he
      exact hq hmix ow N y hy A w0 F0 m0 w00 ds a' w' hm hs'
    · subst he
      exact ⟨_, s', H', rfl, hq, hs'⟩
    · subst he
      exact ⟨_, s', H', rfl, hq, hs'⟩
  case region id ops draw =>
    obtain ⟨l, _, hr⟩ := hr
    split at hr
    · split at hr <;> cases hr
    · cases hr

theorem tr_cond {c : RO} {a b : RCode} {t : Bool} (ht : c.ev gl s = some (.bool t)) (h1 : t = true → Tr P gl n0 a s H Q) (h2 : t = false → Tr P gl n0 b s H Q) : Tr P gl n0 (.cond c a b) s H Q := by
  intro hmix ow N cc hr A w0 F0 m0 w00 ds ac w hm hs
  cases cc <;> simp only [resolveCode, Option.bind_eq_bind, Option.bind_eq_some_iff, Option.map_eq_some_iff, Option.some.injEq, reduceCtorEq, RCode.cond.injEq, and_false, exists_false] at hr
  case cond co x y =>
    obtain ⟨r, hc, rx, hx, ry, hy, rfl, rfl, rfl⟩ := hr
    obtain ⟨F, m, sim, ev, htm, hrest⟩ := id hs
    have hv := RO.rel sim hc (fun t _ p hp => htm t p hp) ht
    generalize hev : ac.eval co = v at hv
    cases hv
    cases t with
    | true => exact wp_cond_true hev (h1 rfl hmix ow N x hx A w0 F0 m0 w00 ds ac w hm hs)
    | false => exact wp_cond_false hev (h2 rfl hmix ow N y hy A w0 F0 m0 w00 ds ac w hm hs)
  case region id ops draw =>
    obtain ⟨l, _, hr⟩ := hr
    split at hr
    · split at hr <;> cases hr
    · cases hr

theorem tr_block {id : Nat} {c : RCode} (h : Tr P gl n0 c s H (BlkQ id Q)) : Tr P gl n0 (.block id c) s H Q := by
  intro hmix ow N cc hr A w0 F0 m0 w00 ds ac w hm hs
  cases cc <;> simp only [resolveCode, Option.bind_eq_bind, Option.bind_eq_some_iff, Option.map_eq_some_iff, Option.some.injEq, reduceCtorEq, RCode.block.injEq, and_false, exists_false] at hr
  case block id' x =>
    obtain ⟨rx, hx, rfl, rfl⟩ := hr
    refine wp_block (Code.wp_mono ?_ (h hmix ow N x hx A w0 F0 m0 w00 ds ac w hm hs))
    rintro e a' w' ⟨x, s', H', he, hq, hs'⟩
    cases e <;> simp only [exOf, Option.some.injEq, reduceCtorEq] at he
    · subst he
      exact ⟨_, s', H', rfl, hq, hs'⟩
    · subst he
      simp only [BlkQ] at hq
      unfold Exit.inBlock
      simp only
      split at hq
      · rename_i hid
        rw [if_pos hid]
        exact ⟨_, s', H', rfl, hq, hs'⟩
      · rename_i hid
        rw [if_neg hid]
        exact ⟨_, s', H', rfl, hq, hs'⟩
    · subst he
      exact ⟨_, s', H', rfl, hq, hs'⟩
  case region id ops draw =>
    obtain ⟨l, _, hr⟩ := hr
    split at hr
    · split at hr <;> cases hr
    · cases hr

/-- A loop: an invariant, a number that falls. -/
theorem tr_loop {c : RCode} (I : Nat → Env → Hp → Prop) {n : Nat} (h0 : I n s H) (h : ∀ n s H, I n s H → Tr P gl n0 c s H fun e s' H' => match e with | .normal => ∃ n', n' < n ∧ I n' s' H' | e => Q e s' H') : Tr P gl n0 (.loop c) s H Q := by
  intro hmix ow N cc hr A w0 F0 m0 w00 ds ac w hm hs
  cases cc <;> simp only [resolveCode, Option.bind_eq_bind, Option.bind_eq_some_iff, Option.map_eq_some_iff, Option.some.injEq, reduceCtorEq, RCode.loop.injEq, and_false, exists_false] at hr
  case loop x =>
    obtain ⟨rx, hx, rfl⟩ := hr
    refine Go.wp_loop_ghost (fun n a w => ∃ s H, I n s H ∧ SRel gl A w0 F0 m0 w00 N ds a w s H) n ⟨s, H, h0, hs⟩ ?_
    rintro n a' w' ⟨s', H', hI', hs'⟩
    refine Code.wp_mono ?_ (h n s' H' hI' hmix ow N x hx A w0 F0 m0 w00 ds a' w' hm hs')
    rintro e a2 w2 ⟨x, s2, H2, he, hq, hs2⟩
    cases e <;> simp only [exOf, Option.some.injEq, reduceCtorEq] at he
    · subst he
      obtain ⟨n', hn', hI2⟩ := hq
      exact ⟨n', hn', s2, H2, hI2, hs2⟩
    · subst he
      exact ⟨_, s2, H2, rfl, hq, hs2⟩
    · subst he
      exact ⟨_, s2, H2, rfl, hq, hs2⟩
  case region id ops draw =>
    obtain ⟨l, _, hr⟩ := hr
    split at hr
    · split at hr <;> cases hr
    · cases hr

/-! ### Functions -/
def FnQ (rs : List RRes) (R : PV → Hp → Prop) (e : Ex) (s : Env) (H : Hp) : Prop := match e with
    | .exit _ => False
    | _ => ∃ r, retOf rs H s = some r ∧ R r H

theorem calls_tr {ow : Nat → Nat → Bool} {f : FuncId} {K : RFn} (hmix : P.follows .mixedOrders = true) (hf : fnOf P ow f = some K) {args : List PV} {R : PV → Hp → Prop} (h : Tr P gl H.n K.code (envOf args) H (FnQ K.res R))
    {A : Nat → Prop} {w0 : World} {F : Nat → Prop} {m : Nat → Slot} {w : World} (sim : Sim gl A w0 F m w H) (hU : ∀ b, H.n ≤ b → m b = .unborn) {vs : Array Value} (hvs : CsRel F m w vs args) :
    Calls P f vs w fun e w' => ∃ v F' m' r H', e = .returned v ∧ R r H' ∧ Sim gl A w0 F' m' w' H' ∧ (∀ b, H'.n ≤ b → m' b = .unborn) ∧ Ev F m w F' m' w' ∧ VRel F' w' m' v r := by
  obtain ⟨_, fn, c, hfn, hc, hrc, hrs⟩ := fnOf_spec hf
  refine calls_of_wp hfn hc ?_
  refine Code.wp_mono ?_ (h hmix ow fn.ntmps c hrc A w0 F m w [] _ w hU ⟨F, m, sim, Ev.refl sim.fnl sim.liv, ?_, hU, ?_, rfl⟩)
  · rintro e a' w' ⟨x, s', H', he, hq, F', m', sim', ev, ht, hu, hN, hds⟩
    have fin : (∃ r, retOf K.res H' s' = some r ∧ R r H') → ∃ v, (results fn a'.tmps).run P w' = .ok v w' ∧ ∃ v_1 F' m' r H', Ending.returned v = .returned v_1 ∧ R r H' ∧ Sim gl A w0 F' m' w' H' ∧ (∀ b, H'.n ≤ b → m' b = .unborn) ∧ Ev F m w F' m' w' ∧ VRel F' w' m' v_1 r := by
      rintro ⟨r, hr, hR⟩
      obtain ⟨v, hv, hrel⟩ := ret_run sim' ht hrs hr
      exact ⟨v, hv, v, F', m', r, H', rfl, hR, sim', hu, ev, hrel⟩
    cases e <;> simp only [exOf, Option.some.injEq, reduceCtorEq] at he
    · subst he
      exact ⟨hds, fin hq⟩
    · subst he
      exact hq.elim
    · subst he
      exact ⟨hds, fin hq⟩
  · intro t p hp
    simp only [envOf] at hp
    obtain ⟨ht, rfl⟩ := List.getElem?_eq_some_iff.1 hp
    have hs := hvs.1
    have : (vs ++ Array.replicate (fn.ntmps - vs.size) undef).getD t undef = vs[t]'(by omega) := by
      rw [Array.getD_eq_getD_getElem?, Array.getElem?_append_left (by omega), Array.getElem?_eq_getElem (by omega)]
      rfl
    rw [this]
    exact hvs.2 t _ ht
  · simp
    omega

theorem HSpec.tr {ow : Nat → Nat → Bool} {f : FuncId} {K : RFn} (hmix : P.follows .mixedOrders = true) (hf : fnOf P ow f = some K) {args : List PV} {R : PV → Hp → Prop} (h : Tr P gl H.n K.code (envOf args) H (FnQ K.res R)) : HSpec P gl f args H R :=
  ⟨(fnOf_spec hf).1, fun A w0 F m w vs sim hU hvs => calls_tr hmix hf h sim hU hvs⟩

theorem Pure.tr {ow : Nat → Nat → Bool} {f : FuncId} {K : RFn} (hmix : P.follows .mixedOrders = true) (hf : fnOf P ow f = some K) {args : List PV} {r : PV} (h : Tr P gl 0 K.code (envOf args) Hp.none (FnQ K.res fun r0 H' => soft H' true r0 = some r)) : Pure P gl f args r := by
  refine ⟨(fnOf_spec hf).1, fun A w vs hA hg hvs => ?_⟩
  refine (calls_tr (H := Hp.none) hmix hf h (Sim.none hA hg) (fun _ _ => rfl) hvs).mono ?_
  rintro e w' ⟨v, F', m', r0, H', rfl, hR, sim, hU, ev, hrel⟩
  refine ⟨v, rfl, sim.below, ?_⟩
  exact soft_rel sim (fun _ _ h => h) (fun β h => by
    rcases sim.frz β h with h' | h'
    · exact .inl h'
    · exact .inr ⟨h', sim.frzlt β h⟩) (fun _ β h1 h2 => .inr ⟨h1, h2⟩) hrel hR

theorem Fresh.tr {ow : Nat → Nat → Bool} {f : FuncId} {K : RFn} (hmix : P.follows .mixedOrders = true) (hf : fnOf P ow f = some K) {args : List PV} {r : PV} {H' : Hp} (h : Tr P gl 0 K.code (envOf args) Hp.none (FnQ K.res fun r0 G => r0 = r ∧ G = H')) : Fresh P gl f args r H' := by
  refine ⟨(fnOf_spec hf).1, fun A w vs hA hg hvs => ?_⟩
  refine (calls_tr (H := Hp.none) hmix hf h (Sim.none hA hg) (fun _ _ => rfl) hvs).mono ?_
  rintro e w' ⟨v, F', m', r0, H', rfl, ⟨rfl, rfl⟩, sim, hU, ev, hrel⟩
  exact ⟨v, F', m', rfl, sim, hU, ev.frz, hrel⟩
end
end Go.Vm
