/- Functions: their code and results looked up; what is said of a function out of its code's weakest precondition. -/
import Derived.Test.YtjegabeechopdaaVmT
set_option linter.unusedSimpArgs false
set_option linter.unusedVariables false
namespace Go.Vm
open Go Go.RowKit

inductive RRes where
  | tmp (t : Nat)
  | cell (es : Shape) (t : Nat)
  deriving Inhabited

def resOf (P : Program) : List ResultVar → Option (List RRes)
  | [] => some []
  | .tmp t :: r => do
    let l ← resOf P r
    some (.tmp t :: l)
  | .cell a ty :: r => do
    let es ← shp P ty
    let l ← resOf P r
    some (.cell es a :: l)

def RRes.ev (H : Hp) (s : Env) : RRes → Option PV
  | .tmp t => s t
  | .cell es t => do
    match ← s t with
    | .ptr b g i off => do
      let k ← H.blk b g
      let e ← k.xs[i]?
      subv es (e.cells.drop off)
    | _ => none

def ressEv (H : Hp) (s : Env) : List RRes → Option (List PV)
  | [] => some []
  | x :: r => do
    let v ← x.ev H s
    let l ← ressEv H s r
    some (v :: l)

def retOf (rs : List RRes) (H : Hp) (s : Env) : Option PV := do
  match ← ressEv H s rs with
  | [v] => some v
  | l => some (.tup l)

/-- A function as the VM has it. -/
structure RFn where
  code : RCode
  res : List RRes
  deriving Inhabited

def fnOf (P : Program) (ow : Nat → Nat → Bool) (f : FuncId) : Option RFn := do
  let fn ← P.funcs[f]?
  let c ← fn.body
  let rc ← resolveCode P ow fn.ntmps c
  let rs ← resOf P fn.results.toList
  if callOk P f then some ⟨rc, rs⟩ else none

def envOf (args : List PV) : Env := fun t => args[t]?

/-- The weakest precondition of a function's code, up to its results. -/
def WpFn (P : Program) (gl : Nat → Option PV) (F : RFn) (s : Env) (H : Hp) (R : PV → Hp → Prop) : Prop :=
  Wp P gl F.code s H fun e s' H' => match e with
    | .exit _ => False
    | _ => ∃ r, retOf F.res H' s' = some r ∧ R r H'

section
variable {P : Program} {gl : Nat → Option PV} {A : Nat → Prop} {w0 : World} {F : Nat → Prop} {m : Nat → Slot} {w : World} {G H : Hp} {p : PV}

theorem load_at (sim : Sim gl A w0 F m w H) {t : TypeId} {es : Shape} (ht : shp P t = some es) {v : Value} {b g i off : Nat} (hv : VRel F w m v (.ptr b g i off)) {k : Blk} (hk : H.blk b g = some k) {e : PV} (hxs : k.xs[i]? = some e) (hsub : subv es (e.cells.drop off) = some p) :
    ∃ v', (do loadVar t (← asAddr v) : Sem Value).run P w = .ok v' w ∧ VRel F w m v' p := by
  obtain ⟨hf, hg⟩ := Hp.blk_some hk
  obtain ⟨β, hm, ⟨cs, T, h1, h2, h3, h4⟩, hev⟩ := ptr_at sim hv hf hg
  obtain ⟨hi, rfl⟩ := List.getElem?_eq_some_iff.1 hxs
  obtain ⟨v', hr, hrel⟩ := run_loadVar' (P := P) (F := F) (m := m) (w := w) (l := (k.xs[i]).cells.drop off) (⟨β, i * k.sz + off, none⟩ : Addr) (fun j => cs.getD (i * k.sz + off + j) undef) ht hsub
    (fun j hj => by
      simp at hj
      obtain ⟨v, hv, _⟩ := h4 i hi (off + j) (by omega)
      rw [add_plain', cell_row h1, Nat.add_assoc, hv, Array.getD_eq_getD_getElem?, hv]
      rfl)
    (fun j hj => by
      simp at hj
      obtain ⟨v, hv, hr⟩ := h4 i hi (off + j) (by omega)
      rw [Nat.add_assoc, Array.getD_eq_getD_getElem?, hv]
      simpa using hr)
  exact ⟨v', by simp only [hev, asAddr, Sem.run_bind, Sem.run_pure, Result.andThen_ok, hr], hrel⟩

theorem ress_run (sim : Sim gl A w0 F m w H) {tmps : Array Value} {s : Env} (he : ∀ t p, s t = some p → VRel F w m (tmps.getD t undef) p) (f : ResultVar → Sem Value) (hf : ∀ u, f (.tmp u) = pure (tmps.getD u undef)) (hc : ∀ a t, f (.cell a t) = (do loadVar t (← asAddr (tmps.getD a undef)))) :
    ∀ {rs : List ResultVar} {qs : List RRes} {ps : List PV}, resOf P rs = some qs → ressEv H s qs = some ps → ∃ vs, (rs.mapM f).run P w = .ok vs w ∧ vs.length = ps.length ∧ ∀ i (h1 : i < vs.length) (h2 : i < ps.length), VRel F w m vs[i] ps[i]
  | [], qs, ps, h1, h2 => by
    simp only [resOf, Option.some.injEq] at h1
    subst h1
    simp only [ressEv, Option.some.injEq] at h2
    subst h2
    exact ⟨[], by simp, rfl, fun i h => absurd h (by simp)⟩
  | r :: rs, qs, ps, h1, h2 => by
    have key : ∀ q l, resOf P rs = some l → qs = q :: l → (∀ p, q.ev H s = some p → ∃ v, (f r).run P w = .ok v w ∧ VRel F w m v p) → ∃ vs, ((r :: rs).mapM f).run P w = .ok vs w ∧ vs.length = ps.length ∧ ∀ i (h1 : i < vs.length) (h2 : i < ps.length), VRel F w m vs[i] ps[i] := by
      intro q l hl hq hr
      subst hq
      simp only [ressEv, Option.bind_eq_bind, Option.bind_eq_some_iff, Option.some.injEq] at h2
      obtain ⟨p, hp, ps', hps, rfl⟩ := h2
      obtain ⟨v, hv, hvr⟩ := hr p hp
      obtain ⟨vs, hvs, hlen, hrel⟩ := ress_run sim he f hf hc hl hps
      refine ⟨v :: vs, by rw [List.mapM_cons]; simp [hv, hvs], by simp [hlen], fun i q1 q2 => ?_⟩
      cases i with
      | zero => exact hvr
      | succ i => exact hrel i (by simpa using q1) (by simpa using q2)
    cases r with
    | tmp t =>
      simp only [resOf, Option.bind_eq_bind, Option.bind_eq_some_iff, Option.some.injEq] at h1
      obtain ⟨l, hl, rfl⟩ := h1
      exact key _ l hl rfl (fun p hp => ⟨_, by rw [hf]; simp, he t p hp⟩)
    | cell a ty =>
      simp only [resOf, Option.bind_eq_bind, Option.bind_eq_some_iff, Option.some.injEq] at h1
      obtain ⟨es, hes, l, hl, rfl⟩ := h1
      refine key _ l hl rfl (fun p hp => ?_)
      simp only [RRes.ev, Option.bind_eq_bind, Option.bind_eq_some_iff] at hp
      obtain ⟨q, hq, hp⟩ := hp
      split at hp
      · simp only [Option.bind_eq_some_iff] at hp
        obtain ⟨k, hk, e, hxs, hsub⟩ := hp
        rw [hc]
        exact load_at sim hes (he _ _ hq) hk hxs hsub
      · cases hp

theorem ret_run_by (sim : Sim gl A w0 F m w H) {tmps : Array Value} {s : Env} (he : ∀ t p, s t = some p → VRel F w m (tmps.getD t undef) p) (f : ResultVar → Sem Value) (hf : ∀ u, f (.tmp u) = pure (tmps.getD u undef)) (hc : ∀ a t, f (.cell a t) = (do loadVar t (← asAddr (tmps.getD a undef))))
    {rs : List ResultVar} {qs : List RRes} (hq : resOf P rs = some qs) (hp : retOf qs H s = some p) :
    ∃ v, (((Sem.run P (List.mapM f rs) w).andThen fun a w' => Result.ok a.toArray w').andThen fun a w' => Sem.run P (pure (if h : a.size = 1 then a[0] else Value.tuple a)) w') = .ok v w ∧ VRel F w m v p := by
  simp only [retOf, Option.bind_eq_bind, Option.bind_eq_some_iff] at hp
  obtain ⟨l, hl, hp⟩ := hp
  obtain ⟨vs, hvs, hlen, hrel⟩ := ress_run sim he f hf hc hq hl
  rw [hvs]
  simp only [Result.andThen_ok]
  split at hp
  · injection hp with hp
    subst hp
    obtain ⟨v, rfl⟩ : ∃ v, vs = [v] := by
      match vs, hlen with
      | [v], _ => exact ⟨v, rfl⟩
    exact ⟨v, by simp, hrel 0 (by simp) (by simp)⟩
  · rename_i hne
    injection hp with hp
    subst hp
    have : vs.length ≠ 1 := by
      intro h
      rw [hlen] at h
      match l, h, hne with
      | [v], _, hne => exact hne v rfl
    exact ⟨.tuple vs.toArray, by simp [this], .tup _ _ (by simpa using hlen) (fun i q1 q2 => by simpa using hrel i (by simpa using q1) q2)⟩

theorem ret_run (sim : Sim gl A w0 F m w H) {fn : Func} {tmps : Array Value} {s : Env} (he : ∀ t p, s t = some p → VRel F w m (tmps.getD t undef) p) {qs : List RRes} (hq : resOf P fn.results.toList = some qs) (hp : retOf qs H s = some p) :
    ∃ v, (results fn tmps).run P w = .ok v w ∧ VRel F w m v p := by
  unfold results
  rw [show fn.results = fn.results.toList.toArray by simp, List.mapM_toArray]
  simp only [Sem.run_bind, Sem.run_map]
  exact ret_run_by sim he _ (fun u => rfl) (fun a t => rfl) hq hp

theorem fnOf_spec {ow : Nat → Nat → Bool} {f : FuncId} {K : RFn} (h : fnOf P ow f = some K) : callOk P f = true ∧ ∃ fn c, P.funcs[f]? = some fn ∧ fn.body = some c ∧ resolveCode P ow fn.ntmps c = some K.code ∧ resOf P fn.results.toList = some K.res := by
  simp only [fnOf, Option.bind_eq_bind, Option.bind_eq_some_iff] at h
  obtain ⟨fn, hfn, c, hc, rc, hrc, rs, hrs, h⟩ := h
  split at h
  · rename_i hok
    injection h with h
    subst h
    exact ⟨hok, fn, c, hfn, hc, hrc, hrs⟩
  · cases h

/-- A call of a function, out of its code's weakest precondition. -/
theorem calls_of {ow : Nat → Nat → Bool} {f : FuncId} {K : RFn} (hmix : P.follows .mixedOrders = true) (hf : fnOf P ow f = some K) {args : List PV} {R : PV → Hp → Prop} (h : WpFn P gl K (envOf args) H R)
    (sim : Sim gl A w0 F m w H) (hU : ∀ b, H.n ≤ b → m b = .unborn) {vs : Array Value} (hvs : CsRel F m w vs args) :
    Calls P f vs w fun e w' => ∃ v F' m' r H', e = .returned v ∧ R r H' ∧ Sim gl A w0 F' m' w' H' ∧ (∀ b, H'.n ≤ b → m' b = .unborn) ∧ Ev F m w F' m' w' ∧ VRel F' w' m' v r := by
  obtain ⟨_, fn, c, hfn, hc, hrc, hrs⟩ := fnOf_spec hf
  refine calls_of_wp hfn hc ?_
  refine Code.wp_mono ?_ (wp_sound (F0 := F) (m0 := m) (w00 := w) (ds := []) hmix c K.code hrc (envOf args) H _ _ w h ⟨F, m, sim, Ev.refl sim.fnl sim.liv, ?_, hU, ?_, rfl⟩)
  · rintro e a' w' ⟨x, s', H', he, hq, F', m', sim', ev, ht, hu, hN, hds⟩
    have fin : (∃ r, retOf K.res H' s' = some r ∧ R r H') → ∃ v, (results fn a'.tmps).run P w' = .ok v w' ∧ ∃ v_1 F' m' r H', Ending.returned v = .returned v_1 ∧ R r H' ∧ Sim gl A w0 F' m' w' H' ∧ (∀ b, H'.n ≤ b → m' b = .unborn) ∧ Ev F m w F' m' w' ∧ VRel F' w' m' v_1 r := by
      rintro ⟨r, hr, hR⟩
      obtain ⟨v, hv, hrel⟩ := ret_run sim' ht hrs hr
      exact ⟨v, hv, v, F', m', r, H', rfl, hR, sim', hu, ev, hrel⟩
    cases e <;> simp only [exOf, Option.some.injEq, reduceCtorEq] at he
    · subst he
      exact ⟨hds, fin hq⟩
    · subst he
      exact hq.elim
    · subst he
      exact ⟨hds, fin hq⟩
  · intro t p hp
    simp only [envOf] at hp
    obtain ⟨ht, rfl⟩ := List.getElem?_eq_some_iff.1 hp
    have hs := hvs.1
    have : (vs ++ Array.replicate (fn.ntmps - vs.size) undef).getD t undef = vs[t]'(by omega) := by
      rw [Array.getD_eq_getD_getElem?, Array.getElem?_append_left (by omega), Array.getElem?_eq_getElem (by omega)]
      rfl
    rw [this]
    exact hvs.2 t _ ht
  · simp
    omega

theorem HSpec.of {ow : Nat → Nat → Bool} {f : FuncId} {K : RFn} (hmix : P.follows .mixedOrders = true) (hf : fnOf P ow f = some K) {args : List PV} {R : PV → Hp → Prop} (h : WpFn P gl K (envOf args) H R) : HSpec P gl f args H R :=
  ⟨(fnOf_spec hf).1, fun A w0 F m w vs sim hU hvs => calls_of hmix hf h sim hU hvs⟩

/-- The world that has no local heap. -/
theorem Sim.none (hA : ∀ β, A β → β < w.heap.size) (hg : ∀ g p, gl g = some p → VRel A w noM (.pointer (some ⟨g, 0, none⟩)) p) : Sim gl A w A noM w Hp.none :=
  ⟨Below.refl _ _, fun b β sz g h => by simp [noM] at h, fun b b' β sz g sz' g' h => by simp [noM] at h, fun β h => .inl h, hA, fun b k h => by simp [Hp.none] at h, hg⟩

theorem Pure.of {ow : Nat → Nat → Bool} {f : FuncId} {K : RFn} (hmix : P.follows .mixedOrders = true) (hf : fnOf P ow f = some K) {args : List PV} {r : PV} (h : WpFn P gl K (envOf args) Hp.none fun r0 H' => soft H' true r0 = some r) : Pure P gl f args r := by
  refine ⟨(fnOf_spec hf).1, fun A w vs hA hg hvs => ?_⟩
  refine (calls_of hmix hf h (Sim.none hA hg) (fun _ _ => rfl) hvs).mono ?_
  rintro e w' ⟨v, F', m', r0, H', rfl, hR, sim, hU, ev, hrel⟩
  refine ⟨v, rfl, sim.below, ?_⟩
  exact soft_rel sim (fun _ _ h => h) (fun β h => by
    rcases sim.frz β h with h' | h'
    · exact .inl h'
    · exact .inr ⟨h', sim.frzlt β h⟩) (fun _ β h1 h2 => .inr ⟨h1, h2⟩) hrel hR

theorem Fresh.of {ow : Nat → Nat → Bool} {f : FuncId} {K : RFn} (hmix : P.follows .mixedOrders = true) (hf : fnOf P ow f = some K) {args : List PV} {r : PV} {H' : Hp} (h : WpFn P gl K (envOf args) Hp.none fun r0 G => r0 = r ∧ G = H') : Fresh P gl f args r H' := by
  refine ⟨(fnOf_spec hf).1, fun A w vs hA hg hvs => ?_⟩
  refine (calls_of hmix hf h (Sim.none hA hg) (fun _ _ => rfl) hvs).mono ?_
  rintro e w' ⟨v, F', m', r0, H', rfl, ⟨rfl, rfl⟩, sim, hU, ev, hrel⟩
  exact ⟨v, F', m', rfl, sim, hU, ev.frz, hrel⟩
end
end Go.Vm
