/- Regions as trees of guarded parts; rules for walking through code. -/
import Derived.Test.YtjegabeechopdaaVmY
set_option linter.unusedSimpArgs false
set_option linter.unusedVariables false
namespace Go.Vm
open Go Go.RowKit

/-- A region's operations; those under one guard together. -/
inductive Nodes where
  | nil
  | op (d : Option Nat) (o : RI) (bf : Nat) (l : Nodes)
  | grd (t : Nat) (b : Bool) (sub l : Nodes)
  deriving Inhabited

def Nodes.flat : Option (Nat × Bool) → Nodes → List ROper
  | _, .nil => []
  | g, .op d o bf l => ⟨d, o, g, bf⟩ :: flat g l
  | g, .grd t b sub l => flat (some (t, b)) sub ++ flat g l

def Nodes.dsts : Nodes → List Nat
  | .nil => []
  | .op d _ _ l => d.toList ++ dsts l
  | .grd _ _ sub l => dsts sub ++ dsts l

def Env.undef : List Nat → Env → Env
  | [], s => s
  | d :: r, s => Env.undef r (s.put (some d) (some (.tup [])))

def skipOk (t : Nat) (b : Bool) : List Nat → List ROper → Bool
  | _, [] => true
  | u, o :: l => (match o.guard with
      | some (t', b') => (t' == t && b' == b) || u.contains t'
      | none => false) && o.dst != some t && skipOk t b (o.dst.toList ++ u) l

def Nodes.ok : Nodes → Bool
  | .nil => true
  | .op _ _ _ l => l.ok
  | .grd t b sub l => !sub.dsts.contains t && skipOk t b [] (sub.flat (some (t, b))) && sub.ok && l.ok

def dstsL : List ROper → List Nat
  | [] => []
  | o :: l => o.dst.toList ++ dstsL l

theorem dsts_flat : ∀ (N : Nodes) (g : Option (Nat × Bool)), dstsL (N.flat g) = N.dsts
  | .nil, g => rfl
  | .op d o bf l, g => by simp [Nodes.flat, dstsL, Nodes.dsts, dsts_flat l]
  | .grd t b sub l, g => by
    have app : ∀ a b : List ROper, dstsL (a ++ b) = dstsL a ++ dstsL b := by
      intro a
      induction a with
      | nil => intro b; rfl
      | cons x r ih => intro b; simp [dstsL, ih]
    simp [Nodes.flat, Nodes.dsts, app, dsts_flat sub, dsts_flat l]

section
variable {P : Program} {gl : Nat → Option PV} {e : Bool}

def WpN (P : Program) (gl : Nat → Option PV) (e : Bool) : Nodes → Env → Hp → (Env → Hp → Prop) → Prop
  | .nil, s, H, Q => Q s H
  | .op d o _ l, s, H, Q => WpOp P gl e o s H fun r H' => WpN P gl e l (s.put d r) H' Q
  | .grd t b sub l, s, H, Q => ∃ x, s t = some (.bool x) ∧ (x = b → WpN P gl e sub s H fun s1 H1 => WpN P gl e l s1 H1 Q) ∧ (x = !b → WpN P gl e l (s.undef sub.dsts) H Q)

theorem WpCall_mono {f : FuncId} {as : List PV} {H : Hp} {K K' : Option PV → Hp → Prop} (h : WpCall P gl e f as H K) (hK : ∀ r H, K r H → K' r H) : WpCall P gl e f as H K' := by
  rcases h with ⟨b, as', r, h1, h2, h3, h4⟩ | ⟨as', r, r', G, h1, h2, h3, h4⟩ | ⟨he, r, H', h1, h2, h3⟩
  · exact .inl ⟨b, as', r, h1, h2, h3, hK _ _ h4⟩
  · exact .inr (.inl ⟨as', r, r', G, h1, h2, h3, hK _ _ h4⟩)
  · exact .inr (.inr ⟨he, r, H', h1, h2, hK _ _ h3⟩)

theorem WpOp_mono {op : RI} {s : Env} {H : Hp} {K K' : Option PV → Hp → Prop} (h : WpOp P gl e op s H K) (hK : ∀ r H, K r H → K' r H) : WpOp P gl e op s H K' := by
  cases op
  case call =>
    obtain ⟨as, h1, h2⟩ := h
    exact ⟨as, h1, WpCall_mono h2 hK⟩
  case callv =>
    obtain ⟨f, caps, as, h1, h2, h3⟩ := h
    exact ⟨f, caps, as, h1, h2, WpCall_mono h3 hK⟩
  all_goals
    obtain ⟨r, x, h1, h2⟩ := h
    exact ⟨r, x, h1, hK _ _ h2⟩

theorem Env.put_other {s : Env} {d : Option Nat} {r : Option PV} {t : Nat} (h : t ∉ d.toList) : s.put d r t = s t := by
  cases d with
  | none => rfl
  | some d => simp only [Env.put]; rw [if_neg (by simpa using h)]

theorem undef_other : ∀ {ds : List Nat} {s : Env} {t : Nat}, t ∉ ds → s.undef ds t = s t
  | [], s, t, _ => rfl
  | d :: r, s, t, h => by
    simp only [List.mem_cons, not_or] at h
    unfold Env.undef
    rw [undef_other h.2, Env.put_other (by simpa using h.1)]

theorem wpN_frame : ∀ {N : Nodes} {s : Env} {H : Hp} {Q : Env → Hp → Prop}, WpN P gl e N s H Q → WpN P gl e N s H fun s1 H1 => Q s1 H1 ∧ ∀ t, t ∉ N.dsts → s1 t = s t
  | .nil, s, H, Q, h => ⟨h, fun _ _ => rfl⟩
  | .op d o bf l, s, H, Q, h => WpOp_mono h fun r H' hk => by
      have := wpN_frame hk
      refine wpN_post this fun s1 H1 ⟨h1, h2⟩ => ⟨h1, fun t ht => ?_⟩
      simp only [Nodes.dsts, List.mem_append, not_or] at ht
      rw [h2 t ht.2, Env.put_other ht.1]
  | .grd t b sub l, s, H, Q, ⟨x, hx, h1, h2⟩ => ⟨x, hx, fun hb => by
      refine wpN_post (wpN_frame (h1 hb)) fun s1 H1 ⟨h3, h4⟩ => ?_
      refine wpN_post (wpN_frame h3) fun s2 H2 ⟨h5, h6⟩ => ⟨h5, fun t ht => ?_⟩
      simp only [Nodes.dsts, List.mem_append, not_or] at ht
      rw [h6 t ht.2, h4 t ht.1], fun hb => by
      refine wpN_post (wpN_frame (h2 hb)) fun s1 H1 ⟨h3, h4⟩ => ⟨h3, fun t ht => ?_⟩
      simp only [Nodes.dsts, List.mem_append, not_or] at ht
      rw [h4 t ht.2, undef_other ht.1]⟩
where
  wpN_post : ∀ {N : Nodes} {s : Env} {H : Hp} {Q Q' : Env → Hp → Prop}, WpN P gl e N s H Q → (∀ s H, Q s H → Q' s H) → WpN P gl e N s H Q'
  | .nil, s, H, Q, Q', h, hQ => hQ _ _ h
  | .op d o bf l, s, H, Q, Q', h, hQ => WpOp_mono h fun r H' hk => wpN_post hk hQ
  | .grd t b sub l, s, H, Q, Q', ⟨x, hx, h1, h2⟩, hQ => ⟨x, hx, fun hb => wpN_post (h1 hb) fun s1 H1 h => wpN_post h hQ, fun hb => wpN_post (h2 hb) hQ⟩

theorem wpN_post {N : Nodes} {s : Env} {H : Hp} {Q Q' : Env → Hp → Prop} (h : WpN P gl e N s H Q) (hQ : ∀ s H, Q s H → Q' s H) : WpN P gl e N s H Q' := wpN_frame.wpN_post h hQ

theorem skip_ops {t : Nat} {b : Bool} {l : List ROper} {Q : Env → Hp → Prop} {H : Hp} : ∀ (fl : List ROper) (u : List Nat) (s : Env), skipOk t b u fl = true → s t = some (.bool (!b)) → (∀ t' ∈ u, s t' = some (.tup [])) → WpOps P gl e l (s.undef (dstsL fl)) H Q → WpOps P gl e (fl ++ l) s H Q
  | [], u, s, _, _, _, h => h
  | o :: fl, u, s, hk, ht, hu, h => by
    simp only [skipOk, Bool.and_eq_true, bne_iff_ne, ne_eq] at hk
    obtain ⟨⟨h1, h2⟩, h3⟩ := hk
    have hp : ∃ t' b' p, o.guard = some (t', b') ∧ s t' = some p ∧ p.goes b' = false := by
      split at h1
      · rename_i t' b' hg
        simp only [Bool.or_eq_true, Bool.and_eq_true, beq_iff_eq, List.contains_iff_mem] at h1
        rcases h1 with ⟨rfl, rfl⟩ | h1
        · exact ⟨_, _, _, hg, ht, by cases b' <;> rfl⟩
        · exact ⟨_, _, _, hg, hu _ h1, rfl⟩
      · cases h1
    obtain ⟨t', b', p, hg, hs, hp⟩ := hp
    rw [List.cons_append]
    unfold WpOps
    rw [hg]
    refine ⟨p, hs, fun hc => (by rw [hp] at hc; cases hc), fun _ => ⟨0, fun _ => rfl, ?_⟩⟩
    rw [Hp.res_zero]
    have ht' : t ∉ o.dst.toList := by
      intro hm
      exact h2 (Option.mem_toList.1 hm)
    refine skip_ops fl _ _ h3 (by rw [Env.put_other ht']; exact ht) (fun x hx => ?_) ?_
    · by_cases hxo : x ∈ o.dst.toList
      · have : o.dst = some x := Option.mem_toList.1 hxo
        rw [this]
        simp [Env.put]
      · rw [Env.put_other hxo]
        rcases List.mem_append.1 hx with h | h
        · exact absurd h hxo
        · exact hu x h
    · have : (s.put o.dst (some (.tup []))).undef (dstsL fl) = s.undef (dstsL (o :: fl)) := by
        show _ = s.undef (o.dst.toList ++ dstsL fl)
        cases o.dst with
        | none => rfl
        | some d => rfl
      rw [this]
      exact h

theorem wpN_run : ∀ (N : Nodes) (g : Option (Nat × Bool)) (s : Env) (H : Hp) (l : List ROper) (Q : Env → Hp → Prop), N.ok = true → (∀ t b, g = some (t, b) → s t = some (.bool b) ∧ t ∉ N.dsts) → WpN P gl e N s H (fun s1 H1 => WpOps P gl e l s1 H1 Q) → WpOps P gl e (N.flat g ++ l) s H Q
  | .nil, g, s, H, l, Q, _, _, h => h
  | .op d o bf r, g, s, H, l, Q, hok, hg, h => by
    simp only [Nodes.flat, List.cons_append]
    unfold WpOps
    have next : ∀ r' H', WpN P gl e r (s.put d r') H' (fun s1 H1 => WpOps P gl e l s1 H1 Q) → WpOps P gl e (r.flat g ++ l) (s.put d r') H' Q := fun r' H' hk =>
      wpN_run r g _ _ l Q hok (fun t b hgg => by
        obtain ⟨h1, h2⟩ := hg t b hgg
        simp only [Nodes.dsts, List.mem_append, not_or] at h2
        exact ⟨by rw [Env.put_other h2.1]; exact h1, h2.2⟩) hk
    cases g with
    | none => exact WpOp_mono h next
    | some tb =>
      obtain ⟨t, b⟩ := tb
      obtain ⟨h1, _⟩ := hg t b rfl
      refine ⟨.bool b, h1, fun _ => WpOp_mono h next, fun hc => ?_⟩
      simp [PV.goes] at hc
  | .grd t b sub r, g, s, H, l, Q, hok, hg, ⟨x, hx, h1, h2⟩ => by
    simp only [Nodes.ok, Bool.and_eq_true, Bool.not_eq_true', List.contains_eq_mem, decide_eq_false_iff_not] at hok
    obtain ⟨⟨⟨k1, k2⟩, k3⟩, k4⟩ := hok
    simp only [Nodes.flat, List.append_assoc]
    have hg' : ∀ s1 : Env, (∀ t, t ∉ sub.dsts → s1 t = s t) → ∀ t b, g = some (t, b) → s1 t = some (.bool b) ∧ t ∉ r.dsts := by
      intro s1 hs1 t b hgg
      obtain ⟨h1, h2⟩ := hg t b hgg
      simp only [Nodes.dsts, List.mem_append, not_or] at h2
      exact ⟨by rw [hs1 t h2.1]; exact h1, h2.2⟩
    by_cases hb : x = b
    · refine wpN_run sub (some (t, b)) s H _ Q k3 (fun t' b' he => ?_) ?_
      · injection he with he
        injection he with e1 e2
        subst e1
        subst e2
        exact ⟨by rw [hx, hb], k1⟩
      · refine wpN_post (wpN_frame (h1 hb)) fun s1 H1 ⟨h3, h4⟩ => ?_
        exact wpN_run r g s1 H1 l Q k4 (hg' s1 h4) h3
    · have hb' : x = !b := by cases x <;> cases b <;> simp at hb ⊢
      refine skip_ops (t := t) (b := b) _ [] s k2 (by rw [hx, hb']) (fun _ h => by cases h) ?_
      rw [dsts_flat]
      exact wpN_run r g _ H l Q k4 (hg' _ fun t ht => undef_other ht) (h2 hb')

/-- A region's parts in turn, what is known behind them as one likes. -/
def WN (P : Program) (gl : Nat → Option PV) (e : Bool) (N : Nodes) (s : Env) (H : Hp) (Q : Env → Hp → Prop) : Prop := WpN P gl e N s H fun s1 H1 => ∃ s', s'.le s1 ∧ Q s' H1

theorem tr_region_f {n0 : Nat} {N : Nodes} {s : Env} {H : Hp} {Q : Ex → Env → Hp → Prop} (hok : N.ok = true) (h : WN P gl true N s H (Q .normal)) : Tr P gl n0 (.region (N.flat none) false) s H Q := by
  refine tr_post (Q := fun e s1 H1 => match e with | .normal => ∃ s', s'.le s1 ∧ Q .normal s' H1 | _ => False) (tr_wp ⟨true, by simp, ?_⟩) ?_
  · have := wpN_run N none s H [] (fun s1 H1 => ∃ s' : Env, s'.le s1 ∧ Q .normal s' H1) hok (fun _ _ h => by cases h) h
    rw [List.append_nil] at this
    exact this
  · rintro e s1 H1 hq
    cases e with
    | normal => obtain ⟨s', hs, hq⟩ := hq; exact ⟨s', H1, gh_le hs, hq⟩
    | exit id => exact hq.elim
    | ret => exact hq.elim

theorem tr_region_e {n0 : Nat} {N : Nodes} {s : Env} {H : Hp} {Q : Ex → Env → Hp → Prop} {e : Bool} (hok : N.ok = true) (hr : regOk (eOf e) (N.flat none) = true) (h : WN P gl e N s H (Q .normal)) : Tr P gl n0 (.region (N.flat none) true) s H Q := by
  refine tr_post (Q := fun e s1 H1 => match e with | .normal => ∃ s', s'.le s1 ∧ Q .normal s' H1 | _ => False) (tr_wp ⟨e, fun _ => hr, ?_⟩) ?_
  · have := wpN_run N none s H [] (fun s1 H1 => ∃ s' : Env, s'.le s1 ∧ Q .normal s' H1) hok (fun _ _ h => by cases h) h
    rw [List.append_nil] at this
    exact this
  · rintro e s1 H1 hq
    cases e with
    | normal => obtain ⟨s', hs, hq⟩ := hq; exact ⟨s', H1, gh_le hs, hq⟩
    | exit id => exact hq.elim
    | ret => exact hq.elim
theorem tr_region_t {n0 : Nat} {N : Nodes} {s : Env} {H : Hp} {Q : Ex → Env → Hp → Prop} (hok : N.ok = true) (hr : regOk (eOf false) (N.flat none) = true) (h : WN P gl false N s H (Q .normal)) : Tr P gl n0 (.region (N.flat none) true) s H Q := tr_region_e hok hr h
theorem tr_region_b {n0 : Nat} {N : Nodes} {s : Env} {H : Hp} {Q : Ex → Env → Hp → Prop} (hok : N.ok = true) (hr : regOk (eOf true) (N.flat none) = true) (h : WN P gl true N s H (Q .normal)) : Tr P gl n0 (.region (N.flat none) true) s H Q := tr_region_e hok hr h
end
end Go.Vm
