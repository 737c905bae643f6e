/- The orders that a region may draw: the theorem. -/
import Derived.Test.YtjegabeechopdaaVmR
set_option linter.unusedSimpArgs false
set_option linter.unusedVariables false
namespace Go.Vm
open Go Go.RowKit

/-- What is known of a region, told in the text's order. -/
structure Region1 (P : Program) (gl : Nat → Option PV) (ops : Array Oper) (l : List ROper) (e : ROper → Bool) (N : Nat) (env : Nat → Env) (hp : Nat → Hp) : Prop where
  mat : OpsMatch ops l
  reg : regOk e l = true
  bef : befOk ops l = true
  ei : ∀ q ∈ l, e q = true → q.op.inert = false
  step : ∀ (i : Nat) (o : Oper) (q : ROper), ops[i]? = some o → l[i]? = some q → StepK P gl o q (e q) (env i) (hp i) (env (i + 1)) (hp (i + 1))
  dst : ∀ q ∈ l, ∀ d, q.dst = some d → d < N

def Dof (l : List ROper) (k : Nat) : Option Nat := (l[k]?).bind (·.dst)
def Eof (e : ROper → Bool) (l : List ROper) (k : Nat) : Prop := ∃ q, l[k]? = some q ∧ e q = true
def Lof (listed : Array Bool) (k : Nat) : Bool := listed.getD k false

structure Inv (P : Program) (gl : Nat → Option PV) (ops : Array Oper) (l : List ROper) (e : ROper → Bool) (N : Nat) (env : Nat → Env) (hp : Nat → Hp) (A : Nat → Prop) (w0 : World) (F0 : Nat → Prop) (m0 : Nat → Slot) (w00 : World) (ds : List Deferred)
    (listed : Array Bool) (a : Act) (w : World) : Prop where
  size : listed.size = l.length
  closed : ∀ (j : Nat) (o : Oper), ops[j]? = some o → Lof listed j = true → ∀ x ∈ o.after, Region.binds .any x = true → Lof listed x.on = true
  state : ∃ F m k, k ≤ l.length ∧ (k < l.length → Eof e l k ∧ Lof listed k = false) ∧ (∀ j, j < k → Eof e l j → Lof listed j = true) ∧ Sim gl A w0 F m w (hp k) ∧ Ev F0 m0 w00 F m w ∧
    (∀ t p, envL (Dof l) env (Lof listed) l.length t = some p → VRel F w m (a.tmps.getD t undef) p) ∧ (∀ j, j < l.length → Lof listed j = false → ∀ b, (hp j).n ≤ b → b < (hp (j + 1)).n → m b = .unborn) ∧ (∀ b, (hp l.length).n ≤ b → m b = .unborn)
  tmps : a.tmps.size = N
  defers : a.defers = ds

section
variable {P : Program} {gl : Nat → Option PV} {ops : Array Oper} {l : List ROper} {e : ROper → Bool} {N : Nat} {env : Nat → Env} {hp : Nat → Hp} {A : Nat → Prop} {w0 : World} {F0 : Nat → Prop} {m0 : Nat → Slot} {w00 : World} {ds : List Deferred}

theorem bef_listed (hb : befOk ops l = true) (hs : ops.size = l.length) {L : Nat → Bool} (hcl : ∀ (j : Nat) (o : Oper), ops[j]? = some o → L j = true → ∀ x ∈ o.after, Region.binds .any x = true → L x.on = true) :
    ∀ (j : Nat) (o : Oper) (q : ROper), ops[j]? = some o → l[j]? = some q → (∀ x ∈ o.after, Region.binds .any x = true → L x.on = true) → ∀ i, i < j → q.bef.testBit i = true → L i = true := by
  intro j
  induction j using Nat.strongRecOn with
  | _ j ih =>
    intro o q ho hq hedge i hi hbit
    have hj : j < l.length := (List.getElem?_eq_some_iff.1 hq).1
    have h1 := List.all_eq_true.1 hb j (List.mem_range.2 hj)
    simp only [hq, ho, Bool.and_eq_true] at h1
    have h2 := List.all_eq_true.1 h1.2 i (List.mem_range.2 hi)
    simp only [hbit, Bool.not_true, Bool.false_or] at h2
    rw [Array.any_eq_true'] at h2
    obtain ⟨x, hx, h3⟩ := h2
    simp only [Bool.and_eq_true, Bool.or_eq_true, beq_iff_eq, decide_eq_true_eq] at h3
    obtain ⟨hbind, h3⟩ := h3
    have hL := hedge x hx hbind
    rcases h3 with h3 | ⟨⟨h3, h4⟩, h5⟩
    · rw [← h3]; exact hL
    · split at h5
      · rename_i q' hq'
        have ho' : ops[x.on]? = some (ops[x.on]'(by omega)) := Array.getElem?_eq_getElem _
        exact ih x.on h3 _ q' ho' hq' (hcl x.on _ ho' hL) i h4 h5
      · cases h5

theorem edge_lt (hb : befOk ops l = true) {j : Nat} {o : Oper} (hj : j < l.length) (ho : ops[j]? = some o) {x : Edge} (hx : x ∈ o.after) (hbind : Region.binds .any x = true) : x.on < j := by
  have h1 := List.all_eq_true.1 hb j (List.mem_range.2 hj)
  simp only [List.getElem?_eq_getElem hj, ho, Bool.and_eq_true] at h1
  have h2 := Array.all_eq_true'.1 h1.1 x hx
  simpa [hbind] using h2

/-- Two operations, one ready: an order, or none is needed. -/
theorem pair_of (R : Region1 P gl ops l e N env hp) {listed : Array Bool} (hcl : ∀ (j : Nat) (o : Oper), ops[j]? = some o → Lof listed j = true → ∀ x ∈ o.after, Region.binds .any x = true → Lof listed x.on = true) {i : Nat} {o : Oper} {q : ROper}
    (ho : ops[i]? = some o) (hq : l[i]? = some q) (hedge : ∀ x ∈ o.after, Region.binds .any x = true → Lof listed x.on = true) (hni : Lof listed i = false) {j : Nat} {q' : ROper} (hq' : l[j]? = some q') (hne : j ≠ i) :
    (j < i ∧ Lof listed j = true) ∨ (i < j ∧ Lof listed j = false) ∨ ((∀ d, q'.dst = some d → d ∉ q.names) ∧ (e q' = true → q.op.inert = true) ∧ (e q = true → q'.op.inert = true)) := by
  have hi : i < l.length := (List.getElem?_eq_some_iff.1 hq).1
  have hj : j < l.length := (List.getElem?_eq_some_iff.1 hq').1
  rcases Nat.lt_or_gt_of_ne hne with h | h
  · have h1 := List.all_eq_true.1 (List.all_eq_true.1 R.reg i (List.mem_range.2 hi)) j (List.mem_range.2 h)
    simp only [hq, hq', Bool.or_eq_true] at h1
    rcases h1 with h1 | h1
    · exact .inl ⟨h, bef_listed R.bef R.mat.1 hcl i o q ho hq hedge j h h1⟩
    · refine .inr (.inr ?_)
      simp only [apartOk, Bool.and_eq_true, Bool.or_eq_true, Bool.not_eq_true', List.all_eq_true, Option.mem_toList] at h1
      obtain ⟨⟨⟨h2, h3⟩, h4⟩, h5⟩ := h1
      exact ⟨fun d hd hm => by have := h2 d hd; simp at this; exact this hm, fun he => h4.resolve_left (by simp [he]), fun he => h5.resolve_left (by simp [he])⟩
  · cases hL : Lof listed j with
    | false => exact .inr (.inl ⟨h, rfl⟩)
    | true =>
      refine .inr (.inr ?_)
      have h1 := List.all_eq_true.1 (List.all_eq_true.1 R.reg j (List.mem_range.2 hj)) i (List.mem_range.2 h)
      simp only [hq, hq', Bool.or_eq_true] at h1
      rcases h1 with h1 | h1
      · have ho' : ops[j]? = some (ops[j]'(by have := R.mat.1; omega)) := Array.getElem?_eq_getElem _
        have := bef_listed R.bef R.mat.1 hcl j _ q' ho' hq' (hcl j _ ho' hL) i h h1
        rw [this] at hni; cases hni
      · simp only [apartOk, Bool.and_eq_true, Bool.or_eq_true, Bool.not_eq_true', List.all_eq_true, Option.mem_toList] at h1
        obtain ⟨⟨⟨h2, h3⟩, h4⟩, h5⟩ := h1
        exact ⟨fun d hd hm => by have := h3 d hd; simp at this; exact this hm, fun he => h5.resolve_left (by simp [he]), fun he => h4.resolve_left (by simp [he])⟩

theorem names_looks {q : ROper} {t : Nat} (h : t ∈ q.looks) : t ∈ q.names := by
  unfold ROper.names
  exact List.mem_append_right _ h

theorem names_dst {q : ROper} {t : Nat} (h : q.dst = some t) : t ∈ q.names := by
  unfold ROper.names
  exact List.mem_append_left _ (by simp [h])

theorem wanted_of {o : Oper} {q : ROper} {a : Act} {F : Nat → Prop} {m : Nat → Slot} {w : World} {p : PV} (hm : q.dst = o.dst ∧ (match o.guard with
     | none => q.guard = none
     | some (j, b) => ∃ s, q.guard = some (s, b) ∧ (ops[j]?).bind (·.dst) = some s)) {s : Nat} {b : Bool} (hg : q.guard = some (s, b)) (hv : VRel F w m (a.tmps.getD s undef) p) : Region.wanted o (yielded ops a.tmps) = p.goes b := by
  have hm := hm.2
  unfold Region.wanted
  cases hog : o.guard with
  | none => rw [hog] at hm; rw [hm] at hg; cases hg
  | some jb =>
    obtain ⟨j, b0⟩ := jb
    rw [hog] at hm
    obtain ⟨s', hs', hd⟩ := hm
    rw [hs'] at hg
    injection hg with hg
    injection hg with h1 h2
    subst h1
    subst h2
    simp only
    rw [Array.getD_eq_getD_getElem?] at hv
    simp only [yielded, hd, Option.bind_some]
    cases ht : a.tmps[s']? with
    | none =>
      rw [ht] at hv
      simp only [Option.getD_none, undef] at hv
      cases hv
      all_goals rfl
    | some v =>
      rw [ht] at hv
      simp only [Option.getD_some] at hv
      cases hv <;> rfl

theorem wanted_none {o : Oper} {q : ROper} {a : Act} (hm : q.dst = o.dst ∧ (match o.guard with
     | none => q.guard = none
     | some (j, b) => ∃ s, q.guard = some (s, b) ∧ (ops[j]?).bind (·.dst) = some s)) (hg : q.guard = none) : Region.wanted o (yielded ops a.tmps) = true := by
  have hm := hm.2
  unfold Region.wanted
  cases hog : o.guard with
  | none => rfl
  | some jb =>
    obtain ⟨j, b0⟩ := jb
    rw [hog] at hm
    obtain ⟨s', hs', hd⟩ := hm
    rw [hs'] at hg
    cases hg

theorem put_get {a : Act} {d t : Nat} {v : Value} : (a.put (some d) v).tmps.getD t undef = if t = d ∧ d < a.tmps.size then v else a.tmps.getD t undef := by
  unfold Act.put
  simp only [Array.getD_eq_getD_getElem?]
  by_cases h : t = d
  · subst h
    by_cases h2 : t < a.tmps.size
    · rw [Array.getElem?_setIfInBounds_self_of_lt h2, if_pos ⟨rfl, h2⟩]; rfl
    · rw [if_neg (by omega)]
      congr 1
      rw [Array.getElem?_eq_none (by simp; omega), Array.getElem?_eq_none (by omega)]
  · rw [Array.getElem?_setIfInBounds_ne (Ne.symm h), if_neg (by omega)]

theorem put_size {a : Act} {d : Option Nat} {v : Value} : (a.put d v).tmps.size = a.tmps.size := by
  unfold Act.put
  split <;> simp

theorem put_defers' {a : Act} {d : Option Nat} {v : Value} : (a.put d v).defers = a.defers := by
  unfold Act.put
  split <;> rfl

theorem lof_set {listed : Array Bool} {i j : Nat} (hi : i < listed.size) : Lof (listed.setIfInBounds i true) j = if j = i then true else Lof listed j := by
  unfold Lof
  by_cases h : j = i
  · subst h
    rw [if_pos rfl]
    simp [hi]
  · rw [if_neg h]
    exact getD_set_ne false (Ne.symm h)

/-- Every order comes to what the text's order comes to. -/
theorem any_order (R : Region1 P gl ops l e N env hp) {Q : Exit → Act → World → Prop}
    (fin : ∀ a w F m, Sim gl A w0 F m w (hp l.length) → Ev F0 m0 w00 F m w → (∀ t p, env l.length t = some p → VRel F w m (a.tmps.getD t undef) p) → (∀ b, (hp l.length).n ≤ b → m b = .unborn) → a.tmps.size = N → a.defers = ds → Q .normal a w) :
    ∀ (fuel : Nat) (listed : Array Bool) (a : Act) (w : World), Inv P gl ops l e N env hp A w0 F0 m0 w00 ds listed a w → (List.range l.length).countP (Lof listed) + fuel = l.length → wpAny P .any ops Q fuel listed a w := by
  have hsz := R.mat.1
  -- all is done
  have done : ∀ (listed : Array Bool) (a : Act) (w : World), Inv P gl ops l e N env hp A w0 F0 m0 w00 ds listed a w → (∀ i, i < l.length → Lof listed i = true) → Q .normal a w := by
    intro listed a w hI hall
    obtain ⟨F, m, k, hk, hk1, hk2, sim, ev, ht, hu1, hu2⟩ := hI.state
    have : k = l.length := by
      rcases Nat.lt_or_ge k l.length with h | h
      · have := (hk1 h).2; rw [hall k h] at this; cases this
      · omega
    subst this
    refine fin a w F m sim ev (fun t p hp' => ht t p ?_) hu2 hI.tmps hI.defers
    rw [← hp']
    refine envL_done (n := l.length) (fun k hk hd => ?_) (Nat.le_refl _) (fun k hk _ => hall k hk)
    have hq : l[k]? = some l[k] := List.getElem?_eq_getElem hk
    exact (R.step k _ _ (Array.getElem?_eq_getElem (by omega)) hq).env (by intro h; apply hd; simp [Dof, hq, h])
  -- who is first is ready
  have some_ready : ∀ (listed : Array Bool), listed.size = l.length → (∃ i, i < l.length ∧ Lof listed i = false) → Region.ready .any ops listed ≠ [] := by
    intro listed hls ⟨i, hi, hn⟩ hr
    obtain ⟨j, ⟨hj1, hj2⟩, hjmin⟩ := exists_least (p := fun i => i < l.length ∧ Lof listed i = false) ⟨i, hi, hn⟩
    have : j ∈ Region.ready .any ops listed := by
      rw [mem_ready]
      refine ⟨by rw [← hj2]; unfold Lof; simp [Array.getD, show j < listed.size by omega], ops[j]'(by omega), Array.getElem?_eq_getElem _, fun x hx hb => ?_⟩
      have hlt := edge_lt R.bef hj1 (Array.getElem?_eq_getElem (by omega)) hx hb
      cases h : Lof listed x.on with
      | true => exact h
      | false => exact absurd (hjmin x.on ⟨by omega, h⟩) (by omega)
    rw [hr] at this
    cases this
  intro fuel
  induction fuel with
  | zero =>
    intro listed a w hI hc
    have hall := count_full l.length (Lof listed) (by omega)
    refine ⟨?_, done listed a w hI hall⟩
    rcases hr : Region.ready .any ops listed with _ | ⟨j, r⟩
    · rfl
    · have hj : j ∈ Region.ready .any ops listed := by rw [hr]; simp
      rw [mem_ready] at hj
      obtain ⟨h1, o, ho, _⟩ := hj
      have hlt : j < ops.size := (Array.getElem?_eq_some_iff.1 ho).1
      have := hall j (by omega)
      unfold Lof at this
      have hls := hI.size
      simp [Array.getD, show j < listed.size by omega] at h1 this
      rw [h1] at this
      cases this
  | succ fuel ih =>
    intro listed a w hI hc
    have hls := hI.size
    refine ⟨fun hr => ?_, fun i hi => ?_⟩
    · by_cases hall : ∀ i, i < l.length → Lof listed i = true
      · exact done listed a w hI hall
      · exfalso
        apply some_ready listed hI.size _ hr
        refine Classical.byContradiction fun hno => hall fun i hi => ?_
        cases h : Lof listed i with
        | true => rfl
        | false => exact absurd ⟨i, hi, h⟩ hno
    · rw [mem_ready] at hi
      obtain ⟨h1, o, ho, hedge⟩ := hi
      have hil : i < l.length := by have := (Array.getElem?_eq_some_iff.1 ho).1; omega
      have hni : Lof listed i = false := by unfold Lof; simp [Array.getD, show i < listed.size by omega] at h1 ⊢; exact h1
      obtain ⟨q, hq⟩ : ∃ q, l[i]? = some q := ⟨l[i], List.getElem?_eq_getElem hil⟩
      have hm := R.mat.2 i o q ho hq
      have hqm : q ∈ l := List.mem_of_getElem? hq
      have step := R.step i o q ho hq
      obtain ⟨F, m, k, hk, hk1, hk2, sim, ev, ht, hu1, hu2⟩ := hI.state
      have pair := fun {j : Nat} {q' : ROper} (hq' : l[j]? = some q') (hne : j ≠ i) => pair_of R hI.closed ho hq hedge hni hq' hne
      have keepK : ∀ k, k < l.length → ∀ t, Dof l k ≠ some t → env (k + 1) t = env k t := by
        intro k hk t hd
        have hq : l[k]? = some l[k] := List.getElem?_eq_getElem hk
        exact (R.step k _ _ (Array.getElem?_eq_getElem (by omega)) hq).env (by intro h; apply hd; simp [Dof, hq, h])
      -- what the operation looks at is as in the text
      have hlook : ∀ t, t ∈ q.looks → envL (Dof l) env (Lof listed) l.length t = env i t := by
        intro t htl
        have e1 : envL (Dof l) env (Lof listed) l.length t = envL (Dof l) env (Lof listed) i t := by
          refine envL_skip (by omega) (fun k hk1 hk2 hk3 => ?_)
          by_cases hki : k = i
          · subst hki; rw [hni] at hk3; cases hk3.1
          · obtain ⟨q', hq'⟩ : ∃ q', l[k]? = some q' := ⟨l[k], List.getElem?_eq_getElem hk2⟩
            have hd : q'.dst = some t := by have := hk3.2; simpa [Dof, hq'] using this
            rcases pair hq' hki with h | h | h
            · omega
            · rw [h.2] at hk3; cases hk3.1
            · exact h.1 t hd (names_looks htl)
        rw [e1]
        refine envL_done (n := l.length) (fun k hk hd => keepK k hk t hd) (by omega) (fun k hki hd => ?_)
        obtain ⟨q', hq'⟩ : ∃ q', l[k]? = some q' := ⟨l[k], List.getElem?_eq_getElem (by omega)⟩
        have hd' : q'.dst = some t := by simpa [Dof, hq'] using hd
        rcases pair hq' (by omega) with h | h | h
        · exact h.2
        · omega
        · exact absurd (names_looks htl) (h.1 t hd')
      have hER : ERel F m w a (env i) q.op.reads := by
        intro t htr p hp'
        exact ht t p (by rw [hlook t (by unfold ROper.looks; exact List.mem_append_left _ htr)]; exact hp')
      have hset := fun {j : Nat} => lof_set (listed := listed) (i := i) (j := j) (by omega)
      -- what is told of the temporaries behind it
      have hafter : ∀ (r : Option PV) (v : Value) (w' : World) (F' : Nat → Prop) (m' : Nat → Slot), env (i + 1) = (env i).put q.dst r → Ev F m w F' m' w' → ORel F' m' w' v r →
          ∀ t p, envL (Dof l) env (Lof (listed.setIfInBounds i true)) l.length t = some p → VRel F' w' m' ((a.put o.dst v).tmps.getD t undef) p := by
        intro r v w' F' m' hr hev hv t p hp'
        by_cases hd : q.dst = some t
        · have e1 : envL (Dof l) env (Lof (listed.setIfInBounds i true)) l.length t = env (i + 1) t := by
            have e2 : envL (Dof l) env (Lof (listed.setIfInBounds i true)) l.length t = envL (Dof l) env (Lof (listed.setIfInBounds i true)) (i + 1) t := by
              refine envL_skip (by omega) (fun k hk1 hk2 hk3 => ?_)
              obtain ⟨q', hq'⟩ : ∃ q', l[k]? = some q' := ⟨l[k], List.getElem?_eq_getElem hk2⟩
              have hd' : q'.dst = some t := by have := hk3.2; simpa [Dof, hq'] using this
              have hL := hk3.1
              rw [hset, if_neg (by omega)] at hL
              rcases pair hq' (by omega) with h | h | h
              · omega
              · rw [h.2] at hL; cases hL
              · exact h.1 t hd' (names_dst hd)
            rw [e2]
            show (if Lof (listed.setIfInBounds i true) i = true ∧ Dof l i = some t then env (i + 1) t else _) = _
            rw [if_pos ⟨by rw [hset, if_pos rfl], by simp [Dof, hq, hd]⟩]
          rw [e1, hr, hd] at hp'
          have hp2 : r = some p := by simpa [Env.put] using hp'
          have hlt := R.dst q hqm t hd
          rw [← hm.1, hd, put_get, if_pos ⟨rfl, by rw [hI.tmps]; exact hlt⟩]
          exact hv p hp2
        · have e1 : envL (Dof l) env (Lof (listed.setIfInBounds i true)) l.length t = envL (Dof l) env (Lof listed) l.length t := by
            refine envL_congr (fun k hk hd' => ?_)
            have hki : k ≠ i := by intro e; subst e; apply hd; simpa [Dof, hq] using hd'
            rw [hset, if_neg hki]
          rw [e1] at hp'
          have hold := (ht t p hp').mono hev
          rw [← hm.1]
          cases hqd : q.dst with
          | none => exact hold
          | some d =>
            rw [put_get, if_neg (fun e => hd (by rw [hqd, e.1]))]
            exact hold
      -- the next state, whatever was done
      have hcount : (List.range l.length).countP (Lof (listed.setIfInBounds i true)) + fuel = l.length := by
        rw [count_set l.length (Lof listed) (Lof (listed.setIfInBounds i true)) i hil hni (by rw [hset, if_pos rfl]) (fun k hk => by rw [hset, if_neg hk])]
        omega
      have hclosed' : ∀ (j : Nat) (o : Oper), ops[j]? = some o → Lof (listed.setIfInBounds i true) j = true → ∀ x ∈ o.after, Region.binds .any x = true → Lof (listed.setIfInBounds i true) x.on = true := by
        intro j o' ho' hL x hx hb
        rw [hset] at hL ⊢
        by_cases hxi : x.on = i
        · rw [if_pos hxi]
        · rw [if_neg hxi]
          by_cases hji : j = i
          · subst hji
            rw [ho] at ho'
            injection ho' with ho'
            subst ho'
            exact hedge x hx hb
          · rw [if_neg hji] at hL
            exact hI.closed j o' ho' hL x hx hb
      have nmono := fun {a b : Nat} => n_span (hp := hp) (n := l.length) (a := a) (b := b) (fun k hk => (R.step k _ _ (Array.getElem?_eq_getElem (by omega)) (List.getElem?_eq_getElem hk)).n)
      have next : ∀ (r : Option PV) (v : Value) (w' : World) (F' : Nat → Prop) (m' : Nat → Slot) (k' : Nat), env (i + 1) = (env i).put q.dst r → k' ≤ l.length → (k' < l.length → Eof e l k' ∧ Lof (listed.setIfInBounds i true) k' = false) →
          (∀ j, j < k' → Eof e l j → Lof (listed.setIfInBounds i true) j = true) → Sim gl A w0 F' m' w' (hp k') → Ev F m w F' m' w' → ORel F' m' w' v r → (∀ j, j < l.length → Lof (listed.setIfInBounds i true) j = false → ∀ b, (hp j).n ≤ b → b < (hp (j + 1)).n → m' b = .unborn) →
          (∀ b, (hp l.length).n ≤ b → m' b = .unborn) → wpAny P .any ops Q fuel (listed.setIfInBounds i true) (a.put o.dst v) w' := by
        intro r v w' F' m' k' h1 h2 h3 h4 h5 h6 h7 h8 h9
        refine ih _ _ _ ⟨by simpa using hI.size, hclosed', ⟨F', m', k', h2, h3, h4, h5, ev.trans h6, hafter r v w' F' m' h1 h6 h7, h8, h9⟩, by rw [put_size]; exact hI.tmps, by rw [put_defers']; exact hI.defers⟩ hcount
      -- an operation that is not done, or changes nothing
      have quiet : e q = false → ∀ (r : Option PV) (v : Value) (w' : World) (F' : Nat → Prop) (m' : Nat → Slot), env (i + 1) = (env i).put q.dst r → Sim gl A w0 F' m' w' (hp k) → Ev F m w F' m' w' → ORel F' m' w' v r →
          (∀ b, ¬ ((hp i).n ≤ b ∧ b < (hp (i + 1)).n) → m b = .unborn → m' b = .unborn) → wpAny P .any ops Q fuel (listed.setIfInBounds i true) (a.put o.dst v) w' := by
        intro heq r v w' F' m' h1 h5 h6 h7 h8
        have hki : k ≠ i := by
          intro e0
          have hkl : k < l.length := by omega
          obtain ⟨⟨q', hq', he'⟩, _⟩ := hk1 hkl
          rw [e0, hq] at hq'
          injection hq' with hq'
          subst hq'
          rw [heq] at he'
          cases he'
        refine next r v w' F' m' k h1 hk (fun h => ⟨(hk1 h).1, by rw [hset, if_neg hki]; exact (hk1 h).2⟩) (fun j hj hE => by rw [hset]; split; rfl; exact hk2 j hj hE) h5 h6 h7 (fun j hj hL b hb1 hb2 => ?_) (fun b hb => h8 b (fun h => ?_) (hu2 b hb))
        · rw [hset] at hL
          by_cases hji : j = i
          · rw [if_pos hji] at hL; cases hL
          · rw [if_neg hji] at hL
            refine h8 b (fun h => ?_) (hu1 j hj hL b hb1 hb2)
            rcases Nat.lt_or_gt_of_ne hji with hlt | hgt
            · have := nmono (show j + 1 ≤ i by omega) (by omega); omega
            · have := nmono (show i + 1 ≤ j by omega) (by omega); omega
        · have := nmono (show i + 1 ≤ l.length by omega) (Nat.le_refl _)
          omega
      -- an operation that may change what is there: the world holds just what it held in the text
      have loud : e q = true → k = i ∧ (∀ b, (hp i).n ≤ b → m b = .unborn) ∧ ∀ (r : Option PV) (v : Value) (w' : World) (F' : Nat → Prop) (m' : Nat → Slot), env (i + 1) = (env i).put q.dst r → Sim gl A w0 F' m' w' (hp (i + 1)) → Ev F m w F' m' w' → ORel F' m' w' v r →
          (∀ b, (hp (i + 1)).n ≤ b → m' b = .unborn) → wpAny P .any ops Q fuel (listed.setIfInBounds i true) (a.put o.dst v) w' := by
        intro heq
        have hnin := R.ei q hqm heq
        -- others that look at the heap have their order
        have ordered : ∀ {j : Nat} {q' : ROper}, l[j]? = some q' → j ≠ i → q'.op.inert = false → (j < i ∧ Lof listed j = true) ∨ (i < j ∧ Lof listed j = false) := by
          intro j q' hq' hne hin
          rcases pair hq' hne with h | h | h
          · exact .inl h
          · exact .inr h
          · rw [h.2.2 heq] at hin; cases hin
        have hki : k = i := by
          rcases Nat.lt_trichotomy k i with h | h | h
          · obtain ⟨⟨q', hq', he'⟩, hL⟩ := hk1 (by omega)
            rcases ordered hq' (by omega) (R.ei q' (List.mem_of_getElem? hq') he') with h2 | h2
            · rw [hL] at h2; cases h2.2
            · omega
          · exact h
          · have := hk2 i h ⟨q, hq, heq⟩
            rw [hni] at this; cases this
        have hlater : ∀ j, i ≤ j → j < l.length → ∀ b, (hp j).n ≤ b → b < (hp (j + 1)).n → m b = .unborn := by
          intro j hij hj b hb1 hb2
          by_cases hji : j = i
          · exact hu1 j hj (by rw [hji]; exact hni) b hb1 hb2
          · obtain ⟨q', hq'⟩ : ∃ q', l[j]? = some q' := ⟨l[j], List.getElem?_eq_getElem hj⟩
            cases hin : q'.op.inert with
            | false =>
              rcases ordered hq' hji hin with h | h
              · omega
              · exact hu1 j hj h.2 b hb1 hb2
            | true =>
              -- it makes nothing
              rw [(R.step j _ q' (Array.getElem?_eq_getElem (by omega)) hq').inert hin (R.ei q' (List.mem_of_getElem? hq'))] at hb2
              omega
        have hub : ∀ b, (hp i).n ≤ b → m b = .unborn := by
          intro b hb
          rcases n_find (hp := hp) (n := l.length) (x := b) (i := i) (by omega) hb with h | ⟨j, h1, h2, h3, h4⟩
          · exact hu2 b h
          · exact hlater j h1 h2 b h3 h4
        refine ⟨hki, hub, fun r v w' F' m' h1 h5 h6 h7 h8 => ?_⟩
        -- the next one that may change what is there
        obtain ⟨k', ⟨hk'1, hk'2⟩, hk'min⟩ := exists_least (p := fun k' => i < k' ∧ (k' = l.length ∨ Eof e l k')) ⟨l.length, hil, .inl rfl⟩
        have hk'l : k' ≤ l.length := hk'min _ ⟨hil, .inl rfl⟩
        have hle : (hp (i + 1)).le (hp k') := by
          refine le_span (by omega) (fun j hj1 hj2 => ?_)
          have hq' : l[j]? = some (l[j]'(by omega)) := List.getElem?_eq_getElem _
          refine (R.step j _ _ (Array.getElem?_eq_getElem (by omega)) hq').le ?_
          cases h : e l[j] with
          | false => rfl
          | true => exact absurd (hk'min j ⟨by omega, .inr ⟨_, hq', h⟩⟩) (by omega)
        refine next r v w' F' m' k' h1 hk'l (fun h => ?_) (fun j hj hE => ?_) (h5.ext fun b hb => ?_) h6 h7 (fun j hj hL b hb1 hb2 => ?_) (fun b hb => h8 b ?_)
        · have hE : Eof e l k' := hk'2.resolve_left (by omega)
          refine ⟨hE, ?_⟩
          obtain ⟨q', hq', he'⟩ := hE
          rw [hset, if_neg (by omega)]
          rcases ordered hq' (by omega) (R.ei q' (List.mem_of_getElem? hq') he') with h2 | h2
          · omega
          · exact h2.2
        · rw [hset]
          by_cases hji : j = i
          · rw [if_pos hji]
          · rw [if_neg hji]
            rcases Nat.lt_or_gt_of_ne hji with hlt | hgt
            · exact hk2 j (by omega) hE
            · exact absurd (hk'min j ⟨hgt, .inr hE⟩) (by omega)
        · refine hle.2 b ?_
          exact Nat.lt_of_not_le fun h => hb (h8 b h)
        · rw [hset] at hL
          by_cases hji : j = i
          · rw [if_pos hji] at hL; cases hL
          · rw [if_neg hji] at hL
            rcases Nat.lt_or_gt_of_ne hji with hlt | hgt
            · -- it stands ahead, and is not done: it makes nothing
              obtain ⟨q', hq'⟩ : ∃ q', l[j]? = some q' := ⟨l[j], List.getElem?_eq_getElem hj⟩
              cases hin : q'.op.inert with
              | false =>
                rcases ordered hq' hji hin with h | h
                · rw [hL] at h; cases h.2
                · omega
              | true =>
                rw [(R.step j _ q' (Array.getElem?_eq_getElem (by omega)) hq').inert hin (R.ei q' (List.mem_of_getElem? hq'))] at hb2
                omega
            · exact h8 b (Nat.le_trans (nmono (show i + 1 ≤ j by omega) (by omega)) hb1)
        · exact Nat.le_trans (nmono (show i + 1 ≤ l.length by omega) (Nat.le_refl _)) hb
      -- the operation itself
      have guardv : ∀ s b p, q.guard = some (s, b) → env i s = some p → VRel F w m (a.tmps.getD s undef) p := by
        intro s b p hg hs
        exact ht s _ (by rw [hlook s (by unfold ROper.looks; rw [hg]; simp)]; exact hs)
      have nolive : ORel F m w undef (some (.tup [])) := fun p hp => by
        injection hp with hp
        subst hp
        exact .tup #[] [] rfl (fun i h1 => absurd h1 (by simp))
      cases step with
      | skip s b p j g1 g2 g2' g3 g4 g5 =>
        have hw := wanted_of (ops := ops) (a := a) hm g1 (guardv s _ p g1 g2)
        have hw' : Region.wanted o (yielded ops a.tmps) = false := by rw [hw]; exact g2'
        unfold wpOp
        simp only [ho, hw', Bool.false_eq_true, if_false]
        cases heq : e q with
        | false => exact quiet heq _ undef w F m g3 sim (Ev.refl sim.fnl sim.liv) nolive (fun b _ h => h)
        | true =>
          obtain ⟨rfl, hub, go⟩ := loud heq
          refine go _ undef w F m g3 (by rw [g4]; exact sim.ext (fun _ _ => rfl)) (Ev.refl sim.fnl sim.liv) nolive (fun b hb => hub b (by rw [g4] at hb; simp [Hp.res] at hb; omega))
      | run hg r g3 g =>
        have hw' : Region.wanted o (yielded ops a.tmps) = true := by
          rcases hg with hg | ⟨s, b, p, hg, hs, hp⟩
          · exact wanted_none hm hg
          · rw [wanted_of (ops := ops) (a := a) hm hg (guardv s b p hg hs)]; exact hp
        unfold wpOp
        simp only [ho, hw', if_true]
        refine .inl ?_
        rcases g with ⟨hin, hI', hH⟩ | ⟨hin, heq, hN⟩ | ⟨heq, hE⟩
        · have heq : e q = false := by
            cases h : e q with
            | false => rfl
            | true => have := R.ei q hqm h; rw [hin] at this; cases this
          exact hI' A w0 F m w (hp k) a _ _ sim hER (fun v w' F' m' s ev' hv hmu => quiet heq r v w' F' m' g3 s ev' hv (fun b _ h => hmu b h))
        · -- it makes blocks
          have hki : i < k := by
            rcases Nat.lt_trichotomy k i with h | h | h
            · obtain ⟨⟨q', hq', he'⟩, hL⟩ := hk1 (by omega)
              rcases pair hq' (by omega) with h2 | h2 | h2
              · rw [hL] at h2; cases h2.2
              · omega
              · have := h2.2.1 he'; rw [hin] at this; cases this
            · have hkl : k < l.length := by omega
              obtain ⟨⟨q', hq', he'⟩, _⟩ := hk1 hkl
              rw [h, hq] at hq'
              injection hq' with hq'
              subst hq'
              rw [heq] at he'
              cases he'
            · exact h
          have hle : (hp (i + 1)).le (hp k) := by
            refine le_span (by omega) (fun j hj1 hj2 => ?_)
            have hq' : l[j]? = some (l[j]'(by omega)) := List.getElem?_eq_getElem _
            refine (R.step j _ _ (Array.getElem?_eq_getElem (by omega)) hq').le ?_
            cases h : e l[j] with
            | false => rfl
            | true =>
              rcases pair hq' (by omega) with h2 | h2 | h2
              · omega
              · have := hk2 j hj2 ⟨_, hq', h⟩; rw [h2.2] at this; cases this
              · have := h2.2.1 h; rw [hin] at this; cases this
          exact hN.2 A w0 F m w (hp k) a _ _ sim hle (fun b hb1 hb2 => hu1 i hil hni b hb1 hb2) hER (fun v w' F' m' s ev' hv hmu => quiet heq r v w' F' m' g3 s ev' hv hmu)
        · obtain ⟨rfl, hub, go⟩ := loud heq
          exact hE.2 A w0 F m w a _ _ sim hub hER (fun v w' F' m' s ev' hv hmu => go r v w' F' m' g3 s ev' hv hmu)
end
end Go.Vm
