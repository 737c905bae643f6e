/- The orders that a region may draw: whatever the order, what comes of the text's order. -/
import Derived.Test.YtjegabeechopdaaVmQ
set_option linter.unusedSimpArgs false
set_option linter.unusedVariables false
namespace Go.Vm
open Go Go.RowKit

/-- Instructions that look at no heap. -/
def RI.inert : RI → Bool
  | .move _ | .pick .. | .build .. | .bin .. | .binb .. | .eqs .. | .un .. | .conv .. | .fieldAddr .. | .field .. | .idxAddrA .. | .idx .. | .extract .. | .len .. | .mm .. | .mkfunc .. => true
  | _ => false

def ROper.names (o : ROper) : List Nat := o.dst.toList ++ (o.op.reads ++ (match o.guard with | some (s, _) => [s] | none => []))
def ROper.looks (o : ROper) : List Nat := o.op.reads ++ (match o.guard with | some (s, _) => [s] | none => [])

/-- Need two operations no order between them? e: does an operation change what is there? -/
def apartOk (e : ROper → Bool) (x y : ROper) : Bool :=
  (x.dst.toList.all fun d => !y.names.contains d) && (y.dst.toList.all fun d => !x.names.contains d) && (!e x || y.op.inert) && (!e y || x.op.inert)

def regOk (e : ROper → Bool) (l : List ROper) : Bool :=
  (List.range l.length).all fun j => (List.range j).all fun i =>
    match l[i]?, l[j]? with
    | some x, some y => y.bef.testBit i || apartOk e x y
    | _, _ => true

/-- The bits tell operations that surely come before, by the edges; an edge leads back. -/
def befOk (ops : Array Oper) (l : List ROper) : Bool :=
  (List.range l.length).all fun j =>
    match l[j]?, ops[j]? with
    | some y, some o => (o.after.all fun e => !Region.binds .any e || decide (e.on < j)) && (List.range j).all fun i => !y.bef.testBit i || o.after.any fun e => Region.binds .any e && (e.on == i || (decide (e.on < j) && decide (i < e.on) && (match l[e.on]? with | some x => x.bef.testBit i | none => false)))
    | _, _ => true

/-- The operations and what they are resolved to. -/
def OpsMatch (ops : Array Oper) (l : List ROper) : Prop :=
  ops.size = l.length ∧ ∀ (i : Nat) (o : Oper) (q : ROper), ops[i]? = some o → l[i]? = some q → q.dst = o.dst ∧
    (match o.guard with
     | none => q.guard = none
     | some (j, b) => ∃ s, q.guard = some (s, b) ∧ (ops[j]?).bind (·.dst) = some s)

/-- Is a guard met by this value? -/
def PV.goes (b : Bool) : PV → Bool
  | .bool x => x == b
  | _ => false

/-- Numbers of blocks passed over. -/
def Hp.res (H : Hp) (j : Nat) : Hp := ⟨H.n + j, H.f, fun b hb => H.wf b (by omega)⟩
theorem Hp.le_res (H : Hp) (j : Nat) : H.le (H.res j) := ⟨by simp [Hp.res], fun _ _ => rfl⟩
theorem Hp.res_zero (H : Hp) : H.res 0 = H := rfl

/-- A step in the text's order. e: may it change what is there? -/
inductive StepK (P : Program) (gl : Nat → Option PV) (o : Oper) (q : ROper) (e : Bool) (e0 : Env) (H0 : Hp) (e1 : Env) (H1 : Hp) : Prop where
  | skip (s : Nat) (b : Bool) (p : PV) (j : Nat) (h1 : q.guard = some (s, b)) (h2 : e0 s = some p) (h2' : p.goes b = false) (h3 : e1 = e0.put q.dst (some (.tup []))) (h4 : H1 = H0.res j) (h5 : q.op.inert = true → j = 0)
  | run (hg : q.guard = none ∨ ∃ s b p, q.guard = some (s, b) ∧ e0 s = some p ∧ p.goes b = true) (r : Option PV) (h3 : e1 = e0.put q.dst r)
      (h : (q.op.inert = true ∧ IStep P gl o q.op.reads e0 r ∧ H1 = H0) ∨ (q.op.inert = false ∧ e = false ∧ NStep P gl o q.op.reads e0 H0 r H1) ∨ (e = true ∧ EStep P gl o q.op.reads e0 H0 r H1))

theorem StepK.env {P gl o q e e0 H0 e1 H1} (h : StepK P gl o q e e0 H0 e1 H1) {t : Nat} (ht : q.dst ≠ some t) : e1 t = e0 t := by
  have : ∀ r, e0.put q.dst r t = e0 t := by
    intro r
    unfold Env.put
    cases hd : q.dst with
    | none => rfl
    | some d => exact if_neg fun e => ht (by rw [hd, e])
  cases h with
  | skip s b p j h1 h2 h2' h3 h4 h5 => rw [h3]; exact this _
  | run hg r h3 h => rw [h3]; exact this r

theorem StepK.n {P gl o q e e0 H0 e1 H1} (h : StepK P gl o q e e0 H0 e1 H1) : H0.n ≤ H1.n := by
  cases h with
  | skip s b p j h1 h2 h2' h3 h4 h5 => rw [h4]; exact (Hp.le_res _ _).1
  | run hg r h3 h =>
    rcases h with ⟨_, _, h⟩ | ⟨_, _, h⟩ | ⟨_, h⟩
    · rw [h]; exact Nat.le_refl _
    · exact h.1.1
    · exact h.1

theorem StepK.le {P gl o q e e0 H0 e1 H1} (h : StepK P gl o q e e0 H0 e1 H1) (he : e = false) : H0.le H1 := by
  cases h with
  | skip s b p j h1 h2 h2' h3 h4 h5 => rw [h4]; exact Hp.le_res _ _
  | run hg r h3 h =>
    rcases h with ⟨_, _, h⟩ | ⟨_, _, h⟩ | ⟨h, _⟩
    · rw [h]; exact Hp.le_refl _
    · exact h.1
    · rw [he] at h; cases h

theorem StepK.inert {P gl o q e e0 H0 e1 H1} (h : StepK P gl o q e e0 H0 e1 H1) (hi : q.op.inert = true) (h2 : e = true → q.op.inert = false) : H1 = H0 := by
  cases h with
  | skip s b p j h1 h2 h2' h3 h4 h5 => rw [h4, h5 hi]; rfl
  | run hg r h3 h =>
    rcases h with ⟨_, _, h⟩ | ⟨h, _, _⟩ | ⟨h, _⟩
    · exact h
    · rw [hi] at h; cases h
    · rw [h2 h] at hi; cases hi

/-! ### The frame's temporaries as they are when some operations have been done -/
def envL (D : Nat → Option Nat) (env : Nat → Env) (L : Nat → Bool) : Nat → Env
  | 0 => env 0
  | k + 1 => fun t => if L k = true ∧ D k = some t then env (k + 1) t else envL D env L k t

theorem envL_skip {D env L t} : ∀ {a b : Nat}, a ≤ b → (∀ k, a ≤ k → k < b → ¬ (L k = true ∧ D k = some t)) → envL D env L b t = envL D env L a t := by
  intro a b hab h
  induction b with
  | zero =>
            obtain rfl : a = 0 := (by omega)
            rfl
  | succ b ih =>
    by_cases e : a = b + 1
    · rw [e]
    · show (if L b = true ∧ D b = some t then env (b + 1) t else envL D env L b t) = _
      rw [if_neg (h b (by omega) (by omega))]
      exact ih (by omega) (fun k h1 h2 => h k h1 (by omega))

theorem envL_done {D : Nat → Option Nat} {env : Nat → Env} {L : Nat → Bool} {t : Nat} {n : Nat} (hk : ∀ k, k < n → D k ≠ some t → env (k + 1) t = env k t) : ∀ {i : Nat}, i ≤ n → (∀ k, k < i → D k = some t → L k = true) → envL D env L i t = env i t := by
  intro i hi h
  induction i with
  | zero => rfl
  | succ i ih =>
    show (if L i = true ∧ D i = some t then env (i + 1) t else envL D env L i t) = _
    by_cases hd : D i = some t
    · rw [if_pos ⟨h i (by omega) hd, hd⟩]
    · rw [if_neg (fun e => hd e.2), ih (by omega) (fun k h1 h2 => h k (by omega) h2), hk i (by omega) hd]

theorem envL_congr {D env t} {L L' : Nat → Bool} : ∀ {n : Nat}, (∀ k, k < n → D k = some t → L k = L' k) → envL D env L n t = envL D env L' n t := by
  intro n h
  induction n with
  | zero => rfl
  | succ n ih =>
    show (if L n = true ∧ D n = some t then _ else _) = (if L' n = true ∧ D n = some t then _ else _)
    by_cases hd : D n = some t
    · rw [h n (by omega) hd, ih (fun k h1 h2 => h k (by omega) h2)]
    · rw [if_neg (fun e => hd e.2), if_neg (fun e => hd e.2)]
      exact ih (fun k h1 h2 => h k (by omega) h2)

/-! ### Counting what has been done -/
theorem count_set : ∀ (n : Nat) (f g : Nat → Bool) (i : Nat), i < n → f i = false → g i = true → (∀ k, k ≠ i → g k = f k) → (List.range n).countP g = (List.range n).countP f + 1
  | 0, f, g, i, h, _, _, _ => by omega
  | n + 1, f, g, i, h, hf, hg, hk => by
    rw [List.range_succ, List.countP_append, List.countP_append]
    by_cases e : i = n
    · subst e
      have : (List.range i).countP g = (List.range i).countP f := List.countP_congr fun k hk' => by rw [hk k (by have := List.mem_range.1 hk'; omega)]
      rw [this]
      simp [hf, hg]
    · rw [count_set n f g i (by omega) hf hg hk]
      have : g n = f n := hk n (by omega)
      simp [this]
      omega

theorem count_full : ∀ (n : Nat) (f : Nat → Bool), (List.range n).countP f = n → ∀ i, i < n → f i = true
  | 0, f, _, i, h => by omega
  | n + 1, f, h, i, hi => by
    rw [List.range_succ, List.countP_append] at h
    have h1 : (List.range n).countP f ≤ n := by have := List.countP_le_length (p := f) (l := List.range n); simpa using this
    have h2 : ([n] : List Nat).countP f ≤ 1 := by have := List.countP_le_length (p := f) (l := [n]); simpa using this
    by_cases e : i = n
    · subst e
      have h3 : ([i] : List Nat).countP f = 1 := by omega
      by_cases hf : f i = true
      · exact hf
      · simp [hf] at h3
    · exact count_full n f (by omega) i (by omega)

theorem le_span {hp : Nat → Hp} : ∀ {a b : Nat}, a ≤ b → (∀ k, a ≤ k → k < b → (hp k).le (hp (k + 1))) → (hp a).le (hp b) := by
  intro a b hab h
  induction b with
  | zero =>
            obtain rfl : a = 0 := (by omega)
            exact Hp.le_refl _
  | succ b ih =>
    by_cases e : a = b + 1
    · rw [e]; exact Hp.le_refl _
    · exact Hp.le_trans (ih (by omega) fun k h1 h2 => h k h1 (by omega)) (h b (by omega) (by omega))

theorem n_span {hp : Nat → Hp} {n : Nat} (h : ∀ k, k < n → (hp k).n ≤ (hp (k + 1)).n) : ∀ {a b : Nat}, a ≤ b → b ≤ n → (hp a).n ≤ (hp b).n := by
  intro a b hab hb
  induction b with
  | zero =>
            obtain rfl : a = 0 := (by omega)
            exact Nat.le_refl _
  | succ b ih =>
    by_cases e : a = b + 1
    · rw [e]; exact Nat.le_refl _
    · exact Nat.le_trans (ih (by omega) (by omega)) (h b (by omega))

/-- Where a number lies between the sizes. -/
theorem n_find {hp : Nat → Hp} {n : Nat} {x : Nat} : ∀ {i : Nat}, i ≤ n → (hp i).n ≤ x → (hp n).n ≤ x ∨ ∃ j, i ≤ j ∧ j < n ∧ (hp j).n ≤ x ∧ x < (hp (j + 1)).n := by
  intro i hi hx
  induction n with
  | zero =>
            obtain rfl : i = 0 := (by omega)
            exact .inl hx
  | succ n ih =>
    by_cases e : i = n + 1
    · rw [← e]; exact .inl hx
    · rcases ih (by omega) with h | ⟨j, h1, h2, h3, h4⟩
      · by_cases h5 : (hp (n + 1)).n ≤ x
        · exact .inl h5
        · exact .inr ⟨n, by omega, by omega, h, by omega⟩
      · exact .inr ⟨j, h1, by omega, h3, h4⟩
end Go.Vm
