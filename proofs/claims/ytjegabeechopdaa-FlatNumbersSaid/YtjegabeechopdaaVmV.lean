/- Rules of the calculus, one an instruction: a walk through a function's code applies them in turn. -/
import Derived.Test.YtjegabeechopdaaVmU
set_option linter.unusedSimpArgs false
set_option linter.unusedVariables false
namespace Go.Vm
open Go Go.RowKit

section
variable {P : Program} {gl : Nat → Option PV} {e : Bool} {s : Env} {H : Hp} {l : List ROper} {Q : Env → Hp → Prop} {d : Option Nat} {op : RI} {bf : Nat}

/-- A comparison leaf by leaf, as one bool. -/
def eqAll (l r : List PV) : List (Nat × Nat) → Option Bool
  | [] => some true
  | o :: os => do
    let x ← l[o.1]?
    let y ← r[o.1]?
    let b ← eq1 o.2 x y
    let c ← eqAll l r os
    some (b && c)

theorem eqAll_eqL {l r : List PV} : ∀ {os : List (Nat × Nat)} {b : Bool}, eqAll l r os = some b → eqL l r os = some b
  | [], b, h => h
  | o :: os, b, h => by
    simp only [eqAll, Option.bind_eq_bind, Option.bind_eq_some_iff, Option.some.injEq] at h
    obtain ⟨x, hx, y, hy, c, hc, d, hd, rfl⟩ := h
    simp only [eqL, hx, hy, hc, Option.bind_eq_bind, Option.bind_some]
    cases c with
    | true => simpa using eqAll_eqL hd
    | false => rfl

theorem Hp.n_none : Hp.none.n = 0 := rfl
theorem Hp.n_app (H : Hp) (l : List Blk) : (H.app l).n = H.n + l.length := by rw [Hp.app_eq]; rfl
theorem Hp.n_add (H : Hp) (l : List Blk) : (H.add l).n = H.n + l.length := rfl
theorem Hp.n_set (H : Hp) (b : Nat) (k : Blk) : (H.set b k).n = H.n := rfl
theorem Hp.n_addH (H G : Hp) : (H.addH G).n = H.n + G.n := rfl
theorem PV.cells_agg (l : List PV) : (PV.agg l).cells = l := rfl
theorem PV.cells_int (k : IntKind) (n : Int) : (PV.int k n).cells = [.int k n] := rfl
theorem PV.cells_bool (b : Bool) : (PV.bool b).cells = [.bool b] := rfl
theorem Env.put_none (env : Env) (r : Option PV) : env.put none r = env := rfl
theorem Hp.app_one (H : Hp) (k : Blk) : H.app [k] = H.add [k] := rfl

def RI.plain : RI → Bool
  | .call .. | .callv .. | .store .. | .append .. | .copy .. => false
  | _ => true

theorem WpOp_plain {K : Option PV → Hp → Prop} (hp : op.plain = true) {r : PV} {ext : List Blk} (h : stepN (RO.ev gl s) H op = some (r, ext)) (k : K (some r) (H.app ext)) : WpOp P gl e op s H K := by
  cases op <;> first | (exact ⟨r, ext, h, k⟩) | (simp [RI.plain] at hp)

/-- An operation under no guard. -/
theorem ops_none (h : WpOp P gl e op s H fun r H' => WpOps P gl e l (s.put d r) H' Q) : WpOps P gl e (⟨d, op, none, bf⟩ :: l) s H Q := h

theorem ops_plain (hp : op.plain = true) {r : PV} {ext : List Blk} (h : stepN (RO.ev gl s) H op = some (r, ext)) (k : WpOps P gl e l (s.put d (some r)) (H.app ext) Q) : WpOps P gl e (⟨d, op, none, bf⟩ :: l) s H Q := WpOp_plain hp h k

/-- Nothing made. -/
theorem ops_val (hp : op.plain = true) {r : PV} (h : stepN (RO.ev gl s) H op = some (r, [])) (k : WpOps P gl e l (s.put d (some r)) H Q) : WpOps P gl e (⟨d, op, none, bf⟩ :: l) s H Q := WpOp_plain hp h k

theorem ops_eqs {ne : Bool} {ls : List (Nat × Nat)} {x y : RO} {lx ly : List PV} {b : Bool} (hx : x.ev gl s = some (.agg lx)) (hy : y.ev gl s = some (.agg ly)) (h : eqAll lx ly ls = some b) (k : WpOps P gl e l (s.put d (some (.bool (if ne then !b else b)))) H Q) : WpOps P gl e (⟨d, .eqs ne ls x y, none, bf⟩ :: l) s H Q :=
  ops_val rfl (by simp [stepN, hx, hy, eqAll_eqL h]) k

theorem ops_store {n : Nat} {x v : RO} {r : Option PV} {H' : Hp} (h : stepE (RO.ev gl s) H (.store n x v) = some (r, H')) (k : WpOps P gl e l (s.put d r) H' Q) : WpOps P gl e (⟨d, .store n x v, none, bf⟩ :: l) s H Q := ⟨r, H', h, k⟩
theorem ops_eqs_f {ls : List (Nat × Nat)} {x y : RO} {lx ly : List PV} {b : Bool} (hx : x.ev gl s = some (.agg lx)) (hy : y.ev gl s = some (.agg ly)) (h : eqAll lx ly ls = some b) (k : WpOps P gl e l (s.put d (some (.bool b))) H Q) : WpOps P gl e (⟨d, .eqs false ls x y, none, bf⟩ :: l) s H Q := ops_eqs hx hy h k
theorem ops_eqs_t {ls : List (Nat × Nat)} {x y : RO} {lx ly : List PV} {b : Bool} (hx : x.ev gl s = some (.agg lx)) (hy : y.ev gl s = some (.agg ly)) (h : eqAll lx ly ls = some b) (k : WpOps P gl e l (s.put d (some (.bool (!b)))) H Q) : WpOps P gl e (⟨d, .eqs true ls x y, none, bf⟩ :: l) s H Q := ops_eqs hx hy h k

theorem ops_store_ptr {n b g i off sz : Nat} {x v : RO} {p : PV} {xs xs' : List PV} (hx : x.ev gl s = some (.ptr b g i off)) (hv : v.ev gl s = some p) (hb : H.f b = some ⟨g, sz, xs⟩) (hn : (p.cells.length == n && p.cells.all PV.one) = true) (hp : putAt xs i off p = some xs') (k : WpOps P gl e l (s.put d none) (H.set b ⟨g, sz, xs'⟩) Q) : WpOps P gl e (⟨d, .store n x v, none, bf⟩ :: l) s H Q := by
  refine ⟨none, _, ?_, k⟩
  simp only [Bool.and_eq_true, beq_iff_eq] at hn
  simp [stepE, hx, hv, Hp.blk, hb, hn.1, hp]
  exact List.all_eq_true.1 hn.2

theorem ops_append {n : Nat} {z : PV} {x v : RO} {r : Option PV} {H' : Hp} (h : stepE (RO.ev gl s) H (.append n z x v) = some (r, H')) (k : WpOps P gl e l (s.put d r) H' Q) : WpOps P gl e (⟨d, .append n z x v, none, bf⟩ :: l) s H Q := ⟨r, H', h, k⟩
theorem ops_copy {n : Nat} {x v : RO} {r : Option PV} {H' : Hp} (h : stepE (RO.ev gl s) H (.copy n x v) = some (r, H')) (k : WpOps P gl e l (s.put d r) H' Q) : WpOps P gl e (⟨d, .copy n x v, none, bf⟩ :: l) s H Q := ⟨r, H', h, k⟩

/-- A call of a function that gives a value: nothing lent. -/
theorem ops_call {f : FuncId} {args : List RO} {as as' : List PV} {r : PV} (h1 : evs (RO.ev gl s) args = some as) (h2 : softs H false as = some as') (h3 : Pure P gl f as' r) (k : WpOps P gl e l (s.put d (some r)) H Q) : WpOps P gl e (⟨d, .call f args, none, bf⟩ :: l) s H Q :=
  ⟨as, h1, .inl ⟨false, as', r, h2, h3, (by simp), k⟩⟩
/-- A call of a function that gives a value: rows lent, what comes back leads to no memory. -/
theorem ops_callb {f : FuncId} {args : List RO} {as as' : List PV} {r : PV} (h1 : evs (RO.ev gl s) args = some as) (h2 : softs H true as = some as') (h3 : Pure P gl f as' r) (h4 : scal r = true) (k : WpOps P gl e l (s.put d (some r)) H Q) : WpOps P gl e (⟨d, .call f args, none, bf⟩ :: l) s H Q :=
  ⟨as, h1, .inl ⟨true, as', r, h2, h3, fun _ => h4, k⟩⟩
theorem ops_fresh {f : FuncId} {args : List RO} {as as' : List PV} {r r' : PV} {G : Hp} (h1 : evs (RO.ev gl s) args = some as) (h2 : softs H false as = some as') (h3 : Fresh P gl f as' r G) (h4 : shiftP H.n r = some r') (k : WpOps P gl e l (s.put d (some r')) (H.addH G) Q) : WpOps P gl e (⟨d, .call f args, none, bf⟩ :: l) s H Q :=
  ⟨as, h1, .inr (.inl ⟨as', r, r', G, h2, h3, h4, k⟩)⟩
theorem ops_spec {f : FuncId} {args : List RO} {as : List PV} {R : PV → Hp → Prop} (h1 : evs (RO.ev gl s) args = some as) (h3 : HSpec P gl f as H R) (k : ∀ r H', R r H' → WpOps P gl true l (s.put d (some r)) H' Q) : WpOps P gl true (⟨d, .call f args, none, bf⟩ :: l) s H Q :=
  ⟨as, h1, .inr (.inr ⟨rfl, R, h3, k⟩)⟩
theorem ops_callv {f : FuncId} {x : RO} {caps : List PV} {args : List RO} {as as' : List PV} {r : PV} (h0 : x.ev gl s = some (.fn f caps)) (h1 : evs (RO.ev gl s) args = some as) (h2 : softs H false (as ++ caps) = some as') (h3 : Pure P gl f as' r) (k : WpOps P gl e l (s.put d (some r)) H Q) : WpOps P gl e (⟨d, .callv x args, none, bf⟩ :: l) s H Q :=
  ⟨f, caps, as, h0, h1, .inl ⟨false, as', r, h2, h3, (by simp), k⟩⟩
theorem ops_specv {f : FuncId} {x : RO} {caps : List PV} {args : List RO} {as : List PV} {R : PV → Hp → Prop} (h0 : x.ev gl s = some (.fn f caps)) (h1 : evs (RO.ev gl s) args = some as) (h3 : HSpec P gl f (as ++ caps) H R) (k : ∀ r H', R r H' → WpOps P gl true l (s.put d (some r)) H' Q) : WpOps P gl true (⟨d, .callv x args, none, bf⟩ :: l) s H Q :=
  ⟨f, caps, as, h0, h1, .inr (.inr ⟨rfl, R, h3, k⟩)⟩

/-- A guard that is not met. -/
theorem ops_skip {t : Nat} {b : Bool} (h : s t = some (.bool (!b))) (k : WpOps P gl e l (s.put d none) H Q) : WpOps P gl e (⟨d, op, some (t, b), bf⟩ :: l) s H Q :=
  ⟨!b, h, (by cases b <;> simp), fun _ => k⟩
/-- A guard that is met. -/
theorem ops_go {t : Nat} {b : Bool} (h : s t = some (.bool b)) (k : WpOps P gl e (⟨d, op, none, bf⟩ :: l) s H Q) : WpOps P gl e (⟨d, op, some (t, b), bf⟩ :: l) s H Q :=
  ⟨b, h, fun _ => k, (by cases b <;> simp)⟩

theorem ops_guard_t {t : Nat} {b : Bool} (h : s t = some (.bool b)) (k1 : b = true → WpOps P gl e (⟨d, op, none, bf⟩ :: l) s H Q) (k2 : b = false → WpOps P gl e l (s.put d none) H Q) : WpOps P gl e (⟨d, op, some (t, true), bf⟩ :: l) s H Q := by
  cases b with
  | true => exact ops_go h (k1 rfl)
  | false => exact ops_skip h (k2 rfl)
theorem ops_guard_f {t : Nat} {b : Bool} (h : s t = some (.bool b)) (k1 : b = true → WpOps P gl e l (s.put d none) H Q) (k2 : b = false → WpOps P gl e (⟨d, op, none, bf⟩ :: l) s H Q) : WpOps P gl e (⟨d, op, some (t, false), bf⟩ :: l) s H Q := by
  cases b with
  | true => exact ops_skip h (k1 rfl)
  | false => exact ops_go h (k2 rfl)

/-- What is left behind a guard of a known value. -/
def GuardK (P : Program) (gl : Nat → Option PV) (e : Bool) (t : Bool) (b : Bool) (d : Option Nat) (op : RI) (bf : Nat) (l : List ROper) (s : Env) (H : Hp) (Q : Env → Hp → Prop) : Prop :=
  if t = b then WpOps P gl e (⟨d, op, none, bf⟩ :: l) s H Q else WpOps P gl e l (s.put d none) H Q
theorem ops_guard {t : Nat} {b x : Bool} (h : s t = some (.bool x)) (k : GuardK P gl e x b d op bf l s H Q) : WpOps P gl e (⟨d, op, some (t, b), bf⟩ :: l) s H Q := by
  unfold GuardK at k
  by_cases hx : x = b
  · subst hx
    rw [if_pos rfl] at k
    exact ops_go h k
  · rw [if_neg hx] at k
    have : x = !b := by cases x <;> cases b <;> simp at hx ⊢
    subst this
    exact ops_skip h k
theorem guardK_tt (k : WpOps P gl e (⟨d, op, none, bf⟩ :: l) s H Q) : GuardK P gl e true true d op bf l s H Q := by unfold GuardK; rw [if_pos rfl]; exact k
theorem guardK_ff (k : WpOps P gl e (⟨d, op, none, bf⟩ :: l) s H Q) : GuardK P gl e false false d op bf l s H Q := by unfold GuardK; rw [if_pos rfl]; exact k
theorem guardK_tf (k : WpOps P gl e l (s.put d none) H Q) : GuardK P gl e true false d op bf l s H Q := by unfold GuardK; rw [if_neg (by simp)]; exact k
theorem guardK_ft (k : WpOps P gl e l (s.put d none) H Q) : GuardK P gl e false true d op bf l s H Q := by unfold GuardK; rw [if_neg (by simp)]; exact k

theorem bool_contra {t : Bool} (h : t = true) (h' : t = false) : False := by rw [h] at h'; cases h'
theorem guardK_split {x b : Bool} (k1 : x = true → GuardK P gl e x b d op bf l s H Q) (k2 : x = false → GuardK P gl e x b d op bf l s H Q) : GuardK P gl e x b d op bf l s H Q := by
  cases x with
  | true => exact k1 rfl
  | false => exact k2 rfl

theorem ops_nil (h : Q s H) : WpOps P gl e [] s H Q := h
end

section
variable {P : Program} {gl : Nat → Option PV} {s : Env} {H : Hp} {Q : Ex → Env → Hp → Prop}

/-- What is left to show behind the first of two. -/
def SeqQ (P : Program) (gl : Nat → Option PV) (b : RCode) (Q : Ex → Env → Hp → Prop) (e : Ex) (s : Env) (H : Hp) : Prop := match e with | .normal => Wp P gl b s H Q | e => Q e s H
def BlkQ (id : Nat) (Q : Ex → Env → Hp → Prop) (e : Ex) (s : Env) (H : Hp) : Prop := match e with | .exit j => if j = id then Q .normal s H else Q (.exit j) s H | e => Q e s H
def LoopQ (I : Nat → Env → Hp → Prop) (n : Nat) (Q : Ex → Env → Hp → Prop) (e : Ex) (s : Env) (H : Hp) : Prop := match e with | .normal => ∃ n', n' < n ∧ I n' s H | e => Q e s H
def FnQ (rs : List RRes) (R : PV → Hp → Prop) (e : Ex) (s : Env) (H : Hp) : Prop := match e with
    | .exit _ => False
    | _ => ∃ r, retOf rs H s = some r ∧ R r H

theorem wp_fn {c : RCode} {rs : List RRes} {R : PV → Hp → Prop} (h : Wp P gl c s H (FnQ rs R)) : WpFn P gl ⟨c, rs⟩ s H R := h
theorem fnQ_normal {rs : List RRes} {R : PV → Hp → Prop} {r : PV} (h : retOf rs H s = some r) (k : R r H) : FnQ rs R .normal s H := ⟨r, h, k⟩
theorem fnQ_ret {rs : List RRes} {R : PV → Hp → Prop} {r : PV} (h : retOf rs H s = some r) (k : R r H) : FnQ rs R .ret s H := ⟨r, h, k⟩
theorem fnQ_ret_soft {rs : List RRes} {r r' rr : PV} (h : retOf rs H s = some r) (h2 : soft H true r = some r') (h3 : r' = rr) : FnQ rs (fun r0 H' => soft H' true r0 = some rr) .ret s H := ⟨r, h, h2.trans (congrArg some h3)⟩
theorem fnQ_normal_soft {rs : List RRes} {r r' rr : PV} (h : retOf rs H s = some r) (h2 : soft H true r = some r') (h3 : r' = rr) : FnQ rs (fun r0 H' => soft H' true r0 = some rr) .normal s H := ⟨r, h, h2.trans (congrArg some h3)⟩
theorem seqQ_normal {b : RCode} (h : Wp P gl b s H Q) : SeqQ P gl b Q .normal s H := h
theorem seqQ_exit {b : RCode} {i : Nat} (h : Q (.exit i) s H) : SeqQ P gl b Q (.exit i) s H := h
theorem seqQ_ret {b : RCode} (h : Q .ret s H) : SeqQ P gl b Q .ret s H := h
theorem blkQ_normal {i : Nat} (h : Q .normal s H) : BlkQ i Q .normal s H := h
theorem blkQ_exit {i : Nat} (h : Q .normal s H) : BlkQ i Q (.exit i) s H := by unfold BlkQ; simpa using h
theorem blkQ_exit_ne {i j : Nat} (hne : (j == i) = false) (h : Q (.exit j) s H) : BlkQ i Q (.exit j) s H := by simp only [BlkQ]; rw [if_neg (by simpa using hne)]; exact h
theorem blkQ_ret {i : Nat} (h : Q .ret s H) : BlkQ i Q .ret s H := h
theorem loopQ_normal {I : Nat → Env → Hp → Prop} {n : Nat} (n' : Nat) (h : n' < n) (k : I n' s H) : LoopQ I n Q .normal s H := ⟨n', h, k⟩
theorem loopQ_exit {I : Nat → Env → Hp → Prop} {n i : Nat} (h : Q (.exit i) s H) : LoopQ I n Q (.exit i) s H := h
theorem loopQ_ret {I : Nat → Env → Hp → Prop} {n : Nat} (h : Q .ret s H) : LoopQ I n Q .ret s H := h

theorem wp_seq' {a b : RCode} (h : Wp P gl a s H (SeqQ P gl b Q)) : Wp P gl (.seq a b) s H Q := h
theorem wp_region_f {l : List ROper} (h : WpOps P gl true l s H (Q .normal)) : Wp P gl (.region l false) s H Q := ⟨(by simp), h⟩
theorem wp_region_t {l : List ROper} (hr : regOk (eOf false) l = true) (h : WpOps P gl false l s H (Q .normal)) : Wp P gl (.region l true) s H Q := ⟨fun _ => hr, h⟩
theorem wp_cond_t {c : RO} {a b : RCode} (h : c.ev gl s = some (.bool true)) (k : Wp P gl a s H Q) : Wp P gl (.cond c a b) s H Q := ⟨true, h, fun _ => k, (by simp)⟩
theorem wp_cond_f {c : RO} {a b : RCode} (h : c.ev gl s = some (.bool false)) (k : Wp P gl b s H Q) : Wp P gl (.cond c a b) s H Q := ⟨false, h, (by simp), fun _ => k⟩
theorem wp_cond_b {c : RO} {a b : RCode} {t : Bool} (h : c.ev gl s = some (.bool t)) (k1 : t = true → Wp P gl a s H Q) (k2 : t = false → Wp P gl b s H Q) : Wp P gl (.cond c a b) s H Q := ⟨t, h, k1, k2⟩
def CondK (P : Program) (gl : Nat → Option PV) (t : Bool) (a b : RCode) (s : Env) (H : Hp) (Q : Ex → Env → Hp → Prop) : Prop := if t = true then Wp P gl a s H Q else Wp P gl b s H Q
theorem wp_cond_e {c : RO} {a b : RCode} {t : Bool} (h : c.ev gl s = some (.bool t)) (k : CondK P gl t a b s H Q) : Wp P gl (.cond c a b) s H Q := by
  cases t with
  | true => exact wp_cond_t h k
  | false => exact wp_cond_f h k
theorem condK_t {a b : RCode} (k : Wp P gl a s H Q) : CondK P gl true a b s H Q := k
theorem condK_f {a b : RCode} (k : Wp P gl b s H Q) : CondK P gl false a b s H Q := by unfold CondK; rw [if_neg (by simp)]; exact k
theorem condK_split {a b : RCode} {t : Bool} (k1 : t = true → CondK P gl t a b s H Q) (k2 : t = false → CondK P gl t a b s H Q) : CondK P gl t a b s H Q := by
  cases t with
  | true => exact k1 rfl
  | false => exact k2 rfl
theorem wp_block' {id : Nat} {c : RCode} (h : Wp P gl c s H (BlkQ id Q)) : Wp P gl (.block id c) s H Q := h
theorem wp_loop' {c : RCode} (I : Nat → Env → Hp → Prop) (n : Nat) (h0 : I n s H) (h : ∀ n s H, I n s H → Wp P gl c s H (LoopQ I n Q)) : Wp P gl (.loop c) s H Q := ⟨I, ⟨n, h0⟩, h⟩
theorem wp_skip' (h : Q .normal s H) : Wp P gl .skip s H Q := h
theorem wp_exit' {id : Nat} (h : Q (.exit id) s H) : Wp P gl (.exit id) s H Q := h
theorem wp_ret' (h : Q .ret s H) : Wp P gl .ret s H Q := h
end
end Go.Vm
