/- Loops, joins, rounds told one by one. -/
import Derived.Test.YtjegabeechopdaaVnB
set_option linter.unusedSimpArgs false
set_option linter.unusedVariables false
namespace Go.Vm
open Go Go.RowKit
section
variable {P : Program} {gl : Nat → Option PV} {n0 : Nat} {s : Env} {H : Hp} {Q : Ex → Env → Hp → Prop}

/-- A state that x tells: the frame s but for what md tells otherwise; the heap block by block. -/
def Told {α : Type} (s : Env) (ks : List Nat) (n : Nat) (md : α → List (Nat × Option PV)) (hl : α → List (Option Blk)) (y : α) (s' : Env) (H' : Hp) : Prop :=
  (∀ t p, t ∉ ks → s t = some p → s' t = some p) ∧ chkE H' n s' (md y) ∧ chkH H' n (hl y) 0

theorem Told.gh {α : Type} {s s' : Env} {H' : Hp} {ks : List Nat} {n : Nat} {md : α → List (Nat × Option PV)} {hl : α → List (Option Blk)} {y : α} (hn0 : n0 ≤ n) (hlen : (hl y).length = n) (hk : (md y).map (·.1) = ks) (hw : ∀ t p, s t = some p → p.under n = true) (h : Told s ks n md hl y s' H') :
    Gh gl n0 s' H' (s.ov (md y)) (Hp.ofL (hl y)) :=
  gh_to hlen hn0 (by rw [hk]; exact h.1) (fun t p _ hp => hw t p hp) h.2.1 h.2.2

def LoopV {α : Type} (s : Env) (ks : List Nat) (n : Nat) (md : α → List (Nat × Option PV)) (hl : α → List (Option Blk)) (inv : α → Prop) (mu : α → Nat) (x : α) (Q : Ex → Env → Hp → Prop) (e : Ex) (s' : Env) (H' : Hp) : Prop :=
  match e with
  | .normal => ∃ y, inv y ∧ mu y < mu x ∧ Told s ks n md hl y s' H'
  | e => Q e s' H'

theorem tr_loop_v {α : Type} {c : RCode} (n : Nat) (md : α → List (Nat × Option PV)) (hl : α → List (Option Blk)) (inv : α → Prop) (mu : α → Nat) (x0 : α) {ks : List Nat} (hk : ∀ x, (md x).map (·.1) = ks) (hlen : ∀ x, (hl x).length = n) (hH : H.n = n) (hn0 : n0 ≤ n) (h0 : inv x0)
    (hE : chkE H n s (md x0)) (hB : chkH H n (hl x0) 0) (h : ∀ x, inv x → Tr P gl n0 c (s.ov (md x)) (Hp.ofL (hl x)) (LoopV s ks n md hl inv mu x Q)) : Tr P gl n0 (.loop c) s H Q := by
  refine tr_wf fun hw => ?_
  rw [hH] at hw
  refine tr_loop (fun k s' H' => ∃ x, inv x ∧ mu x = k ∧ Gh gl n0 s' H' (s.ov (md x)) (Hp.ofL (hl x))) ⟨x0, h0, rfl, Told.gh hn0 (hlen x0) (hk x0) hw ⟨fun t p _ hp => hp, hE, hB⟩⟩ ?_
  rintro k s' H' ⟨x, hx, rfl, hg⟩
  refine tr_ghost hg (tr_mono (h x hx) fun e s1 H1 hq => ?_)
  cases e with
  | normal => obtain ⟨y, h1, h2, h3⟩ := hq; exact ⟨mu y, h2, y, h1, rfl, h3.gh hn0 (hlen y) (hk y) hw⟩
  | exit id => exact hq
  | ret => exact hq

theorem loopV_exit {α : Type} {s0 : Env} {ks : List Nat} {n : Nat} {md : α → List (Nat × Option PV)} {hl : α → List (Option Blk)} {inv : α → Prop} {mu : α → Nat} {x : α} {i : Nat} (h : Q (.exit i) s H) : LoopV s0 ks n md hl inv mu x Q (.exit i) s H := h
theorem loopV_ret {α : Type} {s0 : Env} {ks : List Nat} {n : Nat} {md : α → List (Nat × Option PV)} {hl : α → List (Option Blk)} {inv : α → Prop} {mu : α → Nat} {x : α} (h : Q .ret s H) : LoopV s0 ks n md hl inv mu x Q .ret s H := h
theorem loopV_normal {α : Type} {s0 : Env} {ks : List Nat} {n : Nat} {md : α → List (Nat × Option PV)} {hl : α → List (Option Blk)} {inv : α → Prop} {mu : α → Nat} {x : α} (y : α) (hs : ∀ t p, t ∉ ks → s0 t = some p → s t = some p) (hE : chkE H n s (md y)) (hB : chkH H n (hl y) 0) (hmu : mu y < mu x) (hi : inv y) : LoopV s0 ks n md hl inv mu x Q .normal s H := ⟨y, hi, hmu, hs, hE, hB⟩

/-- Two in turn: what is told between them. -/
def JoinV {α : Type} (s : Env) (ks : List Nat) (n : Nat) (md : α → List (Nat × Option PV)) (hl : α → List (Option Blk)) (inv : α → Prop) (Q : Ex → Env → Hp → Prop) (e : Ex) (s' : Env) (H' : Hp) : Prop :=
  match e with
  | .normal => ∃ y, inv y ∧ Told s ks n md hl y s' H'
  | e => Q e s' H'

theorem tr_join {α : Type} {a b : RCode} (n : Nat) (md : α → List (Nat × Option PV)) (hl : α → List (Option Blk)) (inv : α → Prop) {ks : List Nat} (hk : ∀ x, (md x).map (·.1) = ks) (hlen : ∀ x, (hl x).length = n) (hH : H.n = n) (hn0 : n0 ≤ n)
    (h : Tr P gl n0 a s H (JoinV s ks n md hl inv Q)) (k : ∀ x, inv x → Tr P gl n0 b (s.ov (md x)) (Hp.ofL (hl x)) Q) : Tr P gl n0 (.seq a b) s H Q := by
  refine tr_wf fun hw => ?_
  rw [hH] at hw
  refine tr_seq (tr_mono h fun e s1 H1 hq => ?_)
  cases e with
  | normal => obtain ⟨y, h1, h2⟩ := hq; exact tr_ghost (h2.gh hn0 (hlen y) (hk y) hw) (k y h1)
  | exit id => exact hq
  | ret => exact hq

theorem joinV_exit {α : Type} {s0 : Env} {ks : List Nat} {n : Nat} {md : α → List (Nat × Option PV)} {hl : α → List (Option Blk)} {inv : α → Prop} {i : Nat} (h : Q (.exit i) s H) : JoinV s0 ks n md hl inv Q (.exit i) s H := h
theorem joinV_ret {α : Type} {s0 : Env} {ks : List Nat} {n : Nat} {md : α → List (Nat × Option PV)} {hl : α → List (Option Blk)} {inv : α → Prop} (h : Q .ret s H) : JoinV s0 ks n md hl inv Q .ret s H := h
theorem joinV_normal {α : Type} {s0 : Env} {ks : List Nat} {n : Nat} {md : α → List (Nat × Option PV)} {hl : α → List (Option Blk)} {inv : α → Prop} (y : α) (hs : ∀ t p, t ∉ ks → s0 t = some p → s t = some p) (hE : chkE H n s (md y)) (hB : chkH H n (hl y) 0) (hi : inv y) : JoinV s0 ks n md hl inv Q .normal s H := ⟨y, hi, hs, hE, hB⟩

/-- A loop, round by round: at most n more. -/
def UnrQ (P : Program) (gl : Nat → Option PV) (n0 : Nat) (c : RCode) (Q : Ex → Env → Hp → Prop) : Nat → Ex → Env → Hp → Prop
  | 0, e, s, H => match e with | .normal => False | e => Q e s H
  | n + 1, e, s, H => match e with | .normal => Tr P gl n0 c s H (UnrQ P gl n0 c Q n) | e => Q e s H
theorem tr_unroll {c : RCode} (n : Nat) (h : Tr P gl n0 c s H (UnrQ P gl n0 c Q n)) : Tr P gl n0 (.loop c) s H Q := by
  refine tr_loop (fun n s H => Tr P gl n0 c s H (UnrQ P gl n0 c Q n)) h fun n s H h => tr_mono h fun e s1 H1 hq => ?_
  cases n with
  | zero => cases e with
    | normal => exact hq.elim
    | exit id => exact hq
    | ret => exact hq
  | succ n => cases e with
    | normal => exact ⟨n, Nat.lt_succ_self n, hq⟩
    | exit id => exact hq
    | ret => exact hq
theorem unrQ_normal {c : RCode} {n : Nat} (h : Tr P gl n0 c s H (UnrQ P gl n0 c Q n)) : UnrQ P gl n0 c Q (n + 1) .normal s H := h
theorem unrQ_exit {c : RCode} {n i : Nat} (h : Q (.exit i) s H) : UnrQ P gl n0 c Q n (.exit i) s H := by cases n <;> exact h
theorem unrQ_ret {c : RCode} {n : Nat} (h : Q .ret s H) : UnrQ P gl n0 c Q n .ret s H := by cases n <;> exact h

/-- A slice without room as a row that is not yet there. -/
theorem tr_virt {c : RCode} (t sz n : Nat) (hH : H.n = n) (hn0 : n0 ≤ n) (h : s t = some (.lit [])) (k : Tr P gl n0 c (s.put (some t) (some (.ref n 0 0 0))) (H.add [⟨0, sz, []⟩]) Q) : Tr P gl n0 c s H Q := by
  subst hH
  exact tr_ghost (gh_virt t sz hn0 h) k
theorem tr_virt_blk {c : RCode} (b j sz n : Nat) (hH : H.n = n) (hn0 : n0 ≤ n) {g z : Nat} {cs : List PV} (hb : H.f b = some ⟨g, z, [.agg cs]⟩) (h : cs[j]? = some (.lit [])) (k : Tr P gl n0 c s ((H.set b ⟨g, z, [.agg (cs.set j (.ref n 0 0 0))]⟩).add [⟨0, sz, []⟩]) Q) : Tr P gl n0 c s H Q := by
  subst hH
  exact tr_ghost (gh_virt_blk b j sz hn0 hb h) k

/-- Values that lead into no local heap stay as they are. -/
theorem pure1_under {p : PV} (h : pure1 p = true) (k : Nat) : p.under k = true := by cases p <;> simp_all [pure1, PV.under]
theorem underL_pure {k : Nat} : ∀ {l : List PV}, l.all pure1 = true → underL k l = true
  | [], _ => rfl
  | x :: r, h => by
    simp only [List.all_cons, Bool.and_eq_true] at h
    simp only [underL, Bool.and_eq_true]
    exact ⟨pure1_under h.1 k, underL_pure h.2⟩
theorem pureE_under {p : PV} (h : pureE p = true) (k : Nat) : p.under k = true := by
  cases p
  case agg l =>
    simp only [PV.under]
    exact underL_pure (by simpa [pureE] using h)
  all_goals simp_all [pureE, pure1, PV.under]
theorem fzP_pure {k : Nat} : ∀ {l : List PV}, l.all pureE = true → fzP H k l = some l
  | [], _ => rfl
  | x :: r, h => by
    simp only [List.all_cons, Bool.and_eq_true] at h
    simp only [fzP, fz_below (pureE_under h.1 k), fzP_pure h.2, Option.bind_eq_bind, Option.bind_some]

/-- Numbers as values. -/
def ints (l : List Int) : List PV := l.map (.int .i64)
theorem ints_pure (l : List Int) : (ints l).all pureE = true := by simp [ints, pureE, pure1]
theorem ints_cells (l : List Int) : cellsOk 1 (ints l) = true := by simp [ints, cellsOk, PV.cells, PV.one]
theorem ints_length (l : List Int) : (ints l).length = l.length := by simp [ints]
theorem ints_append (a b : List Int) : ints a ++ ints b = ints (a ++ b) := by simp [ints]
theorem ints_get (l : List Int) (i : Nat) : (ints l)[i]? = l[i]?.map (.int .i64) := by simp [ints]
end
end Go.Vm
namespace Go.Vm
section
variable {P : Program} {gl : Nat → Option PV} {n0 : Nat} {s : Env} {H : Hp} {Q : Ex → Env → Hp → Prop} {a b : RCode} {t : Bool}
theorem condT_T (h : t = true) (k : Tr P gl n0 a s H Q) : CondT P gl n0 t a b s H Q := by subst h; exact k
theorem condT_F (h : t = false) (k : Tr P gl n0 b s H Q) : CondT P gl n0 t a b s H Q := by subst h; exact condT_f k
end
end Go.Vm
namespace Go.Vm
section
variable {P : Program} {gl : Nat → Option PV} {e : Bool} {s : Env} {H : Hp} {l : Nodes} {Q : Env → Hp → Prop} {d : Option Nat} {bf : Nat}
/-- An element of a frozen slice of numbers. -/
theorem n_idx_ints {x i : RO} {k : IntKind} {xs : List Int} {c : Int} (hx : x.ev gl s = some (.sl (ints xs))) (hi : i.ev gl s = some (.int k c)) (h : 0 ≤ c ∧ c < (ints xs).length) (kk : WN P gl e l (s.put d (some (.fptr [.int .i64 (xs.getD c.toNat 0)]))) H Q) : WN P gl e (.op d (.idxAddr 1 x i) bf l) s H Q := by
  have hl : c.toNat < xs.length := by have := h.2; rw [ints_length] at this; omega
  refine n_idx_sl (y := .int .i64 (xs.getD c.toNat 0)) hx hi h.1 ?_ rfl kk
  rw [ints_get, List.getElem?_eq_getElem hl]
  simp [hl]
/-- What comes back: a row of one's own, as it is. -/
theorem fnQ_ret_row {rs : List RRes} {b g sz len : Nat} {xs : List PV} {rr : PV} (h : retOf rs H s = some (.ref b g 0 len)) (hb : H.f b = some ⟨g, sz, xs⟩) (hl : len = xs.length) (hp : xs.all pureE = true) (h3 : .sl xs = rr) : FnQ rs (fun r0 H' => soft H' true r0 = some rr) .ret s H := by
  refine ⟨_, h, ?_⟩
  subst hl h3
  simp [soft, soft0, soft1, elems, Hp.blk, hb, hp]
end
end Go.Vm
namespace Go.Vm
section
variable {P : Program} {gl : Nat → Option PV} {e : Bool} {s : Env} {H : Hp} {l : Nodes} {Q : Env → Hp → Prop} {d : Option Nat} {bf : Nat}
/-- A cell of an array of numbers of one's own. -/
theorem n_load_ints {x : RO} {b g sz off : Nat} {t : List Int} (hx : x.ev gl s = some (.ptr b g 0 off)) (hb : H.f b = some ⟨g, sz, [.agg (ints t)]⟩) (h : off < t.length) (kk : WN P gl e l (s.put d (some (.int .i64 (t.getD off 0)))) H Q) : WN P gl e (.op d (.load none x) bf l) s H Q := by
  refine n_val rfl ?_ kk
  have h2 : (ints t).drop off = .int .i64 (t.getD off 0) :: (ints t).drop (off + 1) := by
    rw [List.drop_eq_getElem_cons (by rw [ints_length]; exact h)]
    congr 1
    simp [ints, h]
  simp only [stepN, hx, Option.bind_eq_bind, Option.bind_some, Hp.blk, hb, if_true, List.getElem?_cons_zero, PV.cells, h2, subv, List.head?_cons, Option.pure_def]
end
theorem take_snoc {l : List Int} {i : Int} (h0 : 0 ≤ i) (h : i < l.length) : l.take (i + 1).toNat = l.take i.toNat ++ [l.getD i.toNat 0] := by
  have hl : i.toNat < l.length := by omega
  rw [show (i + 1).toNat = i.toNat + 1 by omega, List.take_add_one, List.getElem?_eq_getElem hl]
  simp [hl]
theorem take_all {l : List Int} {i : Int} (h : i = l.length) : l.take i.toNat = l := by
  rw [List.take_of_length_le (by omega)]
theorem wrap_i64_of {n : Int} (h : -9223372036854775808 ≤ n ∧ n ≤ 9223372036854775807) : IntKind.i64.wrap n = n := by rw [IntKind.wrap_i64]; omega
end Go.Vm
namespace Go.Vm
theorem pe_int (k : IntKind) (n : Int) : pureE (.int k n) = true := rfl
theorem pe_bool (b : Bool) : pureE (.bool b) = true := rfl
theorem pe_str (s : ByteArray) : pureE (.str s) = true := rfl
theorem pe_sl (l : List PV) : pureE (.sl l) = true := rfl
theorem pe_agg (l : List PV) : pureE (.agg l) = l.all pure1 := rfl
theorem p1_int (k : IntKind) (n : Int) : pure1 (.int k n) = true := rfl
theorem p1_bool (b : Bool) : pure1 (.bool b) = true := rfl
theorem p1_str (s : ByteArray) : pure1 (.str s) = true := rfl
theorem p1_sl (l : List PV) : pure1 (.sl l) = true := rfl
theorem all_snoc (l : List PV) (x : PV) (p : PV → Bool) : (l ++ [x]).all p = (l.all p && p x) := by simp
end Go.Vm
namespace Go.Vm
section
variable {P : Program} {gl : Nat → Option PV} {e : Bool} {s : Env} {H : Hp} {l : Nodes} {Q : Env → Hp → Prop} {bf : Nat}
/-- The second one is not asked. -/
theorem n_andF {t p a : Nat} {sub : Nodes} {x : Bool} (hx : s t = some (.bool x)) (ht : sub.dsts.contains t = false) (h : x = false) (k : WN P gl e l ((s.less sub.dsts).put (some p) (some (.bool false))) H Q) : WN P gl e (.grd t true sub (.op (some p) (.pick (.t t) (.t a) (.c (.bool false))) bf l)) s H Q :=
  n_and (y := false) hx ht (fun h' => by rw [h] at h'; cases h') (by rw [h]; exact k)
theorem n_orT {t p a : Nat} {sub : Nodes} {x : Bool} (hx : s t = some (.bool x)) (ht : sub.dsts.contains t = false) (h : x = true) (k : WN P gl e l ((s.less sub.dsts).put (some p) (some (.bool true))) H Q) : WN P gl e (.grd t false sub (.op (some p) (.pick (.t t) (.c (.bool true)) (.t a)) bf l)) s H Q :=
  n_or (y := true) hx ht (fun h' => by rw [h] at h'; cases h') (by rw [h]; exact k)
end
end Go.Vm
