/- Laid. -/
import Derived.Test.YtlcbceneacnaiaaDoorLEnvL
/- Instructions: eleven numbers; what may be; no program in sight. -/
set_option linter.unusedSimpArgs false
set_option linter.unusedVariables false
namespace Go.Vm
open Go
structure In where
  id : Int
  kind : Int
  dst : Int
  a : Int
  b : Int
  c : Int
  f : Int
  n : Int
  x : Int
  y : Int
  z : Int
  deriving DecidableEq
abbrev pI (i : In) : PV := .agg [.int .i64 i.id, .int .i64 i.kind, .int .i64 i.dst, .int .i64 i.a, .int .i64 i.b, .int .i64 i.c, .int .i64 i.f, .int .i64 i.n, .int .i64 i.x, .int .i64 i.y, .int .i64 i.z]
def hD (k : Int) : Bool := decide (0 ≤ k) && decide (k ≤ 7)
def hA (k : Int) : Bool := decide (1 ≤ k) && decide (k ≤ 5) || k == 8 || k == 9
def hB (k : Int) : Bool := decide (3 ≤ k) && decide (k ≤ 5)
def hC (k : Int) : Bool := k == 0
def hF (k : Int) : Bool := k == 7
def bareI (i : In) : In := ⟨0, 0, if hD i.kind then 0 else i.dst, if hA i.kind then 0 else i.a, if hB i.kind then 0 else i.b, if hC i.kind then 0 else i.c, if hF i.kind then 0 else i.f, if hF i.kind then 0 else i.n,
  if hF i.kind && decide (0 < i.n) then 0 else i.x, if hF i.kind && decide (1 < i.n) then 0 else i.y, if hF i.kind && decide (2 < i.n) then 0 else i.z⟩
def i0 : In := ⟨0, 0, 0, 0, 0, 0, 0, 0, 0, 0, 0⟩
/-- May an instruction be? -/
def form (i : In) : Bool :=
  decide (0 ≤ i.kind ∧ i.kind ≤ 9) && decide (0 ≤ i.id ∧ i.id ≤ 95) && decide (0 ≤ i.n ∧ i.n ≤ 3) && decide (-2147483648 ≤ i.c ∧ i.c ≤ 2147483647) &&
  decide (0 ≤ i.dst ∧ 0 ≤ i.a ∧ 0 ≤ i.b ∧ 0 ≤ i.f ∧ 0 ≤ i.x ∧ 0 ≤ i.y ∧ 0 ≤ i.z) && decide (bareI i = i0)
def defI (i : In) : Int := if form i && hD i.kind then i.dst else -1
/-- Each number once, in the order of the first. -/
def dedup (l : List Int) : List Int := l.foldl (fun o v => if o.contains v then o else o ++ [v]) []
def rawUses (i : In) : List Int := (if hA i.kind then [i.a] else []) ++ (if hB i.kind then [i.b] else []) ++ [i.x, i.y, i.z].take i.n.toNat
def usesI (i : In) : List Int := if form i then dedup (rawUses i) else []
/-- Names of kinds. -/
def nmL : List ByteArray := [⟨#[99, 111, 110, 115, 116]⟩, ⟨#[99, 111, 112, 121]⟩, ⟨#[110, 101, 103]⟩, ⟨#[97, 100, 100]⟩, ⟨#[115, 117, 98]⟩, ⟨#[109, 117, 108]⟩, ⟨#[105, 110, 112, 117, 116]⟩, ⟨#[99, 97, 108, 108]⟩, ⟨#[117, 115, 101]⟩, ⟨#[114, 101, 116]⟩]
def bs0 : ByteArray := ⟨#[]⟩
def nm (k : Int) : ByteArray := if 0 ≤ k ∧ k ≤ 9 then nmL.getD k.toNat bs0 else bs0
def ptL : List ByteArray := [⟨#[100, 99]⟩, ⟨#[100, 97]⟩, ⟨#[100, 97]⟩, ⟨#[100, 97, 98]⟩, ⟨#[100, 97, 98]⟩, ⟨#[100, 97, 98]⟩, ⟨#[100]⟩, ⟨#[100, 102]⟩, ⟨#[97]⟩, ⟨#[97]⟩]
def pt (k : Int) : ByteArray := if 0 ≤ k ∧ k ≤ 9 then ptL.getD k.toNat bs0 else bs0
/-- A row of 256: which bytes are spaces. -/
def asciiL : List PV := (List.range 256).map fun i => .int .u8 (if i = 9 ∨ i = 10 ∨ i = 11 ∨ i = 12 ∨ i = 13 ∨ i = 32 then 1 else 0)
theorem kind_cases (k : Int) : k = 0 ∨ k = 1 ∨ k = 2 ∨ k = 3 ∨ k = 4 ∨ k = 5 ∨ k = 6 ∨ k = 7 ∨ k = 8 ∨ k = 9 ∨ (k < 0 ∨ 9 < k) := by omega
end Go.Vm
namespace Go.Vm
section
variable {P : Program} {gl : Nat → Option PV} {e : Bool} {s : Env} {H : Hp} {l : Nodes} {Q : Env → Hp → Prop} {d : Option Nat} {bf : Nat}
theorem n_eprim {t : EPrim} {args : List RO} {r : PV} {H' : Hp} (h : stepE (RO.ev gl s) H (.eprim t args) = some (some r, H')) (k : WN P gl e l (s.put d (some r)) H' Q) : WN P gl e (.op d (.eprim t args) bf l) s H Q := ⟨some r, H', h, k⟩
end
end Go.Vm
namespace Go.Vm
section
variable {P : Program} {gl : Nat → Option PV} {e : Bool} {s : Env} {H : Hp} {l : Nodes} {Q : Env → Hp → Prop} {d : Option Nat} {bf : Nat}
theorem mm2_min {k : IntKind} {a b : Int} : mm2 false (.int k a) (.int k b) = some (.int k (min a b)) := by
  simp only [mm2, Bool.false_eq_true, if_false]
  congr 2
  omega
theorem n_min5 {x y1 y2 y3 y4 : RO} {k : IntKind} {a b1 b2 b3 b4 : Int} (hx : x.ev gl s = some (.int k a)) (h1 : y1.ev gl s = some (.int k b1)) (h2 : y2.ev gl s = some (.int k b2)) (h3 : y3.ev gl s = some (.int k b3)) (h4 : y4.ev gl s = some (.int k b4))
    (kk : WN P gl e l (s.put d (some (.int k (min (min (min (min a b1) b2) b3) b4)))) H Q) : WN P gl e (.op d (.mm false x [y1, y2, y3, y4]) bf l) s H Q := by
  refine n_val (r := .int k (min (min (min (min a b1) b2) b3) b4)) rfl ?_ kk
  simp only [stepN, hx, h1, h2, h3, h4, mmL, mm2_min, Option.bind_eq_bind, Option.bind_some, Option.pure_def]
end
theorem nm_empty (k : Int) : ((nm k).toList == bs0.toList) = !decide (0 ≤ k ∧ k ≤ 9) := by
  rcases kind_cases k with rfl | rfl | rfl | rfl | rfl | rfl | rfl | rfl | rfl | rfl | h
  any_goals decide +kernel
  rw [nm, if_neg (by omega), decide_eq_false (by omega : ¬ (0 ≤ k ∧ k ≤ 9))]
  decide +kernel
theorem eq_i0 (j : In) : (j.id == 0 && (j.kind == 0 && (j.dst == 0 && (j.a == 0 && (j.b == 0 && (j.c == 0 && (j.f == 0 && (j.n == 0 && (j.x == 0 && (j.y == 0 && (j.z == 0 && true))))))))))) = decide (j = i0) := by
  obtain ⟨id, k, dst, a, b, c, f, n, x, y, z⟩ := j
  rw [Bool.eq_iff_iff, decide_eq_true_eq]
  simp [i0]
theorem form_f {i : In} (h : ((nm i.kind).toList == bs0.toList || decide (i.id < 0) || decide (i.id ≥ 96) || decide (i.n < 0) || decide (i.n > 3) || decide (i.c < -2147483648) || decide (i.c > 2147483647)) = true) : form i = false := by
  rw [nm_empty] at h
  cases hf : form i with
  | false => rfl
  | true =>
    simp only [form, Bool.and_eq_true, decide_eq_true_eq] at hf
    simp only [Bool.or_eq_true, Bool.not_eq_true', decide_eq_false_iff_not, decide_eq_true_eq] at h
    omega
theorem form_t {i : In} (h : ((nm i.kind).toList == bs0.toList || decide (i.id < 0) || decide (i.id ≥ 96) || decide (i.n < 0) || decide (i.n > 3) || decide (i.c < -2147483648) || decide (i.c > 2147483647)) = false) : form i = (decide (min (min (min (min i.dst i.a) i.b) i.f) (min (min i.x i.y) i.z) ≥ 0) && decide (bareI i = i0)) := by
  rw [nm_empty] at h
  simp only [Bool.or_eq_false_iff, Bool.not_eq_false', decide_eq_true_eq, decide_eq_false_iff_not] at h
  rw [form, decide_eq_true (by omega : 0 ≤ i.kind ∧ i.kind ≤ 9), decide_eq_true (by omega : 0 ≤ i.id ∧ i.id ≤ 95), decide_eq_true (by omega : 0 ≤ i.n ∧ i.n ≤ 3), decide_eq_true (by omega : -2147483648 ≤ i.c ∧ i.c ≤ 2147483647)]
  simp only [Bool.true_and]
  congr 1
  rw [decide_eq_decide]
  omega
end Go.Vm
