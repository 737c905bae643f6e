/- Laid. -/
import Derived.Test.YtkdhindpjllpkaaGreatDoorVmThree
import Derived.Test.YtkdhindpjllpkaaGreatDoorVmTwoB
set_option linter.unusedSimpArgs false
set_option linter.unusedVariables false
set_option maxRecDepth 100000
set_option maxHeartbeats 4000000
set_option exponentiation.threshold 2000
namespace Go.Vm
open Go
def wrd (v i : Nat) : Nat := v / 2 ^ (64 * i) % 2 ^ 64
def words (k v : Nat) : List Nat := (List.range k).map (wrd v)
def val : List Nat → Nat
  | [] => 0
  | w :: r => w + 2 ^ 64 * val r
def u64s (ws : List Nat) : List PV := ws.map fun (w : Nat) => PV.int .u64 w
theorem wrap_u64_nat {a : Nat} (h : a < 2 ^ 64) : IntKind.u64.wrap (a : Int) = a := by
  simp only [IntKind.wrap, IntKind.signed, IntKind.bits]
  simp
  omega
theorem and_split (n a r b s : Nat) (hr : r < 2 ^ n) (hs : s < 2 ^ n) : (2 ^ n * a + r) &&& (2 ^ n * b + s) = 2 ^ n * (a &&& b) + (r &&& s) := by
  have h : r &&& s < 2 ^ n := Nat.and_lt_two_pow _ hs
  refine Nat.eq_of_testBit_eq fun j => ?_
  rw [Nat.testBit_and, Nat.testBit_two_pow_mul_add _ hr, Nat.testBit_two_pow_mul_add _ hs, Nat.testBit_two_pow_mul_add _ h]
  split <;> rw [Nat.testBit_and]
def rep (c : Nat) : Nat → Nat
  | 0 => 0
  | k + 1 => 256 * rep c k + c
def p1 (r : Nat) : Nat := (r / 2 &&& 85) + (r &&& 85)
def p2 (r : Nat) : Nat := (r / 4 &&& 51) + (r &&& 51)
def p3 (r : Nat) : Nat := (r / 16 + r) &&& 15
def byt (f : Nat → Nat) : Nat → Nat → Nat
  | 0, _ => 0
  | k + 1, x => 256 * byt f k (x / 256) + f (x % 256)
theorem s1 : ∀ (k x : Nat), x < 256 ^ k → (x / 2 &&& rep 85 k) + (x &&& rep 85 k) = byt p1 k x
  | 0, x, h => by simp [rep, byt]
  | k + 1, x, h => by
    have ih := s1 k (x / 256) (by rw [Nat.pow_succ] at h; omega)
    have e1 : x = 2 ^ 8 * (x / 256) + x % 256 := by omega
    have e2 : x / 2 = 2 ^ 8 * (x / 256 / 2) + (128 * (x / 256 % 2) + x % 256 / 2) := by omega
    have key : ∀ (t : Fin 2) (r : Fin 256), ((128 * t.val + r.val / 2) &&& 85) = (r.val / 2 &&& 85) := by decide +kernel
    have hk := key ⟨x / 256 % 2, by omega⟩ ⟨x % 256, by omega⟩
    simp only at hk
    unfold rep byt
    have hx1 : x / 2 &&& (256 * rep 85 k + 85) = 2 ^ 8 * (x / 256 / 2 &&& rep 85 k) + (x % 256 / 2 &&& 85) := by
      conv => lhs; rw [e2]
      rw [show 256 * rep 85 k + 85 = 2 ^ 8 * rep 85 k + 85 by omega, and_split 8 _ _ _ _ (by omega) (by omega), hk]
    have hx2 : x &&& (256 * rep 85 k + 85) = 2 ^ 8 * (x / 256 &&& rep 85 k) + (x % 256 &&& 85) := by
      conv => lhs; rw [e1]
      rw [show 256 * rep 85 k + 85 = 2 ^ 8 * rep 85 k + 85 by omega, and_split 8 _ _ _ _ (by omega) (by omega)]
    rw [hx1, hx2, ← ih]
    unfold p1
    omega
theorem s2 : ∀ (k x : Nat), x < 256 ^ k → (x / 4 &&& rep 51 k) + (x &&& rep 51 k) = byt p2 k x
  | 0, x, h => by simp [rep, byt]
  | k + 1, x, h => by
    have ih := s2 k (x / 256) (by rw [Nat.pow_succ] at h; omega)
    have e1 : x = 2 ^ 8 * (x / 256) + x % 256 := by omega
    have e2 : x / 4 = 2 ^ 8 * (x / 256 / 4) + (64 * (x / 256 % 4) + x % 256 / 4) := by omega
    have key : ∀ (t : Fin 4) (r : Fin 256), ((64 * t.val + r.val / 4) &&& 51) = (r.val / 4 &&& 51) := by decide +kernel
    have hk := key ⟨x / 256 % 4, by omega⟩ ⟨x % 256, by omega⟩
    simp only at hk
    unfold rep byt
    have hx1 : x / 4 &&& (256 * rep 51 k + 51) = 2 ^ 8 * (x / 256 / 4 &&& rep 51 k) + (x % 256 / 4 &&& 51) := by
      conv => lhs; rw [e2]
      rw [show 256 * rep 51 k + 51 = 2 ^ 8 * rep 51 k + 51 by omega, and_split 8 _ _ _ _ (by omega) (by omega), hk]
    have hx2 : x &&& (256 * rep 51 k + 51) = 2 ^ 8 * (x / 256 &&& rep 51 k) + (x % 256 &&& 51) := by
      conv => lhs; rw [e1]
      rw [show 256 * rep 51 k + 51 = 2 ^ 8 * rep 51 k + 51 by omega, and_split 8 _ _ _ _ (by omega) (by omega)]
    rw [hx1, hx2, ← ih]
    unfold p2
    omega
def nib : Nat → Nat → Prop
  | 0, x => x = 0
  | k + 1, x => x % 16 ≤ 4 ∧ x % 256 / 16 ≤ 4 ∧ nib k (x / 256)
theorem nib_lo : ∀ {k x : Nat}, nib k x → x % 16 ≤ 4
  | 0, x, h => by simp [nib] at h; omega
  | k + 1, x, h => h.1
theorem s3 : ∀ (k x : Nat), nib k x → (x / 16 + x) &&& rep 15 k = byt p3 k x
  | 0, x, h => by simp [rep, byt]
  | k + 1, x, h => by
    obtain ⟨h1, h2, h3⟩ := h
    have ih := s3 k (x / 256) h3
    have hl := nib_lo h3
    have e2 : x / 16 + x = 2 ^ 8 * (x / 256 / 16 + x / 256) + (16 * (x / 256 % 16) + (x % 256 / 16 + x % 256)) := by omega
    have hb : 16 * (x / 256 % 16) + (x % 256 / 16 + x % 256) < 2 ^ 8 := by omega
    have hk : (16 * (x / 256 % 16) + (x % 256 / 16 + x % 256)) &&& 15 = (x % 256 / 16 + x % 256) &&& 15 := by
      rw [show (15 : Nat) = 2 ^ 4 - 1 from rfl, Nat.and_two_pow_sub_one_eq_mod, Nat.and_two_pow_sub_one_eq_mod]
      omega
    unfold rep byt
    conv => lhs; rw [e2]
    rw [show 256 * rep 15 k + 15 = 2 ^ 8 * rep 15 k + 15 by omega, and_split 8 _ _ _ _ hb (by omega), hk, ih]
    rfl
section
variable {c0 c1 c2 c3 c4 c5 c6 c7 : Nat}
variable (q0 : c0 ≤ 8) (q1 : c1 ≤ 8) (q2 : c2 ≤ 8) (q3 : c3 ≤ 8) (q4 : c4 ≤ 8) (q5 : c5 ≤ 8) (q6 : c6 ≤ 8) (q7 : c7 ≤ 8)
include q0 q1 q2 q3 q4 q5 q6 q7
end
def wN (n : Int) : Nat := ((n + 63) / 64).toNat
abbrev W64 (ws : List Nat) : Prop := ∀ w ∈ ws, w < 2 ^ 64
def bSane (n : Int) (ws : List Nat) : Bool := decide (0 ≤ n ∧ n ≤ 1024 ∧ ws.length = wN n ∧ val ws < 2 ^ n.toNat)
def nN (n : Int) (ws : List Nat) : Int := if bSane n ws then n else 0
def vN (n : Int) (ws : List Nat) : Nat := if bSane n ws then val ws else 0
abbrev sv (n : Int) (ws : List Nat) : PV := .agg [.int .i64 n, .sl (u64s ws)]
abbrev mk (n : Int) (v : Nat) : PV := sv n (words (wN n) v)
theorem bSane_iff {n : Int} {ws : List Nat} : bSane n ws = true ↔ 0 ≤ n ∧ n ≤ 1024 ∧ ws.length = wN n ∧ val ws < 2 ^ n.toNat := by simp [bSane]
theorem nN_r (n : Int) (ws : List Nat) : 0 ≤ nN n ws ∧ nN n ws ≤ 1024 := by
  unfold nN
  split
  · rename_i h; have := bSane_iff.1 h; omega
  · omega
theorem vN_lt (n : Int) (ws : List Nat) : vN n ws < 2 ^ (nN n ws).toNat := by
  unfold nN vN
  split
  · rename_i h; exact (bSane_iff.1 h).2.2.2
  · exact Nat.two_pow_pos _
end Go.Vm
namespace Go.Vm
open Go Go.RowKit
section
variable {P : Program} {gl : Nat → Option PV} {e : Bool} {s : Env} {H : Hp} {l : Nodes} {Q : Env → Hp → Prop} {d : Option Nat} {bf : Nat}
theorem n_bin {o : BinOp} {x y : RO} {p q r : PV} (hx : x.ev gl s = some p) (hy : y.ev gl s = some q) (hr : binP o p q = some r) (kk : WN P gl e l (s.put d (some r)) H Q) : WN P gl e (.op d (.bin o x y) bf l) s H Q := by
  refine n_val rfl ?_ kk
  simp only [stepN, hx, hy, Option.bind_eq_bind, Option.bind_some, hr, Option.pure_def]
theorem n_min {x y : RO} {k : IntKind} {a b : Int} (hx : x.ev gl s = some (.int k a)) (hy : y.ev gl s = some (.int k b)) (kk : WN P gl e l (s.put d (some (.int k (min a b)))) H Q) : WN P gl e (.op d (.mm false x [y]) bf l) s H Q := by
  refine n_val (r := .int k (min a b)) rfl ?_ kk
  simp only [stepN, hx, hy, evs, mm2, mmL, Option.bind_eq_bind, Option.bind_some, Option.pure_def, Bool.false_eq_true, if_false, List.foldlM_cons, List.foldlM_nil]
  congr 3
  omega
theorem n_max {x y : RO} {k : IntKind} {a b : Int} (hx : x.ev gl s = some (.int k a)) (hy : y.ev gl s = some (.int k b)) (kk : WN P gl e l (s.put d (some (.int k (max a b)))) H Q) : WN P gl e (.op d (.mm true x [y]) bf l) s H Q := by
  refine n_val (r := .int k (max a b)) rfl ?_ kk
  simp only [stepN, hx, hy, evs, mm2, mmL, Option.bind_eq_bind, Option.bind_some, Option.pure_def, if_true, List.foldlM_cons, List.foldlM_nil]
  congr 3
  omega
theorem n_idx_own {sz b g len : Nat} {x i : RO} {k : IntKind} {xs : List PV} {c : Int} (hx : x.ev gl s = some (.ref b g 0 len)) (hi : i.ev gl s = some (.int k c)) (hb : H.f b = some ⟨g, sz, xs⟩) (h0 : 0 ≤ c ∧ c < len) (kk : WN P gl e l (s.put d (some (.ptr b g c.toNat 0))) H Q) : WN P gl e (.op d (.idxAddr sz x i) bf l) s H Q :=
  n_idx_ref hx hi hb h0 (by rw [Nat.zero_add]; exact kk)
end
/-! ### Sums -/
theorem b_add {a b : Int} (h : -9223372036854775808 ≤ a + b ∧ a + b ≤ 9223372036854775807) : binP .add (.int .i64 a) (.int .i64 b) = some (.int .i64 (a + b)) := by
  show some (PV.int .i64 (IntKind.i64.wrap (a + b))) = _
  rw [wrap_i64_of h]
theorem b_sub {a b : Int} (h : -9223372036854775808 ≤ a - b ∧ a - b ≤ 9223372036854775807) : binP .sub (.int .i64 a) (.int .i64 b) = some (.int .i64 (a - b)) := by
  show some (PV.int .i64 (IntKind.i64.wrap (a - b))) = _
  rw [wrap_i64_of h]
theorem wrap_u64_of {a : Int} (h : 0 ≤ a ∧ a < 18446744073709551616) : IntKind.u64.wrap a = a := by
  obtain ⟨n, rfl⟩ := Int.eq_ofNat_of_zero_le h.1
  exact wrap_u64_nat (by omega)
end Go.Vm
namespace Go.Vm
open Go Go.RowKit
section
variable {gl : Nat → Option PV} {s : Env} {H : Hp}
end
end Go.Vm
namespace Go.Vm
end Go.Vm
namespace Go.Vm
end Go.Vm
namespace Go.Vm
section
variable {f : Nat → Nat → Nat} {k va vb : Nat} {i : Int}
end
end Go.Vm
namespace Go.Vm
theorem Pure.as {P : Program} {gl : Nat → Option PV} {f : FuncId} {args : List PV} {r r' : PV} (h : Pure P gl f args r) (e : r = r') : Pure P gl f args r' := by subst e; exact h
end Go.Vm
namespace Go.Vm
theorem fits_int {k : IntKind} {x : PV} (h : FitsV (.int k) x) : ∃ n, x = .int k n ∧ (Lit.int k n).wf = true := by
  rcases h with ⟨h, _⟩ | ⟨_, n, h, hw⟩
  · cases h
  · injection h with h
    exact ⟨n, h, hw⟩
def Rep (x : PV) (N : Int) (v : Nat) : Prop := ∃ n ws, x = sv n ws ∧ W64 ws ∧ nN n ws = N ∧ vN n ws = v
structure Ok (N : Int) (v : Nat) : Prop where
  r : 0 ≤ N ∧ N ≤ 1024
  lt : v < 2 ^ N.toNat
theorem Rep.ok {x : PV} {N : Int} {v : Nat} (h : Rep x N v) : Ok N v := by
  obtain ⟨n, ws, rfl, _, rfl, rfl⟩ := h
  exact ⟨nN_r n ws, vN_lt n ws⟩
end Go.Vm
namespace Go.Vm
end Go.Vm
namespace Go.Vm
end Go.Vm
