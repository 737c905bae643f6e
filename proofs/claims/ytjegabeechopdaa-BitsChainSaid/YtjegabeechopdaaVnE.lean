/- Rules for words. -/
import Derived.Test.YtjegabeechopdaaLSet
set_option linter.unusedSimpArgs false
set_option linter.unusedVariables false
namespace Go.Vm
open Go Go.RowKit
section
variable {P : Program} {gl : Nat → Option PV} {e : Bool} {s : Env} {H : Hp} {l : Nodes} {Q : Env → Hp → Prop} {d : Option Nat} {bf : Nat}
theorem n_bin {o : BinOp} {x y : RO} {p q r : PV} (hx : x.ev gl s = some p) (hy : y.ev gl s = some q) (hr : binP o p q = some r) (kk : WN P gl e l (s.put d (some r)) H Q) : WN P gl e (.op d (.bin o x y) bf l) s H Q := by
  refine n_val rfl ?_ kk
  simp only [stepN, hx, hy, Option.bind_eq_bind, Option.bind_some, hr, Option.pure_def]
theorem n_min {x y : RO} {k : IntKind} {a b : Int} (hx : x.ev gl s = some (.int k a)) (hy : y.ev gl s = some (.int k b)) (kk : WN P gl e l (s.put d (some (.int k (min a b)))) H Q) : WN P gl e (.op d (.mm false x [y]) bf l) s H Q := by
  refine n_val (r := .int k (min a b)) rfl ?_ kk
  simp only [stepN, hx, hy, evs, mm2, mmL, Option.bind_eq_bind, Option.bind_some, Option.pure_def, Bool.false_eq_true, if_false, List.foldlM_cons, List.foldlM_nil]
  congr 3
  omega
theorem n_max {x y : RO} {k : IntKind} {a b : Int} (hx : x.ev gl s = some (.int k a)) (hy : y.ev gl s = some (.int k b)) (kk : WN P gl e l (s.put d (some (.int k (max a b)))) H Q) : WN P gl e (.op d (.mm true x [y]) bf l) s H Q := by
  refine n_val (r := .int k (max a b)) rfl ?_ kk
  simp only [stepN, hx, hy, evs, mm2, mmL, Option.bind_eq_bind, Option.bind_some, Option.pure_def, if_true, List.foldlM_cons, List.foldlM_nil]
  congr 3
  omega
theorem n_conv {x : RO} {k0 k : IntKind} {a b : Int} (hx : x.ev gl s = some (.int k0 a)) (hr : k.wrap a = b) (kk : WN P gl e l (s.put d (some (.int k b))) H Q) : WN P gl e (.op d (.conv k x) bf l) s H Q := by
  refine n_val rfl ?_ kk
  simp only [stepN, hx, Option.bind_eq_bind, Option.bind_some, hr]
theorem n_idx_u64 {x i : RO} {k : IntKind} {ws : List Nat} {c : Int} (hx : x.ev gl s = some (.sl (u64s ws))) (hi : i.ev gl s = some (.int k c)) (h : 0 ≤ c ∧ c < ws.length) (kk : WN P gl e l (s.put d (some (.fptr [.int .u64 (ws.getD c.toNat 0 : Nat)]))) H Q) : WN P gl e (.op d (.idxAddr 1 x i) bf l) s H Q := by
  have hl : c.toNat < ws.length := by omega
  refine n_idx_sl (y := .int .u64 (ws.getD c.toNat 0 : Nat)) hx hi h.1 ?_ rfl kk
  rw [u64s_get, List.getElem?_eq_getElem hl]
  simp [hl]
theorem n_idx_own {sz b g len : Nat} {x i : RO} {k : IntKind} {xs : List PV} {c : Int} (hx : x.ev gl s = some (.ref b g 0 len)) (hi : i.ev gl s = some (.int k c)) (hb : H.f b = some ⟨g, sz, xs⟩) (h0 : 0 ≤ c ∧ c < len) (kk : WN P gl e l (s.put d (some (.ptr b g c.toNat 0))) H Q) : WN P gl e (.op d (.idxAddr sz x i) bf l) s H Q :=
  n_idx_ref hx hi hb h0 (by rw [Nat.zero_add]; exact kk)
theorem n_load_u64 {x : RO} {b g i sz : Nat} {ws : List Nat} (hx : x.ev gl s = some (.ptr b g i 0)) (hb : H.f b = some ⟨g, sz, u64s ws⟩) (h : i < ws.length) (kk : WN P gl e l (s.put d (some (.int .u64 (ws.getD i 0 : Nat)))) H Q) : WN P gl e (.op d (.load none x) bf l) s H Q := by
  refine n_load_at (y := .int .u64 (ws.getD i 0 : Nat)) hx hb ?_ rfl kk
  rw [u64s_get, List.getElem?_eq_getElem h]
  simp [h]
theorem n_store_u64 {b g i sz : Nat} {x v : RO} {w : Nat} {ws : List Nat} (hx : x.ev gl s = some (.ptr b g i 0)) (hv : v.ev gl s = some (.int .u64 (w : Int))) (hb : H.f b = some ⟨g, sz, u64s ws⟩) (h : i < ws.length) (k : WN P gl e l (s.put d none) (H.set b ⟨g, sz, u64s (ws.set i w)⟩) Q) : WN P gl e (.op d (.store 1 x v) bf l) s H Q := by
  refine n_store (xs' := u64s (ws.set i w)) hx hv hb rfl ?_ k
  have : (u64s ws)[i]? = some (.int .u64 (ws[i] : Nat)) := by rw [u64s_get, List.getElem?_eq_getElem h]; rfl
  simp only [putAt, this, Option.bind_eq_bind, Option.bind_some]
  rw [if_pos ⟨trivial, rfl⟩, u64s_set]
theorem n_mk64 {x : RO} {c : Int} {n : Nat} (hx : x.ev gl s = some (.int .i64 c)) (hn : H.n = n) (hc : 0 ≤ c ∧ c ≤ 1048576) (k : WN P gl e l (s.put d (some (.ref n 0 0 c.toNat))) (H.add [⟨0, 1, u64s (List.replicate c.toNat 0)⟩]) Q) : WN P gl e (.op d (.mkslice 1 (.int .u64 0) x) bf l) s H Q := by
  refine n_mkslice hx rfl hc hn ?_
  rw [show List.replicate c.toNat (PV.int .u64 0) = u64s (List.replicate c.toNat 0) by simp [u64s]]
  exact k
theorem elems_sl (xs : List PV) : elems H (.sl xs) = some xs := rfl
theorem splice0 {xs c : List Nat} (h : c.length ≤ xs.length) : splice (u64s xs) 0 (u64s c) = u64s (c ++ xs.drop c.length) := by
  simp [splice, u64s, List.map_drop]
/-- A row's head, out of words that are no more. -/
theorem n_copy64 {b g len : Nat} {x v : RO} {ys ws : List Nat} (hx : x.ev gl s = some (.ref b g 0 len)) (hv : v.ev gl s = some (.sl (u64s ys))) (hb : H.f b = some ⟨g, 1, u64s ws⟩) (hl : len = ws.length) (hle : ys.length ≤ ws.length)
    (k : WN P gl e l (s.put d (some (.int .i64 (ys.length : Nat)))) (H.set b ⟨g, 1, u64s (ys ++ ws.drop ys.length)⟩) Q) : WN P gl e (.op d (.copy 1 x v) bf l) s H Q := by
  subst hl
  have e : min (u64s ys).length ws.length = ys.length := by rw [u64s_length]; omega
  refine n_copy hx hv hb (elems_sl _) ?_ (by rw [u64s_length]; omega) ?_
  · rw [e]
    rw [List.take_of_length_le (by rw [u64s_length]; omega)]
    exact u64s_cells _
  · rw [e, List.take_of_length_le (by rw [u64s_length]; omega), splice0 hle]
    exact k
end
/-! ### Sums -/
theorem b_add {a b : Int} (h : -9223372036854775808 ≤ a + b ∧ a + b ≤ 9223372036854775807) : binP .add (.int .i64 a) (.int .i64 b) = some (.int .i64 (a + b)) := by
  show some (PV.int .i64 (IntKind.i64.wrap (a + b))) = _
  rw [wrap_i64_of h]
theorem b_sub {a b : Int} (h : -9223372036854775808 ≤ a - b ∧ a - b ≤ 9223372036854775807) : binP .sub (.int .i64 a) (.int .i64 b) = some (.int .i64 (a - b)) := by
  show some (PV.int .i64 (IntKind.i64.wrap (a - b))) = _
  rw [wrap_i64_of h]
theorem b_mul {a b : Int} (h : -9223372036854775808 ≤ a * b ∧ a * b ≤ 9223372036854775807) : binP .mul (.int .i64 a) (.int .i64 b) = some (.int .i64 (a * b)) := by
  show some (PV.int .i64 (IntKind.i64.wrap (a * b))) = _
  rw [wrap_i64_of h]
theorem b_quo64 {a : Int} (h : 0 ≤ a ∧ a ≤ 9223372036854775807) : binP .quo (.int .i64 a) (.int .i64 64) = some (.int .i64 (a / 64)) := by
  show some (PV.int .i64 (IntKind.i64.wrap (a.tdiv 64))) = _
  rw [Int.tdiv_eq_ediv_of_nonneg h.1, wrap_i64_of (by omega)]
theorem b_rem64 {a : Int} (h : 0 ≤ a) : binP .rem (.int .i64 a) (.int .i64 64) = some (.int .i64 (a % 64)) := by
  show some (PV.int .i64 (a.tmod 64)) = _
  rw [Int.tmod_eq_emod_of_nonneg h]
theorem b_shl1 {i : Int} (h : 0 ≤ i ∧ i < 64) : binP .shl (.int .u64 1) (.int .u64 i) = some (.int .u64 ((2 ^ i.toNat : Nat) : Int)) := by
  obtain ⟨n, rfl⟩ := Int.eq_ofNat_of_zero_le h.1
  exact shl_one (by omega)
theorem b_shr {a : Nat} {i : Int} (h : 0 ≤ i ∧ i < 64) : binP .shr (.int .u64 (a : Int)) (.int .u64 i) = some (.int .u64 ((a / 2 ^ i.toNat : Nat) : Int)) := by
  obtain ⟨n, rfl⟩ := Int.eq_ofNat_of_zero_le h.1
  exact shr_nat (by omega)
theorem b_or64 {a b : Nat} (ha : a < 2 ^ 64) (hb : b < 2 ^ 64) : binP .or (.int .u64 (a : Int)) (.int .u64 (b : Int)) = some (.int .u64 ((a ||| b : Nat) : Int)) := congrArg (Option.map (PV.int .u64)) (bits_or ha hb)
theorem b_and64 {a b : Nat} (ha : a < 2 ^ 64) (hb : b < 2 ^ 64) : binP .and (.int .u64 (a : Int)) (.int .u64 (b : Int)) = some (.int .u64 ((a &&& b : Nat) : Int)) := congrArg (Option.map (PV.int .u64)) (bits_and ha hb)
theorem b_andNot64 {a b : Nat} (ha : a < 2 ^ 64) (hb : b < 2 ^ 64) : binP .andNot (.int .u64 (a : Int)) (.int .u64 (b : Int)) = some (.int .u64 ((minus a b : Nat) : Int)) := congrArg (Option.map (PV.int .u64)) (bits_andNot ha hb)
theorem b_add64 {a b : Nat} (h : a + b < 2 ^ 64) : binP .add (.int .u64 (a : Int)) (.int .u64 (b : Int)) = some (.int .u64 ((a + b : Nat) : Int)) := by
  show some (PV.int .u64 (IntKind.u64.wrap ((a : Int) + (b : Int)))) = _
  rw [← Int.natCast_add, wrap_u64_nat h]
theorem wrap_u64_of {a : Int} (h : 0 ≤ a ∧ a < 18446744073709551616) : IntKind.u64.wrap a = a := by
  obtain ⟨n, rfl⟩ := Int.eq_ofNat_of_zero_le h.1
  exact wrap_u64_nat (by omega)
theorem b_and127 {a : Nat} (h : a < 2 ^ 63) : binP .and (.int .i64 (a : Int)) (.int .i64 127) = some (.int .i64 ((a % 128 : Nat) : Int)) := by
  show Option.map (PV.int .i64) (bitsI .and .i64 (a : Int) 127) = _
  show some (PV.int .i64 (IntKind.i64.wrap ((BitVec.ofInt 64 (a : Int) &&& BitVec.ofInt 64 127).toNat : Int))) = _
  rw [BitVec.toNat_and, ofInt_toNat (by omega), show (BitVec.ofInt 64 127).toNat = 2 ^ 7 - 1 from rfl, Nat.and_two_pow_sub_one_eq_mod, wrap_i64_of (by omega)]
end Go.Vm
