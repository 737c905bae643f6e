/- Walks. -/
import Derived.Test.YtjegabeechopdaaCsignF
import Derived.Test.YtjegabeechopdaaWsignE
set_option maxRecDepth 100000
set_option linter.unusedSimpArgs false
set_option linter.unusedVariables false
namespace Go.Vm
open Go

section
variable {gl : Nat → Option PV}
set_option maxHeartbeats 4000000
theorem sn_join (a b : Int) : sn (sJoin a b) = sJoin a b := sn_r (sJoin_r a b)
theorem sMul_l (a b : Int) : sMul (sn a) b = sMul a b := by rw [sMul_sn, sn_sn, ← sMul_sn]
theorem sMul_rr (a b : Int) : sMul a (sn b) = sMul a b := by rw [sMul_sn, sn_sn, ← sMul_sn]
theorem sAdd_l (a b : Int) : sAdd (sn a) b = sAdd a b := by rw [sAdd_sn, sn_sn, ← sAdd_sn]
theorem sAdd_rr (a b : Int) : sAdd a (sn b) = sAdd a b := by rw [sAdd_sn, sn_sn, ← sAdd_sn]
theorem sLeq_l (a b : Int) : sLeq (sn a) b = sLeq a b := by rw [sLeq_sn, sn_sn, ← sLeq_sn]
theorem sLeq_rr (a b : Int) : sLeq a (sn b) = sLeq a b := by rw [sLeq_sn, sn_sn, ← sLeq_sn]
theorem sJoin_l (a b : Int) : sJoin (sn a) b = sJoin a b := by rw [sJoin_sn, sn_sn, ← sJoin_sn]
theorem sJoin_rr (a b : Int) : sJoin a (sn b) = sJoin a b := by rw [sJoin_sn, sn_sn, ← sJoin_sn]
theorem sJoin_0 (a : Int) : sJoin a 0 = sn a := by
  have := all1 (p := fun x => sJoin x 0 == x) (by decide +kernel) a
  rw [← sJoin_l]
  simpa using this
theorem l_SignRises (a b c : Int) (ha : i64r a) (hb : i64r b) (hc : i64r c) : Pure Go.Proofs.Try.prog gl 12 [.int .i64 a, .int .i64 b, .int .i64 c] (.bool true) := by
  refine Pure.fn hmix b12 ?_
  have ra := sJoin_r a b
  repeat' first
    | with_reducible refine tr_seq ?_
    | ((with_reducible refine tr_region_f ?_ ?_); kernel_rfl)
    | with_reducible refine n_nil ?_
    | exact ⟨rfl, rfl⟩
    | with_reducible refine seqQ_normal ?_
    | with_reducible refine seqQ_ret ?_
    | with_reducible refine blkQ_ret ?_
    | with_reducible refine tr_ret ?_
    | ((with_reducible apply n_and); rfl; rfl; intro h)
    | ((with_reducible apply n_or); rfl; rfl; intro h)
    | ((with_reducible apply n_val); rfl; rfl)
    | ((with_reducible apply n_call (f := 43)); rfl; rfl; exact p_law03_awake)
    | ((with_reducible apply n_call (f := 46)); rfl; rfl; exact p_sign_Join _ _ (by first | assumption | exact sJoin_i64 .. | exact sMul_i64 .. | exact sAdd_i64 .. | exact sOf_i64 .. | exact sFF_i64 .. | (unfold i64r; omega)) (by first | assumption | exact sJoin_i64 .. | exact sMul_i64 .. | exact sAdd_i64 .. | exact sOf_i64 .. | exact sFF_i64 .. | (unfold i64r; omega)))
    | ((with_reducible apply n_call (f := 44)); rfl; rfl; exact p_sign_Leq _ _ (by first | assumption | exact sJoin_i64 .. | exact sMul_i64 .. | exact sAdd_i64 .. | exact sOf_i64 .. | exact sFF_i64 .. | (unfold i64r; omega)) (by first | assumption | exact sJoin_i64 .. | exact sMul_i64 .. | exact sAdd_i64 .. | exact sOf_i64 .. | exact sFF_i64 .. | (unfold i64r; omega)))
    | ((with_reducible apply n_call (f := 53)); rfl; rfl; exact p_sign_Height _ (by first | assumption | exact sJoin_i64 .. | exact sMul_i64 .. | exact sAdd_i64 .. | exact sOf_i64 .. | exact sFF_i64 .. | (unfold i64r; omega)))
    | ((with_reducible apply n_call (f := 50)); rfl; rfl; exact p_sign_Neg _ (by first | assumption | exact sJoin_i64 .. | exact sMul_i64 .. | exact sAdd_i64 .. | exact sOf_i64 .. | exact sFF_i64 .. | (unfold i64r; omega)))
    | ((with_reducible apply n_call (f := 47)); rfl; rfl; exact p_sign_Add _ _ (by first | assumption | exact sJoin_i64 .. | exact sMul_i64 .. | exact sAdd_i64 .. | exact sOf_i64 .. | exact sFF_i64 .. | (unfold i64r; omega)) (by first | assumption | exact sJoin_i64 .. | exact sMul_i64 .. | exact sAdd_i64 .. | exact sOf_i64 .. | exact sFF_i64 .. | (unfold i64r; omega)))
    | ((with_reducible apply n_call (f := 49)); rfl; rfl; exact p_sign_Sub _ _ (by first | assumption | exact sJoin_i64 .. | exact sMul_i64 .. | exact sAdd_i64 .. | exact sOf_i64 .. | exact sFF_i64 .. | (unfold i64r; omega)) (by first | assumption | exact sJoin_i64 .. | exact sMul_i64 .. | exact sAdd_i64 .. | exact sOf_i64 .. | exact sFF_i64 .. | (unfold i64r; omega)))
    | ((with_reducible apply n_call (f := 48)); rfl; rfl; exact p_sign_Mul _ _ (by first | assumption | exact sJoin_i64 .. | exact sMul_i64 .. | exact sAdd_i64 .. | exact sOf_i64 .. | exact sFF_i64 .. | (unfold i64r; omega)) (by first | assumption | exact sJoin_i64 .. | exact sMul_i64 .. | exact sAdd_i64 .. | exact sOf_i64 .. | exact sFF_i64 .. | (unfold i64r; omega)))
    | ((with_reducible apply fnQ_ret_soft); rfl; rfl)
  refine congrArg PV.bool ?_
  have := all3 (p := fun a b c => sLeq a (sJoin a b) && sLeq b (sJoin a b) && sAdd (sJoin a b) c == sJoin (sAdd a c) (sAdd b c) && sMul (sJoin a b) c == sJoin (sMul a c) (sMul b c) && sAdd (sJoin a b) (sMul c 1) == sJoin (sAdd a (sMul c 1)) (sAdd b (sMul c 1)) && sMul (sJoin a b) 1 == sJoin (sMul a 1) (sMul b 1) && sAdd a c == sAdd c a && sMul a c == sMul c a && decide (((sList (sJoin a b)).length : Int) ≤ 3)) (by decide +kernel) a b c
  simp only [sMul_l, sMul_rr, sAdd_l, sAdd_rr, sLeq_l, sLeq_rr, sJoin_l, sJoin_rr] at this
  rw [Bool.true_and]
  exact this
theorem l_SignList (a : Int) (ha : i64r a) : Pure Go.Proofs.Try.prog gl 11 [.int .i64 a] (.bool true) := by
  have la := p_sign_List (gl := gl) a ha
  have hh := p_sign_Height (gl := gl) a ha
  rw [sList_sn] at la hh
  have e1 := sJoin_l a 0
  have e2 := sMul_l a 1
  have e3 := sAdd_rr 0 a
  have e4 := sMul_l a 0
  have e5 := sAdd_l a 2
  generalize hN : sn a = N at *
  have hc : N = 0 ∨ N = 1 ∨ N = 2 ∨ N = 3 ∨ N = 4 ∨ N = 5 ∨ N = 6 ∨ N = 7 := by rw [← hN]; exact sn_cases a
  refine Pure.fn hmix b11 ?_
  rcases hc with rfl | rfl | rfl | rfl | rfl | rfl | rfl | rfl
  all_goals
    repeat' first
      | with_reducible refine tr_seq ?_
      | ((with_reducible refine tr_region_f ?_ ?_); kernel_rfl)
      | ((with_reducible refine tr_region_t ?_ ?_ ?_); kernel_rfl; kernel_rfl)
      | with_reducible refine n_nil ?_
      | exact ⟨rfl, rfl⟩
      | with_reducible refine seqQ_normal ?_
      | with_reducible refine seqQ_exit ?_
      | with_reducible refine seqQ_ret ?_
      | with_reducible refine blkQ_normal ?_
      | with_reducible refine blkQ_exit ?_
      | with_reducible refine blkQ_ret ?_
      | ((with_reducible refine blkQ_exit_ne ?_ ?_); rfl)
      | with_reducible refine tr_block ?_
      | with_reducible refine tr_skip ?_
      | with_reducible refine tr_exit ?_
      | with_reducible refine tr_ret ?_
      | ((with_reducible apply tr_cond_e); rfl)
      | with_reducible refine condT_t ?_
      | with_reducible refine condT_f ?_
      | ((with_reducible refine condT_T ?_ ?_); decide +kernel)
      | ((with_reducible refine condT_F ?_ ?_); decide +kernel)
      | ((with_reducible apply n_andF); rfl; rfl; decide +kernel)
      | ((with_reducible apply n_orT); rfl; rfl; decide +kernel)
      | ((with_reducible apply n_and); rfl; rfl; intro h)
      | ((with_reducible apply n_or); rfl; rfl; intro h)
      | with_reducible refine loopV_exit ?_
      | with_reducible refine loopV_ret ?_
      | with_reducible refine unrQ_normal ?_
      | with_reducible refine unrQ_exit ?_
      | with_reducible refine unrQ_ret ?_
      | refine tr_unroll 4 ?_
      | refine n_call rfl rfl la ?_
      | refine n_call rfl rfl hh ?_
      | ((with_reducible apply n_val); rfl; rfl)
      | ((with_reducible apply n_call (f := 43)); rfl; rfl; exact p_law03_awake)
      | ((with_reducible apply n_call (f := 46)); rfl; rfl; exact p_sign_Join _ _ (by first | assumption | exact sJoin_i64 .. | exact sMul_i64 .. | exact sAdd_i64 .. | exact sOf_i64 .. | exact sFF_i64 .. | (unfold i64r; omega)) (by first | assumption | exact sJoin_i64 .. | exact sMul_i64 .. | exact sAdd_i64 .. | exact sOf_i64 .. | exact sFF_i64 .. | (unfold i64r; omega)))
      | ((with_reducible apply n_call (f := 45)); rfl; rfl; exact p_sign_Of ..)
      | ((with_reducible apply n_call (f := 44)); rfl; rfl; exact p_sign_Leq _ _ (by first | assumption | exact sJoin_i64 .. | exact sMul_i64 .. | exact sAdd_i64 .. | exact sOf_i64 .. | exact sFF_i64 .. | (unfold i64r; omega)) (by first | assumption | exact sJoin_i64 .. | exact sMul_i64 .. | exact sAdd_i64 .. | exact sOf_i64 .. | exact sFF_i64 .. | (unfold i64r; omega)))
      | ((with_reducible apply n_call (f := 50)); rfl; rfl; exact p_sign_Neg _ (by first | assumption | exact sJoin_i64 .. | exact sMul_i64 .. | exact sAdd_i64 .. | exact sOf_i64 .. | exact sFF_i64 .. | (unfold i64r; omega)))
      | ((with_reducible apply n_call (f := 47)); rfl; rfl; exact p_sign_Add _ _ (by first | assumption | exact sJoin_i64 .. | exact sMul_i64 .. | exact sAdd_i64 .. | exact sOf_i64 .. | exact sFF_i64 .. | (unfold i64r; omega)) (by first | assumption | exact sJoin_i64 .. | exact sMul_i64 .. | exact sAdd_i64 .. | exact sOf_i64 .. | exact sFF_i64 .. | (unfold i64r; omega)))
      | ((with_reducible apply n_call (f := 49)); rfl; rfl; exact p_sign_Sub _ _ (by first | assumption | exact sJoin_i64 .. | exact sMul_i64 .. | exact sAdd_i64 .. | exact sOf_i64 .. | exact sFF_i64 .. | (unfold i64r; omega)) (by first | assumption | exact sJoin_i64 .. | exact sMul_i64 .. | exact sAdd_i64 .. | exact sOf_i64 .. | exact sFF_i64 .. | (unfold i64r; omega)))
      | ((with_reducible apply n_call (f := 48)); rfl; rfl; exact p_sign_Mul _ _ (by first | assumption | exact sJoin_i64 .. | exact sMul_i64 .. | exact sAdd_i64 .. | exact sOf_i64 .. | exact sFF_i64 .. | (unfold i64r; omega)) (by first | assumption | exact sJoin_i64 .. | exact sMul_i64 .. | exact sAdd_i64 .. | exact sOf_i64 .. | exact sFF_i64 .. | (unfold i64r; omega)))
      | (with_reducible refine condT_split (fun h => ?_) (fun h => ?_))
      | ((with_reducible apply fnQ_ret_soft); rfl; rfl)
  all_goals (refine congrArg PV.bool ?_; rw [← e1, ← e2, ← e3, ← e4, ← e5]; decide +kernel)
theorem sOf_cases (c : Int) : (c < 0 ∧ sOf c = 1) ∨ (c = 0 ∧ sOf c = 2) ∨ (0 < c ∧ sOf c = 4) := by
  unfold sOf
  by_cases h : c < 0
  · simp [h]
  · by_cases h2 : 0 < c
    · simp [h, h2]
    · simp [h, h2]; omega
theorem tells_add (x y : Int) : sLeq (sOf (x + y)) (sAdd (sOf x) (sOf y)) = true := by
  rcases sOf_cases x with ⟨h1, e1⟩ | ⟨h1, e1⟩ | ⟨h1, e1⟩ <;> rcases sOf_cases y with ⟨h2, e2⟩ | ⟨h2, e2⟩ | ⟨h2, e2⟩ <;> rcases sOf_cases (x + y) with ⟨h3, e3⟩ | ⟨h3, e3⟩ | ⟨h3, e3⟩ <;> first | (exfalso; omega) | (rw [e1, e2, e3]; decide +kernel)
theorem tells_neg (x : Int) : sOf (-x) = sMul (sOf x) 1 := by
  rcases sOf_cases x with ⟨h1, e1⟩ | ⟨h1, e1⟩ | ⟨h1, e1⟩ <;> rcases sOf_cases (-x) with ⟨h3, e3⟩ | ⟨h3, e3⟩ | ⟨h3, e3⟩ <;> first | (exfalso; omega) | (rw [e1, e3]; decide +kernel)
theorem tells_sub (x y : Int) : sLeq (sOf (x - y)) (sAdd (sOf x) (sMul (sOf y) 1)) = true := by
  rw [← tells_neg, Int.sub_eq_add_neg]
  exact tells_add _ _
theorem tells_mul (x y : Int) : sLeq (sOf (x * y)) (sMul (sOf x) (sOf y)) = true := by
  rcases sOf_cases x with ⟨h1, e1⟩ | ⟨h1, e1⟩ | ⟨h1, e1⟩ <;> rcases sOf_cases y with ⟨h2, e2⟩ | ⟨h2, e2⟩ | ⟨h2, e2⟩
  · have := Int.mul_pos_of_neg_of_neg h1 h2
    rw [e1, e2, show sOf (x * y) = 4 by rcases sOf_cases (x * y) with h | h | h <;> omega]; decide +kernel
  · rw [h2, Int.mul_zero]; rw [e1]; decide +kernel
  · have := Int.mul_neg_of_neg_of_pos h1 h2
    rw [e1, e2, show sOf (x * y) = 1 by rcases sOf_cases (x * y) with h | h | h <;> omega]; decide +kernel
  · rw [h1, Int.zero_mul, e2]; decide +kernel
  · rw [h1, Int.zero_mul, e2]; decide +kernel
  · rw [h1, Int.zero_mul, e2]; decide +kernel
  · have := Int.mul_neg_of_pos_of_neg h1 h2
    rw [e1, e2, show sOf (x * y) = 1 by rcases sOf_cases (x * y) with h | h | h <;> omega]; decide +kernel
  · rw [h2, Int.mul_zero, e1]; decide +kernel
  · have := Int.mul_pos h1 h2
    rw [e1, e2, show sOf (x * y) = 4 by rcases sOf_cases (x * y) with h | h | h <;> omega]; decide +kernel
def sFV : V3 → Int
  | .bot => 0 | .one c => sOf c.toInt | .top => 7
theorem sFF_kc (v : V3) : sFF v.k v.c = sFV v := by
  unfold sFF
  rw [vSane_kc]
  cases v <;> simp [V3.k, V3.c, sFV]
theorem sFF_toV (k c : Int) : sFF k c = sFV (toV k c) := by
  cases h : vSane k c with
  | true =>
    obtain ⟨h1, h2⟩ := toV_sane h
    rw [← sFF_kc, h1, h2]
  | false => rw [toV_unsane h]; simp [sFF, h, sFV]
theorem tmod_bounds (a m : Int) (h : 0 < m) : -m < a.tmod m ∧ a.tmod m < m := by
  constructor
  · exact Int.lt_tmod_of_pos a h
  · exact Int.tmod_lt_of_pos a h
theorem l_SignTells (a b : Int) (ha : i64r a) (hb : i64r b) : Pure Go.Proofs.Try.prog gl 10 [.int .i64 a, .int .i64 b] (.bool true) := by
  refine Pure.fn hmix b10 ?_
  repeat' first
    | with_reducible refine tr_seq ?_
    | ((with_reducible refine tr_region_f ?_ ?_); kernel_rfl)
    | with_reducible refine n_nil ?_
    | exact ⟨rfl, rfl⟩
    | with_reducible refine seqQ_normal ?_
    | with_reducible refine seqQ_ret ?_
    | with_reducible refine blkQ_ret ?_
    | with_reducible refine tr_ret ?_
    | ((with_reducible apply n_and); rfl; rfl; intro h)
    | ((with_reducible apply n_or); rfl; rfl; intro h)
    | ((with_reducible apply n_val); rfl; rfl)
    | ((with_reducible apply n_call (f := 43)); rfl; rfl; exact p_law03_awake)
    | ((with_reducible apply n_call (f := 26)); rfl; rfl; exact p_flat_Of ..)
    | ((with_reducible apply n_call (f := 45)); rfl; rfl; exact p_sign_Of ..)
    | ((with_reducible apply n_call (f := 44)); rfl; rfl; exact p_sign_Leq _ _ (by first | assumption | exact sJoin_i64 .. | exact sMul_i64 .. | exact sAdd_i64 .. | exact sOf_i64 .. | exact sFF_i64 .. | (unfold i64r; omega)) (by first | assumption | exact sJoin_i64 .. | exact sMul_i64 .. | exact sAdd_i64 .. | exact sOf_i64 .. | exact sFF_i64 .. | (unfold i64r; omega)))
    | ((with_reducible apply n_call (f := 51)); rfl; rfl; exact p_sign_FromFlat ..)
    | ((with_reducible apply n_call (f := 50)); rfl; rfl; exact p_sign_Neg _ (by first | assumption | exact sJoin_i64 .. | exact sMul_i64 .. | exact sAdd_i64 .. | exact sOf_i64 .. | exact sFF_i64 .. | (unfold i64r; omega)))
    | ((with_reducible apply n_call (f := 47)); rfl; rfl; exact p_sign_Add _ _ (by first | assumption | exact sJoin_i64 .. | exact sMul_i64 .. | exact sAdd_i64 .. | exact sOf_i64 .. | exact sFF_i64 .. | (unfold i64r; omega)) (by first | assumption | exact sJoin_i64 .. | exact sMul_i64 .. | exact sAdd_i64 .. | exact sOf_i64 .. | exact sFF_i64 .. | (unfold i64r; omega)))
    | ((with_reducible apply n_call (f := 49)); rfl; rfl; exact p_sign_Sub _ _ (by first | assumption | exact sJoin_i64 .. | exact sMul_i64 .. | exact sAdd_i64 .. | exact sOf_i64 .. | exact sFF_i64 .. | (unfold i64r; omega)) (by first | assumption | exact sJoin_i64 .. | exact sMul_i64 .. | exact sAdd_i64 .. | exact sOf_i64 .. | exact sFF_i64 .. | (unfold i64r; omega)))
    | ((with_reducible apply n_call (f := 48)); rfl; rfl; exact p_sign_Mul _ _ (by first | assumption | exact sJoin_i64 .. | exact sMul_i64 .. | exact sAdd_i64 .. | exact sOf_i64 .. | exact sFF_i64 .. | (unfold i64r; omega)) (by first | assumption | exact sJoin_i64 .. | exact sMul_i64 .. | exact sAdd_i64 .. | exact sOf_i64 .. | exact sFF_i64 .. | (unfold i64r; omega)))
    | ((with_reducible apply fnQ_ret_soft); rfl; rfl)
  have b1 := tmod_bounds a 1000000007 (by omega)
  have b2 := tmod_bounds b 3 (by omega)
  have b3 := tmod_bounds b 1000000007 (by omega)
  generalize a.tmod 1000000007 = u at *
  generalize b.tmod 3 = v at *
  generalize b.tmod 1000000007 = y at *
  rw [wrap_i64_of (n := u - v) (by omega)]
  have b4 : -1000000010 < u - v ∧ u - v < 1000000010 := by omega
  generalize u - v = x at *
  have hp : -1000000020000000100 ≤ x * y ∧ x * y ≤ 1000000020000000100 := by
    have h1 : x.natAbs * y.natAbs ≤ 1000000010 * 1000000010 := Nat.mul_le_mul (by omega) (by omega)
    rw [← Int.natAbs_mul] at h1
    omega
  rw [wrap_i64_of (n := x + y) (by omega), wrap_i64_of (n := x - y) (by omega), wrap_i64_of (n := 0 - x) (by omega), wrap_i64_of (n := x * y) (by omega)]
  have hx : (BitVec.ofInt 32 x).toInt = x := by rw [toInt_ofInt32]; omega
  rw [sFF_kc, tells_add, tells_sub, tells_mul, Int.zero_sub, tells_neg]
  simp [sFV, hx]
theorem l_SignFlat (k c k' c' : Int) : Pure Go.Proofs.Try.prog gl 13 [.agg [.int .i64 k, .int .i64 c], .agg [.int .i64 k', .int .i64 c']] (.bool true) := by
  refine Pure.fn hmix b13 ?_
  repeat' first
    | with_reducible refine tr_seq ?_
    | ((with_reducible refine tr_region_f ?_ ?_); kernel_rfl)
    | ((with_reducible refine tr_region_t ?_ ?_ ?_); kernel_rfl; kernel_rfl)
    | with_reducible refine n_nil ?_
    | exact ⟨rfl, rfl⟩
    | with_reducible refine seqQ_normal ?_
    | with_reducible refine seqQ_ret ?_
    | with_reducible refine blkQ_ret ?_
    | with_reducible refine tr_skip ?_
    | with_reducible refine tr_ret ?_
    | ((with_reducible apply tr_cond_e); rfl)
    | with_reducible refine condT_t ?_
    | with_reducible refine condT_f ?_
    | ((with_reducible apply n_and); rfl; rfl; intro h)
    | ((with_reducible apply n_or); rfl; rfl; intro h)
    | ((with_reducible apply n_val); rfl; rfl)
    | ((with_reducible apply n_new); rfl; (first | (simp only [hn0, hn1, hn2, hn3, hn4, List.length_cons, List.length_nil, Nat.reduceAdd, Nat.zero_add]; done) | (simp only [hn0, hn1, hn2, hn3, hn4, List.length_cons, List.length_nil, Nat.reduceAdd, Nat.zero_add]; rfl) | rfl); rfl)
    | ((with_reducible apply n_store); rfl; rfl; rfl; rfl; rfl)
    | ((with_reducible apply n_call (f := 43)); rfl; rfl; exact p_law03_awake)
    | ((with_reducible apply n_call (f := 23)); rfl; rfl; exact p_flat_Leq ..)
    | ((with_reducible apply n_call (f := 22)); rfl; rfl; exact p_flat_Join ..)
    | ((with_reducible apply n_call (f := 27)); rfl; rfl; exact p_flat_Add ..)
    | ((with_reducible apply n_call (f := 28)); rfl; rfl; exact p_flat_Sub ..)
    | ((with_reducible apply n_call (f := 46)); rfl; rfl; exact p_sign_Join _ _ (by first | assumption | exact sJoin_i64 .. | exact sMul_i64 .. | exact sAdd_i64 .. | exact sOf_i64 .. | exact sFF_i64 .. | (unfold i64r; omega)) (by first | assumption | exact sJoin_i64 .. | exact sMul_i64 .. | exact sAdd_i64 .. | exact sOf_i64 .. | exact sFF_i64 .. | (unfold i64r; omega)))
    | ((with_reducible apply n_call (f := 44)); rfl; rfl; exact p_sign_Leq _ _ (by first | assumption | exact sJoin_i64 .. | exact sMul_i64 .. | exact sAdd_i64 .. | exact sOf_i64 .. | exact sFF_i64 .. | (unfold i64r; omega)) (by first | assumption | exact sJoin_i64 .. | exact sMul_i64 .. | exact sAdd_i64 .. | exact sOf_i64 .. | exact sFF_i64 .. | (unfold i64r; omega)))
    | ((with_reducible apply n_call (f := 51)); rfl; rfl; exact p_sign_FromFlat ..)
    | ((with_reducible apply n_call (f := 47)); rfl; rfl; exact p_sign_Add _ _ (by first | assumption | exact sJoin_i64 .. | exact sMul_i64 .. | exact sAdd_i64 .. | exact sOf_i64 .. | exact sFF_i64 .. | (unfold i64r; omega)) (by first | assumption | exact sJoin_i64 .. | exact sMul_i64 .. | exact sAdd_i64 .. | exact sOf_i64 .. | exact sFF_i64 .. | (unfold i64r; omega)))
    | ((with_reducible apply n_call (f := 49)); rfl; rfl; exact p_sign_Sub _ _ (by first | assumption | exact sJoin_i64 .. | exact sMul_i64 .. | exact sAdd_i64 .. | exact sOf_i64 .. | exact sFF_i64 .. | (unfold i64r; omega)) (by first | assumption | exact sJoin_i64 .. | exact sMul_i64 .. | exact sAdd_i64 .. | exact sOf_i64 .. | exact sFF_i64 .. | (unfold i64r; omega)))
    | (with_reducible refine condT_split (fun h => ?_) (fun h => ?_))
    | ((with_reducible apply fnQ_ret_soft); rfl; rfl)
  · exfalso
    rw [sFF_kc, sFF_toV, sFF_toV k' c'] at h
    generalize toV k c = A at *
    generalize toV k' c' = B at *
    have key : ((A.leq B && !sLeq (sFV A) (sFV B)) || !sLeq (sJoin (sFV A) (sFV B)) (sFV (A.join B))) = false := by
      rcases A with _ | x | _ <;> rcases B with _ | y | _ <;> simp only [V3.leq, V3.join, sFV]
      · decide +kernel
      · rcases sOf_cases y.toInt with ⟨_, e⟩ | ⟨_, e⟩ | ⟨_, e⟩ <;> rw [e] <;> simp <;> decide +kernel
      · decide +kernel
      · rcases sOf_cases x.toInt with ⟨_, e⟩ | ⟨_, e⟩ | ⟨_, e⟩ <;> rw [e] <;> simp <;> decide +kernel
      · by_cases hxy : x = y
        · subst hxy
          try simp only [eq_self, if_true]
          rcases sOf_cases x.toInt with ⟨_, e⟩ | ⟨_, e⟩ | ⟨_, e⟩ <;> rw [e] <;> simp <;> decide +kernel
        · have hne : ¬ V3.one x = V3.one y := by simp [hxy]
          simp only [hne, if_false, sFV]
          rcases sOf_cases x.toInt with ⟨_, e⟩ | ⟨_, e⟩ | ⟨_, e⟩ <;> rcases sOf_cases y.toInt with ⟨_, e'⟩ | ⟨_, e'⟩ | ⟨_, e'⟩ <;> rw [e, e'] <;> simp <;> decide +kernel
      · rcases sOf_cases x.toInt with ⟨_, e⟩ | ⟨_, e⟩ | ⟨_, e⟩ <;> rw [e] <;> simp <;> decide +kernel
      · decide +kernel
      · rcases sOf_cases y.toInt with ⟨_, e⟩ | ⟨_, e⟩ | ⟨_, e⟩ <;> rw [e] <;> simp <;> decide +kernel
      · decide +kernel
    rw [key] at h
    cases h
  · refine congrArg PV.bool ?_
    rw [sFF_kc, sFF_kc, sFF_toV, sFF_toV k' c', Bool.true_and]
    cases hs : (decide (c > -1048576) && decide (c < 1048576) && decide (c' > -1048576) && decide (c' < 1048576)) with
    | false => rfl
    | true =>
      simp only [Bool.and_eq_true, decide_eq_true_eq] at hs
      have small : ∀ k c : Int, c > -1048576 → c < 1048576 → ∀ x, toV k c = .one x → -1048576 < x.toInt ∧ x.toInt < 1048576 := by
        intro k c h1 h2 x hx
        cases hv : vSane k c with
        | true =>
          obtain ⟨_, h4⟩ := toV_sane hv
          rw [hx] at h4
          simp only [V3.c] at h4
          omega
        | false => rw [toV_unsane hv] at hx; cases hx
      have sa := small k c hs.1.1.1 hs.1.1.2
      have sb := small k' c' hs.1.2 hs.2
      generalize toV k c = A at *
      generalize toV k' c' = B at *
      simp only [Bool.not_true, Bool.false_or]
      rcases A with _ | x | _ <;> rcases B with _ | y | _ <;> simp only [V3.add, V3.sub, V3.each, sFV]
      · decide +kernel
      · rcases sOf_cases y.toInt with ⟨_, e⟩ | ⟨_, e⟩ | ⟨_, e⟩ <;> rw [e] <;> decide +kernel
      · decide +kernel
      · rcases sOf_cases x.toInt with ⟨_, e⟩ | ⟨_, e⟩ | ⟨_, e⟩ <;> rw [e] <;> decide +kernel
      · have h1 := sa x rfl
        have h2 := sb y rfl
        have e1 : (x + y).toInt = x.toInt + y.toInt := by
          have := toInt_ofInt32 (x.toInt + y.toInt)
          rw [BitVec.ofInt_add, BitVec.ofInt_toInt, BitVec.ofInt_toInt] at this
          omega
        have e2 : (x - y).toInt = x.toInt - y.toInt := by
          have := toInt_ofInt32 (x.toInt - y.toInt)
          rw [Int.sub_eq_add_neg, BitVec.ofInt_add, BitVec.ofInt_neg, BitVec.ofInt_toInt, BitVec.ofInt_toInt, ← BitVec.sub_eq_add_neg] at this
          omega
        rw [e1, e2, tells_add, tells_sub]
        rfl
      · rcases sOf_cases x.toInt with ⟨_, e⟩ | ⟨_, e⟩ | ⟨_, e⟩ <;> rw [e] <;> decide +kernel
      · decide +kernel
      · rcases sOf_cases y.toInt with ⟨_, e⟩ | ⟨_, e⟩ | ⟨_, e⟩ <;> rw [e] <;> decide +kernel
      · decide +kernel
end

end Go.Vm
