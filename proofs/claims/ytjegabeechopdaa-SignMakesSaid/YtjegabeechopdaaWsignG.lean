/- Walks. -/
import Derived.Test.YtjegabeechopdaaCsignG
import Derived.Test.YtjegabeechopdaaWsignE
set_option maxRecDepth 100000
set_option linter.unusedSimpArgs false
set_option linter.unusedVariables false
namespace Go.Vm
open Go

section
variable {gl : Nat → Option PV}
set_option maxHeartbeats 4000000
def X5 : List Int := [-2, -1, 0, 1, 2]
def mkI (f : Int → Int → Int) (a b x : Int) (L : List Int) (o : Int) : Int := L.foldl (fun o y => if sLeq (sOf x) a && sLeq (sOf y) b then sJoin o (sOf (f x y)) else o) o
def mkO (f : Int → Int → Int) (a b : Int) (L : List Int) : Int := L.foldl (fun o x => mkI f a b x X5 o) 0
theorem X5_snoc {i : Int} (h0 : -2 ≤ i) (h : i ≤ 2) : X5.take (i + 1 + 2).toNat = X5.take (i + 2).toNat ++ [i] := by
  have : i = -2 ∨ i = -1 ∨ i = 0 ∨ i = 1 ∨ i = 2 := by omega
  rcases this with rfl | rfl | rfl | rfl | rfl <;> rfl
theorem small_mul {x y : Int} (h1 : -2 ≤ x) (h2 : x ≤ 2) (h3 : -2 ≤ y) (h4 : y ≤ 2) : IntKind.i64.wrap (x * y) = x * y := by
  have : x = -2 ∨ x = -1 ∨ x = 0 ∨ x = 1 ∨ x = 2 := by omega
  rw [IntKind.wrap_i64]
  rcases this with rfl | rfl | rfl | rfl | rfl <;> omega
theorem mkI_t {f : Int → Int → Int} {a b x y : Int} {L : List Int} {o : Int} (h : (sLeq (sOf x) a && sLeq (sOf y) b) = true) : mkI f a b x (L ++ [y]) o = sJoin (mkI f a b x L o) (sOf (f x y)) := by
  simp only [mkI, List.foldl_append, List.foldl_cons, List.foldl_nil, h, if_true]
theorem mkI_f {f : Int → Int → Int} {a b x y : Int} {L : List Int} {o : Int} (h : (sLeq (sOf x) a && sLeq (sOf y) b) = false) : mkI f a b x (L ++ [y]) o = mkI f a b x L o := by
  simp only [mkI, List.foldl_append, List.foldl_cons, List.foldl_nil, h, Bool.false_eq_true, if_false]
theorem mkO_s {f : Int → Int → Int} {a b x : Int} {L : List Int} : mkO f a b (L ++ [x]) = mkI f a b x X5 (mkO f a b L) := by
  simp only [mkO, List.foldl_append, List.foldl_cons, List.foldl_nil]
theorem mkO_sn (f : Int → Int → Int) (a b : Int) (L : List Int) : mkO f (sn a) (sn b) L = mkO f a b L := by
  have h1 : ∀ x b, sLeq x (sn b) = sLeq x b := fun x b => by rw [sLeq_sn, sn_sn, ← sLeq_sn]
  simp only [mkO, mkI, h1]
theorem X5_all {i : Int} (h : i = 3) : X5.take (i + 2).toNat = X5 := by subst h; rfl
theorem l_SignMakes (a b : Int) (ha : i64r a) (hb : i64r b) : Pure Go.Proofs.Try.prog gl 9 [.int .i64 a, .int .i64 b] (.bool true) := by
  refine Pure.fn hmix b9 ?_
  repeat' first
    | with_reducible refine tr_seq ?_
    | ((with_reducible refine tr_region_f ?_ ?_); kernel_rfl)
    | with_reducible refine n_nil ?_
    | exact ⟨rfl, rfl⟩
    | with_reducible refine seqQ_normal ?_
    | with_reducible refine seqQ_exit ?_
    | with_reducible refine seqQ_ret ?_
    | with_reducible refine blkQ_normal ?_
    | with_reducible refine blkQ_exit ?_
    | with_reducible refine blkQ_ret ?_
    | ((with_reducible refine blkQ_exit_ne ?_ ?_); rfl)
    | with_reducible refine tr_block ?_
    | with_reducible refine tr_skip ?_
    | with_reducible refine tr_exit ?_
    | with_reducible refine tr_ret ?_
    | ((with_reducible apply tr_cond_e); rfl)
    | with_reducible refine condT_t ?_
    | with_reducible refine condT_f ?_
    | ((with_reducible apply n_and); rfl; rfl; intro h)
    | ((with_reducible apply n_or); rfl; rfl; intro h)
    | with_reducible refine loopV_exit ?_
    | with_reducible refine loopV_ret ?_
    | (refine tr_loop_v (α := Int × Int × Int × Int) 0 (fun | (x, s, p, d) => [(9, some (.int .i64 x)), (6, some (.int .i64 s)), (7, some (.int .i64 p)), (8, some (.int .i64 d)), (12, none), (13, none), (10, none), (16, none), (17, none), (20, none), (21, none), (22, none), (23, none), (24, none), (25, none), (26, none), (27, none), (28, none), (29, none), (30, none), (31, none), (32, none), (33, none), (34, none), (35, none), (36, none), (37, none), (38, none), (39, none), (40, none), (41, none), (42, none), (43, none), (44, none), (45, none), (46, none), (47, none), (18, none), (19, none), (14, none), (15, none)]) (fun | (x, s, p, d) => []) (fun | (x, s, p, d) => -2 ≤ x ∧ x ≤ 3 ∧ s = mkO (· + ·) a b (X5.take (x + 2).toNat) ∧ p = mkO (· * ·) a b (X5.take (x + 2).toNat) ∧ d = mkO (· - ·) a b (X5.take (x + 2).toNat) ∧ (0 ≤ s ∧ s ≤ 7) ∧ (0 ≤ p ∧ p ≤ 7) ∧ 0 ≤ d ∧ d ≤ 7) (fun | (x, s, p, d) => (3 - x).toNat) (-2, 0, 0, 0) (ks := [9, 6, 7, 8, 12, 13, 10, 16, 17, 20, 21, 22, 23, 24, 25, 26, 27, 28, 29, 30, 31, 32, 33, 34, 35, 36, 37, 38, 39, 40, 41, 42, 43, 44, 45, 46, 47, 18, 19, 14, 15]) (fun _ => rfl) (fun _ => rfl) rfl (by omega) ?_ ⟨⟨_, rfl, rfl⟩, ⟨_, rfl, rfl⟩, ⟨_, rfl, rfl⟩, ⟨_, rfl, rfl⟩, trivial⟩ trivial ?_; rotate_left; rintro ⟨x, s, p, d⟩ hx; try dsimp only at hx)
    | (refine loopV_normal (_, _, _, _) ?_ ⟨⟨_, rfl, rfl⟩, ⟨_, rfl, rfl⟩, ⟨_, rfl, rfl⟩, ⟨_, rfl, rfl⟩, trivial⟩ trivial ?_ ?_; repeat (first | exact only_refl | refine only_put rfl ?_ | refine only_less rfl ?_ | refine only_ov rfl ?_))
    | (refine tr_loop_v (α := Int × Int × Int × Int) 0 (fun | (y, s1, p1, d1) => [(10, some (.int .i64 y)), (6, some (.int .i64 s1)), (7, some (.int .i64 p1)), (8, some (.int .i64 d1)), (16, none), (17, none), (20, none), (21, none), (22, none), (23, none), (24, none), (25, none), (26, none), (27, none), (28, none), (29, none), (30, none), (31, none), (32, none), (33, none), (34, none), (35, none), (36, none), (37, none), (38, none), (39, none), (40, none), (41, none), (42, none), (43, none), (44, none), (45, none), (46, none), (47, none), (18, none), (19, none)]) (fun | (y, s1, p1, d1) => []) (fun | (y, s1, p1, d1) => -2 ≤ y ∧ y ≤ 3 ∧ s1 = mkI (· + ·) a b x (X5.take (y + 2).toNat) s ∧ p1 = mkI (· * ·) a b x (X5.take (y + 2).toNat) p ∧ d1 = mkI (· - ·) a b x (X5.take (y + 2).toNat) d ∧ (0 ≤ s1 ∧ s1 ≤ 7) ∧ (0 ≤ p1 ∧ p1 ≤ 7) ∧ 0 ≤ d1 ∧ d1 ≤ 7) (fun | (y, s1, p1, d1) => (3 - y).toNat) (-2, s, p, d) (ks := [10, 6, 7, 8, 16, 17, 20, 21, 22, 23, 24, 25, 26, 27, 28, 29, 30, 31, 32, 33, 34, 35, 36, 37, 38, 39, 40, 41, 42, 43, 44, 45, 46, 47, 18, 19]) (fun _ => rfl) (fun _ => rfl) rfl (by omega) ?_ ⟨⟨_, rfl, rfl⟩, ⟨_, rfl, rfl⟩, ⟨_, rfl, rfl⟩, ⟨_, rfl, rfl⟩, trivial⟩ trivial ?_; rotate_left; rintro ⟨y, s1, p1, d1⟩ hx; try dsimp only at hx)
    | (refine loopV_normal (_, _, _, _) ?_ ⟨⟨_, rfl, rfl⟩, ⟨_, rfl, rfl⟩, ⟨_, rfl, rfl⟩, ⟨_, rfl, rfl⟩, trivial⟩ trivial ?_ ?_; repeat (first | exact only_refl | refine only_put rfl ?_ | refine only_less rfl ?_ | refine only_ov rfl ?_))
    | ((with_reducible apply n_val); rfl; rfl)
    | ((with_reducible apply n_call (f := 43)); rfl; rfl; exact p_law03_awake)
    | ((with_reducible apply n_call (f := 45)); rfl; rfl; exact p_sign_Of ..)
    | ((with_reducible apply n_call (f := 44)); rfl; rfl; exact p_sign_Leq _ _ (by first | assumption | exact sJoin_i64 .. | exact sMul_i64 .. | exact sAdd_i64 .. | exact sOf_i64 .. | exact sFF_i64 .. | (unfold i64r; omega)) (by first | assumption | exact sJoin_i64 .. | exact sMul_i64 .. | exact sAdd_i64 .. | exact sOf_i64 .. | exact sFF_i64 .. | (unfold i64r; omega)))
    | ((with_reducible apply n_call (f := 46)); rfl; rfl; exact p_sign_Join _ _ (by first | assumption | exact sJoin_i64 .. | exact sMul_i64 .. | exact sAdd_i64 .. | exact sOf_i64 .. | exact sFF_i64 .. | (unfold i64r; omega)) (by first | assumption | exact sJoin_i64 .. | exact sMul_i64 .. | exact sAdd_i64 .. | exact sOf_i64 .. | exact sFF_i64 .. | (unfold i64r; omega)))
    | ((with_reducible apply n_call (f := 47)); rfl; rfl; exact p_sign_Add _ _ (by first | assumption | exact sJoin_i64 .. | exact sMul_i64 .. | exact sAdd_i64 .. | exact sOf_i64 .. | exact sFF_i64 .. | (unfold i64r; omega)) (by first | assumption | exact sJoin_i64 .. | exact sMul_i64 .. | exact sAdd_i64 .. | exact sOf_i64 .. | exact sFF_i64 .. | (unfold i64r; omega)))
    | ((with_reducible apply n_call (f := 49)); rfl; rfl; exact p_sign_Sub _ _ (by first | assumption | exact sJoin_i64 .. | exact sMul_i64 .. | exact sAdd_i64 .. | exact sOf_i64 .. | exact sFF_i64 .. | (unfold i64r; omega)) (by first | assumption | exact sJoin_i64 .. | exact sMul_i64 .. | exact sAdd_i64 .. | exact sOf_i64 .. | exact sFF_i64 .. | (unfold i64r; omega)))
    | ((with_reducible apply n_call (f := 48)); rfl; rfl; exact p_sign_Mul _ _ (by first | assumption | exact sJoin_i64 .. | exact sMul_i64 .. | exact sAdd_i64 .. | exact sOf_i64 .. | exact sFF_i64 .. | (unfold i64r; omega)) (by first | assumption | exact sJoin_i64 .. | exact sMul_i64 .. | exact sAdd_i64 .. | exact sOf_i64 .. | exact sFF_i64 .. | (unfold i64r; omega)))
    | (with_reducible refine condT_split (fun h => ?_) (fun h => ?_))
    | ((with_reducible apply fnQ_ret_soft); rfl; rfl)
  all_goals (try dsimp only at *)
  all_goals (try simp only [decide_eq_true_eq, decide_eq_false_iff_not] at *)
  · rw [wrap_i64_of (by omega)]; omega
  · obtain ⟨g1, g2, g3, g4, g5, _⟩ := hx
    have hc : (sLeq (sOf x) a && sLeq (sOf y) b) = true := by assumption
    rw [wrap_i64_of (n := y + 1) (by omega), wrap_i64_of (n := x + y) (by omega), wrap_i64_of (n := x - y) (by omega), small_mul (by omega) (by omega) (by omega) (by omega), X5_snoc (by omega) (by omega), mkI_t hc, mkI_t hc, mkI_t hc, g3, g4, g5]
    exact ⟨by omega, by omega, rfl, rfl, rfl, sJoin_r _ _, sJoin_r _ _, sJoin_r _ _⟩
  · rw [wrap_i64_of (by omega)]; omega
  · obtain ⟨g1, g2, g3, g4, g5, g6⟩ := hx
    have hc : (sLeq (sOf x) a && sLeq (sOf y) b) = false := by assumption
    rw [wrap_i64_of (n := y + 1) (by omega), X5_snoc (by omega) (by omega), mkI_f hc, mkI_f hc, mkI_f hc]
    exact ⟨by omega, by omega, g3, g4, g5, g6⟩
  · rw [wrap_i64_of (by omega)]; omega
  · obtain ⟨g1, g2, g3, g4, g5, g6⟩ := hx
    obtain ⟨q1, q2, q3, q4, q5, q6⟩ := ‹-2 ≤ x ∧ _›
    rw [X5_all (by omega)] at g3 g4 g5
    rw [wrap_i64_of (n := x + 1) (by omega), X5_snoc (by omega) (by omega), mkO_s, mkO_s, mkO_s, ← q3, ← q4, ← q5]
    exact ⟨by omega, by omega, g3, g4, g5, g6⟩
  · exact ⟨by omega, by omega, rfl, rfl, rfl, hx.2.2.2.2.2⟩
  · obtain ⟨g1, g2, g3, g4, g5, g6⟩ := hx
    rw [X5_all (by omega)] at g3 g4 g5
    subst g3 g4 g5
    refine congrArg PV.bool ?_
    have := all2 (p := fun a b => sAdd a b == mkO (· + ·) a b X5 && sMul a b == mkO (· * ·) a b X5 && sAdd a (sMul b 1) == mkO (· - ·) a b X5) (by decide +kernel) a b
    simp only [mkO_sn, ← sAdd_sn, ← sMul_sn] at this
    have e1 : sMul (sn b) 1 = sMul b 1 := by rw [sMul_sn, sn_sn, ← sMul_sn]
    have e2 : ∀ y, sAdd (sn a) y = sAdd a y := fun y => by rw [sAdd_sn, sn_sn, ← sAdd_sn]
    rw [e1, e2] at this
    rw [Bool.true_and]
    exact this
  · exact ⟨by omega, by omega, rfl, rfl, rfl, by omega, by omega, by omega⟩
end

end Go.Vm
