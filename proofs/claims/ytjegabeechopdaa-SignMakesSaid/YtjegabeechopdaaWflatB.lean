/- Walks. -/
import Derived.Test.YtjegabeechopdaaCflatB
import Derived.Test.YtjegabeechopdaaLFlat
set_option maxRecDepth 100000
set_option linter.unusedSimpArgs false
set_option linter.unusedVariables false
namespace Go.Vm
open Go

theorem hmix : Go.Proofs.Try.prog.follows .mixedOrders = true := by kernel_rfl

section
variable {gl : Nat → Option PV}

theorem p_flat_Sane (k c : Int) : Pure Go.Proofs.Try.prog gl 24 [.agg [.int .i64 k, .int .i64 c]] (.bool (vSane k c)) := by
  refine Pure.fn hmix b24 ?_
  repeat' first
    | with_reducible refine tr_seq ?_
    | ((with_reducible refine tr_region_f ?_ ?_); kernel_rfl)
    | with_reducible refine n_nil ?_
    | exact ⟨rfl, rfl⟩
    | with_reducible refine seqQ_normal ?_
    | with_reducible refine seqQ_ret ?_
    | with_reducible refine blkQ_normal ?_
    | with_reducible refine blkQ_ret ?_
    | with_reducible refine tr_block ?_
    | with_reducible refine tr_skip ?_
    | with_reducible refine tr_ret ?_
    | ((with_reducible apply tr_cond_e); rfl)
    | with_reducible refine condT_t ?_
    | with_reducible refine condT_f ?_
    | ((with_reducible apply n_and); rfl; rfl; intro h)
    | ((with_reducible apply n_or); rfl; rfl; intro h)
    | ((with_reducible apply n_val); rfl; rfl)
    | ((with_reducible apply n_new); rfl; (first | (simp only [hn0, hn1, hn2, hn3, hn4, List.length_cons, List.length_nil, Nat.reduceAdd, Nat.zero_add]; done) | (simp only [hn0, hn1, hn2, hn3, hn4, List.length_cons, List.length_nil, Nat.reduceAdd, Nat.zero_add]; rfl) | rfl); rfl)
    | (with_reducible refine condT_split (fun h => ?_) (fun h => ?_))
    | ((with_reducible apply fnQ_ret_soft); rfl; rfl)
  all_goals (simp_all [vSane]; try omega)

theorem p_flat_sane (k c : Int) : Pure Go.Proofs.Try.prog gl 89 [.agg [.int .i64 k, .int .i64 c]] (pv (toV k c)) := by
  refine Pure.fn hmix b89 ?_
  repeat' first
    | with_reducible refine tr_seq ?_
    | ((with_reducible refine tr_region_f ?_ ?_); kernel_rfl)
    | with_reducible refine n_nil ?_
    | with_reducible refine seqQ_normal ?_
    | with_reducible refine seqQ_ret ?_
    | with_reducible refine blkQ_ret ?_
    | with_reducible refine tr_skip ?_
    | with_reducible refine tr_ret ?_
    | ((with_reducible apply tr_cond_e); rfl)
    | with_reducible refine condT_t ?_
    | with_reducible refine condT_f ?_
    | ((with_reducible apply n_val); rfl; rfl)
    | ((with_reducible apply n_new); rfl; (first | (simp only [hn0, hn1, hn2, hn3, hn4, List.length_cons, List.length_nil, Nat.reduceAdd, Nat.zero_add]; done) | (simp only [hn0, hn1, hn2, hn3, hn4, List.length_cons, List.length_nil, Nat.reduceAdd, Nat.zero_add]; rfl) | rfl); rfl)
    | ((with_reducible apply n_store); rfl; rfl; rfl; rfl; rfl)
    | ((with_reducible apply n_call (f := 24)); rfl; rfl; exact p_flat_Sane ..)
    | (with_reducible refine condT_split (fun h => ?_) (fun h => ?_))
    | ((with_reducible apply fnQ_ret_soft); rfl; rfl)
  · simp_all [toV_unsane, V3.k, V3.c]
  · simp_all [toV_sane]

theorem p_flat_Wrap (n : Int) : Pure Go.Proofs.Try.prog gl 35 [.int .i64 n] (.int .i64 (BitVec.ofInt 32 n).toInt) := by
  refine Pure.fn hmix b35 ?_
  repeat' first
    | with_reducible refine tr_seq ?_
    | ((with_reducible refine tr_region_f ?_ ?_); kernel_rfl)
    | with_reducible refine n_nil ?_
    | with_reducible refine seqQ_normal ?_
    | with_reducible refine seqQ_ret ?_
    | with_reducible refine blkQ_ret ?_
    | with_reducible refine tr_ret ?_
    | ((with_reducible apply n_val); rfl; rfl)
    | ((with_reducible apply fnQ_ret_soft); rfl; rfl)
  rw [toInt_ofInt32, IntKind.wrap_i64, IntKind.wrap_i32]
  congr 1
  omega

theorem p_flat_Of (n : Int) : Pure Go.Proofs.Try.prog gl 26 [.int .i64 n] (pv (.one (BitVec.ofInt 32 n))) := by
  refine Pure.fn hmix b26 ?_
  repeat' first
    | with_reducible refine tr_seq ?_
    | ((with_reducible refine tr_region_f ?_ ?_); kernel_rfl)
    | with_reducible refine n_nil ?_
    | with_reducible refine seqQ_normal ?_
    | with_reducible refine seqQ_ret ?_
    | with_reducible refine blkQ_ret ?_
    | with_reducible refine tr_ret ?_
    | ((with_reducible apply n_val); rfl; rfl)
    | ((with_reducible apply n_new); rfl; (first | (simp only [hn0, hn1, hn2, hn3, hn4, List.length_cons, List.length_nil, Nat.reduceAdd, Nat.zero_add]; done) | (simp only [hn0, hn1, hn2, hn3, hn4, List.length_cons, List.length_nil, Nat.reduceAdd, Nat.zero_add]; rfl) | rfl); rfl)
    | ((with_reducible apply n_store); rfl; rfl; rfl; rfl; rfl)
    | ((with_reducible apply n_call (f := 35)); rfl; rfl; exact p_flat_Wrap ..)
    | ((with_reducible apply fnQ_ret_soft); rfl; rfl)
  rfl

theorem p_flat_Join (k c k' c' : Int) : Pure Go.Proofs.Try.prog gl 22 [.agg [.int .i64 k, .int .i64 c], .agg [.int .i64 k', .int .i64 c']] (pv ((toV k c).join (toV k' c'))) := by
  refine Pure.fn hmix b22 ?_
  repeat' first
    | with_reducible refine tr_seq ?_
    | ((with_reducible refine tr_region_f ?_ ?_); kernel_rfl)
    | ((with_reducible refine tr_region_t ?_ ?_ ?_); kernel_rfl; kernel_rfl)
    | with_reducible refine n_nil ?_
    | exact ⟨rfl, rfl⟩
    | with_reducible refine seqQ_normal ?_
    | with_reducible refine seqQ_ret ?_
    | with_reducible refine blkQ_normal ?_
    | with_reducible refine blkQ_ret ?_
    | with_reducible refine tr_block ?_
    | with_reducible refine tr_skip ?_
    | with_reducible refine tr_ret ?_
    | ((with_reducible apply tr_cond_e); rfl)
    | with_reducible refine condT_t ?_
    | with_reducible refine condT_f ?_
    | ((with_reducible apply n_and); rfl; rfl; intro h)
    | ((with_reducible apply n_or); rfl; rfl; intro h)
    | ((with_reducible apply n_val); rfl; rfl)
    | ((with_reducible apply n_new); rfl; (first | (simp only [hn0, hn1, hn2, hn3, hn4, List.length_cons, List.length_nil, Nat.reduceAdd, Nat.zero_add]; done) | (simp only [hn0, hn1, hn2, hn3, hn4, List.length_cons, List.length_nil, Nat.reduceAdd, Nat.zero_add]; rfl) | rfl); rfl)
    | ((with_reducible apply n_store); rfl; rfl; rfl; rfl; rfl)
    | ((with_reducible apply n_eqs_f); rfl; rfl; rfl)
    | ((with_reducible apply n_call (f := 89)); rfl; rfl; exact p_flat_sane ..)
    | (with_reducible refine condT_split (fun h => ?_) (fun h => ?_))
    | ((with_reducible apply fnQ_ret_soft); rfl; rfl)
  all_goals (generalize toV k c = A at *; generalize toV k' c' = B at *; cases A <;> cases B <;> simp_all [V3.join, V3.k, V3.c, BitVec.toInt_inj])

theorem p_flat_Leq (k c k' c' : Int) : Pure Go.Proofs.Try.prog gl 23 [.agg [.int .i64 k, .int .i64 c], .agg [.int .i64 k', .int .i64 c']] (.bool ((toV k c).leq (toV k' c'))) := by
  refine Pure.fn hmix b23 ?_
  repeat' first
    | with_reducible refine tr_seq ?_
    | ((with_reducible refine tr_region_f ?_ ?_); kernel_rfl)
    | ((with_reducible refine tr_region_t ?_ ?_ ?_); kernel_rfl; kernel_rfl)
    | with_reducible refine n_nil ?_
    | with_reducible refine seqQ_normal ?_
    | with_reducible refine seqQ_ret ?_
    | with_reducible refine blkQ_ret ?_
    | with_reducible refine tr_ret ?_
    | ((with_reducible apply n_val); rfl; rfl)
    | ((with_reducible apply n_new); rfl; (first | (simp only [hn0, hn1, hn2, hn3, hn4, List.length_cons, List.length_nil, Nat.reduceAdd, Nat.zero_add]; done) | (simp only [hn0, hn1, hn2, hn3, hn4, List.length_cons, List.length_nil, Nat.reduceAdd, Nat.zero_add]; rfl) | rfl); rfl)
    | ((with_reducible apply n_eqs_f); rfl; rfl; rfl)
    | ((with_reducible apply n_call (f := 89)); rfl; rfl; exact p_flat_sane ..)
    | ((with_reducible apply n_call (f := 22)); rfl; rfl; exact p_flat_Join ..)
    | ((with_reducible apply fnQ_ret_soft); rfl; rfl)
  rw [V3.beq]
  rfl

theorem p_flat_Height (k c : Int) : Pure Go.Proofs.Try.prog gl 25 [.agg [.int .i64 k, .int .i64 c]] (.int .i64 (toV k c).k) := by
  refine Pure.fn hmix b25 ?_
  repeat' first
    | with_reducible refine tr_seq ?_
    | ((with_reducible refine tr_region_f ?_ ?_); kernel_rfl)
    | with_reducible refine n_nil ?_
    | with_reducible refine seqQ_normal ?_
    | with_reducible refine seqQ_ret ?_
    | with_reducible refine blkQ_ret ?_
    | with_reducible refine tr_ret ?_
    | ((with_reducible apply n_val); rfl; rfl)
    | ((with_reducible apply n_new); rfl; (first | (simp only [hn0, hn1, hn2, hn3, hn4, List.length_cons, List.length_nil, Nat.reduceAdd, Nat.zero_add]; done) | (simp only [hn0, hn1, hn2, hn3, hn4, List.length_cons, List.length_nil, Nat.reduceAdd, Nat.zero_add]; rfl) | rfl); rfl)
    | ((with_reducible apply n_call (f := 89)); rfl; rfl; exact p_flat_sane ..)
    | ((with_reducible apply fnQ_ret_soft); rfl; rfl)
  rfl

theorem p_flat_each (f : FuncId) (g : Int → Int → Int) (o : BitVec 32 → BitVec 32 → BitVec 32) (hf : ∀ x y, Pure Go.Proofs.Try.prog gl f [.int .i64 x, .int .i64 y] (.int .i64 (g x y))) (ho : ∀ x y : BitVec 32, BitVec.ofInt 32 (g x.toInt y.toInt) = o x y) (k c k' c' : Int) :
    Pure Go.Proofs.Try.prog gl 90 [.agg [.int .i64 k, .int .i64 c], .agg [.int .i64 k', .int .i64 c'], .fn f []] (pv (V3.each o (toV k c) (toV k' c'))) := by
  refine Pure.fn hmix b90 ?_
  repeat' first
    | with_reducible refine tr_seq ?_
    | ((with_reducible refine tr_region_f ?_ ?_); kernel_rfl)
    | ((with_reducible refine tr_region_t ?_ ?_ ?_); kernel_rfl; kernel_rfl)
    | with_reducible refine n_nil ?_
    | exact ⟨rfl, rfl⟩
    | with_reducible refine seqQ_normal ?_
    | with_reducible refine seqQ_ret ?_
    | with_reducible refine blkQ_normal ?_
    | with_reducible refine blkQ_ret ?_
    | with_reducible refine tr_block ?_
    | with_reducible refine tr_skip ?_
    | with_reducible refine tr_ret ?_
    | ((with_reducible apply tr_cond_e); rfl)
    | with_reducible refine condT_t ?_
    | with_reducible refine condT_f ?_
    | ((with_reducible apply n_and); rfl; rfl; intro h)
    | ((with_reducible apply n_or); rfl; rfl; intro h)
    | refine n_callv rfl rfl rfl (hf ..) ?_
    | ((with_reducible apply n_val); rfl; rfl)
    | ((with_reducible apply n_new); rfl; (first | (simp only [hn0, hn1, hn2, hn3, hn4, List.length_cons, List.length_nil, Nat.reduceAdd, Nat.zero_add]; done) | (simp only [hn0, hn1, hn2, hn3, hn4, List.length_cons, List.length_nil, Nat.reduceAdd, Nat.zero_add]; rfl) | rfl); rfl)
    | ((with_reducible apply n_store); rfl; rfl; rfl; rfl; rfl)
    | ((with_reducible apply n_call (f := 89)); rfl; rfl; exact p_flat_sane ..)
    | ((with_reducible apply n_call (f := 26)); rfl; rfl; exact p_flat_Of ..)
    | (with_reducible refine condT_split (fun h => ?_) (fun h => ?_))
    | ((with_reducible apply fnQ_ret_soft); rfl; rfl)
  all_goals (generalize toV k c = A at *; generalize toV k' c' = B at *; cases A <;> cases B <;> simp_all [V3.each, V3.k, V3.c])

theorem p_flat_add1 (x y : Int) : Pure Go.Proofs.Try.prog gl 91 [.int .i64 x, .int .i64 y] (.int .i64 (IntKind.i64.wrap (x + y))) := by
  refine Pure.fn hmix b91 ?_
  repeat' first
    | with_reducible refine tr_seq ?_
    | ((with_reducible refine tr_region_f ?_ ?_); kernel_rfl)
    | with_reducible refine n_nil ?_
    | with_reducible refine seqQ_normal ?_
    | with_reducible refine seqQ_ret ?_
    | with_reducible refine blkQ_ret ?_
    | with_reducible refine tr_ret ?_
    | ((with_reducible apply n_val); rfl; rfl)
    | ((with_reducible apply fnQ_ret_soft); rfl; rfl)
  rfl
theorem p_flat_sub1 (x y : Int) : Pure Go.Proofs.Try.prog gl 92 [.int .i64 x, .int .i64 y] (.int .i64 (IntKind.i64.wrap (x - y))) := by
  refine Pure.fn hmix b92 ?_
  repeat' first
    | with_reducible refine tr_seq ?_
    | ((with_reducible refine tr_region_f ?_ ?_); kernel_rfl)
    | with_reducible refine n_nil ?_
    | with_reducible refine seqQ_normal ?_
    | with_reducible refine seqQ_ret ?_
    | with_reducible refine blkQ_ret ?_
    | with_reducible refine tr_ret ?_
    | ((with_reducible apply n_val); rfl; rfl)
    | ((with_reducible apply fnQ_ret_soft); rfl; rfl)
  rfl
theorem p_flat_mul1 (x y : Int) : Pure Go.Proofs.Try.prog gl 93 [.int .i64 x, .int .i64 y] (.int .i64 (IntKind.i64.wrap (x * y))) := by
  refine Pure.fn hmix b93 ?_
  repeat' first
    | with_reducible refine tr_seq ?_
    | ((with_reducible refine tr_region_f ?_ ?_); kernel_rfl)
    | with_reducible refine n_nil ?_
    | with_reducible refine seqQ_normal ?_
    | with_reducible refine seqQ_ret ?_
    | with_reducible refine blkQ_ret ?_
    | with_reducible refine tr_ret ?_
    | ((with_reducible apply n_val); rfl; rfl)
    | ((with_reducible apply fnQ_ret_soft); rfl; rfl)
  rfl

theorem p_flat_Add (k c k' c' : Int) : Pure Go.Proofs.Try.prog gl 27 [.agg [.int .i64 k, .int .i64 c], .agg [.int .i64 k', .int .i64 c']] (pv ((toV k c).add (toV k' c'))) := by
  refine Pure.fn hmix b27 ?_
  repeat' first
    | with_reducible refine tr_seq ?_
    | ((with_reducible refine tr_region_f ?_ ?_); kernel_rfl)
    | with_reducible refine n_nil ?_
    | with_reducible refine seqQ_normal ?_
    | with_reducible refine seqQ_ret ?_
    | with_reducible refine blkQ_ret ?_
    | with_reducible refine tr_ret ?_
    | ((with_reducible apply n_val); rfl; rfl)
    | ((with_reducible apply n_new); rfl; (first | (simp only [hn0, hn1, hn2, hn3, hn4, List.length_cons, List.length_nil, Nat.reduceAdd, Nat.zero_add]; done) | (simp only [hn0, hn1, hn2, hn3, hn4, List.length_cons, List.length_nil, Nat.reduceAdd, Nat.zero_add]; rfl) | rfl); rfl)
    | ((with_reducible apply n_store); rfl; rfl; rfl; rfl; rfl)
    | ((with_reducible apply n_call (f := 90)); rfl; rfl; exact p_flat_each _ _ (· + ·) p_flat_add1 o_add _ _ _ _)
    | ((with_reducible apply fnQ_ret_soft); rfl; rfl)
  rfl
theorem p_flat_Sub (k c k' c' : Int) : Pure Go.Proofs.Try.prog gl 28 [.agg [.int .i64 k, .int .i64 c], .agg [.int .i64 k', .int .i64 c']] (pv ((toV k c).sub (toV k' c'))) := by
  refine Pure.fn hmix b28 ?_
  repeat' first
    | with_reducible refine tr_seq ?_
    | ((with_reducible refine tr_region_f ?_ ?_); kernel_rfl)
    | with_reducible refine n_nil ?_
    | with_reducible refine seqQ_normal ?_
    | with_reducible refine seqQ_ret ?_
    | with_reducible refine blkQ_ret ?_
    | with_reducible refine tr_ret ?_
    | ((with_reducible apply n_val); rfl; rfl)
    | ((with_reducible apply n_new); rfl; (first | (simp only [hn0, hn1, hn2, hn3, hn4, List.length_cons, List.length_nil, Nat.reduceAdd, Nat.zero_add]; done) | (simp only [hn0, hn1, hn2, hn3, hn4, List.length_cons, List.length_nil, Nat.reduceAdd, Nat.zero_add]; rfl) | rfl); rfl)
    | ((with_reducible apply n_store); rfl; rfl; rfl; rfl; rfl)
    | ((with_reducible apply n_call (f := 90)); rfl; rfl; exact p_flat_each _ _ (· - ·) p_flat_sub1 o_sub _ _ _ _)
    | ((with_reducible apply fnQ_ret_soft); rfl; rfl)
  rfl
theorem p_flat_Mul (k c k' c' : Int) : Pure Go.Proofs.Try.prog gl 30 [.agg [.int .i64 k, .int .i64 c], .agg [.int .i64 k', .int .i64 c']] (pv ((toV k c).mul (toV k' c'))) := by
  refine Pure.fn hmix b30 ?_
  repeat' first
    | with_reducible refine tr_seq ?_
    | ((with_reducible refine tr_region_f ?_ ?_); kernel_rfl)
    | with_reducible refine n_nil ?_
    | with_reducible refine seqQ_normal ?_
    | with_reducible refine seqQ_ret ?_
    | with_reducible refine blkQ_ret ?_
    | with_reducible refine tr_ret ?_
    | ((with_reducible apply n_val); rfl; rfl)
    | ((with_reducible apply n_new); rfl; (first | (simp only [hn0, hn1, hn2, hn3, hn4, List.length_cons, List.length_nil, Nat.reduceAdd, Nat.zero_add]; done) | (simp only [hn0, hn1, hn2, hn3, hn4, List.length_cons, List.length_nil, Nat.reduceAdd, Nat.zero_add]; rfl) | rfl); rfl)
    | ((with_reducible apply n_store); rfl; rfl; rfl; rfl; rfl)
    | ((with_reducible apply n_call (f := 90)); rfl; rfl; exact p_flat_each _ _ (· * ·) p_flat_mul1 o_mul _ _ _ _)
    | ((with_reducible apply fnQ_ret_soft); rfl; rfl)
  rfl
theorem p_flat_Neg (k c : Int) : Pure Go.Proofs.Try.prog gl 29 [.agg [.int .i64 k, .int .i64 c]] (pv (toV k c).neg) := by
  refine Pure.fn hmix b29 ?_
  repeat' first
    | with_reducible refine tr_seq ?_
    | ((with_reducible refine tr_region_f ?_ ?_); kernel_rfl)
    | ((with_reducible refine tr_region_t ?_ ?_ ?_); kernel_rfl; kernel_rfl)
    | with_reducible refine n_nil ?_
    | with_reducible refine seqQ_normal ?_
    | with_reducible refine seqQ_ret ?_
    | with_reducible refine blkQ_ret ?_
    | with_reducible refine tr_ret ?_
    | ((with_reducible apply n_val); rfl; rfl)
    | ((with_reducible apply n_new); rfl; (first | (simp only [hn0, hn1, hn2, hn3, hn4, List.length_cons, List.length_nil, Nat.reduceAdd, Nat.zero_add]; done) | (simp only [hn0, hn1, hn2, hn3, hn4, List.length_cons, List.length_nil, Nat.reduceAdd, Nat.zero_add]; rfl) | rfl); rfl)
    | ((with_reducible apply n_store); rfl; rfl; rfl; rfl; rfl)
    | ((with_reducible apply n_call (f := 26)); rfl; rfl; exact p_flat_Of ..)
    | ((with_reducible apply n_call (f := 28)); rfl; rfl; exact p_flat_Sub ..)
    | ((with_reducible apply fnQ_ret_soft); rfl; rfl)
  simp [toV_kc, V3.neg]
end
section
variable {gl : Nat → Option PV}

theorem p_rflat_Sane (k c : Int) : Pure Go.Proofs.Try.prog gl 31 [.agg [.int .i64 k, .int .i64 c]] (.bool (vSane k c)) := by
  refine Pure.fn hmix b31 ?_
  repeat' first
    | with_reducible refine tr_seq ?_
    | ((with_reducible refine tr_region_f ?_ ?_); kernel_rfl)
    | with_reducible refine n_nil ?_
    | exact ⟨rfl, rfl⟩
    | with_reducible refine seqQ_normal ?_
    | with_reducible refine seqQ_ret ?_
    | with_reducible refine blkQ_ret ?_
    | with_reducible refine tr_skip ?_
    | with_reducible refine tr_ret ?_
    | ((with_reducible apply tr_cond_e); rfl)
    | with_reducible refine condT_t ?_
    | with_reducible refine condT_f ?_
    | ((with_reducible apply n_and); rfl; rfl; intro h)
    | ((with_reducible apply n_or); rfl; rfl; intro h)
    | ((with_reducible apply n_val); rfl; rfl)
    | ((with_reducible apply n_new); rfl; (first | (simp only [hn0, hn1, hn2, hn3, hn4, List.length_cons, List.length_nil, Nat.reduceAdd, Nat.zero_add]; done) | (simp only [hn0, hn1, hn2, hn3, hn4, List.length_cons, List.length_nil, Nat.reduceAdd, Nat.zero_add]; rfl) | rfl); rfl)
    | (with_reducible refine condT_split (fun h => ?_) (fun h => ?_))
    | ((with_reducible apply fnQ_ret_soft); rfl; rfl)
  all_goals (simp_all [vSane]; try omega)
  by_cases hk : k = 0 <;> by_cases hk2 : k = 2 <;> simp [hk, hk2]

theorem p_rflat_sane (k c : Int) : Pure Go.Proofs.Try.prog gl 94 [.agg [.int .i64 k, .int .i64 c]] (pv (toV k c)) := by
  refine Pure.fn hmix b94 ?_
  repeat' first
    | with_reducible refine tr_seq ?_
    | ((with_reducible refine tr_region_f ?_ ?_); kernel_rfl)
    | with_reducible refine n_nil ?_
    | with_reducible refine seqQ_normal ?_
    | with_reducible refine seqQ_ret ?_
    | with_reducible refine blkQ_ret ?_
    | with_reducible refine tr_skip ?_
    | with_reducible refine tr_ret ?_
    | ((with_reducible apply tr_cond_e); rfl)
    | with_reducible refine condT_t ?_
    | with_reducible refine condT_f ?_
    | ((with_reducible apply n_val); rfl; rfl)
    | ((with_reducible apply n_new); rfl; (first | (simp only [hn0, hn1, hn2, hn3, hn4, List.length_cons, List.length_nil, Nat.reduceAdd, Nat.zero_add]; done) | (simp only [hn0, hn1, hn2, hn3, hn4, List.length_cons, List.length_nil, Nat.reduceAdd, Nat.zero_add]; rfl) | rfl); rfl)
    | ((with_reducible apply n_store); rfl; rfl; rfl; rfl; rfl)
    | ((with_reducible apply n_call (f := 31)); rfl; rfl; exact p_rflat_Sane ..)
    | (with_reducible refine condT_split (fun h => ?_) (fun h => ?_))
    | ((with_reducible apply fnQ_ret_soft); rfl; rfl)
  · simp_all [toV_unsane, V3.k, V3.c]
  · simp_all [toV_sane]

theorem p_rflat_Wrap (n : Int) : Pure Go.Proofs.Try.prog gl 36 [.int .i64 n] (.int .i64 (BitVec.ofInt 32 n).toInt) := by
  refine Pure.fn hmix b36 ?_
  repeat' first
    | with_reducible refine tr_seq ?_
    | ((with_reducible refine tr_region_f ?_ ?_); kernel_rfl)
    | with_reducible refine n_nil ?_
    | with_reducible refine seqQ_normal ?_
    | with_reducible refine seqQ_ret ?_
    | with_reducible refine blkQ_ret ?_
    | with_reducible refine tr_skip ?_
    | with_reducible refine tr_ret ?_
    | ((with_reducible apply tr_cond_e); rfl)
    | with_reducible refine condT_t ?_
    | with_reducible refine condT_f ?_
    | ((with_reducible apply n_val); rfl; rfl)
    | (with_reducible refine condT_split (fun h => ?_) (fun h => ?_))
    | ((with_reducible apply fnQ_ret_soft); rfl; rfl)
  all_goals (rw [toInt_ofInt32]; congr 1; have ht := tmod_cases n; simp [IntKind.wrap_i64] at *; omega)

theorem p_rflat_Of (n : Int) : Pure Go.Proofs.Try.prog gl 37 [.int .i64 n] (pv (.one (BitVec.ofInt 32 n))) := by
  refine Pure.fn hmix b37 ?_
  repeat' first
    | with_reducible refine tr_seq ?_
    | ((with_reducible refine tr_region_f ?_ ?_); kernel_rfl)
    | with_reducible refine n_nil ?_
    | with_reducible refine seqQ_normal ?_
    | with_reducible refine seqQ_ret ?_
    | with_reducible refine blkQ_ret ?_
    | with_reducible refine tr_ret ?_
    | ((with_reducible apply n_val); rfl; rfl)
    | ((with_reducible apply n_new); rfl; (first | (simp only [hn0, hn1, hn2, hn3, hn4, List.length_cons, List.length_nil, Nat.reduceAdd, Nat.zero_add]; done) | (simp only [hn0, hn1, hn2, hn3, hn4, List.length_cons, List.length_nil, Nat.reduceAdd, Nat.zero_add]; rfl) | rfl); rfl)
    | ((with_reducible apply n_store); rfl; rfl; rfl; rfl; rfl)
    | ((with_reducible apply n_call (f := 36)); rfl; rfl; exact p_rflat_Wrap ..)
    | ((with_reducible apply fnQ_ret_soft); rfl; rfl)
  rfl

theorem p_rflat_Leq (k c k' c' : Int) : Pure Go.Proofs.Try.prog gl 34 [.agg [.int .i64 k, .int .i64 c], .agg [.int .i64 k', .int .i64 c']] (.bool ((toV k c).leq (toV k' c'))) := by
  refine Pure.fn hmix b34 ?_
  repeat' first
    | with_reducible refine tr_seq ?_
    | ((with_reducible refine tr_region_f ?_ ?_); kernel_rfl)
    | with_reducible refine n_nil ?_
    | exact ⟨rfl, rfl⟩
    | with_reducible refine seqQ_normal ?_
    | with_reducible refine seqQ_ret ?_
    | with_reducible refine blkQ_ret ?_
    | with_reducible refine tr_ret ?_
    | ((with_reducible apply n_and); rfl; rfl; intro h)
    | ((with_reducible apply n_or); rfl; rfl; intro h)
    | ((with_reducible apply n_val); rfl; rfl)
    | ((with_reducible apply n_new); rfl; (first | (simp only [hn0, hn1, hn2, hn3, hn4, List.length_cons, List.length_nil, Nat.reduceAdd, Nat.zero_add]; done) | (simp only [hn0, hn1, hn2, hn3, hn4, List.length_cons, List.length_nil, Nat.reduceAdd, Nat.zero_add]; rfl) | rfl); rfl)
    | ((with_reducible apply n_store); rfl; rfl; rfl; rfl; rfl)
    | ((with_reducible apply n_eqs_f); rfl; rfl; rfl)
    | ((with_reducible apply n_call (f := 94)); rfl; rfl; exact p_rflat_sane ..)
    | ((with_reducible apply fnQ_ret_soft); rfl; rfl)
  all_goals (generalize toV k c = A at *; generalize toV k' c' = B at *; cases A <;> cases B <;> simp_all [V3.leq, V3.join, V3.k, V3.c, BitVec.toInt_inj])
  all_goals exact toInt_beq _ _

theorem p_rflat_Join (k c k' c' : Int) : Pure Go.Proofs.Try.prog gl 33 [.agg [.int .i64 k, .int .i64 c], .agg [.int .i64 k', .int .i64 c']] (pv ((toV k c).join (toV k' c'))) := by
  refine Pure.fn hmix b33 ?_
  repeat' first
    | with_reducible refine tr_seq ?_
    | ((with_reducible refine tr_region_f ?_ ?_); kernel_rfl)
    | with_reducible refine n_nil ?_
    | with_reducible refine seqQ_normal ?_
    | with_reducible refine seqQ_ret ?_
    | with_reducible refine blkQ_ret ?_
    | with_reducible refine tr_skip ?_
    | with_reducible refine tr_ret ?_
    | ((with_reducible apply tr_cond_e); rfl)
    | with_reducible refine condT_t ?_
    | with_reducible refine condT_f ?_
    | ((with_reducible apply n_val); rfl; rfl)
    | ((with_reducible apply n_new); rfl; (first | (simp only [hn0, hn1, hn2, hn3, hn4, List.length_cons, List.length_nil, Nat.reduceAdd, Nat.zero_add]; done) | (simp only [hn0, hn1, hn2, hn3, hn4, List.length_cons, List.length_nil, Nat.reduceAdd, Nat.zero_add]; rfl) | rfl); rfl)
    | ((with_reducible apply n_store); rfl; rfl; rfl; rfl; rfl)
    | ((with_reducible apply n_call (f := 94)); rfl; rfl; exact p_rflat_sane ..)
    | ((with_reducible apply n_call (f := 34)); rfl; rfl; exact p_rflat_Leq ..)
    | (with_reducible refine condT_split (fun h => ?_) (fun h => ?_))
    | ((with_reducible apply fnQ_ret_soft); rfl; rfl)
  all_goals (generalize toV k c = A at *; generalize toV k' c' = B at *; cases A <;> cases B <;> simp_all [V3.join, V3.leq, V3.k, V3.c, BitVec.toInt_inj])

theorem p_rflat_kind (a b : V3) : Pure Go.Proofs.Try.prog gl 96 [pv a, pv b] (.int .i64 (if a.k == 0 || b.k == 0 then 0 else if b.k > a.k then b.k else a.k)) := by
  refine Pure.fn hmix b96 ?_
  repeat' first
    | with_reducible refine tr_seq ?_
    | ((with_reducible refine tr_region_f ?_ ?_); kernel_rfl)
    | with_reducible refine n_nil ?_
    | exact ⟨rfl, rfl⟩
    | with_reducible refine seqQ_normal ?_
    | with_reducible refine seqQ_ret ?_
    | with_reducible refine blkQ_ret ?_
    | with_reducible refine tr_skip ?_
    | with_reducible refine tr_ret ?_
    | ((with_reducible apply tr_cond_e); rfl)
    | with_reducible refine condT_t ?_
    | with_reducible refine condT_f ?_
    | ((with_reducible apply n_and); rfl; rfl; intro h)
    | ((with_reducible apply n_or); rfl; rfl; intro h)
    | ((with_reducible apply n_val); rfl; rfl)
    | ((with_reducible apply n_new); rfl; (first | (simp only [hn0, hn1, hn2, hn3, hn4, List.length_cons, List.length_nil, Nat.reduceAdd, Nat.zero_add]; done) | (simp only [hn0, hn1, hn2, hn3, hn4, List.length_cons, List.length_nil, Nat.reduceAdd, Nat.zero_add]; rfl) | rfl); rfl)
    | (with_reducible refine condT_split (fun h => ?_) (fun h => ?_))
    | ((with_reducible apply fnQ_ret_soft); rfl; rfl)
  all_goals simp_all

theorem p_rflat_made (k n : Int) : Pure Go.Proofs.Try.prog gl 95 [.int .i64 k, .int .i64 n] (.agg [.int .i64 k, .int .i64 (if k == 1 then (BitVec.ofInt 32 n).toInt else 0)]) := by
  refine Pure.fn hmix b95 ?_
  repeat' first
    | with_reducible refine tr_seq ?_
    | ((with_reducible refine tr_region_f ?_ ?_); kernel_rfl)
    | with_reducible refine n_nil ?_
    | with_reducible refine seqQ_normal ?_
    | with_reducible refine seqQ_ret ?_
    | with_reducible refine blkQ_ret ?_
    | with_reducible refine tr_skip ?_
    | with_reducible refine tr_ret ?_
    | ((with_reducible apply tr_cond_e); rfl)
    | with_reducible refine condT_t ?_
    | with_reducible refine condT_f ?_
    | ((with_reducible apply n_val); rfl; rfl)
    | ((with_reducible apply n_new); rfl; (first | (simp only [hn0, hn1, hn2, hn3, hn4, List.length_cons, List.length_nil, Nat.reduceAdd, Nat.zero_add]; done) | (simp only [hn0, hn1, hn2, hn3, hn4, List.length_cons, List.length_nil, Nat.reduceAdd, Nat.zero_add]; rfl) | rfl); rfl)
    | ((with_reducible apply n_store); rfl; rfl; rfl; rfl; rfl)
    | ((with_reducible apply n_call (f := 37)); rfl; rfl; exact p_rflat_Of ..)
    | (with_reducible refine condT_split (fun h => ?_) (fun h => ?_))
    | ((with_reducible apply fnQ_ret_soft); rfl; rfl)
  all_goals simp_all [V3.k, V3.c]

theorem p_rflat_Add (k c k' c' : Int) : Pure Go.Proofs.Try.prog gl 40 [.agg [.int .i64 k, .int .i64 c], .agg [.int .i64 k', .int .i64 c']] (pv ((toV k c).add (toV k' c'))) := by
  refine Pure.fn hmix b40 ?_
  repeat' first
    | with_reducible refine tr_seq ?_
    | ((with_reducible refine tr_region_f ?_ ?_); kernel_rfl)
    | ((with_reducible refine tr_region_t ?_ ?_ ?_); kernel_rfl; kernel_rfl)
    | with_reducible refine n_nil ?_
    | with_reducible refine seqQ_normal ?_
    | with_reducible refine seqQ_ret ?_
    | with_reducible refine blkQ_ret ?_
    | with_reducible refine tr_ret ?_
    | ((with_reducible apply n_val); rfl; rfl)
    | ((with_reducible apply n_new); rfl; (first | (simp only [hn0, hn1, hn2, hn3, hn4, List.length_cons, List.length_nil, Nat.reduceAdd, Nat.zero_add]; done) | (simp only [hn0, hn1, hn2, hn3, hn4, List.length_cons, List.length_nil, Nat.reduceAdd, Nat.zero_add]; rfl) | rfl); rfl)
    | ((with_reducible apply n_store); rfl; rfl; rfl; rfl; rfl)
    | ((with_reducible apply n_call (f := 94)); rfl; rfl; exact p_rflat_sane ..)
    | ((with_reducible apply n_call (f := 96)); rfl; rfl; exact p_rflat_kind ..)
    | ((with_reducible apply n_call (f := 95)); rfl; rfl; exact p_rflat_made ..)
    | ((with_reducible apply fnQ_ret_soft); rfl; rfl)
  all_goals (generalize toV k c = A at *; generalize toV k' c' = B at *; cases A <;> cases B <;> simp_all [V3.add, V3.each, V3.k, V3.c, o_add])
theorem p_rflat_Sub (k c k' c' : Int) : Pure Go.Proofs.Try.prog gl 41 [.agg [.int .i64 k, .int .i64 c], .agg [.int .i64 k', .int .i64 c']] (pv ((toV k c).sub (toV k' c'))) := by
  refine Pure.fn hmix b41 ?_
  repeat' first
    | with_reducible refine tr_seq ?_
    | ((with_reducible refine tr_region_f ?_ ?_); kernel_rfl)
    | ((with_reducible refine tr_region_t ?_ ?_ ?_); kernel_rfl; kernel_rfl)
    | with_reducible refine n_nil ?_
    | with_reducible refine seqQ_normal ?_
    | with_reducible refine seqQ_ret ?_
    | with_reducible refine blkQ_ret ?_
    | with_reducible refine tr_ret ?_
    | ((with_reducible apply n_val); rfl; rfl)
    | ((with_reducible apply n_new); rfl; (first | (simp only [hn0, hn1, hn2, hn3, hn4, List.length_cons, List.length_nil, Nat.reduceAdd, Nat.zero_add]; done) | (simp only [hn0, hn1, hn2, hn3, hn4, List.length_cons, List.length_nil, Nat.reduceAdd, Nat.zero_add]; rfl) | rfl); rfl)
    | ((with_reducible apply n_store); rfl; rfl; rfl; rfl; rfl)
    | ((with_reducible apply n_call (f := 94)); rfl; rfl; exact p_rflat_sane ..)
    | ((with_reducible apply n_call (f := 96)); rfl; rfl; exact p_rflat_kind ..)
    | ((with_reducible apply n_call (f := 95)); rfl; rfl; exact p_rflat_made ..)
    | ((with_reducible apply fnQ_ret_soft); rfl; rfl)
  all_goals (generalize toV k c = A at *; generalize toV k' c' = B at *; cases A <;> cases B <;> simp_all [V3.sub, V3.each, V3.k, V3.c, o_sub])
theorem p_rflat_Mul (k c k' c' : Int) : Pure Go.Proofs.Try.prog gl 42 [.agg [.int .i64 k, .int .i64 c], .agg [.int .i64 k', .int .i64 c']] (pv ((toV k c).mul (toV k' c'))) := by
  refine Pure.fn hmix b42 ?_
  repeat' first
    | with_reducible refine tr_seq ?_
    | ((with_reducible refine tr_region_f ?_ ?_); kernel_rfl)
    | ((with_reducible refine tr_region_t ?_ ?_ ?_); kernel_rfl; kernel_rfl)
    | with_reducible refine n_nil ?_
    | with_reducible refine seqQ_normal ?_
    | with_reducible refine seqQ_ret ?_
    | with_reducible refine blkQ_ret ?_
    | with_reducible refine tr_ret ?_
    | ((with_reducible apply n_val); rfl; rfl)
    | ((with_reducible apply n_new); rfl; (first | (simp only [hn0, hn1, hn2, hn3, hn4, List.length_cons, List.length_nil, Nat.reduceAdd, Nat.zero_add]; done) | (simp only [hn0, hn1, hn2, hn3, hn4, List.length_cons, List.length_nil, Nat.reduceAdd, Nat.zero_add]; rfl) | rfl); rfl)
    | ((with_reducible apply n_store); rfl; rfl; rfl; rfl; rfl)
    | ((with_reducible apply n_call (f := 94)); rfl; rfl; exact p_rflat_sane ..)
    | ((with_reducible apply n_call (f := 96)); rfl; rfl; exact p_rflat_kind ..)
    | ((with_reducible apply n_call (f := 95)); rfl; rfl; exact p_rflat_made ..)
    | ((with_reducible apply fnQ_ret_soft); rfl; rfl)
  all_goals (generalize toV k c = A at *; generalize toV k' c' = B at *; cases A <;> cases B <;> simp_all [V3.mul, V3.each, V3.k, V3.c, o_mul])
theorem p_rflat_Neg (k c : Int) : Pure Go.Proofs.Try.prog gl 39 [.agg [.int .i64 k, .int .i64 c]] (pv (toV k c).neg) := by
  refine Pure.fn hmix b39 ?_
  repeat' first
    | with_reducible refine tr_seq ?_
    | ((with_reducible refine tr_region_f ?_ ?_); kernel_rfl)
    | with_reducible refine n_nil ?_
    | with_reducible refine seqQ_normal ?_
    | with_reducible refine seqQ_ret ?_
    | with_reducible refine blkQ_ret ?_
    | with_reducible refine tr_ret ?_
    | ((with_reducible apply n_val); rfl; rfl)
    | ((with_reducible apply n_new); rfl; (first | (simp only [hn0, hn1, hn2, hn3, hn4, List.length_cons, List.length_nil, Nat.reduceAdd, Nat.zero_add]; done) | (simp only [hn0, hn1, hn2, hn3, hn4, List.length_cons, List.length_nil, Nat.reduceAdd, Nat.zero_add]; rfl) | rfl); rfl)
    | ((with_reducible apply n_store); rfl; rfl; rfl; rfl; rfl)
    | ((with_reducible apply n_call (f := 94)); rfl; rfl; exact p_rflat_sane ..)
    | ((with_reducible apply n_call (f := 95)); rfl; rfl; exact p_rflat_made ..)
    | ((with_reducible apply fnQ_ret_soft); rfl; rfl)
  all_goals (generalize toV k c = A at *; cases A <;> simp_all [V3.neg, V3.sub, V3.each, V3.k, V3.c])
  all_goals exact o_neg _
theorem p_rflat_Height (k c : Int) : Pure Go.Proofs.Try.prog gl 38 [.agg [.int .i64 k, .int .i64 c]] (.int .i64 (toV k c).k) := by
  refine Pure.fn hmix b38 ?_
  repeat' first
    | with_reducible refine tr_seq ?_
    | ((with_reducible refine tr_region_f ?_ ?_); kernel_rfl)
    | with_reducible refine n_nil ?_
    | with_reducible refine seqQ_normal ?_
    | with_reducible refine seqQ_ret ?_
    | with_reducible refine blkQ_ret ?_
    | with_reducible refine tr_ret ?_
    | ((with_reducible apply n_val); rfl; rfl)
    | ((with_reducible apply n_new); rfl; (first | (simp only [hn0, hn1, hn2, hn3, hn4, List.length_cons, List.length_nil, Nat.reduceAdd, Nat.zero_add]; done) | (simp only [hn0, hn1, hn2, hn3, hn4, List.length_cons, List.length_nil, Nat.reduceAdd, Nat.zero_add]; rfl) | rfl); rfl)
    | ((with_reducible apply n_call (f := 94)); rfl; rfl; exact p_rflat_sane ..)
    | ((with_reducible apply fnQ_ret_soft); rfl; rfl)
  rfl
end

end Go.Vm
