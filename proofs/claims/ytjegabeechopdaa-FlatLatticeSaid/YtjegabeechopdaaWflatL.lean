/- Walks. -/
import Derived.Test.YtjegabeechopdaaCflatL
import Derived.Test.YtjegabeechopdaaWflatC
set_option maxRecDepth 100000
set_option linter.unusedSimpArgs false
set_option linter.unusedVariables false
namespace Go.Vm
open Go

section
variable {gl : Nat → Option PV}
theorem V3.leq_k {a b : V3} (h : a.leq b = true) : a.k ≤ b.k := by
  rw [V3.leq_iff] at h
  rcases h with rfl | rfl | rfl
  · cases b <;> simp [V3.k]
  · exact Int.le_refl _
  · cases a <;> simp [V3.k]
theorem V3.leq_trans {a b c : V3} (h : a.leq b = true) (k : b.leq c = true) : a.leq c = true := by
  rw [V3.leq_iff] at *
  cases a <;> cases b <;> cases c <;> simp_all
theorem V3.leq_anti {a b : V3} (h : a.leq b = true) (k : b.leq a = true) : a = b := by
  rw [V3.leq_iff] at *
  rcases h with rfl | rfl | rfl <;> rcases k with h | h | h <;> simp_all
theorem V3.leq_two (a b c : V3) : (a.leq c && b.leq c) = (a.join b).leq c := by
  rw [Bool.eq_iff_iff, Bool.and_eq_true, V3.leq_iff, V3.leq_iff, V3.leq_iff]
  rcases a with _ | x | _ <;> rcases b with _ | y | _ <;> rcases c with _ | z | _ <;> simp [V3.join] <;> (by_cases h : x = y <;> simp_all)
  exact fun e k => h (e.trans k.symm)
theorem l_FlatLattice (k c k' c' k2 c2 : Int) : Pure Go.Proofs.Try.prog gl 3 [.agg [.int .i64 k, .int .i64 c], .agg [.int .i64 k', .int .i64 c'], .agg [.int .i64 k2, .int .i64 c2]] (.bool true) := by
  refine Pure.fn hmix b3 ?_
  repeat' first
    | with_reducible refine tr_seq ?_
    | ((with_reducible refine tr_region_f ?_ ?_); kernel_rfl)
    | ((with_reducible refine tr_region_t ?_ ?_ ?_); kernel_rfl; kernel_rfl)
    | with_reducible refine n_nil ?_
    | exact ⟨rfl, rfl⟩
    | with_reducible refine seqQ_normal ?_
    | with_reducible refine seqQ_ret ?_
    | with_reducible refine blkQ_ret ?_
    | with_reducible refine tr_skip ?_
    | with_reducible refine tr_ret ?_
    | ((with_reducible apply tr_cond_e); rfl)
    | with_reducible refine condT_t ?_
    | with_reducible refine condT_f ?_
    | ((with_reducible apply n_and); rfl; rfl; intro h)
    | ((with_reducible apply n_or); rfl; rfl; intro h)
    | ((with_reducible apply n_val); rfl; rfl)
    | ((with_reducible apply n_new); rfl; (first | (simp only [hn0, hn1, hn2, hn3, hn4, List.length_cons, List.length_nil, Nat.reduceAdd, Nat.zero_add]; done) | (simp only [hn0, hn1, hn2, hn3, hn4, List.length_cons, List.length_nil, Nat.reduceAdd, Nat.zero_add]; rfl) | rfl); rfl)
    | ((with_reducible apply n_store); rfl; rfl; rfl; rfl; rfl)
    | ((with_reducible apply n_eqs_f); rfl; rfl; rfl)
    | ((with_reducible apply n_eqs_t); rfl; rfl; rfl)
    | ((with_reducible apply n_call (f := 20)); rfl; rfl; exact p_law02_awake)
    | ((with_reducible apply n_call (f := 21)); rfl; rfl; exact p_law02_ours ..)
    | ((with_reducible apply n_call (f := 22)); rfl; rfl; exact p_flat_Join ..)
    | ((with_reducible apply n_call (f := 23)); rfl; rfl; exact p_flat_Leq ..)
    | ((with_reducible apply n_call (f := 24)); rfl; rfl; exact p_flat_Sane ..)
    | ((with_reducible apply n_call (f := 25)); rfl; rfl; exact p_flat_Height ..)
    | (with_reducible refine condT_split (fun h => ?_) (fun h => ?_))
    | ((with_reducible apply fnQ_ret_soft); rfl; rfl)
  all_goals (simp only [toV_kc, vSane_kc, V3.beq] at *)
  all_goals (generalize toV k c = A at *; generalize toV k' c' = B at *; generalize toV k2 c2 = C at *)
  · exfalso
    simp only [Bool.or_eq_true, Bool.and_eq_true, Bool.not_eq_true', bne_iff_ne, ne_eq, decide_eq_false_iff_not] at h
    rcases h with (⟨⟨h1, h2⟩, h3⟩ | h) | ⟨⟨h1, h2⟩, h3⟩
    · rw [V3.leq_trans h1 h2] at h3; cases h3
    · rw [V3.leq_two] at h; simp at h
    · rw [V3.leq_anti h1 h2] at h3; exact h3 rfl
  · have e1 := V3.join_comm A B
    have e2 := V3.join_assoc A B C
    simp only [V3.leq_refl, V3.leq_join, V3.leq_join', V3.k_le2, e2, Bool.true_and, Bool.and_true]
    rw [e1]
    cases hl : A.leq B with
    | false => simp
    | true => have := V3.leq_k hl; simp [this]
end

end Go.Vm
