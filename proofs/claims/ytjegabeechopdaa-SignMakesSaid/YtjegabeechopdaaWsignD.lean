/- Walks. -/
import Derived.Test.YtjegabeechopdaaCsignD
import Derived.Test.YtjegabeechopdaaWsignC
set_option maxRecDepth 100000
set_option linter.unusedSimpArgs false
set_option linter.unusedVariables false
namespace Go.Vm
open Go

section
variable {gl : Nat → Option PV}
set_option maxHeartbeats 4000000
theorem take_eq_all {l m : List Int} {i : Int} (h : i = l.length) (hl : l.length = m.length) (he : l.take i.toNat = m.take i.toNat) : l = m := by
  rw [take_all h, take_all (by omega)] at he
  exact he
theorem p_ref01_Ints (l m : List Int) (hl : l.length ≤ 1000000000) : Pure Go.Proofs.Try.prog gl 59 [.sl (ints l), .sl (ints m)] (.bool (l == m)) := by
  refine Pure.fn hmix b59 ?_
  repeat' first
    | with_reducible refine tr_seq ?_
    | ((with_reducible refine tr_region_f ?_ ?_); kernel_rfl)
    | ((with_reducible refine tr_region_t ?_ ?_ ?_); kernel_rfl; kernel_rfl)
    | with_reducible refine n_nil ?_
    | with_reducible refine seqQ_normal ?_
    | with_reducible refine seqQ_exit ?_
    | with_reducible refine seqQ_ret ?_
    | with_reducible refine blkQ_normal ?_
    | with_reducible refine blkQ_exit ?_
    | with_reducible refine blkQ_ret ?_
    | ((with_reducible refine blkQ_exit_ne ?_ ?_); rfl)
    | with_reducible refine tr_block ?_
    | with_reducible refine tr_skip ?_
    | with_reducible refine tr_exit ?_
    | with_reducible refine tr_ret ?_
    | ((with_reducible apply tr_cond_e); rfl)
    | with_reducible refine condT_t ?_
    | with_reducible refine condT_f ?_
    | with_reducible refine loopV_exit ?_
    | with_reducible refine loopV_ret ?_
    | ((with_reducible apply n_idx_ints); rfl; rfl; (simp only [decide_eq_true_eq, ints_length, bne_iff_ne, ne_eq, bne_eq_false_iff_eq] at *; omega))
    | (refine tr_loop_v (α := Int) 0 (fun | i => [(5, some (.int .i64 i)), (11, none), (12, none), (13, none), (14, none), (17, none), (18, none), (19, none), (20, none), (21, none), (22, none), (23, none), (24, none), (25, none), (4, none), (15, none), (16, none)]) (fun | i => []) (fun | i => 0 ≤ i ∧ i ≤ l.length ∧ l.length = m.length ∧ l.take i.toNat = m.take i.toNat) (fun | i => (l.length - i).toNat) 0 (ks := [5, 11, 12, 13, 14, 17, 18, 19, 20, 21, 22, 23, 24, 25, 4, 15, 16]) (fun _ => rfl) (fun _ => rfl) rfl (by omega) ?_ ⟨⟨_, rfl, rfl⟩, trivial⟩ trivial ?_; rotate_left; rintro i hx; try dsimp only at hx)
    | (refine loopV_normal _ ?_ ⟨⟨_, rfl, rfl⟩, trivial⟩ trivial ?_ ?_; repeat (first | exact only_refl | refine only_put rfl ?_ | refine only_less rfl ?_ | refine only_ov rfl ?_))
    | ((with_reducible apply n_val); rfl; rfl)
    | (with_reducible refine condT_split (fun h => ?_) (fun h => ?_))
    | ((with_reducible apply fnQ_ret_soft); rfl; rfl)
  all_goals (try dsimp only at *)
  all_goals (try simp only [decide_eq_true_eq, decide_eq_false_iff_not, ints_length, bne_iff_ne, ne_eq, bne_eq_false_iff_eq] at *)
  · have : l ≠ m := fun e => h (by rw [e])
    simp [this]
  · have hne : l ≠ m := by
      intro e
      subst e
      exact absurd rfl ‹_›
    simp [hne]
  · rw [wrap_i64_of (by omega)]; omega
  · have e : l.getD i.toNat 0 = m.getD i.toNat 0 := by assumption
    rw [wrap_i64_of (by omega), take_snoc (by omega) (by omega), take_snoc (by omega) (by omega)]
    exact ⟨by omega, by omega, hx.2.2.1, by rw [hx.2.2.2, e]⟩
  · have : l = m := take_eq_all (by omega) hx.2.2.1 hx.2.2.2
    simp [this]
  · exact ⟨by omega, by omega, by omega, rfl⟩
theorem p_sign_Height (s : Int) (h : i64r s) : Pure Go.Proofs.Try.prog gl 53 [.int .i64 s] (.int .i64 (sList s).length) := by
  have hoc : ∀ n : Int, n = 0 ∨ n = 1 ∨ n = 2 ∨ n = 3 ∨ n = 4 ∨ n = 5 ∨ n = 6 ∨ n = 7 → Pure Go.Proofs.Try.prog gl 101 [.int .u64 n] (.int .i64 (sList n).length) := by
    intro n hn
    have hT : TabOk Go.Proofs.Try.prog [(101, c101), (111, c111)] := ⟨⟨_, b101⟩, by kernel_rfl, ⟨_, b111⟩, by kernel_rfl, trivial⟩
    rcases hn with rfl | rfl | rfl | rfl | rfl | rfl | rfl | rfl <;> exact clc_sound hmix hT (k := 1) (d := 3) (by kernel_rfl)
  have hl : sList s = sList (sn s) := by simp [sList, sn_sn]
  rw [hl]
  have hc := sn_cases s
  have hs := p_sign_sane (gl := gl) s h
  refine Pure.fn hmix b53 ?_
  have hu : IntKind.u64.wrap (sn s) = sn s := by simp only [IntKind.wrap, IntKind.signed, IntKind.bits]; simp; omega
  have ho : Pure Go.Proofs.Try.prog gl 101 [.int .u64 (IntKind.u64.wrap (sn s))] (.int .i64 (sList (sn s)).length) := by rw [hu]; exact hoc _ hc
  repeat' first
    | with_reducible refine tr_seq ?_
    | ((with_reducible refine tr_region_f ?_ ?_); kernel_rfl)
    | with_reducible refine n_nil ?_
    | with_reducible refine seqQ_normal ?_
    | with_reducible refine seqQ_ret ?_
    | with_reducible refine blkQ_ret ?_
    | with_reducible refine tr_ret ?_
    | refine n_call rfl rfl hs ?_
    | refine n_call rfl rfl ho ?_
    | ((with_reducible apply n_val); rfl; rfl)
    | ((with_reducible apply fnQ_ret_soft); rfl; rfl)
  rfl
end

end Go.Vm
