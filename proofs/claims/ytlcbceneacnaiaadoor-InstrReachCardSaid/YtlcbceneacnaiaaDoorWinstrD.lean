/- Laid. -/
import Derived.Test.YtlcbceneacnaiaaDoorCinstrD
import Derived.Test.YtlcbceneacnaiaaDoorWinstrC
/- Walks. -/
set_option maxRecDepth 100000
set_option linter.unusedSimpArgs false
set_option linter.unusedVariables false
namespace Go.Vm
open Go

set_option maxHeartbeats 4000000
theorem idx_self (b : UInt8) : Lib.indexByte [b] b = 0 := by simp [Lib.indexByte]
theorem p_slIndexC (s : ByteArray) (b : UInt8) (h1 : (((⟨#[b]⟩ : ByteArray).size : Int) == 0 || (⟨#[b]⟩ : ByteArray).toList == s.toList) = decide (s.data.toList = [b])) : Pure Go.Proofs.Tryd.prog glD 96 [.str s, .str ⟨#[b]⟩] (.int .i64 (Lib.indexByte s.data.toList b)) := by
  have hi := p_IndexByte (gl := glD) s (b.toNat : Int)
  have eb : ((b.toNat : Int)).toNat.toUInt8 = b := by simp
  rw [eb] at hi
  refine Pure.fn hmix b96 ?_
  repeat' first
    | with_reducible refine tr_seq ?_
    | ((with_reducible refine tr_region_f ?_ ?_); kernel_rfl)
    | with_reducible refine n_nil ?_
    | exact ⟨rfl, rfl⟩
    | with_reducible refine seqQ_normal ?_
    | with_reducible refine seqQ_exit ?_
    | with_reducible refine seqQ_ret ?_
    | with_reducible refine blkQ_normal ?_
    | with_reducible refine blkQ_exit ?_
    | with_reducible refine blkQ_ret ?_
    | ((with_reducible refine blkQ_exit_ne ?_ ?_); rfl)
    | with_reducible refine tr_block ?_
    | with_reducible refine tr_skip ?_
    | with_reducible refine tr_exit ?_
    | with_reducible refine tr_ret ?_
    | ((with_reducible apply tr_cond_e); rfl)
    | with_reducible refine condT_t ?_
    | with_reducible refine condT_f ?_
    | ((with_reducible apply n_and); rfl; rfl; intro h)
    | ((with_reducible apply n_or); rfl; rfl; intro h)
    | with_reducible refine loopV_exit ?_
    | with_reducible refine loopV_ret ?_
    | ((with_reducible apply n_call (f := 106)); rfl; rfl; exact hi)
    | ((with_reducible apply n_val); rfl; rfl)
    | ((with_reducible apply n_nope); (first | omega | (simp only [decide_eq_true_eq, decide_eq_false_iff_not, Bool.or_eq_true, Bool.and_eq_true, Bool.or_eq_false_iff, Bool.not_eq_true', Bool.not_eq_false'] at *; omega) | (simp_all; done) | (simp_all; omega)))
    | (with_reducible refine condT_split (fun h => ?_) (fun h => ?_))
    | ((with_reducible apply fnQ_told_ret); rfl)
    | ((with_reducible apply fnQ_ret_soft); rfl; rfl)
  · rw [h1, decide_eq_true_eq] at h
    rw [h, idx_self]
  · rfl
  all_goals (rename_i g1 g2; exact absurd (show true = false from g2) (by decide))
theorem pt_self (k : Int) (b : UInt8) (hb : b = 100 ∨ b = 97 ∨ b = 98 ∨ b = 99 ∨ b = 102) : (((⟨#[b]⟩ : ByteArray).size : Int) == 0 || (⟨#[b]⟩ : ByteArray).toList == (pt k).toList) = decide ((pt k).data.toList = [b]) := by
  rcases kind_cases k with rfl | rfl | rfl | rfl | rfl | rfl | rfl | rfl | rfl | rfl | h
  all_goals
    (try rw [pt, if_neg (by omega)])
    rcases hb with rfl | rfl | rfl | rfl | rfl <;> decide +kernel
theorem p_slIndex (k : Int) (b : UInt8) (hb : b = 100 ∨ b = 97 ∨ b = 98 ∨ b = 99 ∨ b = 102) : Pure Go.Proofs.Tryd.prog glD 96 [.str (pt k), .str ⟨#[b]⟩] (.int .i64 (Lib.indexByte (pt k).data.toList b)) := p_slIndexC _ b (pt_self k b hb)
theorem p_strIndex (k : Int) (b : UInt8) (hb : b = 100 ∨ b = 97 ∨ b = 98 ∨ b = 99 ∨ b = 102) : Pure Go.Proofs.Tryd.prog glD 76 [.str (pt k), .str ⟨#[b]⟩] (.int .i64 (Lib.indexByte (pt k).data.toList b)) := by
  refine Pure.fn hmix b76 ?_
  repeat' first
    | with_reducible refine tr_seq ?_
    | ((with_reducible refine tr_region_f ?_ ?_); kernel_rfl)
    | with_reducible refine n_nil ?_
    | with_reducible refine seqQ_normal ?_
    | with_reducible refine seqQ_ret ?_
    | with_reducible refine blkQ_ret ?_
    | with_reducible refine tr_ret ?_
    | ((with_reducible apply n_val); rfl; rfl)
    | ((with_reducible apply n_call (f := 96)); rfl; rfl; exact p_slIndex k b hb)
    | ((with_reducible apply fnQ_told_ret); rfl)
    | ((with_reducible apply fnQ_ret_soft); rfl; rfl)
  rfl
theorem p_strContains (k : Int) (b : UInt8) (hb : b = 100 ∨ b = 97 ∨ b = 98 ∨ b = 99 ∨ b = 102) : Pure Go.Proofs.Tryd.prog glD 59 [.str (pt k), .str ⟨#[b]⟩] (.bool (decide (Lib.indexByte (pt k).data.toList b ≥ 0))) := by
  refine Pure.fn hmix b59 ?_
  repeat' first
    | with_reducible refine tr_seq ?_
    | ((with_reducible refine tr_region_f ?_ ?_); kernel_rfl)
    | with_reducible refine n_nil ?_
    | with_reducible refine seqQ_normal ?_
    | with_reducible refine seqQ_ret ?_
    | with_reducible refine blkQ_ret ?_
    | with_reducible refine tr_ret ?_
    | ((with_reducible apply n_val); rfl; rfl)
    | ((with_reducible apply n_call (f := 76)); rfl; rfl; exact p_strIndex k b hb)
    | ((with_reducible apply fnQ_told_ret); rfl)
    | ((with_reducible apply fnQ_ret_soft); rfl; rfl)
  rfl
theorem p_has (i : In) (b : UInt8) (hb : b = 100 ∨ b = 97 ∨ b = 98 ∨ b = 99 ∨ b = 102) (r : Int → Bool) (hr : ∀ k, decide (Lib.indexByte (pt k).data.toList b ≥ 0) = r k) : Pure Go.Proofs.Tryd.prog glD 33 [pI i, .str ⟨#[b]⟩] (.bool (r i.kind)) := by
  rw [← hr]
  refine Pure.fn hmix b33 ?_
  repeat' first
    | with_reducible refine tr_seq ?_
    | ((with_reducible refine tr_region_f ?_ ?_); kernel_rfl)
    | with_reducible refine n_nil ?_
    | with_reducible refine seqQ_normal ?_
    | with_reducible refine seqQ_ret ?_
    | with_reducible refine blkQ_ret ?_
    | with_reducible refine tr_ret ?_
    | ((with_reducible apply n_val); rfl; rfl)
    | ((with_reducible apply n_new); rfl; (first | (simp only [hn0, hn1, hn2, hn3, hn4, hn5, List.length_cons, List.length_nil, Nat.reduceAdd, Nat.zero_add]; done) | (simp only [hn0, hn1, hn2, hn3, hn4, hn5, List.length_cons, List.length_nil, Nat.reduceAdd, Nat.zero_add]; rfl) | rfl); rfl)
    | ((with_reducible apply n_call (f := 60)); rfl; rfl; exact p_instr_parts ..)
    | ((with_reducible apply n_call (f := 59)); rfl; rfl; exact p_strContains _ b hb)
    | ((with_reducible apply fnQ_told_ret); rfl)
    | ((with_reducible apply fnQ_ret_soft); rfl; rfl)
  rfl
theorem p_hasD (i : In) : Pure Go.Proofs.Tryd.prog glD 33 [pI i, .str ⟨#[100]⟩] (.bool (hD i.kind)) := p_has i 100 (by decide) hD fun k => by
  rcases kind_cases k with rfl | rfl | rfl | rfl | rfl | rfl | rfl | rfl | rfl | rfl | h
  any_goals decide
  rw [pt, if_neg (by omega)]
  simp only [hD, Bool.and_eq_false_iff]
  have : (decide (0 ≤ k) && decide (k ≤ 7)) = false := by simp; omega
  rw [this]; decide
theorem p_hasA (i : In) : Pure Go.Proofs.Tryd.prog glD 33 [pI i, .str ⟨#[97]⟩] (.bool (hA i.kind)) := p_has i 97 (by decide) hA fun k => by
  rcases kind_cases k with rfl | rfl | rfl | rfl | rfl | rfl | rfl | rfl | rfl | rfl | h
  any_goals decide
  rw [pt, if_neg (by omega)]
  have : hA k = false := by simp [hA]; omega
  rw [this]; decide
theorem p_hasB (i : In) : Pure Go.Proofs.Tryd.prog glD 33 [pI i, .str ⟨#[98]⟩] (.bool (hB i.kind)) := p_has i 98 (by decide) hB fun k => by
  rcases kind_cases k with rfl | rfl | rfl | rfl | rfl | rfl | rfl | rfl | rfl | rfl | h
  any_goals decide
  rw [pt, if_neg (by omega)]
  have : hB k = false := by simp [hB]; omega
  rw [this]; decide
theorem p_hasC (i : In) : Pure Go.Proofs.Tryd.prog glD 33 [pI i, .str ⟨#[99]⟩] (.bool (hC i.kind)) := p_has i 99 (by decide) hC fun k => by
  rcases kind_cases k with rfl | rfl | rfl | rfl | rfl | rfl | rfl | rfl | rfl | rfl | h
  any_goals decide
  rw [pt, if_neg (by omega)]
  have : hC k = false := by simp [hC]; omega
  rw [this]; decide
theorem p_hasF (i : In) : Pure Go.Proofs.Tryd.prog glD 33 [pI i, .str ⟨#[102]⟩] (.bool (hF i.kind)) := p_has i 102 (by decide) hF fun k => by
  rcases kind_cases k with rfl | rfl | rfl | rfl | rfl | rfl | rfl | rfl | rfl | rfl | h
  any_goals decide
  rw [pt, if_neg (by omega)]
  have : hF k = false := by simp [hF]; omega
  rw [this]; decide
theorem p_without (i : In) : Pure Go.Proofs.Tryd.prog glD 62 [pI i] (pI { i with id := 0, kind := 0 }) := by
  refine Pure.fn hmix b62 ?_
  repeat' first
    | with_reducible refine tr_seq ?_
    | ((with_reducible refine tr_region_f ?_ ?_); kernel_rfl)
    | with_reducible refine n_nil ?_
    | with_reducible refine seqQ_normal ?_
    | with_reducible refine seqQ_ret ?_
    | with_reducible refine blkQ_ret ?_
    | with_reducible refine tr_ret ?_
    | ((with_reducible apply n_val); rfl; rfl)
    | ((with_reducible apply n_new); rfl; (first | (simp only [hn0, hn1, hn2, hn3, hn4, hn5, List.length_cons, List.length_nil, Nat.reduceAdd, Nat.zero_add]; done) | (simp only [hn0, hn1, hn2, hn3, hn4, hn5, List.length_cons, List.length_nil, Nat.reduceAdd, Nat.zero_add]; rfl) | rfl); rfl)
    | ((with_reducible apply n_store); rfl; rfl; rfl; rfl; rfl)
    | ((with_reducible apply fnQ_told_ret); rfl)
    | ((with_reducible apply fnQ_ret_soft); rfl; rfl)
  rfl

end Go.Vm
