/- Laid. -/
import Derived.Test.YtjegabeechopdaaCbitsI
import Derived.Test.YtjegabeechopdaaWbitsH
/- Walks. -/
set_option maxRecDepth 100000
set_option linter.unusedSimpArgs false
set_option linter.unusedVariables false
namespace Go.Vm
open Go

section
variable {gl : Nat → Option PV}
set_option maxHeartbeats 4000000
set_option exponentiation.threshold 2000
theorem bit_in {M : Int} {a : Nat} {i : Int} (h : Ok M a) (h0 : 0 ≤ i) : (decide (i < M) && a.testBit i.toNat) = a.testBit i.toNat := by
  by_cases hi : i < M
  · simp [hi]
  · rw [testBit_ge h.lt (by omega)]; simp
theorem p_ref_Union (m : Int) (ws : List Nat) (n : Int) (us : List Nat) (hw : W64 ws) (hu : W64 us) : Pure Go.Proofs.Try.prog gl 80 [sv m ws, sv n us] (mk (max (nN m ws) (nN n us)) (vN m ws ||| vN n us)) := by
  have k1 := (rep_sv m ws hw).ok
  have k2 := (rep_sv n us hu).ok
  have hp := p_ref_pick (gl := gl) m ws n us hw hu 0 (vN m ws ||| vN n us) (ok_or k1 k2) (fun i h0 => by rw [bit_in k1 h0, bit_in k2 h0, Nat.testBit_or]; simp)
  refine Pure.fn hmix b80 ?_
  repeat' first
    | with_reducible refine tr_seq ?_
    | ((with_reducible refine tr_region_f ?_ ?_); kernel_rfl)
    | with_reducible refine n_nil ?_
    | with_reducible refine seqQ_normal ?_
    | with_reducible refine seqQ_ret ?_
    | with_reducible refine blkQ_ret ?_
    | with_reducible refine tr_ret ?_
    | refine n_call (f := 113) rfl rfl hp ?_
    | ((with_reducible apply n_val); rfl; rfl)
    | ((with_reducible apply n_new); rfl; (first | (simp only [hn0, hn1, hn2, hn3, hn4, hn5, List.length_cons, List.length_nil, Nat.reduceAdd, Nat.zero_add]; done) | (simp only [hn0, hn1, hn2, hn3, hn4, hn5, List.length_cons, List.length_nil, Nat.reduceAdd, Nat.zero_add]; rfl) | rfl); rfl)
    | ((with_reducible apply n_store); rfl; rfl; rfl; rfl; rfl)
    | ((with_reducible apply fnQ_told_ret); rfl)
    | ((with_reducible apply fnQ_ret_soft); rfl; rfl)
  rfl
theorem p_ref_Minus (m : Int) (ws : List Nat) (n : Int) (us : List Nat) (hw : W64 ws) (hu : W64 us) : Pure Go.Proofs.Try.prog gl 82 [sv m ws, sv n us] (mk (max (nN m ws) (nN n us)) (minus (vN m ws) (vN n us))) := by
  have k1 := (rep_sv m ws hw).ok
  have k2 := (rep_sv n us hu).ok
  have hp := p_ref_pick (gl := gl) m ws n us hw hu 1 (minus (vN m ws) (vN n us)) (ok_minus k1 k2) (fun i h0 => by rw [bit_in k1 h0, bit_in k2 h0, minus_bit]; simp)
  refine Pure.fn hmix b82 ?_
  repeat' first
    | with_reducible refine tr_seq ?_
    | ((with_reducible refine tr_region_f ?_ ?_); kernel_rfl)
    | with_reducible refine n_nil ?_
    | with_reducible refine seqQ_normal ?_
    | with_reducible refine seqQ_ret ?_
    | with_reducible refine blkQ_ret ?_
    | with_reducible refine tr_ret ?_
    | refine n_call (f := 113) rfl rfl hp ?_
    | ((with_reducible apply n_val); rfl; rfl)
    | ((with_reducible apply n_new); rfl; (first | (simp only [hn0, hn1, hn2, hn3, hn4, hn5, List.length_cons, List.length_nil, Nat.reduceAdd, Nat.zero_add]; done) | (simp only [hn0, hn1, hn2, hn3, hn4, hn5, List.length_cons, List.length_nil, Nat.reduceAdd, Nat.zero_add]; rfl) | rfl); rfl)
    | ((with_reducible apply n_store); rfl; rfl; rfl; rfl; rfl)
    | ((with_reducible apply fnQ_told_ret); rfl)
    | ((with_reducible apply fnQ_ret_soft); rfl; rfl)
  rfl
theorem p_ref_Meet (m : Int) (ws : List Nat) (n : Int) (us : List Nat) (hw : W64 ws) (hu : W64 us) : Pure Go.Proofs.Try.prog gl 84 [sv m ws, sv n us] (mk (max (nN m ws) (nN n us)) (vN m ws &&& vN n us)) := by
  have k1 := (rep_sv m ws hw).ok
  have k2 := (rep_sv n us hu).ok
  have hp := p_ref_pick (gl := gl) m ws n us hw hu 2 (vN m ws &&& vN n us) (ok_and k1 k2) (fun i h0 => by rw [bit_in k1 h0, bit_in k2 h0, Nat.testBit_and]; simp)
  refine Pure.fn hmix b84 ?_
  repeat' first
    | with_reducible refine tr_seq ?_
    | ((with_reducible refine tr_region_f ?_ ?_); kernel_rfl)
    | with_reducible refine n_nil ?_
    | with_reducible refine seqQ_normal ?_
    | with_reducible refine seqQ_ret ?_
    | with_reducible refine blkQ_ret ?_
    | with_reducible refine tr_ret ?_
    | refine n_call (f := 113) rfl rfl hp ?_
    | ((with_reducible apply n_val); rfl; rfl)
    | ((with_reducible apply n_new); rfl; (first | (simp only [hn0, hn1, hn2, hn3, hn4, hn5, List.length_cons, List.length_nil, Nat.reduceAdd, Nat.zero_add]; done) | (simp only [hn0, hn1, hn2, hn3, hn4, hn5, List.length_cons, List.length_nil, Nat.reduceAdd, Nat.zero_add]; rfl) | rfl); rfl)
    | ((with_reducible apply n_store); rfl; rfl; rfl; rfl; rfl)
    | ((with_reducible apply fnQ_told_ret); rfl)
    | ((with_reducible apply fnQ_ret_soft); rfl; rfl)
  rfl
theorem p_ref_Leq (m : Int) (ws : List Nat) (n : Int) (us : List Nat) (hw : W64 ws) (hu : W64 us) : Pure Go.Proofs.Try.prog gl 85 [sv m ws, sv n us] (.bool (decide (minus (vN m ws) (vN n us) = 0))) := by
  have k1 := (rep_sv m ws hw).ok
  have k2 := (rep_sv n us hu).ok
  have k3 := ok_minus k1 k2
  have hm := p_ref_Minus (gl := gl) m ws n us hw hu
  have hl := p_ref_List (gl := gl) (max (nN m ws) (nN n us)) (words (wN (max (nN m ws) (nN n us))) (minus (vN m ws) (vN n us))) (words_lt _ _)
  rw [nN_mk k3.r.1 k3.r.2 k3.lt, vN_mk k3.r.1 k3.r.2 k3.lt] at hl
  rw [← bList_nil k3]
  refine Pure.fn hmix b85 ?_
  repeat' first
    | with_reducible refine tr_seq ?_
    | ((with_reducible refine tr_region_f ?_ ?_); kernel_rfl)
    | with_reducible refine n_nil ?_
    | with_reducible refine seqQ_normal ?_
    | with_reducible refine seqQ_ret ?_
    | with_reducible refine blkQ_ret ?_
    | with_reducible refine tr_ret ?_
    | refine n_call (f := 82) rfl rfl hm ?_
    | refine n_call (f := 114) rfl rfl hl ?_
    | ((with_reducible apply n_val); rfl; rfl)
    | ((with_reducible apply n_new); rfl; (first | (simp only [hn0, hn1, hn2, hn3, hn4, hn5, List.length_cons, List.length_nil, Nat.reduceAdd, Nat.zero_add]; done) | (simp only [hn0, hn1, hn2, hn3, hn4, hn5, List.length_cons, List.length_nil, Nat.reduceAdd, Nat.zero_add]; rfl) | rfl); rfl)
    | ((with_reducible apply fnQ_told_ret); rfl)
    | ((with_reducible apply fnQ_ret_soft); rfl; rfl)
  rw [ints_length]
theorem p_ref_Same (m : Int) (ws : List Nat) (n : Int) (us : List Nat) (hw : W64 ws) (hu : W64 us) : Pure Go.Proofs.Try.prog gl 86 [sv m ws, sv n us] (.bool (nN m ws == nN n us && decide (vN m ws = vN n us))) := by
  have k1 := (rep_sv m ws hw).ok
  have k2 := (rep_sv n us hu).ok
  have hl := bList_len (vN m ws) (nN m ws) k1.r.1
  have hr := k1.r
  refine Pure.fn hmix b86 ?_
  repeat' first
    | with_reducible refine tr_seq ?_
    | ((with_reducible refine tr_region_f ?_ ?_); kernel_rfl)
    | ((with_reducible refine tr_region_t ?_ ?_ ?_); kernel_rfl; kernel_rfl)
    | with_reducible refine n_nil ?_
    | exact ⟨rfl, rfl⟩
    | with_reducible refine seqQ_normal ?_
    | with_reducible refine seqQ_ret ?_
    | with_reducible refine blkQ_ret ?_
    | with_reducible refine tr_ret ?_
    | ((with_reducible apply n_and); rfl; rfl; intro h)
    | ((with_reducible apply n_or); rfl; rfl; intro h)
    | ((with_reducible apply n_val); rfl; rfl)
    | ((with_reducible apply n_new); rfl; (first | (simp only [hn0, hn1, hn2, hn3, hn4, hn5, List.length_cons, List.length_nil, Nat.reduceAdd, Nat.zero_add]; done) | (simp only [hn0, hn1, hn2, hn3, hn4, hn5, List.length_cons, List.length_nil, Nat.reduceAdd, Nat.zero_add]; rfl) | rfl); rfl)
    | ((with_reducible apply n_call (f := 115)); rfl; rfl; exact p_ref_size m ws hw)
    | ((with_reducible apply n_call (f := 115)); rfl; rfl; exact p_ref_size n us hu)
    | ((with_reducible apply n_call (f := 114)); rfl; rfl; exact p_ref_List m ws hw)
    | ((with_reducible apply n_call (f := 114)); rfl; rfl; exact p_ref_List n us hu)
    | ((with_reducible apply n_call (f := 59)); rfl; rfl; exact p_Ints _ _ (by omega))
    | ((with_reducible apply fnQ_told_ret); rfl)
    | ((with_reducible apply fnQ_ret_soft); rfl; rfl)
  refine congrArg PV.bool ?_
  by_cases e : nN m ws = nN n us
  · rw [e] at k1 ⊢
    rw [bList_eq k1 k2]
  · have : (nN m ws == nN n us) = false := by simpa using e
    rw [this]; rfl
theorem p_law01_theirs (n : Int) (ws : List Nat) : Pure Go.Proofs.Try.prog gl 78 [sv n ws] (sv n ws) := by
  refine Pure.fn hmix b78 ?_
  repeat' first
    | with_reducible refine tr_seq ?_
    | ((with_reducible refine tr_region_f ?_ ?_); kernel_rfl)
    | with_reducible refine n_nil ?_
    | with_reducible refine seqQ_normal ?_
    | with_reducible refine seqQ_ret ?_
    | with_reducible refine blkQ_ret ?_
    | with_reducible refine tr_ret ?_
    | ((with_reducible apply n_val); rfl; rfl)
    | ((with_reducible apply n_new); rfl; (first | (simp only [hn0, hn1, hn2, hn3, hn4, hn5, List.length_cons, List.length_nil, Nat.reduceAdd, Nat.zero_add]; done) | (simp only [hn0, hn1, hn2, hn3, hn4, hn5, List.length_cons, List.length_nil, Nat.reduceAdd, Nat.zero_add]; rfl) | rfl); rfl)
    | ((with_reducible apply n_store); rfl; rfl; rfl; rfl; rfl)
    | ((with_reducible apply fnQ_told_ret); rfl)
    | ((with_reducible apply fnQ_ret_soft); rfl; rfl)
  rfl
theorem l_BitsTwo (m : Int) (ws : List Nat) (n : Int) (us : List Nat) (hw : W64 ws) (hu : W64 us) : Pure Go.Proofs.Try.prog gl 16 [sv m ws, sv n us] (.bool true) := by
  have hr : 0 ≤ max (nN m ws) (nN n us) ∧ max (nN m ws) (nN n us) ≤ 1024 := by have := nN_r m ws; have := nN_r n us; omega
  have hk := wN_small hr.2
  refine Pure.fn hmix b16 ?_
  repeat' first
    | with_reducible refine tr_seq ?_
    | ((with_reducible refine tr_region_f ?_ ?_); kernel_rfl)
    | ((with_reducible refine tr_region_t ?_ ?_ ?_); kernel_rfl; kernel_rfl)
    | with_reducible refine n_nil ?_
    | exact ⟨rfl, rfl⟩
    | with_reducible refine seqQ_normal ?_
    | with_reducible refine seqQ_ret ?_
    | with_reducible refine blkQ_ret ?_
    | with_reducible refine tr_skip ?_
    | with_reducible refine tr_ret ?_
    | ((with_reducible apply tr_cond_e); rfl)
    | with_reducible refine condT_t ?_
    | with_reducible refine condT_f ?_
    | ((with_reducible apply n_and); rfl; rfl; intro h)
    | ((with_reducible apply n_or); rfl; rfl; intro h)
    | ((with_reducible apply n_val); rfl; rfl)
    | ((with_reducible apply n_new); rfl; (first | (simp only [hn0, hn1, hn2, hn3, hn4, hn5, List.length_cons, List.length_nil, Nat.reduceAdd, Nat.zero_add]; done) | (simp only [hn0, hn1, hn2, hn3, hn4, hn5, List.length_cons, List.length_nil, Nat.reduceAdd, Nat.zero_add]; rfl) | rfl); rfl)
    | ((with_reducible apply n_store); rfl; rfl; rfl; rfl; rfl)
    | ((with_reducible apply n_call (f := 67)); rfl; rfl; exact p_law01_awake)
    | ((with_reducible apply n_call (f := 75)); rfl; rfl; exact p_law01_few ..)
    | ((with_reducible apply n_call (f := 76)); rfl; rfl; exact p_law01_ours ..)
    | ((with_reducible apply n_call (f := 78)); rfl; rfl; exact p_law01_theirs ..)
    | ((with_reducible apply n_call (f := 79)); rfl; rfl; exact p_bits_Union m ws n us hw hu)
    | ((with_reducible apply n_call (f := 81)); rfl; rfl; exact p_bits_Minus m ws n us hw hu)
    | ((with_reducible apply n_call (f := 83)); rfl; rfl; exact p_bits_Meet m ws n us hw hu)
    | ((with_reducible apply n_call (f := 70)); rfl; rfl; exact p_bits_Leq m ws n us hw hu)
    | ((with_reducible apply n_call (f := 71)); rfl; rfl; exact p_bits_Same m ws n us hw hu)
    | ((with_reducible apply n_call (f := 80)); rfl; rfl; exact p_ref_Union m ws n us hw hu)
    | ((with_reducible apply n_call (f := 82)); rfl; rfl; exact p_ref_Minus m ws n us hw hu)
    | ((with_reducible apply n_call (f := 84)); rfl; rfl; exact p_ref_Meet m ws n us hw hu)
    | ((with_reducible apply n_call (f := 85)); rfl; rfl; exact p_ref_Leq m ws n us hw hu)
    | ((with_reducible apply n_call (f := 86)); rfl; rfl; exact p_ref_Same m ws n us hw hu)
    | ((with_reducible apply n_call (f := 77)); rfl; rfl; exact p_ref_Equal _ _ _ _ (by rw [words_length]; omega))
    | (with_reducible refine condT_split (fun h => ?_) (fun h => ?_))
    | ((with_reducible apply fnQ_told_ret); rfl)
    | ((with_reducible apply fnQ_ret_soft); rfl; rfl)
  · rfl
  · simp
end

end Go.Vm
