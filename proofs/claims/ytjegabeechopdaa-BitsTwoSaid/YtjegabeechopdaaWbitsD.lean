/- Laid. -/
import Derived.Test.YtjegabeechopdaaCbitsD
import Derived.Test.YtjegabeechopdaaWbitsC
import Derived.Test.YtjegabeechopdaaLBitsAll
/- Walks. -/
set_option maxRecDepth 100000
set_option linter.unusedSimpArgs false
set_option linter.unusedVariables false
namespace Go.Vm
open Go

section
variable {gl : Nat → Option PV}
set_option maxHeartbeats 4000000
set_option exponentiation.threshold 2000
variable {x y : PV} {M N : Int} {a b : Nat}
theorem r_bits_Union (hx : Rep x M a) (hy : Rep y N b) : Pure Go.Proofs.Try.prog gl 79 [x, y] (mk (max M N) (a ||| b)) := by
  obtain ⟨m, ws, rfl, hw, rfl, rfl⟩ := hx
  obtain ⟨n, us, rfl, hu, rfl, rfl⟩ := hy
  exact p_bits_Union m ws n us hw hu
theorem r_bits_Minus (hx : Rep x M a) (hy : Rep y N b) : Pure Go.Proofs.Try.prog gl 81 [x, y] (mk (max M N) (minus a b)) := by
  obtain ⟨m, ws, rfl, hw, rfl, rfl⟩ := hx
  obtain ⟨n, us, rfl, hu, rfl, rfl⟩ := hy
  exact p_bits_Minus m ws n us hw hu
theorem r_bits_Meet (hx : Rep x M a) (hy : Rep y N b) : Pure Go.Proofs.Try.prog gl 83 [x, y] (mk (max M N) (a &&& b)) := by
  obtain ⟨m, ws, rfl, hw, rfl, rfl⟩ := hx
  obtain ⟨n, us, rfl, hu, rfl, rfl⟩ := hy
  exact p_bits_Meet m ws n us hw hu
theorem r_bits_Leq (hx : Rep x M a) (hy : Rep y N b) : Pure Go.Proofs.Try.prog gl 70 [x, y] (.bool (decide (minus a b = 0))) := by
  obtain ⟨m, ws, rfl, hw, rfl, rfl⟩ := hx
  obtain ⟨n, us, rfl, hu, rfl, rfl⟩ := hy
  exact p_bits_Leq m ws n us hw hu
theorem r_bits_Same (hx : Rep x M a) (hy : Rep y N b) : Pure Go.Proofs.Try.prog gl 71 [x, y] (.bool (M == N && decide (a = b))) := by
  obtain ⟨m, ws, rfl, hw, rfl, rfl⟩ := hx
  obtain ⟨n, us, rfl, hu, rfl, rfl⟩ := hy
  exact p_bits_Same m ws n us hw hu
theorem r_bits_Count (hx : Rep x M a) : Pure Go.Proofs.Try.prog gl 73 [x] (.int .i64 (cn a : Nat)) := by
  obtain ⟨m, ws, rfl, hw, rfl, rfl⟩ := hx
  exact p_bits_Count m ws hw
theorem r_bits_With (hx : Rep x M a) (i : Int) : Pure Go.Proofs.Try.prog gl 69 [x, .int .i64 i] (mk M (vWith M a i)) := by
  obtain ⟨m, ws, rfl, hw, rfl, rfl⟩ := hx
  exact p_bits_With m ws i hw
theorem r_bits_Without (hx : Rep x M a) (i : Int) : Pure Go.Proofs.Try.prog gl 88 [x, .int .i64 i] (mk M (vWout M a i)) := by
  obtain ⟨m, ws, rfl, hw, rfl, rfl⟩ := hx
  exact p_bits_Without m ws i hw
theorem r_bits_Has (hx : Rep x M a) (i : Int) : Pure Go.Proofs.Try.prog gl 72 [x, .int .i64 i] (.bool (decide (0 ≤ i ∧ i < M) && a.testBit i.toNat)) := by
  obtain ⟨m, ws, rfl, hw, rfl, rfl⟩ := hx
  have := p_bits_Has (gl := gl) m ws i hw
  have e : (bSane m ws && decide (0 ≤ i) && decide (i < m) && (val ws).testBit i.toNat) = (decide (0 ≤ i ∧ i < nN m ws) && (vN m ws).testBit i.toNat) := by
    cases hb : bSane m ws with
    | true => rw [sane_nN hb, sane_vN hb, Bool.decide_and]; simp
    | false => rw [unsane_nN hb, unsane_vN hb]; simp
  rwa [e] at this
theorem r_bits_Sane (h : Ok M a) : Pure Go.Proofs.Try.prog gl 87 [mk M a] (.bool true) := by
  have := p_bits_Sane (gl := gl) M (words (wN M) a) (words_lt _ _)
  rwa [mk_sane h.r.1 h.r.2 h.lt] at this
theorem p_law01_few (n : Int) (ws : List Nat) : Pure Go.Proofs.Try.prog gl 75 [sv n ws] (.bool (decide ((ws.length : Int) ≤ 30))) := by
  refine Pure.fn hmix b75 ?_
  repeat' first
    | with_reducible refine tr_seq ?_
    | ((with_reducible refine tr_region_f ?_ ?_); kernel_rfl)
    | with_reducible refine n_nil ?_
    | with_reducible refine seqQ_normal ?_
    | with_reducible refine seqQ_ret ?_
    | with_reducible refine blkQ_ret ?_
    | with_reducible refine tr_ret ?_
    | ((with_reducible apply n_val); rfl; rfl)
    | ((with_reducible apply n_new); rfl; (first | (simp only [hn0, hn1, hn2, hn3, hn4, hn5, List.length_cons, List.length_nil, Nat.reduceAdd, Nat.zero_add]; done) | (simp only [hn0, hn1, hn2, hn3, hn4, hn5, List.length_cons, List.length_nil, Nat.reduceAdd, Nat.zero_add]; rfl) | rfl); rfl)
    | ((with_reducible apply fnQ_told_ret); rfl)
    | ((with_reducible apply fnQ_ret_soft); rfl; rfl)
  rw [u64s_length]
theorem p_law01_ours (n : Int) (ws : List Nat) : Pure Go.Proofs.Try.prog gl 76 [sv n ws] (sv n ws) := by
  refine Pure.fn hmix b76 ?_
  repeat' first
    | with_reducible refine tr_seq ?_
    | ((with_reducible refine tr_region_f ?_ ?_); kernel_rfl)
    | with_reducible refine n_nil ?_
    | with_reducible refine seqQ_normal ?_
    | with_reducible refine seqQ_ret ?_
    | with_reducible refine blkQ_ret ?_
    | with_reducible refine tr_ret ?_
    | ((with_reducible apply n_val); rfl; rfl)
    | ((with_reducible apply n_new); rfl; (first | (simp only [hn0, hn1, hn2, hn3, hn4, hn5, List.length_cons, List.length_nil, Nat.reduceAdd, Nat.zero_add]; done) | (simp only [hn0, hn1, hn2, hn3, hn4, hn5, List.length_cons, List.length_nil, Nat.reduceAdd, Nat.zero_add]; rfl) | rfl); rfl)
    | ((with_reducible apply n_store); rfl; rfl; rfl; rfl; rfl)
    | ((with_reducible apply fnQ_told_ret); rfl)
    | ((with_reducible apply fnQ_ret_soft); rfl; rfl)
  rfl
theorem p_law01_awake : Pure Go.Proofs.Try.prog gl 67 [] (.bool true) := by
  have ho : Pure Go.Proofs.Try.prog gl 74 [.int .i64 70, .sl [.int .i64 3, .int .i64 65]] (sv 70 [8, 2]) := by
    have := p_bits_Of (gl := gl) 70 [3, 65] (by decide)
    rw [show clN 70 = 70 from rfl] at this
    have e : words (wN 70) (ofV 70 [3, 65]) = [8, 2] := by decide +kernel
    exact this.as (congrArg (sv 70) e)
  have hw : W64 [8, 2] := by decide +kernel
  refine Pure.fn hmix b67 ?_
  repeat' first
    | with_reducible refine tr_seq ?_
    | ((with_reducible refine tr_region_f ?_ ?_); kernel_rfl)
    | with_reducible refine n_nil ?_
    | exact ⟨rfl, rfl⟩
    | with_reducible refine seqQ_normal ?_
    | with_reducible refine seqQ_ret ?_
    | with_reducible refine blkQ_ret ?_
    | with_reducible refine tr_ret ?_
    | ((with_reducible apply n_and); rfl; rfl; intro h)
    | ((with_reducible apply n_or); rfl; rfl; intro h)
    | refine n_call (f := 74) rfl rfl ho ?_
    | ((with_reducible apply n_val); rfl; rfl)
    | ((with_reducible apply n_new); rfl; (first | (simp only [hn0, hn1, hn2, hn3, hn4, hn5, List.length_cons, List.length_nil, Nat.reduceAdd, Nat.zero_add]; done) | (simp only [hn0, hn1, hn2, hn3, hn4, hn5, List.length_cons, List.length_nil, Nat.reduceAdd, Nat.zero_add]; rfl) | rfl); rfl)
    | ((with_reducible apply n_store); rfl; rfl; rfl; rfl; rfl)
    | ((with_reducible apply n_call (f := 72)); rfl; rfl; exact p_bits_Has 70 [8, 2] 65 hw)
    | ((with_reducible apply n_call (f := 87)); rfl; rfl; exact p_bits_Sane 70 [8, 2] hw)
    | ((with_reducible apply n_call (f := 73)); rfl; rfl; exact p_bits_Count 70 [8, 2] hw)
    | ((with_reducible apply fnQ_told_ret); rfl)
    | ((with_reducible apply fnQ_ret_soft); rfl; rfl)
  refine congrArg PV.bool ?_
  decide +kernel
theorem l_BitsMinus (m : Int) (ws : List Nat) (n : Int) (us : List Nat) (hw : W64 ws) (hu : W64 us) : Pure Go.Proofs.Try.prog gl 18 [sv m ws, sv n us] (.bool true) := by
  have hx := rep_sv m ws hw
  have hy := rep_sv n us hu
  have h1 := hx.ok
  have h2 := hy.ok
  generalize nN m ws = M at *
  generalize nN n us = N at *
  generalize vN m ws = a at *
  generalize vN n us = b at *
  refine Pure.fn hmix b18 ?_
  repeat' first
    | with_reducible refine tr_seq ?_
    | ((with_reducible refine tr_region_f ?_ ?_); kernel_rfl)
    | ((with_reducible refine tr_region_t ?_ ?_ ?_); kernel_rfl; kernel_rfl)
    | with_reducible refine n_nil ?_
    | exact ⟨rfl, rfl⟩
    | with_reducible refine seqQ_normal ?_
    | with_reducible refine seqQ_ret ?_
    | with_reducible refine blkQ_ret ?_
    | with_reducible refine tr_skip ?_
    | with_reducible refine tr_ret ?_
    | ((with_reducible apply tr_cond_e); rfl)
    | with_reducible refine condT_t ?_
    | with_reducible refine condT_f ?_
    | ((with_reducible apply n_and); rfl; rfl; intro h)
    | ((with_reducible apply n_or); rfl; rfl; intro h)
    | ((with_reducible apply n_val); rfl; rfl)
    | ((with_reducible apply n_new); rfl; (first | (simp only [hn0, hn1, hn2, hn3, hn4, hn5, List.length_cons, List.length_nil, Nat.reduceAdd, Nat.zero_add]; done) | (simp only [hn0, hn1, hn2, hn3, hn4, hn5, List.length_cons, List.length_nil, Nat.reduceAdd, Nat.zero_add]; rfl) | rfl); rfl)
    | ((with_reducible apply n_store); rfl; rfl; rfl; rfl; rfl)
    | ((with_reducible apply n_call (f := 67)); rfl; rfl; exact p_law01_awake)
    | ((with_reducible apply n_call (f := 75)); rfl; rfl; exact p_law01_few ..)
    | ((with_reducible apply n_call (f := 76)); rfl; rfl; exact p_law01_ours ..)
    | ((with_reducible apply n_call (f := 81)); rfl; rfl; exact r_bits_Minus (by first | exact hx | exact hy | exact hz | exact hs | (refine rep_mk ?_; (repeat (first | assumption | exact ok_zero (by omega) | exact ok_ofV _ _ (by assumption) | apply ok_or | apply ok_minus | apply ok_and | apply ok_with | apply ok_wout)))) (by first | exact hx | exact hy | exact hz | exact hs | (refine rep_mk ?_; (repeat (first | assumption | exact ok_zero (by omega) | exact ok_ofV _ _ (by assumption) | apply ok_or | apply ok_minus | apply ok_and | apply ok_with | apply ok_wout)))))
    | ((with_reducible apply n_call (f := 83)); rfl; rfl; exact r_bits_Meet (by first | exact hx | exact hy | exact hz | exact hs | (refine rep_mk ?_; (repeat (first | assumption | exact ok_zero (by omega) | exact ok_ofV _ _ (by assumption) | apply ok_or | apply ok_minus | apply ok_and | apply ok_with | apply ok_wout)))) (by first | exact hx | exact hy | exact hz | exact hs | (refine rep_mk ?_; (repeat (first | assumption | exact ok_zero (by omega) | exact ok_ofV _ _ (by assumption) | apply ok_or | apply ok_minus | apply ok_and | apply ok_with | apply ok_wout)))))
    | ((with_reducible apply n_call (f := 79)); rfl; rfl; exact r_bits_Union (by first | exact hx | exact hy | exact hz | exact hs | (refine rep_mk ?_; (repeat (first | assumption | exact ok_zero (by omega) | exact ok_ofV _ _ (by assumption) | apply ok_or | apply ok_minus | apply ok_and | apply ok_with | apply ok_wout)))) (by first | exact hx | exact hy | exact hz | exact hs | (refine rep_mk ?_; (repeat (first | assumption | exact ok_zero (by omega) | exact ok_ofV _ _ (by assumption) | apply ok_or | apply ok_minus | apply ok_and | apply ok_with | apply ok_wout)))))
    | ((with_reducible apply n_call (f := 70)); rfl; rfl; exact r_bits_Leq (by first | exact hx | exact hy | exact hz | exact hs | (refine rep_mk ?_; (repeat (first | assumption | exact ok_zero (by omega) | exact ok_ofV _ _ (by assumption) | apply ok_or | apply ok_minus | apply ok_and | apply ok_with | apply ok_wout)))) (by first | exact hx | exact hy | exact hz | exact hs | (refine rep_mk ?_; (repeat (first | assumption | exact ok_zero (by omega) | exact ok_ofV _ _ (by assumption) | apply ok_or | apply ok_minus | apply ok_and | apply ok_with | apply ok_wout)))))
    | ((with_reducible apply n_call (f := 71)); rfl; rfl; exact r_bits_Same (by first | exact hx | exact hy | exact hz | exact hs | (refine rep_mk ?_; (repeat (first | assumption | exact ok_zero (by omega) | exact ok_ofV _ _ (by assumption) | apply ok_or | apply ok_minus | apply ok_and | apply ok_with | apply ok_wout)))) (by first | exact hx | exact hy | exact hz | exact hs | (refine rep_mk ?_; (repeat (first | assumption | exact ok_zero (by omega) | exact ok_ofV _ _ (by assumption) | apply ok_or | apply ok_minus | apply ok_and | apply ok_with | apply ok_wout)))))
    | ((with_reducible apply n_call (f := 73)); rfl; rfl; exact r_bits_Count (by first | exact hx | exact hy | exact hz | exact hs | (refine rep_mk ?_; (repeat (first | assumption | exact ok_zero (by omega) | exact ok_ofV _ _ (by assumption) | apply ok_or | apply ok_minus | apply ok_and | apply ok_with | apply ok_wout)))))
    | (with_reducible refine condT_split (fun h => ?_) (fun h => ?_))
    | ((with_reducible apply fnQ_told_ret); rfl)
    | ((with_reducible apply fnQ_ret_soft); rfl; rfl)
  · rfl
  · have h3 := ok_minus h1 h2
    refine congrArg PV.bool ?_
    have e1 : max (max M N) N = max M N := by omega
    have e2 : minus (minus a b) b = minus a b := by
      refine Nat.eq_of_testBit_eq fun i => ?_
      simp only [minus_bit]
      cases a.testBit i <;> cases b.testBit i <;> rfl
    have e3 : minus a b &&& b = 0 := by
      refine Nat.eq_of_testBit_eq fun i => ?_
      rw [Nat.testBit_and, minus_bit, Nat.zero_testBit]
      cases a.testBit i <;> cases b.testBit i <;> rfl
    have e4 := cn_zero h3.lt1024
    have e5 := cn_minus a b
    have e6 : minus a (minus a b ||| b) = 0 := by
      rw [sub_iff]
      intro i hi
      rw [Nat.testBit_or, minus_bit, hi]
      cases b.testBit i <;> rfl
    have e7 : a &&& b = b &&& a := Nat.and_comm a b
    have e8 : max M N = max N M := by omega
    have e9 := cn_le a
    have e10 : cn 0 = 0 := by unfold cn; exact pop_zero 1024
    rw [e1, e2, e3, e4, e6, ← e7, ← e8, wrap_i64_of (by omega), show ((cn a : Nat) : Int) - (cn (a &&& b) : Nat) = (cn (minus a b) : Nat) by omega, e10]
    simp
end

end Go.Vm
