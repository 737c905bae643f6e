/- Laid. -/
import Derived.Test.YtlllcmahmgdppaaDoorVmThree
import Derived.KernelRfl
import Derived.Test.YtlllcmahmgdppaaDoorProg
import Derived.Test.YtlllcmahmgdppaaDoorXprogE
import Derived.Test.YtlllcmahmgdppaaDoorLAll
section
/- Code. -/
set_option maxRecDepth 100000
set_option linter.unusedSimpArgs false
set_option linter.unusedVariables false
namespace Go.Vm
open Go
def c4 : RFn := ⟨(.seq (.region (Nodes.flat none (.op (some 2) (.box (.t 0)) 0
  (.op (some 4) (.move (.c (.bool false))) 0
  .nil))) false)
 (.seq (.region (Nodes.flat none (.op (some 18) (.call 6 []) 0
  (.op (some 5) (.move (.t 18)) 0
  .nil))) false)
 (.seq (.seq (.region (Nodes.flat none (.op (some 19) (.load (some 1) (.t 2)) 0
  (.op (some 20) (.call 7 [(.t 19)]) 0
  (.op (some 21) (.un .not (.t 20)) 0
  (.op (some 22) (.move (.t 21)) 0
  (.grd 22 false
  (.op (some 23) (.load (some 1) (.t 2)) 0
  (.op (some 24) (.call 8 [(.t 23)]) 0
  (.op (some 25) (.un .not (.t 24)) 0
  .nil)))
  (.op (some 26) (.pick (.t 22) (.c (.bool true)) (.t 25)) 0
  (.op (some 27) (.move (.t 26)) 0
  (.grd 27 false
  (.op (some 28) (.fieldAddr 0 (.t 2)) 0
  (.op (some 29) (.load none (.t 28)) 0
  (.op (some 30) (.len false (.t 29)) 0
  (.op (some 31) (.bin .eql (.t 30) (.c (.int .i64 0))) 0
  .nil))))
  (.op (some 32) (.pick (.t 27) (.c (.bool true)) (.t 31)) 0
  .nil)))))))))) false)
 (.cond (.t 32)
 (.seq (.region (Nodes.flat none (.op (some 33) (.move (.t 5)) 0
  (.op (some 4) (.move (.t 33)) 0
  .nil))) false)
 .ret)
 .skip))
 (.seq (.region (Nodes.flat none (.op (some 34) (.move (.t 1)) 0
  (.op (some 35) (.bin .and (.t 34) (.c (.int .i64 65535))) 0
  (.op (some 36) (.fieldAddr 0 (.t 2)) 0
  (.op (some 37) (.load none (.t 36)) 0
  (.op (some 38) (.len false (.t 37)) 0
  (.op (some 39) (.bin .rem (.t 35) (.t 38)) 0
  (.op (some 6) (.move (.t 39)) 0
  .nil)))))))) false)
 (.seq (.region (Nodes.flat none (.op (some 41) (.load (some 1) (.t 2)) 0
  (.op (some 42) (.move (.t 6)) 0
  (.op (some 43) (.call 12 [(.t 41), (.t 42)]) 0
  (.op (some 40) (.move (.t 43)) 0
  (.op (some 44) (.extract 0 (.t 40)) 0
  (.op (some 45) (.extract 1 (.t 40)) 0
  (.op (some 7) (.alloc (.agg [(.int .i64 0), (.int .i64 0), (.lit [])])) 0
  (.op none (.store 3 (.t 7) (.t 44)) 0
  (.op (some 8) (.move (.t 45)) 0
  .nil)))))))))) false)
 (.seq (.seq (.region (Nodes.flat none (.op (some 46) (.move (.t 8)) 0
  (.op (some 47) (.un .not (.t 46)) 0
  .nil))) false)
 (.cond (.t 47)
 (.seq (.region (Nodes.flat none (.op (some 4) (.move (.c (.bool false))) 0
  .nil)) false)
 .ret)
 .skip))
 (.seq (.region (Nodes.flat none (.op (some 9) (.move (.c (.int .i64 0))) 0
  .nil)) false)
 (.seq (.region (Nodes.flat none (.op (some 10) (.move (.c (.int .i64 0))) 0
  .nil)) false)
 (.seq (.seq (.region (Nodes.flat none (.op (some 11) (.move (.c (.int .i64 0))) 0
  .nil)) false)
 (.block 0 (.loop (.seq (.seq (.region (Nodes.flat none (.op (some 48) (.move (.t 11)) 0
  (.op (some 49) (.fieldAddr 2 (.t 7)) 0
  (.op (some 50) (.load none (.t 49)) 0
  (.op (some 51) (.len false (.t 50)) 0
  (.op (some 52) (.bin .lss (.t 48) (.t 51)) 0
  .nil)))))) false)
 (.cond (.t 52)
 .skip
 (.exit 0)))
 (.seq (.block 1 (.seq (.region (Nodes.flat none (.op (some 55) (.load (some 1) (.t 2)) 0
  (.op (some 56) (.move (.t 6)) 0
  (.op (some 57) (.move (.t 11)) 0
  (.op (some 58) (.call 14 [(.t 55), (.t 56), (.t 57)]) 0
  (.op (some 12) (.move (.t 58)) 0
  .nil)))))) false)
 (.seq (.region (Nodes.flat none (.op (some 59) (.move (.t 10)) 0
  (.op (some 60) (.move (.t 12)) 0
  (.op (some 61) (.len false (.t 60)) 0
  (.op (some 62) (.bin .add (.t 59) (.t 61)) 0
  (.op (some 10) (.move (.t 62)) 0
  .nil)))))) false)
 (.seq (.region (Nodes.flat none (.op (some 63) (.move (.t 9)) 0
  (.op (some 64) (.fieldAddr 2 (.t 7)) 0
  (.op (some 65) (.load none (.t 64)) 0
  (.op (some 66) (.move (.t 11)) 0
  (.op (some 67) (.idxAddr 3 (.t 65) (.t 66)) 0
  (.op (some 68) (.fieldAddr 2 (.t 67)) 0
  (.op (some 69) (.load none (.t 68)) 0
  (.op (some 70) (.len false (.t 69)) 0
  (.op (some 71) (.bin .add (.t 63) (.t 70)) 0
  (.op (some 9) (.move (.t 71)) 0
  .nil))))))))))) false)
 (.seq (.region (Nodes.flat none (.op (some 13) (.move (.c (.int .i64 0))) 0
  .nil)) false)
 (.block 2 (.loop (.seq (.seq (.region (Nodes.flat none (.op (some 72) (.move (.t 13)) 0
  (.op (some 73) (.move (.t 12)) 0
  (.op (some 74) (.len false (.t 73)) 0
  (.op (some 75) (.bin .lss (.t 72) (.t 74)) 0
  .nil))))) false)
 (.cond (.t 75)
 .skip
 (.exit 2)))
 (.seq (.block 3 (.seq (.region (Nodes.flat none (.op (some 79) (.load (some 1) (.t 2)) 0
  (.op (some 80) (.move (.t 6)) 0
  (.op (some 81) (.move (.t 12)) 0
  (.op (some 82) (.move (.t 13)) 0
  (.op (some 83) (.idxAddr 1 (.t 81) (.t 82)) 12
  (.op (some 84) (.load none (.t 83)) 28
  (.op (some 85) (.call 13 [(.t 79), (.t 80), (.t 84)]) 63
  (.op (some 78) (.move (.t 85)) 127
  (.op (some 86) (.extract 0 (.t 78)) 255
  (.op (some 87) (.extract 1 (.t 78)) 255
  (.op (some 14) (.alloc (.agg [(.bool false), (.lit []), (.lit [])])) 0
  (.op none (.store 3 (.t 14) (.t 86)) 1535
  (.op (some 15) (.move (.t 87)) 4095
  .nil)))))))))))))) true)
 (.seq (.region (Nodes.flat none (.op (some 16) (.move (.c (.bool false))) 0
  .nil)) false)
 (.seq (.seq (.region (Nodes.flat none (.op (some 17) (.move (.c (.int .i64 0))) 0
  .nil)) false)
 (.block 4 (.loop (.seq (.seq (.region (Nodes.flat none (.op (some 88) (.move (.t 17)) 0
  (.op (some 89) (.fieldAddr 2 (.t 14)) 0
  (.op (some 90) (.load none (.t 89)) 0
  (.op (some 91) (.len false (.t 90)) 0
  (.op (some 92) (.bin .lss (.t 88) (.t 91)) 0
  .nil)))))) false)
 (.cond (.t 92)
 .skip
 (.exit 4)))
 (.seq (.block 5 (.region (Nodes.flat none (.op (some 95) (.move (.t 16)) 0
  (.op (some 96) (.move (.t 95)) 0
  (.grd 96 false
  (.op (some 97) (.fieldAddr 2 (.t 14)) 0
  (.op (some 98) (.load none (.t 97)) 0
  (.op (some 99) (.move (.t 17)) 0
  (.op (some 100) (.idxAddr 1 (.t 98) (.t 99)) 0
  (.op (some 101) (.load none (.t 100)) 0
  (.op (some 102) (.move (.t 11)) 0
  (.op (some 103) (.bin .eql (.t 101) (.t 102)) 0
  .nil)))))))
  (.op (some 104) (.pick (.t 96) (.c (.bool true)) (.t 103)) 0
  (.op (some 16) (.move (.t 104)) 0
  .nil)))))) false))
 (.region (Nodes.flat none (.op (some 93) (.move (.t 17)) 0
  (.op (some 94) (.bin .add (.t 93) (.c (.int .i64 1))) 0
  (.op (some 17) (.move (.t 94)) 0
  .nil)))) false))))))
 (.seq (.region (Nodes.flat none (.op (some 105) (.move (.t 15)) 0
  (.op (some 106) (.un .not (.t 105)) 1
  (.op (some 107) (.move (.t 106)) 3
  (.grd 107 false
  (.op (some 108) (.move (.t 16)) 7
  (.op (some 109) (.un .not (.t 108)) 15
  .nil))
  (.op (some 110) (.pick (.t 107) (.c (.bool true)) (.t 109)) 31
  (.op (some 111) (.move (.t 110)) 63
  (.grd 111 false
  (.op (some 112) (.move (.t 13)) 127
  (.op (some 113) (.bin .gtr (.t 112) (.c (.int .i64 0))) 255
  (.op (some 114) (.move (.t 113)) 511
  (.grd 114 true
  (.op (some 115) (.move (.t 12)) 1023
  (.op (some 116) (.move (.t 13)) 1023
  (.op (some 117) (.idxAddr 1 (.t 115) (.t 116)) 4095
  (.op (some 118) (.load none (.t 117)) 8191
  (.op (some 119) (.move (.t 12)) 1023
  (.op (some 120) (.move (.t 13)) 1023
  (.op (some 121) (.bin .sub (.t 120) (.c (.int .i64 1))) 33791
  (.op (some 122) (.idxAddr 1 (.t 119) (.t 121)) 115711
  (.op (some 123) (.load none (.t 122)) 246783
  (.op (some 124) (.bin .leq (.t 118) (.t 123)) 524287
  .nil))))))))))
  (.op (some 125) (.pick (.t 114) (.t 124) (.c (.bool false))) 1048575
  .nil)))))
  (.op (some 126) (.pick (.t 111) (.c (.bool true)) (.t 125)) 2097151
  .nil))))))))) true)
 (.cond (.t 126)
 (.seq (.region (Nodes.flat none (.op (some 4) (.move (.c (.bool false))) 0
  .nil)) false)
 .ret)
 .skip))))))
 (.region (Nodes.flat none (.op (some 76) (.move (.t 13)) 0
  (.op (some 77) (.bin .add (.t 76) (.c (.int .i64 1))) 0
  (.op (some 13) (.move (.t 77)) 0
  .nil)))) false))))))))))
 (.region (Nodes.flat none (.op (some 53) (.move (.t 11)) 0
  (.op (some 54) (.bin .add (.t 53) (.c (.int .i64 1))) 0
  (.op (some 11) (.move (.t 54)) 0
  .nil)))) false))))))
 (.seq (.region (Nodes.flat none (.op (some 127) (.move (.t 5)) 0
  (.op (some 128) (.move (.t 127)) 0
  (.grd 128 true
  (.op (some 129) (.move (.t 9)) 0
  (.op (some 130) (.move (.t 10)) 0
  (.op (some 131) (.bin .eql (.t 129) (.t 130)) 0
  .nil)))
  (.op (some 132) (.pick (.t 128) (.t 131) (.c (.bool false))) 0
  (.op (some 4) (.move (.t 132)) 0
  .nil)))))) false)
 .ret)))))))))),
 [.tmp 4]⟩
theorem b4 : fnOf Go.Proofs.Tryd.prog (owOf []) 4 = some c4 := by kernel_rfl
end Go.Vm
end
section
/- Walks. -/
set_option maxRecDepth 100000
set_option linter.unusedSimpArgs false
set_option linter.unusedVariables false
namespace Go.Vm
open Go
set_option maxHeartbeats 4000000
theorem sane_edges {p : List Fn} {g : Fn} (sp : sane p = true) (hg : g ∈ p) : folS g g.bs.length = preS g g.bs.length := fol_pre fun k hk => by
  have hb := okF_blk (sane_ok sp hg) (getD_mem B0 hk)
  have h2 := hb
  simp only [okB, bad2, Bool.and_eq_true, Bool.not_eq_true', Bool.or_eq_false_iff, Bool.not_eq_false'] at h2
  refine ⟨rises_nodup h2.1.2.1, fun x hx => ?_⟩
  have := okB_live hb (b := x) (by simpa using hx)
  simp only [liveF, Bool.and_eq_true, decide_eq_true_eq] at this
  exact ⟨this.1.1, this.1.2⟩
theorem preds_block {p : List Fn} {g : Fn} {b x : Int} (sp : sane p = true) (hg : g ∈ p) (h : x ∈ predsV g b) : liveF g x = true ∧ (g.bs.getD x.toNat B0).succ.contains b = true := by
  obtain ⟨k, rfl, hk, hc⟩ := predsV_mem h
  rw [Int.toNat_natCast]
  refine ⟨?_, hc⟩
  have hb := okF_blk (sane_ok sp hg) (getD_mem B0 hk)
  have hl : (g.bs.getD k B0).live = true := by
    cases hl : (g.bs.getD k B0).live with
    | true => rfl
    | false =>
      simp only [okB, bad1, hl, Bool.and_eq_true, Bool.not_eq_true', Bool.not_false, Bool.true_and, decide_eq_false_iff_not] at hb
      have : (g.bs.getD k B0).succ.length = 0 := by omega
      rw [List.length_eq_zero_iff.mp this] at hc
      cases hc
  simp only [liveF, Bool.and_eq_true, decide_eq_true_eq, Int.toNat_natCast]
  exact ⟨⟨by omega, by omega⟩, hl⟩
theorem l_ProgEdges (p : List Fn) (f : Int) : Pure Go.Proofs.Tryd.prog glD 4 [pP p, .int .i64 f] (.bool true) := by
  have hw := p_Few (gl := glD) p
  cases hf : few p with
  | false =>
    rw [hf] at hw
    refine Pure.fn hmix b4 ?_
    repeat' first
      | with_reducible refine tr_seq ?_
      | ((with_reducible refine tr_region_f ?_ ?_); kernel_rfl)
      | ((with_reducible refine tr_region_t ?_ ?_ ?_); kernel_rfl; kernel_rfl)
      | with_reducible refine n_nil ?_
      | exact ⟨rfl, rfl⟩
      | with_reducible refine seqQ_normal ?_
      | with_reducible refine seqQ_exit ?_
      | with_reducible refine seqQ_ret ?_
      | with_reducible refine blkQ_normal ?_
      | with_reducible refine blkQ_exit ?_
      | with_reducible refine blkQ_ret ?_
      | ((with_reducible refine blkQ_exit_ne ?_ ?_); rfl)
      | with_reducible refine tr_block ?_
      | with_reducible refine tr_skip ?_
      | with_reducible refine tr_exit ?_
      | with_reducible refine tr_ret ?_
      | ((with_reducible apply tr_cond_e); rfl)
      | with_reducible refine condT_t ?_
      | with_reducible refine condT_f ?_
      | ((with_reducible refine condT_T ?_ ?_); decide +kernel)
      | ((with_reducible refine condT_F ?_ ?_); decide +kernel)
      | ((with_reducible apply n_andF); rfl; rfl; decide +kernel)
      | ((with_reducible apply n_orT); rfl; rfl; decide +kernel)
      | ((with_reducible apply n_and); rfl; rfl; intro h)
      | ((with_reducible apply n_or); rfl; rfl; intro h)
      | with_reducible refine loopV_exit ?_
      | with_reducible refine loopV_ret ?_
      | with_reducible refine unrQ_normal ?_
      | with_reducible refine unrQ_exit ?_
      | with_reducible refine unrQ_ret ?_
      | ((with_reducible apply n_call (f := 7)); rfl; rfl; exact hw)
      | ((with_reducible apply n_val); rfl; rfl)
      | ((with_reducible apply n_new); rfl; (first | (simp only [hn0, hn1, hn2, hn3, hn4, hn5, List.length_cons, List.length_nil, Nat.reduceAdd, Nat.zero_add]; done) | (simp only [hn0, hn1, hn2, hn3, hn4, hn5, List.length_cons, List.length_nil, Nat.reduceAdd, Nat.zero_add]; rfl) | rfl); rfl)
      | ((with_reducible apply n_store); rfl; rfl; rfl; rfl; rfl)
      | ((with_reducible apply n_call (f := 6)); rfl; rfl; exact p_awake)
      | (with_reducible refine condT_split (fun h => ?_) (fun h => ?_))
      | ((with_reducible apply fnQ_told_ret); rfl)
      | ((with_reducible apply fnQ_ret_soft); rfl; rfl)
    all_goals rfl
  | true =>
    rw [hf] at hw
    have hp := few_fit hf
    have hs := p_Sane p hp
    cases sp : sane p with
    | false =>
      rw [sp] at hs
      refine Pure.fn hmix b4 ?_
      repeat' first
        | with_reducible refine tr_seq ?_
        | ((with_reducible refine tr_region_f ?_ ?_); kernel_rfl)
        | ((with_reducible refine tr_region_t ?_ ?_ ?_); kernel_rfl; kernel_rfl)
        | with_reducible refine n_nil ?_
        | exact ⟨rfl, rfl⟩
        | with_reducible refine seqQ_normal ?_
        | with_reducible refine seqQ_exit ?_
        | with_reducible refine seqQ_ret ?_
        | with_reducible refine blkQ_normal ?_
        | with_reducible refine blkQ_exit ?_
        | with_reducible refine blkQ_ret ?_
        | ((with_reducible refine blkQ_exit_ne ?_ ?_); rfl)
        | with_reducible refine tr_block ?_
        | with_reducible refine tr_skip ?_
        | with_reducible refine tr_exit ?_
        | with_reducible refine tr_ret ?_
        | ((with_reducible apply tr_cond_e); rfl)
        | with_reducible refine condT_t ?_
        | with_reducible refine condT_f ?_
        | ((with_reducible refine condT_T ?_ ?_); decide +kernel)
        | ((with_reducible refine condT_F ?_ ?_); decide +kernel)
        | ((with_reducible apply n_andF); rfl; rfl; decide +kernel)
        | ((with_reducible apply n_orT); rfl; rfl; decide +kernel)
        | ((with_reducible apply n_and); rfl; rfl; intro h)
        | ((with_reducible apply n_or); rfl; rfl; intro h)
        | with_reducible refine loopV_exit ?_
        | with_reducible refine loopV_ret ?_
        | with_reducible refine unrQ_normal ?_
        | with_reducible refine unrQ_exit ?_
        | with_reducible refine unrQ_ret ?_
        | ((with_reducible apply n_call (f := 7)); rfl; rfl; exact hw)
        | ((with_reducible apply n_call (f := 8)); rfl; rfl; exact hs)
        | ((with_reducible apply n_val); rfl; rfl)
        | ((with_reducible apply n_new); rfl; (first | (simp only [hn0, hn1, hn2, hn3, hn4, hn5, List.length_cons, List.length_nil, Nat.reduceAdd, Nat.zero_add]; done) | (simp only [hn0, hn1, hn2, hn3, hn4, hn5, List.length_cons, List.length_nil, Nat.reduceAdd, Nat.zero_add]; rfl) | rfl); rfl)
        | ((with_reducible apply n_store); rfl; rfl; rfl; rfl; rfl)
        | ((with_reducible apply n_call (f := 6)); rfl; rfl; exact p_awake)
        | (with_reducible refine condT_split (fun h => ?_) (fun h => ?_))
        | ((with_reducible apply fnQ_told_ret); rfl)
        | ((with_reducible apply fnQ_ret_soft); rfl; rfl)
      all_goals rfl
    | true =>
      rw [sp] at hs
      by_cases h0 : p.length = 0
      · refine Pure.fn hmix b4 ?_
        have hz : (((p.map pF).length : Nat) : Int) = 0 := by rw [List.length_map]; omega
        repeat' first
          | with_reducible refine tr_seq ?_
          | ((with_reducible refine tr_region_f ?_ ?_); kernel_rfl)
          | ((with_reducible refine tr_region_t ?_ ?_ ?_); kernel_rfl; kernel_rfl)
          | with_reducible refine n_nil ?_
          | exact ⟨rfl, rfl⟩
          | with_reducible refine seqQ_normal ?_
          | with_reducible refine seqQ_exit ?_
          | with_reducible refine seqQ_ret ?_
          | with_reducible refine blkQ_normal ?_
          | with_reducible refine blkQ_exit ?_
          | with_reducible refine blkQ_ret ?_
          | ((with_reducible refine blkQ_exit_ne ?_ ?_); rfl)
          | with_reducible refine tr_block ?_
          | with_reducible refine tr_skip ?_
          | with_reducible refine tr_exit ?_
          | with_reducible refine tr_ret ?_
          | ((with_reducible apply tr_cond_e); rfl)
          | with_reducible refine condT_t ?_
          | with_reducible refine condT_f ?_
          | ((with_reducible refine condT_T ?_ ?_); decide +kernel)
          | ((with_reducible refine condT_F ?_ ?_); decide +kernel)
          | ((with_reducible apply n_andF); rfl; rfl; decide +kernel)
          | ((with_reducible apply n_orT); rfl; rfl; decide +kernel)
          | ((with_reducible apply n_and); rfl; rfl; intro h)
          | ((with_reducible apply n_or); rfl; rfl; intro h)
          | with_reducible refine loopV_exit ?_
          | with_reducible refine loopV_ret ?_
          | with_reducible refine unrQ_normal ?_
          | with_reducible refine unrQ_exit ?_
          | with_reducible refine unrQ_ret ?_
          | ((with_reducible apply n_call (f := 7)); rfl; rfl; exact hw)
          | ((with_reducible apply n_call (f := 8)); rfl; rfl; exact hs)
          | (exfalso; rw [hz] at h; cases h; done)
          | ((with_reducible apply n_val); rfl; rfl)
          | ((with_reducible apply n_new); rfl; (first | (simp only [hn0, hn1, hn2, hn3, hn4, hn5, List.length_cons, List.length_nil, Nat.reduceAdd, Nat.zero_add]; done) | (simp only [hn0, hn1, hn2, hn3, hn4, hn5, List.length_cons, List.length_nil, Nat.reduceAdd, Nat.zero_add]; rfl) | rfl); rfl)
          | ((with_reducible apply n_store); rfl; rfl; rfl; rfl; rfl)
          | ((with_reducible apply n_call (f := 6)); rfl; rfl; exact p_awake)
          | (with_reducible refine condT_split (fun h => ?_) (fun h => ?_))
          | ((with_reducible apply fnQ_told_ret); rfl)
          | ((with_reducible apply fnQ_ret_soft); rfl; rfl)
        all_goals rfl
      obtain ⟨G, hG, hG0, hG1⟩ : ∃ G : Int, binP .rem (.int .i64 (f % 65536)) (.int .i64 (((p.map pF).length : Nat) : Int)) = some (.int .i64 G) ∧ 0 ≤ G ∧ G < (p.length : Nat) := by
        rw [List.length_map]
        exact ⟨_, b_remP (by omega) (by omega), Int.emod_nonneg _ (by omega), Int.emod_lt_of_pos _ (by omega)⟩
      have e1 : funV p G = some (p.getD G.toNat F0) := by rw [funV, if_pos ⟨sp, hG0, hG1⟩]
      have h1 : Pure Go.Proofs.Tryd.prog glD 12 [pP p, .int .i64 G] (.tup [pF ((funV p G).getD F0), .bool (funV p G).isSome]) := p_Fun p G hp
      have h2 : ∀ b, Pure Go.Proofs.Tryd.prog glD 13 [pP p, .int .i64 G, .int .i64 b] (.tup [pB ((blkV p G b).getD B0), .bool (blkV p G b).isSome]) := fun b => p_Block p G b hp
      have h4 : ∀ b, Pure Go.Proofs.Tryd.prog glD 14 [pP p, .int .i64 G, .int .i64 b] (.sl (ints (predsV ((funV p G).getD F0) b))) := fun b => p_Preds p G b hp
      have hg : p.getD G.toNat F0 ∈ p := getD_mem F0 (by omega)
      have hfit : (p.getD G.toNat F0).bs.length ≤ 1000 ∧ ∀ j, j < (p.getD G.toNat F0).bs.length → ((p.getD G.toNat F0).bs.getD j B0).succ.length ≤ 1000 := ⟨hp.bs _ hg, fun j hj => hp.succ _ hg _ (getD_mem B0 hj)⟩
      rw [e1] at h1
      simp only [e1, Option.getD_some] at h4
      have h5 : ∀ b x, x ∈ predsV (p.getD G.toNat F0) b → Pure Go.Proofs.Tryd.prog glD 13 [pP p, .int .i64 G, .int .i64 x] (.tup [pB ((p.getD G.toNat F0).bs.getD x.toNat B0), .bool true]) := fun b x hx => by
        have := h2 x
        rw [blkV, e1, Option.getD_some, if_pos (preds_block sp hg hx).1] at this
        exact this
      have h6 : ∀ b x, x ∈ predsV (p.getD G.toNat F0) b → ((p.getD G.toNat F0).bs.getD x.toNat B0).succ.contains b = true := fun b x hx => (preds_block sp hg hx).2
      have h7 := sane_edges sp hg
      have h8 : ∀ j, ((p.getD G.toNat F0).bs.getD j B0).succ.length ≤ 1000 := fun j => by
        by_cases hj : j < (p.getD G.toNat F0).bs.length
        · exact hfit.2 j hj
        · rw [List.getD_eq_getElem?_getD, List.getElem?_eq_none (by omega)]; exact Nat.zero_le _
      have h1' : Pure Go.Proofs.Tryd.prog glD 12 [pP p, .int .i64 G] (.tup [pF (p.getD G.toNat F0), .bool true]) := h1
      clear h1 h2 e1 hg
      generalize p.getD G.toNat F0 = g at *
      have hm : ∀ b (k : Nat), k < (predsV g b).length → (predsV g b).getD k 0 ∈ predsV g b := fun b k hk => getD_mem 0 hk
      refine Pure.fn hmix b4 ?_
      repeat' first
        | with_reducible refine tr_seq ?_
        | ((with_reducible refine tr_region_f ?_ ?_); kernel_rfl)
        | ((with_reducible refine tr_region_t ?_ ?_ ?_); kernel_rfl; kernel_rfl)
        | with_reducible refine n_nil ?_
        | exact ⟨rfl, rfl⟩
        | with_reducible refine seqQ_normal ?_
        | with_reducible refine seqQ_exit ?_
        | with_reducible refine seqQ_ret ?_
        | with_reducible refine blkQ_normal ?_
        | with_reducible refine blkQ_exit ?_
        | with_reducible refine blkQ_ret ?_
        | ((with_reducible refine blkQ_exit_ne ?_ ?_); rfl)
        | with_reducible refine tr_block ?_
        | with_reducible refine tr_skip ?_
        | with_reducible refine tr_exit ?_
        | with_reducible refine tr_ret ?_
        | ((with_reducible apply tr_cond_e); rfl)
        | with_reducible refine condT_t ?_
        | with_reducible refine condT_f ?_
        | ((with_reducible refine condT_T ?_ ?_); decide +kernel)
        | ((with_reducible refine condT_F ?_ ?_); decide +kernel)
        | ((with_reducible apply n_andF); rfl; rfl; decide +kernel)
        | ((with_reducible apply n_orT); rfl; rfl; decide +kernel)
        | ((with_reducible apply n_and); rfl; rfl; intro h)
        | ((with_reducible apply n_or); rfl; rfl; intro h)
        | with_reducible refine loopV_exit ?_
        | with_reducible refine loopV_ret ?_
        | with_reducible refine unrQ_normal ?_
        | with_reducible refine unrQ_exit ?_
        | with_reducible refine unrQ_ret ?_
        | ((with_reducible apply n_call (f := 7)); rfl; rfl; exact hw)
        | ((with_reducible apply n_call (f := 8)); rfl; rfl; exact hs)
        | ((with_reducible apply n_call (f := 12)); rfl; rfl; exact h1')
        | ((with_reducible apply n_call (f := 14)); rfl; rfl; exact h4 _)
        | ((with_reducible apply n_call (f := 13)); rfl; rfl; exact h5 (b : Int) _ (hm _ k (by first | omega | decide | (simp only [decide_eq_true_eq, decide_eq_false_iff_not, Bool.or_eq_false_iff, Bool.and_eq_true, Bool.not_eq_true', Bool.not_eq_false', Bool.not_true, Bool.not_false, ints_length, List.length_map, Int.toNat_natCast] at *; omega))))
        | ((with_reducible apply n_bin); rfl; rfl; exact b_and65535 _)
        | ((with_reducible apply n_bin); rfl; rfl; exact hG)
        | ((with_reducible apply n_idx_vals B0); rfl; rfl; exact (fun _ => rfl); (first | omega | decide | (simp only [decide_eq_true_eq, decide_eq_false_iff_not, Bool.or_eq_false_iff, Bool.and_eq_true, Bool.not_eq_true', Bool.not_eq_false', Bool.not_true, Bool.not_false, ints_length, List.length_map, Int.toNat_natCast] at *; omega)))
        | ((with_reducible apply n_idx_ints); rfl; rfl; (first | omega | decide | (simp only [decide_eq_true_eq, decide_eq_false_iff_not, Bool.or_eq_false_iff, Bool.and_eq_true, Bool.not_eq_true', Bool.not_eq_false', Bool.not_true, Bool.not_false, ints_length, List.length_map, Int.toNat_natCast] at *; omega)))
        | (first | ((with_reducible apply n_bin); rfl; rfl; focus ((with_reducible (first | apply b_add | apply b_sub)) <;> first | omega | decide | (simp only [decide_eq_true_eq, decide_eq_false_iff_not, Bool.or_eq_false_iff, Bool.and_eq_true, Bool.not_eq_true', Bool.not_eq_false', Bool.not_true, Bool.not_false, ints_length, List.length_map, Int.toNat_natCast] at *; omega))) | ((with_reducible apply n_max); rfl; rfl) | ((with_reducible apply n_min); rfl; rfl))
        | (refine tr_loop_v (α := Nat × Int × Int) 2 (fun | (b, fo, pr) => [(9, some (.int .i64 fo)), (10, some (.int .i64 pr)), (11, some (.int .i64 (b : Int))), (48, none), (49, none), (50, none), (51, none), (52, none), (55, none), (56, none), (57, none), (58, none), (12, none), (59, none), (60, none), (61, none), (62, none), (63, none), (64, none), (65, none), (66, none), (67, none), (68, none), (69, none), (70, none), (71, none), (13, none), (72, none), (73, none), (74, none), (75, none), (79, none), (80, none), (81, none), (82, none), (83, none), (84, none), (85, none), (78, none), (86, none), (87, none), (14, none), (15, none), (16, none), (17, none), (88, none), (89, none), (90, none), (91, none), (92, none), (95, none), (96, none), (97, none), (98, none), (99, none), (100, none), (101, none), (102, none), (103, none), (104, none), (93, none), (94, none), (105, none), (106, none), (107, none), (108, none), (109, none), (110, none), (111, none), (112, none), (113, none), (114, none), (115, none), (116, none), (117, none), (118, none), (119, none), (120, none), (121, none), (122, none), (123, none), (124, none), (125, none), (126, none), (4, none), (76, none), (77, none), (53, none), (54, none)]) (fun | (b, fo, pr) => [some ⟨0, 1, [pP p]⟩, some ⟨0, 3, [pF g]⟩]) (fun | (b, fo, pr) => b ≤ g.bs.length ∧ fo = (folS g b : Nat) ∧ pr = (preS g b : Nat) ∧ folS g b ≤ b * 1000 ∧ preS g b ≤ b * 1000 ∧ (predsV g (b : Int)).length ≤ 1000 ∧ (g.bs.getD b B0).succ.length ≤ 1000) (fun | (b, fo, pr) => g.bs.length - b) ((0, 0, 0)) (ks := [9, 10, 11, 48, 49, 50, 51, 52, 55, 56, 57, 58, 12, 59, 60, 61, 62, 63, 64, 65, 66, 67, 68, 69, 70, 71, 13, 72, 73, 74, 75, 79, 80, 81, 82, 83, 84, 85, 78, 86, 87, 14, 15, 16, 17, 88, 89, 90, 91, 92, 95, 96, 97, 98, 99, 100, 101, 102, 103, 104, 93, 94, 105, 106, 107, 108, 109, 110, 111, 112, 113, 114, 115, 116, 117, 118, 119, 120, 121, 122, 123, 124, 125, 126, 4, 76, 77, 53, 54]) (fun _ => rfl) (fun _ => rfl) rfl (by omega) ?_ ⟨⟨_, rfl, rfl⟩, ⟨_, rfl, rfl⟩, ⟨_, rfl, rfl⟩, trivial⟩ ⟨⟨_, rfl, rfl, rfl, (by first |  rfl | exact fzP_pure (ints_pure _) | exact fzP_pure (u64s_pure _) | exact fzP_pure (by assumption) | exact fzP_pure (by first | (simp [pureE, pure1, ints]; done) | (simp_all [pe_int, pe_bool, pe_str, pe_sl, pe_agg, p1_int, p1_bool, p1_str, p1_sl]; done)))⟩, ⟨_, rfl, rfl, rfl, (by first |  rfl | exact fzP_pure (ints_pure _) | exact fzP_pure (u64s_pure _) | exact fzP_pure (by assumption) | exact fzP_pure (by first | (simp [pureE, pure1, ints]; done) | (simp_all [pe_int, pe_bool, pe_str, pe_sl, pe_agg, p1_int, p1_bool, p1_str, p1_sl]; done)))⟩, trivial⟩ ?_; rotate_left; rintro ⟨b, fo, pr⟩ hx; try dsimp only at hx)
        | ((first | (refine loopV_normal ((b + 1, fo + ((ints (g.bs.getD b B0).succ).length : Nat), pr + ((ints (predsV g (b : Int))).length : Nat))) ?_ ⟨⟨_, rfl, rfl⟩, ⟨_, rfl, rfl⟩, ⟨_, rfl, rfl⟩, trivial⟩ ⟨⟨_, rfl, rfl, rfl, (by first |  rfl | exact fzP_pure (ints_pure _) | exact fzP_pure (u64s_pure _) | exact fzP_pure (by assumption) | exact fzP_pure (by first | (simp [pureE, pure1, ints]; done) | (simp_all [pe_int, pe_bool, pe_str, pe_sl, pe_agg, p1_int, p1_bool, p1_str, p1_sl]; done)))⟩, ⟨_, rfl, rfl, rfl, (by first |  rfl | exact fzP_pure (ints_pure _) | exact fzP_pure (u64s_pure _) | exact fzP_pure (by assumption) | exact fzP_pure (by first | (simp [pureE, pure1, ints]; done) | (simp_all [pe_int, pe_bool, pe_str, pe_sl, pe_agg, p1_int, p1_bool, p1_str, p1_sl]; done)))⟩, trivial⟩ ?_ ?_)); repeat (first | exact only_refl | refine only_put rfl ?_ | refine only_less rfl ?_ | refine only_ov rfl ?_))
        | (refine tr_loop_v (α := Nat) 2 (fun | k => [(13, some (.int .i64 (k : Int))), (72, none), (73, none), (74, none), (75, none), (79, none), (80, none), (81, none), (82, none), (83, none), (84, none), (85, none), (78, none), (86, none), (87, none), (14, none), (15, none), (16, none), (17, none), (88, none), (89, none), (90, none), (91, none), (92, none), (95, none), (96, none), (97, none), (98, none), (99, none), (100, none), (101, none), (102, none), (103, none), (104, none), (93, none), (94, none), (105, none), (106, none), (107, none), (108, none), (109, none), (110, none), (111, none), (112, none), (113, none), (114, none), (115, none), (116, none), (117, none), (118, none), (119, none), (120, none), (121, none), (122, none), (123, none), (124, none), (125, none), (126, none), (4, none), (76, none), (77, none)]) (fun | k => [some ⟨0, 1, [pP p]⟩, some ⟨0, 3, [pF g]⟩]) (fun | k => k ≤ (predsV g (b : Int)).length ∧ (predsV g (b : Int)).length ≤ 1000) (fun | k => (predsV g (b : Int)).length - k) (0) (ks := [13, 72, 73, 74, 75, 79, 80, 81, 82, 83, 84, 85, 78, 86, 87, 14, 15, 16, 17, 88, 89, 90, 91, 92, 95, 96, 97, 98, 99, 100, 101, 102, 103, 104, 93, 94, 105, 106, 107, 108, 109, 110, 111, 112, 113, 114, 115, 116, 117, 118, 119, 120, 121, 122, 123, 124, 125, 126, 4, 76, 77]) (fun _ => rfl) (fun _ => rfl) rfl (by omega) ?_ ⟨⟨_, rfl, rfl⟩, trivial⟩ ⟨⟨_, rfl, rfl, rfl, (by first |  rfl | exact fzP_pure (ints_pure _) | exact fzP_pure (u64s_pure _) | exact fzP_pure (by assumption) | exact fzP_pure (by first | (simp [pureE, pure1, ints]; done) | (simp_all [pe_int, pe_bool, pe_str, pe_sl, pe_agg, p1_int, p1_bool, p1_str, p1_sl]; done)))⟩, ⟨_, rfl, rfl, rfl, (by first |  rfl | exact fzP_pure (ints_pure _) | exact fzP_pure (u64s_pure _) | exact fzP_pure (by assumption) | exact fzP_pure (by first | (simp [pureE, pure1, ints]; done) | (simp_all [pe_int, pe_bool, pe_str, pe_sl, pe_agg, p1_int, p1_bool, p1_str, p1_sl]; done)))⟩, trivial⟩ ?_; rotate_left; rintro k hx; try dsimp only at hx)
        | ((first | (refine loopV_normal (k + 1) ?_ ⟨⟨_, rfl, rfl⟩, trivial⟩ ⟨⟨_, rfl, rfl, rfl, (by first |  rfl | exact fzP_pure (ints_pure _) | exact fzP_pure (u64s_pure _) | exact fzP_pure (by assumption) | exact fzP_pure (by first | (simp [pureE, pure1, ints]; done) | (simp_all [pe_int, pe_bool, pe_str, pe_sl, pe_agg, p1_int, p1_bool, p1_str, p1_sl]; done)))⟩, ⟨_, rfl, rfl, rfl, (by first |  rfl | exact fzP_pure (ints_pure _) | exact fzP_pure (u64s_pure _) | exact fzP_pure (by assumption) | exact fzP_pure (by first | (simp [pureE, pure1, ints]; done) | (simp_all [pe_int, pe_bool, pe_str, pe_sl, pe_agg, p1_int, p1_bool, p1_str, p1_sl]; done)))⟩, trivial⟩ ?_ ?_)); repeat (first | exact only_refl | refine only_put rfl ?_ | refine only_less rfl ?_ | refine only_ov rfl ?_))
        | (refine tr_loop_v (α := Nat × Bool) 3 (fun | (j, q) => [(16, some (.bool q)), (17, some (.int .i64 (j : Int))), (88, none), (89, none), (90, none), (91, none), (92, none), (95, none), (96, none), (97, none), (98, none), (99, none), (100, none), (101, none), (102, none), (103, none), (104, none), (93, none), (94, none)]) (fun | (j, q) => [some ⟨0, 1, [pP p]⟩, some ⟨0, 3, [pF g]⟩, some ⟨0, 3, [pB (g.bs.getD ((predsV g (b : Int)).getD k 0).toNat B0)]⟩]) (fun | (j, q) => j ≤ (g.bs.getD ((predsV g (b : Int)).getD k 0).toNat B0).succ.length ∧ (g.bs.getD ((predsV g (b : Int)).getD k 0).toNat B0).succ.length ≤ 1000 ∧ q = ((g.bs.getD ((predsV g (b : Int)).getD k 0).toNat B0).succ.take j).contains (b : Int)) (fun | (j, q) => (g.bs.getD ((predsV g (b : Int)).getD k 0).toNat B0).succ.length - j) ((0, false)) (ks := [16, 17, 88, 89, 90, 91, 92, 95, 96, 97, 98, 99, 100, 101, 102, 103, 104, 93, 94]) (fun _ => rfl) (fun _ => rfl) rfl (by omega) ?_ ⟨⟨_, rfl, rfl⟩, ⟨_, rfl, rfl⟩, trivial⟩ ⟨⟨_, rfl, rfl, rfl, (by first |  rfl | exact fzP_pure (ints_pure _) | exact fzP_pure (u64s_pure _) | exact fzP_pure (by assumption) | exact fzP_pure (by first | (simp [pureE, pure1, ints]; done) | (simp_all [pe_int, pe_bool, pe_str, pe_sl, pe_agg, p1_int, p1_bool, p1_str, p1_sl]; done)))⟩, ⟨_, rfl, rfl, rfl, (by first |  rfl | exact fzP_pure (ints_pure _) | exact fzP_pure (u64s_pure _) | exact fzP_pure (by assumption) | exact fzP_pure (by first | (simp [pureE, pure1, ints]; done) | (simp_all [pe_int, pe_bool, pe_str, pe_sl, pe_agg, p1_int, p1_bool, p1_str, p1_sl]; done)))⟩, ⟨_, rfl, rfl, rfl, (by first |  rfl | exact fzP_pure (ints_pure _) | exact fzP_pure (u64s_pure _) | exact fzP_pure (by assumption) | exact fzP_pure (by first | (simp [pureE, pure1, ints]; done) | (simp_all [pe_int, pe_bool, pe_str, pe_sl, pe_agg, p1_int, p1_bool, p1_str, p1_sl]; done)))⟩, trivial⟩ ?_; rotate_left; rintro ⟨j, q⟩ hx; try dsimp only at hx)
        | ((first | (refine loopV_normal ((j + 1, (q || (g.bs.getD ((predsV g (b : Int)).getD k 0).toNat B0).succ.getD j 0 == (b : Int)))) ?_ ⟨⟨_, rfl, rfl⟩, ⟨_, rfl, rfl⟩, trivial⟩ ⟨⟨_, rfl, rfl, rfl, (by first |  rfl | exact fzP_pure (ints_pure _) | exact fzP_pure (u64s_pure _) | exact fzP_pure (by assumption) | exact fzP_pure (by first | (simp [pureE, pure1, ints]; done) | (simp_all [pe_int, pe_bool, pe_str, pe_sl, pe_agg, p1_int, p1_bool, p1_str, p1_sl]; done)))⟩, ⟨_, rfl, rfl, rfl, (by first |  rfl | exact fzP_pure (ints_pure _) | exact fzP_pure (u64s_pure _) | exact fzP_pure (by assumption) | exact fzP_pure (by first | (simp [pureE, pure1, ints]; done) | (simp_all [pe_int, pe_bool, pe_str, pe_sl, pe_agg, p1_int, p1_bool, p1_str, p1_sl]; done)))⟩, ⟨_, rfl, rfl, rfl, (by first |  rfl | exact fzP_pure (ints_pure _) | exact fzP_pure (u64s_pure _) | exact fzP_pure (by assumption) | exact fzP_pure (by first | (simp [pureE, pure1, ints]; done) | (simp_all [pe_int, pe_bool, pe_str, pe_sl, pe_agg, p1_int, p1_bool, p1_str, p1_sl]; done)))⟩, trivial⟩ ?_ ?_)); repeat (first | exact only_refl | refine only_put rfl ?_ | refine only_less rfl ?_ | refine only_ov rfl ?_))
        | ((with_reducible apply n_val); rfl; rfl)
        | ((with_reducible apply n_new); rfl; (first | (simp only [hn0, hn1, hn2, hn3, hn4, hn5, List.length_cons, List.length_nil, Nat.reduceAdd, Nat.zero_add]; done) | (simp only [hn0, hn1, hn2, hn3, hn4, hn5, List.length_cons, List.length_nil, Nat.reduceAdd, Nat.zero_add]; rfl) | rfl); rfl)
        | ((with_reducible apply n_store); rfl; rfl; rfl; rfl; rfl)
        | ((with_reducible apply n_call (f := 6)); rfl; rfl; exact p_awake)
        | (with_reducible refine condT_split (fun h => ?_) (fun h => ?_))
        | ((with_reducible apply fnQ_told_ret); rfl)
        | ((with_reducible apply fnQ_ret_soft); rfl; rfl)
      all_goals (try dsimp only at *)
      all_goals (try simp only [decide_eq_true_eq, decide_eq_false_iff_not, List.length_map, ints_length, Int.toNat_natCast] at *)
      · omega
      · refine ⟨by omega, hx.2.1, ?_⟩
        have e := contains_take (l := (g.bs.getD ((predsV g (b : Int)).getD k 0).toNat B0).succ) (k := (b : Int)) (n := (j : Int)) (by omega) (by omega)
        rw [show ((j : Int) + 1).toNat = j + 1 by omega, Int.toNat_natCast] at e
        rw [e, ← hx.2.2]
      · exfalso
        rename (_ || _) = true => hb
        have e : j = (g.bs.getD ((predsV g (b : Int)).getD k 0).toNat B0).succ.length := by omega
        have hq := hx.2.2
        rw [e, List.take_length, h6 (b : Int) _ (hm _ k (by omega))] at hq
        rw [hq] at hb
        by_cases hk : 0 < k
        · have := predsV_rise (g := g) (b := (b : Int)) hk (by omega)
          rw [show ((k : Int) - 1).toNat = k - 1 by omega] at hb
          simp only [Bool.not_true, Bool.false_or, Bool.and_eq_true, decide_eq_true_eq] at hb
          omega
        · simp only [Bool.not_true, Bool.false_or, Bool.and_eq_true, decide_eq_true_eq] at hb
          omega
      · omega
      · exact ⟨by omega, by omega⟩
      · exact ⟨Nat.zero_le _, h8 _, rfl⟩
      · omega
      · have e1 := folS_s g b
        have e2 := preS_s g b
        refine ⟨by omega, by omega, by omega, by omega, by omega, ?_, h8 _⟩
        exact Nat.le_trans (predsV_le g _) hfit.1
      · exact ⟨Nat.zero_le _, Nat.le_trans (predsV_le g _) hfit.1⟩
      · have e : b = g.bs.length := by omega
        rw [hx.2.1, hx.2.2.1, e, h7]
        simp
      · exact ⟨Nat.zero_le _, rfl, rfl, Nat.zero_le _, Nat.zero_le _, Nat.le_trans (predsV_le g _) hfit.1, h8 _⟩
end Go.Vm
end
