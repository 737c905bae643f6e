/- Laid. -/
import Derived.Test.YtlllcmahmgdppaaGreatDoorVmThree
import Derived.KernelRfl
import Derived.Test.YtlllcmahmgdppaaGreatDoorProg
import Derived.Test.YtlllcmahmgdppaaGreatDoorXeditF
section
/- Code. -/
set_option maxRecDepth 100000
set_option linter.unusedSimpArgs false
set_option linter.unusedVariables false
namespace Go.Vm
open Go
def c10 : RFn := ⟨(.seq (rf (.o 3 (.box (.t 0)) (.o 6 (.move (.c (.bool false))) .nil))) (.seq (rf (.o 20 (.call 39 []) (.o 7 (.m 20) .nil))) (.seq (.seq (rf (.o 21 (.load (some 1) (.t 3)) (.o 22 (.call 12 [(.t 21)]) (.o 23 (.un .not (.t 22)) (.o 24 (.m 23) (.grd 24 false (.o 25 (.load (some 1) (.t 3)) (.o 26 (.call 13 [(.t 25)]) (.o 27 (.un .not (.t 26)) .nil))) (.o 28 (.pick (.t 24) (.c (.bool true)) (.t 27)) .nil))))))) (.cond (.t 28) (.seq (rf (.o 29 (.m 7) (.o 6 (.m 29) .nil))) .ret) .skip)) (.seq (rf (.o 30 (.load (some 1) (.t 3)) (.o 31 (.build [(.int .i64 0), (.int .i64 0), (.int .i64 0), (.int .i64 0), (.int .i64 0), (.int .i64 0), (.int .i64 0), (.int .i64 0), (.int .i64 0), (.int .i64 0), (.int .i64 0), (.int .i64 0), (.int .i64 0), (.int .i64 0), (.int .i64 0), (.int .i64 0), (.int .i64 0)] [(0, 1, (.i 0)), (2, 1, (.i 1)), (3, 1, (.i 2))]) (.o 32 (.call 40 [(.t 30), (.t 31)]) (.o 8 (.m 32) .nil))))) (.seq (rf (.o 34 (.load (some 1) (.t 3)) (.o 35 (.m 1) (.o 36 (.call 21 [(.t 34), (.t 35)]) (.o 33 (.m 36) (.o 37 (.extract 0 (.t 33)) (.o 38 (.extract 1 (.t 33)) (.o 9 (.alloc (.agg [(.int .i64 0), (.int .i64 0), (.lit [])])) (.op none (.store 3 (.t 9) (.t 37)) 0 (.o 10 (.m 38) .nil)))))))))) (.seq (rf (.o 40 (.load (some 1) (.t 3)) (.o 41 (.m 1) (.o 42 (.m 2) (.o 43 (.call 23 [(.t 40), (.t 41), (.t 42)]) (.o 39 (.m 43) (.o 44 (.extract 0 (.t 39)) (.o 45 (.extract 1 (.t 39)) (.o 11 (.alloc (.agg [(.bool false), (.lit []), (.lit [])])) (.op none (.store 3 (.t 11) (.t 44)) 0 (.o 12 (.m 45) .nil))))))))))) (.seq (rf (.o 46 (.load (some 1) (.t 3)) (.o 47 (.m 1) (.o 48 (.build [(.int .i64 0), (.int .i64 0), (.int .i64 0), (.int .i64 0), (.int .i64 0), (.int .i64 0), (.int .i64 0), (.int .i64 0), (.int .i64 0), (.int .i64 0), (.int .i64 0), (.int .i64 0), (.int .i64 0), (.int .i64 0), (.int .i64 0), (.int .i64 0), (.int .i64 0)] [(0, 1, (.i 1)), (1, 1, (.t 47))]) (.o 49 (.call 40 [(.t 46), (.t 48)]) (.o 13 (.m 49) .nil)))))) (.seq (rf (.o 50 (.load (some 1) (.t 3)) (.o 51 (.m 1) (.o 52 (.m 2) (.o 53 (.build [(.int .i64 0), (.int .i64 0), (.int .i64 0), (.int .i64 0), (.int .i64 0), (.int .i64 0), (.int .i64 0), (.int .i64 0), (.int .i64 0), (.int .i64 0), (.int .i64 0)] [(1, 1, (.i 6))]) (.o 54 (.build [(.int .i64 0), (.int .i64 0), (.int .i64 0), (.int .i64 0), (.int .i64 0), (.int .i64 0), (.int .i64 0), (.int .i64 0), (.int .i64 0), (.int .i64 0), (.int .i64 0), (.int .i64 0), (.int .i64 0), (.int .i64 0), (.int .i64 0), (.int .i64 0), (.int .i64 0)] [(0, 1, (.i 6)), (1, 1, (.t 51)), (2, 1, (.t 52)), (6, 11, (.t 53))]) (.o 55 (.call 40 [(.t 50), (.t 54)]) (.o 14 (.m 55) .nil)))))))) (.seq (rf (.o 15 (.move (.i 0)) .nil)) (.seq (.seq (rf (.o 16 (.move (.i 0)) .nil)) (.block 0 (.loop (.seq (.seq (rf (.o 56 (.m 16) (.o 57 (.fieldAddr 2 (.t 9)) (.o 58 (.load none (.t 57)) (.o 59 (.len false (.t 58)) (.o 60 (.bin .lss (.t 56) (.t 59)) .nil)))))) (.cond (.t 60) .skip (.exit 0))) (.seq (.block 1 (.seq (rf (.o 63 (.fieldAddr 2 (.t 9)) (.o 64 (.load none (.t 63)) (.o 65 (.m 16) (.o 66 (.idxAddr 3 (.t 64) (.t 65)) (.o 67 (.fieldAddr 0 (.t 66)) (.o 68 (.load none (.t 67)) .nil))))))) (.cond (.t 68) (rf (.o 69 (.m 15) (.o 70 (.bin .add (.t 69) (.i 1)) (.o 15 (.m 70) .nil)))) .skip))) (rf (.o 61 (.m 16) (.o 62 (.bin .add (.t 61) (.i 1)) (.o 16 (.m 62) .nil))))))))) (.seq (rf (.o 72 (.load (some 1) (.t 3)) (.o 73 (.call 19 [(.t 72)]) (.o 71 (.m 73) (.o 74 (.extract 0 (.t 71)) (.o 75 (.extract 1 (.t 71)) (.o 76 (.extract 2 (.t 71)) (.o 17 (.m 74) (.o 18 (.m 75) (.o 19 (.m 76) .nil)))))))))) (.seq (.seq (rf (.o 77 (.m 8) (.o 78 (.bin .eql (.t 77) (.i 0)) (.o 79 (.m 17) (.o 80 (.bin .lss (.t 79) (.i 6)) (.o 81 (.binb .neq (.t 78) (.t 80)) (.o 82 (.m 81) (.grd 82 false (.o 83 (.m 13) (.o 84 (.bin .eql (.t 83) (.i 0)) (.o 85 (.m 10) (.o 86 (.m 85) (.grd 86 true (.o 87 (.m 15) (.o 88 (.bin .lss (.t 87) (.i 12)) .nil)) (.o 89 (.pick (.t 86) (.t 88) (.c (.bool false))) (.o 90 (.binb .neq (.t 84) (.t 89)) .nil))))))) (.o 91 (.pick (.t 82) (.c (.bool true)) (.t 90)) (.o 92 (.m 91) (.grd 92 false (.o 93 (.m 10) (.o 94 (.un .not (.t 93)) (.o 95 (.m 94) (.grd 95 true (.o 96 (.m 13) (.o 97 (.bin .neq (.t 96) (.i 1)) .nil)) (.o 98 (.pick (.t 95) (.t 97) (.c (.bool false))) .nil))))) (.o 99 (.pick (.t 92) (.c (.bool true)) (.t 98)) .nil)))))))))))) (.cond (.t 99) (.seq (rf (.o 6 (.move (.c (.bool false))) .nil)) .ret) .skip)) (.seq (rf (.o 100 (.m 7) (.o 101 (.m 100) (.grd 101 true (.o 102 (.m 14) (.o 103 (.bin .eql (.t 102) (.i 0)) (.o 104 (.m 12) (.o 105 (.m 104) (.grd 105 true (.o 106 (.fieldAddr 1 (.t 9)) (.o 107 (.load none (.t 106)) (.o 108 (.bin .gtr (.t 107) (.i 0)) .nil))) (.o 109 (.pick (.t 105) (.t 108) (.c (.bool false))) (.o 110 (.m 109) (.grd 110 true (.o 111 (.fieldAddr 1 (.t 11)) (.o 112 (.load none (.t 111)) (.o 113 (.len false (.t 112)) (.o 114 (.bin .lss (.t 113) (.i 16)) .nil)))) (.o 115 (.pick (.t 110) (.t 114) (.c (.bool false))) (.o 116 (.m 115) (.grd 116 true (.o 117 (.m 19) (.o 118 (.bin .lss (.t 117) (.i 96)) .nil)) (.o 119 (.pick (.t 116) (.t 118) (.c (.bool false))) (.o 120 (.binb .eql (.t 103) (.t 119)) .nil))))))))))))) (.o 121 (.pick (.t 101) (.t 120) (.c (.bool false))) (.o 6 (.m 121) .nil)))))) .ret))))))))))))), [.tmp 6]⟩
theorem b10 : fnOf Go.Proofs.Tryz.prog (owOf []) 10 = some c10 := by kernel_rfl
end Go.Vm
end
section
/- Walks. -/
set_option maxRecDepth 100000
set_option linter.unusedSimpArgs false
set_option linter.unusedVariables false
namespace Go.Vm
open Go
set_option maxHeartbeats 4000000
theorem newId_lt {p : List Fn} (sp : sane p = true) : decide (newIdV p ≥ 0) = decide (((insP p).length : Int) < 96) := by
  have hd : (idsP p).Nodup := by
    simp only [sane, Bool.and_eq_true, decide_eq_true_eq] at sp
    exact sp.2
  have hr : ∀ x ∈ idsP p, 0 ≤ x ∧ x < ((96 : Nat) : Int) := fun x hx => by
    rw [ids_all, List.mem_map] at hx
    obtain ⟨a, ha, rfl⟩ := hx
    have := (form_iff _).1 (ins_form sp ha)
    omega
  have h1 := count_in hd hr
  have hl : (idsP p).length = (insP p).length := by rw [ids_all, List.length_map]
  rw [hl] at h1
  rcases newId_spec sp with ⟨e, h⟩ | ⟨k, e, hk, h, _⟩
  · have : (List.range 96).countP (fun i : Nat => (idsP p).contains (i : Int)) = (List.range 96).length := by
      rw [List.countP_eq_length]
      intro j hj
      have hj := List.mem_range.1 hj
      have := h j hj
      rw [metT_at hj, ← ids_all] at this
      exact this
    rw [List.length_range] at this
    rw [e, decide_eq_false (by omega), decide_eq_false (by omega)]
  · have : (List.range 96).countP (fun i : Nat => (idsP p).contains (i : Int)) < 96 := by
      have h2 := List.countP_le_length (l := List.range 96) (p := fun i : Nat => (idsP p).contains (i : Int))
      rw [List.length_range] at h2
      refine Nat.lt_of_le_of_ne h2 fun e2 => ?_
      have h3 : (List.range 96).countP (fun i : Nat => (idsP p).contains (i : Int)) = (List.range 96).length := by rw [e2, List.length_range]
      rw [List.countP_eq_length] at h3
      have h4 := h3 k (List.mem_range.2 hk)
      rw [metT_at hk, ← ids_all] at h
      rw [h] at h4
      cases h4
    rw [e, decide_eq_true (by omega), decide_eq_true (by omega)]
theorem newBlk_lt {p : List Fn} {f : Int} {x : Fn} (h : funV p f = some x) (h12 : x.bs.length ≤ 12) : decide (newBlockV p f < 0) = !decide (((nlB x.bs x.bs.length : Nat) : Int) < 12) := by
  have hn : nlB x.bs x.bs.length = x.bs.countP (·.live) := by rw [nlB, List.take_length]
  have hle := List.countP_le_length (l := x.bs) (p := fun b : Bk => b.live)
  rw [hn]
  rcases newBlock_spec h with ⟨e, h⟩ | ⟨k, e, hk, h, _⟩
  · have h11 := h 11 (by omega)
    simp only [liveF, Bool.and_eq_true, decide_eq_true_eq] at h11
    have hl : x.bs.length = 12 := by omega
    have : x.bs.countP (·.live) = x.bs.length := by
      rw [List.countP_eq_length]
      intro b hb
      obtain ⟨j, hj, rfl⟩ := List.mem_iff_getElem.1 hb
      have := h j (by omega)
      simp only [liveF, Bool.and_eq_true, Int.toNat_natCast] at this
      have h2 := this.2
      rwa [List.getD_eq_getElem?_getD, List.getElem?_eq_getElem hj, Option.getD_some] at h2
    rw [e, decide_eq_true (by omega), decide_eq_false (by omega)]; rfl
  · have : x.bs.countP (·.live) < 12 := by
      refine Nat.lt_of_le_of_ne (by omega) fun e2 => ?_
      have hl : x.bs.length = 12 := by omega
      have h3 : x.bs.countP (·.live) = x.bs.length := by omega
      rw [List.countP_eq_length] at h3
      have h4 := h3 _ (getD_mem B0 (show k < x.bs.length by omega))
      simp only [liveF, Int.toNat_natCast, h4, Bool.and_true, Bool.and_eq_false_iff, decide_eq_false_iff_not] at h
      omega
    rw [e, decide_eq_false (by omega), decide_eq_true (by omega)]; rfl
def i6 : In := ⟨0, 6, 0, 0, 0, 0, 0, 0, 0, 0, 0⟩
theorem vars_6 : varsI i6 = [0] := by decide +kernel
theorem form_6 : form i6 = true := by decide +kernel
theorem fun_len {p : List Fn} {f : Int} {x : Fn} (h : funV p f = some x) : x.bs.length ≤ 12 := by
  unfold funV at h
  split at h
  · rename_i hc
    injection h with e
    exact okF_len (sane_ok hc.1 (e ▸ getD_mem F0 (by omega)))
  · cases h
theorem room_one {p : List Fn} (sp : sane p = true) (f b : Int) : (cheV p ⟨6, f, b, 0, 0, 0, i6⟩ == 0) = ((blkV p f b).isSome && decide (((funV p f).getD F0).vs > 0) && decide ((((blkV p f b).getD B0).code.length : Int) < 16) && decide (((insP p).length : Int) < 96)) := by
  rw [ins_zero sp, form_6, vars_6, newId_lt sp]
  have e0 : (blkV p f b).isSome = true → (funV p f).isSome = true := fun h => by
    cases hf : funV p f with
    | none => rw [blkV, hf, Option.getD_none, live_F0 b] at h; cases h
    | some x => rfl
  have e1 : decide ((0 : Int) ≤ (((blkV p f b).getD B0).code.length : Nat)) = true := decide_eq_true (by omega)
  rw [e1]
  cases hb : (blkV p f b).isSome with
  | false => simp
  | true =>
    rw [e0 hb]
    simp [i6]
    ac_rfl
theorem room_blk {p : List Fn} (sp : sane p = true) (f : Int) : (cheV p ⟨1, f, 0, 0, 0, 0, i0⟩ == 0) = ((funV p f).isSome && decide (((nlB ((funV p f).getD F0).bs ((funV p f).getD F0).bs.length : Nat) : Int) < 12)) ∧ ((funV p f).isSome = false → cheV p ⟨1, f, 0, 0, 0, 0, i0⟩ = 1) := by
  by_cases hr : 0 ≤ f ∧ f < (p.length : Nat)
  · have hx := fun_in sp hr
    have hv : cheV p ⟨1, f, 0, 0, 0, 0, i0⟩ = if decide (newBlockV p f < 0) = true then 8 else 0 := by rw [chk_in sp (by simp) hr]; rfl
    rw [hv, newBlk_lt hx (fun_len hx), hx]
    refine ⟨?_, fun h => by cases h⟩
    simp only [Option.getD_some, Option.isSome_some, Bool.true_and]
    cases decide (((nlB (p.getD f.toNat F0).bs (p.getD f.toNat F0).bs.length : Nat) : Int) < 12) <;> rfl
  · rw [chk_no sp (by simp) hr, fun_none hr]
    exact ⟨rfl, fun _ => rfl⟩
theorem room_fun {p : List Fn} (sp : sane p = true) : (cheV p ⟨0, 0, 1, 2, 0, 0, i0⟩ == 0) = decide ((p.length : Int) < 6) := by
  have hv : cheV p ⟨0, 0, 1, 2, 0, 0, i0⟩ = if decide ((p.length : Int) ≥ 6) = true then 8 else 0 := by
    rw [cheV, if_neg (by rw [sp]; simp), if_neg (by simp), if_pos rfl]; rfl
  rw [hv]
  by_cases h : (p.length : Int) ≥ 6
  · rw [decide_eq_true h, decide_eq_false (by omega)]; rfl
  · rw [decide_eq_false h, decide_eq_true (by omega)]; rfl
theorem l_EditRoom (p : List Fn) (f b : Int) : Pure Go.Proofs.Tryz.prog glD 10 [pP p, .int .i64 f, .int .i64 b] (.bool true) := by
  have hw := p_Few (gl := glD) p
  cases hf : few p with
  | false =>
    rw [hf] at hw
    refine Pure.fn hmix b10 ?_
    repeat' first | (with_reducible first | refine tr_seq ?_ | refine n_nil ?_ | refine seqQ_normal ?_ | refine seqQ_exit ?_ | refine seqQ_ret ?_ | refine blkQ_normal ?_ | refine blkQ_exit ?_ | refine blkQ_ret ?_ | refine tr_block ?_ | refine tr_skip ?_ | refine tr_exit ?_ | refine tr_ret ?_ | refine condT_t ?_ | refine condT_f ?_ | refine loopV_exit ?_ | refine loopV_ret ?_) | ((with_reducible refine tr_region_f ?_ ?_); kernel_rfl) | exact ⟨rfl, rfl⟩ | ((with_reducible refine blkQ_exit_ne ?_ ?_); rfl) | ((with_reducible apply tr_cond_e); rfl) | ((with_reducible refine condT_T ?_ ?_); decide +kernel) | ((with_reducible refine condT_F ?_ ?_); decide +kernel) | ((with_reducible apply n_andF); rfl; rfl; decide +kernel) | ((with_reducible apply n_orT); rfl; rfl; decide +kernel) | ((with_reducible apply n_and); rfl; rfl; intro h) | ((with_reducible apply n_or); rfl; rfl; intro h) | with_reducible refine unrQ_normal ?_ | with_reducible refine unrQ_exit ?_ | with_reducible refine unrQ_ret ?_ | ((with_reducible apply n_call (f := 12)); rfl; rfl; exact hw) | ((with_reducible apply n_val); rfl; rfl) | ((with_reducible apply n_new); rfl; (first | (simp only [hn0, hn1, hn2, hn3, hn4, hn5, List.length_cons, List.length_nil, Nat.reduceAdd, Nat.zero_add]; first | done | rfl) | rfl); rfl) | ((with_reducible apply n_store); rfl; rfl; rfl; rfl; rfl) | ((with_reducible apply n_call (f := 39)); rfl; rfl; exact p_awake7) | (with_reducible refine condT_split (fun h => ?_) (fun h => ?_)) | ((with_reducible apply fnQ_told_ret); rfl) | ((with_reducible apply fnQ_ret_soft); rfl; rfl)
    all_goals rfl
  | true =>
    rw [hf] at hw
    have hp := few_fit hf
    have hs := p_Sane p hp
    cases sp : sane p with
    | false =>
      rw [sp] at hs
      refine Pure.fn hmix b10 ?_
      repeat' first | (with_reducible first | refine tr_seq ?_ | refine n_nil ?_ | refine seqQ_normal ?_ | refine seqQ_exit ?_ | refine seqQ_ret ?_ | refine blkQ_normal ?_ | refine blkQ_exit ?_ | refine blkQ_ret ?_ | refine tr_block ?_ | refine tr_skip ?_ | refine tr_exit ?_ | refine tr_ret ?_ | refine condT_t ?_ | refine condT_f ?_ | refine loopV_exit ?_ | refine loopV_ret ?_) | ((with_reducible refine tr_region_f ?_ ?_); kernel_rfl) | exact ⟨rfl, rfl⟩ | ((with_reducible refine blkQ_exit_ne ?_ ?_); rfl) | ((with_reducible apply tr_cond_e); rfl) | ((with_reducible refine condT_T ?_ ?_); decide +kernel) | ((with_reducible refine condT_F ?_ ?_); decide +kernel) | ((with_reducible apply n_andF); rfl; rfl; decide +kernel) | ((with_reducible apply n_orT); rfl; rfl; decide +kernel) | ((with_reducible apply n_and); rfl; rfl; intro h) | ((with_reducible apply n_or); rfl; rfl; intro h) | with_reducible refine unrQ_normal ?_ | with_reducible refine unrQ_exit ?_ | with_reducible refine unrQ_ret ?_ | ((with_reducible apply n_call (f := 12)); rfl; rfl; exact hw) | ((with_reducible apply n_call (f := 13)); rfl; rfl; exact hs) | ((with_reducible apply n_val); rfl; rfl) | ((with_reducible apply n_new); rfl; (first | (simp only [hn0, hn1, hn2, hn3, hn4, hn5, List.length_cons, List.length_nil, Nat.reduceAdd, Nat.zero_add]; first | done | rfl) | rfl); rfl) | ((with_reducible apply n_store); rfl; rfl; rfl; rfl; rfl) | ((with_reducible apply n_call (f := 39)); rfl; rfl; exact p_awake7) | (with_reducible refine condT_split (fun h => ?_) (fun h => ?_)) | ((with_reducible apply fnQ_told_ret); rfl) | ((with_reducible apply fnQ_ret_soft); rfl; rfl)
      all_goals rfl
    | true =>
      rw [sp] at hs
      have h0 : Pure Go.Proofs.Tryz.prog glD 21 [pP p, .int .i64 f] (.tup [pF ((funV p f).getD F0), .bool (funV p f).isSome]) := p_Fun p f hp
      have h1 : Pure Go.Proofs.Tryz.prog glD 23 [pP p, .int .i64 f, .int .i64 b] (.tup [pB ((blkV p f b).getD B0), .bool (blkV p f b).isSome]) := p_Block p f b hp
      have hC := p_Count p hf
      have eC : countV p = (((p.length : Nat) : Int), ((nlF p p.length : Nat) : Int), (((insP p).length : Nat) : Int)) := by rw [countV, if_pos sp]
      rw [eC] at hC
      have k1 := p_edCheck p ⟨0, 0, 1, 2, 0, 0, i0⟩ hf
      have k2 := p_edCheck p ⟨1, f, 0, 0, 0, 0, i0⟩ hf
      have k3 := p_edCheck p ⟨6, f, b, 0, 0, 0, i6⟩ hf
      have r1 := room_fun sp
      have r2 := room_blk sp f
      have r3 := room_one sp f b
      have h20 := (few_fun2 hf f).1
      have hnl := fun n => nlB_le ((funV p f).getD F0).bs n
      generalize cheV p ⟨0, 0, 1, 2, 0, 0, i0⟩ = c1 at *
      generalize cheV p ⟨1, f, 0, 0, 0, 0, i0⟩ = c2 at *
      generalize cheV p ⟨6, f, b, 0, 0, 0, i6⟩ = c3 at *
      generalize (funV p f).getD F0 = x at *
      generalize (funV p f).isSome = o at *
      refine Pure.fn hmix b10 ?_
      repeat' first | (with_reducible first | refine tr_seq ?_ | refine n_nil ?_ | refine seqQ_normal ?_ | refine seqQ_exit ?_ | refine seqQ_ret ?_ | refine blkQ_normal ?_ | refine blkQ_exit ?_ | refine blkQ_ret ?_ | refine tr_block ?_ | refine tr_skip ?_ | refine tr_exit ?_ | refine tr_ret ?_ | refine condT_t ?_ | refine condT_f ?_ | refine loopV_exit ?_ | refine loopV_ret ?_) | ((with_reducible refine tr_region_f ?_ ?_); kernel_rfl) | exact ⟨rfl, rfl⟩ | ((with_reducible refine blkQ_exit_ne ?_ ?_); rfl) | ((with_reducible apply tr_cond_e); rfl) | ((with_reducible refine condT_T ?_ ?_); exact rfl) | ((with_reducible refine condT_F ?_ ?_); exact rfl) | ((with_reducible apply n_and); rfl; rfl; intro h) | ((with_reducible apply n_or); rfl; rfl; intro h) | ((with_reducible apply n_call (f := 12)); rfl; rfl; exact hw) | ((with_reducible apply n_call (f := 13)); rfl; rfl; exact hs) | ((with_reducible apply n_call (f := 21)); rfl; rfl; exact h0) | ((with_reducible apply n_call (f := 23)); rfl; rfl; exact h1) | ((with_reducible apply n_call (f := 19)); rfl; rfl; exact hC) | ((with_reducible apply n_call (f := 40)); rfl; rfl; (first | exact k1 | exact k2 | exact k3)) | ((with_reducible apply n_idx_vals B0); rfl; rfl; exact (fun _ => rfl); (first | omega | decide | (simp only [zz] at *; omega))) | (first | ((with_reducible apply n_bin); rfl; rfl; focus ((with_reducible (first | apply b_add | apply b_sub)) <;> first | omega | decide | (simp only [zz] at *; omega))) | ((with_reducible apply n_max); rfl; rfl) | ((with_reducible apply n_min); rfl; rfl)) | (refine tr_loop_v (α := Nat × Int) 3 (fun | (k, n) => [(15, some (.int .i64 n)), (16, some (.int .i64 (k : Int))), (56, none), (57, none), (58, none), (59, none), (60, none), (63, none), (64, none), (65, none), (66, none), (67, none), (68, none), (69, none), (70, none), (61, none), (62, none)]) (fun | (k, n) => [some ⟨0, 1, [pP p]⟩, some ⟨0, 3, [pF x]⟩, some ⟨0, 3, [pB ((blkV p f b).getD B0)]⟩]) (fun | (k, n) => k ≤ x.bs.length ∧ n = (nlB x.bs k : Nat) ∧ nlB x.bs k ≤ k) (fun | (k, n) => x.bs.length - k) ((0, 0)) (ks := [15, 16, 56, 57, 58, 59, 60, 63, 64, 65, 66, 67, 68, 69, 70, 61, 62]) (fun _ => rfl) (fun _ => rfl) rfl (by omega) ?_ ⟨⟨_, rfl, rfl⟩, ⟨_, rfl, rfl⟩, trivial⟩ ⟨⟨_, rfl, rfl, rfl, rfl⟩, ⟨_, rfl, rfl, rfl, rfl⟩, ⟨_, rfl, rfl, rfl, rfl⟩, trivial⟩ ?_; rotate_left; rintro ⟨k, n⟩ hx; try dsimp only at hx) | ((first | (refine loopV_normal ((k + 1, n + 1)) ?_ ⟨⟨_, rfl, rfl⟩, ⟨_, rfl, rfl⟩, trivial⟩ ⟨⟨_, rfl, rfl, rfl, rfl⟩, ⟨_, rfl, rfl, rfl, rfl⟩, ⟨_, rfl, rfl, rfl, rfl⟩, trivial⟩ ?_ ?_) | (refine loopV_normal ((k + 1, n)) ?_ ⟨⟨_, rfl, rfl⟩, ⟨_, rfl, rfl⟩, trivial⟩ ⟨⟨_, rfl, rfl, rfl, rfl⟩, ⟨_, rfl, rfl, rfl, rfl⟩, ⟨_, rfl, rfl, rfl, rfl⟩, trivial⟩ ?_ ?_)); repeat (first | exact only_refl | refine only_put rfl ?_ | refine only_less rfl ?_ | refine only_ov rfl ?_)) | ((with_reducible apply n_val); rfl; rfl) | ((with_reducible apply n_new); rfl; (first | (simp only [hn0, hn1, hn2, hn3, hn4, hn5, List.length_cons, List.length_nil, Nat.reduceAdd, Nat.zero_add]; first | done | rfl) | rfl); rfl) | ((with_reducible apply n_store); rfl; rfl; rfl; rfl; rfl) | ((with_reducible apply n_call (f := 39)); rfl; rfl; exact p_awake7) | (with_reducible refine condT_split (fun h => ?_) (fun h => ?_)) | ((with_reducible apply fnQ_told_ret); rfl) | ((with_reducible apply fnQ_ret_soft); rfl; rfl)
      all_goals (clear hw hs h0 h1 hC k1 k2 k3)
      all_goals (try dsimp only at *)
      all_goals (try simp only [decide_eq_true_eq, decide_eq_false_iff_not, List.length_map, ints_length, Int.toNat_natCast] at *)
      · omega
      · have e := nlB_s (l := x.bs) (n := k) (by omega)
        rw [‹(x.bs.getD k B0).live = true›, if_pos rfl] at e
        exact ⟨by omega, by omega, by omega⟩
      · omega
      · have e := nlB_s (l := x.bs) (n := k) (by omega)
        rw [‹(x.bs.getD k B0).live = false›, if_neg (by simp)] at e
        exact ⟨by omega, by omega, by omega⟩
      · exfalso
        rename (_ || _) = true => hq
        obtain rfl : k = x.bs.length := by omega
        rw [r1, r2.1, hx.2.1] at hq
        cases o with
        | false => rw [r2.2 rfl] at hq; simp at hq
        | true => simp at hq
      · refine congrArg PV.bool ?_
        rw [r3]
        simp
      · exact ⟨Nat.zero_le _, rfl, Nat.le_refl _⟩
end Go.Vm
end
