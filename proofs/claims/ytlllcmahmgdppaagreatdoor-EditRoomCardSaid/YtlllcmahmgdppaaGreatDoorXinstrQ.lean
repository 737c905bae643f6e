/- Laid. -/
import Derived.Test.YtlllcmahmgdppaaGreatDoorVmThree
import Derived.KernelRfl
import Derived.Test.YtlllcmahmgdppaaGreatDoorProg
import Derived.Test.YtlllcmahmgdppaaGreatDoorXinstrP
section
/- Code. -/
set_option maxRecDepth 100000
set_option linter.unusedSimpArgs false
set_option linter.unusedVariables false
namespace Go.Vm
open Go
def c152 : RFn := ⟨(.seq (rf (.o 1 (.box (.t 0)) (.o 2 (.move (.c (.lit []))) .nil))) (.seq (rf (.o 3 (.move (.c (.lit []))) .nil)) (.seq (.seq (rf (.o 5 (.load (some 11) (.t 1)) (.o 6 (.call 89 [(.t 5)]) (.o 7 (.un .not (.t 6)) .nil)))) (.cond (.t 7) (.seq (rf (.o 2 (.move (.c (.lit []))) .nil)) .ret) .skip)) (.seq (.seq (rf (.o 8 (.fieldAddr 1 (.t 1)) (.o 9 (.load none (.t 8)) (.o 10 (.call 127 [(.t 9)]) .nil)))) (.cond (.t 10) (rf (.o 11 (.m 3) (.o 12 (.fieldAddr 3 (.t 1)) (.o 13 (.load none (.t 12)) (.o 14 (.call 153 [(.t 11), (.t 13)]) (.o 3 (.m 14) .nil)))))) .skip)) (.seq (.seq (rf (.o 15 (.fieldAddr 1 (.t 1)) (.o 16 (.load none (.t 15)) (.o 17 (.call 128 [(.t 16)]) .nil)))) (.cond (.t 17) (rf (.o 18 (.m 3) (.o 19 (.fieldAddr 4 (.t 1)) (.o 20 (.load none (.t 19)) (.o 21 (.call 153 [(.t 18), (.t 20)]) (.o 3 (.m 21) .nil)))))) .skip)) (.seq (.seq (rf (.o 4 (.move (.i 0)) .nil)) (.block 0 (.loop (.seq (.seq (rf (.o 22 (.m 4) (.o 23 (.fieldAddr 7 (.t 1)) (.o 24 (.load none (.t 23)) (.o 25 (.bin .lss (.t 22) (.t 24)) .nil))))) (.cond (.t 25) .skip (.exit 0))) (.seq (.block 1 (rf (.o 28 (.m 3) (.o 29 (.m 4) (.o 30 (.fieldAddr 8 (.t 1)) (.o 31 (.idxAddrA 3 1 (.t 30) (.t 29)) (.o 32 (.load none (.t 31)) (.o 33 (.call 153 [(.t 28), (.t 32)]) (.o 3 (.m 33) .nil))))))))) (rf (.o 26 (.m 4) (.o 27 (.bin .add (.t 26) (.i 1)) (.o 4 (.m 27) .nil))))))))) (.seq (rf (.o 34 (.m 3) (.o 2 (.m 34) .nil))) .ret))))))), [.tmp 2]⟩
theorem b152 : fnOf Go.Proofs.Tryz.prog (owOf []) 152 = some c152 := by kernel_rfl
end Go.Vm
end
section
/- Walks. -/
set_option maxRecDepth 100000
set_option linter.unusedSimpArgs false
set_option linter.unusedVariables false
namespace Go.Vm
open Go
set_option maxHeartbeats 4000000
section
variable {gl : Nat → Option PV}
theorem f_r5_Uses (i : In) (hf : form i = true) (hne : usesI i ≠ []) : ∃ G, Fresh Go.Proofs.Tryz.prog gl 152 [pI i] (.ref 1 G 0 (usesI i).length) (Hp.ofL [none, some ⟨G, 1, (usesI i).map pint⟩]) := by
  have fm := p_r5_Form (gl := gl) i
  have ha := p_r5_hasA (gl := gl) i.kind
  have hb := p_r5_hasB (gl := gl) i.kind
  have hU : usesI i = dedup (rawUses i) := by rw [usesI, if_pos hf]
  rw [hU] at hne ⊢
  rw [hf] at fm
  have h0 := (form_iff i).1 hf
  clear hU hf
  have h1 := h0.1.1
  have h2 := h0.1.2.1
  have h5 := h0.1.2.2.2.2.1
  have h6 := h0.1.2.2.2.2.2
  have h7 := h0.2.1.2.2.2.2
  clear h0
  have hz : i.kind ≠ 7 → i.n = 0 := by
    intro h
    rw [none5_iff] at h7
    rcases h7 with ⟨h7, _⟩ | h7
    · exact absurd (by simpa using h7) h
    · exact h7
  clear h7
  obtain ⟨id, k, dst, va, vb, vc, vf, n, x, y, z⟩ := i
  simp only at h1 h2 h5 h6 hz ha hb fm
  rcases (by omega : (k = 0 ∨ k = 6) ∨ (k = 1 ∨ k = 2 ∨ k = 8 ∨ k = 9) ∨ (k = 3 ∨ k = 4 ∨ k = 5) ∨ k = 7) with h | h | h | h
  · obtain rfl : n = 0 := hz (by omega)
    exfalso
    rcases h with rfl | rfl <;> exact hne rfl
  · obtain rfl : n = 0 := hz (by omega)
    have ea : hA k = true := by rcases h with rfl | rfl | rfl | rfl <;> rfl
    have eb : hB k = false := by rcases h with rfl | rfl | rfl | rfl <;> rfl
    rw [ea] at ha
    rw [eb] at hb
    · have eu : dedup (rawUses ⟨id, k, dst, va, vb, vc, vf, 0, x, y, z⟩) = [va] := by
        unfold rawUses
        simp only [ea, eb]
        rfl
      rw [eu]
      refine ⟨0, ?_⟩
      refine Fresh.fnL hmix b152 ?_
      repeat' first | (with_reducible first | refine tr_seq ?_ | refine n_nil ?_ | refine seqQ_normal ?_ | refine seqQ_exit ?_ | refine seqQ_ret ?_ | refine blkQ_normal ?_ | refine blkQ_exit ?_ | refine blkQ_ret ?_ | refine tr_block ?_ | refine tr_skip ?_ | refine tr_exit ?_ | refine tr_ret ?_ | refine condT_t ?_ | refine condT_f ?_ | refine loopV_exit ?_ | refine loopV_ret ?_) | ((with_reducible refine tr_region_f ?_ ?_); kernel_rfl) | ((with_reducible refine blkQ_exit_ne ?_ ?_); rfl) | ((with_reducible apply tr_cond_e); rfl) | ((with_reducible refine condT_T ?_ ?_); exact rfl) | ((with_reducible refine condT_F ?_ ?_); exact rfl) | ((with_reducible refine condT_T ?_ ?_); decide +kernel) | ((with_reducible refine condT_F ?_ ?_); decide +kernel) | ((with_reducible apply n_andF); rfl; rfl; decide +kernel) | ((with_reducible apply n_orT); rfl; rfl; decide +kernel) | with_reducible refine unrQ_normal ?_ | with_reducible refine unrQ_exit ?_ | with_reducible refine unrQ_ret ?_ | refine tr_unroll 4 ?_ | ((with_reducible apply n_call (f := 89)); rfl; rfl; exact fm) | ((with_reducible apply n_call (f := 127)); rfl; rfl; exact ha) | ((with_reducible apply n_call (f := 128)); rfl; rfl; exact hb) | ((with_reducible apply n_val); rfl; rfl) | ((with_reducible apply n_new); rfl; (first | (simp only [hn0, hn1, hn2, hn3, hn4, hn5, List.length_cons, List.length_nil, Nat.reduceAdd, Nat.zero_add]; first | done | rfl) | rfl); rfl) | ((with_reducible apply n_specL (f := 153)); rfl; exact h_add0 va ⟨id, k, dst, va, vb, vc, vf, 0, x, y, z⟩; rfl; (repeat (first | exact trivial | refine ⟨rfl, ?_⟩)); first | exact Nat.le_refl _ | exact Nat.le_of_ble_eq_true rfl) | (with_reducible refine condT_split (fun h => ?_) (fun h => ?_)) | ((with_reducible apply fnQ_told_ret); rfl) | ((with_reducible apply fnQ_ret_soft); rfl; rfl)
      · rfl
      · exact ⟨⟨_, rfl, rfl, rfl, fzP_vals (fun _ => rfl) rfl⟩, trivial⟩
  · obtain rfl : n = 0 := hz (by omega)
    have ea : hA k = true := by rcases h with rfl | rfl | rfl <;> rfl
    have eb : hB k = true := by rcases h with rfl | rfl | rfl <;> rfl
    rw [ea] at ha
    rw [eb] at hb
    · have eu : dedup (rawUses ⟨id, k, dst, va, vb, vc, vf, 0, x, y, z⟩) = dd [va] vb := by
        unfold rawUses
        simp only [ea, eb]
        rfl
      rw [eu]
      refine ⟨gA 0 [va] vb, ?_⟩
      refine Fresh.fnL hmix b152 ?_
      repeat' first | (with_reducible first | refine tr_seq ?_ | refine n_nil ?_ | refine seqQ_normal ?_ | refine seqQ_exit ?_ | refine seqQ_ret ?_ | refine blkQ_normal ?_ | refine blkQ_exit ?_ | refine blkQ_ret ?_ | refine tr_block ?_ | refine tr_skip ?_ | refine tr_exit ?_ | refine tr_ret ?_ | refine condT_t ?_ | refine condT_f ?_ | refine loopV_exit ?_ | refine loopV_ret ?_) | ((with_reducible refine tr_region_f ?_ ?_); kernel_rfl) | ((with_reducible refine blkQ_exit_ne ?_ ?_); rfl) | ((with_reducible apply tr_cond_e); rfl) | ((with_reducible refine condT_T ?_ ?_); exact rfl) | ((with_reducible refine condT_F ?_ ?_); exact rfl) | ((with_reducible refine condT_T ?_ ?_); decide +kernel) | ((with_reducible refine condT_F ?_ ?_); decide +kernel) | ((with_reducible apply n_andF); rfl; rfl; decide +kernel) | ((with_reducible apply n_orT); rfl; rfl; decide +kernel) | with_reducible refine unrQ_normal ?_ | with_reducible refine unrQ_exit ?_ | with_reducible refine unrQ_ret ?_ | refine tr_unroll 4 ?_ | ((with_reducible apply n_call (f := 89)); rfl; rfl; exact fm) | ((with_reducible apply n_call (f := 127)); rfl; rfl; exact ha) | ((with_reducible apply n_call (f := 128)); rfl; rfl; exact hb) | ((with_reducible apply n_val); rfl; rfl) | ((with_reducible apply n_new); rfl; (first | (simp only [hn0, hn1, hn2, hn3, hn4, hn5, List.length_cons, List.length_nil, Nat.reduceAdd, Nat.zero_add]; first | done | rfl) | rfl); rfl) | ((with_reducible apply n_specL (f := 153)); rfl; exact h_add0 va ⟨id, k, dst, va, vb, vc, vf, 0, x, y, z⟩; rfl; (repeat (first | exact trivial | refine ⟨rfl, ?_⟩)); first | exact Nat.le_refl _ | exact Nat.le_of_ble_eq_true rfl) | ((with_reducible apply n_specL (f := 153)); rfl; exact h_add1 [va] (by simp) 0 vb ⟨id, k, dst, va, vb, vc, vf, 0, x, y, z⟩; rfl; (repeat (first | exact trivial | refine ⟨rfl, ?_⟩)); first | exact Nat.le_refl _ | exact Nat.le_of_ble_eq_true rfl) | (with_reducible refine condT_split (fun h => ?_) (fun h => ?_)) | ((with_reducible apply fnQ_told_ret); rfl) | ((with_reducible apply fnQ_ret_soft); rfl; rfl)
      · rfl
      · exact ⟨⟨_, rfl, rfl, rfl, fzP_vals (fun _ => rfl) rfl⟩, trivial⟩
  · have ea : hA k = false := by subst h; rfl
    have eb : hB k = false := by subst h; rfl
    rw [ea] at ha
    rw [eb] at hb
    rcases (by omega : n = 0 ∨ n = 1 ∨ n = 2 ∨ n = 3) with rfl | rfl | rfl | rfl
    · exfalso
      apply hne
      unfold rawUses
      simp only [ea, eb]
      rfl
    · have eu : dedup (rawUses ⟨id, k, dst, va, vb, vc, vf, 1, x, y, z⟩) = [x] := by
        unfold rawUses
        simp only [ea, eb]
        rfl
      rw [eu]
      refine ⟨0, ?_⟩
      refine Fresh.fnL hmix b152 ?_
      repeat' first | (with_reducible first | refine tr_seq ?_ | refine n_nil ?_ | refine seqQ_normal ?_ | refine seqQ_exit ?_ | refine seqQ_ret ?_ | refine blkQ_normal ?_ | refine blkQ_exit ?_ | refine blkQ_ret ?_ | refine tr_block ?_ | refine tr_skip ?_ | refine tr_exit ?_ | refine tr_ret ?_ | refine condT_t ?_ | refine condT_f ?_ | refine loopV_exit ?_ | refine loopV_ret ?_) | ((with_reducible refine tr_region_f ?_ ?_); kernel_rfl) | ((with_reducible refine blkQ_exit_ne ?_ ?_); rfl) | ((with_reducible apply tr_cond_e); rfl) | ((with_reducible refine condT_T ?_ ?_); exact rfl) | ((with_reducible refine condT_F ?_ ?_); exact rfl) | ((with_reducible refine condT_T ?_ ?_); decide +kernel) | ((with_reducible refine condT_F ?_ ?_); decide +kernel) | ((with_reducible apply n_andF); rfl; rfl; decide +kernel) | ((with_reducible apply n_orT); rfl; rfl; decide +kernel) | with_reducible refine unrQ_normal ?_ | with_reducible refine unrQ_exit ?_ | with_reducible refine unrQ_ret ?_ | refine tr_unroll 4 ?_ | ((with_reducible apply n_call (f := 89)); rfl; rfl; exact fm) | ((with_reducible apply n_call (f := 127)); rfl; rfl; exact ha) | ((with_reducible apply n_call (f := 128)); rfl; rfl; exact hb) | ((with_reducible apply n_val); rfl; rfl) | ((with_reducible apply n_new); rfl; (first | (simp only [hn0, hn1, hn2, hn3, hn4, hn5, List.length_cons, List.length_nil, Nat.reduceAdd, Nat.zero_add]; first | done | rfl) | rfl); rfl) | ((with_reducible apply n_specL (f := 153)); rfl; exact h_add0 x ⟨id, k, dst, va, vb, vc, vf, 1, x, y, z⟩; rfl; (repeat (first | exact trivial | refine ⟨rfl, ?_⟩)); first | exact Nat.le_refl _ | exact Nat.le_of_ble_eq_true rfl) | (with_reducible refine condT_split (fun h => ?_) (fun h => ?_)) | ((with_reducible apply fnQ_told_ret); rfl) | ((with_reducible apply fnQ_ret_soft); rfl; rfl)
      · rfl
      · exact ⟨⟨_, rfl, rfl, rfl, fzP_vals (fun _ => rfl) rfl⟩, trivial⟩
    · have eu : dedup (rawUses ⟨id, k, dst, va, vb, vc, vf, 2, x, y, z⟩) = dd [x] y := by
        unfold rawUses
        simp only [ea, eb]
        rfl
      rw [eu]
      refine ⟨gA 0 [x] y, ?_⟩
      refine Fresh.fnL hmix b152 ?_
      repeat' first | (with_reducible first | refine tr_seq ?_ | refine n_nil ?_ | refine seqQ_normal ?_ | refine seqQ_exit ?_ | refine seqQ_ret ?_ | refine blkQ_normal ?_ | refine blkQ_exit ?_ | refine blkQ_ret ?_ | refine tr_block ?_ | refine tr_skip ?_ | refine tr_exit ?_ | refine tr_ret ?_ | refine condT_t ?_ | refine condT_f ?_ | refine loopV_exit ?_ | refine loopV_ret ?_) | ((with_reducible refine tr_region_f ?_ ?_); kernel_rfl) | ((with_reducible refine blkQ_exit_ne ?_ ?_); rfl) | ((with_reducible apply tr_cond_e); rfl) | ((with_reducible refine condT_T ?_ ?_); exact rfl) | ((with_reducible refine condT_F ?_ ?_); exact rfl) | ((with_reducible refine condT_T ?_ ?_); decide +kernel) | ((with_reducible refine condT_F ?_ ?_); decide +kernel) | ((with_reducible apply n_andF); rfl; rfl; decide +kernel) | ((with_reducible apply n_orT); rfl; rfl; decide +kernel) | with_reducible refine unrQ_normal ?_ | with_reducible refine unrQ_exit ?_ | with_reducible refine unrQ_ret ?_ | refine tr_unroll 4 ?_ | ((with_reducible apply n_call (f := 89)); rfl; rfl; exact fm) | ((with_reducible apply n_call (f := 127)); rfl; rfl; exact ha) | ((with_reducible apply n_call (f := 128)); rfl; rfl; exact hb) | ((with_reducible apply n_val); rfl; rfl) | ((with_reducible apply n_new); rfl; (first | (simp only [hn0, hn1, hn2, hn3, hn4, hn5, List.length_cons, List.length_nil, Nat.reduceAdd, Nat.zero_add]; first | done | rfl) | rfl); rfl) | ((with_reducible apply n_specL (f := 153)); rfl; exact h_add0 x ⟨id, k, dst, va, vb, vc, vf, 2, x, y, z⟩; rfl; (repeat (first | exact trivial | refine ⟨rfl, ?_⟩)); first | exact Nat.le_refl _ | exact Nat.le_of_ble_eq_true rfl) | ((with_reducible apply n_specL (f := 153)); rfl; exact h_add1 [x] (by simp) 0 y ⟨id, k, dst, va, vb, vc, vf, 2, x, y, z⟩; rfl; (repeat (first | exact trivial | refine ⟨rfl, ?_⟩)); first | exact Nat.le_refl _ | exact Nat.le_of_ble_eq_true rfl) | (with_reducible refine condT_split (fun h => ?_) (fun h => ?_)) | ((with_reducible apply fnQ_told_ret); rfl) | ((with_reducible apply fnQ_ret_soft); rfl; rfl)
      · rfl
      · exact ⟨⟨_, rfl, rfl, rfl, fzP_vals (fun _ => rfl) rfl⟩, trivial⟩
    · have eu : dedup (rawUses ⟨id, k, dst, va, vb, vc, vf, 3, x, y, z⟩) = dd (dd [x] y) z := by
        unfold rawUses
        simp only [ea, eb]
        rfl
      rw [eu]
      refine ⟨gA (gA 0 [x] y) (dd [x] y) z, ?_⟩
      refine Fresh.fnL hmix b152 ?_
      repeat' first | (with_reducible first | refine tr_seq ?_ | refine n_nil ?_ | refine seqQ_normal ?_ | refine seqQ_exit ?_ | refine seqQ_ret ?_ | refine blkQ_normal ?_ | refine blkQ_exit ?_ | refine blkQ_ret ?_ | refine tr_block ?_ | refine tr_skip ?_ | refine tr_exit ?_ | refine tr_ret ?_ | refine condT_t ?_ | refine condT_f ?_ | refine loopV_exit ?_ | refine loopV_ret ?_) | ((with_reducible refine tr_region_f ?_ ?_); kernel_rfl) | ((with_reducible refine blkQ_exit_ne ?_ ?_); rfl) | ((with_reducible apply tr_cond_e); rfl) | ((with_reducible refine condT_T ?_ ?_); exact rfl) | ((with_reducible refine condT_F ?_ ?_); exact rfl) | ((with_reducible refine condT_T ?_ ?_); decide +kernel) | ((with_reducible refine condT_F ?_ ?_); decide +kernel) | ((with_reducible apply n_andF); rfl; rfl; decide +kernel) | ((with_reducible apply n_orT); rfl; rfl; decide +kernel) | with_reducible refine unrQ_normal ?_ | with_reducible refine unrQ_exit ?_ | with_reducible refine unrQ_ret ?_ | refine tr_unroll 4 ?_ | ((with_reducible apply n_call (f := 89)); rfl; rfl; exact fm) | ((with_reducible apply n_call (f := 127)); rfl; rfl; exact ha) | ((with_reducible apply n_call (f := 128)); rfl; rfl; exact hb) | ((with_reducible apply n_val); rfl; rfl) | ((with_reducible apply n_new); rfl; (first | (simp only [hn0, hn1, hn2, hn3, hn4, hn5, List.length_cons, List.length_nil, Nat.reduceAdd, Nat.zero_add]; first | done | rfl) | rfl); rfl) | ((with_reducible apply n_specL (f := 153)); rfl; exact h_add0 x ⟨id, k, dst, va, vb, vc, vf, 3, x, y, z⟩; rfl; (repeat (first | exact trivial | refine ⟨rfl, ?_⟩)); first | exact Nat.le_refl _ | exact Nat.le_of_ble_eq_true rfl) | ((with_reducible apply n_specL (f := 153)); rfl; exact h_add1 [x] (by simp) 0 y ⟨id, k, dst, va, vb, vc, vf, 3, x, y, z⟩; rfl; (repeat (first | exact trivial | refine ⟨rfl, ?_⟩)); first | exact Nat.le_refl _ | exact Nat.le_of_ble_eq_true rfl) | ((with_reducible apply n_specL (f := 153)); rfl; exact h_add1 (dd [x] y) (by have := dd_len [x] y; simp at this; omega) (gA 0 [x] y) z ⟨id, k, dst, va, vb, vc, vf, 3, x, y, z⟩; rfl; (repeat (first | exact trivial | refine ⟨rfl, ?_⟩)); first | exact Nat.le_refl _ | exact Nat.le_of_ble_eq_true rfl) | (with_reducible refine condT_split (fun h => ?_) (fun h => ?_)) | ((with_reducible apply fnQ_told_ret); rfl) | ((with_reducible apply fnQ_ret_soft); rfl; rfl)
      · rfl
      · exact ⟨⟨_, rfl, rfl, rfl, fzP_vals (fun _ => rfl) rfl⟩, trivial⟩
theorem f_r5_Uses0 (i : In) (hne : usesI i = []) : Fresh Go.Proofs.Tryz.prog gl 152 [pI i] (.lit []) (Hp.ofL []) := by
  · skip
    have fm := p_r5_Form (gl := gl) i
    have ha := p_r5_hasA (gl := gl) i.kind
    have hb := p_r5_hasB (gl := gl) i.kind
    cases hf : form i with
    | false =>
      rw [hf] at fm
      refine Fresh.fnL hmix b152 ?_
      repeat' first | (with_reducible first | refine tr_seq ?_ | refine n_nil ?_ | refine seqQ_normal ?_ | refine seqQ_exit ?_ | refine seqQ_ret ?_ | refine blkQ_normal ?_ | refine blkQ_exit ?_ | refine blkQ_ret ?_ | refine tr_block ?_ | refine tr_skip ?_ | refine tr_exit ?_ | refine tr_ret ?_ | refine condT_t ?_ | refine condT_f ?_ | refine loopV_exit ?_ | refine loopV_ret ?_) | ((with_reducible refine tr_region_f ?_ ?_); kernel_rfl) | ((with_reducible refine blkQ_exit_ne ?_ ?_); rfl) | ((with_reducible apply tr_cond_e); rfl) | ((with_reducible refine condT_T ?_ ?_); exact rfl) | ((with_reducible refine condT_F ?_ ?_); exact rfl) | ((with_reducible refine condT_T ?_ ?_); decide +kernel) | ((with_reducible refine condT_F ?_ ?_); decide +kernel) | ((with_reducible apply n_andF); rfl; rfl; decide +kernel) | ((with_reducible apply n_orT); rfl; rfl; decide +kernel) | with_reducible refine unrQ_normal ?_ | with_reducible refine unrQ_exit ?_ | with_reducible refine unrQ_ret ?_ | ((with_reducible apply n_call (f := 89)); rfl; rfl; exact fm) | ((with_reducible apply n_val); rfl; rfl) | ((with_reducible apply n_new); rfl; (first | (simp only [hn0, hn1, hn2, hn3, hn4, hn5, List.length_cons, List.length_nil, Nat.reduceAdd, Nat.zero_add]; first | done | rfl) | rfl); rfl) | (with_reducible refine condT_split (fun h => ?_) (fun h => ?_)) | ((with_reducible apply fnQ_told_ret); rfl) | ((with_reducible apply fnQ_ret_soft); rfl; rfl)
      · rfl
      · exact trivial
    | true =>
      rw [hf] at fm
      have hU : usesI i = dedup (rawUses i) := by rw [usesI, if_pos hf]
      rw [hU] at hne
      have h0 := (form_iff i).1 hf
      have h5 := h0.1.2.2.2.2.1
      have h6 := h0.1.2.2.2.2.2
      have hr : rawUses i = [] := by
        cases hl : rawUses i with
        | nil => rfl
        | cons v l =>
          exfalso
          rw [hl] at hne
          have hm : ∀ (l o : List Int), o ≠ [] → l.foldl (fun o v => if o.contains v then o else o ++ [v]) o ≠ [] := by
            intro l
            induction l with
            | nil => intro o h; exact h
            | cons w l ih => intro o h; exact ih _ (by show (if o.contains w = true then o else o ++ [w]) ≠ []; split; exact h; simp)
          exact hm l [v] (by simp) hne
      have ea : hA i.kind = false := by
        cases e : hA i.kind with
        | false => rfl
        | true => unfold rawUses at hr; rw [e] at hr; simp at hr
      have eb : hB i.kind = false := by
        cases e : hB i.kind with
        | false => rfl
        | true => unfold rawUses at hr; rw [e] at hr; simp at hr
      have en : i.n = 0 := by
        have := congrArg List.length hr
        simp only [rawUses, ea, eb, List.length_append, List.length_take, List.length_cons, List.length_nil, if_neg Bool.false_ne_true] at this
        omega
      rw [ea] at ha
      rw [eb] at hb
      clear hU hne hr h0 hf h5 h6 ea eb
      obtain ⟨id, k, dst, va, vb, vc, vf, n, x, y, z⟩ := i
      simp only at en ha hb
      subst en
      refine Fresh.fnL hmix b152 ?_
      repeat' first | (with_reducible first | refine tr_seq ?_ | refine n_nil ?_ | refine seqQ_normal ?_ | refine seqQ_exit ?_ | refine seqQ_ret ?_ | refine blkQ_normal ?_ | refine blkQ_exit ?_ | refine blkQ_ret ?_ | refine tr_block ?_ | refine tr_skip ?_ | refine tr_exit ?_ | refine tr_ret ?_ | refine condT_t ?_ | refine condT_f ?_ | refine loopV_exit ?_ | refine loopV_ret ?_) | ((with_reducible refine tr_region_f ?_ ?_); kernel_rfl) | ((with_reducible refine blkQ_exit_ne ?_ ?_); rfl) | ((with_reducible apply tr_cond_e); rfl) | ((with_reducible refine condT_T ?_ ?_); exact rfl) | ((with_reducible refine condT_F ?_ ?_); exact rfl) | ((with_reducible refine condT_T ?_ ?_); decide +kernel) | ((with_reducible refine condT_F ?_ ?_); decide +kernel) | ((with_reducible apply n_andF); rfl; rfl; decide +kernel) | ((with_reducible apply n_orT); rfl; rfl; decide +kernel) | with_reducible refine unrQ_normal ?_ | with_reducible refine unrQ_exit ?_ | with_reducible refine unrQ_ret ?_ | refine tr_unroll 1 ?_ | ((with_reducible apply n_call (f := 89)); rfl; rfl; exact fm) | ((with_reducible apply n_call (f := 127)); rfl; rfl; exact ha) | ((with_reducible apply n_call (f := 128)); rfl; rfl; exact hb) | ((with_reducible apply n_val); rfl; rfl) | ((with_reducible apply n_new); rfl; (first | (simp only [hn0, hn1, hn2, hn3, hn4, hn5, List.length_cons, List.length_nil, Nat.reduceAdd, Nat.zero_add]; first | done | rfl) | rfl); rfl) | (with_reducible refine condT_split (fun h => ?_) (fun h => ?_)) | ((with_reducible apply fnQ_told_ret); rfl) | ((with_reducible apply fnQ_ret_soft); rfl; rfl)
      · rfl
      · exact trivial
end
end Go.Vm
end
