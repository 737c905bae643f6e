/- Laid. -/
import Derived.Test.YtlllcmahmgdppaaGreatDoorVmThree
import Derived.KernelRfl
import Derived.Test.YtlllcmahmgdppaaGreatDoorProg
import Derived.Test.YtlllcmahmgdppaaGreatDoorXprogG
import Derived.Test.YtlllcmahmgdppaaGreatDoorLAll
section
/- Code. -/
set_option maxRecDepth 100000
set_option linter.unusedSimpArgs false
set_option linter.unusedVariables false
namespace Go.Vm
open Go
def c59 : RFn := ⟨(.seq (rf (.o 2 (.box (.t 0)) (.o 4 (.move (.c (.bool false))) .nil))) (.seq (rf (.o 5 (.m 1) (.o 6 (.bin .geq (.t 5) (.i 0)) (.o 7 (.m 6) (.grd 7 true (.o 8 (.m 1) (.o 9 (.fieldAddr 2 (.t 2)) (.o 10 (.load none (.t 9)) (.o 11 (.len false (.t 10)) (.o 12 (.bin .lss (.t 8) (.t 11)) .nil))))) (.o 13 (.pick (.t 7) (.t 12) (.c (.bool false))) (.o 14 (.m 13) (.grd 14 true (.o 15 (.fieldAddr 2 (.t 2)) (.o 16 (.load none (.t 15)) (.o 17 (.m 1) (.o 18 (.idxAddr 3 (.t 16) (.t 17)) (.o 19 (.fieldAddr 0 (.t 18)) (.o 20 (.load none (.t 19)) .nil)))))) (.o 21 (.pick (.t 14) (.t 20) (.c (.bool false))) (.o 4 (.m 21) .nil)))))))))) .ret)), [.tmp 4]⟩
theorem b59 : fnOf Go.Proofs.Tryz.prog (owOf []) 59 = some c59 := by kernel_rfl
def c86 : RFn := ⟨(.seq (rf (.o 2 (.box (.t 0)) (.o 4 (.move (.c (.bool false))) .nil))) (.seq (.seq (rf (.o 5 (.move (.i 0)) .nil)) (.block 0 (.loop (.seq (.seq (rf (.o 6 (.m 5) (.o 7 (.m 1) (.o 8 (.len false (.t 7)) (.o 9 (.bin .lss (.t 6) (.t 8)) .nil))))) (.cond (.t 9) .skip (.exit 0))) (.seq (.block 1 (.seq (rt (.o 12 (.load (some 3) (.t 2)) (.o 13 (.m 1) (.o 14 (.m 5) (.op (some 15) (.idxAddr 1 (.t 13) (.t 14)) 6 (.op (some 16) (.load none (.t 15)) 14 (.op (some 17) (.call 59 [(.t 12), (.t 16)]) 31 (.op (some 18) (.un .not (.t 17)) 63 (.op (some 19) (.m 18) 127 (.grd 19 false (.op (some 20) (.m 5) 255 (.op (some 21) (.bin .gtr (.t 20) (.i 0)) 511 (.op (some 22) (.m 21) 1023 (.grd 22 true (.op (some 23) (.m 1) 2047 (.op (some 24) (.m 5) 2047 (.op (some 25) (.idxAddr 1 (.t 23) (.t 24)) 8191 (.op (some 26) (.load none (.t 25)) 16383 (.op (some 27) (.m 1) 2047 (.op (some 28) (.m 5) 2047 (.op (some 29) (.bin .sub (.t 28) (.i 1)) 67583 (.op (some 30) (.idxAddr 1 (.t 27) (.t 29)) 231423 (.op (some 31) (.load none (.t 30)) 493567 (.op (some 32) (.bin .leq (.t 26) (.t 31)) 1048575 .nil)))))))))) (.op (some 33) (.pick (.t 22) (.t 32) (.c (.bool false))) 2097151 .nil))))) (.op (some 34) (.pick (.t 19) (.c (.bool true)) (.t 33)) 4194303 .nil))))))))))) (.cond (.t 34) (.seq (rf (.o 4 (.move (.c (.bool false))) .nil)) .ret) .skip))) (rf (.o 10 (.m 5) (.o 11 (.bin .add (.t 10) (.i 1)) (.o 5 (.m 11) .nil))))))))) (.seq (rf (.o 4 (.move (.c (.bool true))) .nil)) .ret))), [.tmp 4]⟩
theorem b86 : fnOf Go.Proofs.Tryz.prog (owOf []) 86 = some c86 := by kernel_rfl
def c87 : RFn := ⟨(.seq (rf (.o 3 (.box (.t 0)) (.o 4 (.box (.t 1)) (.o 6 (.move (.c (.bool false))) .nil)))) (.seq (.seq (rf (.o 7 (.move (.i 0)) .nil)) (.block 0 (.loop (.seq (.seq (rf (.o 10 (.m 7) (.o 11 (.m 2) (.o 12 (.len false (.t 11)) (.o 13 (.bin .lss (.t 10) (.t 12)) .nil))))) (.cond (.t 13) .skip (.exit 0))) (.seq (.block 1 (.seq (.seq (rf (.o 16 (.m 2) (.o 17 (.m 7) (.o 18 (.idxAddr 11 (.t 16) (.t 17)) (.o 19 (.load (some 11) (.t 18)) (.o 20 (.call 89 [(.t 19)]) (.o 21 (.un .not (.t 20)) .nil))))))) (.cond (.t 21) (.seq (rf (.o 6 (.move (.c (.bool false))) .nil)) .ret) .skip)) (.seq (rf (.o 22 (.m 2) (.o 23 (.m 7) (.o 24 (.idxAddr 11 (.t 22) (.t 23)) (.o 25 (.load (some 11) (.t 24)) (.o 26 (.call 125 [(.t 25)]) (.o 8 (.m 26) .nil))))))) (.seq (.seq (rf (.o 9 (.move (.i 0)) .nil)) (.block 2 (.loop (.seq (.seq (rf (.o 27 (.m 9) (.o 28 (.m 8) (.o 29 (.len false (.t 28)) (.o 30 (.bin .lss (.t 27) (.t 29)) .nil))))) (.cond (.t 30) .skip (.exit 2))) (.seq (.block 3 (.seq (rt (.o 33 (.m 8) (.o 34 (.m 9) (.op (some 35) (.idxAddr 1 (.t 33) (.t 34)) 3 (.op (some 36) (.load none (.t 35)) 7 (.o 37 (.fieldAddr 1 (.t 4)) (.op (some 38) (.load none (.t 37)) 16 (.op (some 39) (.bin .geq (.t 36) (.t 38)) 63 .nil)))))))) (.cond (.t 39) (.seq (rf (.o 6 (.move (.c (.bool false))) .nil)) .ret) .skip))) (rf (.o 31 (.m 9) (.o 32 (.bin .add (.t 31) (.i 1)) (.o 9 (.m 32) .nil))))))))) (.seq (rt (.o 40 (.m 2) (.o 41 (.m 7) (.op (some 42) (.idxAddr 11 (.t 40) (.t 41)) 3 (.op (some 43) (.fieldAddr 1 (.t 42)) 7 (.op (some 44) (.load none (.t 43)) 15 (.op (some 45) (.bin .eql (.t 44) (.i 7)) 31 (.op (some 46) (.m 45) 63 (.grd 46 true (.op (some 47) (.m 2) 127 (.op (some 48) (.m 7) 127 (.op (some 49) (.idxAddr 11 (.t 47) (.t 48)) 511 (.op (some 50) (.fieldAddr 6 (.t 49)) 1023 (.op (some 51) (.load none (.t 50)) 2047 (.op (some 52) (.fieldAddr 0 (.t 3)) 127 (.op (some 53) (.load none (.t 52)) 4223 (.op (some 54) (.len false (.t 53)) 12415 (.op (some 55) (.bin .geq (.t 51) (.t 54)) 32767 (.op (some 56) (.m 55) 65535 (.grd 56 false (.op (some 57) (.fieldAddr 0 (.t 3)) 131071 (.op (some 58) (.load none (.t 57)) 262143 (.op (some 59) (.m 2) 131071 (.op (some 60) (.m 7) 131071 (.op (some 61) (.idxAddr 11 (.t 59) (.t 60)) 1703935 (.op (some 62) (.fieldAddr 6 (.t 61)) 3801087 (.op (some 63) (.load none (.t 62)) 7995391 (.op (some 64) (.idxAddr 3 (.t 58) (.t 63)) 16777215 (.op (some 65) (.fieldAddr 0 (.t 64)) 33554431 (.op (some 66) (.load none (.t 65)) 67108863 (.op (some 67) (.m 2) 131071 (.op (some 68) (.m 7) 131071 (.op (some 69) (.idxAddr 11 (.t 67) (.t 68)) 402784255 (.op (some 70) (.fieldAddr 7 (.t 69)) 939655167 (.op (some 71) (.load none (.t 70)) 2013396991 (.op (some 72) (.bin .neq (.t 66) (.t 71)) 4294967295 .nil)))))))))))))))) (.op (some 73) (.pick (.t 56) (.c (.bool true)) (.t 72)) 8589934591 .nil)))))))))))) (.op (some 74) (.pick (.t 46) (.t 73) (.c (.bool false))) 17179869183 .nil)))))))))) (.cond (.t 74) (.seq (rf (.o 6 (.move (.c (.bool false))) .nil)) .ret) .skip)))))) (rf (.o 14 (.m 7) (.o 15 (.bin .add (.t 14) (.i 1)) (.o 7 (.m 15) .nil))))))))) (.seq (rf (.o 75 (.m 2) (.o 76 (.len false (.t 75)) (.o 77 (.bin .leq (.t 76) (.i 16)) (.o 6 (.m 77) .nil))))) .ret))), [.tmp 6]⟩
theorem b87 : fnOf Go.Proofs.Tryz.prog (owOf []) 87 = some c87 := by kernel_rfl
end Go.Vm
end
section
/- Walks. -/
set_option maxRecDepth 100000
set_option linter.unusedSimpArgs false
set_option linter.unusedVariables false
namespace Go.Vm
open Go
set_option maxHeartbeats 4000000
section
variable {gl : Nat → Option PV}
theorem p_r_live (f : Fn) (b : Int) : Pure Go.Proofs.Tryz.prog gl 59 [pF f, .int .i64 b] (.bool (liveF f b)) := by
  refine Pure.fn hmix b59 ?_
  repeat' first | (with_reducible first | refine tr_seq ?_ | refine n_nil ?_ | refine seqQ_normal ?_ | refine seqQ_ret ?_ | refine blkQ_ret ?_ | refine tr_ret ?_) | ((with_reducible refine tr_region_f ?_ ?_); kernel_rfl) | exact ⟨rfl, rfl⟩ | ((with_reducible apply n_and); rfl; rfl; intro h) | ((with_reducible apply n_or); rfl; rfl; intro h) | ((with_reducible apply n_idx_vals B0); rfl; rfl; exact (fun _ => rfl); (first | omega | decide | (simp only [zz] at *; omega))) | ((with_reducible apply n_val); rfl; rfl) | ((with_reducible apply n_new); rfl; (first | (simp only [hn0, hn1, hn2, hn3, hn4, hn5, List.length_cons, List.length_nil, Nat.reduceAdd, Nat.zero_add]; first | done | rfl) | rfl); rfl) | ((with_reducible apply fnQ_told_ret); rfl) | ((with_reducible apply fnQ_ret_soft); rfl; rfl)
  simp only [liveF, List.length_map]
def okS (f : Fn) (l : List Int) : Bool := risesL l && !l.any fun b => !liveF f b
theorem okS_t {f : Fn} {l : List Int} (h : ∀ j, j < l.length → liveF f (l.getD j 0) = true) (h2 : ∀ j, 1 ≤ j → j < l.length → l.getD (j - 1) 0 < l.getD j 0) : okS f l = true := by
  rw [okS, rises_t h2, Bool.true_and, Bool.not_eq_true', List.any_eq_false]
  intro b hb
  obtain ⟨j, hj, rfl⟩ := List.mem_iff_getElem.1 hb
  have := h j hj
  rw [List.getD_eq_getElem?_getD, List.getElem?_eq_getElem hj, Option.getD_some] at this
  rw [this]; simp
theorem okS_f1 {f : Fn} {l : List Int} {k : Nat} (hk : k < l.length) (h : liveF f (l.getD k 0) = false) : okS f l = false := by
  rw [okS, show (l.any fun b => !liveF f b) = true from List.any_eq_true.2 ⟨_, getD_mem 0 hk, by rw [h]; rfl⟩]
  simp
theorem okS_f2 {f : Fn} {l : List Int} {k : Nat} (h1 : 1 ≤ k) (hk : k < l.length) (h : ¬ l.getD (k - 1) 0 < l.getD k 0) : okS f l = false := by
  rw [okS, rises_f h1 hk h, Bool.false_and]
theorem p_r_succ (f : Fn) (l : List Int) (hl : l.length ≤ 1000) : Pure Go.Proofs.Tryz.prog gl 86 [pF f, .sl (ints l)] (.bool (okS f l)) := by
  refine Pure.fn hmix b86 ?_
  repeat' first | (with_reducible first | refine tr_seq ?_ | refine n_nil ?_ | refine seqQ_normal ?_ | refine seqQ_exit ?_ | refine seqQ_ret ?_ | refine blkQ_normal ?_ | refine blkQ_exit ?_ | refine blkQ_ret ?_ | refine tr_block ?_ | refine tr_skip ?_ | refine tr_exit ?_ | refine tr_ret ?_ | refine condT_t ?_ | refine condT_f ?_ | refine loopV_exit ?_ | refine loopV_ret ?_) | ((with_reducible refine tr_region_f ?_ ?_); kernel_rfl) | ((with_reducible refine tr_region_t ?_ ?_ ?_); kernel_rfl; kernel_rfl) | exact ⟨rfl, rfl⟩ | ((with_reducible refine blkQ_exit_ne ?_ ?_); rfl) | ((with_reducible apply tr_cond_e); rfl) | ((with_reducible apply n_and); rfl; rfl; intro h) | ((with_reducible apply n_or); rfl; rfl; intro h) | ((with_reducible apply n_idx_ints); rfl; rfl; (first | omega | decide | (simp only [zz] at *; omega))) | (first | ((with_reducible apply n_bin); rfl; rfl; focus ((with_reducible (first | apply b_add | apply b_sub)) <;> first | omega | decide | (simp only [zz] at *; omega))) | ((with_reducible apply n_max); rfl; rfl) | ((with_reducible apply n_min); rfl; rfl)) | (refine tr_loop_v (α := Nat) 1 (fun | k => [(5, some (.int .i64 (k : Int))), (6, none), (7, none), (8, none), (9, none), (12, none), (13, none), (14, none), (15, none), (16, none), (17, none), (18, none), (19, none), (20, none), (21, none), (22, none), (23, none), (24, none), (25, none), (26, none), (27, none), (28, none), (29, none), (30, none), (31, none), (32, none), (33, none), (34, none), (4, none), (10, none), (11, none)]) (fun | k => [some ⟨0, 3, [pF f]⟩]) (fun | k => k ≤ l.length ∧ (∀ j, j < k → liveF f (l.getD j 0) = true) ∧ ∀ j, 1 ≤ j → j < k → l.getD (j - 1) 0 < l.getD j 0) (fun | k => l.length - k) (0) (ks := [5, 6, 7, 8, 9, 12, 13, 14, 15, 16, 17, 18, 19, 20, 21, 22, 23, 24, 25, 26, 27, 28, 29, 30, 31, 32, 33, 34, 4, 10, 11]) (fun _ => rfl) (fun _ => rfl) rfl (by omega) ?_ ⟨⟨_, rfl, rfl⟩, trivial⟩ ⟨⟨_, rfl, rfl, rfl, rfl⟩, trivial⟩ ?_; rotate_left; rintro k hx; try dsimp only at hx) | ((first | (refine loopV_normal (k + 1) ?_ ⟨⟨_, rfl, rfl⟩, trivial⟩ ⟨⟨_, rfl, rfl, rfl, rfl⟩, trivial⟩ ?_ ?_)); repeat (first | exact only_refl | refine only_put rfl ?_ | refine only_less rfl ?_ | refine only_ov rfl ?_)) | ((with_reducible apply n_val); rfl; rfl) | ((with_reducible apply n_new); rfl; (first | (simp only [hn0, hn1, hn2, hn3, hn4, hn5, List.length_cons, List.length_nil, Nat.reduceAdd, Nat.zero_add]; first | done | rfl) | rfl); rfl) | ((with_reducible apply n_call (f := 59)); rfl; rfl; exact p_r_live f _) | (with_reducible refine condT_split (fun h => ?_) (fun h => ?_)) | ((with_reducible apply fnQ_told_ret); rfl) | ((with_reducible apply fnQ_ret_soft); rfl; rfl)
  all_goals (try dsimp only at *)
  all_goals (try simp only [decide_eq_true_eq, decide_eq_false_iff_not, List.length_map, ints_length, Int.toNat_natCast] at *)
  · refine congrArg PV.bool ?_
    rename (_ || _) = true => hb
    symm
    cases hl : liveF f (l.getD k 0) with
    | false => exact okS_f1 (k := k) (by omega) hl
    | true =>
      rw [hl] at hb
      simp only [Bool.not_true, Bool.false_or, Bool.and_eq_true, decide_eq_true_eq] at hb
      have e : ((k : Int) - 1).toNat = k - 1 := by omega
      rw [e] at hb
      exact okS_f2 (k := k) (by omega) (by omega) (by omega)
  · omega
  · rename (_ || _) = false => hb
    simp only [Bool.or_eq_false_iff, Bool.not_eq_false'] at hb
    refine ⟨by omega, fun j hj => ?_, fun j h1 h2 => ?_⟩
    · rcases Nat.lt_succ_iff_lt_or_eq.mp hj with hj | rfl
      · exact hx.2.1 j hj
      · exact hb.1
    · rcases Nat.lt_succ_iff_lt_or_eq.mp h2 with hj | rfl
      · exact hx.2.2 j h1 hj
      · have h3 := hb.2
        rw [decide_eq_true (by omega), Bool.true_and, decide_eq_false_iff_not, show ((j : Int) - 1).toNat = j - 1 by omega] at h3
        omega
  · rw [okS_t (fun j hj => hx.2.1 j (by omega)) fun j h1 h2 => hx.2.2 j h1 (by omega)]
  · exact ⟨Nat.zero_le _, fun j hj => absurd hj (by omega), fun j h1 h2 => absurd h2 (by omega)⟩
theorem p_r5_VarsX (i : In) : Pure Go.Proofs.Tryz.prog gl 125 [pI i] (.sl (ints (varsI i))) := by
  by_cases h : usesI i = []
  · by_cases e : defI i = -1
    · exact p_r5_Vars0 i h e
    · exact p_r5_Vars1 i h e
  · exact p_r5_Vars3 i h
def okC (p : List Fn) (f : Fn) (l : List In) : Bool := !(decide ((l.length : Int) > 16) || l.any fun i => !okI p f i)
theorem okC_f {p : List Fn} {f : Fn} {l : List In} {k : Nat} (hk : k < l.length) (h : okI p f (l.getD k i0) = false) : okC p f l = false := by
  rw [okC, show (l.any fun i => !okI p f i) = true from List.any_eq_true.2 ⟨_, getD_mem i0 hk, by rw [h]; rfl⟩]
  simp
theorem okC_t {p : List Fn} {f : Fn} {l : List In} (h : ∀ j, j < l.length → okI p f (l.getD j i0) = true) : okC p f l = decide ((l.length : Int) ≤ 16) := by
  have e : (l.any fun i => !okI p f i) = false := by
    rw [List.any_eq_false]
    intro b hb
    obtain ⟨j, hj, rfl⟩ := List.mem_iff_getElem.1 hb
    have := h j hj
    rw [List.getD_eq_getElem?_getD, List.getElem?_eq_getElem hj, Option.getD_some] at this
    rw [this]; simp
  rw [okC, e, Bool.or_false]
  by_cases c : (l.length : Int) > 16
  · rw [decide_eq_true c, decide_eq_false (by omega)]; rfl
  · rw [decide_eq_false c, decide_eq_true (by omega)]; rfl
theorem okI_f1 {p : List Fn} {f : Fn} {i : In} (h : form i = false) : okI p f i = false := by rw [okI, h]; simp
theorem okI_f2 {p : List Fn} {f : Fn} {i : In} {k : Nat} (hk : k < (varsI i).length) (h : (varsI i).getD k 0 ≥ f.vs) : okI p f i = false := by
  rw [okI, show (varsI i).any (fun v => decide (v ≥ f.vs)) = true from List.any_eq_true.2 ⟨_, getD_mem 0 hk, decide_eq_true h⟩]; simp
theorem okI_e {p : List Fn} {f : Fn} {i : In} (h1 : form i = true) (h2 : ∀ j, j < (varsI i).length → ¬ (varsI i).getD j 0 ≥ f.vs) : okI p f i = !(i.kind == 7 && (decide (i.f ≥ (p.length : Nat)) || (p.getD i.f.toNat F0).ar != i.n)) := by
  have e : (varsI i).any (fun v => decide (v ≥ f.vs)) = false := by
    rw [List.any_eq_false]
    intro b hb
    obtain ⟨j, hj, rfl⟩ := List.mem_iff_getElem.1 hb
    have := h2 j hj
    rw [List.getD_eq_getElem?_getD, List.getElem?_eq_getElem hj, Option.getD_some] at this
    simpa using this
  rw [okI, h1, e]
  cases hk : i.kind == 7 with
  | false => rw [bne, hk]; rfl
  | true =>
    rw [bne, hk]
    by_cases c : i.f < (p.length : Nat)
    · rw [decide_eq_true c, decide_eq_false (by omega)]; simp [bne]
    · rw [decide_eq_false c, decide_eq_true (by omega)]; rfl
theorem p_r_code (p : List Fn) (f : Fn) (l : List In) (hl : l.length ≤ 1000) : Pure Go.Proofs.Tryz.prog gl 87 [pP p, pF f, .sl (l.map pI)] (.bool (okC p f l)) := by
  have hv := fun i => vars_len5 i
  have hF : ∀ i, form i = true → (i.kind == 7) = true → 0 ≤ i.f := fun i h1 h2 => form_call h1 (by simpa using h2)
  refine Pure.fn hmix b87 ?_
  repeat' first | (with_reducible first | refine tr_seq ?_ | refine n_nil ?_ | refine seqQ_normal ?_ | refine seqQ_exit ?_ | refine seqQ_ret ?_ | refine blkQ_normal ?_ | refine blkQ_exit ?_ | refine blkQ_ret ?_ | refine tr_block ?_ | refine tr_skip ?_ | refine tr_exit ?_ | refine tr_ret ?_ | refine condT_t ?_ | refine condT_f ?_ | refine loopV_exit ?_ | refine loopV_ret ?_) | ((with_reducible refine tr_region_f ?_ ?_); kernel_rfl) | ((with_reducible refine tr_region_t ?_ ?_ ?_); kernel_rfl; kernel_rfl) | exact ⟨rfl, rfl⟩ | ((with_reducible refine blkQ_exit_ne ?_ ?_); rfl) | ((with_reducible apply tr_cond_e); rfl) | ((with_reducible apply n_and); rfl; rfl; intro h) | ((with_reducible apply n_or); rfl; rfl; intro h) | ((with_reducible apply n_idx_vals F0); rfl; rfl; exact (fun _ => rfl); (rename (!_) = false => q1; simp only [Bool.not_eq_false'] at q1; simp only [decide_eq_false_iff_not, List.length_map] at *; exact ⟨hF _ q1 (by assumption), by omega⟩)) | ((with_reducible apply n_idx_vals i0); rfl; rfl; exact (fun _ => rfl); (first | omega | decide | (simp only [zz] at *; omega))) | ((with_reducible apply n_idx_ints); rfl; rfl; (first | omega | decide | (simp only [zz] at *; omega))) | (first | ((with_reducible apply n_bin); rfl; rfl; focus ((with_reducible (first | apply b_add | apply b_sub)) <;> first | omega | decide | (simp only [zz] at *; omega))) | ((with_reducible apply n_max); rfl; rfl) | ((with_reducible apply n_min); rfl; rfl)) | (refine tr_loop_v (α := Nat) 2 (fun | k => [(7, some (.int .i64 (k : Int))), (10, none), (11, none), (12, none), (13, none), (16, none), (17, none), (18, none), (19, none), (20, none), (21, none), (6, none), (22, none), (23, none), (24, none), (25, none), (26, none), (8, none), (9, none), (27, none), (28, none), (29, none), (30, none), (33, none), (34, none), (35, none), (36, none), (37, none), (38, none), (39, none), (31, none), (32, none), (40, none), (41, none), (42, none), (43, none), (44, none), (45, none), (46, none), (47, none), (48, none), (49, none), (50, none), (51, none), (52, none), (53, none), (54, none), (55, none), (56, none), (57, none), (58, none), (59, none), (60, none), (61, none), (62, none), (63, none), (64, none), (65, none), (66, none), (67, none), (68, none), (69, none), (70, none), (71, none), (72, none), (73, none), (74, none), (14, none), (15, none)]) (fun | k => [some ⟨0, 1, [pP p]⟩, some ⟨0, 3, [pF f]⟩]) (fun | k => k ≤ l.length ∧ (∀ j, j < k → okI p f (l.getD j i0) = true)) (fun | k => l.length - k) (0) (ks := [7, 10, 11, 12, 13, 16, 17, 18, 19, 20, 21, 6, 22, 23, 24, 25, 26, 8, 9, 27, 28, 29, 30, 33, 34, 35, 36, 37, 38, 39, 31, 32, 40, 41, 42, 43, 44, 45, 46, 47, 48, 49, 50, 51, 52, 53, 54, 55, 56, 57, 58, 59, 60, 61, 62, 63, 64, 65, 66, 67, 68, 69, 70, 71, 72, 73, 74, 14, 15]) (fun _ => rfl) (fun _ => rfl) rfl (by omega) ?_ ⟨⟨_, rfl, rfl⟩, trivial⟩ ⟨⟨_, rfl, rfl, rfl, rfl⟩, ⟨_, rfl, rfl, rfl, rfl⟩, trivial⟩ ?_; rotate_left; rintro k hx; try dsimp only at hx) | ((first | (refine loopV_normal (k + 1) ?_ ⟨⟨_, rfl, rfl⟩, trivial⟩ ⟨⟨_, rfl, rfl, rfl, rfl⟩, ⟨_, rfl, rfl, rfl, rfl⟩, trivial⟩ ?_ ?_)); repeat (first | exact only_refl | refine only_put rfl ?_ | refine only_less rfl ?_ | refine only_ov rfl ?_)) | (refine tr_loop_v (α := Nat) 2 (fun | j => [(9, some (.int .i64 (j : Int))), (27, none), (28, none), (29, none), (30, none), (33, none), (34, none), (35, none), (36, none), (37, none), (38, none), (39, none), (6, none), (31, none), (32, none)]) (fun | j => [some ⟨0, 1, [pP p]⟩, some ⟨0, 3, [pF f]⟩]) (fun | j => j ≤ (varsI (l.getD k i0)).length ∧ (∀ m, m < j → ¬ (varsI (l.getD k i0)).getD m 0 ≥ f.vs) ∧ (varsI (l.getD k i0)).length ≤ 100000) (fun | j => (varsI (l.getD k i0)).length - j) (0) (ks := [9, 27, 28, 29, 30, 33, 34, 35, 36, 37, 38, 39, 6, 31, 32]) (fun _ => rfl) (fun _ => rfl) rfl (by omega) ?_ ⟨⟨_, rfl, rfl⟩, trivial⟩ ⟨⟨_, rfl, rfl, rfl, rfl⟩, ⟨_, rfl, rfl, rfl, rfl⟩, trivial⟩ ?_; rotate_left; rintro j hx; try dsimp only at hx) | ((first | (refine loopV_normal (j + 1) ?_ ⟨⟨_, rfl, rfl⟩, trivial⟩ ⟨⟨_, rfl, rfl, rfl, rfl⟩, ⟨_, rfl, rfl, rfl, rfl⟩, trivial⟩ ?_ ?_)); repeat (first | exact only_refl | refine only_put rfl ?_ | refine only_less rfl ?_ | refine only_ov rfl ?_)) | ((with_reducible apply n_val); rfl; rfl) | ((with_reducible apply n_new); rfl; (first | (simp only [hn0, hn1, hn2, hn3, hn4, hn5, List.length_cons, List.length_nil, Nat.reduceAdd, Nat.zero_add]; first | done | rfl) | rfl); rfl) | ((with_reducible apply n_call (f := 89)); rfl; rfl; exact p_r5_Form (l.getD k i0)) | ((with_reducible apply n_call (f := 125)); rfl; rfl; exact p_r5_VarsX (l.getD k i0)) | (with_reducible refine condT_split (fun h => ?_) (fun h => ?_)) | ((with_reducible apply fnQ_told_ret); rfl) | ((with_reducible apply fnQ_ret_soft); rfl; rfl)
  all_goals (try dsimp only at *)
  all_goals (try simp only [decide_eq_true_eq, decide_eq_false_iff_not, List.length_map, ints_length, Int.toNat_natCast] at *)
  · rw [okC_f (k := k) (by omega) (okI_f1 (by simpa using ‹(!form (l.getD k i0)) = true›))]
  · rw [okC_f (k := k) (by omega) (okI_f2 (k := j) (by omega) (by omega))]
  · omega
  · refine ⟨by omega, fun m hm => ?_, hx.2.2⟩
    rcases Nat.lt_succ_iff_lt_or_eq.mp hm with hm | rfl
    · exact hx.2.1 m hm
    · exact h
  · have q1 : form (l.getD k i0) = true := by simpa using ‹(!form (l.getD k i0)) = false›
    rw [okC_f (k := k) (by omega)]
    rw [okI_e q1 fun m hm => hx.2.1 m (by omega), h]; rfl
  · omega
  · rename_i hX _ _ _
    refine ⟨by omega, fun m hm => ?_⟩
    rcases Nat.lt_succ_iff_lt_or_eq.mp hm with hm | rfl
    · exact hX.2 m hm
    · have q1 : form (l.getD m i0) = true := by simpa using ‹(!form (l.getD m i0)) = false›
      rw [okI_e q1 fun q hq => hx.2.1 q (by omega), h]; rfl
  · exact ⟨Nat.zero_le _, fun m hm => absurd hm (by omega), hv _⟩
  · rw [okC_t fun j hj => hx.2 j (by omega)]
  · exact ⟨Nat.zero_le _, fun j hj => absurd hj (by omega)⟩
end
end Go.Vm
end
