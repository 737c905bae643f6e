/- Laid. -/
import Derived.Test.YtlllcmahmgdppaaGreatDoorVmThree
import Derived.KernelRfl
import Derived.Test.YtlllcmahmgdppaaGreatDoorProg
import Derived.Test.YtlllcmahmgdppaaGreatDoorXprogJ
section
/- Code. -/
set_option maxRecDepth 100000
set_option linter.unusedSimpArgs false
set_option linter.unusedVariables false
namespace Go.Vm
open Go
def c36 : RFn := ⟨(.seq (rf (.o 1 (.box (.t 0)) (.o 2 (.move (.i 0)) .nil))) (.seq (rf (.o 3 (.move (.c (.lit []))) .nil)) (.seq (rf (.o 7 (.load (some 1) (.t 1)) (.o 8 (.call 20 [(.t 7)]) (.o 4 (.m 8) .nil)))) (.seq (.seq (rf (.o 5 (.move (.i 0)) .nil)) (.block 0 (.loop (.seq (.seq (rf (.o 9 (.m 5) (.o 10 (.m 4) (.o 11 (.len false (.t 10)) (.o 12 (.bin .lss (.t 9) (.t 11)) .nil))))) (.cond (.t 12) .skip (.exit 0))) (.seq (.block 1 (rf (.o 15 (.m 3) (.o 16 (.m 4) (.o 17 (.m 5) (.o 18 (.idxAddr 11 (.t 16) (.t 17)) (.o 19 (.fieldAddr 0 (.t 18)) (.o 20 (.load none (.t 19)) (.o 21 (.bslice false 1 1 (.int .i64 0) [(0, (.t 20))]) (.o 22 (.append 1 (.int .i64 0) (.t 15) (.t 21)) (.o 3 (.m 22) .nil))))))))))) (rf (.o 13 (.m 5) (.o 14 (.bin .add (.t 13) (.i 1)) (.o 5 (.m 14) .nil))))))))) (.seq (.seq (rf (.o 6 (.move (.i 0)) .nil)) (.block 2 (.loop (.seq (.seq (rf (.o 23 (.m 6) (.o 24 (.bin .lss (.t 23) (.i 96)) (.o 25 (.m 24) (.grd 25 true (.o 26 (.load (some 1) (.t 1)) (.o 27 (.call 27 [(.t 26)]) .nil)) (.o 28 (.pick (.t 25) (.t 27) (.c (.bool false))) .nil)))))) (.cond (.t 28) .skip (.exit 2))) (.seq (.block 3 (.seq (rf (.o 31 (.m 3) (.o 32 (.m 6) (.o 33 (.call 63 [(.t 31), (.t 32)]) (.o 34 (.un .not (.t 33)) .nil))))) (.cond (.t 34) (.seq (rf (.o 35 (.m 6) (.o 2 (.m 35) .nil))) .ret) .skip))) (rf (.o 29 (.m 6) (.o 30 (.bin .add (.t 29) (.i 1)) (.o 6 (.m 30) .nil))))))))) (.seq (rf (.o 2 (.move (.c (.int .i64 (-1)))) .nil)) .ret)))))), [.tmp 2]⟩
theorem b36 : fnOf Go.Proofs.Tryz.prog (owOf [(6, 6)]) 36 = some c36 := by kernel_rfl
def c38 : RFn := ⟨(.seq (rf (.o 2 (.box (.t 0)) (.o 4 (.move (.i 0)) .nil))) (.seq (rf (.o 9 (.load (some 1) (.t 2)) (.o 10 (.m 1) (.o 11 (.call 22 [(.t 9), (.t 10)]) (.o 8 (.m 11) (.o 12 (.extract 0 (.t 8)) (.o 13 (.extract 1 (.t 8)) (.o 5 (.alloc (.agg [(.int .i64 0), (.int .i64 0), (.lit [])])) (.op none (.store 3 (.t 5) (.t 12)) 0 (.o 6 (.m 13) .nil)))))))))) (.seq (.seq (rf (.o 7 (.move (.i 0)) .nil)) (.block 0 (.loop (.seq (.seq (rf (.o 14 (.m 7) (.o 15 (.bin .lss (.t 14) (.i 12)) (.o 16 (.m 15) (.grd 16 true (.o 17 (.m 6) .nil) (.o 18 (.pick (.t 16) (.t 17) (.c (.bool false))) .nil)))))) (.cond (.t 18) .skip (.exit 0))) (.seq (.block 1 (.seq (rf (.o 21 (.load (some 3) (.t 5)) (.o 22 (.m 7) (.o 23 (.call 59 [(.t 21), (.t 22)]) (.o 24 (.un .not (.t 23)) .nil))))) (.cond (.t 24) (.seq (rf (.o 25 (.m 7) (.o 4 (.m 25) .nil))) .ret) .skip))) (rf (.o 19 (.m 7) (.o 20 (.bin .add (.t 19) (.i 1)) (.o 7 (.m 20) .nil))))))))) (.seq (rf (.o 4 (.move (.c (.int .i64 (-1)))) .nil)) .ret)))), [.tmp 4]⟩
theorem b38 : fnOf Go.Proofs.Tryz.prog (owOf []) 38 = some c38 := by kernel_rfl
def c63 : RFn := ⟨(.seq (rf (.o 4 (.move (.c (.bool false))) .nil)) (.seq (.seq (rf (.o 5 (.move (.i 0)) .nil)) (.block 0 (.loop (.seq (.seq (rf (.o 6 (.m 5) (.o 7 (.m 0) (.o 8 (.len false (.t 7)) (.o 9 (.bin .lss (.t 6) (.t 8)) .nil))))) (.cond (.t 9) .skip (.exit 0))) (.seq (.block 1 (.seq (rf (.o 12 (.m 0) (.o 13 (.m 5) (.o 14 (.idxAddr 1 (.t 12) (.t 13)) (.o 15 (.load none (.t 14)) (.o 16 (.m 1) (.o 17 (.bin .eql (.t 15) (.t 16)) .nil))))))) (.cond (.t 17) (.seq (rf (.o 4 (.move (.c (.bool true))) .nil)) .ret) .skip))) (rf (.o 10 (.m 5) (.o 11 (.bin .add (.t 10) (.i 1)) (.o 5 (.m 11) .nil))))))))) (.seq (rf (.o 4 (.move (.c (.bool false))) .nil)) .ret))), [.tmp 4]⟩
theorem b63 : fnOf Go.Proofs.Tryz.prog (owOf []) 63 = some c63 := by kernel_rfl
end Go.Vm
end
section
/- Walks. -/
set_option maxRecDepth 100000
set_option linter.unusedSimpArgs false
set_option linter.unusedVariables false
namespace Go.Vm
open Go
set_option maxHeartbeats 4000000
section
variable {gl : Nat → Option PV}
theorem ctn_no {l : List Int} {n : Int} (h : ∀ j, j < l.length → (l.getD j 0 == n) = false) : l.contains n = false := w_nct fun j hj => by simpa using h j hj
theorem p_r_has (l : List Int) (n : Int) (hl : l.length ≤ 100000) : Pure Go.Proofs.Tryz.prog gl 63 [.sl (ints l), .int .i64 n] (.bool (l.contains n)) := by
  refine Pure.fn hmix b63 ?_
  repeat' first | (with_reducible first | refine tr_seq ?_ | refine n_nil ?_ | refine seqQ_normal ?_ | refine seqQ_exit ?_ | refine seqQ_ret ?_ | refine blkQ_normal ?_ | refine blkQ_exit ?_ | refine blkQ_ret ?_ | refine tr_block ?_ | refine tr_skip ?_ | refine tr_exit ?_ | refine tr_ret ?_ | refine condT_t ?_ | refine condT_f ?_ | refine loopV_exit ?_ | refine loopV_ret ?_) | ((with_reducible refine tr_region_f ?_ ?_); kernel_rfl) | ((with_reducible refine blkQ_exit_ne ?_ ?_); rfl) | ((with_reducible apply tr_cond_e); rfl) | ((with_reducible apply n_idx_ints); rfl; rfl; (first | omega | decide | (simp only [zz] at *; omega))) | (first | ((with_reducible apply n_bin); rfl; rfl; focus ((with_reducible (first | apply b_add | apply b_sub)) <;> first | omega | decide | (simp only [zz] at *; omega))) | ((with_reducible apply n_max); rfl; rfl) | ((with_reducible apply n_min); rfl; rfl)) | (refine tr_loop_v (α := Nat) 0 (fun | k => [(5, some (.int .i64 (k : Int))), (6, none), (7, none), (8, none), (9, none), (12, none), (13, none), (14, none), (15, none), (16, none), (17, none), (4, none), (10, none), (11, none)]) (fun | k => []) (fun | k => k ≤ l.length ∧ ∀ j, j < k → (l.getD j 0 == n) = false) (fun | k => l.length - k) (0) (ks := [5, 6, 7, 8, 9, 12, 13, 14, 15, 16, 17, 4, 10, 11]) (fun _ => rfl) (fun _ => rfl) rfl (by omega) ?_ ⟨⟨_, rfl, rfl⟩, trivial⟩ trivial ?_; rotate_left; rintro k hx; try dsimp only at hx) | ((first | (refine loopV_normal (k + 1) ?_ ⟨⟨_, rfl, rfl⟩, trivial⟩ trivial ?_ ?_)); repeat (first | exact only_refl | refine only_put rfl ?_ | refine only_less rfl ?_ | refine only_ov rfl ?_)) | ((with_reducible apply n_val); rfl; rfl) | (with_reducible refine condT_split (fun h => ?_) (fun h => ?_)) | ((with_reducible apply fnQ_told_ret); rfl) | ((with_reducible apply fnQ_ret_soft); rfl; rfl)
  all_goals (try dsimp only at *)
  all_goals (try simp only [decide_eq_true_eq, decide_eq_false_iff_not, List.length_map, ints_length, Int.toNat_natCast] at *)
  · rename (_ == _) = true => hb
    rw [w_ctn (k := k) (by omega) (by simpa using hb)]
  · omega
  · refine ⟨by omega, fun j hj => ?_⟩
    rcases Nat.lt_succ_iff_lt_or_eq.mp hj with hj | rfl
    · exact hx.2 j hj
    · assumption
  · rw [ctn_no fun j hj => hx.2 j (by omega)]
  · exact ⟨Nat.zero_le _, fun j hj => absurd hj (by omega)⟩
theorem idk_s {l : List In} {k : Nat} (h : k < l.length) : ((l.take k).map fun a : In => a.id) ++ [(l.getD k i0).id] = (l.take (k + 1)).map fun a : In => a.id := by rw [take_snocI h, List.map_append]; rfl
theorem idk_n {l : List In} {k : Nat} (h : ¬ k < l.length) : ((l.take k).map fun a : In => a.id) = l.map fun a : In => a.id := by rw [List.take_of_length_le (by omega)]
theorem few_fun2 {p : List Fn} (h : few p = true) (f : Int) : ((funV p f).getD F0).bs.length ≤ 20 ∧ ∀ j, (((funV p f).getD F0).bs.getD j B0).code.length ≤ 30 ∧ (((funV p f).getD F0).bs.getD j B0).succ.length ≤ 30 := by
  unfold funV
  split
  · exact few_at h f.toNat
  · exact ⟨Nat.zero_le _, fun j => ⟨Nat.zero_le _, Nat.zero_le _⟩⟩
theorem p_r_NewId (p : List Fn) (hf : few p = true) : Pure Go.Proofs.Tryz.prog gl 36 [pP p] (.int .i64 (newIdV p)) := by
  have hs := p_r_Sane (gl := gl) p hf
  have hI := p_Instrs (gl := gl) p hf
  have hl := insP_le hf
  have e : ∀ n, look (entF [] (idsP p)) n = ((insP p).map fun a : In => a.id).contains n := fun n => by rw [look_entF, ids_all]; simp [look]
  have hh : ∀ n, Pure Go.Proofs.Tryz.prog gl 63 [.sl (ints ((insP p).map fun a : In => a.id)), .int .i64 n] (.bool (((insP p).map fun a : In => a.id).contains n)) := fun n => p_r_has _ n (by rw [List.length_map]; omega)
  refine Pure.fn hmix b36 ?_
  repeat' first | (with_reducible first | refine tr_seq ?_ | refine n_nil ?_ | refine seqQ_normal ?_ | refine seqQ_exit ?_ | refine seqQ_ret ?_ | refine blkQ_normal ?_ | refine blkQ_exit ?_ | refine blkQ_ret ?_ | refine tr_block ?_ | refine tr_skip ?_ | refine tr_exit ?_ | refine tr_ret ?_ | refine condT_t ?_ | refine condT_f ?_ | refine loopV_exit ?_ | refine loopV_ret ?_) | (refine tr_virt 3 1 1 rfl (by omega) rfl ?_) | ((with_reducible refine tr_region_f ?_ ?_); kernel_rfl) | exact ⟨rfl, rfl⟩ | ((with_reducible refine blkQ_exit_ne ?_ ?_); rfl) | ((with_reducible apply tr_cond_e); rfl) | ((with_reducible apply n_and); rfl; rfl; intro h) | ((with_reducible apply n_or); rfl; rfl; intro h) | ((with_reducible apply n_call (f := 27)); rfl; rfl; exact hs) | ((with_reducible apply n_call (f := 20)); rfl; rfl; exact hI) | ((with_reducible apply n_callb (f := 63)); rfl; exact softs_vals (f := pz) (xs := ((insP p).map fun a : In => a.id)) rfl (fun _ => rfl) (by rw [List.length_map]; first | omega | decide | (simp only [zz] at *; omega)) rfl; exact hh _; rfl) | ((with_reducible apply n_idx_vals i0); rfl; rfl; exact (fun _ => rfl); (first | omega | decide | (simp only [zz] at *; omega))) | ((with_reducible apply n_append_vals (f := pz) (((insP p).getD k i0).id)); rfl; rfl; rfl; rfl; rfl; (rw [List.length_map, List.length_take]; omega); omega) | (first | ((with_reducible apply n_bin); rfl; rfl; focus ((with_reducible (first | apply b_add | apply b_sub)) <;> first | omega | decide | (simp only [zz] at *; omega))) | ((with_reducible apply n_max); rfl; rfl) | ((with_reducible apply n_min); rfl; rfl)) | (refine tr_loop_v (α := Nat × Nat) 2 (fun | (k, n) => [(3, some (.ref 1 n 0 n)), (5, some (.int .i64 (k : Int))), (9, none), (10, none), (11, none), (12, none), (15, none), (16, none), (17, none), (18, none), (19, none), (20, none), (21, none), (22, none), (13, none), (14, none)]) (fun | (k, n) => [some ⟨0, 1, [pP p]⟩, some ⟨n, 1, (((insP p).take k).map fun a : In => a.id).map pz⟩]) (fun | (k, n) => k ≤ (insP p).length ∧ n = k) (fun | (k, n) => (insP p).length - k) ((0, 0)) (ks := [3, 5, 9, 10, 11, 12, 15, 16, 17, 18, 19, 20, 21, 22, 13, 14]) (fun _ => rfl) (fun _ => rfl) rfl (by omega) ?_ ⟨⟨_, rfl, rfl⟩, ⟨_, rfl, rfl⟩, trivial⟩ ⟨⟨_, rfl, rfl, rfl, rfl⟩, ⟨_, rfl, rfl, rfl, (by first | exact fzP_vals (fun _ => rfl) rfl | exact fzP_vals (fun _ => rfl) (idk_s (by first | omega | decide | (simp only [zz] at *; omega))) | exact fzP_vals (fun _ => rfl) (idk_n (by first | omega | decide | (simp only [zz] at *; omega))) |  rfl | exact fzP_pure (ints_pure _) | exact fzP_pure (u64s_pure _) | exact fzP_pure (by assumption) | exact fzP_pure (by first | (simp [pureE, pure1, ints]; done) | (simp_all [pe_int, pe_bool, pe_str, pe_sl, pe_agg, p1_int, p1_bool, p1_str, p1_sl]; done)))⟩, trivial⟩ ?_; rotate_left; rintro ⟨k, n⟩ hx; try dsimp only at hx) | ((first | (refine loopV_normal ((k + 1, n + 1)) ?_ ⟨⟨_, rfl, rfl⟩, ⟨_, rfl, rfl⟩, trivial⟩ ⟨⟨_, rfl, rfl, rfl, rfl⟩, ⟨_, rfl, rfl, rfl, (by first | exact fzP_vals (fun _ => rfl) rfl | exact fzP_vals (fun _ => rfl) (idk_s (by first | omega | decide | (simp only [zz] at *; omega))) | exact fzP_vals (fun _ => rfl) (idk_n (by first | omega | decide | (simp only [zz] at *; omega))) |  rfl | exact fzP_pure (ints_pure _) | exact fzP_pure (u64s_pure _) | exact fzP_pure (by assumption) | exact fzP_pure (by first | (simp [pureE, pure1, ints]; done) | (simp_all [pe_int, pe_bool, pe_str, pe_sl, pe_agg, p1_int, p1_bool, p1_str, p1_sl]; done)))⟩, trivial⟩ ?_ ?_)); repeat (first | exact only_refl | refine only_put rfl ?_ | refine only_less rfl ?_ | refine only_ov rfl ?_)) | (refine tr_loop_v (α := Nat) 2 (fun | i => [(6, some (.int .i64 (i : Int))), (23, none), (24, none), (25, none), (26, none), (27, none), (28, none), (31, none), (32, none), (33, none), (34, none), (35, none), (2, none), (29, none), (30, none)]) (fun | i => [some ⟨0, 1, [pP p]⟩, some ⟨n, 1, ((insP p).map fun a : In => a.id).map pz⟩]) (fun | i => i ≤ 96 ∧ ∀ j : Nat, j < i → ((insP p).map fun a : In => a.id).contains (j : Int) = true) (fun | i => 96 - i) (0) (ks := [6, 23, 24, 25, 26, 27, 28, 31, 32, 33, 34, 35, 2, 29, 30]) (fun _ => rfl) (fun _ => rfl) rfl (by omega) ?_ ⟨⟨_, rfl, rfl⟩, trivial⟩ ⟨⟨_, rfl, rfl, rfl, rfl⟩, ⟨_, rfl, rfl, rfl, (by first | exact fzP_vals (fun _ => rfl) rfl | exact fzP_vals (fun _ => rfl) (idk_s (by first | omega | decide | (simp only [zz] at *; omega))) | exact fzP_vals (fun _ => rfl) (idk_n (by first | omega | decide | (simp only [zz] at *; omega))) |  rfl | exact fzP_pure (ints_pure _) | exact fzP_pure (u64s_pure _) | exact fzP_pure (by assumption) | exact fzP_pure (by first | (simp [pureE, pure1, ints]; done) | (simp_all [pe_int, pe_bool, pe_str, pe_sl, pe_agg, p1_int, p1_bool, p1_str, p1_sl]; done)))⟩, trivial⟩ ?_; rotate_left; rintro i hx; try dsimp only at hx) | ((first | (refine loopV_normal (i + 1) ?_ ⟨⟨_, rfl, rfl⟩, trivial⟩ ⟨⟨_, rfl, rfl, rfl, rfl⟩, ⟨_, rfl, rfl, rfl, (by first | exact fzP_vals (fun _ => rfl) rfl | exact fzP_vals (fun _ => rfl) (idk_s (by first | omega | decide | (simp only [zz] at *; omega))) | exact fzP_vals (fun _ => rfl) (idk_n (by first | omega | decide | (simp only [zz] at *; omega))) |  rfl | exact fzP_pure (ints_pure _) | exact fzP_pure (u64s_pure _) | exact fzP_pure (by assumption) | exact fzP_pure (by first | (simp [pureE, pure1, ints]; done) | (simp_all [pe_int, pe_bool, pe_str, pe_sl, pe_agg, p1_int, p1_bool, p1_str, p1_sl]; done)))⟩, trivial⟩ ?_ ?_)); repeat (first | exact only_refl | refine only_put rfl ?_ | refine only_less rfl ?_ | refine only_ov rfl ?_)) | ((with_reducible apply n_val); rfl; rfl) | ((with_reducible apply n_new); rfl; (first | (simp only [hn0, hn1, hn2, hn3, hn4, hn5, List.length_cons, List.length_nil, Nat.reduceAdd, Nat.zero_add]; first | done | rfl) | rfl); rfl) | ((with_reducible apply n_append); rfl; rfl; rfl; rfl; rfl; rfl; (first | decide | (simp only [List.length_append, List.length_cons, List.length_nil, List.length_set, List.length_replicate, ints_length] at *; omega)); rfl) | ((with_reducible apply n_append_lit); rfl; rfl; rfl; rfl; rfl; (first | decide | (simp only [List.length_append, List.length_cons, List.length_nil, List.length_set, List.length_replicate, ints_length] at *; omega)); (first | (simp only [hn0, hn1, hn2, hn3, hn4, hn5, List.length_cons, List.length_nil, Nat.reduceAdd, Nat.zero_add]; first | done | rfl) | rfl); rfl) | (with_reducible refine condT_split (fun h => ?_) (fun h => ?_)) | ((with_reducible apply fnQ_told_ret); rfl) | ((with_reducible apply fnQ_ret_soft); rfl; rfl) | ((with_reducible apply fnQ_ret_row); rfl; rfl; rfl)
  all_goals (try dsimp only at *)
  all_goals (try simp only [decide_eq_true_eq, decide_eq_false_iff_not, List.length_map, ints_length, Int.toNat_natCast] at *)
  · omega
  · exact ⟨by omega, by omega⟩
  · rename (_ && _) = true => hb
    simp only [Bool.and_eq_true, decide_eq_true_eq] at hb
    rw [newIdV, if_pos hb.2, least_at (k := i) (by omega) (by rw [e]; rename (!_) = true => hc; rw [Bool.not_eq_true'] at hc; exact hc) fun j hj => by rw [e]; exact hx.2 j hj]
  · rename (_ && _) = true => hb; simp only [Bool.and_eq_true, decide_eq_true_eq] at hb; omega
  · rename (_ && _) = true => hb; simp only [Bool.and_eq_true, decide_eq_true_eq] at hb; refine ⟨by omega, fun j hj => ?_⟩
    rcases Nat.lt_succ_iff_lt_or_eq.mp hj with hj | rfl
    · exact hx.2 j hj
    · rename (!_) = false => hc; rw [Bool.not_eq_false'] at hc; exact hc
  · cases ho : sane p with
    | false => rw [newIdV, if_neg (by rw [ho]; simp)]
    | true =>
      rename (_ && _) = false => hb
      rw [ho, Bool.and_true, decide_eq_false_iff_not] at hb
      rw [newIdV, if_pos ho, least_no fun j hj => by rw [e]; exact hx.2 j (by omega)]
  · exact ⟨Nat.zero_le _, fun j hj => absurd hj (by omega)⟩
  · exact ⟨Nat.zero_le _, trivial⟩
theorem p_r_NewBlock (p : List Fn) (f : Int) (hf : few p = true) : Pure Go.Proofs.Tryz.prog gl 38 [pP p, .int .i64 f] (.int .i64 (newBlockV p f)) := by
  have hF : Pure Go.Proofs.Tryz.prog gl 22 [pP p, .int .i64 f] (.tup [pF ((funV p f).getD F0), .bool (funV p f).isSome]) := p_r_Fun p f hf
  have e0 : (funV p f).isSome = false → newBlockV p f = -1 := fun h => by rw [newBlockV, if_neg (by rw [h]; simp)]
  have e1 : (funV p f).isSome = true → newBlockV p f = leastV (entG ((funV p f).getD F0) ((funV p f).getD F0).bs.length) 12 := fun h => by rw [newBlockV, if_pos h]
  have hL := fun (g : Fn) b => p_r_live (gl := gl) g b
  generalize (funV p f).getD F0 = g at *
  generalize (funV p f).isSome = o at *
  have e : ∀ j : Nat, liveF g (j : Int) = look (entG g g.bs.length) (j : Int) := fun j => by rw [look_entG, liveF]
  refine Pure.fn hmix b38 ?_
  repeat' first | (with_reducible first | refine tr_seq ?_ | refine n_nil ?_ | refine seqQ_normal ?_ | refine seqQ_exit ?_ | refine seqQ_ret ?_ | refine blkQ_normal ?_ | refine blkQ_exit ?_ | refine blkQ_ret ?_ | refine tr_block ?_ | refine tr_skip ?_ | refine tr_exit ?_ | refine tr_ret ?_ | refine condT_t ?_ | refine condT_f ?_ | refine loopV_exit ?_ | refine loopV_ret ?_) | ((with_reducible refine tr_region_f ?_ ?_); kernel_rfl) | exact ⟨rfl, rfl⟩ | ((with_reducible refine blkQ_exit_ne ?_ ?_); rfl) | ((with_reducible apply tr_cond_e); rfl) | ((with_reducible apply n_and); rfl; rfl; intro h) | ((with_reducible apply n_or); rfl; rfl; intro h) | ((with_reducible apply n_call (f := 22)); rfl; rfl; exact hF) | ((with_reducible apply n_call (f := 59)); rfl; rfl; exact hL g _) | (first | ((with_reducible apply n_bin); rfl; rfl; focus ((with_reducible (first | apply b_add | apply b_sub)) <;> first | omega | decide | (simp only [zz] at *; omega))) | ((with_reducible apply n_max); rfl; rfl) | ((with_reducible apply n_min); rfl; rfl)) | (refine tr_loop_v (α := Nat) 2 (fun | i => [(7, some (.int .i64 (i : Int))), (14, none), (15, none), (16, none), (17, none), (18, none), (21, none), (22, none), (23, none), (24, none), (25, none), (4, none), (19, none), (20, none)]) (fun | i => [some ⟨0, 1, [pP p]⟩, some ⟨0, 3, [pF g]⟩]) (fun | i => i ≤ 12 ∧ ∀ j : Nat, j < i → liveF g (j : Int) = true) (fun | i => 12 - i) (0) (ks := [7, 14, 15, 16, 17, 18, 21, 22, 23, 24, 25, 4, 19, 20]) (fun _ => rfl) (fun _ => rfl) rfl (by omega) ?_ ⟨⟨_, rfl, rfl⟩, trivial⟩ ⟨⟨_, rfl, rfl, rfl, rfl⟩, ⟨_, rfl, rfl, rfl, rfl⟩, trivial⟩ ?_; rotate_left; rintro i hx; try dsimp only at hx) | ((first | (refine loopV_normal (i + 1) ?_ ⟨⟨_, rfl, rfl⟩, trivial⟩ ⟨⟨_, rfl, rfl, rfl, rfl⟩, ⟨_, rfl, rfl, rfl, rfl⟩, trivial⟩ ?_ ?_)); repeat (first | exact only_refl | refine only_put rfl ?_ | refine only_less rfl ?_ | refine only_ov rfl ?_)) | ((with_reducible apply n_val); rfl; rfl) | ((with_reducible apply n_new); rfl; (first | (simp only [hn0, hn1, hn2, hn3, hn4, hn5, List.length_cons, List.length_nil, Nat.reduceAdd, Nat.zero_add]; first | done | rfl) | rfl); rfl) | ((with_reducible apply n_store); rfl; rfl; rfl; rfl; rfl) | (with_reducible refine condT_split (fun h => ?_) (fun h => ?_)) | ((with_reducible apply fnQ_told_ret); rfl) | ((with_reducible apply fnQ_ret_soft); rfl; rfl)
  all_goals (try dsimp only at *)
  all_goals (try simp only [decide_eq_true_eq, decide_eq_false_iff_not, List.length_map, ints_length, Int.toNat_natCast] at *)
  · rename (_ && _) = true => hb
    simp only [Bool.and_eq_true, decide_eq_true_eq] at hb
    rw [e1 hb.2, least_at (k := i) (by omega) (by rw [← e]; simpa using h) fun j hj => by rw [← e]; exact hx.2 j hj]
  · rename (_ && _) = true => hb; simp only [Bool.and_eq_true, decide_eq_true_eq] at hb; omega
  · rename (_ && _) = true => hb; simp only [Bool.and_eq_true, decide_eq_true_eq] at hb; refine ⟨by omega, fun j hj => ?_⟩
    rcases Nat.lt_succ_iff_lt_or_eq.mp hj with hj | rfl
    · exact hx.2 j hj
    · simpa using h
  · cases ho : o with
    | false => rw [e0 ho]
    | true =>
      rw [ho, Bool.and_true, decide_eq_false_iff_not] at h
      rw [e1 ho, least_no fun j hj => by rw [← e]; exact hx.2 j (by omega)]
  · exact ⟨Nat.zero_le _, fun j hj => absurd hj (by omega)⟩
end
end Go.Vm
end
