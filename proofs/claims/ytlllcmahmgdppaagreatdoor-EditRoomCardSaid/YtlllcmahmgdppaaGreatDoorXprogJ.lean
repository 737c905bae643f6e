/- Laid. -/
import Derived.Test.YtlllcmahmgdppaaGreatDoorVmThree
import Derived.KernelRfl
import Derived.Test.YtlllcmahmgdppaaGreatDoorProg
import Derived.Test.YtlllcmahmgdppaaGreatDoorXprogH
section
/- Code. -/
set_option maxRecDepth 100000
set_option linter.unusedSimpArgs false
set_option linter.unusedVariables false
namespace Go.Vm
open Go
def c22 : RFn := ⟨(.seq (rf (.o 2 (.box (.t 0)) (.o 4 (.alloc (.agg [(.int .i64 0), (.int .i64 0), (.lit [])])) (.o 5 (.move (.c (.bool false))) .nil)))) (.seq (.seq (rf (.o 6 (.load (some 1) (.t 2)) (.o 7 (.call 27 [(.t 6)]) (.o 8 (.un .not (.t 7)) (.o 9 (.m 8) (.grd 9 false (.o 10 (.m 1) (.o 11 (.bin .lss (.t 10) (.i 0)) .nil)) (.o 12 (.pick (.t 9) (.c (.bool true)) (.t 11)) (.o 13 (.m 12) (.grd 13 false (.o 14 (.m 1) (.o 15 (.fieldAddr 0 (.t 2)) (.o 16 (.load none (.t 15)) (.o 17 (.len false (.t 16)) (.o 18 (.bin .geq (.t 14) (.t 17)) .nil))))) (.o 19 (.pick (.t 13) (.c (.bool true)) (.t 18)) .nil)))))))))) (.cond (.t 19) (.seq (rf (.o 20 (.build [(.int .i64 0), (.int .i64 0), (.lit [])] []) (.op none (.store 3 (.t 4) (.t 20)) 0 (.o 5 (.move (.c (.bool false))) .nil)))) .ret) .skip)) (.seq (rf (.o 21 (.fieldAddr 0 (.t 2)) (.o 22 (.load none (.t 21)) (.o 23 (.m 1) (.o 24 (.idxAddr 3 (.t 22) (.t 23)) (.o 25 (.load (some 3) (.t 24)) (.op none (.store 3 (.t 4) (.t 25)) 0 (.o 5 (.move (.c (.bool true))) .nil)))))))) .ret))), [.cell (some 3) 4, .tmp 5]⟩
theorem b22 : fnOf Go.Proofs.Tryz.prog (owOf []) 22 = some c22 := by kernel_rfl
def c24 : RFn := ⟨(.seq (rf (.o 3 (.box (.t 0)) (.o 6 (.alloc (.agg [(.bool false), (.lit []), (.lit [])])) (.o 7 (.move (.c (.bool false))) .nil)))) (.seq (rf (.o 11 (.load (some 1) (.t 3)) (.o 12 (.m 1) (.o 13 (.call 22 [(.t 11), (.t 12)]) (.o 10 (.m 13) (.o 14 (.extract 0 (.t 10)) (.o 15 (.extract 1 (.t 10)) (.o 8 (.alloc (.agg [(.int .i64 0), (.int .i64 0), (.lit [])])) (.op none (.store 3 (.t 8) (.t 14)) 0 (.o 9 (.m 15) .nil)))))))))) (.seq (.seq (rf (.o 16 (.load (some 3) (.t 8)) (.o 17 (.m 2) (.o 18 (.call 59 [(.t 16), (.t 17)]) (.o 19 (.un .not (.t 18)) .nil))))) (.cond (.t 19) (.seq (rf (.o 20 (.build [(.bool false), (.lit []), (.lit [])] []) (.op none (.store 3 (.t 6) (.t 20)) 0 (.o 7 (.move (.c (.bool false))) .nil)))) .ret) .skip)) (.seq (rf (.o 21 (.fieldAddr 2 (.t 8)) (.o 22 (.load none (.t 21)) (.o 23 (.m 2) (.o 24 (.idxAddr 3 (.t 22) (.t 23)) (.o 25 (.load (some 3) (.t 24)) (.op none (.store 3 (.t 6) (.t 25)) 0 (.o 7 (.move (.c (.bool true))) .nil)))))))) .ret)))), [.cell (some 3) 6, .tmp 7]⟩
theorem b24 : fnOf Go.Proofs.Tryz.prog (owOf []) 24 = some c24 := by kernel_rfl
def c27 : RFn := ⟨(.seq (rf (.o 1 (.box (.t 0)) (.o 2 (.move (.c (.bool false))) .nil))) (.seq (.seq (rf (.o 7 (.fieldAddr 0 (.t 1)) (.o 8 (.load none (.t 7)) (.o 9 (.len false (.t 8)) (.o 10 (.bin .gtr (.t 9) (.i 6)) .nil))))) (.cond (.t 10) (.seq (rf (.o 2 (.move (.c (.bool false))) .nil)) .ret) .skip)) (.seq (.seq (rf (.o 3 (.move (.i 0)) .nil)) (.block 0 (.loop (.seq (.seq (rf (.o 11 (.m 3) (.o 12 (.fieldAddr 0 (.t 1)) (.o 13 (.load none (.t 12)) (.o 14 (.len false (.t 13)) (.o 15 (.bin .lss (.t 11) (.t 14)) .nil)))))) (.cond (.t 15) .skip (.exit 0))) (.seq (.block 1 (.seq (rt (.o 18 (.load (some 1) (.t 1)) (.o 19 (.fieldAddr 0 (.t 1)) (.op (some 20) (.load none (.t 19)) 2 (.o 21 (.m 3) (.op (some 22) (.idxAddr 3 (.t 20) (.t 21)) 14 (.op (some 23) (.load (some 3) (.t 22)) 30 (.op (some 24) (.call 60 [(.t 18), (.t 23)]) 63 (.op (some 25) (.un .not (.t 24)) 127 .nil))))))))) (.cond (.t 25) (.seq (rf (.o 2 (.move (.c (.bool false))) .nil)) .ret) .skip))) (rf (.o 16 (.m 3) (.o 17 (.bin .add (.t 16) (.i 1)) (.o 3 (.m 17) .nil))))))))) (.seq (rf (.o 26 (.load (some 1) (.t 1)) (.o 27 (.call 20 [(.t 26)]) (.o 4 (.m 27) .nil)))) (.seq (.seq (rf (.o 5 (.move (.i 0)) .nil)) (.block 2 (.loop (.seq (.seq (rf (.o 28 (.m 5) (.o 29 (.m 4) (.o 30 (.len false (.t 29)) (.o 31 (.bin .lss (.t 28) (.t 30)) .nil))))) (.cond (.t 31) .skip (.exit 2))) (.seq (.block 3 (.seq (rf (.o 6 (.move (.i 0)) .nil)) (.block 4 (.loop (.seq (.seq (rf (.o 34 (.m 6) (.o 35 (.m 5) (.o 36 (.bin .lss (.t 34) (.t 35)) .nil)))) (.cond (.t 36) .skip (.exit 4))) (.seq (.block 5 (.seq (rt (.o 39 (.m 4) (.o 40 (.m 6) (.op (some 41) (.idxAddr 11 (.t 39) (.t 40)) 3 (.op (some 42) (.fieldAddr 0 (.t 41)) 7 (.op (some 43) (.load none (.t 42)) 15 (.o 44 (.m 4) (.o 45 (.m 5) (.op (some 46) (.idxAddr 11 (.t 44) (.t 45)) 96 (.op (some 47) (.fieldAddr 0 (.t 46)) 224 (.op (some 48) (.load none (.t 47)) 480 (.op (some 49) (.bin .eql (.t 43) (.t 48)) 1023 .nil)))))))))))) (.cond (.t 49) (.seq (rf (.o 2 (.move (.c (.bool false))) .nil)) .ret) .skip))) (rf (.o 37 (.m 6) (.o 38 (.bin .add (.t 37) (.i 1)) (.o 6 (.m 38) .nil)))))))))) (rf (.o 32 (.m 5) (.o 33 (.bin .add (.t 32) (.i 1)) (.o 5 (.m 33) .nil))))))))) (.seq (rf (.o 2 (.move (.c (.bool true))) .nil)) .ret)))))), [.tmp 2]⟩
theorem b27 : fnOf Go.Proofs.Tryz.prog (owOf []) 27 = some c27 := by kernel_rfl
def c60 : RFn := ⟨(.seq (rf (.o 2 (.box (.t 0)) (.o 3 (.box (.t 1)) (.o 4 (.move (.c (.bool false))) .nil)))) (.seq (rf (.o 8 (.fieldAddr 2 (.t 3)) (.o 9 (.load none (.t 8)) (.o 10 (.len false (.t 9)) (.o 5 (.m 10) .nil))))) (.seq (.seq (rf (.o 11 (.fieldAddr 0 (.t 3)) (.o 12 (.load none (.t 11)) (.o 13 (.bin .lss (.t 12) (.i 0)) (.o 14 (.m 13) (.grd 14 false (.o 15 (.fieldAddr 0 (.t 3)) (.o 16 (.load none (.t 15)) (.o 17 (.bin .gtr (.t 16) (.i 3)) .nil))) (.o 18 (.pick (.t 14) (.c (.bool true)) (.t 17)) (.o 19 (.m 18) (.grd 19 false (.o 20 (.fieldAddr 1 (.t 3)) (.o 21 (.load none (.t 20)) (.o 22 (.fieldAddr 0 (.t 3)) (.o 23 (.load none (.t 22)) (.o 24 (.bin .lss (.t 21) (.t 23)) .nil))))) (.o 25 (.pick (.t 19) (.c (.bool true)) (.t 24)) (.o 26 (.m 25) (.grd 26 false (.o 27 (.fieldAddr 1 (.t 3)) (.o 28 (.load none (.t 27)) (.o 29 (.bin .gtr (.t 28) (.i 6)) .nil))) (.o 30 (.pick (.t 26) (.c (.bool true)) (.t 29)) (.o 31 (.m 30) (.grd 31 false (.o 32 (.m 5) (.o 33 (.bin .lss (.t 32) (.i 1)) .nil)) (.o 34 (.pick (.t 31) (.c (.bool true)) (.t 33)) (.o 35 (.m 34) (.grd 35 false (.o 36 (.m 5) (.o 37 (.bin .gtr (.t 36) (.i 12)) .nil)) (.o 38 (.pick (.t 35) (.c (.bool true)) (.t 37)) (.o 39 (.m 38) (.grd 39 false (.o 40 (.fieldAddr 2 (.t 3)) (.o 41 (.load none (.t 40)) (.o 42 (.idxAddr 3 (.t 41) (.i 0)) (.o 43 (.fieldAddr 0 (.t 42)) (.o 44 (.load none (.t 43)) (.o 45 (.un .not (.t 44)) .nil)))))) (.o 46 (.pick (.t 39) (.c (.bool true)) (.t 45)) (.o 47 (.m 46) (.grd 47 false (.o 48 (.fieldAddr 2 (.t 3)) (.o 49 (.load none (.t 48)) (.o 50 (.m 5) (.o 51 (.bin .sub (.t 50) (.i 1)) (.o 52 (.idxAddr 3 (.t 49) (.t 51)) (.o 53 (.fieldAddr 0 (.t 52)) (.o 54 (.load none (.t 53)) (.o 55 (.un .not (.t 54)) .nil)))))))) (.o 56 (.pick (.t 47) (.c (.bool true)) (.t 55)) .nil))))))))))))))))))))))))) (.cond (.t 56) (.seq (rf (.o 4 (.move (.c (.bool false))) .nil)) .ret) .skip)) (.seq (.seq (rf (.o 6 (.move (.i 0)) .nil)) (.block 0 (.loop (.seq (.seq (rf (.o 57 (.m 6) (.o 58 (.m 5) (.o 59 (.bin .lss (.t 57) (.t 58)) .nil)))) (.cond (.t 59) .skip (.exit 0))) (.seq (.block 1 (.seq (rf (.o 62 (.fieldAddr 2 (.t 3)) (.o 63 (.load none (.t 62)) (.o 64 (.m 6) (.o 65 (.idxAddr 3 (.t 63) (.t 64)) (.o 66 (.load (some 3) (.t 65)) (.o 7 (.alloc (.agg [(.bool false), (.lit []), (.lit [])])) (.op none (.store 3 (.t 7) (.t 66)) 0 .nil)))))))) (.seq (rf (.o 67 (.fieldAddr 0 (.t 7)) (.o 68 (.load none (.t 67)) (.o 69 (.un .not (.t 68)) (.o 70 (.m 69) (.grd 70 true (.o 71 (.fieldAddr 1 (.t 7)) (.o 72 (.load none (.t 71)) (.o 73 (.len false (.t 72)) (.o 74 (.bin .neq (.t 73) (.i 0)) (.o 75 (.m 74) (.grd 75 false (.o 76 (.fieldAddr 2 (.t 7)) (.o 77 (.load none (.t 76)) (.o 78 (.len false (.t 77)) (.o 79 (.bin .neq (.t 78) (.i 0)) .nil)))) (.o 80 (.pick (.t 75) (.c (.bool true)) (.t 79)) .nil))))))) (.o 81 (.pick (.t 70) (.t 80) (.c (.bool false))) (.o 82 (.m 81) (.grd 82 false (.o 83 (.load (some 3) (.t 3)) (.o 84 (.fieldAddr 2 (.t 7)) (.o 85 (.load none (.t 84)) (.o 86 (.call 86 [(.t 83), (.t 85)]) (.o 87 (.un .not (.t 86)) .nil))))) (.o 88 (.pick (.t 82) (.c (.bool true)) (.t 87)) (.o 89 (.m 88) (.grd 89 false (.o 90 (.load (some 1) (.t 2)) (.o 91 (.load (some 3) (.t 3)) (.o 92 (.fieldAddr 1 (.t 7)) (.o 93 (.load none (.t 92)) (.o 94 (.call 87 [(.t 90), (.t 91), (.t 93)]) (.o 95 (.un .not (.t 94)) .nil)))))) (.o 96 (.pick (.t 89) (.c (.bool true)) (.t 95)) .nil))))))))))))) (.cond (.t 96) (.seq (rf (.o 4 (.move (.c (.bool false))) .nil)) .ret) .skip)))) (rf (.o 60 (.m 6) (.o 61 (.bin .add (.t 60) (.i 1)) (.o 6 (.m 61) .nil))))))))) (.seq (rf (.o 4 (.move (.c (.bool true))) .nil)) .ret))))), [.tmp 4]⟩
theorem b60 : fnOf Go.Proofs.Tryz.prog (owOf []) 60 = some c60 := by kernel_rfl
end Go.Vm
end
section
/- Walks. -/
set_option maxRecDepth 100000
set_option linter.unusedSimpArgs false
set_option linter.unusedVariables false
namespace Go.Vm
open Go
set_option maxHeartbeats 4000000
section
variable {gl : Nat → Option PV}
theorem bad45 (f : Fn) : (decide (f.ar < 0) || decide (f.ar > 3) || decide (f.vs < f.ar) || decide (f.vs > 6) || decide ((f.bs.length : Int) < 1) || decide ((f.bs.length : Int) > 12) || !(f.bs.getD (0 : Int).toNat B0).live || !(f.bs.getD ((f.bs.length : Int) - 1).toNat B0).live) = (bad4 f || bad5 f) := by
  simp only [bad4, bad5, Bool.or_assoc]
theorem bad123 (p : List Fn) (f : Fn) (x : Bk) : (!x.live && ((x.code.length : Int) != 0 || (x.succ.length : Int) != 0) || !okS f x.succ || !okC p f x.code) = !okB p f x := by
  rw [okB]
  have e1 : bad1 x = (!x.live && ((x.code.length : Int) != 0 || (x.succ.length : Int) != 0)) := by
    rw [bad1]
    congr 1
    rw [Bool.eq_iff_iff, decide_eq_true_eq, Bool.or_eq_true, bne_iff_ne, bne_iff_ne]
    omega
  have e2 : bad2 f x = !okS f x.succ := by rw [bad2, okS]; cases risesL x.succ <;> simp
  have e3 : bad3 p f x = !okC p f x.code := by rw [bad3, okC, Bool.not_not]
  rw [e1, e2, e3]
  cases okS f x.succ <;> cases okC p f x.code <;> simp
theorem okF_f1 {p : List Fn} {f : Fn} (h : (bad4 f || bad5 f) = true) : okF p f = false := by
  rw [okF]
  cases h4 : bad4 f with
  | true => rfl
  | false => rw [h4, Bool.false_or] at h; rw [h]; rfl
theorem okF_f2 {p : List Fn} {f : Fn} {k : Nat} (hk : k < f.bs.length) (h : okB p f (f.bs.getD k B0) = false) : okF p f = false := by
  rw [okF, all_no B0 hk h, Bool.and_false]
theorem okF_t {p : List Fn} {f : Fn} (h : (bad4 f || bad5 f) = false) (hj : ∀ j, j < f.bs.length → okB p f (f.bs.getD j B0) = true) : okF p f = true := by
  rw [Bool.or_eq_false_iff] at h
  rw [okF, h.1, h.2, (all_getD B0).mpr hj]; rfl
theorem p_r_fun (p : List Fn) (f : Fn) (h0 : f.bs.length ≤ 1000) (h1 : ∀ b ∈ f.bs, b.code.length ≤ 1000) (h2 : ∀ b ∈ f.bs, b.succ.length ≤ 1000) : Pure Go.Proofs.Tryz.prog gl 60 [pP p, pF f] (.bool (okF p f)) := by
  refine Pure.fn hmix b60 ?_
  repeat' first | (with_reducible first | refine tr_seq ?_ | refine n_nil ?_ | refine seqQ_normal ?_ | refine seqQ_exit ?_ | refine seqQ_ret ?_ | refine blkQ_normal ?_ | refine blkQ_exit ?_ | refine blkQ_ret ?_ | refine tr_block ?_ | refine tr_skip ?_ | refine tr_exit ?_ | refine tr_ret ?_ | refine condT_t ?_ | refine condT_f ?_ | refine loopV_exit ?_ | refine loopV_ret ?_) | ((with_reducible refine tr_region_f ?_ ?_); kernel_rfl) | exact ⟨rfl, rfl⟩ | ((with_reducible refine blkQ_exit_ne ?_ ?_); rfl) | ((with_reducible apply tr_cond_e); rfl) | ((with_reducible apply n_and); rfl; rfl; intro h) | ((with_reducible apply n_or); rfl; rfl; intro h) | ((with_reducible apply n_idx_vals B0); rfl; rfl; exact (fun _ => rfl); (first | omega | decide | (simp only [zz] at *; omega))) | (first | ((with_reducible apply n_bin); rfl; rfl; focus ((with_reducible (first | apply b_add | apply b_sub)) <;> first | omega | decide | (simp only [zz] at *; omega))) | ((with_reducible apply n_max); rfl; rfl) | ((with_reducible apply n_min); rfl; rfl)) | (refine tr_loop_v (α := Nat) 2 (fun | k => [(6, some (.int .i64 (k : Int))), (57, none), (58, none), (59, none), (62, none), (63, none), (64, none), (65, none), (66, none), (7, none), (67, none), (68, none), (69, none), (70, none), (71, none), (72, none), (73, none), (74, none), (75, none), (76, none), (77, none), (78, none), (79, none), (80, none), (81, none), (82, none), (83, none), (84, none), (85, none), (86, none), (87, none), (88, none), (89, none), (90, none), (91, none), (92, none), (93, none), (94, none), (95, none), (96, none), (4, none), (60, none), (61, none)]) (fun | k => [some ⟨0, 1, [pP p]⟩, some ⟨0, 3, [pF f]⟩]) (fun | k => k ≤ f.bs.length ∧ ∀ j, j < k → okB p f (f.bs.getD j B0) = true) (fun | k => f.bs.length - k) (0) (ks := [6, 57, 58, 59, 62, 63, 64, 65, 66, 7, 67, 68, 69, 70, 71, 72, 73, 74, 75, 76, 77, 78, 79, 80, 81, 82, 83, 84, 85, 86, 87, 88, 89, 90, 91, 92, 93, 94, 95, 96, 4, 60, 61]) (fun _ => rfl) (fun _ => rfl) rfl (by omega) ?_ ⟨⟨_, rfl, rfl⟩, trivial⟩ ⟨⟨_, rfl, rfl, rfl, rfl⟩, ⟨_, rfl, rfl, rfl, rfl⟩, trivial⟩ ?_; rotate_left; rintro k hx; try dsimp only at hx) | ((first | (refine loopV_normal (k + 1) ?_ ⟨⟨_, rfl, rfl⟩, trivial⟩ ⟨⟨_, rfl, rfl, rfl, rfl⟩, ⟨_, rfl, rfl, rfl, rfl⟩, trivial⟩ ?_ ?_)); repeat (first | exact only_refl | refine only_put rfl ?_ | refine only_less rfl ?_ | refine only_ov rfl ?_)) | ((with_reducible apply n_val); rfl; rfl) | ((with_reducible apply n_new); rfl; (first | (simp only [hn0, hn1, hn2, hn3, hn4, hn5, List.length_cons, List.length_nil, Nat.reduceAdd, Nat.zero_add]; first | done | rfl) | rfl); rfl) | ((with_reducible apply n_store); rfl; rfl; rfl; rfl; rfl) | ((with_reducible apply n_call (f := 86)); rfl; rfl; exact p_r_succ f (f.bs.getD k B0).succ (h2 _ (getD_mem B0 (by first | omega | decide | (simp only [zz] at *; omega))))) | ((with_reducible apply n_call (f := 87)); rfl; rfl; exact p_r_code p f (f.bs.getD k B0).code (h1 _ (getD_mem B0 (by first | omega | decide | (simp only [zz] at *; omega))))) | (with_reducible refine condT_split (fun h => ?_) (fun h => ?_)) | ((with_reducible apply fnQ_told_ret); rfl) | ((with_reducible apply fnQ_ret_soft); rfl; rfl)
  all_goals (try dsimp only at *)
  all_goals (try simp only [decide_eq_true_eq, decide_eq_false_iff_not, List.length_map, ints_length, Int.toNat_natCast] at *)
  · rw [bad45] at h; rw [okF_f1 h]
  · rw [okF_f2 (k := k) (by omega)]
    rename (_ || _) = true => hb
    rw [bad123] at hb
    simpa using hb
  · omega
  · refine ⟨by omega, fun j hj => ?_⟩
    rcases Nat.lt_succ_iff_lt_or_eq.mp hj with hj | rfl
    · exact hx.2 j hj
    · rw [bad123] at h
      simpa using h
  · rename (_ || _) = false => hb
    rw [bad45] at hb
    rw [okF_t hb fun j hj => hx.2 j (by omega)]
  · exact ⟨Nat.zero_le _, fun j hj => absurd hj (by omega)⟩
theorem ids_nd {p : List Fn} (h : ∀ a, a < (insP p).length → ∀ b, b < a → (((insP p).getD b i0).id == ((insP p).getD a i0).id) = false) : (idsP p).Nodup := by
  rw [ids_all]
  refine List.pairwise_iff_getElem.mpr fun i j hi hj hij => ?_
  simp only [List.length_map] at hi hj
  have := h j hj i hij
  rw [List.getD_eq_getElem?_getD, List.getD_eq_getElem?_getD, List.getElem?_eq_getElem hi, List.getElem?_eq_getElem hj] at this
  simpa using this
theorem sane_dup {p : List Fn} {i j : Nat} (hj : j < i) (hi : i < (insP p).length) (e : (((insP p).getD j i0).id == ((insP p).getD i i0).id) = true) : sane p = false := by
  have : ¬ (idsP p).Nodup := by
    rw [ids_all]
    intro h
    have h2 := List.pairwise_iff_getElem.mp h j i (by simpa using (by omega : j < (insP p).length)) (by simpa using hi) hj
    rw [List.getD_eq_getElem?_getD, List.getD_eq_getElem?_getD, List.getElem?_eq_getElem hi, List.getElem?_eq_getElem (by omega : j < (insP p).length)] at e
    simp only [Option.getD_some, beq_iff_eq] at e
    simp only [List.getElem_map] at h2
    exact h2 e
  unfold sane
  rw [decide_eq_false this]; simp
theorem p_r_Sane (p : List Fn) (hf : few p = true) : Pure Go.Proofs.Tryz.prog gl 27 [pP p] (.bool (sane p)) := by
  have hp := few_fit hf
  have hI := p_Instrs (gl := gl) p hf
  have hl := insP_le hf
  have hl2 := (few_bs hf).1
  have hF : ∀ k, k < p.length → Pure Go.Proofs.Tryz.prog gl 60 [pP p, pF (p.getD k F0)] (.bool (okF p (p.getD k F0))) := fun k hk => p_r_fun p _ (hp.bs _ (getD_mem F0 hk)) (hp.code _ (getD_mem F0 hk)) (hp.succ _ (getD_mem F0 hk))
  refine Pure.fn hmix b27 ?_
  repeat' first | (with_reducible first | refine tr_seq ?_ | refine n_nil ?_ | refine seqQ_normal ?_ | refine seqQ_exit ?_ | refine seqQ_ret ?_ | refine blkQ_normal ?_ | refine blkQ_exit ?_ | refine blkQ_ret ?_ | refine tr_block ?_ | refine tr_skip ?_ | refine tr_exit ?_ | refine tr_ret ?_ | refine condT_t ?_ | refine condT_f ?_ | refine loopV_exit ?_ | refine loopV_ret ?_) | ((with_reducible refine tr_region_f ?_ ?_); kernel_rfl) | ((with_reducible refine tr_region_t ?_ ?_ ?_); kernel_rfl; kernel_rfl) | ((with_reducible refine blkQ_exit_ne ?_ ?_); rfl) | ((with_reducible apply tr_cond_e); rfl) | ((with_reducible apply n_call (f := 60)); rfl; rfl; exact hF k (by first | omega | decide | (simp only [zz] at *; omega))) | ((with_reducible apply n_call (f := 20)); rfl; rfl; exact hI) | ((with_reducible apply n_idx_vals F0); rfl; rfl; exact (fun _ => rfl); (first | omega | decide | (simp only [zz] at *; omega))) | ((with_reducible apply n_idx_vals i0); rfl; rfl; exact (fun _ => rfl); (first | omega | decide | (simp only [zz] at *; omega))) | (first | ((with_reducible apply n_bin); rfl; rfl; focus ((with_reducible (first | apply b_add | apply b_sub)) <;> first | omega | decide | (simp only [zz] at *; omega))) | ((with_reducible apply n_max); rfl; rfl) | ((with_reducible apply n_min); rfl; rfl)) | (refine tr_loop_v (α := Nat) 1 (fun | k => [(3, some (.int .i64 (k : Int))), (11, none), (12, none), (13, none), (14, none), (15, none), (18, none), (19, none), (20, none), (21, none), (22, none), (23, none), (24, none), (25, none), (2, none), (16, none), (17, none)]) (fun | k => [some ⟨0, 1, [pP p]⟩]) (fun | k => k ≤ p.length ∧ ∀ j, j < k → okF p (p.getD j F0) = true) (fun | k => p.length - k) (0) (ks := [3, 11, 12, 13, 14, 15, 18, 19, 20, 21, 22, 23, 24, 25, 2, 16, 17]) (fun _ => rfl) (fun _ => rfl) rfl (by omega) ?_ ⟨⟨_, rfl, rfl⟩, trivial⟩ ⟨⟨_, rfl, rfl, rfl, rfl⟩, trivial⟩ ?_; rotate_left; rintro k hx; try dsimp only at hx) | ((first | (refine loopV_normal (k + 1) ?_ ⟨⟨_, rfl, rfl⟩, trivial⟩ ⟨⟨_, rfl, rfl, rfl, rfl⟩, trivial⟩ ?_ ?_)); repeat (first | exact only_refl | refine only_put rfl ?_ | refine only_less rfl ?_ | refine only_ov rfl ?_)) | (refine tr_loop_v (α := Nat) 1 (fun | i => [(5, some (.int .i64 (i : Int))), (28, none), (29, none), (30, none), (31, none), (6, none), (34, none), (35, none), (36, none), (39, none), (40, none), (41, none), (42, none), (43, none), (44, none), (45, none), (46, none), (47, none), (48, none), (49, none), (2, none), (37, none), (38, none), (32, none), (33, none)]) (fun | i => [some ⟨0, 1, [pP p]⟩]) (fun | i => i ≤ (insP p).length ∧ ∀ a, a < i → ∀ b, b < a → (((insP p).getD b i0).id == ((insP p).getD a i0).id) = false) (fun | i => (insP p).length - i) (0) (ks := [5, 28, 29, 30, 31, 6, 34, 35, 36, 39, 40, 41, 42, 43, 44, 45, 46, 47, 48, 49, 2, 37, 38, 32, 33]) (fun _ => rfl) (fun _ => rfl) rfl (by omega) ?_ ⟨⟨_, rfl, rfl⟩, trivial⟩ ⟨⟨_, rfl, rfl, rfl, rfl⟩, trivial⟩ ?_; rotate_left; rintro i hx; try dsimp only at hx) | ((first | (refine loopV_normal (i + 1) ?_ ⟨⟨_, rfl, rfl⟩, trivial⟩ ⟨⟨_, rfl, rfl, rfl, rfl⟩, trivial⟩ ?_ ?_)); repeat (first | exact only_refl | refine only_put rfl ?_ | refine only_less rfl ?_ | refine only_ov rfl ?_)) | (refine tr_loop_v (α := Nat) 1 (fun | j => [(6, some (.int .i64 (j : Int))), (34, none), (35, none), (36, none), (39, none), (40, none), (41, none), (42, none), (43, none), (44, none), (45, none), (46, none), (47, none), (48, none), (49, none), (2, none), (37, none), (38, none)]) (fun | j => [some ⟨0, 1, [pP p]⟩]) (fun | j => j ≤ i ∧ i < (insP p).length ∧ ∀ b, b < j → (((insP p).getD b i0).id == ((insP p).getD i i0).id) = false) (fun | j => i - j) (0) (ks := [6, 34, 35, 36, 39, 40, 41, 42, 43, 44, 45, 46, 47, 48, 49, 2, 37, 38]) (fun _ => rfl) (fun _ => rfl) rfl (by omega) ?_ ⟨⟨_, rfl, rfl⟩, trivial⟩ ⟨⟨_, rfl, rfl, rfl, rfl⟩, trivial⟩ ?_; rotate_left; rintro j hx; try dsimp only at hx) | ((first | (refine loopV_normal (j + 1) ?_ ⟨⟨_, rfl, rfl⟩, trivial⟩ ⟨⟨_, rfl, rfl, rfl, rfl⟩, trivial⟩ ?_ ?_)); repeat (first | exact only_refl | refine only_put rfl ?_ | refine only_less rfl ?_ | refine only_ov rfl ?_)) | ((with_reducible apply n_val); rfl; rfl) | ((with_reducible apply n_new); rfl; (first | (simp only [hn0, hn1, hn2, hn3, hn4, hn5, List.length_cons, List.length_nil, Nat.reduceAdd, Nat.zero_add]; first | done | rfl) | rfl); rfl) | (with_reducible refine condT_split (fun h => ?_) (fun h => ?_)) | ((with_reducible apply fnQ_told_ret); rfl) | ((with_reducible apply fnQ_ret_soft); rfl; rfl)
  all_goals (try dsimp only at *)
  all_goals (try simp only [decide_eq_true_eq, decide_eq_false_iff_not, List.length_map, ints_length, Int.toNat_natCast] at *)
  · rw [sane_many (by omega)]
  · rw [sane_fun (k := k) (by omega) (by simpa using ‹(!okF p (p.getD k F0)) = true›)]
  · omega
  · refine ⟨by omega, fun j hj => ?_⟩
    rcases Nat.lt_succ_iff_lt_or_eq.mp hj with hj | rfl
    · exact hx.2 j hj
    · simpa using ‹(!okF p (p.getD j F0)) = false›
  · rename (_ == _) = true => hb
    rw [sane_dup (i := i) (j := j) (by omega) (by omega) hb]
  · omega
  · refine ⟨by omega, hx.2.1, fun b hb => ?_⟩
    rcases Nat.lt_succ_iff_lt_or_eq.mp hb with hb | rfl
    · exact hx.2.2 b hb
    · assumption
  · omega
  · rename_i hX _ _ _
    refine ⟨by omega, fun a ha b hb => ?_⟩
    rcases Nat.lt_succ_iff_lt_or_eq.mp ha with ha | rfl
    · exact hX.2 a ha b hb
    · exact hx.2.2 b (by omega)
  · exact ⟨Nat.zero_le _, by omega, fun b hb => absurd hb (by omega)⟩
  · rename_i hX _ _
    rw [sane_yes (by omega) (fun j hj => hX.2 j (by omega)) (by rw [pre1_all]; exact ids_nd fun a ha b hb => hx.2 a (by omega) b hb)]
  · exact ⟨Nat.zero_le _, fun a ha => absurd ha (by omega)⟩
  · exact ⟨Nat.zero_le _, fun a ha => absurd ha (by omega)⟩
theorem p_r_Fun (p : List Fn) (f : Int) (hf : few p = true) : Pure Go.Proofs.Tryz.prog gl 22 [pP p, .int .i64 f] (oT pF F0 (funV p f)) := by
  have hs := p_r_Sane (gl := gl) p hf
  refine Pure.fn hmix b22 ?_
  repeat' first | (with_reducible first | refine tr_seq ?_ | refine n_nil ?_ | refine seqQ_normal ?_ | refine seqQ_ret ?_ | refine blkQ_ret ?_ | refine tr_skip ?_ | refine tr_ret ?_ | refine condT_t ?_ | refine condT_f ?_) | ((with_reducible refine tr_region_f ?_ ?_); kernel_rfl) | exact ⟨rfl, rfl⟩ | ((with_reducible apply tr_cond_e); rfl) | ((with_reducible apply n_and); rfl; rfl; intro h) | ((with_reducible apply n_or); rfl; rfl; intro h) | ((with_reducible apply n_call (f := 27)); rfl; rfl; exact hs) | ((with_reducible apply n_idx_vals F0); rfl; rfl; exact (fun _ => rfl); (first | omega | decide | (simp only [zz] at *; omega))) | ((with_reducible apply n_val); rfl; rfl) | ((with_reducible apply n_new); rfl; (first | (simp only [hn0, hn1, hn2, hn3, hn4, hn5, List.length_cons, List.length_nil, Nat.reduceAdd, Nat.zero_add]; first | done | rfl) | rfl); rfl) | ((with_reducible apply n_store); rfl; rfl; rfl; rfl; rfl) | (with_reducible refine condT_split (fun h => ?_) (fun h => ?_)) | ((with_reducible apply fnQ_told_ret); rfl) | ((with_reducible apply fnQ_ret_soft); rfl; rfl)
  all_goals (try dsimp only at *)
  · rename (_ || _) = true => hb
    rw [funV_no (by rw [← hb, List.length_map]; cases sane p <;> simp)]; rfl
  · rename (_ || _) = false => hb
    rw [funV_yes (by rw [← hb, List.length_map]; cases sane p <;> simp)]; rfl
theorem p_r_Block (p : List Fn) (f b : Int) (hf : few p = true) : Pure Go.Proofs.Tryz.prog gl 24 [pP p, .int .i64 f, .int .i64 b] (oT pB B0 (blkV p f b)) := by
  have hF : Pure Go.Proofs.Tryz.prog gl 22 [pP p, .int .i64 f] (.tup [pF ((funV p f).getD F0), .bool (funV p f).isSome]) := p_r_Fun p f hf
  have hl := p_r_live (gl := gl) ((funV p f).getD F0) b
  have h1 : liveF ((funV p f).getD F0) b = false → blkV p f b = none := fun h => by rw [blkV, h]; rfl
  have h2 : liveF ((funV p f).getD F0) b = true → blkV p f b = some (((funV p f).getD F0).bs.getD b.toNat B0) := fun h => by rw [blkV, if_pos h]
  have h3 : liveF ((funV p f).getD F0) b = true → 0 ≤ b ∧ b < (((funV p f).getD F0).bs.length : Nat) := fun h => by
    simp only [liveF, Bool.and_eq_true, decide_eq_true_eq] at h
    exact h.1
  generalize (funV p f).getD F0 = g at *
  generalize (funV p f).isSome = o at *
  refine Pure.fn hmix b24 ?_
  repeat' first | (with_reducible first | refine tr_seq ?_ | refine n_nil ?_ | refine seqQ_normal ?_ | refine seqQ_ret ?_ | refine blkQ_ret ?_ | refine tr_skip ?_ | refine tr_ret ?_ | refine condT_t ?_ | refine condT_f ?_) | ((with_reducible refine tr_region_f ?_ ?_); kernel_rfl) | ((with_reducible apply tr_cond_e); rfl) | ((with_reducible apply n_call (f := 22)); rfl; rfl; exact hF) | ((with_reducible apply n_call (f := 59)); rfl; rfl; exact hl) | ((with_reducible apply n_idx_vals B0); rfl; rfl; exact (fun _ => rfl); exact h3 (by simpa using h)) | ((with_reducible apply n_val); rfl; rfl) | ((with_reducible apply n_new); rfl; (first | (simp only [hn0, hn1, hn2, hn3, hn4, hn5, List.length_cons, List.length_nil, Nat.reduceAdd, Nat.zero_add]; first | done | rfl) | rfl); rfl) | ((with_reducible apply n_store); rfl; rfl; rfl; rfl; rfl) | (with_reducible refine condT_split (fun h => ?_) (fun h => ?_)) | ((with_reducible apply fnQ_told_ret); rfl) | ((with_reducible apply fnQ_ret_soft); rfl; rfl)
  · rw [h1 (by simpa using h)]; rfl
  · rw [h2 (by simpa using h)]; rfl
end
end Go.Vm
end
