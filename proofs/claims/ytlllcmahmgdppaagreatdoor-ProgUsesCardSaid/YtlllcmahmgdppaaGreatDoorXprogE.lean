/- Laid. -/
import Derived.Test.YtlllcmahmgdppaaGreatDoorVmThree
import Derived.KernelRfl
import Derived.Test.YtlllcmahmgdppaaGreatDoorProg
import Derived.Test.YtlllcmahmgdppaaGreatDoorXprogD
section
/- Code. -/
set_option maxRecDepth 100000
set_option linter.unusedSimpArgs false
set_option linter.unusedVariables false
namespace Go.Vm
open Go
def c11 : RFn := ⟨(.seq (rf (.o 0 (.move (.c (.bool false))) .nil)) (.seq (rf (.o 4 (.build [(.bool false), (.lit []), (.lit [])] [(0, 1, (.c (.bool true)))]) (.o 5 (.bslice true 3 1 (.agg [(.bool false), (.lit []), (.lit [])]) [(0, (.t 4))]) (.o 6 (.build [(.int .i64 0), (.int .i64 0), (.lit [])] [(2, 1, (.t 5))]) (.o 7 (.bslice true 3 1 (.agg [(.int .i64 0), (.int .i64 0), (.lit [])]) [(0, (.t 6))]) (.o 8 (.build [(.lit [])] [(0, 1, (.t 7))]) (.o 1 (.alloc (.agg [(.lit [])])) (.op none (.store 1 (.t 1) (.t 8)) 0 .nil)))))))) (.seq (rf (.o 10 (.load (some 1) (.t 1)) (.o 11 (.call 21 [(.t 10), (.i 0)]) (.o 9 (.m 11) (.o 12 (.extract 0 (.t 9)) (.o 13 (.extract 1 (.t 9)) (.o 2 (.alloc (.agg [(.int .i64 0), (.int .i64 0), (.lit [])])) (.op none (.store 3 (.t 2) (.t 12)) 0 (.o 3 (.m 13) .nil))))))))) (.seq (rf (.o 14 (.load (some 1) (.t 1)) (.o 15 (.call 13 [(.t 14)]) (.o 16 (.m 15) (.grd 16 true (.o 17 (.m 3) .nil) (.o 18 (.pick (.t 16) (.t 17) (.c (.bool false))) (.o 19 (.m 18) (.grd 19 true (.o 20 (.fieldAddr 2 (.t 2)) (.o 21 (.load none (.t 20)) (.o 22 (.len false (.t 21)) (.o 23 (.bin .eql (.t 22) (.i 1)) .nil)))) (.o 24 (.pick (.t 19) (.t 23) (.c (.bool false))) (.o 25 (.m 24) (.grd 25 true (.o 26 (.load (some 1) (.t 1)) (.o 27 (.call 37 [(.t 26), (.i 0)]) (.o 28 (.bin .eql (.t 27) (.i 1)) .nil))) (.o 29 (.pick (.t 25) (.t 28) (.c (.bool false))) (.o 30 (.m 29) (.grd 30 true (.o 31 (.load (some 1) (.t 1)) (.o 32 (.call 35 [(.t 31)]) (.o 33 (.bin .eql (.t 32) (.i 0)) .nil))) (.o 34 (.pick (.t 30) (.t 33) (.c (.bool false))) (.o 0 (.m 34) .nil)))))))))))))))) .ret)))), [.tmp 0]⟩
theorem b11 : fnOf Go.Proofs.Tryz.prog (owOf []) 11 = some c11 := by kernel_rfl
end Go.Vm
end
section
/- Walks. -/
set_option maxRecDepth 100000
set_option linter.unusedSimpArgs false
set_option linter.unusedVariables false
namespace Go.Vm
open Go
set_option maxHeartbeats 4000000
def fAw : Fn := ⟨0, 0, [⟨true, [], []⟩]⟩
def pAw : List Fn := [fAw]
theorem fit_aw : Fit pAw := few_fit (by rfl)
theorem fun_aw : funV pAw 0 = some fAw := by rfl
theorem sane_aw : sane pAw = true := by rfl
theorem id_aw : newIdV pAw = 0 := by rfl
theorem blk_aw : newBlockV pAw 0 = 1 := by rfl
theorem tr_frz_aw {P : Program} {gl : Nat → Option PV} {s : Env} {H : Hp} {c : RCode} {Q : Ex → Env → Hp → Prop} (h1 : s 1 = some (.ptr 2 0 0 0)) (h0 : s 0 = some (.bool false)) (h2 : fz H 0 (.ptr 2 0 0 0) = some (.fptr [.sl [pF fAw]])) (k : Tr P gl 0 c (Env.ov (fun _ => none) [(0, some (.bool false)), (1, some (.fptr [.sl [pF fAw]]))]) (Hp.ofL []) Q) : Tr P gl 0 c s H Q := by
  refine tr_ghost (gh_to (s0 := fun _ => none) (l := []) rfl (Nat.le_refl _) (fun t p _ h => by cases h) (fun t p _ h => by cases h) ?_ trivial) k
  exact ⟨⟨_, h0, rfl⟩, ⟨_, h1, h2⟩, trivial⟩
theorem p_awake : Pure Go.Proofs.Tryz.prog glD 11 [] (.bool true) := by
  have h1 : Pure Go.Proofs.Tryz.prog glD 21 [pP pAw, .int .i64 0] (.tup [pF fAw, .bool true]) := by
    have := p_Fun pAw 0 fit_aw
    rw [fun_aw] at this
    exact this
  have h2 : Pure Go.Proofs.Tryz.prog glD 13 [pP pAw] (.bool true) := by
    have := p_Sane pAw fit_aw
    rw [sane_aw] at this
    exact this
  have h3 : Pure Go.Proofs.Tryz.prog glD 37 [pP pAw, .int .i64 0] (.int .i64 1) := by
    have := p_NewBlock pAw 0 fit_aw
    rw [blk_aw] at this
    exact this
  have h4 : Pure Go.Proofs.Tryz.prog glD 35 [pP pAw] (.int .i64 0) := by
    have := p_NewId pAw fit_aw
    rw [id_aw] at this
    exact this
  refine Pure.fn hmix b11 ?_
  repeat' first | (with_reducible first | refine tr_seq ?_ | refine n_nil ?_ | refine seqQ_normal ?_ | refine seqQ_ret ?_ | refine blkQ_ret ?_ | refine tr_ret ?_) | (refine tr_frz_aw rfl rfl rfl ?_) | ((with_reducible refine tr_region_f ?_ ?_); kernel_rfl) | exact ⟨rfl, rfl⟩ | ((with_reducible apply n_and); rfl; rfl; intro h) | ((with_reducible apply n_or); rfl; rfl; intro h) | ((with_reducible apply n_call (f := 21)); rfl; rfl; exact h1) | ((with_reducible apply n_call (f := 13)); rfl; rfl; exact h2) | ((with_reducible apply n_call (f := 37)); rfl; rfl; exact h3) | ((with_reducible apply n_call (f := 35)); rfl; rfl; exact h4) | ((with_reducible apply n_val); rfl; rfl) | ((with_reducible apply n_new); rfl; (first | (simp only [hn0, hn1, hn2, hn3, hn4, hn5, List.length_cons, List.length_nil, Nat.reduceAdd, Nat.zero_add]; first | done | rfl) | rfl); rfl) | ((with_reducible apply n_store); rfl; rfl; rfl; rfl; rfl) | ((with_reducible apply n_row); rfl; (first | (simp only [hn0, hn1, hn2, hn3, hn4, hn5, List.length_cons, List.length_nil, Nat.reduceAdd, Nat.zero_add]; first | done | rfl) | rfl); rfl) | ((with_reducible apply fnQ_told_ret); rfl) | ((with_reducible apply fnQ_ret_soft); rfl; rfl)
  rfl
theorem sane_ok {p : List Fn} (h : sane p = true) {g : Fn} (hg : g ∈ p) : okF p g = true := by
  simp only [sane, Bool.and_eq_true] at h
  exact List.all_eq_true.mp h.1.2 g hg
theorem okF_blk {p : List Fn} {g : Fn} (h : okF p g = true) {x : Bk} (hx : x ∈ g.bs) : okB p g x = true := by
  simp only [okF, Bool.and_eq_true] at h
  exact List.all_eq_true.mp h.2 x hx
end Go.Vm
end
