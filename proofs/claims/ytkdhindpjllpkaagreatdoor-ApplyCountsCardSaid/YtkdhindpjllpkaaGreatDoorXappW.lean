/- Laid. -/
import Derived.Test.YtkdhindpjllpkaaGreatDoorVmThree
import Derived.KernelRfl
import Derived.Test.YtkdhindpjllpkaaGreatDoorProg
import Derived.Test.YtkdhindpjllpkaaGreatDoorXsameB
set_option linter.unusedSimpArgs false
set_option linter.unusedVariables false
set_option maxRecDepth 100000
set_option maxHeartbeats 4000000
set_option exponentiation.threshold 2000
namespace Go.Vm
open Go
def c35 : RFn := ⟨(.seq (rf (.o 0 (.move (.c (.bool false))) .nil)) (.seq (rf (.o 4 (.build [(.bool false), (.lit []), (.lit [])] [(0, 1, (.c (.bool true)))]) (.o 5 (.build [(.bool false), (.lit []), (.lit [])] []) (.o 6 (.build [(.bool false), (.lit []), (.lit [])] [(0, 1, (.c (.bool true)))]) (.o 7 (.bslice true 3 3 (.agg [(.bool false), (.lit []), (.lit [])]) [(0, (.t 4)), (1, (.t 5)), (2, (.t 6))]) (.o 8 (.build [(.int .i64 0), (.int .i64 0), (.lit [])] [(2, 1, (.t 7))]) (.o 9 (.bslice true 3 1 (.agg [(.int .i64 0), (.int .i64 0), (.lit [])]) [(0, (.t 8))]) (.o 10 (.build [(.lit [])] [(0, 1, (.t 9))]) (.o 1 (.alloc (.agg [(.lit [])])) (.op none (.store 1 (.t 1) (.t 10)) 0 .nil)))))))))) (.seq (rf (.o 12 (.load (some 1) (.t 1)) (.o 13 (.build [(.int .i64 0), (.int .i64 0), (.int .i64 0), (.int .i64 0), (.int .i64 0), (.int .i64 0), (.int .i64 0), (.int .i64 0), (.int .i64 0), (.int .i64 0), (.int .i64 0), (.int .i64 0), (.int .i64 0), (.int .i64 0), (.int .i64 0), (.int .i64 0), (.int .i64 0)] [(0, 1, (.i 2)), (2, 1, (.i 2))]) (.o 14 (.call 39 [(.t 12), (.t 13)]) (.o 11 (.m 14) (.o 15 (.extract 0 (.t 11)) (.o 16 (.extract 1 (.t 11)) (.o 2 (.alloc (.agg [(.lit [])])) (.op none (.store 1 (.t 2) (.t 15)) 0 (.o 3 (.m 16) .nil)))))))))) (.seq (rf (.o 17 (.m 3) (.o 18 (.bin .eql (.t 17) (.i 0)) (.o 19 (.m 18) (.grd 19 true (.o 20 (.fieldAddr 0 (.t 2)) (.o 21 (.load none (.t 20)) (.o 22 (.len false (.t 21)) (.o 23 (.bin .eql (.t 22) (.i 1)) .nil)))) (.o 24 (.pick (.t 19) (.t 23) (.c (.bool false))) (.o 25 (.m 24) (.grd 25 true (.o 26 (.fieldAddr 0 (.t 2)) (.o 27 (.load none (.t 26)) (.o 28 (.idxAddr 3 (.t 27) (.i 0)) (.o 29 (.fieldAddr 2 (.t 28)) (.o 30 (.load none (.t 29)) (.o 31 (.len false (.t 30)) (.o 32 (.bin .eql (.t 31) (.i 1)) .nil))))))) (.o 33 (.pick (.t 25) (.t 32) (.c (.bool false))) (.o 34 (.m 33) (.grd 34 true (.o 35 (.load (some 1) (.t 2)) (.o 36 (.call 17 [(.t 35)]) .nil)) (.o 37 (.pick (.t 34) (.t 36) (.c (.bool false))) (.o 38 (.m 37) (.grd 38 true (.o 39 (.fieldAddr 0 (.t 1)) (.o 40 (.load none (.t 39)) (.o 41 (.idxAddr 3 (.t 40) (.i 0)) (.o 42 (.fieldAddr 2 (.t 41)) (.o 43 (.load none (.t 42)) (.o 44 (.len false (.t 43)) (.o 45 (.bin .eql (.t 44) (.i 3)) .nil))))))) (.o 46 (.pick (.t 38) (.t 45) (.c (.bool false))) (.o 0 (.m 46) .nil)))))))))))))))) .ret)))), [.tmp 0]⟩
theorem b35 : fnOf Go.Proofs.Tryz.prog (owOf []) 35 = some c35 := by kernel_rfl
def fA8 : Fn := ⟨0, 0, [⟨true, [], []⟩, B0, ⟨true, [], []⟩]⟩
def eA8 : Ed := ⟨2, 0, 2, 0, 0, 0, i0⟩
def fB8 : Fn := ⟨0, 0, [⟨true, [], []⟩]⟩
theorem che_a8 : cheV [fA8] eA8 = 0 := by decide +kernel
theorem few_a8 : few [fA8] = true := by decide +kernel
theorem app_a8 : applyV [fA8] eA8 = [fB8] := by
  rw [apply_at che_a8 (by decide)]
  rfl
theorem tr_frz_a8 {P : Program} {gl : Nat → Option PV} {s : Env} {H : Hp} {c : RCode} {Q : Ex → Env → Hp → Prop} (h1 : s 1 = some (.ptr 2 0 0 0)) (h0 : s 0 = some (.bool false)) (h2 : fz H 0 (.ptr 2 0 0 0) = some (.fptr [.sl [pF fA8]])) (k : Tr P gl 0 c (Env.ov (fun _ => none) [(0, some (.bool false)), (1, some (.fptr [.sl [pF fA8]]))]) (Hp.ofL []) Q) : Tr P gl 0 c s H Q := by
  refine tr_ghost (gh_to (s0 := fun _ => none) (l := []) rfl (Nat.le_refl _) (fun t p _ h => by cases h) (fun t p _ h => by cases h) ?_ trivial) k
  exact ⟨⟨_, h0, rfl⟩, ⟨_, h1, h2⟩, trivial⟩
theorem p_Apply (p : List Fn) (e : Ed) (hf : few p = true) : Pure Go.Proofs.Tryz.prog glD 39 [pP p, pE e] (.tup [pP (applyV p e), .int .i64 (cheV p e)]) :=
  p_ApplyH p e hf (p_edCheck p e hf) (p_NewId p (few_fit hf)) (p_NewBlock p e.f (few_fit hf))
theorem p_apUndo (p : List Fn) (e : Ed) (hf : few p = true) : Pure Go.Proofs.Tryz.prog glD 49 [pP p, pE e] (.tup [pE (undoV p e).1, .bool (undoV p e).2]) :=
  h_apUndo_all p e (p_Apply p e hf) (p_NewBlock p e.f (few_fit hf)) (p_At p e.f e.b e.pos (few_fit hf)) (p_NewId _ (few_fit (few_applyV e hf)))
theorem p_awake8 : Pure Go.Proofs.Tryz.prog glD 35 [] (.bool true) := by
  have h1 : Pure Go.Proofs.Tryz.prog glD 39 [pP [fA8], pE eA8] (.tup [pP [fB8], .int .i64 0]) := by
    have := p_Apply [fA8] eA8 few_a8
    rwa [che_a8, app_a8] at this
  have h2 : Pure Go.Proofs.Tryz.prog glD 17 [pP [fB8]] (.bool true) := by
    have := p_Sane [fB8] (few_fit (by decide +kernel))
    rwa [show sane [fB8] = true by decide +kernel] at this
  refine Pure.fn hmix b35 ?_
  repeat' first | (with_reducible first | refine tr_seq ?_ | refine n_nil ?_ | refine seqQ_normal ?_ | refine tr_ret ?_) | (refine tr_frz_a8 rfl rfl rfl ?_) | ((with_reducible refine tr_region_f ?_ ?_); kernel_rfl) | exact ⟨rfl, rfl⟩ | ((with_reducible apply n_and); rfl; rfl; intro h) | ((with_reducible apply n_call (f := 39)); rfl; rfl; exact h1) | ((with_reducible apply n_call (f := 17)); rfl; rfl; exact h2) | ((with_reducible apply n_idx_vals (f := pF) (xs := [fB8]) F0); rfl; rfl; exact (fun _ => rfl); exact (by decide)) | ((with_reducible apply n_idx_vals (f := pF) (xs := [fA8]) F0); rfl; rfl; exact (fun _ => rfl); exact (by decide)) | ((with_reducible apply n_val); rfl; rfl) | ((with_reducible apply n_new); rfl; (((simp only [hn0, hn1, hn2, hn3, hn4, hn5, List.length_cons, List.length_nil, Nat.reduceAdd, Nat.zero_add]; rfl))); rfl) | ((with_reducible apply n_store); rfl; rfl; rfl; rfl; rfl) | ((with_reducible apply n_row); rfl; (((simp only [hn0, hn1, hn2, hn3, hn4, hn5, List.length_cons, List.length_nil, Nat.reduceAdd, Nat.zero_add]; rfl))); rfl) | ((with_reducible apply fnQ_ret_soft); rfl; rfl) | fail
  rfl
end Go.Vm
