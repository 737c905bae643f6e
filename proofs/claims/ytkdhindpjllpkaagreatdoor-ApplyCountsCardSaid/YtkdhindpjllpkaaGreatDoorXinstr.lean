/- Laid. -/
import Derived.Test.YtkdhindpjllpkaaGreatDoorVmThree
import Derived.KernelRfl
import Derived.Test.YtkdhindpjllpkaaGreatDoorProg
import Derived.Test.YtkdhindpjllpkaaGreatDoorXerrB
import Derived.Test.YtkdhindpjllpkaaGreatDoorLAll
import Derived.Lib.Strings
import Derived.Lib.Slices
import Derived.Lib.Walk
import Derived.Lib.Bytealg
set_option linter.unusedSimpArgs false
set_option linter.unusedVariables false
set_option maxRecDepth 100000
set_option maxHeartbeats 4000000
set_option exponentiation.threshold 2000
namespace Go.Vm
open Go
def c119 : RFn := ⟨(.seq (rf (.o 2 (.move (.c (.lit []))) .nil)) (.seq (rf (.o 3 (.move (.i 0)) .nil)) (.seq (rf (.o 4 (.move (.i 1)) .nil)) (.seq (rf (.o 5 (.move (.c (.int .u8 0))) .nil)) (.seq (.seq (rf (.o 6 (.move (.i 0)) .nil)) (.block 0 (.loop (.seq (.seq (rf (.o 13 (.m 6) (.o 14 (.m 0) (.o 15 (.len true (.t 14)) (.o 16 (.bin .lss (.t 13) (.t 15)) .nil))))) (.cond (.t 16) .skip (.exit 0))) (.seq (.block 1 (.seq (rf (.o 19 (.m 0) (.o 20 (.m 6) (.o 21 (.prim .sidx [(.t 19), (.t 20)]) (.o 7 (.m 21) .nil))))) (.seq (rf (.o 22 (.m 5) (.o 23 (.m 7) (.o 24 (.bin .or (.t 22) (.t 23)) (.o 5 (.m 24) .nil))))) (.seq (rf (.o 25 (.m 7) (.o 26 (.idxAddrA 256 1 (.g 1) (.t 25)) (.o 27 (.load none (.t 26)) (.o 28 (.conv .i64 (.t 27)) (.o 8 (.m 28) .nil)))))) (.seq (rf (.o 29 (.m 3) (.o 30 (.m 4) (.o 31 (.m 8) (.o 32 (.prim .compl [(.t 31)]) (.o 33 (.bin .and (.t 30) (.t 32)) (.o 34 (.bin .add (.t 29) (.t 33)) (.o 3 (.m 34) .nil)))))))) (rf (.o 35 (.m 8) (.o 4 (.m 35) .nil)))))))) (rf (.o 17 (.m 6) (.o 18 (.bin .add (.t 17) (.i 1)) (.o 6 (.m 18) .nil))))))))) (.seq (.seq (rf (.o 36 (.m 5) (.o 37 (.bin .geq (.t 36) (.c (.int .u8 128))) .nil))) (.cond (.t 37) (.seq (rf (.o 38 (.m 0) (.o 39 (.call 160 [(.t 38), (.c (.fn 161 []))]) (.o 2 (.m 39) .nil)))) .ret) .skip)) (.seq (rf (.o 40 (.m 3) (.o 41 (.mkslice 1 (.str ⟨#[]⟩) (.t 40)) (.o 9 (.m 41) .nil)))) (.seq (rf (.o 10 (.move (.i 0)) .nil)) (.seq (rf (.o 11 (.move (.i 0)) .nil)) (.seq (rf (.o 12 (.move (.i 0)) .nil)) (.seq (.block 2 (.loop (.seq (.seq (rf (.o 42 (.m 12) (.o 43 (.m 0) (.o 44 (.len true (.t 43)) (.o 45 (.bin .lss (.t 42) (.t 44)) (.o 46 (.m 45) (.grd 46 true (.o 47 (.m 0) (.o 48 (.m 12) (.o 49 (.prim .sidx [(.t 47), (.t 48)]) (.o 50 (.idxAddrA 256 1 (.g 1) (.t 49)) (.o 51 (.load none (.t 50)) (.o 52 (.bin .neq (.t 51) (.c (.int .u8 0))) .nil)))))) (.o 53 (.pick (.t 46) (.t 52) (.c (.bool false))) .nil)))))))) (.cond (.t 53) .skip (.exit 2))) (.block 3 (rf (.o 54 (.m 12) (.o 55 (.bin .add (.t 54) (.i 1)) (.o 12 (.m 55) .nil)))))))) (.seq (rf (.o 56 (.m 12) (.o 11 (.m 56) .nil))) (.seq (.block 4 (.loop (.seq (.seq (rf (.o 57 (.m 12) (.o 58 (.m 0) (.o 59 (.len true (.t 58)) (.o 60 (.bin .lss (.t 57) (.t 59)) .nil))))) (.cond (.t 60) .skip (.exit 4))) (.block 5 (.seq (.seq (rf (.o 61 (.m 0) (.o 62 (.m 12) (.o 63 (.prim .sidx [(.t 61), (.t 62)]) (.o 64 (.idxAddrA 256 1 (.g 1) (.t 63)) (.o 65 (.load none (.t 64)) (.o 66 (.bin .eql (.t 65) (.c (.int .u8 0))) .nil))))))) (.cond (.t 66) (.seq (rf (.o 67 (.m 12) (.o 68 (.bin .add (.t 67) (.i 1)) (.o 12 (.m 68) .nil)))) (.exit 5)) .skip)) (.seq (rf (.o 69 (.m 9) (.o 70 (.m 10) (.o 71 (.m 0) (.o 72 (.m 11) (.o 73 (.m 12) (.o 74 (.prim (.sliceStr true true) [(.t 71), (.t 72), (.t 73)]) (.o 75 (.idxAddr 1 (.t 69) (.t 70)) (.op none (.store 1 (.t 75) (.t 74)) 0 .nil))))))))) (.seq (rf (.o 76 (.m 10) (.o 77 (.bin .add (.t 76) (.i 1)) (.o 10 (.m 77) .nil)))) (.seq (rf (.o 78 (.m 12) (.o 79 (.bin .add (.t 78) (.i 1)) (.o 12 (.m 79) .nil)))) (.seq (.block 6 (.loop (.seq (.seq (rf (.o 80 (.m 12) (.o 81 (.m 0) (.o 82 (.len true (.t 81)) (.o 83 (.bin .lss (.t 80) (.t 82)) (.o 84 (.m 83) (.grd 84 true (.o 85 (.m 0) (.o 86 (.m 12) (.o 87 (.prim .sidx [(.t 85), (.t 86)]) (.o 88 (.idxAddrA 256 1 (.g 1) (.t 87)) (.o 89 (.load none (.t 88)) (.o 90 (.bin .neq (.t 89) (.c (.int .u8 0))) .nil)))))) (.o 91 (.pick (.t 84) (.t 90) (.c (.bool false))) .nil)))))))) (.cond (.t 91) .skip (.exit 6))) (.block 7 (rf (.o 92 (.m 12) (.o 93 (.bin .add (.t 92) (.i 1)) (.o 12 (.m 93) .nil)))))))) (rf (.o 94 (.m 12) (.o 11 (.m 94) .nil)))))))))))) (.seq (.seq (rf (.o 95 (.m 11) (.o 96 (.m 0) (.o 97 (.len true (.t 96)) (.o 98 (.bin .lss (.t 95) (.t 97)) .nil))))) (.cond (.t 98) (rf (.o 99 (.m 9) (.o 100 (.m 10) (.o 101 (.m 0) (.o 102 (.m 11) (.o 103 (.prim (.sliceStr true false) [(.t 101), (.t 102)]) (.o 104 (.idxAddr 1 (.t 99) (.t 100)) (.op none (.store 1 (.t 104) (.t 103)) 0 .nil)))))))) .skip)) (.seq (rf (.o 105 (.m 9) (.o 2 (.m 105) .nil))) .ret))))))))))))))), [.tmp 2]⟩
theorem b119 : fnOf Go.Proofs.Tryz.prog (owOf []) 119 = some c119 := by kernel_rfl
def glD : Nat → Option PV := fun n => bif n == 1 then some (.fptr asciiL) else bif n == 0 then some (.fptr [.raw errH]) else none
theorem p_fields : Pure Go.Proofs.Tryz.prog glD 119 [.str ⟨#[99, 111, 110, 115, 116, 32, 99, 111, 112, 121, 32, 110, 101, 103, 32, 97, 100, 100, 32, 115, 117, 98, 32, 109, 117, 108, 32, 105, 110, 112, 117, 116, 32, 99, 97, 108, 108, 32, 117, 115, 101, 32, 114, 101, 116]⟩] (.sl (nmL.map .str)) := by
  have hT : TabOk Go.Proofs.Tryz.prog [(119, c119)] := ⟨⟨_, b119⟩, by kernel_rfl, trivial⟩
  exact clc_sound hmix hT (k := 60) (d := 1) (by kernel_rfl)
def c193 : RFn := ⟨(.seq (rf (.o 2 (.move (.c (.str ⟨#[]⟩))) .nil)) (.seq (.seq (rf (.o 3 (.m 0) (.o 4 (.bin .lss (.t 3) (.i 0)) (.o 5 (.m 4) (.grd 5 false (.o 6 (.m 0) (.o 7 (.bin .geq (.t 6) (.i 10)) .nil)) (.o 8 (.pick (.t 5) (.c (.bool true)) (.t 7)) .nil)))))) (.cond (.t 8) (.seq (rf (.o 2 (.move (.c (.str ⟨#[]⟩))) .nil)) .ret) .skip)) (.seq (rf (.o 9 (.call 119 [(.c (.str ⟨#[99, 111, 110, 115, 116, 32, 99, 111, 112, 121, 32, 110, 101, 103, 32, 97, 100, 100, 32, 115, 117, 98, 32, 109, 117, 108, 32, 105, 110, 112, 117, 116, 32, 99, 97, 108, 108, 32, 117, 115, 101, 32, 114, 101, 116]⟩))]) (.o 10 (.m 0) (.o 11 (.idxAddr 1 (.t 9) (.t 10)) (.o 12 (.load none (.t 11)) (.o 2 (.m 12) .nil)))))) .ret))), [.tmp 2]⟩
theorem b193 : fnOf Go.Proofs.Tryz.prog (owOf []) 193 = some c193 := by kernel_rfl
def c220 : RFn := ⟨(.seq (rf (.o 2 (.move (.c (.str ⟨#[]⟩))) .nil)) (.seq (.seq (rf (.o 3 (.m 0) (.o 4 (.call 193 [(.t 3)]) .nil))) (.block 0 (.seq (rf (.o 6 (.bin .eql (.t 4) (.c (.str ⟨#[99, 111, 110, 115, 116]⟩))) (.o 5 (.m 6) .nil))) (.cond (.t 5) (.seq (rf (.o 2 (.move (.c (.str ⟨#[100, 99]⟩))) .nil)) .ret) (.seq (.seq (rf (.o 8 (.bin .eql (.t 4) (.c (.str ⟨#[99, 111, 112, 121]⟩))) (.o 7 (.m 8) .nil))) (.cond (.t 7) .skip (rf (.o 9 (.bin .eql (.t 4) (.c (.str ⟨#[110, 101, 103]⟩))) (.o 7 (.m 9) .nil))))) (.cond (.t 7) (.seq (rf (.o 2 (.move (.c (.str ⟨#[100, 97]⟩))) .nil)) .ret) (.seq (.seq (rf (.o 11 (.bin .eql (.t 4) (.c (.str ⟨#[97, 100, 100]⟩))) (.o 10 (.m 11) .nil))) (.cond (.t 10) .skip (.seq (rf (.o 12 (.bin .eql (.t 4) (.c (.str ⟨#[115, 117, 98]⟩))) (.o 10 (.m 12) .nil))) (.cond (.t 10) .skip (rf (.o 13 (.bin .eql (.t 4) (.c (.str ⟨#[109, 117, 108]⟩))) (.o 10 (.m 13) .nil))))))) (.cond (.t 10) (.seq (rf (.o 2 (.move (.c (.str ⟨#[100, 97, 98]⟩))) .nil)) .ret) (.seq (rf (.o 15 (.bin .eql (.t 4) (.c (.str ⟨#[105, 110, 112, 117, 116]⟩))) (.o 14 (.m 15) .nil))) (.cond (.t 14) (.seq (rf (.o 2 (.move (.c (.str ⟨#[100]⟩))) .nil)) .ret) (.seq (rf (.o 17 (.bin .eql (.t 4) (.c (.str ⟨#[99, 97, 108, 108]⟩))) (.o 16 (.m 17) .nil))) (.cond (.t 16) (.seq (rf (.o 2 (.move (.c (.str ⟨#[100, 102]⟩))) .nil)) .ret) (.seq (.seq (rf (.o 19 (.bin .eql (.t 4) (.c (.str ⟨#[117, 115, 101]⟩))) (.o 18 (.m 19) .nil))) (.cond (.t 18) .skip (rf (.o 20 (.bin .eql (.t 4) (.c (.str ⟨#[114, 101, 116]⟩))) (.o 18 (.m 20) .nil))))) (.cond (.t 18) (.seq (rf (.o 2 (.move (.c (.str ⟨#[97]⟩))) .nil)) .ret) .skip)))))))))))))) (.seq (rf (.o 2 (.move (.c (.str ⟨#[]⟩))) .nil)) .ret))), [.tmp 2]⟩
theorem b220 : fnOf Go.Proofs.Tryz.prog (owOf []) 220 = some c220 := by kernel_rfl
theorem fields_get (k : Nat) (h : k < 10) : (nmL.map PV.str)[k]? = some (.str (nmL.getD k bs0)) := by
  rcases (by omega : k = 0 ∨ k = 1 ∨ k = 2 ∨ k = 3 ∨ k = 4 ∨ k = 5 ∨ k = 6 ∨ k = 7 ∨ k = 8 ∨ k = 9) with rfl | rfl | rfl | rfl | rfl | rfl | rfl | rfl | rfl | rfl <;> rfl
theorem p_instr_Name (k : Int) : Pure Go.Proofs.Tryz.prog glD 193 [.int .i64 k] (.str (nm k)) := by
  refine Pure.fn hmix b193 ?_
  repeat' first | (with_reducible first | refine tr_seq ?_ | refine n_nil ?_ | refine seqQ_normal ?_ | refine seqQ_ret ?_ | refine tr_skip ?_ | refine tr_ret ?_) | ((with_reducible refine tr_region_f ?_ ?_); kernel_rfl) | exact ⟨rfl, rfl⟩ | ((with_reducible apply tr_cond_e); rfl) | ((with_reducible apply n_or); rfl; rfl; intro h) | ((with_reducible apply n_idx_sl (y := .str (nmL.getD k.toNat bs0))); rfl; rfl; (((simp only [zz, tab_length] at *; omega))); exact fields_get _ (by ((simp only [zz, tab_length] at *; omega))); rfl) | ((with_reducible apply n_val); rfl; rfl) | ((with_reducible apply n_call (f := 119)); rfl; rfl; exact p_fields) | (with_reducible refine condT_split (fun h => ?_) (fun h => ?_)) | ((with_reducible apply fnQ_ret_soft); rfl; rfl) | fail
  all_goals (simp only [Bool.or_eq_true, decide_eq_true_eq, Bool.or_eq_false_iff, decide_eq_false_iff_not] at h)
  · rw [nm, if_neg (by omega)]
    rfl
  · rw [nm, if_pos (by omega)]
theorem p_instr_parts (k : Int) : Pure Go.Proofs.Tryz.prog glD 220 [.int .i64 k] (.str (pt k)) := by
  have hn := p_instr_Name k
  rcases kind_cases k with rfl | rfl | rfl | rfl | rfl | rfl | rfl | rfl | rfl | rfl | h
  all_goals
    (try (rw [show nm k = bs0 by rw [nm, if_neg (by omega)]] at hn; rw [show pt k = bs0 by rw [pt, if_neg (by omega)]]))
    refine Pure.fn hmix b220 ?_
    repeat' first | (with_reducible first | refine tr_seq ?_ | refine n_nil ?_ | refine seqQ_normal ?_ | refine seqQ_ret ?_ | refine blkQ_normal ?_ | refine blkQ_ret ?_ | refine tr_block ?_ | refine tr_skip ?_ | refine tr_ret ?_) | ((with_reducible refine tr_region_f ?_ ?_); kernel_rfl) | ((with_reducible apply tr_cond_e); rfl) | ((with_reducible refine condT_T ?_ ?_); decide +kernel) | ((with_reducible refine condT_F ?_ ?_); decide +kernel) | ((with_reducible apply n_call (f := 193)); rfl; rfl; exact hn) | ((with_reducible apply n_val); rfl; rfl) | ((with_reducible apply fnQ_ret_soft); rfl; rfl) | fail
    rfl
theorem c_IndexByte (s : ByteArray) (c : Int) (w : World) :
    Calls Go.Proofs.Tryz.prog 239 #[.string s, .int .u8 c] w fun e w' => e = .returned (.int .i64 (Lib.indexByte s.data.toList c.toNat.toUInt8)) ∧ w' = w := by
  go_enter Go.Proofs.Tryz.func239, Go.Proofs.Tryz.ntmps239
  go_wp2
  rw [run_callFunc_extern Go.Proofs.Tryz.func243 (by kernel_rfl) (by kernel_rfl) (by kernel_rfl) (e := Extern.BytealgIndexByte.indexByte) (by kernel_rfl), Lib.run_indexByteString]
  simp only [Result.andThen]
  rw [Oper.upon_value]
  go_wp2
  go_ret
  exact ⟨rfl, rfl⟩
theorem p_IndexByte {gl : Nat → Option PV} (s : ByteArray) (c : Int) : Pure Go.Proofs.Tryz.prog gl 239 [.str s, .int .u8 c] (.int .i64 (Lib.indexByte s.data.toList c.toNat.toUInt8)) := by
  refine ⟨by kernel_rfl, fun A w vs hA hg hvs => ?_⟩
  obtain ⟨hs, hv⟩ := hvs
  have h2 : vs.size = 2 := hs
  have e0 := hv 0 (by omega) (by simp)
  have e1 := hv 1 (by omega) (by simp)
  obtain ⟨v0, v1, rfl⟩ : ∃ v0 v1, vs = #[v0, v1] := ⟨vs[0], vs[1], by
    refine Array.ext (by simpa using h2) fun i h3 h4 => ?_
    simp at h4
    rcases (by omega : i = 0 ∨ i = 1) with rfl | rfl <;> rfl⟩
  simp only [List.getElem_cons_zero, List.getElem_cons_succ] at e0 e1
  cases e0
  cases e1
  refine (c_IndexByte s c w).mono ?_
  rintro e w' ⟨rfl, rfl⟩
  exact ⟨_, rfl, .refl _ _, .int _ _⟩
def c214 : RFn := ⟨(.seq (rf (.o 1 (.box (.t 0)) (.o 2 (.alloc (.agg [(.int .i64 0), (.int .i64 0), (.int .i64 0), (.int .i64 0), (.int .i64 0), (.int .i64 0), (.int .i64 0), (.int .i64 0), (.int .i64 0), (.int .i64 0), (.int .i64 0)])) .nil))) (.seq (rf (.o 3 (.fieldAddr 0 (.t 1)) (.op none (.store 1 (.t 3) (.i 0)) 0 (.o 4 (.fieldAddr 1 (.t 1)) (.op none (.store 1 (.t 4) (.i 0)) 0 .nil))))) (.seq (rf (.o 5 (.load (some 11) (.t 1)) (.op none (.store 11 (.t 2) (.t 5)) 0 .nil))) .ret))), [.cell (some 11) 2]⟩
theorem b214 : fnOf Go.Proofs.Tryz.prog (owOf []) 214 = some c214 := by kernel_rfl
def c215 : RFn := ⟨(.seq (rf (.o 2 (.box (.t 0)) (.o 4 (.move (.c (.bool false))) .nil))) (.seq (rf (.o 5 (.fieldAddr 1 (.t 2)) (.o 6 (.load none (.t 5)) (.o 7 (.call 220 [(.t 6)]) (.o 8 (.m 1) (.o 9 (.call 219 [(.t 7), (.t 8)]) (.o 4 (.m 9) .nil))))))) .ret)), [.tmp 4]⟩
theorem b215 : fnOf Go.Proofs.Tryz.prog (owOf []) 215 = some c215 := by kernel_rfl
def c219 : RFn := ⟨(.seq (rf (.o 4 (.move (.c (.bool false))) .nil)) (.seq (rf (.o 5 (.m 0) (.o 6 (.m 1) (.o 7 (.call 231 [(.t 5), (.t 6)]) (.o 8 (.bin .geq (.t 7) (.i 0)) (.o 4 (.m 8) .nil)))))) .ret)), [.tmp 4]⟩
theorem b219 : fnOf Go.Proofs.Tryz.prog (owOf []) 219 = some c219 := by kernel_rfl
def c231 : RFn := ⟨(.seq (rf (.o 4 (.move (.i 0)) .nil)) (.seq (rf (.o 5 (.m 0) (.o 6 (.m 1) (.o 7 (.call 237 [(.t 5), (.t 6)]) (.o 4 (.m 7) .nil))))) .ret)), [.tmp 4]⟩
theorem b231 : fnOf Go.Proofs.Tryz.prog (owOf []) 231 = some c231 := by kernel_rfl
def c237 : RFn := ⟨(.seq (rf (.o 4 (.move (.i 0)) .nil)) (.seq (rf (.o 14 (.m 1) (.o 15 (.len true (.t 14)) (.o 5 (.m 15) .nil)))) (.seq (.block 0 (.seq (rf (.o 17 (.m 5) (.o 18 (.bin .eql (.t 17) (.i 0)) (.o 19 (.m 18) (.grd 19 false (.o 20 (.m 1) (.o 21 (.m 0) (.o 22 (.bin .eql (.t 20) (.t 21)) .nil))) (.o 23 (.pick (.t 19) (.c (.bool true)) (.t 22)) (.o 16 (.m 23) .nil))))))) (.cond (.t 16) (.seq (rf (.o 4 (.move (.i 0)) .nil)) .ret) (.seq (rf (.o 25 (.m 5) (.o 26 (.bin .eql (.t 25) (.i 1)) (.o 24 (.m 26) .nil)))) (.cond (.t 24) (.seq (rf (.o 27 (.m 0) (.o 28 (.m 1) (.o 29 (.prim .sidx [(.t 28), (.i 0)]) (.o 30 (.call 239 [(.t 27), (.t 29)]) (.o 4 (.m 30) .nil)))))) .ret) (.seq (rf (.o 32 (.m 5) (.o 33 (.m 0) (.o 34 (.len true (.t 33)) (.o 35 (.bin .geq (.t 32) (.t 34)) (.o 31 (.m 35) .nil)))))) (.cond (.t 31) (.seq (rf (.o 4 (.move (.c (.int .i64 (-1)))) .nil)) .ret) (.seq (rf (.o 37 (.m 5) (.o 38 (.load none (.g 3)) (.o 39 (.bin .leq (.t 37) (.t 38)) (.o 40 (.m 39) (.grd 40 true (.o 41 (.m 0) (.o 42 (.len true (.t 41)) (.o 43 (.bin .leq (.t 42) (.i 64)) .nil))) (.o 44 (.pick (.t 40) (.t 43) (.c (.bool false))) (.o 36 (.m 44) .nil)))))))) (.cond (.t 36) (.seq (rf (.o 45 (.m 0) (.o 46 (.m 1) (.o 47 (.nope) (.o 4 (.m 47) .nil))))) .ret) .skip))))))))) (.seq (rf (.o 48 (.m 1) (.o 49 (.prim .sidx [(.t 48), (.i 0)]) (.o 6 (.m 49) .nil)))) (.seq (rf (.o 50 (.m 1) (.o 51 (.prim .sidx [(.t 50), (.i 1)]) (.o 7 (.m 51) .nil)))) (.seq (rf (.o 8 (.move (.i 0)) .nil)) (.seq (rf (.o 52 (.m 0) (.o 53 (.len true (.t 52)) (.o 54 (.m 5) (.o 55 (.bin .sub (.t 53) (.t 54)) (.o 56 (.bin .add (.t 55) (.i 1)) (.o 9 (.m 56) .nil))))))) (.seq (rf (.o 10 (.move (.i 0)) .nil)) (.seq (.block 1 (.loop (.seq (.seq (rf (.o 57 (.m 8) (.o 58 (.m 9) (.o 59 (.bin .lss (.t 57) (.t 58)) .nil)))) (.cond (.t 59) .skip (.exit 1))) (.block 2 (.seq (.seq (rf (.o 60 (.m 0) (.o 61 (.m 8) (.o 62 (.prim .sidx [(.t 60), (.t 61)]) (.o 63 (.m 6) (.o 64 (.bin .neq (.t 62) (.t 63)) .nil)))))) (.cond (.t 64) (.seq (rf (.o 65 (.m 0) (.o 66 (.m 8) (.o 67 (.bin .add (.t 66) (.i 1)) (.o 68 (.m 9) (.o 69 (.prim (.sliceStr true true) [(.t 65), (.t 67), (.t 68)]) (.o 70 (.m 6) (.o 71 (.call 239 [(.t 69), (.t 70)]) (.o 11 (.m 71) .nil))))))))) (.seq (.seq (rf (.o 72 (.m 11) (.o 73 (.bin .lss (.t 72) (.i 0)) .nil))) (.cond (.t 73) (.seq (rf (.o 4 (.move (.c (.int .i64 (-1)))) .nil)) .ret) .skip)) (rf (.o 74 (.m 8) (.o 75 (.m 11) (.o 76 (.bin .add (.t 75) (.i 1)) (.o 77 (.bin .add (.t 74) (.t 76)) (.o 8 (.m 77) .nil)))))))) .skip)) (.seq (.seq (rf (.o 78 (.m 0) (.o 79 (.m 8) (.o 80 (.bin .add (.t 79) (.i 1)) (.o 81 (.prim .sidx [(.t 78), (.t 80)]) (.o 82 (.m 7) (.o 83 (.bin .eql (.t 81) (.t 82)) (.o 84 (.m 83) (.grd 84 true (.o 85 (.m 0) (.o 86 (.m 8) (.o 87 (.m 8) (.o 88 (.m 5) (.o 89 (.bin .add (.t 87) (.t 88)) (.o 90 (.prim (.sliceStr true true) [(.t 85), (.t 86), (.t 89)]) (.o 91 (.m 1) (.o 92 (.bin .eql (.t 90) (.t 91)) .nil)))))))) (.o 93 (.pick (.t 84) (.t 92) (.c (.bool false))) .nil)))))))))) (.cond (.t 93) (.seq (rf (.o 94 (.m 8) (.o 4 (.m 94) .nil))) .ret) .skip)) (.seq (rf (.o 95 (.m 8) (.o 96 (.bin .add (.t 95) (.i 1)) (.o 8 (.m 96) .nil)))) (.seq (rf (.o 97 (.m 10) (.o 98 (.bin .add (.t 97) (.i 1)) (.o 10 (.m 98) .nil)))) (.seq (rf (.o 99 (.m 5) (.o 100 (.load none (.g 3)) (.o 101 (.bin .leq (.t 99) (.t 100)) (.o 102 (.m 101) (.grd 102 true (.o 103 (.m 10) (.o 104 (.m 8) (.o 105 (.call 241 [(.t 104)]) (.o 106 (.bin .gtr (.t 103) (.t 105)) .nil)))) (.o 107 (.pick (.t 102) (.t 106) (.c (.bool false))) .nil))))))) (.cond (.t 107) (.seq (rf (.o 108 (.m 0) (.o 109 (.m 8) (.o 110 (.prim (.sliceStr true false) [(.t 108), (.t 109)]) (.o 111 (.m 1) (.o 112 (.nope) (.o 12 (.m 112) .nil))))))) (.seq (.seq (rf (.o 113 (.m 12) (.o 114 (.bin .geq (.t 113) (.i 0)) .nil))) (.cond (.t 114) (.seq (rf (.o 115 (.m 12) (.o 116 (.m 8) (.o 117 (.bin .add (.t 115) (.t 116)) (.o 4 (.m 117) .nil))))) .ret) .skip)) (.seq (rf (.o 4 (.move (.c (.int .i64 (-1)))) .nil)) .ret))) (.seq (rf (.o 118 (.m 5) (.o 119 (.load none (.g 3)) (.o 120 (.bin .gtr (.t 118) (.t 119)) (.o 121 (.m 120) (.grd 121 true (.o 122 (.m 10) (.o 123 (.m 8) (.o 124 (.bin .shr (.t 123) (.c (.int .u64 4))) (.o 125 (.bin .add (.i 4) (.t 124)) (.o 126 (.bin .geq (.t 122) (.t 125)) .nil))))) (.o 127 (.pick (.t 121) (.t 126) (.c (.bool false))) (.o 128 (.m 127) (.grd 128 true (.o 129 (.m 8) (.o 130 (.m 9) (.o 131 (.bin .lss (.t 129) (.t 130)) .nil))) (.o 132 (.pick (.t 128) (.t 131) (.c (.bool false))) .nil)))))))))) (.cond (.t 132) (.seq (rf (.o 133 (.m 0) (.o 134 (.m 8) (.o 135 (.prim (.sliceStr true false) [(.t 133), (.t 134)]) (.o 136 (.m 1) (.o 137 (.call 242 [(.t 135), (.t 136)]) (.o 13 (.m 137) .nil))))))) (.seq (.seq (rf (.o 138 (.m 13) (.o 139 (.bin .lss (.t 138) (.i 0)) .nil))) (.cond (.t 139) (.seq (rf (.o 4 (.move (.c (.int .i64 (-1)))) .nil)) .ret) .skip)) (.seq (rf (.o 140 (.m 8) (.o 141 (.m 13) (.o 142 (.bin .add (.t 140) (.t 141)) (.o 4 (.m 142) .nil))))) .ret))) .skip)))))))))))) (.seq (rf (.o 4 (.move (.c (.int .i64 (-1)))) .nil)) .ret)))))))))), [.tmp 4]⟩
theorem b237 : fnOf Go.Proofs.Tryz.prog (owOf []) 237 = some c237 := by kernel_rfl
theorem idx_self (b : UInt8) : Lib.indexByte [b] b = 0 := by simp [Lib.indexByte]
theorem p_slIndexC (s : ByteArray) (b : UInt8) (h1 : (((⟨#[b]⟩ : ByteArray).size : Int) == 0 || (⟨#[b]⟩ : ByteArray).toList == s.toList) = decide (s.data.toList = [b])) : Pure Go.Proofs.Tryz.prog glD 237 [.str s, .str ⟨#[b]⟩] (.int .i64 (Lib.indexByte s.data.toList b)) := by
  have hi := p_IndexByte (gl := glD) s (b.toNat : Int)
  have eb : ((b.toNat : Int)).toNat.toUInt8 = b := by simp
  rw [eb] at hi
  refine Pure.fn hmix b237 ?_
  repeat' first | (with_reducible first | refine tr_seq ?_ | refine n_nil ?_ | refine seqQ_normal ?_ | refine seqQ_ret ?_ | refine blkQ_ret ?_ | refine tr_block ?_ | refine tr_ret ?_) | ((with_reducible refine tr_region_f ?_ ?_); kernel_rfl) | exact ⟨rfl, rfl⟩ | ((with_reducible apply tr_cond_e); rfl) | ((with_reducible apply n_or); rfl; rfl; intro h) | ((with_reducible apply n_call (f := 239)); rfl; rfl; exact hi) | ((with_reducible apply n_val); rfl; rfl) | (with_reducible refine condT_split (fun h => ?_) (fun h => ?_)) | ((with_reducible apply fnQ_ret_soft); rfl; rfl) | fail
  · rw [h1, decide_eq_true_eq] at h
    rw [h, idx_self]
  · rfl
  all_goals (rename_i g1 g2; exact absurd (show true = false from g2) (by decide))
theorem pt_self (k : Int) (b : UInt8) (hb : b = 100 ∨ b = 97 ∨ b = 98 ∨ b = 99 ∨ b = 102) : (((⟨#[b]⟩ : ByteArray).size : Int) == 0 || (⟨#[b]⟩ : ByteArray).toList == (pt k).toList) = decide ((pt k).data.toList = [b]) := by
  rcases kind_cases k with rfl | rfl | rfl | rfl | rfl | rfl | rfl | rfl | rfl | rfl | h
  all_goals
    (try rw [pt, if_neg (by omega)])
    rcases hb with rfl | rfl | rfl | rfl | rfl <;> decide +kernel
theorem p_slIndex (k : Int) (b : UInt8) (hb : b = 100 ∨ b = 97 ∨ b = 98 ∨ b = 99 ∨ b = 102) : Pure Go.Proofs.Tryz.prog glD 237 [.str (pt k), .str ⟨#[b]⟩] (.int .i64 (Lib.indexByte (pt k).data.toList b)) := p_slIndexC _ b (pt_self k b hb)
theorem p_strIndex (k : Int) (b : UInt8) (hb : b = 100 ∨ b = 97 ∨ b = 98 ∨ b = 99 ∨ b = 102) : Pure Go.Proofs.Tryz.prog glD 231 [.str (pt k), .str ⟨#[b]⟩] (.int .i64 (Lib.indexByte (pt k).data.toList b)) := by
  refine Pure.fn hmix b231 ?_
  repeat' first | (with_reducible first | refine tr_seq ?_ | refine n_nil ?_ | refine seqQ_normal ?_ | refine tr_ret ?_) | ((with_reducible refine tr_region_f ?_ ?_); kernel_rfl) | ((with_reducible apply n_val); rfl; rfl) | ((with_reducible apply n_call (f := 237)); rfl; rfl; exact p_slIndex k b hb) | ((with_reducible apply fnQ_ret_soft); rfl; rfl) | fail
  rfl
theorem p_strContains (k : Int) (b : UInt8) (hb : b = 100 ∨ b = 97 ∨ b = 98 ∨ b = 99 ∨ b = 102) : Pure Go.Proofs.Tryz.prog glD 219 [.str (pt k), .str ⟨#[b]⟩] (.bool (decide (Lib.indexByte (pt k).data.toList b ≥ 0))) := by
  refine Pure.fn hmix b219 ?_
  repeat' first | (with_reducible first | refine tr_seq ?_ | refine n_nil ?_ | refine seqQ_normal ?_ | refine tr_ret ?_) | ((with_reducible refine tr_region_f ?_ ?_); kernel_rfl) | ((with_reducible apply n_val); rfl; rfl) | ((with_reducible apply n_call (f := 231)); rfl; rfl; exact p_strIndex k b hb) | ((with_reducible apply fnQ_ret_soft); rfl; rfl) | fail
  rfl
theorem p_has (i : In) (b : UInt8) (hb : b = 100 ∨ b = 97 ∨ b = 98 ∨ b = 99 ∨ b = 102) (r : Int → Bool) (hr : ∀ k, decide (Lib.indexByte (pt k).data.toList b ≥ 0) = r k) : Pure Go.Proofs.Tryz.prog glD 215 [pI i, .str ⟨#[b]⟩] (.bool (r i.kind)) := by
  rw [← hr]
  refine Pure.fn hmix b215 ?_
  repeat' first | (with_reducible first | refine tr_seq ?_ | refine n_nil ?_ | refine seqQ_normal ?_ | refine tr_ret ?_) | ((with_reducible refine tr_region_f ?_ ?_); kernel_rfl) | ((with_reducible apply n_val); rfl; rfl) | ((with_reducible apply n_new); rfl; (((simp only [hn0, hn1, hn2, hn3, hn4, hn5, List.length_cons, List.length_nil, Nat.reduceAdd, Nat.zero_add]; rfl))); rfl) | ((with_reducible apply n_call (f := 220)); rfl; rfl; exact p_instr_parts ..) | ((with_reducible apply n_call (f := 219)); rfl; rfl; exact p_strContains _ b hb) | ((with_reducible apply fnQ_ret_soft); rfl; rfl) | fail
  rfl
theorem p_hasD (i : In) : Pure Go.Proofs.Tryz.prog glD 215 [pI i, .str ⟨#[100]⟩] (.bool (hD i.kind)) := p_has i 100 (by decide) hD fun k => by
  rcases kind_cases k with rfl | rfl | rfl | rfl | rfl | rfl | rfl | rfl | rfl | rfl | h
  any_goals decide
  rw [pt, if_neg (by omega)]
  simp only [hD, Bool.and_eq_false_iff]
  have : (decide (0 ≤ k) && decide (k ≤ 7)) = false := by simp; omega
  rw [this]; decide
theorem p_hasA (i : In) : Pure Go.Proofs.Tryz.prog glD 215 [pI i, .str ⟨#[97]⟩] (.bool (hA i.kind)) := p_has i 97 (by decide) hA fun k => by
  rcases kind_cases k with rfl | rfl | rfl | rfl | rfl | rfl | rfl | rfl | rfl | rfl | h
  any_goals decide
  rw [pt, if_neg (by omega)]
  have : hA k = false := by simp [hA]; omega
  rw [this]; decide
theorem p_hasB (i : In) : Pure Go.Proofs.Tryz.prog glD 215 [pI i, .str ⟨#[98]⟩] (.bool (hB i.kind)) := p_has i 98 (by decide) hB fun k => by
  rcases kind_cases k with rfl | rfl | rfl | rfl | rfl | rfl | rfl | rfl | rfl | rfl | h
  any_goals decide
  rw [pt, if_neg (by omega)]
  have : hB k = false := by simp [hB]; omega
  rw [this]; decide
theorem p_hasC (i : In) : Pure Go.Proofs.Tryz.prog glD 215 [pI i, .str ⟨#[99]⟩] (.bool (hC i.kind)) := p_has i 99 (by decide) hC fun k => by
  rcases kind_cases k with rfl | rfl | rfl | rfl | rfl | rfl | rfl | rfl | rfl | rfl | h
  any_goals decide
  rw [pt, if_neg (by omega)]
  have : hC k = false := by simp [hC]; omega
  rw [this]; decide
theorem p_hasF (i : In) : Pure Go.Proofs.Tryz.prog glD 215 [pI i, .str ⟨#[102]⟩] (.bool (hF i.kind)) := p_has i 102 (by decide) hF fun k => by
  rcases kind_cases k with rfl | rfl | rfl | rfl | rfl | rfl | rfl | rfl | rfl | rfl | h
  any_goals decide
  rw [pt, if_neg (by omega)]
  have : hF k = false := by simp [hF]; omega
  rw [this]; decide
theorem p_without (i : In) : Pure Go.Proofs.Tryz.prog glD 214 [pI i] (pI { i with id := 0, kind := 0 }) := by
  refine Pure.fn hmix b214 ?_
  repeat' first | (with_reducible first | refine tr_seq ?_ | refine n_nil ?_ | refine seqQ_normal ?_ | refine tr_ret ?_) | ((with_reducible refine tr_region_f ?_ ?_); kernel_rfl) | ((with_reducible apply n_val); rfl; rfl) | ((with_reducible apply n_new); rfl; (((simp only [hn0, hn1, hn2, hn3, hn4, hn5, List.length_cons, List.length_nil, Nat.reduceAdd, Nat.zero_add]; rfl))); rfl) | ((with_reducible apply n_store); rfl; rfl; rfl; rfl; rfl) | ((with_reducible apply fnQ_ret_soft); rfl; rfl) | fail
  rfl
def c168 : RFn := ⟨(.seq (rf (.o 1 (.box (.t 0)) (.o 2 (.move (.c (.bool false))) .nil))) (.seq (.seq (rf (.o 4 (.fieldAddr 1 (.t 1)) (.o 5 (.load none (.t 4)) (.o 6 (.call 193 [(.t 5)]) (.o 7 (.bin .eql (.t 6) (.c (.str ⟨#[]⟩))) (.o 8 (.m 7) (.grd 8 false (.o 9 (.fieldAddr 0 (.t 1)) (.o 10 (.load none (.t 9)) (.o 11 (.bin .lss (.t 10) (.i 0)) .nil))) (.o 12 (.pick (.t 8) (.c (.bool true)) (.t 11)) (.o 13 (.m 12) (.grd 13 false (.o 14 (.fieldAddr 0 (.t 1)) (.o 15 (.load none (.t 14)) (.o 16 (.bin .geq (.t 15) (.i 96)) .nil))) (.o 17 (.pick (.t 13) (.c (.bool true)) (.t 16)) (.o 18 (.m 17) (.grd 18 false (.o 19 (.fieldAddr 7 (.t 1)) (.o 20 (.load none (.t 19)) (.o 21 (.bin .lss (.t 20) (.i 0)) .nil))) (.o 22 (.pick (.t 18) (.c (.bool true)) (.t 21)) (.o 23 (.m 22) (.grd 23 false (.o 24 (.fieldAddr 7 (.t 1)) (.o 25 (.load none (.t 24)) (.o 26 (.bin .gtr (.t 25) (.i 3)) .nil))) (.o 27 (.pick (.t 23) (.c (.bool true)) (.t 26)) (.o 28 (.m 27) (.grd 28 false (.o 29 (.fieldAddr 5 (.t 1)) (.o 30 (.load none (.t 29)) (.o 31 (.bin .lss (.t 30) (.c (.int .i64 (-2147483648)))) .nil))) (.o 32 (.pick (.t 28) (.c (.bool true)) (.t 31)) (.o 33 (.m 32) (.grd 33 false (.o 34 (.fieldAddr 5 (.t 1)) (.o 35 (.load none (.t 34)) (.o 36 (.bin .gtr (.t 35) (.i 2147483647)) .nil))) (.o 37 (.pick (.t 33) (.c (.bool true)) (.t 36)) .nil))))))))))))))))))))))) (.cond (.t 37) (.seq (rf (.o 2 (.move (.c (.bool false))) .nil)) .ret) .skip)) (.seq (rt (.o 38 (.fieldAddr 2 (.t 1)) (.op (some 39) (.load none (.t 38)) 1 (.o 40 (.fieldAddr 3 (.t 1)) (.op (some 41) (.load none (.t 40)) 4 (.o 42 (.fieldAddr 4 (.t 1)) (.op (some 43) (.load none (.t 42)) 16 (.o 44 (.fieldAddr 6 (.t 1)) (.op (some 45) (.load none (.t 44)) 64 (.o 46 (.fieldAddr 8 (.t 1)) (.op (some 47) (.prim (.sliceArr 3 false false false) [(.t 46)]) 256 (.op (some 48) (.call 194 [(.t 47)]) 768 (.op (some 49) (.mm false (.t 39) [(.t 41), (.t 43), (.t 45), (.t 48)]) 2047 (.op (some 3) (.m 49) 4095 .nil)))))))))))))) (.seq (rf (.o 50 (.m 3) (.o 51 (.bin .geq (.t 50) (.i 0)) (.o 52 (.m 51) (.grd 52 true (.o 53 (.load (some 11) (.t 1)) (.o 54 (.call 195 [(.t 53)]) (.o 55 (.build [(.int .i64 0), (.int .i64 0), (.int .i64 0), (.int .i64 0), (.int .i64 0), (.int .i64 0), (.int .i64 0), (.int .i64 0), (.int .i64 0), (.int .i64 0), (.int .i64 0)] []) (.o 56 (.eqs false [(0, 1), (1, 1), (2, 1), (3, 1), (4, 1), (5, 1), (6, 1), (7, 1), (8, 1), (9, 1), (10, 1)] (.t 54) (.t 55)) .nil)))) (.o 57 (.pick (.t 52) (.t 56) (.c (.bool false))) (.o 2 (.m 57) .nil))))))) .ret)))), [.tmp 2]⟩
theorem b168 : fnOf Go.Proofs.Tryz.prog (owOf []) 168 = some c168 := by kernel_rfl
def c194 : RFn := ⟨(.seq (rf (.o 2 (.move (.i 0)) .nil)) (.seq (.seq (rf (.o 5 (.m 0) (.o 6 (.len false (.t 5)) (.o 7 (.bin .lss (.t 6) (.i 1)) .nil)))) (.cond (.t 7) (rf (.o 8 (.prim (.mkif 9) [(.c (.str ⟨#[115, 108, 105, 99, 101, 115, 46, 77, 105, 110, 58, 32, 101, 109, 112, 116, 121, 32, 108, 105, 115, 116]⟩))]) (.op none (.nope) 0 .nil))) .skip)) (.seq (rf (.o 9 (.m 0) (.o 10 (.idxAddr 1 (.t 9) (.i 0)) (.o 11 (.load none (.t 10)) (.o 3 (.m 11) .nil))))) (.seq (.seq (rf (.o 4 (.move (.i 1)) .nil)) (.block 0 (.loop (.seq (.seq (rf (.o 12 (.m 4) (.o 13 (.m 0) (.o 14 (.len false (.t 13)) (.o 15 (.bin .lss (.t 12) (.t 14)) .nil))))) (.cond (.t 15) .skip (.exit 0))) (.seq (.block 1 (rf (.o 18 (.m 3) (.o 19 (.m 0) (.o 20 (.m 4) (.o 21 (.idxAddr 1 (.t 19) (.t 20)) (.o 22 (.load none (.t 21)) (.o 23 (.mm false (.t 18) [(.t 22)]) (.o 3 (.m 23) .nil))))))))) (rf (.o 16 (.m 4) (.o 17 (.bin .add (.t 16) (.i 1)) (.o 4 (.m 17) .nil))))))))) (.seq (rf (.o 24 (.m 3) (.o 2 (.m 24) .nil))) .ret))))), [.tmp 2]⟩
theorem b194 : fnOf Go.Proofs.Tryz.prog (owOf []) 194 = some c194 := by kernel_rfl
def c195 : RFn := ⟨(.seq (rf (.o 1 (.box (.t 0)) (.o 2 (.alloc (.agg [(.int .i64 0), (.int .i64 0), (.int .i64 0), (.int .i64 0), (.int .i64 0), (.int .i64 0), (.int .i64 0), (.int .i64 0), (.int .i64 0), (.int .i64 0), (.int .i64 0)])) .nil))) (.seq (rf (.o 4 (.load (some 11) (.t 1)) (.o 5 (.call 214 [(.t 4)]) (.o 3 (.alloc (.agg [(.int .i64 0), (.int .i64 0), (.int .i64 0), (.int .i64 0), (.int .i64 0), (.int .i64 0), (.int .i64 0), (.int .i64 0), (.int .i64 0), (.int .i64 0), (.int .i64 0)])) (.op none (.store 11 (.t 3) (.t 5)) 0 .nil))))) (.seq (.seq (rf (.o 6 (.load (some 11) (.t 1)) (.o 7 (.call 215 [(.t 6), (.c (.str ⟨#[100]⟩))]) .nil))) (.cond (.t 7) (rf (.o 8 (.fieldAddr 2 (.t 3)) (.op none (.store 1 (.t 8) (.i 0)) 0 .nil))) .skip)) (.seq (.seq (rf (.o 9 (.load (some 11) (.t 1)) (.o 10 (.call 215 [(.t 9), (.c (.str ⟨#[97]⟩))]) .nil))) (.cond (.t 10) (rf (.o 11 (.fieldAddr 3 (.t 3)) (.op none (.store 1 (.t 11) (.i 0)) 0 .nil))) .skip)) (.seq (.seq (rf (.o 12 (.load (some 11) (.t 1)) (.o 13 (.call 215 [(.t 12), (.c (.str ⟨#[98]⟩))]) .nil))) (.cond (.t 13) (rf (.o 14 (.fieldAddr 4 (.t 3)) (.op none (.store 1 (.t 14) (.i 0)) 0 .nil))) .skip)) (.seq (.seq (rf (.o 15 (.load (some 11) (.t 1)) (.o 16 (.call 215 [(.t 15), (.c (.str ⟨#[99]⟩))]) .nil))) (.cond (.t 16) (rf (.o 17 (.fieldAddr 5 (.t 3)) (.op none (.store 1 (.t 17) (.i 0)) 0 .nil))) .skip)) (.seq (.seq (rf (.o 18 (.load (some 11) (.t 1)) (.o 19 (.call 215 [(.t 18), (.c (.str ⟨#[102]⟩))]) .nil))) (.cond (.t 19) (.seq (rf (.o 20 (.fieldAddr 6 (.t 3)) (.op none (.store 1 (.t 20) (.i 0)) 0 .nil))) (.seq (rf (.o 21 (.fieldAddr 8 (.t 3)) (.o 22 (.fieldAddr 7 (.t 1)) (.o 23 (.load none (.t 22)) (.o 24 (.mm false (.t 23) [(.i 3)]) (.o 25 (.mm true (.i 0) [(.t 24)]) (.o 26 (.prim (.sliceArr 3 false true false) [(.t 21), (.t 25)]) (.op none (.eprim (.clear 1 (.int .i64 0)) [(.t 26)]) 0 .nil)))))))) (rf (.o 27 (.fieldAddr 7 (.t 3)) (.op none (.store 1 (.t 27) (.i 0)) 0 .nil))))) .skip)) (.seq (rf (.o 28 (.load (some 11) (.t 3)) (.op none (.store 11 (.t 2) (.t 28)) 0 .nil))) .ret)))))))), [.cell (some 11) 2]⟩
theorem b195 : fnOf Go.Proofs.Tryz.prog (owOf []) 195 = some c195 := by kernel_rfl
def c197 : RFn := ⟨(.seq (rf (.o 1 (.box (.t 0)) (.o 2 (.move (.i 0)) .nil))) (.seq (.seq (rf (.o 3 (.load (some 11) (.t 1)) (.o 4 (.call 215 [(.t 3), (.c (.str ⟨#[100]⟩))]) (.o 5 (.un .not (.t 4)) (.o 6 (.m 5) (.grd 6 false (.o 7 (.load (some 11) (.t 1)) (.o 8 (.call 168 [(.t 7)]) (.o 9 (.un .not (.t 8)) .nil))) (.o 10 (.pick (.t 6) (.c (.bool true)) (.t 9)) .nil))))))) (.cond (.t 10) (.seq (rf (.o 2 (.move (.c (.int .i64 (-1)))) .nil)) .ret) .skip)) (.seq (rf (.o 11 (.fieldAddr 2 (.t 1)) (.o 12 (.load none (.t 11)) (.o 2 (.m 12) .nil)))) .ret))), [.tmp 2]⟩
theorem b197 : fnOf Go.Proofs.Tryz.prog (owOf []) 197 = some c197 := by kernel_rfl
theorem p_bare (i : In) (hn : 0 ≤ i.n ∧ i.n ≤ 3) : Pure Go.Proofs.Tryz.prog glD 195 [pI i] (pI (bareI i)) := by
  have d := p_hasD i
  have a := p_hasA i
  have b := p_hasB i
  have c := p_hasC i
  have f := p_hasF i
  obtain ⟨id, k, dst, va, vb, vc, vf, n, x, y, z⟩ := i
  simp only at hn d a b c f
  refine Pure.fn hmix b195 ?_
  rcases kind_cases k with rfl | rfl | rfl | rfl | rfl | rfl | rfl | h7 | rfl | rfl | h
  case inr.inr.inr.inr.inr.inr.inr.inl =>
    subst h7
    rcases (by omega : n = 0 ∨ n = 1 ∨ n = 2 ∨ n = 3) with rfl | rfl | rfl | rfl
    all_goals
      repeat' first | (with_reducible first | refine tr_seq ?_ | refine n_nil ?_ | refine seqQ_normal ?_ | refine tr_skip ?_ | refine tr_ret ?_) | ((with_reducible refine tr_region_f ?_ ?_); kernel_rfl) | ((with_reducible apply tr_cond_e); rfl) | ((with_reducible refine condT_T ?_ ?_); decide +kernel) | ((with_reducible refine condT_F ?_ ?_); decide +kernel) | ((with_reducible apply n_call (f := 215)); rfl; rfl; (first | exact d | exact a | exact b | exact c | exact f)) | ((with_reducible apply n_eprim); rfl) | ((with_reducible apply n_val); rfl; rfl) | ((with_reducible apply n_new); rfl; (((simp only [hn0, hn1, hn2, hn3, hn4, hn5, List.length_cons, List.length_nil, Nat.reduceAdd, Nat.zero_add]; rfl))); rfl) | ((with_reducible apply n_store); rfl; rfl; rfl; rfl; rfl) | ((with_reducible apply n_call (f := 214)); rfl; rfl; exact p_without ..) | ((with_reducible apply fnQ_ret_soft); rfl; rfl) | fail
      rfl
  case inr.inr.inr.inr.inr.inr.inr.inr.inr.inr =>
    have e1 : hD k = false := by simp [hD]; omega
    have e2 : hA k = false := by simp [hA]; omega
    have e3 : hB k = false := by simp [hB]; omega
    have e4 : hC k = false := by simp [hC]; omega
    have e5 : hF k = false := by simp [hF]; omega
    rw [e1] at d
    rw [e2] at a
    rw [e3] at b
    rw [e4] at c
    rw [e5] at f
    repeat' first | (with_reducible first | refine tr_seq ?_ | refine n_nil ?_ | refine seqQ_normal ?_ | refine tr_skip ?_ | refine tr_ret ?_ | refine condT_f ?_) | ((with_reducible refine tr_region_f ?_ ?_); kernel_rfl) | ((with_reducible apply tr_cond_e); rfl) | ((with_reducible apply n_call (f := 215)); rfl; rfl; (first | exact d | exact a | exact b | exact c | exact f)) | ((with_reducible apply n_val); rfl; rfl) | ((with_reducible apply n_new); rfl; (((simp only [hn0, hn1, hn2, hn3, hn4, hn5, List.length_cons, List.length_nil, Nat.reduceAdd, Nat.zero_add]; rfl))); rfl) | ((with_reducible apply n_store); rfl; rfl; rfl; rfl; rfl) | ((with_reducible apply n_call (f := 214)); rfl; rfl; exact p_without ..) | ((with_reducible apply fnQ_ret_soft); rfl; rfl) | fail
    simp [bareI, e1, e2, e3, e4, e5]
  all_goals
    repeat' first | (with_reducible first | refine tr_seq ?_ | refine n_nil ?_ | refine seqQ_normal ?_ | refine tr_skip ?_ | refine tr_ret ?_) | ((with_reducible refine tr_region_f ?_ ?_); kernel_rfl) | ((with_reducible apply tr_cond_e); rfl) | ((with_reducible refine condT_T ?_ ?_); decide +kernel) | ((with_reducible refine condT_F ?_ ?_); decide +kernel) | ((with_reducible apply n_call (f := 215)); rfl; rfl; (first | exact d | exact a | exact b | exact c | exact f)) | ((with_reducible apply n_val); rfl; rfl) | ((with_reducible apply n_new); rfl; (((simp only [hn0, hn1, hn2, hn3, hn4, hn5, List.length_cons, List.length_nil, Nat.reduceAdd, Nat.zero_add]; rfl))); rfl) | ((with_reducible apply n_store); rfl; rfl; rfl; rfl; rfl) | ((with_reducible apply n_call (f := 214)); rfl; rfl; exact p_without ..) | ((with_reducible apply fnQ_ret_soft); rfl; rfl) | fail
    rfl
theorem p_slMin (a b c : Int) : Pure Go.Proofs.Tryz.prog glD 194 [.sl [.int .i64 a, .int .i64 b, .int .i64 c]] (.int .i64 (min (min a b) c)) := by
  refine Pure.fn hmix b194 ?_
  repeat' first | (with_reducible first | refine tr_seq ?_ | refine n_nil ?_ | refine seqQ_normal ?_ | refine seqQ_exit ?_ | refine blkQ_normal ?_ | refine blkQ_exit ?_ | refine tr_block ?_ | refine tr_skip ?_ | refine tr_exit ?_ | refine tr_ret ?_) | ((with_reducible refine tr_region_f ?_ ?_); kernel_rfl) | ((with_reducible apply tr_cond_e); rfl) | ((with_reducible refine condT_T ?_ ?_); exact rfl) | ((with_reducible refine condT_F ?_ ?_); exact rfl) | with_reducible refine unrQ_normal ?_ | with_reducible refine unrQ_exit ?_ | refine tr_unroll 4 ?_ | ((with_reducible apply n_min); rfl; rfl) | ((with_reducible apply n_val); rfl; rfl) | ((with_reducible apply fnQ_ret_soft); rfl; rfl) | fail
  rfl
theorem p_Form (i : In) : Pure Go.Proofs.Tryz.prog glD 168 [pI i] (.bool (form i)) := by
  refine Pure.fn hmix b168 ?_
  repeat' first | (with_reducible first | refine tr_seq ?_ | refine n_nil ?_ | refine seqQ_normal ?_ | refine seqQ_ret ?_ | refine tr_skip ?_ | refine tr_ret ?_) | ((with_reducible refine tr_region_f ?_ ?_); kernel_rfl) | ((with_reducible refine tr_region_t ?_ ?_ ?_); kernel_rfl; kernel_rfl) | exact ⟨rfl, rfl⟩ | ((with_reducible apply tr_cond_e); rfl) | ((with_reducible apply n_and); rfl; rfl; intro h) | ((with_reducible apply n_or); rfl; rfl; intro h) | ((with_reducible apply n_min5); rfl; rfl; rfl; rfl; rfl) | ((with_reducible apply n_val); rfl; rfl) | ((with_reducible apply n_new); rfl; (((simp only [hn0, hn1, hn2, hn3, hn4, hn5, List.length_cons, List.length_nil, Nat.reduceAdd, Nat.zero_add]; rfl))); rfl) | ((with_reducible apply n_eqs_f); rfl; rfl; rfl) | ((with_reducible apply n_call (f := 193)); rfl; rfl; exact p_instr_Name ..) | ((with_reducible apply n_callb (f := 194)); rfl; rfl; exact p_slMin ..; rfl) | ((with_reducible apply n_call (f := 195)); rfl; rfl; exact p_bare _ (by simp only [Bool.or_eq_false_iff, decide_eq_false_iff_not] at *; omega)) | (with_reducible refine condT_split (fun h => ?_) (fun h => ?_)) | ((with_reducible apply fnQ_ret_soft); rfl; rfl) | fail
  · rw [form_f h]
  · rw [form_t h, ← eq_i0]
theorem p_Def (i : In) : Pure Go.Proofs.Tryz.prog glD 197 [pI i] (.int .i64 (defI i)) := by
  refine Pure.fn hmix b197 ?_
  repeat' first | (with_reducible first | refine tr_seq ?_ | refine n_nil ?_ | refine seqQ_normal ?_ | refine seqQ_ret ?_ | refine tr_skip ?_ | refine tr_ret ?_) | ((with_reducible refine tr_region_f ?_ ?_); kernel_rfl) | exact ⟨rfl, rfl⟩ | ((with_reducible apply tr_cond_e); rfl) | ((with_reducible apply n_or); rfl; rfl; intro h) | ((with_reducible apply n_val); rfl; rfl) | ((with_reducible apply n_new); rfl; (((simp only [hn0, hn1, hn2, hn3, hn4, hn5, List.length_cons, List.length_nil, Nat.reduceAdd, Nat.zero_add]; rfl))); rfl) | ((with_reducible apply n_call (f := 215)); rfl; rfl; exact p_hasD ..) | ((with_reducible apply n_call (f := 168)); rfl; rfl; exact p_Form ..) | (with_reducible refine condT_split (fun h => ?_) (fun h => ?_)) | ((with_reducible apply fnQ_ret_soft); rfl; rfl) | fail
  · refine congrArg _ ?_
    rw [defI, if_neg]
    cases h1 : form i <;> cases h2 : hD i.kind <;> simp_all
  · refine congrArg _ ?_
    rw [defI, if_pos]
    cases h1 : form i <;> cases h2 : hD i.kind <;> simp_all
def c165 : RFn := ⟨(.seq (rf (.o 4 (.move (.c (.bool false))) .nil)) (.seq (rf (.o 5 (.m 0) (.o 6 (.m 1) (.o 7 (.call 192 [(.t 5), (.t 6)]) (.o 8 (.bin .geq (.t 7) (.i 0)) (.o 4 (.m 8) .nil)))))) .ret)), [.tmp 4]⟩
theorem b165 : fnOf Go.Proofs.Tryz.prog (owOf []) 165 = some c165 := by kernel_rfl
def c192 : RFn := ⟨(.seq (rf (.o 4 (.move (.i 0)) .nil)) (.seq (.seq (rf (.o 6 (.m 0) (.o 7 (.len false (.t 6)) (.o 8 (.move (.i 0)) .nil)))) (.block 0 (.loop (.seq (rf (.o 9 (.bin .lss (.t 8) (.t 7)) .nil)) (.seq (.cond (.t 9) .skip (.exit 0)) (.seq (.block 1 (.seq (rf (.o 10 (.m 8) (.o 5 (.m 10) .nil))) (.seq (rf (.o 11 (.m 1) (.o 12 (.m 0) (.o 13 (.m 5) (.o 14 (.idxAddr 1 (.t 12) (.t 13)) (.o 15 (.load none (.t 14)) (.o 16 (.bin .eql (.t 11) (.t 15)) .nil))))))) (.cond (.t 16) (.seq (rf (.o 17 (.m 5) (.o 4 (.m 17) .nil))) .ret) .skip)))) (rf (.o 18 (.bin .add (.t 8) (.i 1)) (.o 8 (.m 18) .nil))))))))) (.seq (rf (.o 4 (.move (.c (.int .i64 (-1)))) .nil)) .ret))), [.tmp 4]⟩
theorem b192 : fnOf Go.Proofs.Tryz.prog (owOf []) 192 = some c192 := by kernel_rfl
def c196 : RFn := ⟨(.seq (rf (.o 1 (.box (.t 0)) (.o 2 (.move (.c (.lit []))) .nil))) (.seq (.seq (rf (.o 7 (.load (some 11) (.t 1)) (.o 8 (.call 168 [(.t 7)]) (.o 9 (.un .not (.t 8)) .nil)))) (.cond (.t 9) (.seq (rf (.o 2 (.move (.c (.lit []))) .nil)) .ret) .skip)) (.seq (rf (.o 3 (.move (.c (.lit []))) .nil)) (.seq (.seq (rf (.o 10 (.load (some 11) (.t 1)) (.o 11 (.call 215 [(.t 10), (.c (.str ⟨#[97]⟩))]) .nil))) (.cond (.t 11) (rf (.o 12 (.m 3) (.o 13 (.fieldAddr 3 (.t 1)) (.o 14 (.load none (.t 13)) (.o 15 (.bslice false 1 1 (.int .i64 0) [(0, (.t 14))]) (.o 16 (.append 1 (.int .i64 0) (.t 12) (.t 15)) (.o 3 (.m 16) .nil))))))) .skip)) (.seq (.seq (rf (.o 17 (.load (some 11) (.t 1)) (.o 18 (.call 215 [(.t 17), (.c (.str ⟨#[98]⟩))]) .nil))) (.cond (.t 18) (rf (.o 19 (.m 3) (.o 20 (.fieldAddr 4 (.t 1)) (.o 21 (.load none (.t 20)) (.o 22 (.bslice false 1 1 (.int .i64 0) [(0, (.t 21))]) (.o 23 (.append 1 (.int .i64 0) (.t 19) (.t 22)) (.o 3 (.m 23) .nil))))))) .skip)) (.seq (rf (.o 4 (.move (.c (.lit []))) .nil)) (.seq (.seq (rf (.o 24 (.m 3) (.o 25 (.fieldAddr 8 (.t 1)) (.o 26 (.fieldAddr 7 (.t 1)) (.o 27 (.load none (.t 26)) (.o 28 (.prim (.sliceArr 3 false true false) [(.t 25), (.t 27)]) (.o 29 (.append 1 (.int .i64 0) (.t 24) (.t 28)) (.o 30 (.len false (.t 29)) (.o 31 (.move (.i 0)) .nil))))))))) (.block 0 (.loop (.seq (rf (.o 32 (.bin .lss (.t 31) (.t 30)) .nil)) (.seq (.cond (.t 32) .skip (.exit 0)) (.seq (.block 1 (.seq (rf (.o 33 (.idxAddr 1 (.t 29) (.t 31)) (.o 34 (.load none (.t 33)) (.o 6 (.m 34) .nil)))) (.seq (rf (.o 35 (.m 4) (.o 36 (.m 6) (.o 37 (.call 165 [(.t 35), (.t 36)]) (.o 38 (.un .not (.t 37)) .nil))))) (.cond (.t 38) (rf (.o 39 (.m 4) (.o 40 (.m 6) (.o 41 (.bslice false 1 1 (.int .i64 0) [(0, (.t 40))]) (.o 42 (.append 1 (.int .i64 0) (.t 39) (.t 41)) (.o 4 (.m 42) .nil)))))) .skip)))) (rf (.o 43 (.bin .add (.t 31) (.i 1)) (.o 31 (.m 43) .nil))))))))) (.seq (rf (.o 44 (.m 4) (.o 2 (.m 44) .nil))) .ret)))))))), [.tmp 2]⟩
theorem b196 : fnOf Go.Proofs.Tryz.prog (owOf [(5, 3), (7, 3), (13, 2)]) 196 = some c196 := by kernel_rfl
theorem p_slContains {gl : Nat → Option PV} (l : List Int) (v : Int) (hl : l.length ≤ 100000) : Pure Go.Proofs.Tryz.prog gl 165 [.sl (l.map pint), .int .i64 v] (.bool (l.contains v)) := by
  have hi : Pure Go.Proofs.Tryz.prog gl 192 [.sl (l.map pint), .int .i64 v] (.int .i64 (ixOf l v)) := by
    refine Pure.fn hmix b192 ?_
    repeat' first | (with_reducible first | refine tr_seq ?_ | refine n_nil ?_ | refine seqQ_normal ?_ | refine seqQ_exit ?_ | refine seqQ_ret ?_ | refine blkQ_normal ?_ | refine blkQ_exit ?_ | refine blkQ_ret ?_ | refine tr_block ?_ | refine tr_skip ?_ | refine tr_exit ?_ | refine tr_ret ?_ | refine loopV_exit ?_ | refine loopV_ret ?_) | ((with_reducible refine tr_region_f ?_ ?_); kernel_rfl) | ((with_reducible apply tr_cond_e); rfl) | ((with_reducible apply n_idx_vals (0 : Int)); rfl; rfl; exact (fun _ => rfl); (((simp only [List.length_take, List.length_drop, PV.cells, zz, tab_length, List.length_append, List.length_set, List.length_replicate, List.length_cons, List.length_nil] at *; omega)))) | ((((with_reducible apply n_bin); rfl; rfl; focus ((with_reducible (apply b_add)) <;> omega)))) | (refine tr_loop_v (α := Nat) 0 (fun | k => [(8, some (.int .i64 (k : Int))), (9, none), (10, none), (5, none), (11, none), (12, none), (13, none), (14, none), (15, none), (16, none), (17, none), (4, none), (18, none)]) (fun | k => []) (fun | k => k ≤ l.length ∧ ∀ j, j < k → l.getD j 0 ≠ v) (fun | k => l.length - k) (0) (ks := [8, 9, 10, 5, 11, 12, 13, 14, 15, 16, 17, 4, 18]) (fun _ => rfl) (fun _ => rfl) rfl (by omega) ?_ ⟨⟨_, rfl, rfl⟩, trivial⟩ trivial ?_; rotate_left; rintro k hx; try dsimp only at hx) | (((refine loopV_normal ((k + 1)) ?_ ⟨⟨_, rfl, rfl⟩, trivial⟩ trivial ?_ ?_)); repeat (first | exact only_refl | refine only_put rfl ?_)) | ((with_reducible apply n_val); rfl; rfl) | (with_reducible refine condT_split (fun h => ?_) (fun h => ?_)) | ((with_reducible apply fnQ_ret_soft); rfl; rfl) | fail
    all_goals (try dsimp only at *)
    all_goals (try simp only [decide_eq_true_eq, decide_eq_false_iff_not, List.length_map, beq_iff_eq, beq_eq_false_iff_ne, ne_eq] at *)
    · rw [ixOf_at (by omega) h.symm hx.2]; rfl
    · omega
    · refine ⟨by omega, fun j hj => ?_⟩
      by_cases e : j = k
      · subst e; exact fun e => h e.symm
      · exact hx.2 j (by omega)
    · rw [ixOf_no fun j hj => hx.2 j (by omega)]
    · exact ⟨by omega, fun j hj => absurd hj (by omega)⟩
  refine Pure.fn hmix b165 ?_
  repeat' first | (with_reducible first | refine tr_seq ?_ | refine n_nil ?_ | refine seqQ_normal ?_ | refine tr_ret ?_) | ((with_reducible refine tr_region_f ?_ ?_); kernel_rfl) | ((with_reducible apply n_call (f := 192)); rfl; rfl; exact hi) | ((with_reducible apply n_val); rfl; rfl) | ((with_reducible apply fnQ_ret_soft); rfl; rfl) | fail
  exact congrArg PV.bool (ixOf_in l v)
theorem dd_t {o : List Int} {v : Int} (h : o.contains v = true) : dd o v = o := by rw [dd, if_pos h]
theorem dd_f {o : List Int} {v : Int} (h : o.contains v = false) : dd o v = o ++ [v] := by rw [dd, h]; rfl
theorem dedup_step {U : List Int} {k : Nat} (hk : k < U.length) : dedup (U.take (k + 1)) = dd (dedup (U.take k)) (U.getD k 0) := by
  rw [← take_snoc1 hk 0, dedup_snoc]
theorem dd_len (o : List Int) (v : Int) : (dd o v).length ≤ o.length + 1 := by
  unfold dd
  split <;> simp
theorem dedup_len (U : List Int) : (dedup U).length ≤ U.length := by
  suffices h : ∀ (l o : List Int), (l.foldl (fun o v => if o.contains v then o else o ++ [v]) o).length ≤ o.length + l.length by
    have := h U []
    simp only [List.length_nil, Nat.zero_add] at this
    exact this
  intro l
  induction l with
  | nil => intro o; simp
  | cons x l ih =>
    intro o
    have := ih (dd o x)
    have h2 := dd_len o x
    simp only [List.foldl_cons, List.length_cons]
    exact Nat.le_trans this (by omega)
theorem rawUses_len (i : In) : (rawUses i).length ≤ 5 := by
  unfold rawUses
  simp only [List.length_append, List.length_take, List.length_set, List.length_replicate, List.length_cons, List.length_nil]
  split <;> split <;> simp <;> omega
theorem f_Uses (i : In) (hf : form i = true) : Fresh Go.Proofs.Tryz.prog glD 196 [pI i] (.ref 2 (usesI i).length 0 (usesI i).length) (Hp.ofL [none, none, some ⟨(usesI i).length, 1, (usesI i).map pint⟩]) := by
  have d := p_hasD i
  have a := p_hasA i
  have b := p_hasB i
  have fm := p_Form i
  have hU : usesI i = dedup (rawUses i) := by rw [usesI, if_pos hf]
  have hl := rawUses_len i
  rw [hU]
  rw [hf] at fm
  have h0 := hf
  simp only [form, Bool.and_eq_true, decide_eq_true_eq] at h0
  have hk := h0.1.1.1.1.1
  have hn := h0.1.1.1.2
  have hb := h0.2
  clear hU hf h0
  have hz : i.kind ≠ 7 → i.n = 0 := by
    intro h7
    have := congrArg In.n hb
    simp only [bareI, hF, i0] at this
    simpa [h7] using this
  clear hb
  refine Fresh.fnL hmix b196 ?_
  obtain ⟨id, k, dst, va, vb, vc, vf, n, x, y, z⟩ := i
  simp only at hk hn hz d a b fm
  rcases (by omega : (k = 0 ∨ k = 6) ∨ (k = 1 ∨ k = 2 ∨ k = 8 ∨ k = 9) ∨ (k = 3 ∨ k = 4 ∨ k = 5) ∨ k = 7) with h | h | h | h7
  · obtain rfl : n = 0 := hz (by omega)
    rcases h with rfl | rfl
    all_goals
      repeat' first | (with_reducible first | refine tr_seq ?_ | refine n_nil ?_ | refine seqQ_normal ?_ | refine seqQ_exit ?_ | refine blkQ_normal ?_ | refine blkQ_exit ?_ | refine tr_block ?_ | refine tr_skip ?_ | refine tr_exit ?_ | refine tr_ret ?_ | refine loopV_exit ?_) | (refine tr_virt 3 1 1 rfl (by omega) rfl ?_) | ((with_reducible refine tr_region_f ?_ ?_); kernel_rfl) | ((with_reducible apply tr_cond_e); rfl) | ((with_reducible refine condT_F ?_ ?_); decide +kernel) | ((with_reducible apply n_call (f := 215)); rfl; rfl; (first | exact a | exact b)) | ((with_reducible apply n_call (f := 168)); rfl; rfl; exact fm) | ((with_reducible apply n_callb (f := 165)); rfl; exact softs_vals rfl (fun _ => rfl) rfl rfl; exact p_slContains _ _ (by have := dedup_len (([] : List Int).take j); have := List.length_take_le j ([] : List Int); simp only [List.length_set, List.length_replicate, List.length_cons, List.length_nil] at *; rw [hx.2.1]; omega); rfl) | ((with_reducible apply n_idx_own); rfl; rfl; rfl; (simp only [decide_eq_true_eq, List.length_map, List.length_append, List.length_set, List.length_replicate, List.length_cons, List.length_nil] at *; omega)) | ((with_reducible apply n_load_vals (f := pint) (xs := []) (0 : Int)); rfl; rfl; rfl; (simp only [decide_eq_true_eq, List.length_map, List.length_append, List.length_set, List.length_replicate, List.length_cons, List.length_nil, Int.toNat_natCast] at *; omega)) | ((with_reducible apply n_append_valsL (f := pint) (([] : List Int).getD j 0)); rfl; rfl; rfl; rfl; rfl; rfl; (have := dedup_len (([] : List Int).take j); have := List.length_take_le j ([] : List Int); simp only [List.length_set, List.length_replicate, List.length_cons, List.length_nil] at *; rw [hx.2.1]; omega); rfl) | ((((with_reducible apply n_bin); rfl; rfl; focus ((with_reducible (apply b_add)) <;> ((simp only [List.length_take, List.length_drop, PV.cells, zz, tab_length, List.length_append, List.length_set, List.length_replicate, List.length_cons, List.length_nil] at *; omega)))))) | (refine tr_virt 4 1 2 rfl (by omega) rfl ?_; refine tr_loop_v (α := Nat × Nat × List Int) 3 (fun | (j, g, o) => [(31, some (.int .i64 (j : Int))), (4, some (.ref 2 g 0 o.length)), (32, none), (33, none), (34, none), (6, none), (35, none), (36, none), (37, none), (38, none), (39, none), (40, none), (41, none), (42, none), (43, none)]) (fun | (j, g, o) => [none, some ⟨1, 1, ([] : List Int).map pint⟩, some ⟨g, 1, o.map pint⟩]) (fun | (j, g, o) => j ≤ ([] : List Int).length ∧ o = dedup (([] : List Int).take j) ∧ g = o.length) (fun | (j, g, o) => ([] : List Int).length - j) ((0, 0, [])) (ks := [31, 4, 32, 33, 34, 6, 35, 36, 37, 38, 39, 40, 41, 42, 43]) (fun _ => rfl) (fun _ => rfl) rfl (by omega) ?_ ⟨⟨_, rfl, rfl⟩, ⟨_, rfl, rfl⟩, trivial⟩ ⟨⟨_, rfl, rfl, rfl, (by exact fzP_eqp rfl rfl)⟩, ⟨_, rfl, rfl, rfl, (by exact fzP_eqp rfl rfl)⟩, trivial⟩ ?_; rotate_left; rintro ⟨j, g, o⟩ hx; try dsimp only at hx) | ((first | (refine loopV_normal ((j + 1, g, o)) ?_ ⟨⟨_, rfl, rfl⟩, ⟨_, rfl, rfl⟩, trivial⟩ ⟨⟨_, rfl, rfl, rfl, (by exact fzP_eqp rfl rfl)⟩, ⟨_, rfl, rfl, rfl, (by exact fzP_vals (fun _ => rfl) rfl)⟩, trivial⟩ ?_ ?_) | (refine loopV_normal ((j + 1, g + 1, o ++ [([] : List Int).getD j 0])) ?_ ⟨⟨_, rfl, rfl⟩, ⟨_, rfl, rfl⟩, trivial⟩ ⟨⟨_, rfl, rfl, rfl, (by exact fzP_eqp rfl rfl)⟩, ⟨_, rfl, rfl, rfl, (by exact fzP_vals (fun _ => rfl) rfl)⟩, trivial⟩ ?_ ?_)); repeat (first | exact only_refl | refine only_put rfl ?_)) | ((with_reducible apply n_val); rfl; rfl) | ((with_reducible apply n_new); rfl; (((simp only [hn0, hn1, hn2, hn3, hn4, hn5, List.length_cons, List.length_nil, Nat.reduceAdd, Nat.zero_add]; rfl))); rfl) | ((with_reducible apply n_append); rfl; rfl; rfl; rfl; rfl; rfl; (decide); rfl) | (with_reducible refine condT_split (fun h => ?_) (fun h => ?_)) | ((with_reducible apply fnQ_told_ret); rfl) | fail
      all_goals (try dsimp only at *)
      all_goals (try simp only [decide_eq_true_eq, decide_eq_false_iff_not, Bool.not_eq_true', Bool.not_eq_false', List.length_append, List.length_set, List.length_replicate, List.length_cons, List.length_nil, Int.toNat_natCast] at *)
      · omega
      · obtain ⟨h1, h2, h3⟩ := hx
        refine ⟨by omega, ?_, by omega⟩
        rw [dedup_step (by simp only [List.length_set, List.length_replicate, List.length_cons, List.length_nil]; omega), ← h2, dd_f (by assumption)]
      · omega
      · obtain ⟨h1, h2, h3⟩ := hx
        refine ⟨by omega, ?_, by omega⟩
        rw [dedup_step (by simp only [List.length_set, List.length_replicate, List.length_cons, List.length_nil]; omega), ← h2, dd_t (by assumption)]
      · obtain rfl : j = 0 := by omega
        obtain ⟨_, rfl, rfl⟩ := hx
        rfl
      · obtain rfl : j = 0 := by omega
        obtain ⟨_, rfl, rfl⟩ := hx
        exact ⟨⟨_, rfl, rfl, rfl, fzP_vals (fun _ => rfl) rfl⟩, trivial⟩
      · (first | exact ⟨by omega, rfl, rfl⟩ | exact ⟨by omega, rfl, trivial⟩)
  · obtain rfl : n = 0 := hz (by omega)
    rcases h with rfl | rfl | rfl | rfl
    all_goals
      repeat' first | (with_reducible first | refine tr_seq ?_ | refine n_nil ?_ | refine seqQ_normal ?_ | refine seqQ_exit ?_ | refine blkQ_normal ?_ | refine blkQ_exit ?_ | refine tr_block ?_ | refine tr_skip ?_ | refine tr_exit ?_ | refine tr_ret ?_ | refine loopV_exit ?_) | (refine tr_virt 3 1 1 rfl (by omega) rfl ?_) | ((with_reducible refine tr_region_f ?_ ?_); kernel_rfl) | ((with_reducible apply tr_cond_e); rfl) | ((with_reducible refine condT_T ?_ ?_); decide +kernel) | ((with_reducible refine condT_F ?_ ?_); decide +kernel) | ((with_reducible apply n_call (f := 215)); rfl; rfl; (first | exact a | exact b)) | ((with_reducible apply n_call (f := 168)); rfl; rfl; exact fm) | ((with_reducible apply n_callb (f := 165)); rfl; exact softs_vals rfl (fun _ => rfl) rfl rfl; exact p_slContains _ _ (by have := dedup_len (([va] : List Int).take j); have := List.length_take_le j ([va] : List Int); simp only [List.length_set, List.length_replicate, List.length_cons, List.length_nil] at *; rw [hx.2.1]; omega); rfl) | ((with_reducible apply n_idx_own); rfl; rfl; rfl; (simp only [decide_eq_true_eq, List.length_map, List.length_append, List.length_set, List.length_replicate, List.length_cons, List.length_nil] at *; omega)) | ((with_reducible apply n_load_vals (f := pint) (xs := [va]) (0 : Int)); rfl; rfl; rfl; (simp only [decide_eq_true_eq, List.length_map, List.length_append, List.length_set, List.length_replicate, List.length_cons, List.length_nil, Int.toNat_natCast] at *; omega)) | ((with_reducible apply n_append_valsL (f := pint) (([va] : List Int).getD j 0)); rfl; rfl; rfl; rfl; rfl; rfl; (have := dedup_len (([va] : List Int).take j); have := List.length_take_le j ([va] : List Int); simp only [List.length_set, List.length_replicate, List.length_cons, List.length_nil] at *; rw [hx.2.1]; omega); rfl) | ((((with_reducible apply n_bin); rfl; rfl; focus ((with_reducible (apply b_add)) <;> ((simp only [List.length_take, List.length_drop, PV.cells, zz, tab_length, List.length_append, List.length_set, List.length_replicate, List.length_cons, List.length_nil] at *; omega)))))) | (refine tr_virt 4 1 2 rfl (by omega) rfl ?_; refine tr_loop_v (α := Nat × Nat × List Int) 3 (fun | (j, g, o) => [(31, some (.int .i64 (j : Int))), (4, some (.ref 2 g 0 o.length)), (32, none), (33, none), (34, none), (6, none), (35, none), (36, none), (37, none), (38, none), (39, none), (40, none), (41, none), (42, none), (43, none)]) (fun | (j, g, o) => [none, some ⟨2, 1, ([va] : List Int).map pint⟩, some ⟨g, 1, o.map pint⟩]) (fun | (j, g, o) => j ≤ ([va] : List Int).length ∧ o = dedup (([va] : List Int).take j) ∧ g = o.length) (fun | (j, g, o) => ([va] : List Int).length - j) ((0, 0, [])) (ks := [31, 4, 32, 33, 34, 6, 35, 36, 37, 38, 39, 40, 41, 42, 43]) (fun _ => rfl) (fun _ => rfl) rfl (by omega) ?_ ⟨⟨_, rfl, rfl⟩, ⟨_, rfl, rfl⟩, trivial⟩ ⟨⟨_, rfl, rfl, rfl, (by exact fzP_eqp rfl rfl)⟩, ⟨_, rfl, rfl, rfl, (by exact fzP_eqp rfl rfl)⟩, trivial⟩ ?_; rotate_left; rintro ⟨j, g, o⟩ hx; try dsimp only at hx) | ((first | (refine loopV_normal ((j + 1, g, o)) ?_ ⟨⟨_, rfl, rfl⟩, ⟨_, rfl, rfl⟩, trivial⟩ ⟨⟨_, rfl, rfl, rfl, (by exact fzP_eqp rfl rfl)⟩, ⟨_, rfl, rfl, rfl, (by exact fzP_vals (fun _ => rfl) rfl)⟩, trivial⟩ ?_ ?_) | (refine loopV_normal ((j + 1, g + 1, o ++ [([va] : List Int).getD j 0])) ?_ ⟨⟨_, rfl, rfl⟩, ⟨_, rfl, rfl⟩, trivial⟩ ⟨⟨_, rfl, rfl, rfl, (by exact fzP_eqp rfl rfl)⟩, ⟨_, rfl, rfl, rfl, (by exact fzP_vals (fun _ => rfl) rfl)⟩, trivial⟩ ?_ ?_)); repeat (first | exact only_refl | refine only_put rfl ?_)) | ((with_reducible apply n_val); rfl; rfl) | ((with_reducible apply n_new); rfl; (((simp only [hn0, hn1, hn2, hn3, hn4, hn5, List.length_cons, List.length_nil, Nat.reduceAdd, Nat.zero_add]; rfl))); rfl) | ((with_reducible apply n_append); rfl; rfl; rfl; rfl; rfl; rfl; (((simp only [List.length_append, List.length_cons, List.length_nil, List.length_set, List.length_replicate, ints_length] at *; omega))); rfl) | (with_reducible refine condT_split (fun h => ?_) (fun h => ?_)) | ((with_reducible apply fnQ_told_ret); rfl) | fail
      all_goals (try dsimp only at *)
      all_goals (try simp only [decide_eq_true_eq, decide_eq_false_iff_not, Bool.not_eq_true', Bool.not_eq_false', List.length_append, List.length_set, List.length_replicate, List.length_cons, List.length_nil, Int.toNat_natCast] at *)
      · omega
      · obtain ⟨h1, h2, h3⟩ := hx
        refine ⟨by omega, ?_, by omega⟩
        rw [dedup_step (by simp only [List.length_set, List.length_replicate, List.length_cons, List.length_nil]; omega), ← h2, dd_f (by assumption)]
      · omega
      · obtain ⟨h1, h2, h3⟩ := hx
        refine ⟨by omega, ?_, by omega⟩
        rw [dedup_step (by simp only [List.length_set, List.length_replicate, List.length_cons, List.length_nil]; omega), ← h2, dd_t (by assumption)]
      · obtain rfl : j = 1 := by omega
        obtain ⟨_, rfl, rfl⟩ := hx
        rfl
      · obtain rfl : j = 1 := by omega
        obtain ⟨_, rfl, rfl⟩ := hx
        exact ⟨⟨_, rfl, rfl, rfl, fzP_vals (fun _ => rfl) rfl⟩, trivial⟩
      · (first | exact ⟨by omega, rfl, rfl⟩ | exact ⟨by omega, rfl, trivial⟩)
  · obtain rfl : n = 0 := hz (by omega)
    rcases h with rfl | rfl | rfl
    all_goals
      repeat' first | (with_reducible first | refine tr_seq ?_ | refine n_nil ?_ | refine seqQ_normal ?_ | refine seqQ_exit ?_ | refine blkQ_normal ?_ | refine blkQ_exit ?_ | refine tr_block ?_ | refine tr_skip ?_ | refine tr_exit ?_ | refine tr_ret ?_ | refine loopV_exit ?_) | (refine tr_virt 3 1 1 rfl (by omega) rfl ?_) | ((with_reducible refine tr_region_f ?_ ?_); kernel_rfl) | ((with_reducible apply tr_cond_e); rfl) | ((with_reducible refine condT_T ?_ ?_); decide +kernel) | ((with_reducible refine condT_F ?_ ?_); decide +kernel) | ((with_reducible apply n_call (f := 215)); rfl; rfl; (first | exact a | exact b)) | ((with_reducible apply n_call (f := 168)); rfl; rfl; exact fm) | ((with_reducible apply n_callb (f := 165)); rfl; exact softs_vals rfl (fun _ => rfl) rfl rfl; exact p_slContains _ _ (by have := dedup_len (([va, vb] : List Int).take j); have := List.length_take_le j ([va, vb] : List Int); simp only [List.length_set, List.length_replicate, List.length_cons, List.length_nil] at *; rw [hx.2.1]; omega); rfl) | ((with_reducible apply n_idx_own); rfl; rfl; rfl; (simp only [decide_eq_true_eq, List.length_map, List.length_append, List.length_set, List.length_replicate, List.length_cons, List.length_nil] at *; omega)) | ((with_reducible apply n_load_vals (f := pint) (xs := [va, vb]) (0 : Int)); rfl; rfl; rfl; (simp only [decide_eq_true_eq, List.length_map, List.length_append, List.length_set, List.length_replicate, List.length_cons, List.length_nil, Int.toNat_natCast] at *; omega)) | ((with_reducible apply n_append_valsL (f := pint) (([va, vb] : List Int).getD j 0)); rfl; rfl; rfl; rfl; rfl; rfl; (have := dedup_len (([va, vb] : List Int).take j); have := List.length_take_le j ([va, vb] : List Int); simp only [List.length_set, List.length_replicate, List.length_cons, List.length_nil] at *; rw [hx.2.1]; omega); rfl) | ((((with_reducible apply n_bin); rfl; rfl; focus ((with_reducible (apply b_add)) <;> ((simp only [List.length_take, List.length_drop, PV.cells, zz, tab_length, List.length_append, List.length_set, List.length_replicate, List.length_cons, List.length_nil] at *; omega)))))) | (refine tr_virt 4 1 2 rfl (by omega) rfl ?_; refine tr_loop_v (α := Nat × Nat × List Int) 3 (fun | (j, g, o) => [(31, some (.int .i64 (j : Int))), (4, some (.ref 2 g 0 o.length)), (32, none), (33, none), (34, none), (6, none), (35, none), (36, none), (37, none), (38, none), (39, none), (40, none), (41, none), (42, none), (43, none)]) (fun | (j, g, o) => [none, some ⟨3, 1, ([va, vb] : List Int).map pint⟩, some ⟨g, 1, o.map pint⟩]) (fun | (j, g, o) => j ≤ ([va, vb] : List Int).length ∧ o = dedup (([va, vb] : List Int).take j) ∧ g = o.length) (fun | (j, g, o) => ([va, vb] : List Int).length - j) ((0, 0, [])) (ks := [31, 4, 32, 33, 34, 6, 35, 36, 37, 38, 39, 40, 41, 42, 43]) (fun _ => rfl) (fun _ => rfl) rfl (by omega) ?_ ⟨⟨_, rfl, rfl⟩, ⟨_, rfl, rfl⟩, trivial⟩ ⟨⟨_, rfl, rfl, rfl, (by exact fzP_eqp rfl rfl)⟩, ⟨_, rfl, rfl, rfl, (by exact fzP_eqp rfl rfl)⟩, trivial⟩ ?_; rotate_left; rintro ⟨j, g, o⟩ hx; try dsimp only at hx) | ((first | (refine loopV_normal ((j + 1, g, o)) ?_ ⟨⟨_, rfl, rfl⟩, ⟨_, rfl, rfl⟩, trivial⟩ ⟨⟨_, rfl, rfl, rfl, (by exact fzP_eqp rfl rfl)⟩, ⟨_, rfl, rfl, rfl, (by exact fzP_vals (fun _ => rfl) rfl)⟩, trivial⟩ ?_ ?_) | (refine loopV_normal ((j + 1, g + 1, o ++ [([va, vb] : List Int).getD j 0])) ?_ ⟨⟨_, rfl, rfl⟩, ⟨_, rfl, rfl⟩, trivial⟩ ⟨⟨_, rfl, rfl, rfl, (by exact fzP_eqp rfl rfl)⟩, ⟨_, rfl, rfl, rfl, (by exact fzP_vals (fun _ => rfl) rfl)⟩, trivial⟩ ?_ ?_)); repeat (first | exact only_refl | refine only_put rfl ?_)) | ((with_reducible apply n_val); rfl; rfl) | ((with_reducible apply n_new); rfl; (((simp only [hn0, hn1, hn2, hn3, hn4, hn5, List.length_cons, List.length_nil, Nat.reduceAdd, Nat.zero_add]; rfl))); rfl) | ((with_reducible apply n_append); rfl; rfl; rfl; rfl; rfl; rfl; (((simp only [List.length_append, List.length_cons, List.length_nil, List.length_set, List.length_replicate, ints_length] at *; omega))); rfl) | (with_reducible refine condT_split (fun h => ?_) (fun h => ?_)) | ((with_reducible apply fnQ_told_ret); rfl) | fail
      all_goals (try dsimp only at *)
      all_goals (try simp only [decide_eq_true_eq, decide_eq_false_iff_not, Bool.not_eq_true', Bool.not_eq_false', List.length_append, List.length_set, List.length_replicate, List.length_cons, List.length_nil, Int.toNat_natCast] at *)
      · omega
      · obtain ⟨h1, h2, h3⟩ := hx
        refine ⟨by omega, ?_, by omega⟩
        rw [dedup_step (by simp only [List.length_set, List.length_replicate, List.length_cons, List.length_nil]; omega), ← h2, dd_f (by assumption)]
      · omega
      · obtain ⟨h1, h2, h3⟩ := hx
        refine ⟨by omega, ?_, by omega⟩
        rw [dedup_step (by simp only [List.length_set, List.length_replicate, List.length_cons, List.length_nil]; omega), ← h2, dd_t (by assumption)]
      · obtain rfl : j = 2 := by omega
        obtain ⟨_, rfl, rfl⟩ := hx
        rfl
      · obtain rfl : j = 2 := by omega
        obtain ⟨_, rfl, rfl⟩ := hx
        exact ⟨⟨_, rfl, rfl, rfl, fzP_vals (fun _ => rfl) rfl⟩, trivial⟩
      · (first | exact ⟨by omega, rfl, rfl⟩ | exact ⟨by omega, rfl, trivial⟩)
  · subst h7
    rcases (by omega : n = 0 ∨ n = 1 ∨ n = 2 ∨ n = 3) with rfl | rfl | rfl | rfl
    · repeat' first | (with_reducible first | refine tr_seq ?_ | refine n_nil ?_ | refine seqQ_normal ?_ | refine seqQ_exit ?_ | refine blkQ_normal ?_ | refine blkQ_exit ?_ | refine tr_block ?_ | refine tr_skip ?_ | refine tr_exit ?_ | refine tr_ret ?_ | refine loopV_exit ?_) | (refine tr_virt 3 1 1 rfl (by omega) rfl ?_) | ((with_reducible refine tr_region_f ?_ ?_); kernel_rfl) | ((with_reducible apply tr_cond_e); rfl) | ((with_reducible refine condT_F ?_ ?_); decide +kernel) | ((with_reducible apply n_call (f := 215)); rfl; rfl; (first | exact a | exact b)) | ((with_reducible apply n_call (f := 168)); rfl; rfl; exact fm) | ((with_reducible apply n_callb (f := 165)); rfl; exact softs_vals rfl (fun _ => rfl) rfl rfl; exact p_slContains _ _ (by have := dedup_len (([] : List Int).take j); have := List.length_take_le j ([] : List Int); simp only [List.length_take, List.length_drop, PV.cells, List.length_set, List.length_replicate, List.length_cons, List.length_nil] at *; rw [hx.2.1]; omega); rfl) | ((with_reducible apply n_idx_own); rfl; rfl; rfl; (simp only [decide_eq_true_eq, List.length_map, List.length_append, List.length_take, List.length_drop, PV.cells, List.length_set, List.length_replicate, List.length_cons, List.length_nil] at *; omega)) | ((with_reducible apply n_load_vals (f := pint) (xs := []) (0 : Int)); rfl; rfl; rfl; (simp only [decide_eq_true_eq, List.length_map, List.length_append, List.length_take, List.length_drop, PV.cells, List.length_set, List.length_replicate, List.length_cons, List.length_nil, Int.toNat_natCast] at *; omega)) | ((with_reducible apply n_append_valsL (f := pint) (([] : List Int).getD j 0)); rfl; rfl; rfl; rfl; rfl; rfl; (have := dedup_len (([] : List Int).take j); have := List.length_take_le j ([] : List Int); simp only [List.length_take, List.length_drop, PV.cells, List.length_set, List.length_replicate, List.length_cons, List.length_nil] at *; rw [hx.2.1]; omega); rfl) | ((((with_reducible apply n_bin); rfl; rfl; focus ((with_reducible (apply b_add)) <;> ((simp only [List.length_take, List.length_drop, PV.cells, zz, tab_length, List.length_append, List.length_set, List.length_replicate, List.length_cons, List.length_nil] at *; omega)))))) | (refine tr_virt 4 1 2 rfl (by omega) rfl ?_; refine tr_loop_v (α := Nat × Nat × List Int) 3 (fun | (j, g, o) => [(31, some (.int .i64 (j : Int))), (4, some (.ref 2 g 0 o.length)), (32, none), (33, none), (34, none), (6, none), (35, none), (36, none), (37, none), (38, none), (39, none), (40, none), (41, none), (42, none), (43, none)]) (fun | (j, g, o) => [none, some ⟨1, 1, ([] : List Int).map pint⟩, some ⟨g, 1, o.map pint⟩]) (fun | (j, g, o) => j ≤ ([] : List Int).length ∧ o = dedup (([] : List Int).take j) ∧ g = o.length) (fun | (j, g, o) => ([] : List Int).length - j) ((0, 0, [])) (ks := [31, 4, 32, 33, 34, 6, 35, 36, 37, 38, 39, 40, 41, 42, 43]) (fun _ => rfl) (fun _ => rfl) rfl (by omega) ?_ ⟨⟨_, rfl, rfl⟩, ⟨_, rfl, rfl⟩, trivial⟩ ⟨⟨_, rfl, rfl, rfl, (by exact fzP_eqp rfl rfl)⟩, ⟨_, rfl, rfl, rfl, (by exact fzP_eqp rfl rfl)⟩, trivial⟩ ?_; rotate_left; rintro ⟨j, g, o⟩ hx; try dsimp only at hx) | ((first | (refine loopV_normal ((j + 1, g, o)) ?_ ⟨⟨_, rfl, rfl⟩, ⟨_, rfl, rfl⟩, trivial⟩ ⟨⟨_, rfl, rfl, rfl, (by exact fzP_eqp rfl rfl)⟩, ⟨_, rfl, rfl, rfl, (by exact fzP_vals (fun _ => rfl) rfl)⟩, trivial⟩ ?_ ?_) | (refine loopV_normal ((j + 1, g + 1, o ++ [([] : List Int).getD j 0])) ?_ ⟨⟨_, rfl, rfl⟩, ⟨_, rfl, rfl⟩, trivial⟩ ⟨⟨_, rfl, rfl, rfl, (by exact fzP_eqp rfl rfl)⟩, ⟨_, rfl, rfl, rfl, (by exact fzP_vals (fun _ => rfl) rfl)⟩, trivial⟩ ?_ ?_)); repeat (first | exact only_refl | refine only_put rfl ?_)) | ((with_reducible apply n_val); rfl; rfl) | ((with_reducible apply n_new); rfl; (((simp only [hn0, hn1, hn2, hn3, hn4, hn5, List.length_cons, List.length_nil, Nat.reduceAdd, Nat.zero_add]; rfl))); rfl) | ((with_reducible apply n_append); rfl; rfl; rfl; rfl; rfl; rfl; (decide); rfl) | (with_reducible refine condT_split (fun h => ?_) (fun h => ?_)) | ((with_reducible apply fnQ_told_ret); rfl) | fail
      all_goals (try dsimp only at *)
      all_goals (try simp only [decide_eq_true_eq, decide_eq_false_iff_not, Bool.not_eq_true', Bool.not_eq_false', List.length_append, List.length_take, List.length_drop, PV.cells, List.length_set, List.length_replicate, List.length_cons, List.length_nil, Int.toNat_natCast] at *)
      · omega
      · obtain ⟨h1, h2, h3⟩ := hx
        refine ⟨by omega, ?_, by omega⟩
        rw [dedup_step (by simp only [List.length_take, List.length_drop, PV.cells, List.length_set, List.length_replicate, List.length_cons, List.length_nil]; omega), ← h2, dd_f (by assumption)]
      · omega
      · obtain ⟨h1, h2, h3⟩ := hx
        refine ⟨by omega, ?_, by omega⟩
        rw [dedup_step (by simp only [List.length_take, List.length_drop, PV.cells, List.length_set, List.length_replicate, List.length_cons, List.length_nil]; omega), ← h2, dd_t (by assumption)]
      · obtain rfl : j = 0 := by omega
        obtain ⟨_, rfl, rfl⟩ := hx
        rfl
      · obtain rfl : j = 0 := by omega
        obtain ⟨_, rfl, rfl⟩ := hx
        exact ⟨⟨_, rfl, rfl, rfl, fzP_vals (fun _ => rfl) rfl⟩, trivial⟩
      · (first | exact ⟨by omega, rfl, rfl⟩ | exact ⟨by omega, rfl, trivial⟩)
    · repeat' first | (with_reducible first | refine tr_seq ?_ | refine n_nil ?_ | refine seqQ_normal ?_ | refine seqQ_exit ?_ | refine blkQ_normal ?_ | refine blkQ_exit ?_ | refine tr_block ?_ | refine tr_skip ?_ | refine tr_exit ?_ | refine tr_ret ?_ | refine loopV_exit ?_) | (refine tr_virt 3 1 1 rfl (by omega) rfl ?_) | ((with_reducible refine tr_region_f ?_ ?_); kernel_rfl) | ((with_reducible apply tr_cond_e); rfl) | ((with_reducible refine condT_F ?_ ?_); decide +kernel) | ((with_reducible apply n_call (f := 215)); rfl; rfl; (first | exact a | exact b)) | ((with_reducible apply n_call (f := 168)); rfl; rfl; exact fm) | ((with_reducible apply n_callb (f := 165)); rfl; exact softs_vals rfl (fun _ => rfl) rfl rfl; exact p_slContains _ _ (by have := dedup_len (([x] : List Int).take j); have := List.length_take_le j ([x] : List Int); simp only [List.length_take, List.length_drop, PV.cells, List.length_set, List.length_replicate, List.length_cons, List.length_nil] at *; rw [hx.2.1]; omega); rfl) | ((with_reducible apply n_idx_own); rfl; rfl; rfl; (simp only [decide_eq_true_eq, List.length_map, List.length_append, List.length_take, List.length_drop, PV.cells, List.length_set, List.length_replicate, List.length_cons, List.length_nil] at *; omega)) | ((with_reducible apply n_load_vals (f := pint) (xs := [x]) (0 : Int)); rfl; rfl; rfl; (simp only [decide_eq_true_eq, List.length_map, List.length_append, List.length_take, List.length_drop, PV.cells, List.length_set, List.length_replicate, List.length_cons, List.length_nil, Int.toNat_natCast] at *; omega)) | ((with_reducible apply n_append_valsL (f := pint) (([x] : List Int).getD j 0)); rfl; rfl; rfl; rfl; rfl; rfl; (have := dedup_len (([x] : List Int).take j); have := List.length_take_le j ([x] : List Int); simp only [List.length_take, List.length_drop, PV.cells, List.length_set, List.length_replicate, List.length_cons, List.length_nil] at *; rw [hx.2.1]; omega); rfl) | ((((with_reducible apply n_bin); rfl; rfl; focus ((with_reducible (apply b_add)) <;> ((simp only [List.length_take, List.length_drop, PV.cells, zz, tab_length, List.length_append, List.length_set, List.length_replicate, List.length_cons, List.length_nil] at *; omega)))))) | (refine tr_virt 4 1 2 rfl (by omega) rfl ?_; refine tr_loop_v (α := Nat × Nat × List Int) 3 (fun | (j, g, o) => [(31, some (.int .i64 (j : Int))), (4, some (.ref 2 g 0 o.length)), (32, none), (33, none), (34, none), (6, none), (35, none), (36, none), (37, none), (38, none), (39, none), (40, none), (41, none), (42, none), (43, none)]) (fun | (j, g, o) => [none, some ⟨1, 1, ([x] : List Int).map pint⟩, some ⟨g, 1, o.map pint⟩]) (fun | (j, g, o) => j ≤ ([x] : List Int).length ∧ o = dedup (([x] : List Int).take j) ∧ g = o.length) (fun | (j, g, o) => ([x] : List Int).length - j) ((0, 0, [])) (ks := [31, 4, 32, 33, 34, 6, 35, 36, 37, 38, 39, 40, 41, 42, 43]) (fun _ => rfl) (fun _ => rfl) rfl (by omega) ?_ ⟨⟨_, rfl, rfl⟩, ⟨_, rfl, rfl⟩, trivial⟩ ⟨⟨_, rfl, rfl, rfl, (by exact fzP_eqp rfl rfl)⟩, ⟨_, rfl, rfl, rfl, (by exact fzP_eqp rfl rfl)⟩, trivial⟩ ?_; rotate_left; rintro ⟨j, g, o⟩ hx; try dsimp only at hx) | ((first | (refine loopV_normal ((j + 1, g, o)) ?_ ⟨⟨_, rfl, rfl⟩, ⟨_, rfl, rfl⟩, trivial⟩ ⟨⟨_, rfl, rfl, rfl, (by exact fzP_eqp rfl rfl)⟩, ⟨_, rfl, rfl, rfl, (by exact fzP_vals (fun _ => rfl) rfl)⟩, trivial⟩ ?_ ?_) | (refine loopV_normal ((j + 1, g + 1, o ++ [([x] : List Int).getD j 0])) ?_ ⟨⟨_, rfl, rfl⟩, ⟨_, rfl, rfl⟩, trivial⟩ ⟨⟨_, rfl, rfl, rfl, (by exact fzP_eqp rfl rfl)⟩, ⟨_, rfl, rfl, rfl, (by exact fzP_vals (fun _ => rfl) rfl)⟩, trivial⟩ ?_ ?_)); repeat (first | exact only_refl | refine only_put rfl ?_)) | ((with_reducible apply n_val); rfl; rfl) | ((with_reducible apply n_new); rfl; (((simp only [hn0, hn1, hn2, hn3, hn4, hn5, List.length_cons, List.length_nil, Nat.reduceAdd, Nat.zero_add]; rfl))); rfl) | ((with_reducible apply n_append); rfl; rfl; rfl; rfl; rfl; rfl; (((simp only [List.length_append, List.length_take, List.length_drop, PV.cells, List.length_set, List.length_replicate, List.length_cons, List.length_nil, List.length_take]; omega))); rfl) | (with_reducible refine condT_split (fun h => ?_) (fun h => ?_)) | ((with_reducible apply fnQ_told_ret); rfl) | fail
      all_goals (try dsimp only at *)
      all_goals (try simp only [decide_eq_true_eq, decide_eq_false_iff_not, Bool.not_eq_true', Bool.not_eq_false', List.length_append, List.length_take, List.length_drop, PV.cells, List.length_set, List.length_replicate, List.length_cons, List.length_nil, Int.toNat_natCast] at *)
      · omega
      · obtain ⟨h1, h2, h3⟩ := hx
        refine ⟨by omega, ?_, by omega⟩
        rw [dedup_step (by simp only [List.length_take, List.length_drop, PV.cells, List.length_set, List.length_replicate, List.length_cons, List.length_nil]; omega), ← h2, dd_f (by assumption)]
      · omega
      · obtain ⟨h1, h2, h3⟩ := hx
        refine ⟨by omega, ?_, by omega⟩
        rw [dedup_step (by simp only [List.length_take, List.length_drop, PV.cells, List.length_set, List.length_replicate, List.length_cons, List.length_nil]; omega), ← h2, dd_t (by assumption)]
      · obtain rfl : j = 1 := by omega
        obtain ⟨_, rfl, rfl⟩ := hx
        rfl
      · obtain rfl : j = 1 := by omega
        obtain ⟨_, rfl, rfl⟩ := hx
        exact ⟨⟨_, rfl, rfl, rfl, fzP_vals (fun _ => rfl) rfl⟩, trivial⟩
      · (first | exact ⟨by omega, rfl, rfl⟩ | exact ⟨by omega, rfl, trivial⟩)
    · repeat' first | (with_reducible first | refine tr_seq ?_ | refine n_nil ?_ | refine seqQ_normal ?_ | refine seqQ_exit ?_ | refine blkQ_normal ?_ | refine blkQ_exit ?_ | refine tr_block ?_ | refine tr_skip ?_ | refine tr_exit ?_ | refine tr_ret ?_ | refine loopV_exit ?_) | (refine tr_virt 3 1 1 rfl (by omega) rfl ?_) | ((with_reducible refine tr_region_f ?_ ?_); kernel_rfl) | ((with_reducible apply tr_cond_e); rfl) | ((with_reducible refine condT_F ?_ ?_); decide +kernel) | ((with_reducible apply n_call (f := 215)); rfl; rfl; (first | exact a | exact b)) | ((with_reducible apply n_call (f := 168)); rfl; rfl; exact fm) | ((with_reducible apply n_callb (f := 165)); rfl; exact softs_vals rfl (fun _ => rfl) rfl rfl; exact p_slContains _ _ (by have := dedup_len (([x, y] : List Int).take j); have := List.length_take_le j ([x, y] : List Int); simp only [List.length_take, List.length_drop, PV.cells, List.length_set, List.length_replicate, List.length_cons, List.length_nil] at *; rw [hx.2.1]; omega); rfl) | ((with_reducible apply n_idx_own); rfl; rfl; rfl; (simp only [decide_eq_true_eq, List.length_map, List.length_append, List.length_take, List.length_drop, PV.cells, List.length_set, List.length_replicate, List.length_cons, List.length_nil] at *; omega)) | ((with_reducible apply n_load_vals (f := pint) (xs := [x, y]) (0 : Int)); rfl; rfl; rfl; (simp only [decide_eq_true_eq, List.length_map, List.length_append, List.length_take, List.length_drop, PV.cells, List.length_set, List.length_replicate, List.length_cons, List.length_nil, Int.toNat_natCast] at *; omega)) | ((with_reducible apply n_append_valsL (f := pint) (([x, y] : List Int).getD j 0)); rfl; rfl; rfl; rfl; rfl; rfl; (have := dedup_len (([x, y] : List Int).take j); have := List.length_take_le j ([x, y] : List Int); simp only [List.length_take, List.length_drop, PV.cells, List.length_set, List.length_replicate, List.length_cons, List.length_nil] at *; rw [hx.2.1]; omega); rfl) | ((((with_reducible apply n_bin); rfl; rfl; focus ((with_reducible (apply b_add)) <;> ((simp only [List.length_take, List.length_drop, PV.cells, zz, tab_length, List.length_append, List.length_set, List.length_replicate, List.length_cons, List.length_nil] at *; omega)))))) | (refine tr_virt 4 1 2 rfl (by omega) rfl ?_; refine tr_loop_v (α := Nat × Nat × List Int) 3 (fun | (j, g, o) => [(31, some (.int .i64 (j : Int))), (4, some (.ref 2 g 0 o.length)), (32, none), (33, none), (34, none), (6, none), (35, none), (36, none), (37, none), (38, none), (39, none), (40, none), (41, none), (42, none), (43, none)]) (fun | (j, g, o) => [none, some ⟨1, 1, ([x, y] : List Int).map pint⟩, some ⟨g, 1, o.map pint⟩]) (fun | (j, g, o) => j ≤ ([x, y] : List Int).length ∧ o = dedup (([x, y] : List Int).take j) ∧ g = o.length) (fun | (j, g, o) => ([x, y] : List Int).length - j) ((0, 0, [])) (ks := [31, 4, 32, 33, 34, 6, 35, 36, 37, 38, 39, 40, 41, 42, 43]) (fun _ => rfl) (fun _ => rfl) rfl (by omega) ?_ ⟨⟨_, rfl, rfl⟩, ⟨_, rfl, rfl⟩, trivial⟩ ⟨⟨_, rfl, rfl, rfl, (by exact fzP_eqp rfl rfl)⟩, ⟨_, rfl, rfl, rfl, (by exact fzP_eqp rfl rfl)⟩, trivial⟩ ?_; rotate_left; rintro ⟨j, g, o⟩ hx; try dsimp only at hx) | ((first | (refine loopV_normal ((j + 1, g, o)) ?_ ⟨⟨_, rfl, rfl⟩, ⟨_, rfl, rfl⟩, trivial⟩ ⟨⟨_, rfl, rfl, rfl, (by exact fzP_eqp rfl rfl)⟩, ⟨_, rfl, rfl, rfl, (by exact fzP_vals (fun _ => rfl) rfl)⟩, trivial⟩ ?_ ?_) | (refine loopV_normal ((j + 1, g + 1, o ++ [([x, y] : List Int).getD j 0])) ?_ ⟨⟨_, rfl, rfl⟩, ⟨_, rfl, rfl⟩, trivial⟩ ⟨⟨_, rfl, rfl, rfl, (by exact fzP_eqp rfl rfl)⟩, ⟨_, rfl, rfl, rfl, (by exact fzP_vals (fun _ => rfl) rfl)⟩, trivial⟩ ?_ ?_)); repeat (first | exact only_refl | refine only_put rfl ?_)) | ((with_reducible apply n_val); rfl; rfl) | ((with_reducible apply n_new); rfl; (((simp only [hn0, hn1, hn2, hn3, hn4, hn5, List.length_cons, List.length_nil, Nat.reduceAdd, Nat.zero_add]; rfl))); rfl) | ((with_reducible apply n_append); rfl; rfl; rfl; rfl; rfl; rfl; (((simp only [List.length_append, List.length_take, List.length_drop, PV.cells, List.length_set, List.length_replicate, List.length_cons, List.length_nil, List.length_take]; omega))); rfl) | (with_reducible refine condT_split (fun h => ?_) (fun h => ?_)) | ((with_reducible apply fnQ_told_ret); rfl) | fail
      all_goals (try dsimp only at *)
      all_goals (try simp only [decide_eq_true_eq, decide_eq_false_iff_not, Bool.not_eq_true', Bool.not_eq_false', List.length_append, List.length_take, List.length_drop, PV.cells, List.length_set, List.length_replicate, List.length_cons, List.length_nil, Int.toNat_natCast] at *)
      · omega
      · obtain ⟨h1, h2, h3⟩ := hx
        refine ⟨by omega, ?_, by omega⟩
        rw [dedup_step (by simp only [List.length_take, List.length_drop, PV.cells, List.length_set, List.length_replicate, List.length_cons, List.length_nil]; omega), ← h2, dd_f (by assumption)]
      · omega
      · obtain ⟨h1, h2, h3⟩ := hx
        refine ⟨by omega, ?_, by omega⟩
        rw [dedup_step (by simp only [List.length_take, List.length_drop, PV.cells, List.length_set, List.length_replicate, List.length_cons, List.length_nil]; omega), ← h2, dd_t (by assumption)]
      · obtain rfl : j = 2 := by omega
        obtain ⟨_, rfl, rfl⟩ := hx
        rfl
      · obtain rfl : j = 2 := by omega
        obtain ⟨_, rfl, rfl⟩ := hx
        exact ⟨⟨_, rfl, rfl, rfl, fzP_vals (fun _ => rfl) rfl⟩, trivial⟩
      · (first | exact ⟨by omega, rfl, rfl⟩ | exact ⟨by omega, rfl, trivial⟩)
    · repeat' first | (with_reducible first | refine tr_seq ?_ | refine n_nil ?_ | refine seqQ_normal ?_ | refine seqQ_exit ?_ | refine blkQ_normal ?_ | refine blkQ_exit ?_ | refine tr_block ?_ | refine tr_skip ?_ | refine tr_exit ?_ | refine tr_ret ?_ | refine loopV_exit ?_) | (refine tr_virt 3 1 1 rfl (by omega) rfl ?_) | ((with_reducible refine tr_region_f ?_ ?_); kernel_rfl) | ((with_reducible apply tr_cond_e); rfl) | ((with_reducible refine condT_F ?_ ?_); decide +kernel) | ((with_reducible apply n_call (f := 215)); rfl; rfl; (first | exact a | exact b)) | ((with_reducible apply n_call (f := 168)); rfl; rfl; exact fm) | ((with_reducible apply n_callb (f := 165)); rfl; exact softs_vals rfl (fun _ => rfl) rfl rfl; exact p_slContains _ _ (by have := dedup_len (([x, y, z] : List Int).take j); have := List.length_take_le j ([x, y, z] : List Int); simp only [List.length_take, List.length_drop, PV.cells, List.length_set, List.length_replicate, List.length_cons, List.length_nil] at *; rw [hx.2.1]; omega); rfl) | ((with_reducible apply n_idx_own); rfl; rfl; rfl; (simp only [decide_eq_true_eq, List.length_map, List.length_append, List.length_take, List.length_drop, PV.cells, List.length_set, List.length_replicate, List.length_cons, List.length_nil] at *; omega)) | ((with_reducible apply n_load_vals (f := pint) (xs := [x, y, z]) (0 : Int)); rfl; rfl; rfl; (simp only [decide_eq_true_eq, List.length_map, List.length_append, List.length_take, List.length_drop, PV.cells, List.length_set, List.length_replicate, List.length_cons, List.length_nil, Int.toNat_natCast] at *; omega)) | ((with_reducible apply n_append_valsL (f := pint) (([x, y, z] : List Int).getD j 0)); rfl; rfl; rfl; rfl; rfl; rfl; (have := dedup_len (([x, y, z] : List Int).take j); have := List.length_take_le j ([x, y, z] : List Int); simp only [List.length_take, List.length_drop, PV.cells, List.length_set, List.length_replicate, List.length_cons, List.length_nil] at *; rw [hx.2.1]; omega); rfl) | ((((with_reducible apply n_bin); rfl; rfl; focus ((with_reducible (apply b_add)) <;> ((simp only [List.length_take, List.length_drop, PV.cells, zz, tab_length, List.length_append, List.length_set, List.length_replicate, List.length_cons, List.length_nil] at *; omega)))))) | (refine tr_virt 4 1 2 rfl (by omega) rfl ?_; refine tr_loop_v (α := Nat × Nat × List Int) 3 (fun | (j, g, o) => [(31, some (.int .i64 (j : Int))), (4, some (.ref 2 g 0 o.length)), (32, none), (33, none), (34, none), (6, none), (35, none), (36, none), (37, none), (38, none), (39, none), (40, none), (41, none), (42, none), (43, none)]) (fun | (j, g, o) => [none, some ⟨1, 1, ([x, y, z] : List Int).map pint⟩, some ⟨g, 1, o.map pint⟩]) (fun | (j, g, o) => j ≤ ([x, y, z] : List Int).length ∧ o = dedup (([x, y, z] : List Int).take j) ∧ g = o.length) (fun | (j, g, o) => ([x, y, z] : List Int).length - j) ((0, 0, [])) (ks := [31, 4, 32, 33, 34, 6, 35, 36, 37, 38, 39, 40, 41, 42, 43]) (fun _ => rfl) (fun _ => rfl) rfl (by omega) ?_ ⟨⟨_, rfl, rfl⟩, ⟨_, rfl, rfl⟩, trivial⟩ ⟨⟨_, rfl, rfl, rfl, (by exact fzP_eqp rfl rfl)⟩, ⟨_, rfl, rfl, rfl, (by exact fzP_eqp rfl rfl)⟩, trivial⟩ ?_; rotate_left; rintro ⟨j, g, o⟩ hx; try dsimp only at hx) | ((first | (refine loopV_normal ((j + 1, g, o)) ?_ ⟨⟨_, rfl, rfl⟩, ⟨_, rfl, rfl⟩, trivial⟩ ⟨⟨_, rfl, rfl, rfl, (by exact fzP_eqp rfl rfl)⟩, ⟨_, rfl, rfl, rfl, (by exact fzP_vals (fun _ => rfl) rfl)⟩, trivial⟩ ?_ ?_) | (refine loopV_normal ((j + 1, g + 1, o ++ [([x, y, z] : List Int).getD j 0])) ?_ ⟨⟨_, rfl, rfl⟩, ⟨_, rfl, rfl⟩, trivial⟩ ⟨⟨_, rfl, rfl, rfl, (by exact fzP_eqp rfl rfl)⟩, ⟨_, rfl, rfl, rfl, (by exact fzP_vals (fun _ => rfl) rfl)⟩, trivial⟩ ?_ ?_)); repeat (first | exact only_refl | refine only_put rfl ?_)) | ((with_reducible apply n_val); rfl; rfl) | ((with_reducible apply n_new); rfl; (((simp only [hn0, hn1, hn2, hn3, hn4, hn5, List.length_cons, List.length_nil, Nat.reduceAdd, Nat.zero_add]; rfl))); rfl) | ((with_reducible apply n_append); rfl; rfl; rfl; rfl; rfl; rfl; (((simp only [List.length_append, List.length_take, List.length_drop, PV.cells, List.length_set, List.length_replicate, List.length_cons, List.length_nil, List.length_take]; omega))); rfl) | (with_reducible refine condT_split (fun h => ?_) (fun h => ?_)) | ((with_reducible apply fnQ_told_ret); rfl) | fail
      all_goals (try dsimp only at *)
      all_goals (try simp only [decide_eq_true_eq, decide_eq_false_iff_not, Bool.not_eq_true', Bool.not_eq_false', List.length_append, List.length_take, List.length_drop, PV.cells, List.length_set, List.length_replicate, List.length_cons, List.length_nil, Int.toNat_natCast] at *)
      · omega
      · obtain ⟨h1, h2, h3⟩ := hx
        refine ⟨by omega, ?_, by omega⟩
        rw [dedup_step (by simp only [List.length_take, List.length_drop, PV.cells, List.length_set, List.length_replicate, List.length_cons, List.length_nil]; omega), ← h2, dd_f (by assumption)]
      · omega
      · obtain ⟨h1, h2, h3⟩ := hx
        refine ⟨by omega, ?_, by omega⟩
        rw [dedup_step (by simp only [List.length_take, List.length_drop, PV.cells, List.length_set, List.length_replicate, List.length_cons, List.length_nil]; omega), ← h2, dd_t (by assumption)]
      · obtain rfl : j = 3 := by omega
        obtain ⟨_, rfl, rfl⟩ := hx
        rfl
      · obtain rfl : j = 3 := by omega
        obtain ⟨_, rfl, rfl⟩ := hx
        exact ⟨⟨_, rfl, rfl, rfl, fzP_vals (fun _ => rfl) rfl⟩, trivial⟩
      · (first | exact ⟨by omega, rfl, rfl⟩ | exact ⟨by omega, rfl, trivial⟩)
theorem p_Uses (i : In) : Pure Go.Proofs.Tryz.prog glD 196 [pI i] (.sl (ints (usesI i))) := by
  cases hf : form i with
  | true => exact (f_Uses i hf).pure (soft_vals (f := pint) rfl (fun _ => rfl) rfl)
  | false =>
    have fm := p_Form i
    rw [hf] at fm
    refine Pure.fn hmix b196 ?_
    repeat' first | (with_reducible first | refine tr_seq ?_ | refine n_nil ?_ | refine seqQ_normal ?_ | refine seqQ_ret ?_ | refine tr_ret ?_) | ((with_reducible refine tr_region_f ?_ ?_); kernel_rfl) | ((with_reducible apply tr_cond_e); rfl) | ((with_reducible refine condT_T ?_ ?_); decide +kernel) | ((with_reducible apply n_call (f := 168)); rfl; rfl; exact fm) | ((with_reducible apply n_val); rfl; rfl) | ((with_reducible apply n_new); rfl; (((simp only [hn0, hn1, hn2, hn3, hn4, hn5, List.length_cons, List.length_nil, Nat.reduceAdd, Nat.zero_add]; rfl))); rfl) | ((with_reducible apply fnQ_ret_soft); rfl; rfl) | fail
    rw [usesI, hf]
    rfl
def c198 : RFn := ⟨(.seq (rf (.o 3 (.m 0) (.o 4 (.len false (.t 3)) (.o 2 (.m 4) .nil)))) (rf (.o 5 (.m 0) (.o 6 (.m 2) (.o 7 (.m 2) (.o 8 (.conv .u64 (.t 7)) (.o 9 (.call 217 [(.t 8)]) (.o 10 (.call 216 [(.t 5), (.i 0), (.t 6), (.t 9)]) .nil)))))))), []⟩
theorem b198 : fnOf Go.Proofs.Tryz.prog (owOf []) 198 = some c198 := by kernel_rfl
def c200 : RFn := ⟨(.seq (rf (.o 4 (.move (.c (.bool false))) .nil)) (.seq (rf (.o 5 (.m 0) (.o 6 (.call 218 [(.t 5)]) (.o 7 (.m 6) (.grd 7 true (.o 8 (.m 1) (.o 9 (.call 218 [(.t 8)]) (.o 10 (.un .not (.t 9)) .nil))) (.o 11 (.pick (.t 7) (.t 10) (.c (.bool false))) (.o 12 (.m 11) (.grd 12 false (.o 13 (.m 0) (.o 14 (.m 1) (.o 15 (.bin .lss (.t 13) (.t 14)) .nil))) (.o 16 (.pick (.t 12) (.c (.bool true)) (.t 15)) (.o 4 (.m 16) .nil)))))))))) .ret)), [.tmp 4]⟩
theorem b200 : fnOf Go.Proofs.Tryz.prog (owOf []) 200 = some c200 := by kernel_rfl
def c216 : RFn := ⟨(.seq (rf (.o 8 (.move (.c (.bool true))) .nil)) (.seq (rf (.o 9 (.move (.c (.bool true))) .nil)) (.block 0 (.loop (.block 1 (.seq (rf (.o 19 (.m 2) (.o 20 (.m 1) (.o 21 (.bin .sub (.t 19) (.t 20)) (.o 10 (.m 21) .nil))))) (.seq (.seq (rf (.o 22 (.m 10) (.o 23 (.bin .leq (.t 22) (.i 12)) .nil))) (.cond (.t 23) (.seq (rf (.o 24 (.m 0) (.o 25 (.m 1) (.o 26 (.m 2) (.o 27 (.call 221 [(.t 24), (.t 25), (.t 26)]) .nil))))) .ret) .skip)) (.seq (.seq (rf (.o 28 (.m 3) (.o 29 (.bin .eql (.t 28) (.i 0)) .nil))) (.cond (.t 29) (.seq (rf (.o 30 (.m 0) (.o 31 (.m 1) (.o 32 (.m 2) (.o 33 (.call 222 [(.t 30), (.t 31), (.t 32)]) .nil))))) .ret) .skip)) (.seq (.seq (rf (.o 34 (.m 8) (.o 35 (.un .not (.t 34)) .nil))) (.cond (.t 35) (.seq (rf (.o 36 (.m 0) (.o 37 (.m 1) (.o 38 (.m 2) (.o 39 (.call 223 [(.t 36), (.t 37), (.t 38)]) .nil))))) (rf (.o 40 (.m 3) (.o 41 (.bin .sub (.t 40) (.i 1)) (.o 3 (.m 41) .nil))))) .skip)) (.seq (rf (.o 43 (.m 0) (.o 44 (.m 1) (.o 45 (.m 2) (.o 46 (.call 224 [(.t 43), (.t 44), (.t 45)]) (.o 42 (.m 46) (.o 47 (.extract 0 (.t 42)) (.o 48 (.extract 1 (.t 42)) (.o 11 (.m 47) (.o 12 (.m 48) .nil)))))))))) (.seq (.seq (rf (.o 49 (.m 12) (.o 50 (.bin .eql (.t 49) (.i 2)) .nil))) (.cond (.t 50) (.seq (rf (.o 51 (.m 0) (.o 52 (.m 1) (.o 53 (.m 2) (.o 54 (.call 225 [(.t 51), (.t 52), (.t 53)]) .nil))))) (.seq (rf (.o 55 (.m 2) (.o 56 (.bin .sub (.t 55) (.i 1)) (.o 57 (.m 11) (.o 58 (.m 1) (.o 59 (.bin .sub (.t 57) (.t 58)) (.o 60 (.bin .sub (.t 56) (.t 59)) (.o 11 (.m 60) .nil)))))))) (rf (.o 12 (.move (.i 1)) .nil)))) .skip)) (.seq (.seq (rf (.o 61 (.m 8) (.o 62 (.m 61) (.grd 62 true (.o 63 (.m 9) .nil) (.o 64 (.pick (.t 62) (.t 63) (.c (.bool false))) (.o 65 (.m 64) (.grd 65 true (.o 66 (.m 12) (.o 67 (.bin .eql (.t 66) (.i 1)) .nil)) (.o 68 (.pick (.t 65) (.t 67) (.c (.bool false))) .nil)))))))) (.cond (.t 68) (.seq (rf (.o 69 (.m 0) (.o 70 (.m 1) (.o 71 (.m 2) (.o 72 (.call 226 [(.t 69), (.t 70), (.t 71)]) .nil))))) (.cond (.t 72) .ret .skip)) .skip)) (.seq (.seq (rt (.o 73 (.m 1) (.op (some 74) (.bin .gtr (.t 73) (.i 0)) 1 (.op (some 75) (.m 74) 3 (.grd 75 true (.op (some 76) (.m 0) 7 (.op (some 77) (.m 1) 7 (.op (some 78) (.bin .sub (.t 77) (.i 1)) 23 (.op (some 79) (.idxAddr 1 (.t 76) (.t 78)) 63 (.op (some 80) (.load none (.t 79)) 127 (.op (some 81) (.m 0) 7 (.op (some 82) (.m 11) 7 (.op (some 83) (.idxAddr 1 (.t 81) (.t 82)) 775 (.op (some 84) (.load none (.t 83)) 1799 (.op (some 85) (.call 200 [(.t 80), (.t 84)]) 4095 (.op (some 86) (.un .not (.t 85)) 8191 .nil))))))))))) (.op (some 87) (.pick (.t 75) (.t 86) (.c (.bool false))) 16383 .nil)))))) (.cond (.t 87) (.seq (rf (.o 88 (.m 0) (.o 89 (.m 1) (.o 90 (.m 2) (.o 91 (.m 11) (.o 92 (.call 227 [(.t 88), (.t 89), (.t 90), (.t 91)]) (.o 13 (.m 92) .nil))))))) (.seq (rf (.o 93 (.m 13) (.o 1 (.m 93) .nil))) (.exit 1))) .skip)) (.seq (rf (.o 95 (.m 0) (.o 96 (.m 1) (.o 97 (.m 2) (.o 98 (.m 11) (.o 99 (.call 228 [(.t 95), (.t 96), (.t 97), (.t 98)]) (.o 94 (.m 99) (.o 100 (.extract 0 (.t 94)) (.o 101 (.extract 1 (.t 94)) (.o 14 (.m 100) (.o 15 (.m 101) .nil))))))))))) (.seq (rf (.o 102 (.m 15) (.o 9 (.m 102) .nil))) (.seq (rf (.o 103 (.m 14) (.o 104 (.m 1) (.o 105 (.bin .sub (.t 103) (.t 104)) (.o 106 (.m 2) (.o 107 (.m 14) (.o 108 (.bin .sub (.t 106) (.t 107)) (.o 16 (.m 105) (.o 17 (.m 108) .nil))))))))) (.seq (rf (.o 109 (.m 10) (.o 110 (.bin .quo (.t 109) (.i 8)) (.o 18 (.m 110) .nil)))) (.seq (rf (.o 111 (.m 16) (.o 112 (.m 17) (.o 113 (.bin .lss (.t 111) (.t 112)) .nil)))) (.cond (.t 113) (.seq (rf (.o 114 (.m 16) (.o 115 (.m 18) (.o 116 (.bin .geq (.t 114) (.t 115)) (.o 8 (.m 116) .nil))))) (.seq (rf (.o 117 (.m 0) (.o 118 (.m 1) (.o 119 (.m 14) (.o 120 (.m 3) (.o 121 (.call 216 [(.t 117), (.t 118), (.t 119), (.t 120)]) .nil)))))) (rf (.o 122 (.m 14) (.o 123 (.bin .add (.t 122) (.i 1)) (.o 1 (.m 123) .nil)))))) (.seq (rf (.o 124 (.m 17) (.o 125 (.m 18) (.o 126 (.bin .geq (.t 124) (.t 125)) (.o 8 (.m 126) .nil))))) (.seq (rf (.o 127 (.m 0) (.o 128 (.m 14) (.o 129 (.bin .add (.t 128) (.i 1)) (.o 130 (.m 2) (.o 131 (.m 3) (.o 132 (.call 216 [(.t 127), (.t 129), (.t 130), (.t 131)]) .nil))))))) (rf (.o 133 (.m 14) (.o 2 (.m 133) .nil)))))))))))))))))))))))), []⟩
theorem b216 : fnOf Go.Proofs.Tryz.prog (owOf []) 216 = some c216 := by kernel_rfl
def c217 : RFn := ⟨(.seq (rf (.o 2 (.move (.i 0)) .nil)) (.seq (.cond (.c (.bool false)) (.seq (rf (.o 3 (.m 0) (.o 4 (.conv .u32 (.t 3)) (.o 5 (.call 229 [(.t 4)]) (.o 2 (.m 5) .nil))))) .ret) .skip) (.seq (rf (.o 6 (.m 0) (.o 7 (.call 230 [(.t 6)]) (.o 2 (.m 7) .nil)))) .ret))), [.tmp 2]⟩
theorem b217 : fnOf Go.Proofs.Tryz.prog (owOf []) 217 = some c217 := by kernel_rfl
def c218 : RFn := ⟨(.seq (rf (.o 2 (.move (.c (.bool false))) .nil)) (.seq (rf (.o 3 (.m 0) (.o 4 (.m 0) (.o 5 (.bin .neq (.t 3) (.t 4)) (.o 2 (.m 5) .nil))))) .ret)), [.tmp 2]⟩
theorem b218 : fnOf Go.Proofs.Tryz.prog (owOf []) 218 = some c218 := by kernel_rfl
def c221 : RFn := ⟨(.seq (rf (.o 8 (.m 1) (.o 9 (.bin .add (.t 8) (.i 1)) (.o 6 (.m 9) .nil)))) (.block 0 (.loop (.seq (.seq (rf (.o 10 (.m 6) (.o 11 (.m 2) (.o 12 (.bin .lss (.t 10) (.t 11)) .nil)))) (.cond (.t 12) .skip (.exit 0))) (.seq (.block 1 (.seq (rf (.o 15 (.m 6) (.o 7 (.m 15) .nil))) (.block 2 (.loop (.seq (.seq (rt (.o 16 (.m 7) (.o 17 (.m 1) (.op (some 18) (.bin .gtr (.t 16) (.t 17)) 3 (.op (some 19) (.m 18) 7 (.grd 19 true (.op (some 20) (.m 0) 15 (.op (some 21) (.m 7) 15 (.op (some 22) (.idxAddr 1 (.t 20) (.t 21)) 63 (.op (some 23) (.load none (.t 22)) 127 (.op (some 24) (.m 0) 15 (.op (some 25) (.m 7) 15 (.op (some 26) (.bin .sub (.t 25) (.i 1)) 527 (.op (some 27) (.idxAddr 1 (.t 24) (.t 26)) 1807 (.op (some 28) (.load none (.t 27)) 3855 (.op (some 29) (.call 200 [(.t 23), (.t 28)]) 8191 .nil)))))))))) (.op (some 30) (.pick (.t 19) (.t 29) (.c (.bool false))) 16383 .nil))))))) (.cond (.t 30) .skip (.exit 2))) (.seq (.block 3 (rt (.o 33 (.m 0) (.o 34 (.m 7) (.o 35 (.m 0) (.o 36 (.m 7) (.op (some 37) (.bin .sub (.t 36) (.i 1)) 8 (.o 38 (.m 0) (.o 39 (.m 7) (.op (some 40) (.bin .sub (.t 39) (.i 1)) 64 (.op (some 41) (.idxAddr 1 (.t 38) (.t 40)) 224 (.op (some 42) (.load none (.t 41)) 480 (.o 43 (.m 0) (.o 44 (.m 7) (.op (some 45) (.idxAddr 1 (.t 43) (.t 44)) 3072 (.op (some 46) (.load none (.t 45)) 7168 (.op (some 47) (.idxAddr 1 (.t 33) (.t 34)) 16355 (.op none (.store 1 (.t 47) (.t 42)) 32739 (.op (some 48) (.idxAddr 1 (.t 35) (.t 37)) 65535 (.op none (.store 1 (.t 48) (.t 46)) 131071 .nil)))))))))))))))))))) (rf (.o 31 (.m 7) (.o 32 (.bin .sub (.t 31) (.i 1)) (.o 7 (.m 32) .nil)))))))))) (rf (.o 13 (.m 6) (.o 14 (.bin .add (.t 13) (.i 1)) (.o 6 (.m 14) .nil))))))))), []⟩
theorem b221 : fnOf Go.Proofs.Tryz.prog (owOf []) 221 = some c221 := by kernel_rfl
def c230 : RFn := ⟨(.seq (rf (.o 2 (.move (.i 0)) .nil)) (.seq (.seq (rf (.o 3 (.m 0) (.o 4 (.bin .geq (.t 3) (.c (.int .u64 4294967296))) .nil))) (.cond (.t 4) (.seq (rf (.o 5 (.m 0) (.o 6 (.bin .shr (.t 5) (.c (.int .u64 32))) (.o 0 (.m 6) .nil)))) (rf (.o 2 (.move (.i 32)) .nil))) .skip)) (.seq (.seq (rf (.o 7 (.m 0) (.o 8 (.bin .geq (.t 7) (.c (.int .u64 65536))) .nil))) (.cond (.t 8) (.seq (rf (.o 9 (.m 0) (.o 10 (.bin .shr (.t 9) (.c (.int .u64 16))) (.o 0 (.m 10) .nil)))) (rf (.o 11 (.m 2) (.o 12 (.bin .add (.t 11) (.i 16)) (.o 2 (.m 12) .nil))))) .skip)) (.seq (.seq (rf (.o 13 (.m 0) (.o 14 (.bin .geq (.t 13) (.c (.int .u64 256))) .nil))) (.cond (.t 14) (.seq (rf (.o 15 (.m 0) (.o 16 (.bin .shr (.t 15) (.c (.int .u64 8))) (.o 0 (.m 16) .nil)))) (rf (.o 17 (.m 2) (.o 18 (.bin .add (.t 17) (.i 8)) (.o 2 (.m 18) .nil))))) .skip)) (.seq (rf (.o 19 (.m 2) (.o 20 (.m 0) (.o 21 (.conv .u8 (.t 20)) (.o 22 (.prim .sidx [(.c (.str ⟨#[0, 1, 2, 2, 3, 3, 3, 3, 4, 4, 4, 4, 4, 4, 4, 4, 5, 5, 5, 5, 5, 5, 5, 5, 5, 5, 5, 5, 5, 5, 5, 5, 6, 6, 6, 6, 6, 6, 6, 6, 6, 6, 6, 6, 6, 6, 6, 6, 6, 6, 6, 6, 6, 6, 6, 6, 6, 6, 6, 6, 6, 6, 6, 6, 7, 7, 7, 7, 7, 7, 7, 7, 7, 7, 7, 7, 7, 7, 7, 7, 7, 7, 7, 7, 7, 7, 7, 7, 7, 7, 7, 7, 7, 7, 7, 7, 7, 7, 7, 7, 7, 7, 7, 7, 7, 7, 7, 7, 7, 7, 7, 7, 7, 7, 7, 7, 7, 7, 7, 7, 7, 7, 7, 7, 7, 7, 7, 7, 8, 8, 8, 8, 8, 8, 8, 8, 8, 8, 8, 8, 8, 8, 8, 8, 8, 8, 8, 8, 8, 8, 8, 8, 8, 8, 8, 8, 8, 8, 8, 8, 8, 8, 8, 8, 8, 8, 8, 8, 8, 8, 8, 8, 8, 8, 8, 8, 8, 8, 8, 8, 8, 8, 8, 8, 8, 8, 8, 8, 8, 8, 8, 8, 8, 8, 8, 8, 8, 8, 8, 8, 8, 8, 8, 8, 8, 8, 8, 8, 8, 8, 8, 8, 8, 8, 8, 8, 8, 8, 8, 8, 8, 8, 8, 8, 8, 8, 8, 8, 8, 8, 8, 8, 8, 8, 8, 8, 8, 8, 8, 8, 8, 8, 8, 8, 8, 8, 8, 8, 8, 8, 8, 8, 8, 8, 8, 8]⟩)), (.t 21)]) (.o 23 (.conv .i64 (.t 22)) (.o 24 (.bin .add (.t 19) (.t 23)) (.o 2 (.m 24) .nil)))))))) .ret))))), [.tmp 2]⟩
theorem b230 : fnOf Go.Proofs.Tryz.prog (owOf []) 230 = some c230 := by kernel_rfl
section
variable {gl : Nat → Option PV}
theorem p_isNaN (a : Int) : Pure Go.Proofs.Tryz.prog gl 218 [.int .i64 a] (.bool false) := by
  refine Pure.fn hmix b218 ?_
  repeat' first | (with_reducible first | refine tr_seq ?_ | refine n_nil ?_ | refine seqQ_normal ?_ | refine tr_ret ?_) | ((with_reducible refine tr_region_f ?_ ?_); kernel_rfl) | ((with_reducible apply n_val); rfl; rfl) | ((with_reducible apply fnQ_ret_soft); rfl; rfl) | fail
  simp
theorem p_cmpLess (a b : Int) : Pure Go.Proofs.Tryz.prog gl 200 [.int .i64 a, .int .i64 b] (.bool (decide (a < b))) := by
  refine Pure.fn hmix b200 ?_
  repeat' first | (with_reducible first | refine tr_seq ?_ | refine n_nil ?_ | refine seqQ_normal ?_ | refine tr_ret ?_) | ((with_reducible refine tr_region_f ?_ ?_); kernel_rfl) | exact ⟨rfl, rfl⟩ | ((with_reducible apply n_and); rfl; rfl; intro h) | ((with_reducible apply n_or); rfl; rfl; intro h) | ((with_reducible apply n_val); rfl; rfl) | ((with_reducible apply n_call (f := 218)); rfl; rfl; exact p_isNaN ..) | ((with_reducible apply fnQ_ret_soft); rfl; rfl) | fail
  all_goals rfl
theorem h_insertion (l : List Int) (hl : l.length ≤ 1000) (g : Nat) (i0 : In) : HSpec Go.Proofs.Tryz.prog gl 221 [.ref 3 g 0 l.length, .int .i64 0, .int .i64 (l.length : Int)] (Hp.ofL [some ⟨0, 11, [pI i0]⟩, none, none, some ⟨g, 1, l.map pint⟩]) (fun r G => r = .tup [] ∧ G = Hp.ofL [some ⟨0, 11, [pI i0]⟩, none, none, some ⟨g, 1, (srt (l.length - 1) l).map pint⟩]) := by
  refine HSpec.fnL (Nat.le_refl _) hmix b221 ?_
  change Tr _ _ 4 _ _ _ _
  repeat' first | (with_reducible first | refine tr_seq ?_ | refine n_nil ?_ | refine seqQ_normal ?_ | refine seqQ_exit ?_ | refine blkQ_normal ?_ | refine blkQ_exit ?_ | refine tr_block ?_ | refine tr_skip ?_ | refine tr_exit ?_ | refine loopV_exit ?_) | ((with_reducible refine tr_region_f ?_ ?_); kernel_rfl) | ((with_reducible refine tr_region_t ?_ ?_ ?_); kernel_rfl; kernel_rfl) | exact ⟨rfl, rfl⟩ | ((with_reducible apply tr_cond_e); rfl) | ((with_reducible apply n_and); rfl; rfl; intro h) | ((with_reducible apply n_idx_own); rfl; rfl; rfl; (((simp only [decide_eq_true_eq, decide_eq_false_iff_not, Bool.or_eq_false_iff, Bool.not_eq_true', Bool.not_eq_false', Bool.not_true, Bool.not_false, Bool.and_eq_true, ints_length, List.length_map, tab_length, List.length_set, srt_length, swp_length] at *; omega)))) | ((with_reducible apply n_load_vals (f := pint) (0 : Int)); rfl; rfl; rfl; (((simp only [decide_eq_true_eq, decide_eq_false_iff_not, Bool.or_eq_false_iff, Bool.not_eq_true', Bool.not_eq_false', Bool.not_true, Bool.not_false, Bool.and_eq_true, ints_length, List.length_map, tab_length, List.length_set, srt_length, swp_length] at *; omega)))) | ((with_reducible apply n_store_vals (f := pint)); rfl; rfl; rfl; rfl; exact (fun _ => rfl); (((simp only [decide_eq_true_eq, decide_eq_false_iff_not, Bool.or_eq_false_iff, Bool.not_eq_true', Bool.not_eq_false', Bool.not_true, Bool.not_false, Bool.and_eq_true, ints_length, List.length_map, tab_length, List.length_set, srt_length, swp_length] at *; omega)))) | ((((with_reducible apply n_bin); rfl; rfl; focus ((with_reducible (first | apply b_add | apply b_sub)) <;> omega)))) | (refine tr_loop_v (α := Nat) 4 (fun | i => [(6, some (.int .i64 (i : Int))), (10, none), (11, none), (12, none), (15, none), (7, none), (16, none), (17, none), (18, none), (19, none), (20, none), (21, none), (22, none), (23, none), (24, none), (25, none), (26, none), (27, none), (28, none), (29, none), (30, none), (33, none), (34, none), (35, none), (36, none), (37, none), (38, none), (39, none), (40, none), (41, none), (42, none), (43, none), (44, none), (45, none), (46, none), (47, none), (48, none), (31, none), (32, none), (13, none), (14, none)]) (fun | i => [some ⟨0, 11, [pI i0]⟩, none, none, some ⟨g, 1, (srt (i - 1) l).map pint⟩]) (fun | i => 1 ≤ i ∧ i ≤ max l.length 1) (fun | i => l.length - i) (1) (ks := [6, 10, 11, 12, 15, 7, 16, 17, 18, 19, 20, 21, 22, 23, 24, 25, 26, 27, 28, 29, 30, 33, 34, 35, 36, 37, 38, 39, 40, 41, 42, 43, 44, 45, 46, 47, 48, 31, 32, 13, 14]) (fun _ => rfl) (fun _ => rfl) rfl (by omega) ?_ ⟨⟨_, rfl, rfl⟩, trivial⟩ ⟨⟨_, rfl, rfl, rfl, rfl⟩, ⟨_, rfl, rfl, rfl, (by exact fzP_vals (fun _ => rfl) rfl)⟩, trivial⟩ ?_; rotate_left; rintro i hx; try dsimp only at hx) | (((refine loopV_normal (i + 1) ?_ ⟨⟨_, rfl, rfl⟩, trivial⟩ ⟨⟨_, rfl, rfl, rfl, rfl⟩, ⟨_, rfl, rfl, rfl, (by exact fzP_vals (fun _ => rfl) (srt_fin (by assumption) hx h))⟩, trivial⟩ ?_ ?_)); repeat (first | exact only_refl | refine only_put rfl ?_ | refine only_less rfl ?_)) | (refine tr_loop_v (α := Int × List Int) 4 (fun | (j, ys) => [(7, some (.int .i64 j)), (16, none), (17, none), (18, none), (19, none), (20, none), (21, none), (22, none), (23, none), (24, none), (25, none), (26, none), (27, none), (28, none), (29, none), (30, none), (33, none), (34, none), (35, none), (36, none), (37, none), (38, none), (39, none), (40, none), (41, none), (42, none), (43, none), (44, none), (45, none), (46, none), (47, none), (48, none), (31, none), (32, none)]) (fun | (j, ys) => [some ⟨0, 11, [pI i0]⟩, none, none, some ⟨g, 1, ys.map pint⟩]) (fun | (j, ys) => 0 ≤ j ∧ j ≤ i ∧ ys.length = l.length ∧ inn j.toNat ys = inn i (srt (i - 1) l)) (fun | (j, ys) => j.toNat) (((i : Int), srt (i - 1) l)) (ks := [7, 16, 17, 18, 19, 20, 21, 22, 23, 24, 25, 26, 27, 28, 29, 30, 33, 34, 35, 36, 37, 38, 39, 40, 41, 42, 43, 44, 45, 46, 47, 48, 31, 32]) (fun _ => rfl) (fun _ => rfl) rfl (by omega) ?_ ⟨⟨_, rfl, rfl⟩, trivial⟩ ⟨⟨_, rfl, rfl, rfl, rfl⟩, ⟨_, rfl, rfl, rfl, (by exact fzP_vals (fun _ => rfl) rfl)⟩, trivial⟩ ?_; rotate_left; rintro ⟨j, ys⟩ hx; try dsimp only at hx) | (((refine loopV_normal ((j - 1, (ys.set j.toNat (ys.getD (j - 1).toNat 0)).set (j - 1).toNat (ys.getD j.toNat 0))) ?_ ⟨⟨_, rfl, rfl⟩, trivial⟩ ⟨⟨_, rfl, rfl, rfl, rfl⟩, ⟨_, rfl, rfl, rfl, (by exact fzP_vals (fun _ => rfl) rfl)⟩, trivial⟩ ?_ ?_)); repeat (first | exact only_refl | refine only_put rfl ?_ | refine only_less rfl ?_)) | ((with_reducible apply n_val); rfl; rfl) | ((with_reducible apply n_call (f := 200)); rfl; rfl; exact p_cmpLess ..) | (with_reducible refine condT_split (fun h => ?_) (fun h => ?_)) | fail
  all_goals (try dsimp only at *)
  · simp only [Bool.and_eq_true, decide_eq_true_eq] at h
    omega
  · refine ⟨?_, ?_, ?_, ?_⟩
    · simp only [Bool.and_eq_true, decide_eq_true_eq] at h
      omega
    · omega
    · rw [List.length_set, List.length_set]
      exact hx.2.2.1
    · rw [inn_go h]
      exact hx.2.2.2
  · simp only [decide_eq_true_eq] at *
    omega
  · simp only [decide_eq_true_eq] at *
    omega
  · exact ⟨by omega, by omega, srt_length _ _, rfl⟩
  · have e : srt (i - 1) l = srt (l.length - 1) l := by
      congr 1
      simp only [decide_eq_false_iff_not] at h
      omega
    exact fnQ_normal (r := .tup []) rfl ⟨rfl, ⟨_, rfl, rfl, rfl, rfl⟩, ⟨_, rfl, rfl, rfl, fzP_vals (fun _ => rfl) e⟩, trivial⟩
  · omega
theorem h_pdq (l : List Int) (hl : l.length ≤ 12) (k : Int) (g : Nat) (i0 : In) : HSpec Go.Proofs.Tryz.prog gl 216 [.ref 3 g 0 l.length, .int .i64 0, .int .i64 (l.length : Int), .int .i64 k] (Hp.ofL [some ⟨0, 11, [pI i0]⟩, none, none, some ⟨g, 1, l.map pint⟩]) (fun r G => r = .tup [] ∧ G = Hp.ofL [some ⟨0, 11, [pI i0]⟩, none, none, some ⟨g, 1, (srt (l.length - 1) l).map pint⟩]) := by
  refine HSpec.fnL (Nat.le_refl _) hmix b216 ?_
  change Tr _ _ 4 _ _ _ _
  repeat' first | (with_reducible first | refine tr_seq ?_ | refine n_nil ?_ | refine seqQ_normal ?_ | refine seqQ_ret ?_ | refine blkQ_ret ?_ | refine tr_block ?_ | refine tr_ret ?_) | ((with_reducible refine tr_region_f ?_ ?_); kernel_rfl) | ((with_reducible apply tr_cond_e); rfl) | with_reducible refine unrQ_ret ?_ | refine tr_unroll 2 ?_ | ((with_reducible refine condT_T ?_ ?_); (rw [decide_eq_true_eq]; omega)) | ((((with_reducible apply n_bin); rfl; rfl; focus ((with_reducible (apply b_sub)) <;> omega)))) | ((with_reducible apply n_val); rfl; rfl) | ((with_reducible apply n_spec (f := 221)); rfl; exact h_insertion l (by omega) _ _; exact Nat.le_refl _) | ((with_reducible apply fnQ_told_ret); rfl) | fail
  · rfl
  · exact ⟨⟨_, rfl, rfl, rfl, rfl⟩, ⟨_, rfl, rfl, rfl, fzP_vals (fun _ => rfl) rfl⟩, trivial⟩
theorem p_bitsLen (n : Nat) (h : n ≤ 12) : ∃ k : Int, Pure Go.Proofs.Tryz.prog gl 217 [.int .u64 (n : Int)] (.int .i64 k) := by
  have hT : TabOk Go.Proofs.Tryz.prog [(217, c217), (230, c230)] := ⟨⟨_, b217⟩, by kernel_rfl, ⟨_, b230⟩, by kernel_rfl, trivial⟩
  rcases (by omega : n = 0 ∨ n = 1 ∨ n = 2 ∨ n = 3 ∨ n = 4 ∨ n = 5 ∨ n = 6 ∨ n = 7 ∨ n = 8 ∨ n = 9 ∨ n = 10 ∨ n = 11 ∨ n = 12) with rfl | rfl | rfl | rfl | rfl | rfl | rfl | rfl | rfl | rfl | rfl | rfl | rfl
  · exact ⟨0, clc_sound hmix hT (k := 1) (d := 3) (by kernel_rfl)⟩
  · exact ⟨1, clc_sound hmix hT (k := 1) (d := 3) (by kernel_rfl)⟩
  · exact ⟨2, clc_sound hmix hT (k := 1) (d := 3) (by kernel_rfl)⟩
  · exact ⟨2, clc_sound hmix hT (k := 1) (d := 3) (by kernel_rfl)⟩
  · exact ⟨3, clc_sound hmix hT (k := 1) (d := 3) (by kernel_rfl)⟩
  · exact ⟨3, clc_sound hmix hT (k := 1) (d := 3) (by kernel_rfl)⟩
  · exact ⟨3, clc_sound hmix hT (k := 1) (d := 3) (by kernel_rfl)⟩
  · exact ⟨3, clc_sound hmix hT (k := 1) (d := 3) (by kernel_rfl)⟩
  · exact ⟨4, clc_sound hmix hT (k := 1) (d := 3) (by kernel_rfl)⟩
  · exact ⟨4, clc_sound hmix hT (k := 1) (d := 3) (by kernel_rfl)⟩
  · exact ⟨4, clc_sound hmix hT (k := 1) (d := 3) (by kernel_rfl)⟩
  · exact ⟨4, clc_sound hmix hT (k := 1) (d := 3) (by kernel_rfl)⟩
  · exact ⟨4, clc_sound hmix hT (k := 1) (d := 3) (by kernel_rfl)⟩
theorem h_Sort (l : List Int) (hl : l.length ≤ 12) (g : Nat) (i0 : In) : HSpec Go.Proofs.Tryz.prog gl 198 [.ref 3 g 0 l.length] (Hp.ofL [some ⟨0, 11, [pI i0]⟩, none, none, some ⟨g, 1, l.map pint⟩]) (fun r G => r = .tup [] ∧ G = Hp.ofL [some ⟨0, 11, [pI i0]⟩, none, none, some ⟨g, 1, (srt (l.length - 1) l).map pint⟩]) := by
  obtain ⟨k, hk⟩ := p_bitsLen (gl := gl) l.length hl
  rw [← wrap_u64_of (a := (l.length : Int)) (by omega)] at hk
  refine HSpec.fnL (Nat.le_refl _) hmix b198 ?_
  change Tr _ _ 4 _ _ _ _
  repeat' first | (with_reducible first | refine tr_seq ?_ | refine n_nil ?_ | refine seqQ_normal ?_) | ((with_reducible refine tr_region_f ?_ ?_); kernel_rfl) | ((with_reducible apply n_call (f := 217)); rfl; rfl; exact hk) | ((with_reducible apply n_val); rfl; rfl) | ((with_reducible apply n_spec (f := 216)); rfl; exact h_pdq l (by omega) k _ _; exact Nat.le_refl _) | fail
  exact fnQ_normal (r := .tup []) rfl ⟨rfl, ⟨_, rfl, rfl, rfl, rfl⟩, ⟨_, rfl, rfl, rfl, fzP_vals (fun _ => rfl) rfl⟩, trivial⟩
end
theorem p_sort0 {gl : Nat → Option PV} : Pure Go.Proofs.Tryz.prog gl 198 [.sl []] (.tup []) := by
  have hT : TabOk Go.Proofs.Tryz.prog [(198, c198), (217, c217), (230, c230), (216, c216), (221, c221)] := ⟨⟨_, b198⟩, by kernel_rfl, ⟨_, b217⟩, by kernel_rfl, ⟨_, b230⟩, by kernel_rfl, ⟨_, b216⟩, by kernel_rfl, ⟨_, b221⟩, by kernel_rfl, trivial⟩
  exact clc_sound hmix hT (k := 3) (d := 4) (by kernel_rfl)
theorem usesI_len (i : In) : (usesI i).length ≤ 5 := by
  unfold usesI
  split
  · exact Nat.le_trans (dedup_len _) (rawUses_len i)
  · simp
def c170 : RFn := ⟨(.seq (rf (.o 1 (.box (.t 0)) (.o 2 (.move (.c (.lit []))) .nil))) (.seq (rf (.o 5 (.load (some 11) (.t 1)) (.o 6 (.call 196 [(.t 5)]) (.o 3 (.m 6) .nil)))) (.seq (.seq (rf (.o 7 (.load (some 11) (.t 1)) (.o 8 (.call 197 [(.t 7)]) (.o 4 (.m 8) .nil)))) (.seq (rf (.o 9 (.m 4) (.o 10 (.bin .neq (.t 9) (.c (.int .i64 (-1)))) .nil))) (.cond (.t 10) (rf (.o 11 (.m 3) (.o 12 (.m 4) (.o 13 (.bslice false 1 1 (.int .i64 0) [(0, (.t 12))]) (.o 14 (.append 1 (.int .i64 0) (.t 11) (.t 13)) (.o 3 (.m 14) .nil)))))) .skip))) (.seq (rf (.o 15 (.m 3) (.o 16 (.call 198 [(.t 15)]) .nil))) (.seq (rf (.o 17 (.m 3) (.o 18 (.call 199 [(.t 17)]) (.o 2 (.m 18) .nil)))) .ret))))), [.tmp 2]⟩
theorem b170 : fnOf Go.Proofs.Tryz.prog (owOf [(4, 2)]) 170 = some c170 := by kernel_rfl
def c199 : RFn := ⟨(.seq (rf (.o 2 (.move (.c (.lit []))) .nil)) (.seq (.seq (rf (.o 6 (.m 0) (.o 7 (.len false (.t 6)) (.o 8 (.bin .lss (.t 7) (.i 2)) .nil)))) (.cond (.t 8) (.seq (rf (.o 9 (.m 0) (.o 2 (.m 9) .nil))) .ret) .skip)) (.seq (.seq (rf (.o 3 (.move (.i 1)) .nil)) (.block 0 (.loop (.seq (.seq (rf (.o 10 (.m 3) (.o 11 (.m 0) (.o 12 (.len false (.t 11)) (.o 13 (.bin .lss (.t 10) (.t 12)) .nil))))) (.cond (.t 13) .skip (.exit 0))) (.seq (.block 1 (.seq (rt (.o 16 (.m 0) (.o 17 (.m 3) (.op (some 18) (.idxAddr 1 (.t 16) (.t 17)) 3 (.op (some 19) (.load none (.t 18)) 7 (.o 20 (.m 0) (.o 21 (.m 3) (.op (some 22) (.bin .sub (.t 21) (.i 1)) 32 (.op (some 23) (.idxAddr 1 (.t 20) (.t 22)) 112 (.op (some 24) (.load none (.t 23)) 240 (.op (some 25) (.bin .eql (.t 19) (.t 24)) 511 .nil))))))))))) (.cond (.t 25) (.seq (rf (.o 26 (.m 0) (.o 27 (.m 3) (.o 28 (.prim (.sliceSl 1 true false false) [(.t 26), (.t 27)]) (.o 4 (.m 28) .nil))))) (.seq (.seq (rf (.o 5 (.move (.i 1)) .nil)) (.block 2 (.loop (.seq (.seq (rf (.o 29 (.m 5) (.o 30 (.m 4) (.o 31 (.len false (.t 30)) (.o 32 (.bin .lss (.t 29) (.t 31)) .nil))))) (.cond (.t 32) .skip (.exit 2))) (.seq (.block 3 (.seq (rt (.o 35 (.m 4) (.o 36 (.m 5) (.op (some 37) (.idxAddr 1 (.t 35) (.t 36)) 3 (.op (some 38) (.load none (.t 37)) 7 (.o 39 (.m 4) (.o 40 (.m 5) (.op (some 41) (.bin .sub (.t 40) (.i 1)) 32 (.op (some 42) (.idxAddr 1 (.t 39) (.t 41)) 112 (.op (some 43) (.load none (.t 42)) 240 (.op (some 44) (.bin .neq (.t 38) (.t 43)) 511 .nil))))))))))) (.cond (.t 44) (.seq (rf (.o 45 (.m 0) (.o 46 (.m 3) (.o 47 (.m 4) (.o 48 (.m 5) (.o 49 (.idxAddr 1 (.t 47) (.t 48)) (.o 50 (.load none (.t 49)) (.o 51 (.idxAddr 1 (.t 45) (.t 46)) (.op none (.store 1 (.t 51) (.t 50)) 0 .nil))))))))) (rf (.o 52 (.m 3) (.o 53 (.bin .add (.t 52) (.i 1)) (.o 3 (.m 53) .nil))))) .skip))) (rf (.o 33 (.m 5) (.o 34 (.bin .add (.t 33) (.i 1)) (.o 5 (.m 34) .nil))))))))) (.seq (rf (.o 54 (.m 0) (.o 55 (.m 3) (.o 56 (.prim (.sliceSl 1 true false false) [(.t 54), (.t 55)]) (.op none (.eprim (.clear 1 (.int .i64 0)) [(.t 56)]) 0 .nil))))) (.seq (rf (.o 57 (.m 0) (.o 58 (.m 3) (.o 59 (.prim (.sliceSl 1 false true false) [(.t 57), (.t 58)]) (.o 2 (.m 59) .nil))))) .ret)))) .skip))) (rf (.o 14 (.m 3) (.o 15 (.bin .add (.t 14) (.i 1)) (.o 3 (.m 15) .nil))))))))) (.seq (rf (.o 60 (.m 0) (.o 2 (.m 60) .nil))) .ret)))), [.tmp 2]⟩
theorem b199 : fnOf Go.Proofs.Tryz.prog (owOf []) 199 = some c199 := by kernel_rfl
section
variable {gl : Nat → Option PV}
theorem cp_end {l : List Int} (e : cp l = l) : l = cp l ++ List.replicate (l.length - (cp l).length) 0 := by rw [e]; simp
theorem h_Compact (l : List Int) (hl : l.length ≤ 1000) (g : Nat) (i0 : In) : HSpec Go.Proofs.Tryz.prog gl 199 [.ref 3 g 0 l.length] (Hp.ofL [some ⟨0, 11, [pI i0]⟩, none, none, some ⟨g, 1, l.map pint⟩]) (fun r G => r = .ref 3 g 0 (cp l).length ∧ G = Hp.ofL [some ⟨0, 11, [pI i0]⟩, none, none, some ⟨g, 1, (cp l ++ List.replicate (l.length - (cp l).length) 0).map pint⟩]) := by
  refine HSpec.fnL (Nat.le_refl _) hmix b199 ?_
  change Tr _ _ 4 _ _ _ _
  repeat' first | (with_reducible first | refine tr_seq ?_ | refine n_nil ?_ | refine seqQ_normal ?_ | refine seqQ_exit ?_ | refine seqQ_ret ?_ | refine blkQ_normal ?_ | refine blkQ_exit ?_ | refine blkQ_ret ?_ | refine tr_block ?_ | refine tr_skip ?_ | refine tr_exit ?_ | refine tr_ret ?_ | refine loopV_exit ?_ | refine loopV_ret ?_) | ((with_reducible refine tr_region_f ?_ ?_); kernel_rfl) | ((with_reducible refine tr_region_t ?_ ?_ ?_); kernel_rfl; kernel_rfl) | ((with_reducible apply tr_cond_e); rfl) | ((with_reducible apply n_idx_own); rfl; rfl; rfl; (first | omega | (have c1 := hx.len; have c2 := hx.hj; have c3 := hx.hl; have c4 := hx.hb; have c5 := hx.h0; have c6 := hx.hm; simp only [decide_eq_true_eq, decide_eq_false_iff_not] at *; omega) | (simp only [decide_eq_true_eq, decide_eq_false_iff_not, Bool.or_eq_false_iff, Bool.not_eq_true', Bool.not_eq_false', Bool.not_true, Bool.not_false, Bool.and_eq_true, ints_length, List.length_map, tab_length, List.length_set, srt_length, swp_length] at *; omega))) | ((with_reducible apply n_idx_ref); rfl; rfl; rfl; (((have c1 := hx.len; have c2 := hx.hj; have c3 := hx.hl; have c4 := hx.hb; have c5 := hx.h0; have c6 := hx.hm; simp only [decide_eq_true_eq, decide_eq_false_iff_not] at *; omega)))) | ((with_reducible apply n_load_vals (f := pint) (0 : Int)); rfl; rfl; rfl; (first | omega | (have c1 := hx.len; have c2 := hx.hj; have c3 := hx.hl; have c4 := hx.hb; have c5 := hx.h0; have c6 := hx.hm; simp only [decide_eq_true_eq, decide_eq_false_iff_not] at *; omega) | (simp only [decide_eq_true_eq, decide_eq_false_iff_not, Bool.or_eq_false_iff, Bool.not_eq_true', Bool.not_eq_false', Bool.not_true, Bool.not_false, Bool.and_eq_true, ints_length, List.length_map, tab_length, List.length_set, srt_length, swp_length] at *; omega))) | ((with_reducible apply n_store_vals (f := pint)); rfl; rfl; rfl; rfl; exact (fun _ => rfl); (((have c1 := hx.len; have c2 := hx.hj; have c3 := hx.hl; have c4 := hx.hb; have c5 := hx.h0; have c6 := hx.hm; simp only [decide_eq_true_eq, decide_eq_false_iff_not] at *; omega)))) | ((with_reducible apply n_slice_lo0); rfl; rfl; rfl; (first | (have c1 := hx.len; have c2 := hx.hj; have c3 := hx.hl; have c4 := hx.hb; have c5 := hx.h0; have c6 := hx.hm; simp only [decide_eq_true_eq, decide_eq_false_iff_not] at *; omega) | (simp only [decide_eq_true_eq, decide_eq_false_iff_not, Bool.or_eq_false_iff, Bool.not_eq_true', Bool.not_eq_false', Bool.not_true, Bool.not_false, Bool.and_eq_true, ints_length, List.length_map, tab_length, List.length_set, srt_length, swp_length] at *; omega))) | ((with_reducible apply n_slice_hi); rfl; rfl; rfl; (((have c1 := hx.len; have c2 := hx.hj; have c3 := hx.hl; have c4 := hx.hb; have c5 := hx.h0; have c6 := hx.hm; simp only [decide_eq_true_eq, decide_eq_false_iff_not] at *; omega)))) | ((with_reducible apply n_clear_vals (f := pint) (0 : Int)); rfl; rfl; rfl; rfl; (((have c1 := hx.len; have c2 := hx.hj; have c3 := hx.hl; have c4 := hx.hb; have c5 := hx.h0; have c6 := hx.hm; simp only [decide_eq_true_eq, decide_eq_false_iff_not] at *; omega))); (((have c1 := hx.len; have c2 := hx.hj; have c3 := hx.hl; have c4 := hx.hb; have c5 := hx.h0; have c6 := hx.hm; simp only [decide_eq_true_eq, decide_eq_false_iff_not] at *; omega)))) | ((((with_reducible apply n_bin); rfl; rfl; focus ((with_reducible (first | apply b_add | apply b_sub)) <;> first | omega | (have c1 := hx.len; have c2 := hx.hj; have c3 := hx.hl; have c4 := hx.hb; have c5 := hx.h0; have c6 := hx.hm; simp only [decide_eq_true_eq, decide_eq_false_iff_not] at *; omega))))) | (refine tr_loop_v (α := Nat) 4 (fun | k => [(3, some (.int .i64 (k : Int))), (10, none), (11, none), (12, none), (13, none), (16, none), (17, none), (18, none), (19, none), (20, none), (21, none), (22, none), (23, none), (24, none), (25, none), (26, none), (27, none), (28, none), (4, none), (5, none), (29, none), (30, none), (31, none), (32, none), (35, none), (36, none), (37, none), (38, none), (39, none), (40, none), (41, none), (42, none), (43, none), (44, none), (45, none), (46, none), (47, none), (48, none), (49, none), (50, none), (51, none), (52, none), (53, none), (33, none), (34, none), (54, none), (55, none), (56, none), (57, none), (58, none), (59, none), (2, none), (14, none), (15, none)]) (fun | k => [some ⟨0, 11, [pI i0]⟩, none, none, some ⟨g, 1, l.map pint⟩]) (fun | k => 1 ≤ k ∧ k ≤ l.length ∧ cp (l.take k) = l.take k) (fun | k => l.length - k) (1) (ks := [3, 10, 11, 12, 13, 16, 17, 18, 19, 20, 21, 22, 23, 24, 25, 26, 27, 28, 4, 5, 29, 30, 31, 32, 35, 36, 37, 38, 39, 40, 41, 42, 43, 44, 45, 46, 47, 48, 49, 50, 51, 52, 53, 33, 34, 54, 55, 56, 57, 58, 59, 2, 14, 15]) (fun _ => rfl) (fun _ => rfl) rfl (by omega) ?_ ⟨⟨_, rfl, rfl⟩, trivial⟩ ⟨⟨_, rfl, rfl, rfl, rfl⟩, ⟨_, rfl, rfl, rfl, (by exact fzP_vals (fun _ => rfl) rfl)⟩, trivial⟩ ?_; rotate_left; rintro k hx; try dsimp only at hx) | (((refine loopV_normal (k + 1) ?_ ⟨⟨_, rfl, rfl⟩, trivial⟩ ⟨⟨_, rfl, rfl, rfl, rfl⟩, ⟨_, rfl, rfl, rfl, (by exact fzP_vals (fun _ => rfl) rfl)⟩, trivial⟩ ?_ ?_)); repeat (first | exact only_refl | refine only_put rfl ?_)) | (refine tr_loop_v (α := Nat × Nat × List Int) 4 (fun | (m, j, ys) => [(3, some (.int .i64 (m : Int))), (5, some (.int .i64 (j : Int))), (29, none), (30, none), (31, none), (32, none), (35, none), (36, none), (37, none), (38, none), (39, none), (40, none), (41, none), (42, none), (43, none), (44, none), (45, none), (46, none), (47, none), (48, none), (49, none), (50, none), (51, none), (52, none), (53, none), (33, none), (34, none)]) (fun | (m, j, ys) => [some ⟨0, 11, [pI i0]⟩, none, none, some ⟨g, 1, ys.map pint⟩]) (fun | (m, j, ys) => Cpk l k m j ys) (fun | (m, j, ys) => l.length - (k + j)) ((k, 1, l)) (ks := [3, 5, 29, 30, 31, 32, 35, 36, 37, 38, 39, 40, 41, 42, 43, 44, 45, 46, 47, 48, 49, 50, 51, 52, 53, 33, 34]) (fun _ => rfl) (fun _ => rfl) rfl (by omega) ?_ ⟨⟨_, rfl, rfl⟩, ⟨_, rfl, rfl⟩, trivial⟩ ⟨⟨_, rfl, rfl, rfl, rfl⟩, ⟨_, rfl, rfl, rfl, (by exact fzP_vals (fun _ => rfl) rfl)⟩, trivial⟩ ?_; rotate_left; rintro ⟨m, j, ys⟩ hx; try dsimp only at hx) | ((first | (refine loopV_normal ((m, j + 1, ys)) ?_ ⟨⟨_, rfl, rfl⟩, ⟨_, rfl, rfl⟩, trivial⟩ ⟨⟨_, rfl, rfl, rfl, rfl⟩, ⟨_, rfl, rfl, rfl, (by exact fzP_vals (fun _ => rfl) rfl)⟩, trivial⟩ ?_ ?_) | (refine loopV_normal ((m + 1, j + 1, ys.set m (ys.getD (k + j) 0))) ?_ ⟨⟨_, rfl, rfl⟩, ⟨_, rfl, rfl⟩, trivial⟩ ⟨⟨_, rfl, rfl, rfl, rfl⟩, ⟨_, rfl, rfl, rfl, (by exact fzP_vals (fun _ => rfl) rfl)⟩, trivial⟩ ?_ ?_)); repeat (first | exact only_refl | refine only_put rfl ?_)) | ((with_reducible apply n_val); rfl; rfl) | (with_reducible refine condT_split (fun h => ?_) (fun h => ?_)) | ((with_reducible apply fnQ_told_ret); rfl) | fail
  all_goals (try dsimp only at *)
  · simp only [decide_eq_true_eq] at h
    rw [cp_short (by omega)]
    rfl
  · simp only [decide_eq_true_eq] at h
    exact ⟨⟨_, rfl, rfl, rfl, rfl⟩, ⟨_, rfl, rfl, rfl, fzP_vals (fun _ => rfl) (cp_end (cp_short (by omega)))⟩, trivial⟩
  · have c3 := hx.hl
    simp only [decide_eq_true_eq] at *
    omega
  · refine hx.ne ?_ (by simpa using h)
    have c3 := hx.hl
    simp only [decide_eq_true_eq] at *
    omega
  · have c3 := hx.hl
    simp only [decide_eq_true_eq] at *
    omega
  · refine hx.eq ?_ (by simpa using h)
    have c3 := hx.hl
    simp only [decide_eq_true_eq] at *
    omega
  · have c3 := hx.fin (by simp only [decide_eq_true_eq, decide_eq_false_iff_not] at *; omega)
    rw [← c3.2.1]
    rfl
  · have c3 := hx.fin (by simp only [decide_eq_true_eq, decide_eq_false_iff_not] at *; omega)
    have c4 := hx.len
    refine ⟨⟨_, rfl, rfl, rfl, rfl⟩, ⟨_, rfl, rfl, rfl, fzP_vals (fun _ => rfl) ?_⟩, trivial⟩
    rw [c3.1, List.drop_of_length_le (by simp only [Int.toNat_natCast, Nat.zero_add] at *; omega), List.append_nil, List.length_take, Nat.min_eq_left (by omega)]
    simp
  · have hh := h
    simp only [decide_eq_true_eq, decide_eq_false_iff_not] at *
    exact Cpk.start (by omega) (by omega) (by have := ‹1 ≤ k ∧ _›; exact this.2.2) (by simpa using hh)
  · simp only [decide_eq_true_eq, decide_eq_false_iff_not] at *
    omega
  · have hh := h
    simp only [decide_eq_true_eq, decide_eq_false_iff_not] at *
    exact ⟨by omega, by omega, cp_next hx.1 (by omega) hx.2.2 (by simpa using hh)⟩
  · have e : cp l = l := by
      have := hx.2.2
      rwa [List.take_of_length_le (by simp only [decide_eq_false_iff_not] at h; omega)] at this
    rw [e]
    rfl
  · have e : cp l = l := by
      have := hx.2.2
      rwa [List.take_of_length_le (by simp only [decide_eq_false_iff_not] at h; omega)] at this
    exact ⟨⟨_, rfl, rfl, rfl, rfl⟩, ⟨_, rfl, rfl, rfl, fzP_vals (fun _ => rfl) (cp_end e)⟩, trivial⟩
  · simp only [decide_eq_false_iff_not] at *
    refine ⟨by omega, by omega, cp_short ?_⟩
    rw [List.length_take]
    omega
end
theorem p_compact0 {gl : Nat → Option PV} : Pure Go.Proofs.Tryz.prog gl 199 [.sl []] (.sl []) := by
  have hT : TabOk Go.Proofs.Tryz.prog [(199, c199)] := ⟨⟨_, b199⟩, by kernel_rfl, trivial⟩
  exact clc_sound hmix hT (k := 3) (d := 2) (by kernel_rfl)
theorem p_Vars (i : In) : Pure Go.Proofs.Tryz.prog glD 170 [pI i] (.sl (ints (varsI i))) := by
  have hd := p_Def i
  have hul := usesI_len i
  cases hf : form i with
  | false =>
    have hu := p_Uses i
    have e1 : usesI i = [] := by rw [usesI, hf]; rfl
    have e2 : defI i = -1 := by rw [defI, hf]; rfl
    have e3 : varsI i = [] := by rw [varsI, e1, e2]; rfl
    rw [e1] at hu
    rw [e2] at hd
    rw [e3]
    refine Pure.fn hmix b170 ?_
    repeat' first | (with_reducible first | refine tr_seq ?_ | refine n_nil ?_ | refine seqQ_normal ?_ | refine tr_skip ?_ | refine tr_ret ?_) | ((with_reducible refine tr_region_f ?_ ?_); kernel_rfl) | ((with_reducible apply tr_cond_e); rfl) | ((with_reducible refine condT_F ?_ ?_); decide +kernel) | ((with_reducible apply n_call (f := 196)); rfl; rfl; exact hu) | ((with_reducible apply n_call (f := 197)); rfl; rfl; exact hd) | ((with_reducible apply n_val); rfl; rfl) | ((with_reducible apply n_new); rfl; (((simp only [hn0, hn1, hn2, hn3, hn4, hn5, List.length_cons, List.length_nil, Nat.reduceAdd, Nat.zero_add]; rfl))); rfl) | ((with_reducible apply n_call (f := 198)); rfl; rfl; exact p_sort0) | ((with_reducible apply n_call (f := 199)); rfl; rfl; exact p_compact0) | ((with_reducible apply fnQ_ret_soft); rfl; rfl) | fail
    rfl
  | true =>
    have hu := f_Uses i hf
    rw [varsI]
    generalize usesI i = U at *
    by_cases e : defI i = -1
    · rw [e] at hd
      rw [if_pos e]
      clear hf e
      have hC := h_Compact (gl := glD) (srt (U.length - 1) U) (by rw [srt_length]; omega) U.length i
      rw [srt_length] at hC
      refine Pure.fn hmix b170 ?_
      repeat' first | (with_reducible first | refine tr_seq ?_ | refine n_nil ?_ | refine seqQ_normal ?_ | refine tr_skip ?_ | refine tr_ret ?_) | ((with_reducible refine tr_region_f ?_ ?_); kernel_rfl) | ((with_reducible apply tr_cond_e); rfl) | ((with_reducible refine condT_F ?_ ?_); decide +kernel) | ((with_reducible apply n_call (f := 197)); rfl; rfl; exact hd) | ((with_reducible apply n_val); rfl; rfl) | ((with_reducible apply n_new); rfl; (((simp only [hn0, hn1, hn2, hn3, hn4, hn5, List.length_cons, List.length_nil, Nat.reduceAdd, Nat.zero_add]; rfl))); rfl) | ((with_reducible apply n_freshL ); (((simp only [hn0, hn1, hn2, hn3, hn4, hn5, List.length_cons, List.length_nil, Nat.reduceAdd, Nat.zero_add]; rfl))); rfl; rfl; exact hu; rfl; (repeat (first | exact ShL.nil | apply ShL.none | (apply ShL.some; (exact shiftPs_pure (ints_pure _)))))) | ((with_reducible apply n_specL (f := 198)); rfl; exact h_Sort U (by omega) _ i; rfl; (repeat (first | exact trivial | refine ⟨rfl, ?_⟩)); exact Nat.le_refl _) | ((with_reducible apply n_specL ); rfl; exact hC; rfl; (repeat (first | exact trivial | refine ⟨rfl, ?_⟩)); exact Nat.le_refl _) | fail
      exact fnQ_ret_pre (f := pint) rfl rfl (fun _ => rfl) (len_le_app _ _) (by rw [List.take_left]; rfl)
    · have hne : (defI i != -1) = true := by simpa using e
      rw [if_neg e]
      generalize defI i = v at *
      clear hf e
      have hC := h_Compact (gl := glD) (srt ((U ++ [v]).length - 1) (U ++ [v])) (by rw [srt_length]; simp; omega) (U.length + 1) i
      rw [srt_length] at hC
      refine Pure.fn hmix b170 ?_
      repeat' first | (with_reducible first | refine tr_seq ?_ | refine n_nil ?_ | refine seqQ_normal ?_ | refine tr_ret ?_) | ((with_reducible refine tr_region_f ?_ ?_); kernel_rfl) | ((with_reducible apply tr_cond_e); rfl) | ((with_reducible apply n_call (f := 197)); rfl; rfl; exact hd) | ((with_reducible refine condT_T ?_ ?_); exact hne) | ((with_reducible apply n_append_valsL (f := pint) v); rfl; rfl; rfl; rfl; rfl; rfl; (omega); rfl) | ((with_reducible apply n_val); rfl; rfl) | ((with_reducible apply n_new); rfl; (((simp only [hn0, hn1, hn2, hn3, hn4, hn5, List.length_cons, List.length_nil, Nat.reduceAdd, Nat.zero_add]; rfl))); rfl) | ((with_reducible apply n_freshL ); (((simp only [hn0, hn1, hn2, hn3, hn4, hn5, List.length_cons, List.length_nil, Nat.reduceAdd, Nat.zero_add]; rfl))); rfl; rfl; exact hu; rfl; (repeat (first | exact ShL.nil | apply ShL.none | (apply ShL.some; (exact shiftPs_pure (ints_pure _)))))) | ((with_reducible apply n_specL (f := 198)); rfl; exact h_Sort (U ++ [v]) (by simp; omega) _ i; rfl; (repeat (first | exact trivial | refine ⟨rfl, ?_⟩)); exact Nat.le_refl _) | ((with_reducible apply n_specL ); rfl; exact hC; rfl; (repeat (first | exact trivial | refine ⟨rfl, ?_⟩)); exact Nat.le_refl _) | fail
      exact fnQ_ret_pre (f := pint) rfl rfl (fun _ => rfl) (len_le_app _ _) (by rw [List.take_left]; rfl)
section
variable {gl : Nat → Option PV}
end
section
variable {gl : Nat → Option PV}
end
section
variable {gl : Nat → Option PV}
end
end Go.Vm
